import Derived.Test.YtaageiiodlfeiaaGreatM30
set_option maxHeartbeats 4000000
set_option linter.unusedSimpArgs false
set_option linter.unusedVariables false
namespace Go.Proofs.YtaageiiodlfeiaaGreat
open Go Go.Lite Go.Proofs
theorem zqp {i j:Nat} (h:i≤j):(2:Int) ^ i ∣ 2 ^ j:=⟨2 ^ (j - i),by rw [← Int.pow_add];congr 1;omega⟩
theorem zm0 {l:List Int} {z:Int} {k:Nat} (h:k<l.length):(l++[z]).getD k default=l.getD k default:=by
 simp [List.getD_eq_getElem?_getD,List.getElem?_append_left h]
theorem z0p {l:List Int} {z:Int} {k:Nat} (h:k=l.length):(l++[z]).getD k default=z:=by
 subst h;simp [List.getD_eq_getElem?_getD]
def dd (x:Family) (a:Int):Int:=(zbi x).getD a.toNat default
theorem zlt (x : Family) (hp : ∀ (k : Nat), k < x.people.length → (x.people.getD k default).father < k ∧ (x.people.getD k default).mother < k) :
    ∀ k:Nat,k<x.people.length→0≤(zbi x).getD k default∧(0≤(x.people.getD k default).father→(zbi x).getD (x.people.getD k default).father.toNat default+1≤(zbi x).getD k default)∧(0≤(x.people.getD k default).mother→(zbi x).getD (x.people.getD k default).mother.toNat default+1≤(zbi x).getD k default):=by
 unfold zbi
 refine zb3 (fun i (v : List Int) => v.length = i ∧ ∀ k : Nat, k < i → 0 ≤ v.getD k default ∧ (0 ≤ (x.people.getD k default).father → v.getD (x.people.getD k default).father.toNat default + 1 ≤ v.getD k default) ∧ (0 ≤ (x.people.getD k default).mother → v.getD (x.people.getD k default).mother.toNat default + 1 ≤ v.getD k default))
   (fun (v:List Int)=>∀ k:Nat,k<x.people.length→0≤v.getD k default∧(0≤(x.people.getD k default).father→v.getD (x.people.getD k default).father.toNat default+1≤v.getD k default)∧(0≤(x.people.getD k default).mother→v.getD (x.people.getD k default).mother.toNat default+1≤v.getD k default)) ⟨rfl,fun k hk=>absurd hk (Nat.not_lt_zero _)⟩ (fun i v next hi hv hn=>?_) (fun v hv=>hv.2)
 have key : ∀ z : Int, 0 ≤ z → (0 ≤ (x.people.getD i default).father → v.getD (x.people.getD i default).father.toNat default + 1 ≤ z) → (0 ≤ (x.people.getD i default).mother → v.getD (x.people.getD i default).mother.toNat default + 1 ≤ z) →
     (v++[z]).length=i+1∧∀ k:Nat,k<i+1→0≤(v++[z]).getD k default∧(0≤(x.people.getD k default).father→(v++[z]).getD (x.people.getD k default).father.toNat default+1≤(v++[z]).getD k default)∧(0≤(x.people.getD k default).mother→(v++[z]).getD (x.people.getD k default).mother.toNat default+1≤(v++[z]).getD k default):=by
  intro z hz h1 h2
  refine ⟨by simp [hv.1],fun k hk=>?_⟩
  have hpk:=hp k om
  have hl:=hv.1
  by_cases c:k=i
  ·subst c
   rw [z0p om]
   refine ⟨hz,fun h=>?_,fun h=>?_⟩
   ·rw [zm0 om];exact h1 h
   ·rw [zm0 om];exact h2 h
  ·rw [zm0 (k:=k) om]
   have h3:=hv.2 k om
   refine ⟨h3.1,fun h=>?_,fun h=>?_⟩
   ·rw [zm0 om];exact h3.2.1 h
   ·rw [zm0 om];exact h3.2.2 h
 have h0:∀ q:Int,0≤q→q<i→0≤v.getD q.toNat default:=fun q h1 h2=>(hv.2 q.toNat om).1
 have hpi:=hp i hi
 cases c1:decide (0≤(x.people.getD i default).father)<;>cases c2:decide (0≤(x.people.getD i default).mother)<;>simp only [cond_true,cond_false]<;>simp only [decide_eq_true_eq,decide_eq_false_iff_not] at c1 c2<;>refine hn _ (key _ ?_ ?_ ?_)
 all_goals first
   | omega
   | (have:=h0 _ c1 hpi.1;omega)
   | (have:=h0 _ c2 hpi.2;omega)
theorem zoj {x:Family} (hf:za4 x=true) {a:Int} (ha:0≤a∧a<x.people.length):0≤dd x a∧dd x a≤10 :=
 ⟨(zlt x (zbn x hf) a.toNat om).1,((zch x).1 hf).2.2.1 a.toNat om⟩
theorem zhd {x:Family} (hf:za4 x=true) {a:Int} (ha:0≤a∧a<x.people.length) {q:Int} (hq:0≤q∧(q=(x.people.getD a.toNat default).father∨q=(x.people.getD a.toNat default).mother)):q<a∧dd x q+1≤dd x a:=by
 have h1:=zlt x (zbn x hf) a.toNat om
 have h2:=zbn x hf a.toNat om
 obtain ⟨hq,rfl | rfl⟩:=hq
 ·exact ⟨om,h1.2.1 hq⟩
 ·exact ⟨om,h1.2.2 hq⟩
def sumTo (f : Nat → Int) : Nat → Int
  | 0=>0
  | n+1=>sumTo f n+f n
theorem zel {f g : Nat → Int} : ∀ n : Nat, (∀ i, i < n → f i = g i) → sumTo f n = sumTo g n
  | 0,_=>rfl
  | n+1,h=>by simp only [sumTo];rw [zel n fun i hi=>h i om,h n om]
theorem zmz {f : Nat → Int} {b : Int} : ∀ n : Nat, (∀ i, i < n → 0 ≤ f i ∧ f i ≤ b) → 0 ≤ sumTo f n ∧ sumTo f n ≤ n * b
  | 0,_=>by simp [sumTo]
  | n+1,h=>by
    have h1:=zmz n fun i hi=>h i om
    have h2:=h n om
    simp only [sumTo]
    rw [show ((n+1:Nat):Int) * b=n * b+b by rw [Int.natCast_add,Int.add_mul];simp]
    omega
theorem zsa {f : Nat → Int} {b : Int} : ∀ n : Nat, (∀ i, i < n → b ∣ f i) → b ∣ sumTo f n
  | 0,_=>⟨0,by simp [sumTo]⟩
  | n+1,h=>by simp only [sumTo];exact Int.dvd_add (zsa n fun i hi=>h i om) (h n om)
def kf (x : Family) : Nat → Int → Int → Int
  | 0,_,_=>0
  | m+1,a,b =>
    bif decide (Max.max a b=Min.min a b) then 549755813888+(bif decide (0≤(x.people.getD (Max.max a b).toNat default).father)&&decide (0≤(x.people.getD (Max.max a b).toNat default).mother) then kf x m (x.people.getD (Max.max a b).toNat default).father (x.people.getD (Max.max a b).toNat default).mother / 2 else 0)
    else sumTo (fun i=>kf x m ((zbe x (Max.max a b)).getD i default) (Min.min a b) / 2) (zbe x (Max.max a b)).length
theorem z04 (x:Family) (m:Nat) (a b:Int):kf x m a b=kf x m b a:=by
 cases m with
 | zero=>rfl
 | succ m=>simp only [kf,Int.max_comm a b,Int.min_comm a b]
theorem zka {x : Family} (hf : za4 x = true) : ∀ (m m' : Nat) (a b : Int), (0 ≤ a ∧ a < x.people.length) → (0 ≤ b ∧ b < x.people.length) → a + b < m → a + b < m' → kf x m a b = kf x m' a b
  | 0,_,a,b,ha,hb,h,_=>by omega
  | _+1,0,a,b,ha,hb,_,h=>by omega
  | m+1,m'+1,a,b,ha,hb,h,h'=>by
    simp only [kf]
    have hm:(0:Int)≤Max.max a b∧(Max.max a b:Int)<x.people.length:=by omega
    cases c:decide (Max.max a b=Min.min a b)
    · simp only [cond_false]
      have c:=of_decide_eq_false c
      refine zel _ fun i hi=>?_
      have h1:=(zdb x (Max.max a b)).2 i hi
      have h2:=zhd hf hm h1
      rw [zka hf m m' _ _ om om om om]
    · simp only [cond_true]
      have c:=of_decide_eq_true c
      cases c1:decide (0≤(x.people.getD (Max.max a b).toNat default).father)<;>cases c2:decide (0≤(x.people.getD (Max.max a b).toNat default).mother)<;>simp only [Bool.and_self,Bool.and_false,Bool.false_and,Bool.true_and,cond_true,cond_false]
      have h1:=zhd hf hm ⟨of_decide_eq_true c1,.inl rfl⟩
      have h2:=zhd hf hm ⟨of_decide_eq_true c2,.inr rfl⟩
      have c1:=of_decide_eq_true c1
      have c2:=of_decide_eq_true c2
      rw [zka hf m m' _ _ om om om om]
theorem zvf {n:Int} {k:Nat} (h:(2:Int) ^ (k+1) ∣ n):(2:Int) ^ k ∣ n / 2:=by
 obtain ⟨c,rfl⟩:=h
 refine ⟨c,?_⟩
 rw [Int.pow_succ,Int.mul_comm (2 ^ k) 2,Int.mul_assoc,Int.mul_ediv_cancel_left _ om]
theorem zrs {x : Family} (hf : za4 x = true) : ∀ (m : Nat) (a b : Int), (0 ≤ a ∧ a < x.people.length) → (0 ≤ b ∧ b < x.people.length) → a + b < m → (0 ≤ kf x m a b ∧ kf x m a b ≤ 1099511627776) ∧ (2 : Int) ^ (39 - dd x a - dd x b).toNat ∣ kf x m a b
  | 0,a,b,ha,hb,h=>by omega
  | m+1,a,b,ha,hb,h=>by
    simp only [kf]
    have hm:(0:Int)≤Max.max a b∧(Max.max a b:Int)<x.people.length:=by omega
    have d1:=zoj hf ha
    have d2:=zoj hf hb
    cases c:decide (Max.max a b=Min.min a b)
    · simp only [cond_false]
      have c:=of_decide_eq_false c
      have hl:=(zdb x (Max.max a b)).1
      have hs:dd x a+dd x b=dd x (Max.max a b)+dd x (Min.min a b):=by
        rcases Int.le_total a b with e | e
        · rw [Int.max_eq_right e,Int.min_eq_left e];omega
        · rw [Int.max_eq_left e,Int.min_eq_right e]
      have ih:∀ i,i<(zbe x (Max.max a b)).length→(0≤kf x m ((zbe x (Max.max a b)).getD i default) (Min.min a b) / 2∧kf x m ((zbe x (Max.max a b)).getD i default) (Min.min a b) / 2≤549755813888)∧(2:Int) ^ (39 - dd x a - dd x b).toNat ∣ kf x m ((zbe x (Max.max a b)).getD i default) (Min.min a b) / 2:=by
        intro i hi
        have h1:=(zdb x (Max.max a b)).2 i hi
        have h2:=zhd hf hm h1
        have h3:=zrs hf m _ (Min.min a b) (show 0≤(zbe x (Max.max a b)).getD i default∧_ from ⟨h1.1,om⟩) om om
        refine ⟨om,zvf (Int.dvd_trans (zqp ?_) h3.2)⟩
        have d3:=zoj hf (show 0≤(zbe x (Max.max a b)).getD i default∧(zbe x (Max.max a b)).getD i default<x.people.length from ⟨h1.1,om⟩)
        omega
      have h1:=zmz _ fun i hi=>(ih i hi).1
      refine ⟨⟨h1.1,?_⟩,zsa _ fun i hi=>(ih i hi).2⟩
      have:((zbe x (Max.max a b)).length:Int)=0∨((zbe x (Max.max a b)).length:Int)=1∨((zbe x (Max.max a b)).length:Int)=2:=by omega
      rcases this with e | e | e<;>rw [e] at h1<;>omega
    · simp only [cond_true]
      have c:=of_decide_eq_true c
      have e1:Max.max a b=a:=by omega
      have e2:b=a:=by omega
      subst e2
      rw [e1]
      have base:(2:Int) ^ (39 - dd x b - dd x b).toNat ∣ 549755813888:=by
        rw [show (549755813888:Int)=2 ^ 39 by rfl];exact zqp om
      cases c1:decide (0≤(x.people.getD b.toNat default).father)<;>cases c2:decide (0≤(x.people.getD b.toNat default).mother)<;>simp only [Bool.and_self,Bool.and_false,Bool.false_and,Bool.true_and,cond_true,cond_false,Int.add_zero]
      · exact ⟨om,base⟩
      · exact ⟨om,base⟩
      · exact ⟨om,base⟩
      have h1:=zhd hf ha ⟨of_decide_eq_true c1,.inl rfl⟩
      have h2:=zhd hf ha ⟨of_decide_eq_true c2,.inr rfl⟩
      have c1:=of_decide_eq_true c1
      have c2:=of_decide_eq_true c2
      have h3:=zrs hf m (x.people.getD b.toNat default).father (x.people.getD b.toNat default).mother om om om
      have d3:=zoj hf (show 0≤(x.people.getD b.toNat default).father∧(x.people.getD b.toNat default).father<x.people.length by omega)
      have d4:=zoj hf (show 0≤(x.people.getD b.toNat default).mother∧(x.people.getD b.toNat default).mother<x.people.length by omega)
      exact ⟨om,Int.dvd_add base (zvf (Int.dvd_trans (zqp om) h3.2))⟩
def kn (x:Family) (a b:Int):Int:=kf x 100 a b
theorem zic (x:Family) (a b:Int):kn x a b=kn x b a:=z04 x 100 a b
theorem zp4 {x:Family} (hf:za4 x=true) {a b:Int} (ha:0≤a∧a<x.people.length) (hb:0≤b∧b<x.people.length):(0≤kn x a b∧kn x a b≤1099511627776)∧kn x a b % 2=0:=by
 have hl:=((zch x).1 hf).1.1
 have h:=zrs hf 100 a b ha hb om
 have d1:=zoj hf ha
 have d2:=zoj hf hb
 have h2:(2:Int) ^ 1 ∣ kf x 100 a b:=Int.dvd_trans (zqp om) h.2
 exact ⟨h.1,by unfold kn;omega⟩
theorem zrr {x:Family} (hf:za4 x=true) {a:Int} (ha:0≤a∧a<x.people.length):kn x a a=549755813888+(bif decide (0≤(x.people.getD a.toNat default).father)&&decide (0≤(x.people.getD a.toNat default).mother) then kn x (x.people.getD a.toNat default).father (x.people.getD a.toNat default).mother / 2 else 0):=by
 have hl:=((zch x).1 hf).1.1
 have e:kn x a a=kf x (99+1) a a:=rfl
 rw [e,kf,Int.max_self,Int.min_self,decide_eq_true (rfl:a=a),cond_true]
 cases c1:decide (0≤(x.people.getD a.toNat default).father)<;>cases c2:decide (0≤(x.people.getD a.toNat default).mother)<;>simp only [Bool.and_self,Bool.and_false,Bool.false_and,Bool.true_and,cond_true,cond_false]
 have h1:=zhd hf ha ⟨of_decide_eq_true c1,.inl rfl⟩
 have h2:=zhd hf ha ⟨of_decide_eq_true c2,.inr rfl⟩
 have c1:=of_decide_eq_true c1
 have c2:=of_decide_eq_true c2
 rw [kn,zka hf 99 100 _ _ om om om om]
theorem kn_lt {x:Family} (hf:za4 x=true) {a b:Int} (ha:0≤a∧a<x.people.length) (hb:0≤b∧b<a):kn x a b=sumTo (fun i=>kn x ((zbe x a).getD i default) b / 2) (zbe x a).length:=by
 have hl:=((zch x).1 hf).1.1
 have e:kn x a b=kf x (99+1) a b:=rfl
 rw [e,kf,Int.max_eq_left om,Int.min_eq_right om,decide_eq_false om,cond_false]
 refine zel _ fun i hi=>?_
 have h1:=(zdb x a).2 i hi
 have h2:=zhd hf ha h1
 rw [kn,zka hf 99 100 _ _ om om om om]
def Tab (x:Family) (out:List (List Dyad)) (n:Nat):Prop:=out.length=n∧∀ a:Nat,a<n→(out.getD a default).length=a+1∧∀ b:Nat,b≤a→(out.getD a default).getD b default=dy (kn x a b)
theorem Tab.at {x : Family} {out : List (List Dyad)} {n : Nat} (h : Tab x out n) {q b : Int} (hq : 0 ≤ q ∧ q < n) (hb : 0 ≤ b ∧ b < n) :
    (0≤Max.max q b∧Max.max q b<out.length)∧(0≤Min.min q b∧Min.min q b<(out.getD (Max.max q b).toNat default).length)∧(out.getD (Max.max q b).toNat default).getD (Min.min q b).toNat default=dy (kn x q b):=by
 have h1:=h.1
 have h2:=h.2 (Max.max q b).toNat om
 refine ⟨om,om,?_⟩
 rw [h2.2 (Min.min q b).toNat om]
 congr 1
 rcases Int.le_total q b with e | e
 ·rw [Int.max_eq_right e,Int.min_eq_left e,zic x q b];congr 1<;>omega
 ·rw [Int.max_eq_left e,Int.min_eq_right e];congr 1<;>omega
theorem sumQ {x : Family} (hf : za4 x = true) {i j : Nat} (hi : i < x.people.length) (hj : j < i) {n : Nat} (hn : n ≤ (zbe x (i : Int)).length) :
    0≤sumTo (fun k=>kn x ((zbe x (i:Int)).getD k default) (j:Int) / 2) n∧sumTo (fun k=>kn x ((zbe x (i:Int)).getD k default) (j:Int) / 2) n≤1099511627776:=by
 have h0:=(zdb x (i:Int)).1
 have h:=zmz (f:=fun k=>kn x ((zbe x (i:Int)).getD k default) (j:Int) / 2) (b:=549755813888) n fun k hk=>by
  have h1:=(zdb x (i:Int)).2 k om
  have h2:=zhd hf (a:=(i:Int)) om h1
  have h3:=(zp4 hf (a:=(zbe x (i:Int)).getD k default) (b:=j) om om).1
  omega
 have:(n:Int)=0∨(n:Int)=1∨(n:Int)=2:=by omega
 rcases this with e | e | e<;>rw [e] at h<;>omega
def SeenOk (x:Family) (s:KV→Option Int):Prop:=∀ (a b v:Int),s (KV.p a b)=some v→v=kn x a b
theorem SeenOk.nil (x:Family):SeenOk x (fun _=>none):=fun a b v h=>by cases h
theorem SeenOk.set {x:Family} {s:KV→Option Int} (h:SeenOk x s) {a b v:Int} (hv:v=kn x a b):SeenOk x (mset s (KV.p a b) v):=by
 intro c d u hu
 unfold mset at hu
 split at hu
 ·rename_i e;cases e;cases hu;exact hv
 ·exact h c d u hu
theorem SeenOk.hit {x:Family} {s:KV→Option Int} (h:SeenOk x s) {a b:Int} (hc:(s (KV.p a b)).isSome=true):(s (KV.p a b)).getD 0=kn x a b:=by
 cases e:s (KV.p a b) with
 | none=>rw [e] at hc;cases hc
 | some v=>exact h a b v e
theorem sumR {x : Family} (hf : za4 x = true) {a b : Int} (ha : 0 ≤ a ∧ a < x.people.length) (hb : 0 ≤ b ∧ b < a) {n : Nat} (hn : n ≤ (zbe x a).length) :
    0≤sumTo (fun k=>kn x ((zbe x a).getD k default) b / 2) n∧sumTo (fun k=>kn x ((zbe x a).getD k default) b / 2) n≤1099511627776:=by
 have e1:((a.toNat:Nat):Int)=a:=by omega
 have e2:((b.toNat:Nat):Int)=b:=by omega
 have h:=sumQ hf (i:=a.toNat) (j:=b.toNat) om om (n:=n) (by rw [e1];exact hn)
 rw [e1,e2] at h;exact h
end Go.Proofs.YtaageiiodlfeiaaGreat
