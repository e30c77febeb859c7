import Derived.Test.YtaageiiodlfeiaaM30
set_option maxHeartbeats 4000000
set_option linter.unusedSimpArgs false
set_option linter.unusedVariables false
namespace Go.Proofs.Ytaageiiodlfeiaa
open Go Go.Lite Go.Proofs
theorem zh9 {i j:Nat} (h:i≤j):(2:Int) ^ i ∣ 2 ^ j:=⟨2 ^ (j - i),by rw [← Int.pow_add];congr 1;omega⟩
theorem zml {l:List Int} {z:Int} {k:Nat} (h:k<l.length):(l++[z]).getD k default=l.getD k default:=by
 simp [List.getD_eq_getElem?_getD,List.getElem?_append_left h]
theorem z09 {l:List Int} {z:Int} {k:Nat} (h:k=l.length):(l++[z]).getD k default=z:=by
 subst h;simp [List.getD_eq_getElem?_getD]
def dd (x:Family) (a:Int):Int:=(zbv x).getD a.toNat default
theorem zlh (x : Family) (hp : ∀ (k : Nat), k < x.people.length → (x.people.getD k default).father < k ∧ (x.people.getD k default).mother < k) :
    ∀ k:Nat,k<x.people.length→0≤(zbv x).getD k default∧(0≤(x.people.getD k default).father→(zbv x).getD (x.people.getD k default).father.toNat default+1≤(zbv x).getD k default)∧(0≤(x.people.getD k default).mother→(zbv x).getD (x.people.getD k default).mother.toNat default+1≤(zbv x).getD k default):=by
 unfold zbv
 refine zcc (fun i (v : List Int) => v.length = i ∧ ∀ k : Nat, k < i → 0 ≤ v.getD k default ∧ (0 ≤ (x.people.getD k default).father → v.getD (x.people.getD k default).father.toNat default + 1 ≤ v.getD k default) ∧ (0 ≤ (x.people.getD k default).mother → v.getD (x.people.getD k default).mother.toNat default + 1 ≤ v.getD k default))
   (fun (v:List Int)=>∀ k:Nat,k<x.people.length→0≤v.getD k default∧(0≤(x.people.getD k default).father→v.getD (x.people.getD k default).father.toNat default+1≤v.getD k default)∧(0≤(x.people.getD k default).mother→v.getD (x.people.getD k default).mother.toNat default+1≤v.getD k default)) ⟨rfl,fun k hk=>absurd hk (Nat.not_lt_zero _)⟩ (fun i v next hi hv hn=>?_) (fun v hv=>hv.2)
 have key : ∀ z : Int, 0 ≤ z → (0 ≤ (x.people.getD i default).father → v.getD (x.people.getD i default).father.toNat default + 1 ≤ z) → (0 ≤ (x.people.getD i default).mother → v.getD (x.people.getD i default).mother.toNat default + 1 ≤ z) →
     (v++[z]).length=i+1∧∀ k:Nat,k<i+1→0≤(v++[z]).getD k default∧(0≤(x.people.getD k default).father→(v++[z]).getD (x.people.getD k default).father.toNat default+1≤(v++[z]).getD k default)∧(0≤(x.people.getD k default).mother→(v++[z]).getD (x.people.getD k default).mother.toNat default+1≤(v++[z]).getD k default):=by
  intro z hz h1 h2
  refine ⟨by simp [hv.1],fun k hk=>?_⟩
  have hpk:=hp k om
  have hl:=hv.1
  by_cases c:k=i
  ·subst c
   rw [z09 om]
   refine ⟨hz,fun h=>?_,fun h=>?_⟩
   ·rw [zml om];exact h1 h
   ·rw [zml om];exact h2 h
  ·rw [zml (k:=k) om]
   have h3:=hv.2 k om
   refine ⟨h3.1,fun h=>?_,fun h=>?_⟩
   ·rw [zml om];exact h3.2.1 h
   ·rw [zml om];exact h3.2.2 h
 have h0:∀ q:Int,0≤q→q<i→0≤v.getD q.toNat default:=fun q h1 h2=>(hv.2 q.toNat om).1
 have hpi:=hp i hi
 cases c1:decide (0≤(x.people.getD i default).father)<;>cases c2:decide (0≤(x.people.getD i default).mother)<;>simp only [cond_true,cond_false]<;>simp only [decide_eq_true_eq,decide_eq_false_iff_not] at c1 c2<;>refine hn _ (key _ ?_ ?_ ?_)
 all_goals first
   | omega
   | (have:=h0 _ c1 hpi.1;omega)
   | (have:=h0 _ c2 hpi.2;omega)
theorem zgd {x:Family} (hf:zbh x=true) {a:Int} (ha:0≤a∧a<x.people.length):0≤dd x a∧dd x a≤10 :=
 ⟨(zlh x (zcb x hf) a.toNat om).1,((zcr x).1 hf).2.2.1 a.toNat om⟩
theorem zep {x:Family} (hf:zbh x=true) {a:Int} (ha:0≤a∧a<x.people.length) {q:Int} (hq:0≤q∧(q=(x.people.getD a.toNat default).father∨q=(x.people.getD a.toNat default).mother)):q<a∧dd x q+1≤dd x a:=by
 have h1:=zlh x (zcb x hf) a.toNat om
 have h2:=zcb x hf a.toNat om
 obtain ⟨hq,rfl | rfl⟩:=hq
 ·exact ⟨om,h1.2.1 hq⟩
 ·exact ⟨om,h1.2.2 hq⟩
def sumTo (f : Nat → Int) : Nat → Int
  | 0=>0
  | n+1=>sumTo f n+f n
theorem zjj {f g : Nat → Int} : ∀ n : Nat, (∀ i, i < n → f i = g i) → sumTo f n = sumTo g n
  | 0,_=>rfl
  | n+1,h=>by simp only [sumTo];rw [zjj n fun i hi=>h i om,h n om]
theorem zmh {f : Nat → Int} {b : Int} : ∀ n : Nat, (∀ i, i < n → 0 ≤ f i ∧ f i ≤ b) → 0 ≤ sumTo f n ∧ sumTo f n ≤ n * b
  | 0,_=>by simp [sumTo]
  | n+1,h=>by
    have h1:=zmh n fun i hi=>h i om
    have h2:=h n om
    simp only [sumTo]
    rw [show ((n+1:Nat):Int) * b=n * b+b by rw [Int.natCast_add,Int.add_mul];simp]
    omega
theorem zqy {f : Nat → Int} {b : Int} : ∀ n : Nat, (∀ i, i < n → b ∣ f i) → b ∣ sumTo f n
  | 0,_=>⟨0,by simp [sumTo]⟩
  | n+1,h=>by simp only [sumTo];exact Int.dvd_add (zqy n fun i hi=>h i om) (h n om)
def kf (x : Family) : Nat → Int → Int → Int
  | 0,_,_=>0
  | m+1,a,b =>
    bif decide (Max.max a b=Min.min a b) then 549755813888+(bif decide (0≤(x.people.getD (Max.max a b).toNat default).father)&&decide (0≤(x.people.getD (Max.max a b).toNat default).mother) then kf x m (x.people.getD (Max.max a b).toNat default).father (x.people.getD (Max.max a b).toNat default).mother / 2 else 0)
    else sumTo (fun i=>kf x m ((zbj x (Max.max a b)).getD i default) (Min.min a b) / 2) (zbj x (Max.max a b)).length
theorem z1o (x:Family) (m:Nat) (a b:Int):kf x m a b=kf x m b a:=by
 cases m with
 | zero=>rfl
 | succ m=>simp only [kf,Int.max_comm a b,Int.min_comm a b]
theorem zkb {x : Family} (hf : zbh x = true) : ∀ (m m' : Nat) (a b : Int), (0 ≤ a ∧ a < x.people.length) → (0 ≤ b ∧ b < x.people.length) → a + b < m → a + b < m' → kf x m a b = kf x m' a b
  | 0,_,a,b,ha,hb,h,_=>by omega
  | _+1,0,a,b,ha,hb,_,h=>by omega
  | m+1,m'+1,a,b,ha,hb,h,h'=>by
    simp only [kf]
    have hm:(0:Int)≤Max.max a b∧(Max.max a b:Int)<x.people.length:=by omega
    cases c:decide (Max.max a b=Min.min a b)
    · simp only [cond_false]
      have c:=of_decide_eq_false c
      refine zjj _ fun i hi=>?_
      have h1:=(zck x (Max.max a b)).2 i hi
      have h2:=zep hf hm h1
      rw [zkb hf m m' _ _ om om om om]
    · simp only [cond_true]
      have c:=of_decide_eq_true c
      cases c1:decide (0≤(x.people.getD (Max.max a b).toNat default).father)<;>cases c2:decide (0≤(x.people.getD (Max.max a b).toNat default).mother)<;>simp only [Bool.and_self,Bool.and_false,Bool.false_and,Bool.true_and,cond_true,cond_false]
      have h1:=zep hf hm ⟨of_decide_eq_true c1,.inl rfl⟩
      have h2:=zep hf hm ⟨of_decide_eq_true c2,.inr rfl⟩
      have c1:=of_decide_eq_true c1
      have c2:=of_decide_eq_true c2
      rw [zkb hf m m' _ _ om om om om]
theorem zut {n:Int} {k:Nat} (h:(2:Int) ^ (k+1) ∣ n):(2:Int) ^ k ∣ n / 2:=by
 obtain ⟨c,rfl⟩:=h
 refine ⟨c,?_⟩
 rw [Int.pow_succ,Int.mul_comm (2 ^ k) 2,Int.mul_assoc,Int.mul_ediv_cancel_left _ om]
theorem zkc {x : Family} (hf : zbh x = true) : ∀ (m : Nat) (a b : Int), (0 ≤ a ∧ a < x.people.length) → (0 ≤ b ∧ b < x.people.length) → a + b < m → (0 ≤ kf x m a b ∧ kf x m a b ≤ 1099511627776) ∧ (2 : Int) ^ (39 - dd x a - dd x b).toNat ∣ kf x m a b
  | 0,a,b,ha,hb,h=>by omega
  | m+1,a,b,ha,hb,h=>by
    simp only [kf]
    have hm:(0:Int)≤Max.max a b∧(Max.max a b:Int)<x.people.length:=by omega
    have d1:=zgd hf ha
    have d2:=zgd hf hb
    cases c:decide (Max.max a b=Min.min a b)
    · simp only [cond_false]
      have c:=of_decide_eq_false c
      have hl:=(zck x (Max.max a b)).1
      have hs:dd x a+dd x b=dd x (Max.max a b)+dd x (Min.min a b):=by
        rcases Int.le_total a b with e | e
        · rw [Int.max_eq_right e,Int.min_eq_left e];omega
        · rw [Int.max_eq_left e,Int.min_eq_right e]
      have ih:∀ i,i<(zbj x (Max.max a b)).length→(0≤kf x m ((zbj x (Max.max a b)).getD i default) (Min.min a b) / 2∧kf x m ((zbj x (Max.max a b)).getD i default) (Min.min a b) / 2≤549755813888)∧(2:Int) ^ (39 - dd x a - dd x b).toNat ∣ kf x m ((zbj x (Max.max a b)).getD i default) (Min.min a b) / 2:=by
        intro i hi
        have h1:=(zck x (Max.max a b)).2 i hi
        have h2:=zep hf hm h1
        have h3:=zkc hf m _ (Min.min a b) (show 0≤(zbj x (Max.max a b)).getD i default∧_ from ⟨h1.1,om⟩) om om
        refine ⟨om,zut (Int.dvd_trans (zh9 ?_) h3.2)⟩
        have d3:=zgd hf (show 0≤(zbj x (Max.max a b)).getD i default∧(zbj x (Max.max a b)).getD i default<x.people.length from ⟨h1.1,om⟩)
        omega
      have h1:=zmh _ fun i hi=>(ih i hi).1
      refine ⟨⟨h1.1,?_⟩,zqy _ fun i hi=>(ih i hi).2⟩
      have:((zbj x (Max.max a b)).length:Int)=0∨((zbj x (Max.max a b)).length:Int)=1∨((zbj x (Max.max a b)).length:Int)=2:=by omega
      rcases this with e | e | e<;>rw [e] at h1<;>omega
    · simp only [cond_true]
      have c:=of_decide_eq_true c
      have e1:Max.max a b=a:=by omega
      have e2:b=a:=by omega
      subst e2
      rw [e1]
      have base:(2:Int) ^ (39 - dd x b - dd x b).toNat ∣ 549755813888:=by
        rw [show (549755813888:Int)=2 ^ 39 by rfl];exact zh9 om
      cases c1:decide (0≤(x.people.getD b.toNat default).father)<;>cases c2:decide (0≤(x.people.getD b.toNat default).mother)<;>simp only [Bool.and_self,Bool.and_false,Bool.false_and,Bool.true_and,cond_true,cond_false,Int.add_zero]
      · exact ⟨om,base⟩
      · exact ⟨om,base⟩
      · exact ⟨om,base⟩
      have h1:=zep hf ha ⟨of_decide_eq_true c1,.inl rfl⟩
      have h2:=zep hf ha ⟨of_decide_eq_true c2,.inr rfl⟩
      have c1:=of_decide_eq_true c1
      have c2:=of_decide_eq_true c2
      have h3:=zkc hf m (x.people.getD b.toNat default).father (x.people.getD b.toNat default).mother om om om
      have d3:=zgd hf (show 0≤(x.people.getD b.toNat default).father∧(x.people.getD b.toNat default).father<x.people.length by omega)
      have d4:=zgd hf (show 0≤(x.people.getD b.toNat default).mother∧(x.people.getD b.toNat default).mother<x.people.length by omega)
      exact ⟨om,Int.dvd_add base (zut (Int.dvd_trans (zh9 om) h3.2))⟩
def kn (x:Family) (a b:Int):Int:=kf x 100 a b
theorem zs2 (x:Family) (a b:Int):kn x a b=kn x b a:=z1o x 100 a b
theorem zgb {x:Family} (hf:zbh x=true) {a b:Int} (ha:0≤a∧a<x.people.length) (hb:0≤b∧b<x.people.length):(0≤kn x a b∧kn x a b≤1099511627776)∧kn x a b % 2=0:=by
 have hl:=((zcr x).1 hf).1.1
 have h:=zkc hf 100 a b ha hb om
 have d1:=zgd hf ha
 have d2:=zgd hf hb
 have h2:(2:Int) ^ 1 ∣ kf x 100 a b:=Int.dvd_trans (zh9 om) h.2
 exact ⟨h.1,by unfold kn;omega⟩
theorem znl {x:Family} (hf:zbh x=true) {a:Int} (ha:0≤a∧a<x.people.length):kn x a a=549755813888+(bif decide (0≤(x.people.getD a.toNat default).father)&&decide (0≤(x.people.getD a.toNat default).mother) then kn x (x.people.getD a.toNat default).father (x.people.getD a.toNat default).mother / 2 else 0):=by
 have hl:=((zcr x).1 hf).1.1
 have e:kn x a a=kf x (99+1) a a:=rfl
 rw [e,kf,Int.max_self,Int.min_self,decide_eq_true (rfl:a=a),cond_true]
 cases c1:decide (0≤(x.people.getD a.toNat default).father)<;>cases c2:decide (0≤(x.people.getD a.toNat default).mother)<;>simp only [Bool.and_self,Bool.and_false,Bool.false_and,Bool.true_and,cond_true,cond_false]
 have h1:=zep hf ha ⟨of_decide_eq_true c1,.inl rfl⟩
 have h2:=zep hf ha ⟨of_decide_eq_true c2,.inr rfl⟩
 have c1:=of_decide_eq_true c1
 have c2:=of_decide_eq_true c2
 rw [kn,zkb hf 99 100 _ _ om om om om]
theorem kn_lt {x:Family} (hf:zbh x=true) {a b:Int} (ha:0≤a∧a<x.people.length) (hb:0≤b∧b<a):kn x a b=sumTo (fun i=>kn x ((zbj x a).getD i default) b / 2) (zbj x a).length:=by
 have hl:=((zcr x).1 hf).1.1
 have e:kn x a b=kf x (99+1) a b:=rfl
 rw [e,kf,Int.max_eq_left om,Int.min_eq_right om,decide_eq_false om,cond_false]
 refine zjj _ fun i hi=>?_
 have h1:=(zck x a).2 i hi
 have h2:=zep hf ha h1
 rw [kn,zkb hf 99 100 _ _ om om om om]
def Tab (x:Family) (out:List (List Dyad)) (n:Nat):Prop:=out.length=n∧∀ a:Nat,a<n→(out.getD a default).length=a+1∧∀ b:Nat,b≤a→(out.getD a default).getD b default=dy (kn x a b)
theorem Tab.at {x : Family} {out : List (List Dyad)} {n : Nat} (h : Tab x out n) {q b : Int} (hq : 0 ≤ q ∧ q < n) (hb : 0 ≤ b ∧ b < n) :
    (0≤Max.max q b∧Max.max q b<out.length)∧(0≤Min.min q b∧Min.min q b<(out.getD (Max.max q b).toNat default).length)∧(out.getD (Max.max q b).toNat default).getD (Min.min q b).toNat default=dy (kn x q b):=by
 have h1:=h.1
 have h2:=h.2 (Max.max q b).toNat om
 refine ⟨om,om,?_⟩
 rw [h2.2 (Min.min q b).toNat om]
 congr 1
 rcases Int.le_total q b with e | e
 ·rw [Int.max_eq_right e,Int.min_eq_left e,zs2 x q b];congr 1<;>omega
 ·rw [Int.max_eq_left e,Int.min_eq_right e];congr 1<;>omega
theorem dy_bd {n:Int} (h:0≤n∧n≤2199023255552):(0≤(dy n).num∧(dy n).num≤2199023255552)∧0≤(dy n).exp∧(dy n).exp≤40:=⟨Dy.le (dy_Dy h),(dy_Dy h).2.1⟩
theorem kn_dy {x : Family} (hf : zbh x = true) {q b : Int} (hq : 0 ≤ q ∧ q < x.people.length) (hb : 0 ≤ b ∧ b < x.people.length) {d : Dyad} (h : d = dy (kn x q b)) :
    (0≤d.num∧d.num≤2199023255552)∧(0≤d.exp∧d.exp≤40)∧zcd d.num (d.exp+1)=dy (kn x q b / 2)∧Dy (zcd d.num (d.exp+1)):=by
 have h1:=zgb hf hq hb
 subst h
 have h2:=dy_bd (n:=kn x q b) om
 have h3:=z1u h1.1.1 h1.2
 refine ⟨h2.1,h2.2,h3,?_⟩
 rw [h3];exact dy_Dy om
theorem tabQ {x : Family} (hf : zbh x = true) {v : List (List Dyad)} {i j k : Nat} (hT : Tab x v i) (hi : i < x.people.length) (hj : j < i) (hk : k < (zbj x (i : Int)).length) :
    ((0≤Max.max ((zbj x (i:Int)).getD k default) (j:Int)∧Max.max ((zbj x (i:Int)).getD k default) (j:Int)<v.length)∧(0≤Min.min ((zbj x (i:Int)).getD k default) (j:Int)∧Min.min ((zbj x (i:Int)).getD k default) (j:Int)<(v.getD (Max.max ((zbj x (i:Int)).getD k default) (j:Int)).toNat default).length)) ∧
    (v.getD (Max.max ((zbj x (i:Int)).getD k default) (j:Int)).toNat default).getD (Min.min ((zbj x (i:Int)).getD k default) (j:Int)).toNat default=dy (kn x ((zbj x (i:Int)).getD k default) j)∧(0≤(zbj x (i:Int)).getD k default∧(zbj x (i:Int)).getD k default<x.people.length):=by
 have h1:=(zck x (i:Int)).2 k hk
 have h2:=zep hf (a:=(i:Int)) om h1
 have h3:=hT.at (q:=(zbj x (i:Int)).getD k default) (b:=j) om om
 exact ⟨⟨h3.1,h3.2.1⟩,h3.2.2,om⟩
theorem sumQ {x : Family} (hf : zbh x = true) {i j : Nat} (hi : i < x.people.length) (hj : j < i) {n : Nat} (hn : n ≤ (zbj x (i : Int)).length) :
    0≤sumTo (fun k=>kn x ((zbj x (i:Int)).getD k default) (j:Int) / 2) n∧sumTo (fun k=>kn x ((zbj x (i:Int)).getD k default) (j:Int) / 2) n≤1099511627776:=by
 have h0:=(zck x (i:Int)).1
 have h:=zmh (f:=fun k=>kn x ((zbj x (i:Int)).getD k default) (j:Int) / 2) (b:=549755813888) n fun k hk=>by
  have h1:=(zck x (i:Int)).2 k om
  have h2:=zep hf (a:=(i:Int)) om h1
  have h3:=(zgb hf (a:=(zbj x (i:Int)).getD k default) (b:=j) om om).1
  omega
 have:(n:Int)=0∨(n:Int)=1∨(n:Int)=2:=by omega
 rcases this with e | e | e<;>rw [e] at h<;>omega
theorem zt4 {x : Family} (hf : zbh x = true) {v : List (List Dyad)} {i j k : Nat} (hT : Tab x v i) (hi : i < x.people.length) (hj : j < i) (hk : k < (zbj x (i : Int)).length) {s : Dyad}
    (hs:s=dy (sumTo (fun k=>kn x ((zbj x (i:Int)).getD k default) (j:Int) / 2) k)) {d:Dyad} (hd:d=(v.getD (Max.max ((zbj x (i:Int)).getD k default) (j:Int)).toNat default).getD (Min.min ((zbj x (i:Int)).getD k default) (j:Int)).toNat default) :
    l8Add s (zcd d.num (d.exp+1))=dy (sumTo (fun k=>kn x ((zbj x (i:Int)).getD k default) (j:Int) / 2) (k+1)):=by
 have h1:=tabQ hf hT hi hj hk
 have h2:=kn_dy hf h1.2.2 (show 0≤(j:Int)∧(j:Int)<x.people.length by omega) (hd.trans h1.2.1)
 have h3:=zgb hf h1.2.2 (show 0≤(j:Int)∧(j:Int)<x.people.length by omega)
 rw [h2.2.2.1,hs,zu3 (sumQ hf hi hj om).1 om]
 rfl
theorem zub {x : Family} (hf : zbh x = true) {r : List Dyad} {i j : Nat} (hi : i < x.people.length) (hj : j < i) (hr : r.length = j ∧ ∀ b : Nat, b < j → r.getD b default = dy (kn x (i : Int) b)) {s : Dyad}
    (hs:s=dy (sumTo (fun k=>kn x ((zbj x (i:Int)).getD k default) (j:Int) / 2) (zbj x (i:Int)).length)):(r++[s]).length=j+1∧∀ b:Nat,b<j+1→(r++[s]).getD b default=dy (kn x (i:Int) b):=by
 refine ⟨by simp [hr.1],fun b hb=>?_⟩
 rw [zdy]
 by_cases c:b<r.length
 ·rw [if_pos c];exact hr.2 b om
 ·have e:b=j:=by omega
  subst e
  rw [if_neg c,if_pos om,hs,kn_lt hf (a:=(i:Int)) om om]
theorem zl1 {x:Family} {v:List (List Dyad)} {r:List Dyad} {i:Nat} (hT:Tab x v i) (hr:r.length=i∧∀ b:Nat,b<i→r.getD b default=dy (kn x (i:Int) b)) {s:Dyad} (hs:s=dy (kn x (i:Int) i)):Tab x (v++[r++[s]]) (i+1):=by
 refine ⟨by simp [hT.1],fun a ha=>?_⟩
 rw [zdy]
 by_cases c:a<v.length
 ·rw [if_pos c];exact hT.2 a (by have:=hT.1;omega)
 ·have e:a=i:=by have:=hT.1;omega
  subst e
  rw [if_neg c,if_pos hT.1.symm]
  refine ⟨by simp [hr.1],fun b hb=>?_⟩
  rw [zdy]
  by_cases c2:b<r.length
  ·rw [if_pos c2];exact hr.2 b om
  ·have e:b=a:=by omega
   subst e
   rw [if_neg c2,if_pos hr.1.symm,hs]
theorem zuf {x:Family} (hf:zbh x=true) {i:Nat} (hi:i<x.people.length) (hc:(decide (0≤(x.people.getD i default).father)&&decide (0≤(x.people.getD i default).mother))=false):(⟨1,1⟩:Dyad)=dy (kn x (i:Int) i):=by
 rw [znl hf (a:=(i:Int)) om,Int.toNat_natCast,hc,cond_false,Int.add_zero,zu2]
theorem zgk {x : Family} (hf : zbh x = true) {v : List (List Dyad)} {i : Nat} (hT : Tab x v i) (hi : i < x.people.length) (hc : (decide (0 ≤ (x.people.getD i default).father) && decide (0 ≤ (x.people.getD i default).mother)) = true) {d : Dyad}
    (hd:d=(v.getD (Max.max (x.people.getD i default).father (x.people.getD i default).mother).toNat default).getD (Min.min (x.people.getD i default).father (x.people.getD i default).mother).toNat default) :
    ((0≤Max.max (x.people.getD i default).father (x.people.getD i default).mother∧Max.max (x.people.getD i default).father (x.people.getD i default).mother<v.length)∧(0≤Min.min (x.people.getD i default).father (x.people.getD i default).mother∧Min.min (x.people.getD i default).father (x.people.getD i default).mother<(v.getD (Max.max (x.people.getD i default).father (x.people.getD i default).mother).toNat default).length)) ∧
    ((0≤d.num∧d.num≤2199023255552)∧(0≤d.exp∧d.exp≤40)∧Dy (zcd d.num (d.exp+1)))∧l8Add ⟨1,1⟩ (zcd d.num (d.exp+1))=dy (kn x (i:Int) i):=by
 have hc':=hc
 simp only [Bool.and_eq_true,decide_eq_true_eq] at hc'
 have h1:=zep hf (a:=(i:Int)) om (q:=(x.people.getD i default).father) ⟨hc'.1,.inl (by rw [Int.toNat_natCast])⟩
 have h2:=zep hf (a:=(i:Int)) om (q:=(x.people.getD i default).mother) ⟨hc'.2,.inr (by rw [Int.toNat_natCast])⟩
 have h3:=hT.at (q:=(x.people.getD i default).father) (b:=(x.people.getD i default).mother) om om
 have h4:=kn_dy hf (q:=(x.people.getD i default).father) (b:=(x.people.getD i default).mother) om om (hd.trans h3.2.2)
 have h5:=zgb hf (a:=(x.people.getD i default).father) (b:=(x.people.getD i default).mother) om om
 refine ⟨⟨h3.1,h3.2.1⟩,⟨h4.1,h4.2.1,h4.2.2.2⟩,?_⟩
 rw [h4.2.2.1,← zu2,zu3 om om,znl hf (a:=(i:Int)) om,Int.toNat_natCast,hc,cond_true]
end Go.Proofs.Ytaageiiodlfeiaa
