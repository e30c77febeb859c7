import Derived.Test.YtnibbmmljamolaaGreatM30
set_option maxHeartbeats 4000000
set_option linter.unusedSimpArgs false
set_option linter.unusedVariables false
namespace Go.Proofs.YtnibbmmljamolaaGreat
open Go Go.Lite Go.Proofs
theorem zrn{i j:Nat}(h:i≤j):(2:Int) ^ i ∣ 2 ^ j:=⟨2 ^ (j - i),by rw[←Int.pow_add];congr 1;omega⟩
theorem znu{l:List Int}{z:Int}{k:Nat}(h:k<l.length):(l++[z]).getD k default=l.getD k default:=by simp[oi,o5 h]
theorem z4y{l:List Int}{z:Int}{k:Nat}(h:k=l.length):(l++[z]).getD k default=z:=by subst h;simp[oi]
def dd(x:yc)(a:Int):Int:=(zat x).getD a.toNat default
theorem zms(x : yc)(hp : ∀(k : Nat), k < x.people.length → (x.people.getD k default).father < k ∧ (x.people.getD k default).mother < k) : ∀k : Nat, k < x.people.length → 0 ≤ (zat x).getD k default ∧ (0 ≤ (x.people.getD k default).father → (zat x).getD (x.people.getD k default).father.toNat default + 1 ≤ (zat x).getD k default) ∧ (0 ≤ (x.people.getD k default).mother → (zat x).getD (x.people.getD k default).mother.toNat default + 1 ≤ (zat x).getD k default) := by
 unfold zat;refine za3 (fun i (v : List Int) => v.length = i ∧ ∀k : Nat, k < i → 0 ≤ v.getD k default ∧ (0 ≤ (x.people.getD k default).father → v.getD (x.people.getD k default).father.toNat default + 1 ≤ v.getD k default) ∧ (0 ≤ (x.people.getD k default).mother → v.getD (x.people.getD k default).mother.toNat default + 1 ≤ v.getD k default)) (fun (v : List Int) => ∀k : Nat, k < x.people.length → 0 ≤ v.getD k default ∧ (0 ≤ (x.people.getD k default).father → v.getD (x.people.getD k default).father.toNat default + 1 ≤ v.getD k default) ∧ (0 ≤ (x.people.getD k default).mother → v.getD (x.people.getD k default).mother.toNat default + 1 ≤ v.getD k default)) ⟨rfl, fun k hk => absurd hk (oQ _)⟩ (fun i v next hi hv hn => ?_) (fun v hv => hv.2);have key : ∀z : Int, 0 ≤ z → (0 ≤ (x.people.getD i default).father → v.getD (x.people.getD i default).father.toNat default + 1 ≤ z) → (0 ≤ (x.people.getD i default).mother → v.getD (x.people.getD i default).mother.toNat default + 1 ≤ z) → (v ++ [z]).length = i + 1 ∧ ∀k : Nat, k < i + 1 → 0 ≤ (v ++ [z]).getD k default ∧ (0 ≤ (x.people.getD k default).father → (v ++ [z]).getD (x.people.getD k default).father.toNat default + 1 ≤ (v ++ [z]).getD k default) ∧ (0 ≤ (x.people.getD k default).mother → (v ++ [z]).getD (x.people.getD k default).mother.toNat default + 1 ≤ (v ++ [z]).getD k default) := by
  intro z hz h1 h2;refine⟨by simp[hv.1],fun k hk=>?_⟩;have hpk:=hp k vdh;have hl:=hv.1;by_cases c:k=i
  ·subst c;rw [z4y vdh];refine ⟨hz, fun h => ?_, fun h => ?_⟩
   ·rw [znu vdh]; exact h1 h
   rw[znu vdh];exact h2 h
  rw[znu (k:=k) vdh];have h3:=hv.2 k vdh;refine⟨h3.1,fun h=>?_,fun h=>?_⟩
  ·rw [znu vdh]; exact h3.2.1 h
  rw[znu vdh];exact h3.2.2 h
 have h0:∀q:Int,0≤q→q<i→0≤v.getD q.toNat default:=fun q h1 h2=>(hv.2 q.toNat vdh).1;have hpi:=hp i hi;cases c1:decide (0≤(x.people.getD i default).father)<;>cases c2:decide (0≤(x.people.getD i default).mother)<;>simp only[oE,oD]<;>simp only[ob,oa] at c1 c2<;>refine hn _ (key _ ?_ ?_ ?_);all_goals first|omega|(have:=h0 _ c1 hpi.1;omega)|(have:=h0 _ c2 hpi.2;omega)
theorem zln{x:yc}(hf:zad x=true){a:Int}(ha:0≤a∧a<x.people.length):0≤dd x a∧dd x a≤10:=⟨(zms x (zc1 x hf) a.toNat vdh).1,((zbo x).1 hf).2.2.1 a.toNat vdh⟩
theorem zg4{x : yc}(hf : zad x = true){a : Int}(ha : 0 ≤ a ∧ a < x.people.length){q : Int}(hq : 0 ≤ q ∧ (q = (x.people.getD a.toNat default).father ∨ q = (x.people.getD a.toNat default).mother)) : q < a ∧ dd x q + 1 ≤ dd x a := by
 have h1:=zms x (zc1 x hf) a.toNat vdh;have h2:=zc1 x hf a.toNat vdh;obtain⟨hq,rfl | rfl⟩:=hq
 ·exact ⟨vdh, h1.2.1 hq⟩
 exact⟨vdh,h1.2.2 hq⟩
def sumTo(f : Nat → Int) : Nat → Int
  |0=>0
  |n+1=>sumTo f n+f n
theorem zj3{f g : Nat → Int} : ∀n : Nat, (∀i, i < n → f i = g i) → sumTo f n = sumTo g n
  |0,_=>rfl
  |n+1,h=>by simp only[sumTo];rw[zj3 n fun i hi=>h i vdh,h n vdh]
theorem znt{f : Nat → Int}{b : Int} : ∀n : Nat, (∀i, i < n → 0 ≤ f i ∧ f i ≤ b) → 0 ≤ sumTo f n ∧ sumTo f n ≤ n * b
  |0,_=>by simp[sumTo]
  |n + 1, h => by
    have h1:=znt n fun i hi=>h i vdh
    have h2:=h n vdh
    simp only[sumTo]
    rw[show((n+1:Nat):Int) * b=n * b+b by rw[Int.natCast_add,Int.add_mul];simp]
    omega
theorem zta{f : Nat → Int}{b : Int} : ∀n : Nat, (∀i, i < n → b ∣ f i) → b ∣ sumTo f n
  |0,_=>⟨0,by simp[sumTo]⟩
  |n+1,h=>by simp only[sumTo];exact Int.dvd_add (zta n fun i hi=>h i vdh) (h n vdh)
def kf(x : yc) : Nat → Int → Int → Int
  |0,_,_=>0
  |m + 1, a, b =>
    bif decide (Max.max a b=Min.min a b) then 549755813888+(bif decide (0≤(x.people.getD (Max.max a b).toNat default).father)&&decide (0≤(x.people.getD (Max.max a b).toNat default).mother) then kf x m (x.people.getD (Max.max a b).toNat default).father (x.people.getD (Max.max a b).toNat default).mother / 2 else 0)
    else sumTo (fun i=>kf x m ((zam x (Max.max a b)).getD i default) (Min.min a b) / 2) (zam x (Max.max a b)).length
theorem z5n(x : yc)(m : Nat)(a b : Int) : kf x m a b = kf x m b a := by
 cases m with
 |zero =>rfl
 |succ m =>simp only[kf,Int.max_comm a b,Int.min_comm a b]
theorem zle{x : yc}(hf : zad x = true) : ∀(m m' : Nat) (a b : Int), (0 ≤ a ∧ a < x.people.length) → (0 ≤ b ∧ b < x.people.length) → a + b < m → a + b < m' → kf x m a b = kf x m' a b
  |0,_,a,b,ha,hb,h,_=>by omega
  |_+1,0,a,b,ha,hb,_,h=>by omega
  |m + 1, m' + 1, a, b, ha, hb, h, h' => by
    simp only[kf]
    have hm:(0:Int)≤Max.max a b∧(Max.max a b:Int)<x.people.length:=vdh
    cases c:decide (Max.max a b=Min.min a b)
    · simp only [oD]
      have c:=oB c
      refine zj3 _ fun i hi=>?_
      have h1:=(zcf x (Max.max a b)).2 i hi
      have h2:=zg4 hf hm h1
      rw[zle hf m m' _ _ vdh vdh vdh vdh]
    · simp only [oE]
      have c:=om c
      cases c1:decide (0≤(x.people.getD (Max.max a b).toNat default).father)<;>cases c2:decide (0≤(x.people.getD (Max.max a b).toNat default).mother)<;>simp only[Bool.and_self,Bool.and_false,Bool.false_and,Bool.true_and,oE,oD]
      have h1:=zg4 hf hm ⟨om c1,.inl rfl⟩
      have h2:=zg4 hf hm ⟨om c2,.inr rfl⟩
      have c1:=om c1
      have c2:=om c2
      rw[zle hf m m' _ _ vdh vdh vdh vdh]
theorem zxn{n:Int}{k:Nat}(h:(2:Int) ^ (k+1) ∣ n):(2:Int) ^ k ∣ n / 2:=by obtain⟨c,rfl⟩:=h;refine⟨c,?_⟩;rw[Int.pow_succ,Int.mul_comm (2 ^ k) 2,Int.mul_assoc,Int.mul_ediv_cancel_left _ vdh]
theorem zsn{x : yc}(hf : zad x = true) : ∀(m : Nat) (a b : Int), (0 ≤ a ∧ a < x.people.length) → (0 ≤ b ∧ b < x.people.length) → a + b < m → (0 ≤ kf x m a b ∧ kf x m a b ≤ 1099511627776) ∧ (2 : Int) ^ (39 - dd x a - dd x b).toNat ∣ kf x m a b
  |0,a,b,ha,hb,h=>by omega
  |m + 1, a, b, ha, hb, h => by
    simp only[kf]
    have hm:(0:Int)≤Max.max a b∧(Max.max a b:Int)<x.people.length:=vdh
    have d1:=zln hf ha
    have d2:=zln hf hb
    cases c:decide (Max.max a b=Min.min a b)
    · simp only [oD]
      have c:=oB c
      have hl:=(zcf x (Max.max a b)).1
      have hs : dd x a + dd x b = dd x (Max.max a b) + dd x (Min.min a b) := by
        rcases Int.le_total a b with e | e
        · rw [Int.max_eq_right e,Int.min_eq_left e];omega
        · rw [Int.max_eq_left e,Int.min_eq_right e]
      have ih : ∀i, i < (zam x (Max.max a b)).length → (0 ≤ kf x m ((zam x (Max.max a b)).getD i default) (Min.min a b) / 2 ∧ kf x m ((zam x (Max.max a b)).getD i default) (Min.min a b) / 2 ≤ 549755813888) ∧ (2 : Int) ^ (39 - dd x a - dd x b).toNat ∣ kf x m ((zam x (Max.max a b)).getD i default) (Min.min a b) / 2 := by
        intro i hi
        have h1:=(zcf x (Max.max a b)).2 i hi
        have h2:=zg4 hf hm h1
        have h3:=zsn hf m _ (Min.min a b) (show 0≤(zam x (Max.max a b)).getD i default∧_ from⟨h1.1,vdh⟩) vdh vdh
        refine⟨vdh,zxn (Int.dvd_trans (zrn ?_) h3.2)⟩
        have d3:=zln hf (show 0≤(zam x (Max.max a b)).getD i default∧(zam x (Max.max a b)).getD i default<x.people.length from⟨h1.1,vdh⟩)
        omega
      have h1:=znt _ fun i hi=>(ih i hi).1
      refine⟨⟨h1.1,?_⟩,zta _ fun i hi=>(ih i hi).2⟩
      have:((zam x (Max.max a b)).length:Int)=0∨((zam x (Max.max a b)).length:Int)=1∨((zam x (Max.max a b)).length:Int)=2:=vdh
      rcases this with e | e | e<;>rw[e] at h1<;>omega
    · simp only [oE]
      have c:=om c
      have e1:Max.max a b=a:=vdh
      have e2:b=a:=vdh
      subst e2
      rw[e1]
      have base : (2 : Int) ^ (39 - dd x b - dd x b).toNat ∣ 549755813888 := by
        rw[show(549755813888:Int)=2 ^ 39 by rfl];exact zrn vdh
      cases c1:decide (0≤(x.people.getD b.toNat default).father)<;>cases c2:decide (0≤(x.people.getD b.toNat default).mother)<;>simp only[Bool.and_self,Bool.and_false,Bool.false_and,Bool.true_and,oE,oD,Int.add_zero]
      · exact ⟨vdh,base⟩
      · exact ⟨vdh,base⟩
      · exact ⟨vdh,base⟩
      have h1:=zg4 hf ha ⟨om c1,.inl rfl⟩
      have h2:=zg4 hf ha ⟨om c2,.inr rfl⟩
      have c1:=om c1
      have c2:=om c2
      have h3:=zsn hf m (x.people.getD b.toNat default).father (x.people.getD b.toNat default).mother vdh vdh vdh
      have d3:=zln hf (show 0≤(x.people.getD b.toNat default).father∧(x.people.getD b.toNat default).father<x.people.length by omega)
      have d4:=zln hf (show 0≤(x.people.getD b.toNat default).mother∧(x.people.getD b.toNat default).mother<x.people.length by omega)
      exact⟨vdh,Int.dvd_add base (zxn (Int.dvd_trans (zrn vdh) h3.2))⟩
def kn(x:yc)(a b:Int):Int:=kf x 100 a b
theorem z5m(x:yc)(a b:Int):kn x a b=kn x b a:=z5n x 100 a b
theorem zxh{x:yc}(hf:zad x=true){a b:Int}(ha:0≤a∧a<x.people.length)(hb:0≤b∧b<x.people.length):(0≤kn x a b∧kn x a b≤1099511627776)∧kn x a b % 2=0:=by have hl:=((zbo x).1 hf).1.1;have h:=zsn hf 100 a b ha hb vdh;have d1:=zln hf ha;have d2:=zln hf hb;have h2:(2:Int) ^ 1 ∣ kf x 100 a b:=Int.dvd_trans (zrn vdh) h.2;exact⟨h.1,by unfold kn;omega⟩
theorem z0y{x:yc}(hf:zad x=true){a:Int}(ha:0≤a∧a<x.people.length):kn x a a=549755813888+(bif decide (0≤(x.people.getD a.toNat default).father)&&decide (0≤(x.people.getD a.toNat default).mother) then kn x (x.people.getD a.toNat default).father (x.people.getD a.toNat default).mother / 2 else 0):=by have hl:=((zbo x).1 hf).1.1;have e:kn x a a=kf x (99+1) a a:=rfl;rw[e,kf,Int.max_self,Int.min_self,oM (rfl:a=a),oE];cases c1:decide (0≤(x.people.getD a.toNat default).father)<;>cases c2:decide (0≤(x.people.getD a.toNat default).mother)<;>simp only[Bool.and_self,Bool.and_false,Bool.false_and,Bool.true_and,oE,oD];have h1:=zg4 hf ha ⟨om c1,.inl rfl⟩;have h2:=zg4 hf ha ⟨om c2,.inr rfl⟩;have c1:=om c1;have c2:=om c2;rw[kn,zle hf 99 100 _ _ vdh vdh vdh vdh]
theorem kn_lt{x:yc}(hf:zad x=true){a b:Int}(ha:0≤a∧a<x.people.length)(hb:0≤b∧b<a):kn x a b=sumTo (fun i=>kn x ((zam x a).getD i default) b / 2) (zam x a).length:=by have hl:=((zbo x).1 hf).1.1;have e:kn x a b=kf x (99+1) a b:=rfl;rw[e,kf,Int.max_eq_left vdh,Int.min_eq_right vdh,oJ vdh,oD];refine zj3 _ fun i hi=>?_;have h1:=(zcf x a).2 i hi;have h2:=zg4 hf ha h1;rw[kn,zle hf 99 100 _ _ vdh vdh vdh vdh]
theorem sumQ{x:yc}(hf:zad x=true){i j:Nat}(hi:i<x.people.length)(hj:j<i){n:Nat}(hn:n≤(zam x (i:Int)).length):0≤sumTo (fun k=>kn x ((zam x (i:Int)).getD k default) (j:Int) / 2) n∧sumTo (fun k=>kn x ((zam x (i:Int)).getD k default) (j:Int) / 2) n≤1099511627776:=by have h0:=(zcf x (i:Int)).1;have h:=znt (f:=fun k=>kn x ((zam x (i:Int)).getD k default) (j:Int) / 2) (b:=549755813888) n fun k hk=>(by have h1:=(zcf x (i:Int)).2 k vdh;have h2:=zg4 hf (a:=(i:Int)) vdh h1;have h3:=(zxh hf (a:=(zam x (i:Int)).getD k default) (b:=j) vdh vdh).1;omega);have:(n:Int)=0∨(n:Int)=1∨(n:Int)=2:=vdh;rcases this with e | e | e<;>rw[e] at h<;>omega
def SeenOk(x:yc)(s:KV→Option Int):Prop:=∀(a b v:Int),s (KV.p a b)=some v→v=kn x a b
theorem SeenOk.nil(x:yc):SeenOk x (fun _=>none):=fun a b v h=>by cases h
theorem SeenOk.set{x : yc}{s : KV → Option Int}(h : SeenOk x s){a b v : Int}(hv : v = kn x a b) : SeenOk x (mset s (KV.p a b) v) := by
 intro c d u hu;unfold mset at hu;split at hu
 ·rename_i e; cases e; cases hu; exact hv
 exact h c d u hu
theorem SeenOk.hit{x : yc}{s : KV → Option Int}(h : SeenOk x s){a b : Int}(hc : (s (KV.p a b)).isSome = true) : (s (KV.p a b)).getD 0 = kn x a b := by
 cases e:s (KV.p a b) with
 |none =>rw[e] at hc;cases hc
 |some v =>exact h a b v e
theorem sumR{x:yc}(hf:zad x=true){a b:Int}(ha:0≤a∧a<x.people.length)(hb:0≤b∧b<a){n:Nat}(hn:n≤(zam x a).length):0≤sumTo (fun k=>kn x ((zam x a).getD k default) b / 2) n∧sumTo (fun k=>kn x ((zam x a).getD k default) b / 2) n≤1099511627776:=by have e1:((a.toNat:Nat):Int)=a:=vdh;have e2:((b.toNat:Nat):Int)=b:=vdh;have h:=sumQ hf (i:=a.toNat) (j:=b.toNat) vdh vdh (n:=n) (by rw[e1];exact hn);rw[e1,e2] at h;exact h
structure kin where
  f:yc
  seen:KV→Option Int
  deriving Inhabited

def C31(x0:kin)(x1:Int)(x2:Int)(R:Int×(KV→Option Int)):LV×List (Nat×BC):=(.int .i64 R.1,[(900001,.mp .pair (.i R.2)),(900000,.var [.ro false 6 x0.f.people.length (rowOf (zah false) x0.f.people),.ro false 4 x0.f.unions.length (rowOf (zas false) x0.f.unions),.mp 900001])])
def za2 : Nat → kin → Int → Int → Int × (KV → Option Int)
  |0,_,_,_=>default
  |m+1,x0,x1,x2=>bif(decide (x1<x2)) then(bif((x0.seen (KV.p x2 x1)).isSome) then((x0.seen (KV.p x2 x1)).getD 0,x0.seen) else(bif(decide (x2=x1)) then(bif((decide (0≤((x0.f.people.getD x2.toNat default).father)))&&(decide (0≤((x0.f.people.getD x2.toNat default).mother)))) then(549755813888+(((za2 m x0 ((x0.f.people.getD x2.toNat default).father) ((x0.f.people.getD x2.toNat default).mother)).1).tdiv 2),mset ((za2 m x0 ((x0.f.people.getD x2.toNat default).father) ((x0.f.people.getD x2.toNat default).mother)).2) (KV.p x2 x1) (549755813888+(((za2 m x0 ((x0.f.people.getD x2.toNat default).father) ((x0.f.people.getD x2.toNat default).mother)).1).tdiv 2))) else(549755813888,mset x0.seen (KV.p x2 x1) 549755813888)) else(loopN (fun i1 (v1:Int×(KV→Option Int)) next=>next (v1.1+(((za2 m (kin.mk x0.f v1.2) ((zav x0.f x2).getD i1 default) x1).1).tdiv 2),(za2 m (kin.mk x0.f v1.2) ((zav x0.f x2).getD i1 default) x1).2)) (fun (v1:Int×(KV→Option Int))=>(v1.1,mset v1.2 (KV.p x2 x1) v1.1)) ((zav x0.f x2).length) 0 (0,x0.seen)))) else(bif((x0.seen (KV.p x1 x2)).isSome) then((x0.seen (KV.p x1 x2)).getD 0,x0.seen) else(bif(decide (x1=x2)) then(bif((decide (0≤((x0.f.people.getD x1.toNat default).father)))&&(decide (0≤((x0.f.people.getD x1.toNat default).mother)))) then(549755813888+(((za2 m x0 ((x0.f.people.getD x1.toNat default).father) ((x0.f.people.getD x1.toNat default).mother)).1).tdiv 2),mset ((za2 m x0 ((x0.f.people.getD x1.toNat default).father) ((x0.f.people.getD x1.toNat default).mother)).2) (KV.p x1 x2) (549755813888+(((za2 m x0 ((x0.f.people.getD x1.toNat default).father) ((x0.f.people.getD x1.toNat default).mother)).1).tdiv 2))) else(549755813888,mset x0.seen (KV.p x1 x2) 549755813888)) else(loopN (fun i2 (v2:Int×(KV→Option Int)) next=>next (v2.1+(((za2 m (kin.mk x0.f v2.2) ((zav x0.f x1).getD i2 default) x2).1).tdiv 2),(za2 m (kin.mk x0.f v2.2) ((zav x0.f x1).getD i2 default) x2).2)) (fun (v2:Int×(KV→Option Int))=>(v2.1,mset v2.2 (KV.p x1 x2) v2.1)) ((zav x0.f x1).length) 0 (0,x0.seen))))
def zia(x0:kin)(x1:Int)(x2:Int):Int×(KV→Option Int):=za2 100 x0 x1 x2
def kr31(m d:Nat)(ids:List Nat)(x0:kin)(x1:Int)(x2:Int):Cl:=(hresM d ids (C31 x0 x1 x2 (za2 m x0 x1 x2)),pf (FnMT Tryz.prog 31 [.vp 900000 0,.int .i64 x1,.int .i64 x2] [.var [.ro false 6 x0.f.people.length (rowOf (zah false) x0.f.people),.ro false 4 x0.f.unions.length (rowOf (zas false) x0.f.unions),.mp 900001],.mp .pair (.i x0.seen)] (C31 x0 x1 x2 (za2 m x0 x1 x2))))
def D31b1(x0:kin)(i1:Nat)(v1:Int×(KV→Option Int)):Dl:=⟨[(66,.int .i64 ((i1:Nat):Int)),(10,.int .i64 v1.1)],[(900001,.mp .pair (.i v1.2)),(900000,.var [.ro false 6 x0.f.people.length (rowOf (zah false) x0.f.people),.ro false 4 x0.f.unions.length (rowOf (zas false) x0.f.unions),.mp 900001])]⟩
def A31b1(m:Nat)(x0:kin)(x1:Int)(x2:Int)(i1:Nat)(v1:Int×(KV→Option Int)):Ann:=let q2:=((i1:Nat):Int);let q3:=(((zav x0.f x2).length:Nat):Int);let q1:=za2 m (kin.mk x0.f v1.2) ((zav x0.f x2).getD i1 default) x1;let q4:=(q1.1).tdiv 2;r0 1 [0,1,2,6,10,64,65,66,67] [1064,900000,900001] (cn (decide (q2<q3)) (r1 1 [0,1,2,6,10,12,64,65,66] [1064,900000,900001] [pf (0≤(q2:Int)∧(q2:Int)<q3)] [0] (.reg 1 [] [(4,kr31 m 74 [900000,900001] (kin.mk x0.f v1.2) ((zav x0.f x2).getD i1 default) x1)] [0,1,2,6,10,64,65,66] [1064,900000,900001] [] [pf ((2:Int)≠0),pf (inR .i64 q4),pf (inR .i64 (v1.1+q4))] [] [12,0,4,8] (r1 1 [0,1,2,6,10,64,65,66] [1064,900000,900001] [pf (inR .i64 (q2+1))] [0] (.next 0 [(900001,some 900001)] (D31b1 x0 (i1+1) (v1.1+q4,q1.2)))))) (r0 2 [6] [900000,900001] (rt [(900001,some 900001),(900000,some 900000)] (C31 x0 x1 x2 (v1.1,mset v1.2 (KV.p x2 x1) v1.1)))))
def D31b2(x0:kin)(i2:Nat)(v2:Int×(KV→Option Int)):Dl:=⟨[(66,.int .i64 ((i2:Nat):Int)),(10,.int .i64 v2.1)],[(900001,.mp .pair (.i v2.2)),(900000,.var [.ro false 6 x0.f.people.length (rowOf (zah false) x0.f.people),.ro false 4 x0.f.unions.length (rowOf (zas false) x0.f.unions),.mp 900001])]⟩
def A31b2(m:Nat)(x0:kin)(x1:Int)(x2:Int)(i2:Nat)(v2:Int×(KV→Option Int)):Ann:=let q2:=((i2:Nat):Int);let q3:=(((zav x0.f x1).length:Nat):Int);let q1:=za2 m (kin.mk x0.f v2.2) ((zav x0.f x1).getD i2 default) x2;let q4:=(q1.1).tdiv 2;r0 1 [0,1,2,6,10,64,65,66,67] [1064,900000,900001] (cn (decide (q2<q3)) (r1 1 [0,1,2,6,10,12,64,65,66] [1064,900000,900001] [pf (0≤(q2:Int)∧(q2:Int)<q3)] [0] (.reg 1 [] [(4,kr31 m 74 [900000,900001] (kin.mk x0.f v2.2) ((zav x0.f x1).getD i2 default) x2)] [0,1,2,6,10,64,65,66] [1064,900000,900001] [] [pf ((2:Int)≠0),pf (inR .i64 q4),pf (inR .i64 (v2.1+q4))] [] [12,0,4,8] (r1 1 [0,1,2,6,10,64,65,66] [1064,900000,900001] [pf (inR .i64 (q2+1))] [0] (.next 0 [(900001,some 900001)] (D31b2 x0 (i2+1) (v2.1+q4,q1.2)))))) (r0 2 [6] [900000,900001] (rt [(900001,some 900001),(900000,some 900000)] (C31 x0 x1 x2 (v2.1,mset v2.2 (KV.p x1 x2) v2.1)))))
def A31(m:Nat)(x0:kin)(x1:Int)(x2:Int):Ann:=let q6:=KV.p x2 x1;let q7:=KV.p x1 x2;let q5:=((x0.f.people.length:Nat):Int);let q1:=x0.f.people.getD x2.toNat default;let q2:=x0.f.people.getD x1.toNat default;let q8:=q1.father;let q9:=q2.father;let q3:=((za2 m x0 q8 (q1.mother)).1).tdiv 2;let q4:=((za2 m x0 q9 (q2.mother)).1).tdiv 2;r0 1 [0,1,2,6] [900000,900001] (r0 1 [0,1,2,6,15] [900000,900001] (cn (decide (x1<x2)) (r0 1 [0,1,2,6] [900000,900001] (r0 2 [0,1,2,6,7,29] [900000,900001] (cn ((x0.seen q6).isSome) (r0 1 [0,1,2,6] [900000,900001] (rt [(900001,some 900001),(900000,some 900000)] (C31 x0 x1 x2 ((x0.seen q6).getD 0,x0.seen)))) (r1 2 [0,1,2,6,9,10] [9,900000,900001] [pf (0≤(x2:Int)∧(x2:Int)<q5)] [0] (r0 1 [0,1,2,6,9,10,41] [9,900000,900001] (cn (decide (x2=x1)) (.reg 2 [] [] [0,1,2,6,9,10,49] [9,900000,900001] [decide (0≤q8)] [] [] [1,1,1] (cn ((decide (0≤q8))&&(decide (0≤(q1.mother)))) (.reg 1 [] [(6,kr31 m 56 [900000,900001] x0 q8 (q1.mother))] [0,1,2,6,10] [900000,900001] [] [pf ((2:Int)≠0),pf (inR .i64 q3),pf (inR .i64 (549755813888+q3))] [] [12,0,4,8] (r0 2 [6] [900000,900001] (rt [(900001,some 900001),(900000,some 900000)] (C31 x0 x1 x2 (549755813888+q3,mset ((za2 m x0 q8 (q1.mother)).2) q6 (549755813888+q3)))))) (r0 2 [6] [900000,900001] (rt [(900001,some 900001),(900000,some 900000)] (C31 x0 x1 x2 (549755813888,mset x0.seen q6 549755813888)))))) (.reg 1 [] [(5,k60 x0.f x2)] [0,1,2,6,10,64,65,66] [1064,900000,900001] [] [] [] [0] (lp (D31b1 x0) [] [] [(900001,some 900001)] (D31b1 x0 0 (0,x0.seen)) (A31b1 m x0 x1 x2))))))))) (r0 2 [0,1,2,6,7,29] [900000,900001] (cn ((x0.seen q7).isSome) (r0 1 [0,1,2,6] [900000,900001] (rt [(900001,some 900001),(900000,some 900000)] (C31 x0 x1 x2 ((x0.seen q7).getD 0,x0.seen)))) (r1 2 [0,1,2,6,9,10] [9,900000,900001] [pf (0≤(x1:Int)∧(x1:Int)<q5)] [0] (r0 1 [0,1,2,6,9,10,41] [9,900000,900001] (cn (decide (x1=x2)) (.reg 2 [] [] [0,1,2,6,9,10,49] [9,900000,900001] [decide (0≤q9)] [] [] [1,1,1] (cn ((decide (0≤q9))&&(decide (0≤(q2.mother)))) (.reg 1 [] [(6,kr31 m 56 [900000,900001] x0 q9 (q2.mother))] [0,1,2,6,10] [900000,900001] [] [pf ((2:Int)≠0),pf (inR .i64 q4),pf (inR .i64 (549755813888+q4))] [] [12,0,4,8] (r0 2 [6] [900000,900001] (rt [(900001,some 900001),(900000,some 900000)] (C31 x0 x1 x2 (549755813888+q4,mset ((za2 m x0 q9 (q2.mother)).2) q7 (549755813888+q4)))))) (r0 2 [6] [900000,900001] (rt [(900001,some 900001),(900000,some 900000)] (C31 x0 x1 x2 (549755813888,mset x0.seen q7 549755813888)))))) (.reg 1 [] [(5,k60 x0.f x1)] [0,1,2,6,10,64,65,66] [1064,900000,900001] [] [] [] [0] (lp (D31b2 x0) [] [] [(900001,some 900001)] (D31b2 x0 0 (0,x0.seen)) (A31b2 m x0 x1 x2))))))))))
theorem z2n{x:yc}(hf:zad x=true){p:Int}(hp:0≤p∧p<x.people.length)(hc:(decide (0≤(x.people.getD p.toNat default).father)&&decide (0≤(x.people.getD p.toNat default).mother))=true):(0≤(x.people.getD p.toNat default).father∧(x.people.getD p.toNat default).father<p)∧0≤(x.people.getD p.toNat default).mother∧(x.people.getD p.toNat default).mother<p:=by simp only[oc,ob] at hc;have h1:=zg4 hf hp (q:=(x.people.getD p.toNat default).father) ⟨hc.1,.inl rfl⟩;have h2:=zg4 hf hp (q:=(x.people.getD p.toNat default).mother) ⟨hc.2,.inr rfl⟩;omega
def BtwOk(m:Nat):Prop:=∀(k:kin) (a b:Int),zad k.f=true→(0≤a∧a<k.f.people.length)→(0≤b∧b<k.f.people.length)→a+b<m→SeenOk k.f k.seen→(za2 m k a b).1=kn k.f a b∧SeenOk k.f (za2 m k a b).2
theorem zhf{m:Nat}(IH:BtwOk m){x:yc}(hf:zad x=true){s:KV→Option Int}(hS:SeenOk x s){a b:Int}(ha:0≤a∧a<x.people.length)(hb:0≤b∧b<a)(hm:a+b<m+1){i:Nat}(hi:i<(zav x a).length):(0≤(zav x a).getD i default∧(zav x a).getD i default<a)∧((za2 m ⟨x,s⟩ ((zav x a).getD i default) b).1=kn x ((zav x a).getD i default) b∧SeenOk x (za2 m ⟨x,s⟩ ((zav x a).getD i default) b).2)∧(0≤kn x ((zav x a).getD i default) b∧kn x ((zav x a).getD i default) b≤1099511627776):=by have h1:=zg4 hf ha ((zcy x a).2 i hi);have h0:=((zcy x a).2 i hi).1;exact⟨⟨h0,h1.1⟩,IH ⟨x,s⟩ _ b hf ⟨h0,vcV⟩ ⟨hb.1,vcV⟩ vdh hS,(zxh hf ⟨h0,vdh⟩ ⟨hb.1,vdh⟩).1⟩
theorem zwa{m:Nat}(IH:BtwOk m){k:kin}(hf:zad k.f=true)(hS:SeenOk k.f k.seen){a:Int}(ha:0≤a∧a<k.f.people.length)(hm:a+a<m+1)(hc:(decide (0≤(k.f.people.getD a.toNat default).father)&&decide (0≤(k.f.people.getD a.toNat default).mother))=true):((0≤(k.f.people.getD a.toNat default).father∧(k.f.people.getD a.toNat default).father<a)∧0≤(k.f.people.getD a.toNat default).mother∧(k.f.people.getD a.toNat default).mother<a)∧(0≤(za2 m k (k.f.people.getD a.toNat default).father (k.f.people.getD a.toNat default).mother).1∧(za2 m k (k.f.people.getD a.toNat default).father (k.f.people.getD a.toNat default).mother).1≤1099511627776)∧549755813888+(za2 m k (k.f.people.getD a.toNat default).father (k.f.people.getD a.toNat default).mother).1.tdiv 2=kn k.f a a∧SeenOk k.f (za2 m k (k.f.people.getD a.toNat default).father (k.f.people.getD a.toNat default).mother).2:=by have h1:=z2n hf ha hc;have h2:=IH k (k.f.people.getD a.toNat default).father (k.f.people.getD a.toNat default).mother hf vdh vdh vdh hS;have h3:=zxh hf (a:=(k.f.people.getD a.toNat default).father) (b:=(k.f.people.getD a.toNat default).mother) vdh vdh;refine⟨h1,vdh,?_,h2.2⟩;rw[h2.1,Int.tdiv_eq_ediv_of_nonneg h3.1.1,z0y hf ha,hc,oE]
theorem zwb{m:Nat}(IH:BtwOk m){x:yc}(hf:zad x=true){s:KV→Option Int}(hS:SeenOk x s){a b:Int}(ha:0≤a∧a<x.people.length)(hb:0≤b∧b<a)(hm:a+b<m+1){i:Nat}(hi:i<(zav x a).length){v:Int}(hv:v=sumTo (fun k=>kn x ((zam x a).getD k default) b / 2) i):v+(za2 m ⟨x,s⟩ ((zav x a).getD i default) b).1.tdiv 2=sumTo (fun k=>kn x ((zam x a).getD k default) b / 2) (i+1):=by have h1:=zhf IH hf hS ha hb hm hi;rw[h1.2.1.1,Int.tdiv_eq_ediv_of_nonneg h1.2.2.1,hv,zdt];rfl
theorem zx0{m : Nat}(IH : BtwOk m){k : kin}(hf : zad k.f = true)(hS : SeenOk k.f k.seen){a b : Int}(ha : 0 ≤ a ∧ a < k.f.people.length)(hb : 0 ≤ b ∧ b ≤ a)(hm : a + b < m + 1){E : Int × (KV → Option Int)}(hE : E = (bif((k.seen (KV.p a b)).isSome) then((k.seen (KV.p a b)).getD 0, k.seen) else(bif(decide (a = b)) then(bif((decide (0 ≤ ((k.f.people.getD a.toNat default).father))) && (decide (0 ≤ ((k.f.people.getD a.toNat default).mother)))) then(549755813888 + (((za2 m k ((k.f.people.getD a.toNat default).father) ((k.f.people.getD a.toNat default).mother)).1).tdiv 2), mset ((za2 m k ((k.f.people.getD a.toNat default).father) ((k.f.people.getD a.toNat default).mother)).2) (KV.p a b) (549755813888 + (((za2 m k ((k.f.people.getD a.toNat default).father) ((k.f.people.getD a.toNat default).mother)).1).tdiv 2))) else(549755813888, mset k.seen (KV.p a b) 549755813888)) else(loopN (fun i1 (v1 : Int × (KV → Option Int)) next => next (v1.1 + (((za2 m (kin.mk k.f v1.2) ((zav k.f a).getD i1 default) b).1).tdiv 2), (za2 m (kin.mk k.f v1.2) ((zav k.f a).getD i1 default) b).2)) (fun (v1 : Int × (KV → Option Int)) => (v1.1, mset v1.2 (KV.p a b) v1.1)) ((zav k.f a).length) 0 (0, k.seen))))) : E.1 = kn k.f a b ∧ SeenOk k.f E.2 := by
 subst hE;cases h1:(k.seen (KV.p a b)).isSome
 ·simp only [oD];cases h2 : decide (a = b)
  ·have h2 := oB h2;simp only [oD];refine za3 (fun i (v : Int × (KV → Option Int)) => v.1 = sumTo (fun j => kn k.f ((zam k.f a).getD j default) b / 2) i ∧ SeenOk k.f v.2) (fun (E : Int × (KV → Option Int)) => E.1 = kn k.f a b ∧ SeenOk k.f E.2) ⟨rfl, hS⟩ (fun i v next hi hv hn => ?_) (fun v hv => ?_)
   ·exact hn _ ⟨zwb IH hf hv.2 ha ⟨hb.1, vdh⟩ hm hi hv.1, (zhf IH hf hv.2 ha ⟨hb.1, vdh⟩ hm hi).2.1.2⟩
   have e:v.1=kn k.f a b:=(by rw[hv.1,kn_lt hf ha ⟨hb.1,vdh⟩,zdt]);exact⟨e,hv.2.set e⟩
  have h2:=om h2;subst h2;simp only[oE];cases h3:(decide (0≤(k.f.people.getD a.toNat default).father)&&decide (0≤(k.f.people.getD a.toNat default).mother))
  ·have e : (549755813888 : Int) = kn k.f a a := (by rw [z0y hf ha, h3, oD, Int.add_zero]);exact ⟨e, hS.set e⟩
  have h4:=zwa IH hf hS ha hm h3;exact⟨h4.2.2.1,h4.2.2.2.set h4.2.2.1⟩
 exact⟨hS.hit h1,hS⟩
theorem zgo : ∀m, BtwOk m
  |0=>fun k a b _ ha hb hm _=>by omega
  |m + 1 => fun k a b hf ha hb hm hS => by
    rw[za2]
    cases h1:decide (a<b)
    · have h1:=oB h1
      exact zx0 (zgo m) hf hS ha ⟨hb.1,vdh⟩ vdh rfl
    · have h1:=om h1
      rw[z5m]
      exact zx0 (zgo m) hf hS hb ⟨ha.1,vdh⟩ vdh rfl

theorem zjp(x0 : kin)(x1 : Int)(x2 : Int)(hf : zad x0.f = true)(ha : 0 ≤ x1 ∧ x1 < x0.f.people.length)(hb : 0 ≤ x2 ∧ x2 < x0.f.people.length)(hS : SeenOk x0.f x0.seen) : FnMT Tryz.prog 31 [.vp 900000 0, .int .i64 x1, .int .i64 x2] [.var [.ro false 6 x0.f.people.length (rowOf (zah false) x0.f.people), .ro false 4 x0.f.unions.length (rowOf (zas false) x0.f.unions), .mp 900001], .mp .pair (.i x0.seen)] (C31 x0 x1 x2 (zia x0 x1 x2)) := by
 have all : ∀(m : Nat) (x0 : kin) (x1 : Int) (x2 : Int) (hf : zad x0.f = true) (ha : 0 ≤ x1 ∧ x1 < x0.f.people.length) (hb : 0 ≤ x2 ∧ x2 < x0.f.people.length) (hS : SeenOk x0.f x0.seen) (hm : (x1 + x2).toNat < m), FnMT Tryz.prog 31 [.vp 900000 0, .int .i64 x1, .int .i64 x2] [.var [.ro false 6 x0.f.people.length (rowOf (zah false) x0.f.people), .ro false 4 x0.f.unions.length (rowOf (zas false) x0.f.unions), .mp 900001], .mp .pair (.i x0.seen)] (C31 x0 x1 x2 (za2 m x0 x1 x2)) := by
  intro m;induction m
  ·intros; exact absurd vc9 (oQ _)
  rename_i m ih;intro x0 x1 x2 hf ha hb hS hm;have aux : ∀R, za2 (m + 1) x0 x1 x2 = R → slim (C31 x0 x1 x2 R) (A31 m x0 x1 x2) [] := by
   intro R hR;rw[za2] at hR;refine rT ?_;refine rT ?_;refine cd (fun hc1 hR=>?_) (fun hc1 hR=>?_) hR
   ·refine rT ?_;refine rT ?_;refine cd (fun hc2 hR => ?_) (fun hc2 hR => ?_) hR
    ·refine rT ?_;exact oe (C31 x0 x1 x2) hR
    refine rg ⟨vdg,trivial⟩ ?_;refine rT ?_;refine cd (fun hc3 hR=>?_) (fun hc3 hR=>?_) hR
    ·refine rT ?_;refine cd (fun hc4 hR => ?_) (fun hc4 hR => ?_) hR
     ·refine rg ⟨vdg, vb6, vb6, ih x0 ((x0.f.people.getD x2.toNat default).father) ((x0.f.people.getD x2.toNat default).mother) vdg vb6 vb6 vdg vb6, trivial⟩ ?_;refine rT ?_;exact oe (C31 x0 x1 x2) hR
     refine rT ?_;exact oe (C31 x0 x1 x2) hR
    refine rg ⟨⟨by(have h4:=((zbo _).1 hf).1;omega),vdg⟩,trivial⟩ ?_;have hp1:=zcy x0.f x2;refine lN (fun i v=>v.1=sumTo (fun k=>kn x0.f ((zam x0.f x2).getD k default) x1 / 2) i∧SeenOk x0.f v.2) vdg rfl (fun i1 v1 F1 hn1 hI1 hR hK1=>?_) hR;refine rT ?_;refine⟨fun hc5=>?_,fun hc5=>?_⟩
    ·have hii1 : i1 < (zav x0.f x2).length := vcK;replace hR := zai hR hii1;refine rg ⟨vc4, trivial⟩ ?_;refine rg ⟨vdg, vas, vas, ih (kin.mk x0.f v1.2) ((zav x0.f x2).getD i1 default) x1 vdg vas vdg (by (have h6 := om hc1; have h9 := zhf (zgo m) hf hI1.2 hb ⟨ha.1, h6⟩ vdh hii1; exact hI1.2)) (by (have h6 := om hc1; have h9 := zhf (zgo m) hf hI1.2 hb ⟨ha.1, h6⟩ vdh hii1; omega)), trivial⟩ ?_;refine rg ⟨vcq, trivial⟩ ?_;exact hK1 (v1.1 + (((za2 m (kin.mk x0.f v1.2) ((zav x0.f x2).getD i1 default) x1).1).tdiv 2), (za2 m (kin.mk x0.f v1.2) ((zav x0.f x2).getD i1 default) x1).2) hii1 (by (have h6 := om hc1; exact ⟨zwb (zgo m) hf hI1.2 hb ⟨ha.1, h6⟩ vdh hii1 hI1.1, (zhf (zgo m) hf hI1.2 hb ⟨ha.1, h6⟩ vdh hii1).2.1.2⟩)) hR
    obtain rfl:i1=(zav x0.f x2).length:=(by have:=oB hc5;omega);replace hR:=zaq hR (oR _);refine rT ?_;exact oe (C31 x0 x1 x2) hR
   refine rT ?_;refine cd (fun hc6 hR=>?_) (fun hc6 hR=>?_) hR
   ·refine rT ?_;exact oe (C31 x0 x1 x2) hR
   refine rg ⟨vdg,trivial⟩ ?_;refine rT ?_;refine cd (fun hc7 hR=>?_) (fun hc7 hR=>?_) hR
   ·refine rT ?_;refine cd (fun hc8 hR => ?_) (fun hc8 hR => ?_) hR
    ·refine rg ⟨vdg, vaC, vaC, ih x0 ((x0.f.people.getD x1.toNat default).father) ((x0.f.people.getD x1.toNat default).mother) vdg vbK vbK vdg vbK, trivial⟩ ?_;refine rT ?_;exact oe (C31 x0 x1 x2) hR
    refine rT ?_;exact oe (C31 x0 x1 x2) hR
   refine rg ⟨⟨by(have h4:=((zbo _).1 hf).1;omega),vdg⟩,trivial⟩ ?_;have hp2:=zcy x0.f x1;refine lN (fun i v=>v.1=sumTo (fun k=>kn x0.f ((zam x0.f x1).getD k default) x2 / 2) i∧SeenOk x0.f v.2) vdg rfl (fun i2 v2 F2 hn2 hI2 hR hK2=>?_) hR;refine rT ?_;refine⟨fun hc9=>?_,fun hc9=>?_⟩
   ·have hii2 : i2 < (zav x0.f x1).length := (by have := om hc9; omega);replace hR := zai hR hii2;refine rg ⟨vc4, trivial⟩ ?_;refine rg ⟨vdg, vaq, vaq, ih (kin.mk x0.f v2.2) ((zav x0.f x1).getD i2 default) x2 vdg vaq vdg (by (have h6 := oB hc1; have h5 := oB hc7; have h9 := zhf (zgo m) hf hI2.2 ha ⟨hb.1, vdh⟩ vdh hii2; exact hI2.2)) (by (have h6 := oB hc1; have h5 := oB hc7; have h9 := zhf (zgo m) hf hI2.2 ha ⟨hb.1, vdh⟩ vdh hii2; omega)), trivial⟩ ?_;refine rg ⟨vcq, trivial⟩ ?_;exact hK2 (v2.1 + (((za2 m (kin.mk x0.f v2.2) ((zav x0.f x1).getD i2 default) x2).1).tdiv 2), (za2 m (kin.mk x0.f v2.2) ((zav x0.f x1).getD i2 default) x2).2) hii2 (by (have h6 := oB hc1; have h5 := oB hc7; exact ⟨zwb (zgo m) hf hI2.2 ha ⟨hb.1, vdh⟩ vdh hii2 hI2.1, (zhf (zgo m) hf hI2.2 ha ⟨hb.1, vdh⟩ vdh hii2).2.1.2⟩)) hR
   obtain rfl:i2=(zav x0.f x1).length:=(by have:=oB hc9;omega);replace hR:=zaq hR (oR _);refine rT ?_;exact oe (C31 x0 x1 x2) hR
  exact FnM.go 87 Tryz.func31 zaa zaa (A31 m x0 x1 x2) zaa (aux _ rfl)
 exact all 100 x0 x1 x2 hf ha hb hS (by have h:=((zbo _).1 hf).1.1;omega)
def k31(d:Nat)(ids:List Nat)(x0:kin)(x1:Int)(x2:Int):Cl:=(hresM d ids (C31 x0 x1 x2 (zia x0 x1 x2)),Go.Lite.k4 (zjp x0 x1 x2))
end Go.Proofs.YtnibbmmljamolaaGreat
