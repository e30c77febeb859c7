import Derived.Test.YtikfeeaapenplabM151
set_option maxHeartbeats 4000000
set_option linter.unusedSimpArgs false
set_option linter.unusedVariables false
namespace Go.Proofs.Ytikfeeaapenplab
open Go Go.Lite Go.Proofs
def C90 (x0:estate) (x1:Int) (x2:Int) (x3:Int) (R:(List Bool)×(List Int)×(List Int)):LV×List (Nat×BC):=(.tup [],[(900000,.var [.ro false 6 x0.f.people.length (rowOf (cPerson false) x0.f.people),.ro false 4 x0.f.unions.length (rowOf (cUnion false) x0.f.unions),.int .i64 x0.p,.int .i64 x0.year,.own 0,.own 1,.own 2]),(0,.arr 1 R.1.length (rowOf (cBool) R.1)),(1,.arr 1 R.2.1.length (rowOf (cInt .i64) R.2.1)),(2,.arr 1 R.2.2.length (rowOf (cInt .i64) R.2.2))])
def C50 (x0:estate) (x1:List Int) (x2:Int) (x3:Int) (R:(List Bool)×(List Int)×(List Int)):LV×List (Nat×BC):=(.tup [],[(900000,.var [.ro false 6 x0.f.people.length (rowOf (cPerson false) x0.f.people),.ro false 4 x0.f.unions.length (rowOf (cUnion false) x0.f.unions),.int .i64 x0.p,.int .i64 x0.year,.own 0,.own 1,.own 2]),(900004,.arr 1 x1.length (rowOf (cInt .i64) x1)),(0,.arr 1 R.1.length (rowOf (cBool) R.1)),(1,.arr 1 R.2.1.length (rowOf (cInt .i64) R.2.1)),(2,.arr 1 R.2.2.length (rowOf (cInt .i64) R.2.2))])
mutual
def give_r : Nat → estate → Int → Int → Int → (List Bool) × (List Int) × (List Int)
  | 0,_,_,_,_=>default
  | m+1,x0,x1,x2,x3=>bif (!(implAlive x0.f x1 x0.year)) then ((divide_r m (estate.mk x0.f x0.p x0.year ((taking x0 (implKids x0.f x1)).2.1) ((taking x0 (implKids x0.f x1)).2.2.1) ((taking x0 (implKids x0.f x1)).2.2.2)) ((taking x0 (implKids x0.f x1)).1) x2 x3).1,(divide_r m (estate.mk x0.f x0.p x0.year ((taking x0 (implKids x0.f x1)).2.1) ((taking x0 (implKids x0.f x1)).2.2.1) ((taking x0 (implKids x0.f x1)).2.2.2)) ((taking x0 (implKids x0.f x1)).1) x2 x3).2.1,(divide_r m (estate.mk x0.f x0.p x0.year ((taking x0 (implKids x0.f x1)).2.1) ((taking x0 (implKids x0.f x1)).2.2.1) ((taking x0 (implKids x0.f x1)).2.2.2)) ((taking x0 (implKids x0.f x1)).1) x2 x3).2.2) else (x0.takes,(x0.num.set x1.toNat ((((x0.num.getD x1.toNat default) * x3)+(x2 * (x0.den.getD x1.toNat default))).tdiv (implGcd (((x0.num.getD x1.toNat default) * x3)+(x2 * (x0.den.getD x1.toNat default))) ((x0.den.getD x1.toNat default) * x3)))),(x0.den.set x1.toNat (((x0.den.getD x1.toNat default) * x3).tdiv (implGcd (((x0.num.getD x1.toNat default) * x3)+(x2 * (x0.den.getD x1.toNat default))) ((x0.den.getD x1.toNat default) * x3)))))
def divide_r : Nat → estate → (List Int) → Int → Int → (List Bool) × (List Int) × (List Int)
  | 0,_,_,_,_=>default
  | m+1,x0,x1,x2,x3=>loopN (fun i1 (v1:(List Bool)×(List Int)×(List Int)) next=>next ((give_r m (estate.mk x0.f x0.p x0.year v1.1 v1.2.1 v1.2.2) (x1.getD i1 default) (x2.tdiv (implGcd x2 (x3 * ((x1.length:Nat):Int)))) ((x3 * ((x1.length:Nat):Int)).tdiv (implGcd x2 (x3 * ((x1.length:Nat):Int))))).1,(give_r m (estate.mk x0.f x0.p x0.year v1.1 v1.2.1 v1.2.2) (x1.getD i1 default) (x2.tdiv (implGcd x2 (x3 * ((x1.length:Nat):Int)))) ((x3 * ((x1.length:Nat):Int)).tdiv (implGcd x2 (x3 * ((x1.length:Nat):Int))))).2.1,(give_r m (estate.mk x0.f x0.p x0.year v1.1 v1.2.1 v1.2.2) (x1.getD i1 default) (x2.tdiv (implGcd x2 (x3 * ((x1.length:Nat):Int)))) ((x3 * ((x1.length:Nat):Int)).tdiv (implGcd x2 (x3 * ((x1.length:Nat):Int))))).2.2)) (fun (v1:(List Bool)×(List Int)×(List Int))=>(v1.1,v1.2.1,v1.2.2)) x1.length 0 (x0.takes,x0.num,x0.den)
end
def kr90 (m d:Nat) (ids:List Nat) (x0:estate) (x1:Int) (x2:Int) (x3:Int):Cl:=(hresM d ids (C90 x0 x1 x2 x3 (give_r m x0 x1 x2 x3)),pf (FnMT Try.prog 90 [.vp 900000 0,.int .i64 x1,.int .i64 x2,.int .i64 x3] [.var [.ro false 6 x0.f.people.length (rowOf (cPerson false) x0.f.people),.ro false 4 x0.f.unions.length (rowOf (cUnion false) x0.f.unions),.int .i64 x0.p,.int .i64 x0.year,.own 900001,.own 900002,.own 900003],.arr 1 x0.takes.length (rowOf (cBool) x0.takes),.arr 1 x0.num.length (rowOf (cInt .i64) x0.num),.arr 1 x0.den.length (rowOf (cInt .i64) x0.den)] (C90 x0 x1 x2 x3 (give_r m x0 x1 x2 x3))))
def divide (x0:estate) (x1:List Int) (x2:Int) (x3:Int):(List Bool)×(List Int)×(List Int):=divide_r 100 x0 x1 x2 x3
def kr50 (m d:Nat) (ids:List Nat) (x0:estate) (x1:List Int) (x2:Int) (x3:Int):Cl:=(hresM d ids (C50 x0 x1 x2 x3 (divide_r m x0 x1 x2 x3)),pf (FnMT Try.prog 50 [.vp 900000 0,.own 900004,.int .i64 x2,.int .i64 x3] [.var [.ro false 6 x0.f.people.length (rowOf (cPerson false) x0.f.people),.ro false 4 x0.f.unions.length (rowOf (cUnion false) x0.f.unions),.int .i64 x0.p,.int .i64 x0.year,.own 900001,.own 900002,.own 900003],.arr 1 x0.takes.length (rowOf (cBool) x0.takes),.arr 1 x0.num.length (rowOf (cInt .i64) x0.num),.arr 1 x0.den.length (rowOf (cInt .i64) x0.den),.arr 1 x1.length (rowOf (cInt .i64) x1)] (C50 x0 x1 x2 x3 (divide_r m x0 x1 x2 x3))))
def A90 (m:Nat) (x0:estate) (x1:Int) (x2:Int) (x3:Int):Ann:=.reg 1 [] [(9,k86 x0.f x1 x0.year)] [0,1,2,3,21] [900000,900001,900002,900003] [] [] [] [0] (cn (!(implAlive x0.f x1 x0.year)) (.reg 1 [] [(7,k48 x0.f x1),(8,k47 30 [900000,900001,900002,900003,1029] x0 (implKids x0.f x1)),(11,kr50 m 33 [900000,2030,3030,4030,1030] (estate.mk x0.f x0.p x0.year ((taking x0 (implKids x0.f x1)).2.1) ((taking x0 (implKids x0.f x1)).2.2.1) ((taking x0 (implKids x0.f x1)).2.2.2)) ((taking x0 (implKids x0.f x1)).1) x2 x3)] [0,1,2,3] [1033,2033,3033,900000] [] [] [] [0,4,8] (rt [(900000,some 900000),(0,some 1033),(1,some 2033),(2,some 3033)] (C90 x0 x1 x2 x3 ((divide_r m (estate.mk x0.f x0.p x0.year ((taking x0 (implKids x0.f x1)).2.1) ((taking x0 (implKids x0.f x1)).2.2.1) ((taking x0 (implKids x0.f x1)).2.2.2)) ((taking x0 (implKids x0.f x1)).1) x2 x3).1,(divide_r m (estate.mk x0.f x0.p x0.year ((taking x0 (implKids x0.f x1)).2.1) ((taking x0 (implKids x0.f x1)).2.2.1) ((taking x0 (implKids x0.f x1)).2.2.2)) ((taking x0 (implKids x0.f x1)).1) x2 x3).2.1,(divide_r m (estate.mk x0.f x0.p x0.year ((taking x0 (implKids x0.f x1)).2.1) ((taking x0 (implKids x0.f x1)).2.2.1) ((taking x0 (implKids x0.f x1)).2.2.2)) ((taking x0 (implKids x0.f x1)).1) x2 x3).2.2)))) (.reg 3 [] [(2002,k89 (((x0.num.getD x1.toNat default) * x3)+(x2 * (x0.den.getD x1.toNat default))) ((x0.den.getD x1.toNat default) * x3))] [0,1,8,9,10] [900000,900001,900002,900003] [] [pf (0≤(x1:Int)∧(x1:Int)<((x0.num.length:Nat):Int)),pf (inR .i64 ((x0.num.getD x1.toNat default) * x3)),pf (0≤(x1:Int)∧(x1:Int)<((x0.den.length:Nat):Int)),pf (inR .i64 (x2 * (x0.den.getD x1.toNat default))),pf (inR .i64 (((x0.num.getD x1.toNat default) * x3)+(x2 * (x0.den.getD x1.toNat default)))),pf (inR .i64 ((x0.den.getD x1.toNat default) * x3))] [] [0,4,8,12,16,8,20,24] (.reg 1 [] [(17,stL 900002 (cInt .i64) x0.num x1.toNat ((((x0.num.getD x1.toNat default) * x3)+(x2 * (x0.den.getD x1.toNat default))).tdiv (implGcd (((x0.num.getD x1.toNat default) * x3)+(x2 * (x0.den.getD x1.toNat default))) ((x0.den.getD x1.toNat default) * x3)))),(19,stL 900003 (cInt .i64) x0.den x1.toNat (((x0.den.getD x1.toNat default) * x3).tdiv (implGcd (((x0.num.getD x1.toNat default) * x3)+(x2 * (x0.den.getD x1.toNat default))) ((x0.den.getD x1.toNat default) * x3))))] [] [900000,900001,900002,900003] [] [pf (((implGcd (((x0.num.getD x1.toNat default) * x3)+(x2 * (x0.den.getD x1.toNat default))) ((x0.den.getD x1.toNat default) * x3)):Int) ≠ 0),pf (inR .i64 ((((x0.num.getD x1.toNat default) * x3)+(x2 * (x0.den.getD x1.toNat default))).tdiv (implGcd (((x0.num.getD x1.toNat default) * x3)+(x2 * (x0.den.getD x1.toNat default))) ((x0.den.getD x1.toNat default) * x3)))),pf (inR .i64 (((x0.den.getD x1.toNat default) * x3).tdiv (implGcd (((x0.num.getD x1.toNat default) * x3)+(x2 * (x0.den.getD x1.toNat default))) ((x0.den.getD x1.toNat default) * x3)))),pf (0≤(x1:Int)∧(x1:Int)<((x0.num.length:Nat):Int)),pf (0≤(x1:Int)∧(x1:Int)<((x0.den.length:Nat):Int))] [] [0,4,0,8,12,20,16,24] (rt [(900000,some 900000),(0,some 900001),(1,some 900002),(2,some 900003)] (C90 x0 x1 x2 x3 (x0.takes,(x0.num.set x1.toNat ((((x0.num.getD x1.toNat default) * x3)+(x2 * (x0.den.getD x1.toNat default))).tdiv (implGcd (((x0.num.getD x1.toNat default) * x3)+(x2 * (x0.den.getD x1.toNat default))) ((x0.den.getD x1.toNat default) * x3)))),(x0.den.set x1.toNat (((x0.den.getD x1.toNat default) * x3).tdiv (implGcd (((x0.num.getD x1.toNat default) * x3)+(x2 * (x0.den.getD x1.toNat default))) ((x0.den.getD x1.toNat default) * x3))))))))))
def D50b1 (m:Nat) (x0:estate) (x1:List Int) (x2:Int) (x3:Int) (i1:Nat) (v1:(List Bool)×(List Int)×(List Int)):Dl:=⟨[(20,.int .i64 ((i1:Nat):Int))],[(30004,.arr 1 v1.1.length (rowOf (cBool) v1.1)),(30005,.arr 1 v1.2.1.length (rowOf (cInt .i64) v1.2.1)),(30006,.arr 1 v1.2.2.length (rowOf (cInt .i64) v1.2.2)),(900000,.var [.ro false 6 x0.f.people.length (rowOf (cPerson false) x0.f.people),.ro false 4 x0.f.unions.length (rowOf (cUnion false) x0.f.unions),.int .i64 x0.p,.int .i64 x0.year,.own 30004,.own 30005,.own 30006])]⟩
def A50b1 (m:Nat) (x0:estate) (x1:List Int) (x2:Int) (x3:Int) (i1:Nat) (v1:(List Bool)×(List Int)×(List Int)):Ann:=r0 1 [0,2,3,8,18,19,20,21] [30004,30005,30006,900000,900004] (cn (decide (((i1:Nat):Int)<((x1.length:Nat):Int))) (r1 1 [0,2,3,8,10,18,19,20] [30004,30005,30006,900000,900004] [pf (0≤(((i1:Nat):Int):Int)∧(((i1:Nat):Int):Int)<((x1.length:Nat):Int))] [0] (.reg 1 [] [(8,kr90 m 32 [900000,30004,30005,30006] (estate.mk x0.f x0.p x0.year v1.1 v1.2.1 v1.2.2) (x1.getD i1 default) (x2.tdiv (implGcd x2 (x3 * ((x1.length:Nat):Int)))) ((x3 * ((x1.length:Nat):Int)).tdiv (implGcd x2 (x3 * ((x1.length:Nat):Int)))))] [0,2,3,8,18,19,20] [1032,2032,3032,900000,900004] [] [pf (((implGcd x2 (x3 * ((x1.length:Nat):Int))):Int) ≠ 0),pf (inR .i64 (x2.tdiv (implGcd x2 (x3 * ((x1.length:Nat):Int))))),pf (inR .i64 ((x3 * ((x1.length:Nat):Int)).tdiv (implGcd x2 (x3 * ((x1.length:Nat):Int)))))] [] [0,4,0,8,12] (r1 1 [0,2,3,8,18,19,20] [1032,2032,3032,900000,900004] [pf (inR .i64 (((i1:Nat):Int)+1))] [0] (.next 0 [(30004,some 1032),(30005,some 2032),(30006,some 3032)] (D50b1 m x0 x1 x2 x3 (i1+1) ((give_r m (estate.mk x0.f x0.p x0.year v1.1 v1.2.1 v1.2.2) (x1.getD i1 default) (x2.tdiv (implGcd x2 (x3 * ((x1.length:Nat):Int)))) ((x3 * ((x1.length:Nat):Int)).tdiv (implGcd x2 (x3 * ((x1.length:Nat):Int))))).1,(give_r m (estate.mk x0.f x0.p x0.year v1.1 v1.2.1 v1.2.2) (x1.getD i1 default) (x2.tdiv (implGcd x2 (x3 * ((x1.length:Nat):Int)))) ((x3 * ((x1.length:Nat):Int)).tdiv (implGcd x2 (x3 * ((x1.length:Nat):Int))))).2.1,(give_r m (estate.mk x0.f x0.p x0.year v1.1 v1.2.1 v1.2.2) (x1.getD i1 default) (x2.tdiv (implGcd x2 (x3 * ((x1.length:Nat):Int)))) ((x3 * ((x1.length:Nat):Int)).tdiv (implGcd x2 (x3 * ((x1.length:Nat):Int))))).2.2)))))) (rt [(900000,some 900000),(900004,some 900004),(0,some 30004),(1,some 30005),(2,some 30006)] (C50 x0 x1 x2 x3 (v1.1,v1.2.1,v1.2.2))))
def A50 (m:Nat) (x0:estate) (x1:List Int) (x2:Int) (x3:Int):Ann:=.reg 3 [] [(1002,k89 x2 (x3 * ((x1.length:Nat):Int)))] [0,2,3,8,18,19,20] [900000,900001,900002,900003,900004] [] [pf (inR .i64 (x3 * ((x1.length:Nat):Int)))] [] [0,4] (lp (D50b1 m x0 x1 x2 x3) [] [900001,900002,900003] [(30004,some 900001),(30005,some 900002),(30006,some 900003)] (D50b1 m x0 x1 x2 x3 0 (x0.takes,x0.num,x0.den)) (A50b1 m x0 x1 x2 x3))
theorem give_sem : ∀ (m : Nat),
    (∀ (x : estate) (q : Int) (d D : Nat) (S : List Nat), specIsFamily x.f = true → (0 ≤ q ∧ q < x.f.people.length) → 2 * ((x.f.people.length : Int) - q).toNat < m → 0 < d → S.length = x.f.people.length → RepS D S x.num x.den → (∀ r, Ch x.f x.year x.takes q r → d * r ∣ D) →
      (give_r m x q 1 (d:Int)).1=x.takes∧RepS D (gS x.f x.year x.takes m q (D / d) S) (give_r m x q 1 (d:Int)).2.1 (give_r m x q 1 (d:Int)).2.2) ∧
    (∀ (x : estate) (l : List Int) (d D : Nat) (S : List Nat), specIsFamily x.f = true → (∀ c ∈ l, 0 ≤ c ∧ c < x.f.people.length) → lmu x.f.people.length l < m → 0 < d → S.length = x.f.people.length → RepS D S x.num x.den → (∀ c ∈ l, ∀ r, Ch x.f x.year x.takes c r → d * l.length * r ∣ D) →
      (divide_r m x l 1 (d:Int)).1=x.takes∧RepS D (dS x.f x.year x.takes m l (D / d) S) (divide_r m x l 1 (d:Int)).2.1 (divide_r m x l 1 (d:Int)).2.2):=by
  intro m
  induction m with
  | zero=>exact ⟨fun _ _ _ _ _ _ _ h=>absurd h (Nat.not_lt_zero _),fun _ _ _ _ _ _ _ h=>absurd h (Nat.not_lt_zero _)⟩
  | succ m ih =>
    refine ⟨fun x q d D S hf hq hm hd hS hR hr=>?_,fun x l d D S hf hl hm hd hS hR hr=>?_⟩
    · rw [give_r, gS]
      cases ha:l1Alive x.f q x.year with
      | true =>
        rw [show implAlive x.f q x.year=true from ha,Bool.not_true,cond_false,cond_true]
        have hdv:=hr 1 (.nil q)
        rw [Nat.mul_one] at hdv
        exact ⟨rfl,hR.add (by omega) hd (Nat.div_mul_cancel hdv)⟩
      | false =>
        rw [show implAlive x.f q x.year=false from ha,Bool.not_false,cond_true,cond_false,kidsT_taking hf]
        exact ih.2 ⟨x.f, x.p, x.year, x.takes, x.num, x.den⟩ (kidsT x.f x.takes q) d D S hf (fun c hc => by have := kidsT_mem hf hq.1 hc; exact ⟨by omega, this.1.2⟩) (by
          have h1 : lmu x.f.people.length (kidsT x.f x.takes q) ≤ 2 * ((x.f.people.length : Int) - q).toNat - 1 := lmu_le.2 fun c hc => by
            have:=(kidsT_mem hf hq.1 hc).1;omega
          show lmu x.f.people.length (kidsT x.f x.takes q)<m
          omega) hd hS hR (fun c hc r h=>by rw [Nat.mul_assoc];exact hr _ (.cons ha hc h))
    · rw [divide_r, dS]
      have hmu:=lmu_le.1 (Nat.le_of_lt_succ hm)
      have hg:implGcd 1 ((d:Int) * ((l.length:Nat):Int))=1:=gcd_one (by rw [← Int.natCast_mul];omega)
      rw [hg,Int.tdiv_one,Int.tdiv_one]
      refine loopN_to (fun i (v:(List Bool)×(List Int)×(List Int))=>v.1=x.takes∧RepS D ((l.take i).foldl (fun S c=>gS x.f x.year x.takes m c (D / d / l.length) S) S) v.2.1 v.2.2) (fun (r:(List Bool)×(List Int)×(List Int))=>r.1=x.takes∧RepS D (l.foldl (fun S c=>gS x.f x.year x.takes m c (D / d / l.length) S) S) r.2.1 r.2.2) ⟨rfl,hR⟩ (fun i v next hi hv hn=>?_) (fun v hv=>by rw [List.take_length] at hv;exact hv)
      obtain ⟨h1,h2⟩:=hv
      have hc:=getD_mem (d:=(default:Int)) hi
      have := ih.1 ⟨x.f, x.p, x.year, v.1, v.2.1, v.2.2⟩ (l.getD i default) (d * l.length) D _ hf (hl _ hc) (by have := hmu _ hc; show 2 * ((x.f.people.length : Int) - l.getD i default).toNat < m; omega) (Nat.mul_pos hd (by omega)) ((div_len _ _).trans hS) h2 (fun r h => by
        have h3:Ch x.f x.year v.1 (l.getD i default) r:=h
        rw [h1] at h3
        exact hr _ hc r h3)
      rw [Int.natCast_mul] at this
      refine hn _ ⟨this.1.trans h1,?_⟩
      have h4:=this.2
      rw [take_snoc _ default hi,List.foldl_append,List.foldl_cons,List.foldl_nil,Nat.div_div_eq_div_mul]
      dsimp only at h4 ⊢
      rw [h1,Nat.div_div_eq_div_mul] at h4
      rw [h1]
      exact h4
theorem DivI.step {m : Nat} {x : estate} {l : List Int} {num den : Int} (h0 : DivOk x l num den) (hm : lmu x.f.people.length l ≤ m) {i : Nat} {tk : List Bool} {nu de : List Int} (h : DivI m x l den i tk nu de) (hi : i < l.length) {v : (List Bool) × (List Int) × (List Int)} (e : v = give_r m (estate.mk x.f x.p x.year tk nu de) (l.getD i default) (num.tdiv (implGcd num (den * ((l.length : Nat) : Int)))) ((den * ((l.length : Nat) : Int)).tdiv (implGcd num (den * ((l.length : Nat) : Int))))) : DivI m x l den (i + 1) v.1 v.2.1 v.2.2 := by
  obtain ⟨⟨hf,ht⟩,⟨hk,hl,h40⟩,hnum,_⟩:=h0
  obtain ⟨rfl,d,D,S,⟨rfl,hd⟩,hS,hR,hs,hb⟩:=h
  subst hnum
  have hc:=getD_mem (d:=(default:Int)) hi
  have hmu:=lmu_le.1 hm
  rw [gcd_one (by rw [← Int.natCast_mul];omega),Int.tdiv_one,Int.tdiv_one,← Int.natCast_mul] at e
  subst e
  have:=(give_sem m).1 ⟨x.f,x.p,x.year,x.takes,nu,de⟩ (l.getD i default) (d * l.length) D _ hf (hk _ hc).1 (by have:=hmu _ hc;show 2 * ((x.f.people.length:Int) - l.getD i default).toNat<m;omega) (Nat.mul_pos hd (by omega)) ((div_len _ _).trans hS) hR (fun r h=>(hb _ hc r h).1)
  refine ⟨this.1,d,D,S,⟨rfl,hd⟩,hS,?_,hs,hb⟩
  rw [take_snoc _ default hi,List.foldl_append,List.foldl_cons,List.foldl_nil]
  have h4:=this.2
  dsimp only at h4
  rw [← Nat.div_div_eq_div_mul] at h4
  exact h4

theorem grp_impl_estate__give : ∀ (m : Nat), (∀ (x0 : estate) (x1 : Int) (x2 : Int) (x3 : Int) (h : GiveOk x0 x1 x2 x3) (hm : 2 * ((x0.f.people.length : Int) - x1).toNat < m), FnMT Try.prog 90 [.vp 900000 0, .int .i64 x1, .int .i64 x2, .int .i64 x3] [.var [.ro false 6 x0.f.people.length (rowOf (cPerson false) x0.f.people), .ro false 4 x0.f.unions.length (rowOf (cUnion false) x0.f.unions), .int .i64 x0.p, .int .i64 x0.year, .own 900001, .own 900002, .own 900003], .arr 1 x0.takes.length (rowOf (cBool) x0.takes), .arr 1 x0.num.length (rowOf (cInt .i64) x0.num), .arr 1 x0.den.length (rowOf (cInt .i64) x0.den)] (C90 x0 x1 x2 x3 (give_r m x0 x1 x2 x3))) ∧ (∀ (x0 : estate) (x1 : List Int) (x2 : Int) (x3 : Int) (h : DivOk x0 x1 x2 x3) (hm : lmu x0.f.people.length x1 < m), FnMT Try.prog 50 [.vp 900000 0, .own 900004, .int .i64 x2, .int .i64 x3] [.var [.ro false 6 x0.f.people.length (rowOf (cPerson false) x0.f.people), .ro false 4 x0.f.unions.length (rowOf (cUnion false) x0.f.unions), .int .i64 x0.p, .int .i64 x0.year, .own 900001, .own 900002, .own 900003], .arr 1 x0.takes.length (rowOf (cBool) x0.takes), .arr 1 x0.num.length (rowOf (cInt .i64) x0.num), .arr 1 x0.den.length (rowOf (cInt .i64) x0.den), .arr 1 x1.length (rowOf (cInt .i64) x1)] (C50 x0 x1 x2 x3 (divide_r m x0 x1 x2 x3))) := by
  intro m;induction m
  · refine ⟨?_,?_⟩ <;> (intros;exact absurd (by assumption) (Nat.not_lt_zero _))
  rename_i m ih
  refine ⟨?_,?_⟩
  · intro x0 x1 x2 x3 h hm
    have aux : ∀ R, give_r (m + 1) x0 x1 x2 x3 = R → slim (C90 x0 x1 x2 x3 R) (A90 m x0 x1 x2 x3) [] := by
      intro R hR
      rw [give_r] at hR
      refine rg ⟨⟨by (have h9:=h.n;omega),by (with_reducible exact h.q)⟩,trivial⟩ ?_
      revert hR;refine cd (fun hc1 hR=>?_) fun hc1 hR=>?_
      ·
        refine rg ⟨by (have h9:=h.n;omega),⟨by (have h9:=h.n;omega),by (have h9:=implKids_ok x0.f x1 h.n.1.2;have h8:=h.n;omega),by (have h9:=implKids_ok x0.f x1 h.n.1.2;have h8:=h.n.2;rw [h8];with_reducible exact h9.1)⟩,ih.2 (estate.mk x0.f x0.p x0.year ((taking x0 (implKids x0.f x1)).2.1) ((taking x0 (implKids x0.f x1)).2.2.1) ((taking x0 (implKids x0.f x1)).2.2.2)) ((taking x0 (implKids x0.f x1)).1) x2 x3 (by (with_reducible exact h.div2 hc1)) (by (rw [kidsT_taking h.n.1.1];have h8:lmu x0.f.people.length (kidsT x0.f x0.takes x1)≤2 * ((x0.f.people.length:Int) - x1).toNat - 1:=lmu_le.2 fun c hc=>(by have:=(kidsT_mem h.n.1.1 h.q.1 hc).1;omega);have h7:=h.q;dsimp only;omega)),trivial⟩ ?_
        exact congrArg (C90 x0 x1 x2 x3) hR
      ·
        refine rg ⟨by (have h9:=h.rng;(try simp only [inR] at *);omega),by (have h9:=h.rng;(try simp only [inR] at *);omega),by (have h9:=h.rng;(try simp only [inR] at *);omega),by (have h9:=h.rng;(try simp only [inR] at *);omega),by (have h9:=h.rng;(try simp only [inR] at *);omega),by (have h9:=h.rng;(try simp only [inR] at *);omega),⟨by (have h9:=h.rng;(try simp only [inR] at *);omega),by (have h9:=h.rng;(try simp only [inR] at *);omega)⟩,trivial⟩ ?_
        refine rg ⟨by (have h9:=h.rng;have h8:=gcd_pos h9.2.2.1.1 h9.2.2.2.1;omega),by (have h9:=h.rng;have h8:=gcd_pos h9.2.2.1.1 h9.2.2.2.1;have h7:=tdiv_rng (a:=(x0.num.getD x1.toNat default) * x3+x2 * (x0.den.getD x1.toNat default)) (b:=implGcd ((x0.num.getD x1.toNat default) * x3+x2 * (x0.den.getD x1.toNat default)) ((x0.den.getD x1.toNat default) * x3)) (by (try simp only [inR] at h9);omega) h8.1;have h6:=tdiv_rng (a:=(x0.den.getD x1.toNat default) * x3) (b:=implGcd ((x0.num.getD x1.toNat default) * x3+x2 * (x0.den.getD x1.toNat default)) ((x0.den.getD x1.toNat default) * x3)) (by (try simp only [inR] at h9);omega) h8.1;(try simp only [inR] at *);omega),by (have h9:=h.rng;have h8:=gcd_pos h9.2.2.1.1 h9.2.2.2.1;have h7:=tdiv_rng (a:=(x0.num.getD x1.toNat default) * x3+x2 * (x0.den.getD x1.toNat default)) (b:=implGcd ((x0.num.getD x1.toNat default) * x3+x2 * (x0.den.getD x1.toNat default)) ((x0.den.getD x1.toNat default) * x3)) (by (try simp only [inR] at h9);omega) h8.1;have h6:=tdiv_rng (a:=(x0.den.getD x1.toNat default) * x3) (b:=implGcd ((x0.num.getD x1.toNat default) * x3+x2 * (x0.den.getD x1.toNat default)) ((x0.den.getD x1.toNat default) * x3)) (by (try simp only [inR] at h9);omega) h8.1;(try simp only [inR] at *);omega),by (have h9:=h.rng;(try simp only [inR] at *);omega),by (have h9:=h.rng;(try simp only [inR] at *);omega),by (have h9:=h.rng;(try simp only [inR] at *);omega),by (have h9:=h.rng;(try simp only [inR] at *);omega),trivial⟩ ?_
        exact congrArg (C90 x0 x1 x2 x3) hR
    exact FnM.go 83 Try.func90 (by kernel_rfl) (by kernel_rfl) (A90 m x0 x1 x2 x3) (by kernel_rfl) (aux _ rfl)
  · intro x0 x1 x2 x3 h hm
    have aux : ∀ R, divide_r (m + 1) x0 x1 x2 x3 = R → slim (C50 x0 x1 x2 x3 R) (A50 m x0 x1 x2 x3) [] := by
      intro R hR
      rw [divide_r] at hR
      refine rg ⟨by (have h9:=h.den;(try simp only [inR] at *);omega),⟨by (have h9:=h.den;(try simp only [inR] at *);omega),by (have h9:=h.den;(try simp only [inR] at *);omega)⟩,trivial⟩ ?_
      revert hR;refine lN (fun i v=>DivI m x0 x1 x3 i v.1 v.2.1 v.2.2) (by (with_reducible exact h.start m)) rfl fun i1 v1 F1 hn1 hI1 hR hK1=>?_
      refine rg trivial ?_
      refine ⟨fun hc1=>?_,fun hc1=>?_⟩
      · have hii1 : i1 < x1.length := by have := of_decide_eq_true hc1; omega
        replace hR:=loopN_step hR hii1
        refine rg ⟨by (intros;omega),trivial⟩ ?_
        refine rg ⟨by (have h9:=h.den;have h8:=gcd_pos (a:=x2) (b:=x3 * ((x1.length:Nat):Int)) (by omega) h9.1.1;omega),by (have h9:=h.den;have h8:=gcd_pos (a:=x2) (b:=x3 * ((x1.length:Nat):Int)) (by omega) h9.1.1;have h7:=tdiv_rng (a:=x2) (b:=implGcd x2 (x3 * ((x1.length:Nat):Int))) (by omega) h8.1;have h6:=tdiv_rng (a:=x3 * ((x1.length:Nat):Int)) (b:=implGcd x2 (x3 * ((x1.length:Nat):Int))) (by (try simp only [inR] at h9);omega) h8.1;(try simp only [inR] at *);omega),by (have h9:=h.den;have h8:=gcd_pos (a:=x2) (b:=x3 * ((x1.length:Nat):Int)) (by omega) h9.1.1;have h7:=tdiv_rng (a:=x2) (b:=implGcd x2 (x3 * ((x1.length:Nat):Int))) (by omega) h8.1;have h6:=tdiv_rng (a:=x3 * ((x1.length:Nat):Int)) (b:=implGcd x2 (x3 * ((x1.length:Nat):Int))) (by (try simp only [inR] at h9);omega) h8.1;(try simp only [inR] at *);omega),ih.1 (estate.mk x0.f x0.p x0.year v1.1 v1.2.1 v1.2.2) (x1.getD i1 default) (x2.tdiv (implGcd x2 (x3 * ((x1.length:Nat):Int)))) ((x3 * ((x1.length:Nat):Int)).tdiv (implGcd x2 (x3 * ((x1.length:Nat):Int)))) (by (with_reducible exact DivI.gv h (Nat.le_of_lt_succ hm) hI1 hii1)) (by (have h9:=lmu_le.1 (Nat.le_of_lt_succ hm) _ (getD_mem (d:=(default:Int)) hii1);dsimp only;omega)),trivial⟩ ?_
        refine rg ⟨by (have h9:=h.n;(try simp only [inR]);omega),trivial⟩ ?_
        exact hK1 ((give_r m (estate.mk x0.f x0.p x0.year v1.1 v1.2.1 v1.2.2) (x1.getD i1 default) (x2.tdiv (implGcd x2 (x3 * ((x1.length:Nat):Int)))) ((x3 * ((x1.length:Nat):Int)).tdiv (implGcd x2 (x3 * ((x1.length:Nat):Int))))).1,(give_r m (estate.mk x0.f x0.p x0.year v1.1 v1.2.1 v1.2.2) (x1.getD i1 default) (x2.tdiv (implGcd x2 (x3 * ((x1.length:Nat):Int)))) ((x3 * ((x1.length:Nat):Int)).tdiv (implGcd x2 (x3 * ((x1.length:Nat):Int))))).2.1,(give_r m (estate.mk x0.f x0.p x0.year v1.1 v1.2.1 v1.2.2) (x1.getD i1 default) (x2.tdiv (implGcd x2 (x3 * ((x1.length:Nat):Int)))) ((x3 * ((x1.length:Nat):Int)).tdiv (implGcd x2 (x3 * ((x1.length:Nat):Int))))).2.2) hii1 (by (dsimp only;with_reducible exact DivI.step h (Nat.le_of_lt_succ hm) hI1 hii1 rfl)) hR
      · obtain rfl : i1 = x1.length := by have := of_decide_eq_false hc1; omega
        replace hR:=loopN_end hR (Nat.lt_irrefl _)
        exact congrArg (C50 x0 x1 x2 x3) hR
    exact FnM.go 34 Try.func50 (by kernel_rfl) (by kernel_rfl) (A50 m x0 x1 x2 x3) (by kernel_rfl) (aux _ rfl)
theorem ok_impl_estate__divide (x0:estate) (x1:List Int) (x2:Int) (x3:Int) (h:DivOk x0 x1 x2 x3):FnMT Try.prog 50 [.vp 900000 0,.own 900004,.int .i64 x2,.int .i64 x3] [.var [.ro false 6 x0.f.people.length (rowOf (cPerson false) x0.f.people),.ro false 4 x0.f.unions.length (rowOf (cUnion false) x0.f.unions),.int .i64 x0.p,.int .i64 x0.year,.own 900001,.own 900002,.own 900003],.arr 1 x0.takes.length (rowOf (cBool) x0.takes),.arr 1 x0.num.length (rowOf (cInt .i64) x0.num),.arr 1 x0.den.length (rowOf (cInt .i64) x0.den),.arr 1 x1.length (rowOf (cInt .i64) x1)] (C50 x0 x1 x2 x3 (divide x0 x1 x2 x3)):=(grp_impl_estate__give 100).2 x0 x1 x2 x3 h (by have h1:=h.n;have h2:lmu x0.f.people.length x1≤81:=lmu_le.2 fun c hc=>(by have:=h1.1.2 c hc;omega);omega)
def k50 (d:Nat) (ids:List Nat) (x0:estate) (x1:List Int) (x2:Int) (x3:Int):Cl:=(hresM d ids (C50 x0 x1 x2 x3 (divide x0 x1 x2 x3)),k1 (ok_impl_estate__divide x0 x1 x2 x3))
def ShJ (f:Family) (p y:Int) (t:List Bool) (nu de:List Int):Prop:=TkEq f p y t∧nu=List.replicate f.people.length (0:Int)∧de=List.replicate f.people.length (1:Int)
structure WhoOk (f : Family) (y : Int) (t : List Bool) (who gen : List Int) : Prop where
  gr:∀ g ∈ gen,0≤g∧g<f.people.length
  glen:gen.length≤40
  wr:∀ c ∈ who,(0≤c∧c<f.people.length)∧t.getD c.toNat default=true
  wlen:who.length≤40
  none:who=[]→∀ g ∈ gen,t.getD g.toNat default=false
  sum:who.length+sN (wt0 f y t) f.people.length≤pairs f
def ShI (f:Family) (p y:Int) (who gen:List Int) (t:List Bool) (nu de:List Int):Prop:=ShJ f p y t nu de∧WhoOk f y t who gen
theorem ones {d : List Int} {n : Nat} (h : d.length = n ∧ ∀ k : Nat, k < n → d.getD k default = 1) : d = List.replicate n 1 := by
  refine List.ext_getElem (by simp [h.1]) fun k h1 h2=>?_
  have:=h.2 k (by omega)
  rw [List.getD_eq_getElem?_getD,List.getElem?_eq_getElem h1,Option.getD_some] at this
  rw [this,List.getElem_replicate]
theorem ShJ.start {f : Family} (hf : specIsFamily f = true) (p y : Int) {d : List Int} (h : d.length = f.people.length ∧ ∀ k : Nat, k < f.people.length → d.getD k default = 1) {v : (List Bool) × (List Int) × (List Int)} (e : v = takePart (estate.mk f p y ([] : List Bool) (List.replicate f.people.length (default : Int)) d)) : ShJ f p y v.1 v.2.1 v.2.2 := by
  have h1:=takePart_eq (estate.mk f p y ([]:List Bool) (List.replicate f.people.length (default:Int)) d) hf
  rw [← e] at h1
  exact ⟨h1.1,by rw [h1.2];rfl,by rw [h1.2];exact ones h⟩
theorem ShI.start {f : Family} (hf : specIsFamily f = true) {p y : Int} (hp : 0 ≤ p ∧ p < f.people.length) {who : List Int} {t : List Bool} {nu de : List Int} (h : ShJ f p y t nu de) (e : who = kidsT f t p) : ShI f p y who [p] t nu de := by
  subst e
  have h0:=h.1.self hp
  refine ⟨h,fun g hg=>by rw [List.mem_singleton.1 hg];exact hp,by simp,fun c hc=>?_,Nat.le_trans (kidsT_len t p) (fam_n hf).1,fun _ g hg=>by rw [List.mem_singleton.1 hg];exact h0,who_down hf hp h0⟩
  have:=kidsT_mem hf hp.1 hc
  exact ⟨⟨by omega,this.1.2⟩,this.2.1⟩
def NextI (f:Family) (gen:List Int) (i:Nat) (l:List Int):Prop:=l.Nodup∧(∀ q ∈ l,(0≤q∧q<i)∧∃ g ∈ gen,isKid f q g.toNat=true)∧l.length≤i
theorem NextI.nil (f:Family) (gen:List Int):NextI f gen 0 []:=⟨List.nodup_nil,fun q hq=>absurd hq List.not_mem_nil,Nat.le_refl _⟩
theorem NextI.skip {f:Family} {gen:List Int} {i:Nat} {l:List Int} (h:NextI f gen i l):NextI f gen (i+1) l:=⟨h.1,fun q hq=>⟨by have:=(h.2.1 q hq).1;omega,(h.2.1 q hq).2⟩,by have:=h.2.2;omega⟩
theorem NextI.snoc {f : Family} {gen : List Int} {i j : Nat} {l : List Int} (h : NextI f gen i l) (hj : j < gen.length) (hp : implParent f ((i : Nat) : Int) (gen.getD j default) = true) : NextI f gen (i + 1) (l ++ [((i : Nat) : Int)]) := by
  refine ⟨?_,fun q hq=>?_,by rw [List.length_append];have:=h.2.2;simp;omega⟩
  · rw [List.nodup_append]
    refine ⟨h.1,by simp,fun a ha b hb e=>?_⟩
    rw [List.mem_singleton.1 hb] at e
    have:=(h.2.1 a ha).1
    omega
  · rcases List.mem_append.1 hq with hq | hq
    · exact h.skip.2.1 q hq
    · rw [List.mem_singleton.1 hq]
      exact ⟨by omega,_,getD_mem hj,hp⟩
def gmu (l:List Int):Nat:=l.foldr (fun c a=>max (c.toNat+1) a) 0
theorem gmu_le : ∀ {l : List Int} {k : Nat}, gmu l ≤ k ↔ ∀ c ∈ l, c.toNat + 1 ≤ k
  | [],k=>by simp [gmu]
  | c :: l, k => by
    have h:=gmu_le (l:=l) (k:=k)
    unfold gmu at h ⊢
    rw [List.foldr_cons]
    constructor
    · intro hh d hd
      rcases List.mem_cons.1 hd with e | hd
      · subst e;omega
      · exact h.1 (by omega) d hd
    · intro hh
      have h1:=hh c (by simp)
      have h2:=h.2 fun d hd=>hh d (by simp [hd])
      omega
theorem NextI.dec {f : Family} (hf : specIsFamily f = true) {gen l : List Int} (hg : ∀ g ∈ gen, 0 ≤ g ∧ g < f.people.length) (h0 : 0 < gen.length) (h : NextI f gen f.people.length l) : gmu l < gmu gen := by
  have h1:=gmu_le.1 (Nat.le_refl (gmu gen))
  have h2 : 1 ≤ gmu gen := by
    have:=h1 _ (getD_mem (d:=(default:Int)) h0);omega
  have h3 : gmu l ≤ gmu gen - 1 := gmu_le.2 fun q hq => by
    obtain ⟨h4,g,h5,h6⟩:=h.2.1 q hq
    have h7:=h1 g h5
    have h8:=hg g h5
    have h9:=fam_p hf (k:=g.toNat) (by omega)
    have hfa:=h9.fa;have hmo:=h9.mo
    simp only [isKid,Bool.or_eq_true,decide_eq_true_eq] at h6
    omega
  omega
theorem ShI.next {f : Family} (hf : specIsFamily f = true) {p y : Int} {who gen l : List Int} {t : List Bool} {nu de : List Int} (h : ShI f p y who gen t nu de) (hw : who = []) (hl : NextI f gen f.people.length l) :
    ShI f p y (taking (estate.mk f p y t nu de) l).1 l (taking (estate.mk f p y t nu de) l).2.1 (taking (estate.mk f p y t nu de) l).2.2.1 (taking (estate.mk f p y t nu de) l).2.2.2:=by
  rw [taking_val]
  have hn:=(fam_n hf).1
  have h1:∀ g ∈ gen,(0≤g∧g<f.people.length)∧t.getD g.toNat default=false:=fun g hg=>⟨h.2.gr g hg,h.2.none hw g hg⟩
  refine ⟨h.1,fun q hq=>(hl.2.1 q hq).1,Nat.le_trans hl.2.2 hn,fun c hc=>?_,Nat.le_trans (List.length_filter_le _ _) (Nat.le_trans hl.2.2 hn),fun e g hg=>?_,?_⟩
  · have := List.mem_filter.1 hc
    exact ⟨(hl.2.1 c this.1).1,this.2⟩
  · rcases hb : t.getD g.toNat default with _ | _
    · rfl
    · have : g ∈ l.filter fun c => t.getD c.toNat default := List.mem_filter.2 ⟨hg, hb⟩
      rw [show (l.filter fun c=>t.getD c.toNat default)=[] from e] at this;cases this
  · exact who_up hf h1 (hl.1.filter _) fun q hq => by
      have:=(List.mem_filter.1 hq).1
      exact hl.2.1 q this
theorem pr_pos {f : Family} {y : Int} {t : List Bool} (ht : TkOk f y t) (n : Nat) : ∀ k : Nat, 0 < pr (wt f y t) n k
  | 0=>Nat.one_pos
  | k + 1 => by
    refine Nat.mul_pos ?_ (pr_pos ht n k)
    unfold wt
    split
    · rename_i h
      simp only [Bool.and_eq_true,Bool.not_eq_true'] at h
      exact List.length_pos_iff.2 ((ht.kid _ (by omega) (by simpa using h.1)).resolve_left (by rw [h.2];simp))
    · exact Nat.one_pos
theorem sum_rep : ∀ n : Nat, (List.replicate n 0).sum = 0
  | 0=>rfl
  | n+1=>by rw [List.replicate_succ,List.sum_cons,sum_rep n]
theorem RepS.start {D : Nat} (h : 0 < D) (n : Nat) : RepS D (List.replicate n 0) (List.replicate n (0 : Int)) (List.replicate n (1 : Int)) := by
  refine ⟨h,by simp,by simp,fun k hk=>?_,fun k hk=>?_⟩
  · rw [List.length_replicate] at hk
    rw [getD_rep,getD_rep,if_pos hk,if_pos hk,Nat.zero_div];rfl
  · rw [List.length_replicate] at hk
    rw [getD_rep,getD_rep,if_pos hk,if_pos hk,Nat.gcd_zero_left,Nat.div_self h];rfl
theorem ShI.div {f : Family} (hf : specIsFamily f = true) {p y : Int} {who gen : List Int} {t : List Bool} {nu de : List Int} (h : ShI f p y who gen t nu de) (hw : 0 < who.length) : DivOk (estate.mk f p y t nu de) who 1 1 := by
  obtain ⟨⟨h1,rfl,rfl⟩,h2⟩:=h
  have hD:0<whole f y t who.length:=Nat.mul_pos hw (pr_pos h1.ok _ _)
  exact ⟨⟨hf,h1.ok⟩,⟨h2.wr,List.length_pos_iff.1 hw,h2.wlen⟩,rfl,1,whole f y t who.length,List.replicate f.people.length 0,⟨rfl,Nat.one_pos⟩,by simp,RepS.start hD _,by rw [sum_rep,Nat.div_one];omega,fun c hc=>who_bdg hf (Nat.le_trans h2.sum (pairs_le hf)) (by have:=h2.wlen;omega) (h2.wr c hc)⟩
theorem ones_step {d : List Int} {n i : Nat} (h : d.length = n ∧ ∀ k : Nat, k < i → d.getD k default = 1) (hi : i < n) : (d.set i 1).length = n ∧ ∀ k : Nat, k < i + 1 → (d.set i 1).getD k default = 1 := by
  refine ⟨by rw [List.length_set];exact h.1,fun k hk=>?_⟩
  rw [getD_set]
  by_cases e:k=i
  · rw [if_pos ⟨e,by omega⟩]
  · rw [if_neg (fun h=>e h.1)];exact h.2 k (by omega)
theorem ShJ.kids {f : Family} (hf : specIsFamily f = true) {p y : Int} {t : List Bool} {nu de : List Int} (h : ShJ f p y t nu de) : ShJ f p y (taking (estate.mk f p y t nu de) (implKids f p)).2.1 (taking (estate.mk f p y t nu de) (implKids f p)).2.2.1 (taking (estate.mk f p y t nu de) (implKids f p)).2.2.2 ∧ (taking (estate.mk f p y t nu de) (implKids f p)).1 = kidsT f (taking (estate.mk f p y t nu de) (implKids f p)).2.1 p := by
  rw [kidsT_taking (x:=estate.mk f p y t nu de) hf p]
  exact ⟨h,rfl⟩
theorem ShJ.lens {f : Family} {p y : Int} {t : List Bool} {nu de : List Int} (h : ShJ f p y t nu de) : t.length = f.people.length ∧ nu.length = f.people.length ∧ de.length = f.people.length := by
  obtain ⟨h1,rfl,rfl⟩:=h
  exact ⟨h1.len,by simp,by simp⟩
theorem div_lens {x : estate} {l : List Int} (h : DivOk x l 1 1) : (divide x l 1 1).2.1.length = x.f.people.length ∧ (divide x l 1 1).2.2.length = x.f.people.length := by
  have hn:=h.n
  obtain ⟨⟨hf,ht⟩,⟨hk,hl,h40⟩,_,d,D,S,⟨e,hd⟩,hS,hR,hs,hb⟩:=h
  have e:d=1:=by omega
  subst e
  have h1:lmu x.f.people.length l≤81:=lmu_le.2 fun c hc=>by have:=(hk c hc).1;omega
  have h2:=((give_sem 100).2 x l 1 D S hf (fun c hc=>(hk c hc).1) (by omega) hd hS hR (fun c hc r hr=>(hb c hc r hr).1)).2
  unfold divide
  exact ⟨h2.ln.trans (((gS_len _ _ _ _).2 _ _ _).trans hS),h2.ld.trans (((gS_len _ _ _ _).2 _ _ _).trans hS)⟩
theorem who_nil {l : List Int} {g : Bool} (h : (decide (((l.length : Nat) : Int) = 0) && g) = true) : l = [] := by
  simp only [Bool.and_eq_true,decide_eq_true_eq] at h
  exact List.eq_nil_of_length_eq_zero (by omega)
theorem gen_pos {l : List Int} {g : Bool} (h : (g && decide (0 < ((l.length : Nat) : Int))) = true) : 0 < l.length := by
  simp only [Bool.and_eq_true,decide_eq_true_eq] at h;omega
theorem who_pos {l : List Int} (h : decide (0 < ((l.length : Nat) : Int)) = true) : 0 < l.length := by
  have:=of_decide_eq_true h;omega
theorem ShI.gr {f:Family} {p y:Int} {who gen:List Int} {t:List Bool} {nu de:List Int} (h:ShI f p y who gen t nu de):∀ g ∈ gen,0≤g∧g<f.people.length:=h.2.gr
theorem ShI.gl {f:Family} {p y:Int} {who gen:List Int} {t:List Bool} {nu de:List Int} (h:ShI f p y who gen t nu de):gen.length≤40:=h.2.glen
end Go.Proofs.Ytikfeeaapenplab
