import Derived.Test.YtaageiiodlfeiaaM283
set_option maxHeartbeats 4000000
set_option linter.unusedSimpArgs false
set_option linter.unusedVariables false
namespace Go.Proofs.Ytaageiiodlfeiaa
open Go Go.Lite Go.Proofs
def C85 (R : (List Int)) : LV × List (Nat × BC):=(.own 0,[(0,.arr 1 R.length (rowOf (cInt .i64) R))])
def specInvPerm (x0 : List Int) : (List Int):=bif (!((l1Inverse x0 ((x0.length : Nat) : Int)).2)) then ([] : List Int) else ((l1Inverse x0 ((x0.length : Nat) : Int)).1)
def A85 (x0 : List Int) : Ann:=.reg 2 [] [(1003,k137 x0 ((x0.length : Nat) : Int))] [2,3,4] [1009] [] [] [] [0] (r0 1 [2,3,13] [1009] (cn (!((l1Inverse x0 ((x0.length : Nat) : Int)).2)) (r0 1 [2,3] [1009] (rt [(0,none)] (C85 ([] : List Int)))) (r0 1 [2] [1009] (rt [(0,some 1009)] (C85 ((l1Inverse x0 ((x0.length : Nat) : Int)).1))))))
theorem specInvPerm_eq (p : List Int) : specInvPerm p = invP p := by
  unfold specInvPerm invP specIsPerm
  cases (l1Inverse p (p.length : Int)).2 <;> rfl
theorem ok_spec_InversePermutation (x0 : List Int) (hx : x0.length ≤ 1048576) : FnT Try.prog 85 [.ro false 1 x0.length (rowOf (cInt .i64) x0)] (C85 (specInvPerm x0)) := by
  have aux : ∀ R, specInvPerm x0 = R → slim (C85 R) (A85 x0) [] := by
    intro R hR
    refine rg ⟨⟨by trivial,by (intros;omega)⟩,trivial⟩ ?_
    refine rg trivial ?_
    revert hR;refine cd (fun hc1 hR=>?_) fun hc1 hR=>?_
    ·
      refine rg trivial ?_
      exact congrArg C85 hR
    ·
      refine rg trivial ?_
      exact congrArg C85 hR
  exact Fn.go 15 Try.func85 (by kernel_rfl) (by kernel_rfl) (by simp [C85,Frs,FrsL,FrsB,rowOf,cInt,cBool,cStr,cSl,FrsL_app,cPerson,cUnion,cFamily,cClasses,cl01Cur,cStep,cKinType,cRule,cRelation]) (A85 x0) (by kernel_rfl) (aux _ rfl)
def k85 (x0 : List Int) : Cl:=(hres (C85 (specInvPerm x0)),k1 (ok_spec_InversePermutation x0))
def C86 (x0 : List Int) (x1 : Int) (x2 : Int) (x3 : List Int) (R : Bool × (List Int)) : LV × List (Nat × BC):=(.bool R.1,[(900000,.arr 1 R.2.length (rowOf (cInt .i64) R.2))])
def l7Link (x0 : List Int) (x1 : Int) (x2 : Int) (x3 : List Int) : Bool × (List Int):=jn (fun K1=>bif ((decide (0 ≤ (x0.getD x1.toNat default))) && (decide ((x0.getD x2.toNat default) < 0))) then (K1 (x0.set x2.toNat (x3.getD ((x0.getD x1.toNat default).toNat) default))) else (K1 x0)) (fun (j1 : (List Int))=>jn (fun K2=>bif ((decide (0 ≤ (j1.getD x2.toNat default))) && (decide ((j1.getD x1.toNat default) < 0))) then (K2 (j1.set x1.toNat ((specInvPerm x3).getD ((j1.getD x2.toNat default).toNat) default))) else (K2 j1)) (fun (j2 : (List Int))=>((decide ((j2.getD x1.toNat default) < 0)) || (decide ((j2.getD x2.toNat default) = (x3.getD ((j2.getD x1.toNat default).toNat) default))),j2)))
def D86j1 (x0 : List Int) (x1 : Int) (x2 : Int) (x3 : List Int) (j1 : (List Int)) : Dl:=⟨[(0,.own 900000)],[(900000,.arr 1 j1.length (rowOf (cInt .i64) j1))]⟩
def D86j2 (x0 : List Int) (x1 : Int) (x2 : Int) (x3 : List Int) (j1 : (List Int)) (j2 : (List Int)) : Dl:=⟨[(0,.own 900000)],[(900000,.arr 1 j2.length (rowOf (cInt .i64) j2))]⟩
def A86j2 (x0 : List Int) (x1 : Int) (x2 : Int) (x3 : List Int) (j1 : (List Int)) (j2 : (List Int)) : Ann:=.reg 1 [] [] [8] [900000] [!(decide ((j2.getD x1.toNat default) < 0)),decide ((j2.getD x1.toNat default) < 0)] [pf (0 ≤ (x1 : Int) ∧ (x1 : Int) < ((j2.length : Nat) : Int)),gt (!(decide ((j2.getD x1.toNat default) < 0))) (pf (0 ≤ (x2 : Int) ∧ (x2 : Int) < ((j2.length : Nat) : Int))),gt (!(decide ((j2.getD x1.toNat default) < 0))) (pf (0 ≤ (x1 : Int) ∧ (x1 : Int) < ((j2.length : Nat) : Int))),gt (!(decide ((j2.getD x1.toNat default) < 0))) (pf (0 ≤ ((j2.getD x1.toNat default) : Int) ∧ ((j2.getD x1.toNat default) : Int) < ((x3.length : Nat) : Int)))] [] [0,1,1,4,1,1,1,8,1,1,1,12,1,1,1,6] (rt [(900000,some 900000)] (C86 x0 x1 x2 x3 ((decide ((j2.getD x1.toNat default) < 0)) || (decide ((j2.getD x2.toNat default) = (x3.getD ((j2.getD x1.toNat default).toNat) default))),j2)))
def A86j1 (x0 : List Int) (x1 : Int) (x2 : Int) (x3 : List Int) (j1 : (List Int)) : Ann:=.join 0 (List Int) (D86j2 x0 x1 x2 x3 j1) [0,1,2,3,8] [900000] (.reg 1 [] [] [0,1,2,3,8,42] [900000] [decide (0 ≤ (j1.getD x2.toNat default))] [pf (0 ≤ (x2 : Int) ∧ (x2 : Int) < ((j1.length : Nat) : Int)),gt (decide (0 ≤ (j1.getD x2.toNat default))) (pf (0 ≤ (x1 : Int) ∧ (x1 : Int) < ((j1.length : Nat) : Int)))] [] [0,1,1,4,1,1,1] (cn ((decide (0 ≤ (j1.getD x2.toNat default))) && (decide ((j1.getD x1.toNat default) < 0))) (.reg 1 [] [(3,k85 x3),(11,stL 900000 (cInt .i64) j1 x1.toNat ((specInvPerm x3).getD ((j1.getD x2.toNat default).toNat) default))] [0,1,2,3,8] [900000] [] [pf (0 ≤ (x2 : Int) ∧ (x2 : Int) < ((j1.length : Nat) : Int)),pf (0 ≤ ((j1.getD x2.toNat default) : Int) ∧ ((j1.getD x2.toNat default) : Int) < (((specInvPerm x3).length : Nat) : Int)),pf (0 ≤ (x1 : Int) ∧ (x1 : Int) < ((j1.length : Nat) : Int))] [] [12,0,4,8,16] (.next 0 [(900000,some 900000)] (D86j2 x0 x1 x2 x3 j1 (j1.set x1.toNat ((specInvPerm x3).getD ((j1.getD x2.toNat default).toNat) default))))) (.next 0 [(900000,some 900000)] (D86j2 x0 x1 x2 x3 j1 j1)))) (A86j2 x0 x1 x2 x3 j1)
def A86 (x0 : List Int) (x1 : Int) (x2 : Int) (x3 : List Int) : Ann:=r0 1 [0,1,2,3,8] [900000] (.join 0 (List Int) (D86j1 x0 x1 x2 x3) [0,1,2,3,8] [900000] (.reg 1 [] [] [0,1,2,3,8,20] [900000] [decide (0 ≤ (x0.getD x1.toNat default))] [pf (0 ≤ (x1 : Int) ∧ (x1 : Int) < ((x0.length : Nat) : Int)),gt (decide (0 ≤ (x0.getD x1.toNat default))) (pf (0 ≤ (x2 : Int) ∧ (x2 : Int) < ((x0.length : Nat) : Int)))] [] [0,1,1,4,1,1,1] (cn ((decide (0 ≤ (x0.getD x1.toNat default))) && (decide ((x0.getD x2.toNat default) < 0))) (.reg 1 [] [(10,stL 900000 (cInt .i64) x0 x2.toNat (x3.getD ((x0.getD x1.toNat default).toNat) default))] [0,1,2,3,8] [900000] [] [pf (0 ≤ (x1 : Int) ∧ (x1 : Int) < ((x0.length : Nat) : Int)),pf (0 ≤ ((x0.getD x1.toNat default) : Int) ∧ ((x0.getD x1.toNat default) : Int) < ((x3.length : Nat) : Int)),pf (0 ≤ (x2 : Int) ∧ (x2 : Int) < ((x0.length : Nat) : Int))] [] [0,4,8,12] (.next 0 [(900000,some 900000)] (D86j1 x0 x1 x2 x3 (x0.set x2.toNat (x3.getD ((x0.getD x1.toNat default).toNat) default))))) (.next 0 [(900000,some 900000)] (D86j1 x0 x1 x2 x3 x0)))) (A86j1 x0 x1 x2 x3))
theorem ok_spec_l7Link (x0 : List Int) (x1 : Int) (x2 : Int) (x3 : List Int) (hm : x0.length ≤ 1048576) (ha : 0 ≤ x1 ∧ x1 < x0.length) (hb : 0 ≤ x2 ∧ x2 < x0.length) (hp : LinkP x3) (hv : ∀ y ∈ x0, y < x3.length) : FnMT Try.prog 86 [.own 900000, .int .i64 x1, .int .i64 x2, .ro false 1 x3.length (rowOf (cInt .i64) x3)] [.arr 1 x0.length (rowOf (cInt .i64) x0)] (C86 x0 x1 x2 x3 (l7Link x0 x1 x2 x3)) := by
  have aux : ∀ R, l7Link x0 x1 x2 x3 = R → slim (C86 x0 x1 x2 x3 R) (A86 x0 x1 x2 x3) [] := by
    intro R hR
    refine rg trivial ?_
    revert hR;refine jN (fun v=>(v : List Int).length = x0.length ∧ ∀ y ∈ (v : List Int),y < x3.length) (fun F101 hR hJ101=>?_) (fun j1 hR hJ1=>?_)
    ·
      refine rg ⟨by with_reducible assumption,by (intros;omega),trivial⟩ ?_
      revert hR;refine cd (fun hc1 hR=>?_) fun hc1 hR=>?_
      ·
        refine rg ⟨by with_reducible assumption,by ((have h9:=hp.2.1;have h8:=specInvPerm_eq x3;(try simp only [Bool.and_eq_true,decide_eq_true_eq,or_f_iff,decide_eq_false_iff_not] at hc1);(try simp only [Bool.and_eq_true,decide_eq_true_eq] at hc2);(try have h7:=hv _ (getD_mem (d:=default) (l:=x0) (k:=x1.toNat) (by omega)));(try have h6:=hJ1.2 _ (getD_mem (d:=default) (l:=j1) (k:=x2.toNat) (by omega)));(try have h5:=hJ2.2 _ (getD_mem (d:=default) (l:=j2) (k:=x1.toNat) (by omega)));(try have h4:=hJ1.1);(try have h3:=hJ2.1);(try rw [h8]);omega)),by with_reducible assumption,by (intros;omega),trivial⟩ ?_
        exact hJ101 (x0.set x2.toNat (x3.getD ((x0.getD x1.toNat default).toNat) default)) hR (by ((have h9:=hp.2.1;have h8:=specInvPerm_eq x3;(try simp only [Bool.and_eq_true,decide_eq_true_eq,or_f_iff,decide_eq_false_iff_not] at hc1);(try simp only [Bool.and_eq_true,decide_eq_true_eq] at hc2);(try have h7:=hv _ (getD_mem (d:=default) (l:=x0) (k:=x1.toNat) (by omega)));(try have h6:=hJ1.2 _ (getD_mem (d:=default) (l:=j1) (k:=x2.toNat) (by omega)));(try have h5:=hJ2.2 _ (getD_mem (d:=default) (l:=j2) (k:=x1.toNat) (by omega)));(try have h4:=hJ1.1);(try have h3:=hJ2.1);(try rw [h8]);exact link_set ⟨rfl,hv⟩ (hp.2.2.1 _ (getD_mem (by omega))).2)))
      ·
        exact hJ101 x0 hR (by (exact ⟨rfl,hv⟩))
    ·
      revert hR;refine jN (fun v=>(v : List Int).length = x0.length ∧ ∀ y ∈ (v : List Int),y < x3.length) (fun F102 hR hJ102=>?_) (fun j2 hR hJ2=>?_)
      ·
        refine rg ⟨by (intros;omega),by (intros;omega),trivial⟩ ?_
        revert hR;refine cd (fun hc2 hR=>?_) fun hc2 hR=>?_
        ·
          refine rg ⟨by (intros;omega),by ((have h9:=hp.2.1;have h8:=specInvPerm_eq x3;(try simp only [Bool.and_eq_true,decide_eq_true_eq,or_f_iff,decide_eq_false_iff_not] at hc1);(try simp only [Bool.and_eq_true,decide_eq_true_eq] at hc2);(try have h7:=hv _ (getD_mem (d:=default) (l:=x0) (k:=x1.toNat) (by omega)));(try have h6:=hJ1.2 _ (getD_mem (d:=default) (l:=j1) (k:=x2.toNat) (by omega)));(try have h5:=hJ2.2 _ (getD_mem (d:=default) (l:=j2) (k:=x1.toNat) (by omega)));(try have h4:=hJ1.1);(try have h3:=hJ2.1);(try rw [h8]);omega)),by (intros;omega),by ((have h9:=hp.1;omega)),by (intros;omega),trivial⟩ ?_
          exact hJ102 (j1.set x1.toNat ((specInvPerm x3).getD ((j1.getD x2.toNat default).toNat) default)) hR (by ((have h9:=hp.2.1;have h8:=specInvPerm_eq x3;(try simp only [Bool.and_eq_true,decide_eq_true_eq,or_f_iff,decide_eq_false_iff_not] at hc1);(try simp only [Bool.and_eq_true,decide_eq_true_eq] at hc2);(try have h7:=hv _ (getD_mem (d:=default) (l:=x0) (k:=x1.toNat) (by omega)));(try have h6:=hJ1.2 _ (getD_mem (d:=default) (l:=j1) (k:=x2.toNat) (by omega)));(try have h5:=hJ2.2 _ (getD_mem (d:=default) (l:=j2) (k:=x1.toNat) (by omega)));(try have h4:=hJ1.1);(try have h3:=hJ2.1);(try rw [h8]);exact link_set hJ1 (hp.2.2.2 _ (getD_mem (by omega))).2)))
        ·
          exact hJ102 j1 hR (by with_reducible assumption)
      ·
        refine rg ⟨by (intros;omega),by (intros;omega),by (intros;omega),by ((try clear hR);intros;(try simp only [decide_eq_true_eq,decide_eq_false_iff_not,Bool.or_eq_true,Bool.and_eq_true,or_f_iff,not_f_iff,not_t_iff,Bool.not_eq_true',inR] at *);(repeat' apply And.intro) <;> (first | (intros;omega) | ((have h9:=hp.2.1;have h8:=specInvPerm_eq x3;(try simp only [Bool.and_eq_true,decide_eq_true_eq,or_f_iff,decide_eq_false_iff_not] at hc1);(try simp only [Bool.and_eq_true,decide_eq_true_eq] at hc2);(try have h7:=hv _ (getD_mem (d:=default) (l:=x0) (k:=x1.toNat) (by omega)));(try have h6:=hJ1.2 _ (getD_mem (d:=default) (l:=j1) (k:=x2.toNat) (by omega)));(try have h5:=hJ2.2 _ (getD_mem (d:=default) (l:=j2) (k:=x1.toNat) (by omega)));(try have h4:=hJ1.1);(try have h3:=hJ2.1);(try rw [h8]);omega)))),trivial⟩ ?_
        exact congrArg (C86 x0 x1 x2 x3) hR
  exact FnM.go 73 Try.func86 (by kernel_rfl) (by kernel_rfl) (A86 x0 x1 x2 x3) (by kernel_rfl) (aux _ rfl)
def k86 (d : Nat) (ids : List Nat) (x0 : List Int) (x1 : Int) (x2 : Int) (x3 : List Int) : Cl:=(hresM d ids (C86 x0 x1 x2 x3 (l7Link x0 x1 x2 x3)),k5 (ok_spec_l7Link x0 x1 x2 x3))
theorem samp_link {c : Classes} (h : Samp c) : LinkP c.child ∧ LinkP c.wife ∧ LinkP (l6Compose (specInvPerm c.wife) c.child) ∧ c.child.length = c.wife.length ∧ (l6Compose (specInvPerm c.wife) c.child).length = c.wife.length ∧ 1 ≤ c.wife.length ∧ c.wife.length ≤ 8 ∧ (specInvPerm c.wife).length ≤ 1000 ∧ ∀ x ∈ specInvPerm c.wife, 0 ≤ x ∧ x < c.child.length := by
  rcases h with rfl | rfl | rfl <;> exact ⟨by unfold LinkP;decide,by unfold LinkP;decide,by unfold LinkP;decide,by decide,by decide,by decide,by decide,by decide,by decide⟩
/-- Marks of a family's people. -/
structure MkOk (x : Family) (c : Classes) (m : List Int) : Prop where
  f : specIsFamily x = true
  s : Samp c
  l : m.length = x.people.length
  r : ∀ y ∈ m,y < c.wife.length
theorem l7Link_ok {m : List Int} {a b : Int} {p : List Int} (ha : 0 ≤ a ∧ a < m.length) (hb : 0 ≤ b ∧ b < m.length) (hp : LinkP p) (hv : ∀ y ∈ m, y < p.length) : (l7Link m a b p).2.length = m.length ∧ ∀ y ∈ (l7Link m a b p).2, y < p.length := by
  unfold l7Link jn
  have go : ∀ j1 : List Int, (j1.length = m.length ∧ ∀ y ∈ j1, y < p.length) → (bif ((decide (0 ≤ (j1.getD b.toNat default))) && (decide ((j1.getD a.toNat default) < 0))) then ((fun (j2 : List Int) => ((decide ((j2.getD a.toNat default) < 0)) || (decide ((j2.getD b.toNat default) = (p.getD ((j2.getD a.toNat default).toNat) default))), j2)) (j1.set a.toNat ((specInvPerm p).getD ((j1.getD b.toNat default).toNat) default))) else ((fun (j2 : List Int) => ((decide ((j2.getD a.toNat default) < 0)) || (decide ((j2.getD b.toNat default) = (p.getD ((j2.getD a.toNat default).toNat) default))), j2)) j1)).2.length = m.length ∧ ∀ y ∈ (bif ((decide (0 ≤ (j1.getD b.toNat default))) && (decide ((j1.getD a.toNat default) < 0))) then ((fun (j2 : List Int) => ((decide ((j2.getD a.toNat default) < 0)) || (decide ((j2.getD b.toNat default) = (p.getD ((j2.getD a.toNat default).toNat) default))), j2)) (j1.set a.toNat ((specInvPerm p).getD ((j1.getD b.toNat default).toNat) default))) else ((fun (j2 : List Int) => ((decide ((j2.getD a.toNat default) < 0)) || (decide ((j2.getD b.toNat default) = (p.getD ((j2.getD a.toNat default).toNat) default))), j2)) j1)).2, y < p.length := fun j1 h1 => by
    refine cond_both (p:=fun (r : Bool × List Int)=>r.2.length = m.length ∧ ∀ y ∈ r.2,y < p.length) (fun c1=>?_) (fun _=>h1)
    simp only [Bool.and_eq_true,decide_eq_true_eq] at c1
    have h6:=h1.2 _ (getD_mem (d:=default) (l:=j1) (k:=b.toNat) (by omega))
    have h8:=specInvPerm_eq p
    refine link_set h1 (hp.2.2.2 _ ?_).2
    rw [h8];exact getD_mem (by have:=hp.2.1;omega)
  refine cond_both (p:=fun (r : Bool × List Int)=>r.2.length = m.length ∧ ∀ y ∈ r.2,y < p.length) (fun c1=>go _ ?_) (fun _=>go _ ⟨rfl,hv⟩)
  simp only [Bool.and_eq_true,decide_eq_true_eq] at c1
  have h7:=hv _ (getD_mem (d:=default) (l:=m) (k:=a.toNat) (by omega))
  exact link_set ⟨rfl,hv⟩ (hp.2.2.1 _ (getD_mem (by omega))).2
theorem link_mk {x : Family} {c : Classes} {m : List Int} (h : MkOk x c m) {a b : Int} {p : List Int} (ha : 0 ≤ a ∧ a < x.people.length) (hb : 0 ≤ b ∧ b < x.people.length) (hp : LinkP p) (hl : p.length = c.wife.length) : MkOk x c (l7Link m a b p).2 := by
  have h1:=l7Link_ok (m:=m) (a:=a) (b:=b) (by rw [h.l];exact ha) (by rw [h.l];exact hb) hp (by rw [hl];exact h.r)
  exact ⟨h.f,h.s,by rw [h1.1];exact h.l,fun y hy=>by have:=h1.2 y hy;omega⟩
theorem mk_lt {x : Family} {c : Classes} {m : List Int} (h : MkOk x c m) {p : List Int} (hl : p.length = c.wife.length) : ∀ y ∈ m,y < p.length:=fun y hy=>by have:=h.r y hy;omega
theorem dad_rng {x : Family} (h : specIsFamily x = true) {k : Nat} (hk : k < x.people.length) : (x.people.getD k default).father < x.people.length ∧ (x.people.getD k default).mother < x.people.length := by
  have:=isFamily_par x h k hk;omega
theorem wed_rng {x : Family} (h : specIsFamily x = true) {k : Nat} (hk : k < x.unions.length) : (0 ≤ (x.unions.getD k default).man ∧ (x.unions.getD k default).man < x.people.length) ∧ 0 ≤ (x.unions.getD k default).woman ∧ (x.unions.getD k default).woman < x.people.length := by
  have:=fam_u h hk
  exact ⟨this.man,this.woman⟩
theorem mk_set {x : Family} {c : Classes} {m : List Int} (h : MkOk x c m) {k : Nat} {v : Int} (hv : v < c.wife.length) : MkOk x c (m.set k v):=⟨h.f,h.s,by rw [List.length_set];exact h.l,(link_set ⟨rfl,h.r⟩ hv).2⟩
end Go.Proofs.Ytaageiiodlfeiaa
