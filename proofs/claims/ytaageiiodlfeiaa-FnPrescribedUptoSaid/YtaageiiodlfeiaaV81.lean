import Derived.Test.YtaageiiodlfeiaaV80
set_option maxHeartbeats 4000000
set_option linter.unusedSimpArgs false
set_option linter.unusedVariables false
namespace Go.Proofs.Ytaageiiodlfeiaa
open Go Go.Lite Go.Proofs
theorem loopN_fill {α β : Type} (a d : α) (k : List α → β) (n : Nat) : loopN (fun i (v : List α) next => next (v.set i a)) k n 0 (List.replicate n d) = k (List.replicate n a) := by
  have : ∀ (m i : Nat) (l : List α), i + m = n → l.length = n → (∀ j, j < i → l[j]? = some a) → loopN (fun i (v : List α) next => next (v.set i a)) k m i l = k (List.replicate n a) := by
    intro m
    induction m with
    | zero =>
      intro i l h1 h2 h3
      simp only [loopN]
      congr 1
      apply List.ext_getElem?
      intro j
      by_cases hj : j < n
      · rw [h3 j (by omega),List.getElem?_replicate,if_pos hj]
      · rw [List.getElem?_eq_none (by omega),List.getElem?_eq_none (by simp;omega)]
    | succ m ih =>
      intro i l h1 h2 h3
      simp only [loopN]
      refine ih (i + 1) _ (by omega) (by simp [h2]) fun j hj=>?_
      by_cases e : j = i
      · subst e;rw [List.getElem?_set_self (by omega)]
      · rw [List.getElem?_set_ne (Ne.symm e)];exact h3 j (by omega)
  exact this n 0 _ (by omega) (by simp) fun j hj=>absurd hj (Nat.not_lt_zero _)
/-- The two tests of a permutation agree. -/
theorem perm_eq (p : List Int) : implIsPerm p = specIsPerm p := by
  unfold implIsPerm specIsPerm l1Inverse
  rw [show ((p.length : Nat) : Int).toNat = p.length from Int.toNat_natCast _,loopN_fill]
  simp only [decide_true,Bool.not_true,cond_false]
  refine loopN_rel0 (fun i (v : List Bool) (u : List Int)=>v.length = p.length ∧ u.length = p.length ∧ ∀ j,j < p.length → v.getD j default = decide (0 ≤ u.getD j default)) (fun (a : Bool) (b : List Int × Bool)=>a = b.2) ⟨by simp,by simp,fun j hj=>?_⟩ (fun i v u n1 n2 hi hr hn=>?_) (fun v u hr=>rfl)
  · rw [getD_rep,getD_rep,if_pos hj,if_pos hj];rfl
  · obtain ⟨h1,h2,h3⟩:=hr
    cases c1 : decide (p.getD i default < 0)
    · cases c2 : decide (((p.length : Nat) : Int) ≤ p.getD i default)
      · have c1:=of_decide_eq_false c1
        have c2:=of_decide_eq_false c2
        have h4:=h3 (p.getD i default).toNat (by omega)
        rw [h4]
        cases c3 : decide (0 ≤ u.getD (p.getD i default).toNat default)
        · simp only [Bool.or_false,cond_false]
          refine hn _ _ ⟨by simp [h1],by simp [h2],fun j hj=>?_⟩
          rw [getD_set,getD_set]
          by_cases e : j = (p.getD i default).toNat
          · rw [if_pos ⟨e,by omega⟩,if_pos ⟨e,by omega⟩]
            simp
          · rw [if_neg (by omega),if_neg (by omega)];exact h3 j hj
        · simp
      · simp
    · simp
theorem classes_eq (c : Classes) : implIsClasses c = specIsClasses c := by
  unfold implIsClasses specIsClasses l1In
  rw [perm_eq,perm_eq]
  congr 3
  rw [Bool.eq_iff_iff]
  simp only [decide_eq_true_eq]
  omega
theorem given_eq (x : Family) (c : Classes) (g : List Int) (l : Int) : areGiven x c g l = l7Given x c g l := by
  unfold areGiven l7Given
  rw [isFamily_eq,classes_eq]
  congr 1
  refine loopN_rel0 (fun i (v u : Unit)=>True) Eq trivial (fun i v u n1 n2 hi hr hn=>?_) (fun v u hr=>rfl)
  have e : ((decide (g.getD i default < l)) || decide (((c.wife.length : Nat) : Int) ≤ g.getD i default)) = !(l1In (g.getD i default) l (((c.wife.length : Nat) : Int) - 1)) := by
    rw [Bool.eq_iff_iff]
    simp only [l1In,Bool.or_eq_true,decide_eq_true_eq,Bool.not_eq_true',Bool.and_eq_false_iff,decide_eq_false_iff_not]
    omega
  rw [e]
  rw [hn () () trivial]
theorem l7Given_iff (x : Family) (c : Classes) (g : List Int) (l : Int) : l7Given x c g l = true ↔ specIsFamily x = true ∧ specIsClasses c = true ∧ g.length = x.people.length ∧ ∀ j, j < g.length → l ≤ g.getD j default ∧ g.getD j default < c.wife.length := by
  simp only [l7Given,cond_f_iff,or_f_iff,loopN_all,not_f_iff,not_t_iff,l1In,Bool.and_eq_true,decide_eq_true_eq,and_true,and_assoc]
  constructor
  · rintro ⟨h1,h2,h3,h4⟩;exact ⟨h1,h2,by omega,fun j hj=>⟨(h4 j hj).1,by have:=(h4 j hj).2;omega⟩⟩
  · rintro ⟨h1,h2,h3,h4⟩;exact ⟨h1,h2,by omega,fun j hj=>⟨(h4 j hj).1,by have:=(h4 j hj).2;omega⟩⟩
theorem cp_facts {x : Family} {c : Classes} {g : List Int} {p : Int} (h : ((!(l7Given x c g 0)) || (!(l1Has x p))) = false) : (specIsFamily x = true ∧ x.people.length ≤ 40 ∧ g.length = x.people.length) ∧ ((0 ≤ p ∧ p < x.people.length) ∧ 0 ≤ g.getD p.toNat default ∧ g.getD p.toNat default < c.wife.length) ∧
    ∀ i,i < x.people.length → 0 ≤ g.getD i default ∧ g.getD i default < c.wife.length:=by
  simp only [or_f_iff,not_f_iff,l7Given_iff,l1Has_iff] at h
  obtain ⟨⟨h1,h2,h3,h4⟩,h5,_⟩:=h
  exact ⟨⟨h1,(fam_n h1).1,h3⟩,⟨h5,h4 _ (by omega)⟩,fun i hi=>h4 i (by omega)⟩
theorem has1_l1 (x : Family) (p : Int) : implHas x [p] = l1Has x p := by
  rw [Bool.eq_iff_iff,implHas1,l1Has_iff];exact and_comm
theorem cp_facts2 {x : Family} {c : Classes} {g : List Int} {p : Int} (h : ((!(implHas x [p])) || (!(areGiven x c g 0))) = false) : (specIsFamily x = true ∧ x.people.length ≤ 40 ∧ g.length = x.people.length) ∧ ((0 ≤ p ∧ p < x.people.length) ∧ 0 ≤ g.getD p.toNat default ∧ g.getD p.toNat default < c.wife.length) ∧
    ∀ i,i < x.people.length → 0 ≤ g.getD i default ∧ g.getD i default < c.wife.length:=cp_facts (by rw [given_eq,has1_l1,Bool.or_comm] at h;exact h)
def C17 (R : (List Int)) : LV × List (Nat × BC):=(.own 0,[(0,.arr 1 R.length (rowOf (cInt .i64) R))])
def specClassPartners (x0 : Family) (x1 : Classes) (x2 : List Int) (x3 : Int) : (List Int):=bif ((!(l7Given x0 x1 x2 0)) || (!(l1Has x0 x3))) then ([] : List Int) else (loopN (fun i1 (v1 : (List Int)) next=>bif ((((decide (((x0.people.getD x3.toNat default).sex) = 1)) && (decide (((x0.people.getD i1 default).sex) = 2))) && (decide ((x2.getD i1 default) = (x1.wife.getD ((x2.getD x3.toNat default).toNat) default)))) || (((decide (((x0.people.getD x3.toNat default).sex) = 2)) && (decide (((x0.people.getD i1 default).sex) = 1))) && (decide ((x1.wife.getD ((x2.getD i1 default).toNat) default) = (x2.getD x3.toNat default))))) then (next (v1 ++ [((i1 : Nat) : Int)])) else (next v1)) (fun (v1 : (List Int))=>v1) x0.people.length 0 ([] : List Int))
def D17b1 (x0 : Family) (x1 : Classes) (x2 : List Int) (x3 : Int) (i1 : Nat) (v1 : (List Int)) : Dl:=⟨[(27,.int .i64 ((i1 : Nat) : Int)),(9,.own 20009)],[(20009,.arr 1 v1.length (rowOf (cInt .i64) v1))]⟩
def A17b1 (x0 : Family) (x1 : Classes) (x2 : List Int) (x3 : Int) (i1 : Nat) (v1 : (List Int)) : Ann:=r0 1 [2,3,4,5,8,9,25,26,27,28] [4,5,20009] (cn (decide (((i1 : Nat) : Int) < ((x0.people.length : Nat) : Int))) (.reg 2 [] [] [2,3,4,5,8,9,10,25,26,27,87] [4,5,20009] [decide (((x0.people.getD x3.toNat default).sex) = 1),(decide (((x0.people.getD x3.toNat default).sex) = 1)) && (decide (((x0.people.getD i1 default).sex) = 2)),!(((decide (((x0.people.getD x3.toNat default).sex) = 1)) && (decide (((x0.people.getD i1 default).sex) = 2))) && (decide ((x2.getD i1 default) = (x1.wife.getD ((x2.getD x3.toNat default).toNat) default)))),(!(((decide (((x0.people.getD x3.toNat default).sex) = 1)) && (decide (((x0.people.getD i1 default).sex) = 2))) && (decide ((x2.getD i1 default) = (x1.wife.getD ((x2.getD x3.toNat default).toNat) default))))) && (decide (((x0.people.getD x3.toNat default).sex) = 2)),(!(((decide (((x0.people.getD x3.toNat default).sex) = 1)) && (decide (((x0.people.getD i1 default).sex) = 2))) && (decide ((x2.getD i1 default) = (x1.wife.getD ((x2.getD x3.toNat default).toNat) default))))) && ((decide (((x0.people.getD x3.toNat default).sex) = 2)) && (decide (((x0.people.getD i1 default).sex) = 1))),((decide (((x0.people.getD x3.toNat default).sex) = 1)) && (decide (((x0.people.getD i1 default).sex) = 2))) && (decide ((x2.getD i1 default) = (x1.wife.getD ((x2.getD x3.toNat default).toNat) default)))] [pf (0 ≤ (((i1 : Nat) : Int) : Int) ∧ (((i1 : Nat) : Int) : Int) < ((x0.people.length : Nat) : Int)),pf (0 ≤ (x3 : Int) ∧ (x3 : Int) < ((x0.people.length : Nat) : Int)),gt ((decide (((x0.people.getD x3.toNat default).sex) = 1)) && (decide (((x0.people.getD i1 default).sex) = 2))) (pf (0 ≤ (((i1 : Nat) : Int) : Int) ∧ (((i1 : Nat) : Int) : Int) < ((x2.length : Nat) : Int))),gt ((decide (((x0.people.getD x3.toNat default).sex) = 1)) && (decide (((x0.people.getD i1 default).sex) = 2))) (pf (0 ≤ (x3 : Int) ∧ (x3 : Int) < ((x2.length : Nat) : Int))),gt ((decide (((x0.people.getD x3.toNat default).sex) = 1)) && (decide (((x0.people.getD i1 default).sex) = 2))) (pf (0 ≤ ((x2.getD x3.toNat default) : Int) ∧ ((x2.getD x3.toNat default) : Int) < ((x1.wife.length : Nat) : Int))),gt (!(((decide (((x0.people.getD x3.toNat default).sex) = 1)) && (decide (((x0.people.getD i1 default).sex) = 2))) && (decide ((x2.getD i1 default) = (x1.wife.getD ((x2.getD x3.toNat default).toNat) default))))) (pf (0 ≤ (x3 : Int) ∧ (x3 : Int) < ((x0.people.length : Nat) : Int))),gt (!(((decide (((x0.people.getD x3.toNat default).sex) = 1)) && (decide (((x0.people.getD i1 default).sex) = 2))) && (decide ((x2.getD i1 default) = (x1.wife.getD ((x2.getD x3.toNat default).toNat) default))))) (gt (decide (((x0.people.getD x3.toNat default).sex) = 2)) (pf (((!(((decide (((x0.people.getD x3.toNat default).sex) = 1)) && (decide (((x0.people.getD i1 default).sex) = 2))) && (decide ((x2.getD i1 default) = (x1.wife.getD ((x2.getD x3.toNat default).toNat) default))))) && (decide (((x0.people.getD x3.toNat default).sex) = 2))) = true))),gt ((!(((decide (((x0.people.getD x3.toNat default).sex) = 1)) && (decide (((x0.people.getD i1 default).sex) = 2))) && (decide ((x2.getD i1 default) = (x1.wife.getD ((x2.getD x3.toNat default).toNat) default))))) && ((decide (((x0.people.getD x3.toNat default).sex) = 2)) && (decide (((x0.people.getD i1 default).sex) = 1)))) (pf (0 ≤ (((i1 : Nat) : Int) : Int) ∧ (((i1 : Nat) : Int) : Int) < ((x2.length : Nat) : Int))),gt ((!(((decide (((x0.people.getD x3.toNat default).sex) = 1)) && (decide (((x0.people.getD i1 default).sex) = 2))) && (decide ((x2.getD i1 default) = (x1.wife.getD ((x2.getD x3.toNat default).toNat) default))))) && ((decide (((x0.people.getD x3.toNat default).sex) = 2)) && (decide (((x0.people.getD i1 default).sex) = 1)))) (pf (0 ≤ ((x2.getD i1 default) : Int) ∧ ((x2.getD i1 default) : Int) < ((x1.wife.length : Nat) : Int))),gt ((!(((decide (((x0.people.getD x3.toNat default).sex) = 1)) && (decide (((x0.people.getD i1 default).sex) = 2))) && (decide ((x2.getD i1 default) = (x1.wife.getD ((x2.getD x3.toNat default).toNat) default))))) && ((decide (((x0.people.getD x3.toNat default).sex) = 2)) && (decide (((x0.people.getD i1 default).sex) = 1)))) (pf (0 ≤ (x3 : Int) ∧ (x3 : Int) < ((x2.length : Nat) : Int))),gt (!(((decide (((x0.people.getD x3.toNat default).sex) = 1)) && (decide (((x0.people.getD i1 default).sex) = 2))) && (decide ((x2.getD i1 default) = (x1.wife.getD ((x2.getD x3.toNat default).toNat) default))))) (gt ((decide (((x0.people.getD x3.toNat default).sex) = 2)) && (decide (((x0.people.getD i1 default).sex) = 1))) (pf (((!(((decide (((x0.people.getD x3.toNat default).sex) = 1)) && (decide (((x0.people.getD i1 default).sex) = 2))) && (decide ((x2.getD i1 default) = (x1.wife.getD ((x2.getD x3.toNat default).toNat) default))))) && ((decide (((x0.people.getD x3.toNat default).sex) = 2)) && (decide (((x0.people.getD i1 default).sex) = 1)))) = true)))] [] [0,4,1,1,1,5,5,8,5,5,5,5,12,5,5,5,16,5,5,5,5,9,9,9,20,9,9,9,9,13,13,9,24,9,17,17,17,28,17,17,17,32,17,17,17,36,17,17,17,9,40,22] (cn ((((decide (((x0.people.getD x3.toNat default).sex) = 1)) && (decide (((x0.people.getD i1 default).sex) = 2))) && (decide ((x2.getD i1 default) = (x1.wife.getD ((x2.getD x3.toNat default).toNat) default)))) || (((decide (((x0.people.getD x3.toNat default).sex) = 2)) && (decide (((x0.people.getD i1 default).sex) = 1))) && (decide ((x1.wife.getD ((x2.getD i1 default).toNat) default) = (x2.getD x3.toNat default))))) (.reg 1 [] [(2,bsC 90 (cInt .i64) ([((i1 : Nat) : Int)] : List Int)),(3,ap1 91 (cInt .i64) 8 v1 ((i1 : Nat) : Int))] [2,3,4,5,8,9,25,26,27] [4,5,91] [] [] [] [0,4] (r1 1 [2,3,4,5,8,9,25,26,27] [4,5,91] [pf (inR .i64 (((i1 : Nat) : Int) + 1))] [0] (.next 0 [(20009,some 91)] (D17b1 x0 x1 x2 x3 (i1 + 1) (v1 ++ [((i1 : Nat) : Int)]))))) (r1 1 [2,3,4,5,8,9,25,26,27] [4,5,20009] [pf (inR .i64 (((i1 : Nat) : Int) + 1))] [0] (.next 0 [(20009,some 20009)] (D17b1 x0 x1 x2 x3 (i1 + 1) v1))))) (r0 1 [8] [20009] (rt [(0,some 20009)] (C17 v1))))
def A17 (x0 : Family) (x1 : Classes) (x2 : List Int) (x3 : Int) : Ann:=r0 1 [2,3,4,5,8] [4,5] (.reg 1 [] [(3,k37 x0 x1 x2 0),(8,cg (!(!(l7Given x0 x1 x2 0))) (k41 x0 x3))] [2,3,4,5,8,22] [4,5] [!(!(l7Given x0 x1 x2 0)),!(l7Given x0 x1 x2 0)] [] [] [0,1,1,4,1,6] (cn ((!(l7Given x0 x1 x2 0)) || (!(l1Has x0 x3))) (r0 1 [2,3,4,5,8] [4,5] (rt [(0,none)] (C17 ([] : List Int)))) (.reg 1 [] [(0,bsC 23 (cInt .i64) ([] : List Int))] [2,3,4,5,8,9] [4,5,23] [] [] [] [0] (r0 1 [2,3,4,5,8,9,25,26,27] [4,5,23] (lp (D17b1 x0 x1 x2 x3) [] [23] [(20009,some 23)] (D17b1 x0 x1 x2 x3 0 ([] : List Int)) (A17b1 x0 x1 x2 x3))))))
theorem ok_spec_ClassPartners (x0 : Family) (x1 : Classes) (x2 : List Int) (x3 : Int) (hx : x0.people.length ≤ 1048576) (hu : x0.unions.length ≤ 1048576) (hn : ∀ p ∈ x0.people, p.name.length ≤ 1048576) (hw : x1.wife.length ≤ 1048576 ∧ x1.child.length ≤ 1048576) (hg : x2.length ≤ 1048576) : FnT Try.prog 17 [.agg (cFamily false x0), .agg (cClasses false x1), .ro false 1 x2.length (rowOf (cInt .i64) x2), .int .i64 x3] (C17 (specClassPartners x0 x1 x2 x3)) := by
  have aux : ∀ R, specClassPartners x0 x1 x2 x3 = R → slim (C17 R) (A17 x0 x1 x2 x3) [] := by
    intro R hR
    refine rg trivial ?_
    refine rg ⟨⟨by trivial,by trivial,by trivial,by trivial,by trivial⟩,fun hg0=>⟨by trivial,by trivial,by trivial⟩,trivial⟩ ?_
    revert hR;refine cd (fun hc1 hR=>?_) fun hc1 hR=>?_
    ·
      refine rg trivial ?_
      exact congrArg C17 hR
    ·
      refine rg ⟨trivial,trivial⟩ ?_
      refine rg trivial ?_
      revert hR;refine lN (fun i v=>v.length ≤ i) (by trivial) rfl fun i1 v1 F1 hn1 hI1 hR hK1=>?_
      refine rg trivial ?_
      refine ⟨fun hc2=>?_,fun hc2=>?_⟩
      · have hii1 : i1 < x0.people.length:=by have:=of_decide_eq_true hc2;omega
        replace hR:=loopN_step hR hii1
        refine rg ⟨by (intros;omega),by (have h9:=cp_facts (by simpa [or_f_iff] using hc1);have h8:=h9.2.2 i1 hii1;omega),by (have h9:=cp_facts (by simpa [or_f_iff] using hc1);have h8:=h9.2.2 i1 hii1;omega),by (have h9:=cp_facts (by simpa [or_f_iff] using hc1);have h8:=h9.2.2 i1 hii1;omega),by (have h9:=cp_facts (by simpa [or_f_iff] using hc1);have h8:=h9.2.2 i1 hii1;omega),by (have h9:=cp_facts (by simpa [or_f_iff] using hc1);have h8:=h9.2.2 i1 hii1;omega),by ((try clear hR hK1);intros;(try simp only [decide_eq_true_eq,decide_eq_false_iff_not,Bool.or_eq_true,Bool.and_eq_true,or_f_iff,not_f_iff,not_t_iff,Bool.not_eq_true',inR] at *);(repeat' apply And.intro) <;> (intros;omega)),by (have h9:=cp_facts (by simpa [or_f_iff] using hc1);have h8:=h9.2.2 i1 hii1;omega),by (have h9:=cp_facts (by simpa [or_f_iff] using hc1);have h8:=h9.2.2 i1 hii1;omega),by (have h9:=cp_facts (by simpa [or_f_iff] using hc1);have h8:=h9.2.2 i1 hii1;omega),by ((try clear hR hK1);intros;(try simp only [decide_eq_true_eq,decide_eq_false_iff_not,Bool.or_eq_true,Bool.and_eq_true,or_f_iff,not_f_iff,not_t_iff,Bool.not_eq_true',inR] at *);(repeat' apply And.intro) <;> (intros;omega)),trivial⟩ ?_
        revert hR;refine cd (fun hc3 hR=>?_) fun hc3 hR=>?_
        ·
          refine rg ⟨trivial,by omega,trivial⟩ ?_
          refine rg ⟨by ( intros;simp only [inR];omega),trivial⟩ ?_
          exact hK1 (v1 ++ [((i1 : Nat) : Int)]) hii1 (by ((try simp only [decide_eq_true_eq,decide_eq_false_iff_not,List.length_append,List.length_set,List.length_cons,List.length_nil,List.length_replicate] at *);omega)) hR
        ·
          refine rg ⟨by ( intros;simp only [inR];omega),trivial⟩ ?_
          exact hK1 v1 hii1 (by (intros;omega)) hR
      · obtain rfl : i1 = x0.people.length:=by have:=of_decide_eq_false hc2;omega
        replace hR:=loopN_end hR (Nat.lt_irrefl _)
        refine rg trivial ?_
        exact congrArg C17 hR
  exact Fn.go 94 Try.func17 (by kernel_rfl) (by kernel_rfl) (by simp [C17,Frs,FrsL,FrsB,rowOf,cInt,cBool,cStr,cSl,FrsL_app,cPerson,cUnion,cFamily,cClasses]) (A17 x0 x1 x2 x3) (by kernel_rfl) (aux _ rfl)
def k17 (x0 : Family) (x1 : Classes) (x2 : List Int) (x3 : Int) : Cl:=(hres (C17 (specClassPartners x0 x1 x2 x3)),k5 (ok_spec_ClassPartners x0 x1 x2 x3))
def C16 (R : (List Int)) : LV × List (Nat × BC):=(.own 0,[(0,.arr 1 R.length (rowOf (cInt .i64) R))])
def implClassPartners (x0 : Family) (x1 : Classes) (x2 : List Int) (x3 : Int) : (List Int):=bif ((!(implHas x0 [x3])) || (!(areGiven x0 x1 x2 0))) then ([] : List Int) else (loopN (fun i1 (v1 : (List Int)) next=>bif ((((decide (((x0.people.getD x3.toNat default).sex) = 1)) && (decide (((x0.people.getD i1 default).sex) = 2))) && (decide ((x2.getD i1 default) = (x1.wife.getD ((x2.getD x3.toNat default).toNat) default)))) || (((decide (((x0.people.getD x3.toNat default).sex) = 2)) && (decide (((x0.people.getD i1 default).sex) = 1))) && (decide ((x1.wife.getD ((x2.getD i1 default).toNat) default) = (x2.getD x3.toNat default))))) then (next (v1 ++ [((i1 : Nat) : Int)])) else (next v1)) (fun (v1 : (List Int))=>v1) x0.people.length 0 ([] : List Int))
def D16b1 (x0 : Family) (x1 : Classes) (x2 : List Int) (x3 : Int) (i1 : Nat) (v1 : (List Int)) : Dl:=⟨[(27,.int .i64 ((i1 : Nat) : Int)),(9,.own 20009)],[(20009,.arr 1 v1.length (rowOf (cInt .i64) v1))]⟩
def A16b1 (x0 : Family) (x1 : Classes) (x2 : List Int) (x3 : Int) (i1 : Nat) (v1 : (List Int)) : Ann:=r0 1 [2,3,4,5,8,9,25,26,27,28] [4,5,20009] (cn (decide (((i1 : Nat) : Int) < ((x0.people.length : Nat) : Int))) (.reg 2 [] [] [2,3,4,5,8,9,10,25,26,27,87] [4,5,20009] [decide (((x0.people.getD x3.toNat default).sex) = 1),(decide (((x0.people.getD x3.toNat default).sex) = 1)) && (decide (((x0.people.getD i1 default).sex) = 2)),!(((decide (((x0.people.getD x3.toNat default).sex) = 1)) && (decide (((x0.people.getD i1 default).sex) = 2))) && (decide ((x2.getD i1 default) = (x1.wife.getD ((x2.getD x3.toNat default).toNat) default)))),(!(((decide (((x0.people.getD x3.toNat default).sex) = 1)) && (decide (((x0.people.getD i1 default).sex) = 2))) && (decide ((x2.getD i1 default) = (x1.wife.getD ((x2.getD x3.toNat default).toNat) default))))) && (decide (((x0.people.getD x3.toNat default).sex) = 2)),(!(((decide (((x0.people.getD x3.toNat default).sex) = 1)) && (decide (((x0.people.getD i1 default).sex) = 2))) && (decide ((x2.getD i1 default) = (x1.wife.getD ((x2.getD x3.toNat default).toNat) default))))) && ((decide (((x0.people.getD x3.toNat default).sex) = 2)) && (decide (((x0.people.getD i1 default).sex) = 1))),((decide (((x0.people.getD x3.toNat default).sex) = 1)) && (decide (((x0.people.getD i1 default).sex) = 2))) && (decide ((x2.getD i1 default) = (x1.wife.getD ((x2.getD x3.toNat default).toNat) default)))] [pf (0 ≤ (((i1 : Nat) : Int) : Int) ∧ (((i1 : Nat) : Int) : Int) < ((x0.people.length : Nat) : Int)),pf (0 ≤ (x3 : Int) ∧ (x3 : Int) < ((x0.people.length : Nat) : Int)),gt ((decide (((x0.people.getD x3.toNat default).sex) = 1)) && (decide (((x0.people.getD i1 default).sex) = 2))) (pf (0 ≤ (((i1 : Nat) : Int) : Int) ∧ (((i1 : Nat) : Int) : Int) < ((x2.length : Nat) : Int))),gt ((decide (((x0.people.getD x3.toNat default).sex) = 1)) && (decide (((x0.people.getD i1 default).sex) = 2))) (pf (0 ≤ (x3 : Int) ∧ (x3 : Int) < ((x2.length : Nat) : Int))),gt ((decide (((x0.people.getD x3.toNat default).sex) = 1)) && (decide (((x0.people.getD i1 default).sex) = 2))) (pf (0 ≤ ((x2.getD x3.toNat default) : Int) ∧ ((x2.getD x3.toNat default) : Int) < ((x1.wife.length : Nat) : Int))),gt (!(((decide (((x0.people.getD x3.toNat default).sex) = 1)) && (decide (((x0.people.getD i1 default).sex) = 2))) && (decide ((x2.getD i1 default) = (x1.wife.getD ((x2.getD x3.toNat default).toNat) default))))) (pf (0 ≤ (x3 : Int) ∧ (x3 : Int) < ((x0.people.length : Nat) : Int))),gt (!(((decide (((x0.people.getD x3.toNat default).sex) = 1)) && (decide (((x0.people.getD i1 default).sex) = 2))) && (decide ((x2.getD i1 default) = (x1.wife.getD ((x2.getD x3.toNat default).toNat) default))))) (gt (decide (((x0.people.getD x3.toNat default).sex) = 2)) (pf (((!(((decide (((x0.people.getD x3.toNat default).sex) = 1)) && (decide (((x0.people.getD i1 default).sex) = 2))) && (decide ((x2.getD i1 default) = (x1.wife.getD ((x2.getD x3.toNat default).toNat) default))))) && (decide (((x0.people.getD x3.toNat default).sex) = 2))) = true))),gt ((!(((decide (((x0.people.getD x3.toNat default).sex) = 1)) && (decide (((x0.people.getD i1 default).sex) = 2))) && (decide ((x2.getD i1 default) = (x1.wife.getD ((x2.getD x3.toNat default).toNat) default))))) && ((decide (((x0.people.getD x3.toNat default).sex) = 2)) && (decide (((x0.people.getD i1 default).sex) = 1)))) (pf (0 ≤ (((i1 : Nat) : Int) : Int) ∧ (((i1 : Nat) : Int) : Int) < ((x2.length : Nat) : Int))),gt ((!(((decide (((x0.people.getD x3.toNat default).sex) = 1)) && (decide (((x0.people.getD i1 default).sex) = 2))) && (decide ((x2.getD i1 default) = (x1.wife.getD ((x2.getD x3.toNat default).toNat) default))))) && ((decide (((x0.people.getD x3.toNat default).sex) = 2)) && (decide (((x0.people.getD i1 default).sex) = 1)))) (pf (0 ≤ ((x2.getD i1 default) : Int) ∧ ((x2.getD i1 default) : Int) < ((x1.wife.length : Nat) : Int))),gt ((!(((decide (((x0.people.getD x3.toNat default).sex) = 1)) && (decide (((x0.people.getD i1 default).sex) = 2))) && (decide ((x2.getD i1 default) = (x1.wife.getD ((x2.getD x3.toNat default).toNat) default))))) && ((decide (((x0.people.getD x3.toNat default).sex) = 2)) && (decide (((x0.people.getD i1 default).sex) = 1)))) (pf (0 ≤ (x3 : Int) ∧ (x3 : Int) < ((x2.length : Nat) : Int))),gt (!(((decide (((x0.people.getD x3.toNat default).sex) = 1)) && (decide (((x0.people.getD i1 default).sex) = 2))) && (decide ((x2.getD i1 default) = (x1.wife.getD ((x2.getD x3.toNat default).toNat) default))))) (gt ((decide (((x0.people.getD x3.toNat default).sex) = 2)) && (decide (((x0.people.getD i1 default).sex) = 1))) (pf (((!(((decide (((x0.people.getD x3.toNat default).sex) = 1)) && (decide (((x0.people.getD i1 default).sex) = 2))) && (decide ((x2.getD i1 default) = (x1.wife.getD ((x2.getD x3.toNat default).toNat) default))))) && ((decide (((x0.people.getD x3.toNat default).sex) = 2)) && (decide (((x0.people.getD i1 default).sex) = 1)))) = true)))] [] [0,4,1,1,1,5,5,8,5,5,5,5,12,5,5,5,16,5,5,5,5,9,9,9,20,9,9,9,9,13,13,9,24,9,17,17,17,28,17,17,17,32,17,17,17,36,17,17,17,9,40,22] (cn ((((decide (((x0.people.getD x3.toNat default).sex) = 1)) && (decide (((x0.people.getD i1 default).sex) = 2))) && (decide ((x2.getD i1 default) = (x1.wife.getD ((x2.getD x3.toNat default).toNat) default)))) || (((decide (((x0.people.getD x3.toNat default).sex) = 2)) && (decide (((x0.people.getD i1 default).sex) = 1))) && (decide ((x1.wife.getD ((x2.getD i1 default).toNat) default) = (x2.getD x3.toNat default))))) (.reg 1 [] [(2,bsC 90 (cInt .i64) ([((i1 : Nat) : Int)] : List Int)),(3,ap1 91 (cInt .i64) 8 v1 ((i1 : Nat) : Int))] [2,3,4,5,8,9,25,26,27] [4,5,91] [] [] [] [0,4] (r1 1 [2,3,4,5,8,9,25,26,27] [4,5,91] [pf (inR .i64 (((i1 : Nat) : Int) + 1))] [0] (.next 0 [(20009,some 91)] (D16b1 x0 x1 x2 x3 (i1 + 1) (v1 ++ [((i1 : Nat) : Int)]))))) (r1 1 [2,3,4,5,8,9,25,26,27] [4,5,20009] [pf (inR .i64 (((i1 : Nat) : Int) + 1))] [0] (.next 0 [(20009,some 20009)] (D16b1 x0 x1 x2 x3 (i1 + 1) v1))))) (r0 1 [8] [20009] (rt [(0,some 20009)] (C16 v1))))
def A16 (x0 : Family) (x1 : Classes) (x2 : List Int) (x3 : Int) : Ann:=r0 1 [2,3,4,5,8] [4,5] (.reg 1 [] [(2,bsC 14 (cInt .i64) ([x3] : List Int)),(3,k39 x0 [x3]),(9,cg (!(!(implHas x0 [x3]))) (k40 x0 x1 x2 0))] [2,3,4,5,8,23] [4,5] [!(!(implHas x0 [x3])),!(implHas x0 [x3])] [] [] [0,4,1,1,1,8,1,6] (cn ((!(implHas x0 [x3])) || (!(areGiven x0 x1 x2 0))) (r0 1 [2,3,4,5,8] [4,5] (rt [(0,none)] (C16 ([] : List Int)))) (r0 1 [2,3,4,5,8,9] [4,5] (r0 1 [2,3,4,5,8,9,25,26,27] [4,5] (lp (D16b1 x0 x1 x2 x3) [] [] [(20009,none)] (D16b1 x0 x1 x2 x3 0 ([] : List Int)) (A16b1 x0 x1 x2 x3))))))
theorem ok_impl_ClassPartners (x0 : Family) (x1 : Classes) (x2 : List Int) (x3 : Int) (hx : x0.people.length ≤ 1048576) (hu : x0.unions.length ≤ 1048576) (hn : ∀ p ∈ x0.people, p.name.length ≤ 1048576) (hw : x1.wife.length ≤ 1048576 ∧ x1.child.length ≤ 1048576) (hg : x2.length ≤ 1048576) : FnT Try.prog 16 [.agg (cFamily false x0), .agg (cClasses false x1), .ro false 1 x2.length (rowOf (cInt .i64) x2), .int .i64 x3] (C16 (implClassPartners x0 x1 x2 x3)) := by
  have aux : ∀ R, implClassPartners x0 x1 x2 x3 = R → slim (C16 R) (A16 x0 x1 x2 x3) [] := by
    intro R hR
    refine rg trivial ?_
    refine rg ⟨trivial,⟨by trivial,by trivial,by trivial,by ((try simp only [decide_eq_true_eq,decide_eq_false_iff_not,List.length_append,List.length_set,List.length_cons,List.length_nil,List.length_replicate] at *);omega)⟩,fun hg0=>⟨by trivial,by trivial,by trivial,by trivial,by trivial⟩,trivial⟩ ?_
    revert hR;refine cd (fun hc1 hR=>?_) fun hc1 hR=>?_
    ·
      refine rg trivial ?_
      exact congrArg C16 hR
    ·
      refine rg trivial ?_
      refine rg trivial ?_
      revert hR;refine lN (fun i v=>v.length ≤ i) (by trivial) rfl fun i1 v1 F1 hn1 hI1 hR hK1=>?_
      refine rg trivial ?_
      refine ⟨fun hc2=>?_,fun hc2=>?_⟩
      · have hii1 : i1 < x0.people.length:=by have:=of_decide_eq_true hc2;omega
        replace hR:=loopN_step hR hii1
        refine rg ⟨by (intros;omega),by (have h9:=cp_facts2 (by simpa [or_f_iff] using hc1);have h8:=h9.2.2 i1 hii1;omega),by (have h9:=cp_facts2 (by simpa [or_f_iff] using hc1);have h8:=h9.2.2 i1 hii1;omega),by (have h9:=cp_facts2 (by simpa [or_f_iff] using hc1);have h8:=h9.2.2 i1 hii1;omega),by (have h9:=cp_facts2 (by simpa [or_f_iff] using hc1);have h8:=h9.2.2 i1 hii1;omega),by (have h9:=cp_facts2 (by simpa [or_f_iff] using hc1);have h8:=h9.2.2 i1 hii1;omega),by ((try clear hR hK1);intros;(try simp only [decide_eq_true_eq,decide_eq_false_iff_not,Bool.or_eq_true,Bool.and_eq_true,or_f_iff,not_f_iff,not_t_iff,Bool.not_eq_true',inR] at *);(repeat' apply And.intro) <;> (intros;omega)),by (have h9:=cp_facts2 (by simpa [or_f_iff] using hc1);have h8:=h9.2.2 i1 hii1;omega),by (have h9:=cp_facts2 (by simpa [or_f_iff] using hc1);have h8:=h9.2.2 i1 hii1;omega),by (have h9:=cp_facts2 (by simpa [or_f_iff] using hc1);have h8:=h9.2.2 i1 hii1;omega),by ((try clear hR hK1);intros;(try simp only [decide_eq_true_eq,decide_eq_false_iff_not,Bool.or_eq_true,Bool.and_eq_true,or_f_iff,not_f_iff,not_t_iff,Bool.not_eq_true',inR] at *);(repeat' apply And.intro) <;> (intros;omega)),trivial⟩ ?_
        revert hR;refine cd (fun hc3 hR=>?_) fun hc3 hR=>?_
        ·
          refine rg ⟨trivial,by omega,trivial⟩ ?_
          refine rg ⟨by ( intros;simp only [inR];omega),trivial⟩ ?_
          exact hK1 (v1 ++ [((i1 : Nat) : Int)]) hii1 (by ((try simp only [decide_eq_true_eq,decide_eq_false_iff_not,List.length_append,List.length_set,List.length_cons,List.length_nil,List.length_replicate] at *);omega)) hR
        ·
          refine rg ⟨by ( intros;simp only [inR];omega),trivial⟩ ?_
          exact hK1 v1 hii1 (by (intros;omega)) hR
      · obtain rfl : i1 = x0.people.length:=by have:=of_decide_eq_false hc2;omega
        replace hR:=loopN_end hR (Nat.lt_irrefl _)
        refine rg trivial ?_
        exact congrArg C16 hR
  exact Fn.go 94 Try.func16 (by kernel_rfl) (by kernel_rfl) (by simp [C16,Frs,FrsL,FrsB,rowOf,cInt,cBool,cStr,cSl,FrsL_app,cPerson,cUnion,cFamily,cClasses]) (A16 x0 x1 x2 x3) (by kernel_rfl) (aux _ rfl)
def k16 (x0 : Family) (x1 : Classes) (x2 : List Int) (x3 : Int) : Cl:=(hres (C16 (implClassPartners x0 x1 x2 x3)),k5 (ok_impl_ClassPartners x0 x1 x2 x3))
end Go.Proofs.Ytaageiiodlfeiaa
