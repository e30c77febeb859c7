import Derived.Test.YtkkijpibajigfaaV101
set_option maxHeartbeats 4000000
set_option linter.unusedSimpArgs false
set_option linter.unusedVariables false
namespace Go.Proofs.Ytkkijpibajigfaa
open Go Go.Lite Go.Proofs
/-- The other partner, by the two programs. -/
theorem other_l1 {u : Union} (p : Int) (hm : 0 ≤ u.man) (hw : 0 ≤ u.woman) : other u p = (bif (l1Other u p).2 then (l1Other u p).1 else -1) ∧ decide (other u p < 0) = !(l1Other u p).2 ∧ decide (0 ≤ other u p) = (l1Other u p).2 := by
  unfold other l1Other
  by_cases h1 : u.man = p
  · rw [decide_eq_true h1.symm,decide_eq_true h1]
    simp only [cond_true]
    exact ⟨trivial,by rw [decide_eq_false (by omega)];rfl,decide_eq_true hw⟩
  · rw [decide_eq_false (Ne.symm h1),decide_eq_false h1]
    simp only [cond_false]
    by_cases h2 : u.woman = p
    · rw [decide_eq_true h2.symm,decide_eq_true h2]
      simp only [cond_true]
      exact ⟨trivial,by rw [decide_eq_false (by omega)];rfl,decide_eq_true hm⟩
    · rw [decide_eq_false (Ne.symm h2),decide_eq_false h2]
      simp
theorem l1Other_in {x : Family} (hf : specIsFamily x = true) {k : Nat} (hk : k < x.unions.length) (p : Int) : 0 ≤ (l1Other (x.unions.getD k default) p).1 ∧ (l1Other (x.unions.getD k default) p).1 < x.people.length := by
  have hu:=fam_u hf hk
  have h1:=hu.man;have h2:=hu.woman
  unfold l1Other
  exact cond_both (p:=fun (r : Int × Bool)=>0 ≤ r.1 ∧ r.1 < x.people.length) (fun _=>h2) (fun _=>h1)
theorem ends_eq {x : Family} (hf : specIsFamily x = true) {k : Nat} (hk : k < x.unions.length) : (unionEnd x (x.unions.getD k default)).2 = (l1End x (x.unions.getD k default)).2 ∧ ((l1End x (x.unions.getD k default)).2 = true → (unionEnd x (x.unions.getD k default)).1 = (l1End x (x.unions.getD k default)).1) := by
  have hu:=fam_u hf hk
  have h1:=hu.man;have h2:=hu.woman;have h3:=hu.to;have h4:=hu.from0
  have p1:=fam_p hf (k:=(x.unions.getD k default).man.toNat) (by omega)
  have p2:=fam_p hf (k:=(x.unions.getD k default).woman.toNat) (by omega)
  have b1:=p1.born;have b2:=p2.born;have d1:=p1.died;have d2:=p2.died
  unfold unionEnd l1End
  generalize x.unions.getD k default = u at *
  generalize x.people.getD u.man.toNat default = a at *
  generalize x.people.getD u.woman.toNat default = b at *
  by_cases e1 : u.to = -1
  · rw [decide_eq_true e1,decide_eq_false (show ¬ 0 ≤ u.to by omega)]
    simp only [Bool.not_true,cond_false]
    by_cases e2 : a.died = -1
    · rw [decide_eq_true e2,decide_eq_true (show a.died < 0 by omega)]
      by_cases e3 : b.died = -1
      · rw [decide_eq_true (show b.died < 0 by omega),e3];simp
      · rw [decide_eq_false (show ¬ b.died < 0 by omega),decide_eq_false e3];simp;omega
    · rw [decide_eq_false e2,decide_eq_false (show ¬ a.died < 0 by omega)]
      by_cases e3 : b.died = -1
      · rw [decide_eq_true e3,decide_eq_true (show b.died < 0 by omega),decide_eq_false (show ¬ 0 ≤ b.died by omega)];simp
      · rw [decide_eq_false e3,decide_eq_false (show ¬ b.died < 0 by omega),decide_eq_true (show 0 ≤ b.died by omega)]
        by_cases e4 : b.died < a.died
        · rw [decide_eq_true e4];simp;omega
        · rw [decide_eq_false e4];simp;omega
  · rw [decide_eq_false e1,decide_eq_true (show 0 ≤ u.to by omega)];simp
theorem married_eq {x : Family} (hf : specIsFamily x = true) {p : Int} (hp : 0 ≤ p ∧ p < x.people.length) (y : Int) : marriedAt x p y = specMarried x p y := by
  unfold marriedAt specMarried
  rw [(l1Has_iff x p).2 ⟨hp,hf⟩]
  simp only [Bool.not_true,cond_false]
  refine loopN_rel0 (fun i v u=>v = u) Eq rfl (fun i v u n1 n2 hi hr hn=>?_) (fun v u hr=>hr)
  have hu:=fam_u hf hi
  obtain ⟨o1,o2,o3⟩:=other_l1 (u:=x.unions.getD i default) p hu.man.1 hu.woman.1
  obtain ⟨q1,q2⟩:=ends_eq hf hi
  rw [o2,o1,q1]
  cases (l1Other (x.unions.getD i default) p).2
  · simp only [Bool.not_false,Bool.true_or,cond_true,Bool.false_and,cond_false];exact hn _ _ hr
  · simp only [Bool.not_true,Bool.false_or,cond_true,Bool.true_and]
    by_cases h1 : y < (x.unions.getD i default).from0
    · rw [decide_eq_true h1,decide_eq_false (show ¬ (x.unions.getD i default).from0 ≤ y by omega)]
      simp only [cond_true,Bool.false_and,cond_false];exact hn _ _ hr
    · rw [decide_eq_false h1,decide_eq_true (show (x.unions.getD i default).from0 ≤ y by omega)]
      simp only [cond_false,Bool.true_and]
      cases h2 : (l1End x (x.unions.getD i default)).2
      · simp only [Bool.not_false,Bool.true_or,cond_true];exact hn _ _ (by rw [hr])
      · rw [q2 h2]
        simp only [Bool.not_true,Bool.false_or]
        cases decide (y < (l1End x (x.unions.getD i default)).1)
        · exact hn _ _ hr
        · exact hn _ _ (by rw [hr])
theorem founder_eq (x : Family) (p s : Int) (hs : s = 1 ∨ s = 2) : founder x p s = l7Founder x p s := by
  unfold founder l7Founder up
  congr 1
  funext v next
  rcases hs with rfl | rfl
  · simp only [decide_true,cond_true,show decide ((1 : Int) = 2) = false from rfl,cond_false]
    by_cases h : (x.people.getD v.toNat default).father < 0
    · rw [decide_eq_true h,decide_eq_false (by omega)];rfl
    · rw [decide_eq_false h,decide_eq_true (by omega)];rfl
  · simp only [decide_true,cond_true,show decide ((2 : Int) = 1) = false from rfl,cond_false]
    by_cases h : (x.people.getD v.toNat default).mother < 0
    · rw [decide_eq_true h,decide_eq_false (by omega)];rfl
    · rw [decide_eq_false h,decide_eq_true (by omega)];rfl
theorem closeKin_eq {x : Family} (hf : specIsFamily x = true) {a b : Int} (ha : 0 ≤ a ∧ a < x.people.length) (hb : 0 ≤ b ∧ b < x.people.length) (d : Int) : closeKin x a b d = l9Close x a b d := by
  unfold closeKin l9Close specCivil
  rw [linkOf_core x a b hf ha hb]
theorem affine_eq {x : Family} (hf : specIsFamily x = true) {q : Int} (hq : 0 ≤ q ∧ q < x.people.length) (l : Law) (p y : Int) : isAffine x l p q y = l9Affine x p q y l.affinity := by
  unfold isAffine l9Affine
  refine loopN_rel0 (fun i v u=>True) Eq trivial (fun i v u n1 n2 hi hr hn=>?_) (fun v u hr=>rfl)
  have hu:=fam_u hf hi
  obtain ⟨o1,o2,o3⟩:=other_l1 (u:=x.unions.getD i default) p hu.man.1 hu.woman.1
  rw [o3,o1]
  cases h : (l1Other (x.unions.getD i default) p).2
  · simp only [Bool.and_false,Bool.false_and,cond_false];exact hn _ _ trivial
  · simp only [cond_true,Bool.and_true,Bool.true_and]
    rw [closeKin_eq hf (l1Other_in hf hi p) hq,Bool.and_comm (decide ((x.unions.getD i default).from0 ≤ y)),hn () () trivial]
end Go.Proofs.Ytkkijpibajigfaa
