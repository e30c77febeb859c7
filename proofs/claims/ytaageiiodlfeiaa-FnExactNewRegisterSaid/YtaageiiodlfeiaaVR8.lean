import Derived.Test.YtaageiiodlfeiaaM230
set_option maxHeartbeats 4000000
set_option linter.unusedSimpArgs false
set_option linter.unusedVariables false
namespace Go.Proofs.Ytaageiiodlfeiaa
open Go Go.Lite Go.Proofs
theorem in_not (n lo hi : Int) : (!(l1In n lo hi)) = (decide (n < lo) || decide (hi < n)) := by
  unfold l1In
  rw [Bool.eq_iff_iff]
  simp only [Bool.not_eq_true', Bool.and_eq_false_iff, decide_eq_false_iff_not, Bool.or_eq_true, decide_eq_true_eq]
  omega
theorem stepFits_eq (s : Step) (x : Int) : stepFits s x = l3Step s x := by
  unfold stepFits l3Step
  rw [in_not, in_not, Bool.or_assoc (decide (s.kind < 1) || decide (8 < s.kind))]
  cases (decide (s.kind < 1) || decide (8 < s.kind)) || (decide (s.age < 0) || decide (2 < s.age)) with
  | true => rfl
  | false =>
    cases (!decide (s.age = 0)) && (!decide (s.kind = 3)) && (!decide (s.kind = 4)) with
    | true => rfl
    | false => cases decide (s.kind = 7) <;> cases decide (x = 1) <;> cases decide (s.kind = 8) <;> cases decide (x = 2) <;> rfl
theorem type_eq (t : KinType) : implIsType t = specIsType t := by
  unfold implIsType specIsType
  rw [in_not]
  have e : (fun i1 (v1 : Int) (next : Int → Bool) => bif (!(stepFits (t.steps.getD i1 default) v1)) then false else (next (stepSex ((t.steps.getD i1 default).kind)))) = fun i1 (v1 : Int) next => bif (!(l3Step (t.steps.getD i1 default) v1)) then false else (next (l3Sex ((t.steps.getD i1 default).kind))) := by
    funext i v next
    rw [stepFits_eq]; rfl
  rw [e]
theorem sexOf_eq (t : KinType) : sexOf t = l3Last t := rfl
theorem before_at {a b : List Step} (hl : a.length = b.length) {i : Nat} (hi : i ≤ a.length) (h : ∀ k : Nat, k < i → (a.getD k default).kind = (b.getD k default).kind ∧ (a.getD k default).age = (b.getD k default).age) :
    l4Before a b = if i < a.length then (bif (!decide ((a.getD i default).kind = (b.getD i default).kind)) then decide ((a.getD i default).kind < (b.getD i default).kind) else bif (!decide ((a.getD i default).age = (b.getD i default).age)) then decide ((a.getD i default).age < (b.getD i default).age) else l4Before a b) else false := by
  have e : l4Before a b = loopN (fun i1 (v1 : Unit) next => bif (!decide (((a.getD i1 default).kind) = ((b.getD i1 default).kind))) then (decide (((a.getD i1 default).kind) < ((b.getD i1 default).kind))) else (bif (!decide (((a.getD i1 default).age) = ((b.getD i1 default).age))) then (decide (((a.getD i1 default).age) < ((b.getD i1 default).age))) else (next ()))) (fun (v1 : Unit) => false) (a.length - i) i () := by
    unfold l4Before
    rw [decide_eq_true (show ((a.length : Nat) : Int) = ((b.length : Nat) : Int) by omega)]
    simp only [Bool.not_true, cond_false]
    exact loopN_skip i hi fun x next hx => by
      obtain ⟨h1, h2⟩ := h x hx
      rw [h1, h2]; simp
  by_cases c : i < a.length
  · rw [if_pos c]
    cases hk : decide ((a.getD i default).kind = (b.getD i default).kind) with
    | false =>
      rw [e, show a.length - i = (a.length - i - 1) + 1 by omega, loopN]
      rw [hk]; rfl
    | true =>
      cases hg : decide ((a.getD i default).age = (b.getD i default).age) with
      | false =>
        rw [e, show a.length - i = (a.length - i - 1) + 1 by omega, loopN]
        rw [hk, hg]; rfl
      | true => rfl
  · rw [if_neg c, e, show a.length - i = 0 by omega]; rfl
theorem cmp_dec (x y : Int) (h : ¬ x = y) : decide (0 ≤ compareInts x y) = !decide (x < y) := by
  unfold compareInts
  by_cases c : x < y
  · rw [decide_eq_true c]; rfl
  · rw [decide_eq_false c, decide_eq_true (show y < x by omega)]; rfl
theorem cmp_before {a b : List Step} (hl : a.length = b.length) : decide (0 ≤ compareSteps a b) = !(l4Before a b) := by
  unfold compareSteps
  refine loopW_to (fun (i : Int) => (0 ≤ i ∧ i ≤ a.length) ∧ ∀ k : Nat, k < i.toNat → (a.getD k default).kind = (b.getD k default).kind ∧ (a.getD k default).age = (b.getD k default).age) (fun i => ((a.length : Int) - i).toNat) (fun (r : Int) => decide (0 ≤ r) = !(l4Before a b)) (fun i next hi hn => ?_) _ _ (Nat.lt_succ_self _) ⟨by omega, fun k hk => by omega⟩
  obtain ⟨hb, hp⟩ := hi
  obtain ⟨j, rfl⟩ := Int.eq_ofNat_of_zero_le hb.1
  have hj : j ≤ a.length := by omega
  have hbf := before_at hl hj hp
  by_cases c : j < a.length
  · rw [if_pos c] at hbf
    rw [decide_eq_true (show (j : Int) < ((a.length : Nat) : Int) by omega), decide_eq_true (show (j : Int) < ((b.length : Nat) : Int) by omega)]
    simp only [Bool.and_true, cond_true, Int.toNat_natCast]
    cases hk : decide ((a.getD j default).kind = (b.getD j default).kind) with
    | false =>
      rw [hk] at hbf
      simp only [Bool.not_false, cond_true] at hbf ⊢
      rw [hbf]
      exact cmp_dec _ _ (of_decide_eq_false hk)
    | true =>
      rw [hk] at hbf
      simp only [Bool.not_true, cond_false] at hbf ⊢
      cases hg : decide ((a.getD j default).age = (b.getD j default).age) with
      | false =>
        rw [hg] at hbf
        simp only [Bool.not_false, cond_true] at hbf ⊢
        rw [hbf]
        exact cmp_dec _ _ (of_decide_eq_false hg)
      | true =>
        simp only [Bool.not_true, cond_false]
        refine hn _ ⟨by omega, fun k hk2 => ?_⟩ (by omega)
        by_cases e : k = j
        · subst e; exact ⟨of_decide_eq_true hk, of_decide_eq_true hg⟩
        · exact hp k (by omega)
  · rw [if_neg c] at hbf
    rw [decide_eq_false (show ¬ (j : Int) < ((a.length : Nat) : Int) by omega), hbf]
    simp only [Bool.false_and, cond_false, hl]
    unfold compareInts
    rw [decide_eq_false (Int.lt_irrefl _)]; rfl
theorem rule_eq (r : Rule) : implIsRule r = specIsRule r := by
  unfold implIsRule specIsRule
  rw [isName_eq, in_not r.sex, in_not r.place, in_not ((r.from0.length : Nat) : Int)]
  have e2 : ((decide (((r.from0.length : Nat) : Int) < ((r.to.length : Nat) : Int))) || ((decide (((r.to.length : Nat) : Int) = ((r.from0.length : Nat) : Int))) && (decide (0 ≤ (compareSteps r.to r.from0))))) = !(l4Before r.to r.from0) := by
    by_cases c : r.to.length = r.from0.length
    · rw [cmp_before c, decide_eq_false (show ¬ ((r.from0.length : Nat) : Int) < ((r.to.length : Nat) : Int) by omega), decide_eq_true (show ((r.to.length : Nat) : Int) = ((r.from0.length : Nat) : Int) by omega)]; rfl
    · rw [decide_eq_false (show ¬ ((r.to.length : Nat) : Int) = ((r.from0.length : Nat) : Int) by omega)]
      unfold l4Before
      rw [decide_eq_false (show ¬ ((r.to.length : Nat) : Int) = ((r.from0.length : Nat) : Int) by omega)]
      simp only [Bool.false_and, Bool.or_false, Bool.not_false, cond_true]
      by_cases d : r.from0.length < r.to.length
      · rw [decide_eq_true (show ((r.from0.length : Nat) : Int) < ((r.to.length : Nat) : Int) by omega), decide_eq_false (show ¬ ((r.to.length : Nat) : Int) < ((r.from0.length : Nat) : Int) by omega)]; rfl
      · rw [decide_eq_false (show ¬ ((r.from0.length : Nat) : Int) < ((r.to.length : Nat) : Int) by omega), decide_eq_true (show ((r.to.length : Nat) : Int) < ((r.from0.length : Nat) : Int) by omega)]; rfl
  have e3 : (fun (v1 : Bool × Int) (next : Bool × Int → Bool) => bif (decide (v1.2 ≤ 2)) then (bif (((!decide (r.sex = 0)) && (!decide (r.sex = v1.2))) || (!(implIsType (KinType.mk v1.2 r.from0)))) then (next (v1.1, v1.2 + 1)) else (bif ((!(implIsType (KinType.mk v1.2 r.to))) || (!decide ((sexOf (KinType.mk v1.2 r.from0)) = (sexOf (KinType.mk v1.2 r.to))))) then false else (next (true, v1.2 + 1)))) else v1.1) =
      fun (v1 : Bool × Int) next => bif (decide (v1.2 ≤ 2)) then (bif (((!decide (r.sex = 0)) && (!decide (r.sex = v1.2))) || (!(specIsType (KinType.mk v1.2 r.from0)))) then (next (v1.1, v1.2 + 1)) else (bif ((!(specIsType (KinType.mk v1.2 r.to))) || (!decide ((l3Last (KinType.mk v1.2 r.to)) = (l3Last (KinType.mk v1.2 r.from0))))) then false else (next (true, v1.2 + 1)))) else v1.1 := by
    funext v next
    rw [type_eq, type_eq, sexOf_eq, sexOf_eq, show decide (l3Last (KinType.mk v.2 r.from0) = l3Last (KinType.mk v.2 r.to)) = decide (l3Last (KinType.mk v.2 r.to) = l3Last (KinType.mk v.2 r.from0)) from decide_eq_decide.2 ⟨Eq.symm, Eq.symm⟩]
  rw [e2, e3]
  generalize loopW (α := Bool) _ _ _ = L
  have c4 : decide (((r.from0.length : Nat) : Int) < 1) = decide (((r.from0.length : Nat) : Int) < 1) := rfl
  cases specIsName r.name <;> cases decide (r.sex < 0) <;> cases decide (2 < r.sex) <;> cases decide (r.place < 0) <;> cases decide (2 < r.place) <;> cases decide (((r.from0.length : Nat) : Int) < 1) <;> cases decide (4 < ((r.from0.length : Nat) : Int)) <;> rfl
theorem l3Step_bd {s : Step} {x : Int} (h : l3Step s x = true) : (1 ≤ s.kind ∧ s.kind ≤ 8) ∧ 0 ≤ s.age ∧ s.age ≤ 2 := by
  unfold l3Step at h
  rw [cond_f_iff, or_f_iff, not_f_iff, not_f_iff] at h
  unfold l1In at h
  simp only [Bool.and_eq_true, decide_eq_true_eq] at h
  omega
theorem type_bd {t : KinType} (h : specIsType t = true) : ∀ k : Nat, k < t.steps.length → (1 ≤ (t.steps.getD k default).kind ∧ (t.steps.getD k default).kind ≤ 8) ∧ 0 ≤ (t.steps.getD k default).age ∧ (t.steps.getD k default).age ≤ 2 := by
  unfold specIsType at h
  rw [cond_f_iff] at h
  obtain ⟨_, h⟩ := h
  revert h
  refine loopN_to (fun i (_ : Int) => ∀ k : Nat, k < i → (1 ≤ (t.steps.getD k default).kind ∧ (t.steps.getD k default).kind ≤ 8) ∧ 0 ≤ (t.steps.getD k default).age ∧ (t.steps.getD k default).age ≤ 2) (fun (r : Bool) => r = true → ∀ k : Nat, k < t.steps.length → (1 ≤ (t.steps.getD k default).kind ∧ (t.steps.getD k default).kind ≤ 8) ∧ 0 ≤ (t.steps.getD k default).age ∧ (t.steps.getD k default).age ≤ 2) (fun k hk => absurd hk (Nat.not_lt_zero _)) (fun i v next hi hv hn => ?_) (fun v hv _ => hv)
  refine cond_both (p := fun (r : Bool) => r = true → ∀ k : Nat, k < t.steps.length → (1 ≤ (t.steps.getD k default).kind ∧ (t.steps.getD k default).kind ≤ 8) ∧ 0 ≤ (t.steps.getD k default).age ∧ (t.steps.getD k default).age ≤ 2) (fun c h => (by cases h)) (fun c => hn _ fun k hk => ?_)
  by_cases e : k = i
  · subst e; exact l3Step_bd (by simpa using c)
  · exact hv k (by omega)
end Go.Proofs.Ytaageiiodlfeiaa
