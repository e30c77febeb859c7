import Derived.Test.YtanfabaedopeiaaM230
set_option maxHeartbeats 4000000
set_option linter.unusedSimpArgs false
set_option linter.unusedVariables false
namespace Go.Proofs.Ytanfabaedopeiaa
open Go Go.Lite Go.Proofs
theorem in_not (n lo hi : Int) : (!(l1In n lo hi)) = (decide (n < lo) || decide (hi < n)) := by
  unfold l1In
  rw [Bool.eq_iff_iff]
  simp only [Bool.not_eq_true', Bool.and_eq_false_iff, decide_eq_false_iff_not, Bool.or_eq_true, decide_eq_true_eq]
  omega
theorem stepFits_eq (s : Step) (x : Int) : stepFits s x = l3Step s x := by
  unfold stepFits l3Step
  rw [in_not, in_not, Bool.or_assoc (decide (s.kind < 1) || decide (8 < s.kind))]
  cases (decide (s.kind < 1) || decide (8 < s.kind)) || (decide (s.age < 0) || decide (2 < s.age)) with
  | true => rfl
  | false =>
    cases (!decide (s.age = 0)) && (!decide (s.kind = 3)) && (!decide (s.kind = 4)) with
    | true => rfl
    | false => cases decide (s.kind = 7) <;> cases decide (x = 1) <;> cases decide (s.kind = 8) <;> cases decide (x = 2) <;> rfl
theorem type_eq (t : KinType) : implIsType t = specIsType t := by
  unfold implIsType specIsType
  rw [in_not]
  have e : (fun i1 (v1 : Int) (next : Int → Bool) => bif (!(stepFits (t.steps.getD i1 default) v1)) then false else (next (stepSex ((t.steps.getD i1 default).kind)))) = fun i1 (v1 : Int) next => bif (!(l3Step (t.steps.getD i1 default) v1)) then false else (next (l3Sex ((t.steps.getD i1 default).kind))) := by
    funext i v next
    rw [stepFits_eq]; rfl
  rw [e]
theorem sexOf_eq (t : KinType) : sexOf t = l3Last t := rfl
theorem egoOf_eq (t : KinType) : egoOf t = l3Ego t := by
  unfold egoOf l3Ego
  by_cases h : t.ego = 0
  · rw [decide_eq_true h, h]
    cases hl : decide (((t.steps.length : Nat) : Int) = 0) with
    | true => rw [decide_eq_false (show ¬ 0 < ((t.steps.length : Nat) : Int) by have := of_decide_eq_true hl; omega)]; rfl
    | false => rw [decide_eq_true (show 0 < ((t.steps.length : Nat) : Int) by have := of_decide_eq_false hl; omega)]; rfl
  · rw [decide_eq_false h]; rfl
theorem eqT_eq (t u : KinType) : implEqT t u = specEqT t u := rfl
theorem steps_iff (a b : List Step) : l3Steps a b = true ↔ a = b := by
  unfold l3Steps
  constructor
  · intro h
    rw [cond_f_iff, loopN_all] at h
    obtain ⟨h1, h2, _⟩ := h
    have h1 : a.length = b.length := by
      rw [not_f_iff, decide_eq_true_eq] at h1; omega
    apply List.ext_getElem h1
    intro i hi hj
    have := h2 i hi
    rw [List.getD_eq_getElem?_getD, List.getElem?_eq_getElem hi, List.getD_eq_getElem?_getD, List.getElem?_eq_getElem hj] at this
    simp only [Option.getD_some, Bool.not_eq_false', Bool.and_eq_true, decide_eq_true_eq, Bool.and_true] at this
    cases ha : a[i]; cases hb : b[i]
    rw [ha, hb] at this
    simp only [Step.mk.injEq]; exact this
  · rintro rfl
    rw [cond_f_iff, loopN_all]
    exact ⟨by simp, fun j _ => by simp, rfl⟩
theorem eqT_iff (t u : KinType) : specEqT t u = true ↔ t = u := by
  unfold specEqT
  rw [Bool.and_eq_true, decide_eq_true_eq, steps_iff]
  cases t; cases u
  simp only [KinType.mk.injEq]
theorem eqT_comm (t u : KinType) : specEqT t u = specEqT u t := by
  rw [Bool.eq_iff_iff, eqT_iff, eqT_iff]; exact ⟨Eq.symm, Eq.symm⟩
theorem before_at {a b : List Step} (hl : a.length = b.length) {i : Nat} (hi : i ≤ a.length) (h : ∀ k : Nat, k < i → (a.getD k default).kind = (b.getD k default).kind ∧ (a.getD k default).age = (b.getD k default).age) :
    l4Before a b = if i < a.length then (bif (!decide ((a.getD i default).kind = (b.getD i default).kind)) then decide ((a.getD i default).kind < (b.getD i default).kind) else bif (!decide ((a.getD i default).age = (b.getD i default).age)) then decide ((a.getD i default).age < (b.getD i default).age) else l4Before a b) else false := by
  have e : l4Before a b = loopN (fun i1 (v1 : Unit) next => bif (!decide (((a.getD i1 default).kind) = ((b.getD i1 default).kind))) then (decide (((a.getD i1 default).kind) < ((b.getD i1 default).kind))) else (bif (!decide (((a.getD i1 default).age) = ((b.getD i1 default).age))) then (decide (((a.getD i1 default).age) < ((b.getD i1 default).age))) else (next ()))) (fun (v1 : Unit) => false) (a.length - i) i () := by
    unfold l4Before
    rw [decide_eq_true (show ((a.length : Nat) : Int) = ((b.length : Nat) : Int) by omega)]
    simp only [Bool.not_true, cond_false]
    exact loopN_skip i hi fun x next hx => by
      obtain ⟨h1, h2⟩ := h x hx
      rw [h1, h2]; simp
  by_cases c : i < a.length
  · rw [if_pos c]
    cases hk : decide ((a.getD i default).kind = (b.getD i default).kind) with
    | false =>
      rw [e, show a.length - i = (a.length - i - 1) + 1 by omega, loopN]
      rw [hk]; rfl
    | true =>
      cases hg : decide ((a.getD i default).age = (b.getD i default).age) with
      | false =>
        rw [e, show a.length - i = (a.length - i - 1) + 1 by omega, loopN]
        rw [hk, hg]; rfl
      | true => rfl
  · rw [if_neg c, e, show a.length - i = 0 by omega]; rfl
theorem cmp_dec (x y : Int) (h : ¬ x = y) : decide (0 ≤ compareInts x y) = !decide (x < y) := by
  unfold compareInts
  by_cases c : x < y
  · rw [decide_eq_true c]; rfl
  · rw [decide_eq_false c, decide_eq_true (show y < x by omega)]; rfl
theorem cmp_before {a b : List Step} (hl : a.length = b.length) : decide (0 ≤ compareSteps a b) = !(l4Before a b) := by
  unfold compareSteps
  refine loopW_to (fun (i : Int) => (0 ≤ i ∧ i ≤ a.length) ∧ ∀ k : Nat, k < i.toNat → (a.getD k default).kind = (b.getD k default).kind ∧ (a.getD k default).age = (b.getD k default).age) (fun i => ((a.length : Int) - i).toNat) (fun (r : Int) => decide (0 ≤ r) = !(l4Before a b)) (fun i next hi hn => ?_) _ _ (Nat.lt_succ_self _) ⟨by omega, fun k hk => by omega⟩
  obtain ⟨hb, hp⟩ := hi
  obtain ⟨j, rfl⟩ := Int.eq_ofNat_of_zero_le hb.1
  have hj : j ≤ a.length := by omega
  have hbf := before_at hl hj hp
  by_cases c : j < a.length
  · rw [if_pos c] at hbf
    rw [decide_eq_true (show (j : Int) < ((a.length : Nat) : Int) by omega), decide_eq_true (show (j : Int) < ((b.length : Nat) : Int) by omega)]
    simp only [Bool.and_true, cond_true, Int.toNat_natCast]
    cases hk : decide ((a.getD j default).kind = (b.getD j default).kind) with
    | false =>
      rw [hk] at hbf
      simp only [Bool.not_false, cond_true] at hbf ⊢
      rw [hbf]
      exact cmp_dec _ _ (of_decide_eq_false hk)
    | true =>
      rw [hk] at hbf
      simp only [Bool.not_true, cond_false] at hbf ⊢
      cases hg : decide ((a.getD j default).age = (b.getD j default).age) with
      | false =>
        rw [hg] at hbf
        simp only [Bool.not_false, cond_true] at hbf ⊢
        rw [hbf]
        exact cmp_dec _ _ (of_decide_eq_false hg)
      | true =>
        simp only [Bool.not_true, cond_false]
        refine hn _ ⟨by omega, fun k hk2 => ?_⟩ (by omega)
        by_cases e : k = j
        · subst e; exact ⟨of_decide_eq_true hk, of_decide_eq_true hg⟩
        · exact hp k (by omega)
  · rw [if_neg c] at hbf
    rw [decide_eq_false (show ¬ (j : Int) < ((a.length : Nat) : Int) by omega), hbf]
    simp only [Bool.false_and, cond_false, hl]
    unfold compareInts
    rw [decide_eq_false (Int.lt_irrefl _)]; rfl
theorem rule_eq (r : Rule) : implIsRule r = specIsRule r := by
  unfold implIsRule specIsRule
  rw [isName_eq, in_not r.sex, in_not r.place, in_not ((r.from0.length : Nat) : Int)]
  have e2 : ((decide (((r.from0.length : Nat) : Int) < ((r.to.length : Nat) : Int))) || ((decide (((r.to.length : Nat) : Int) = ((r.from0.length : Nat) : Int))) && (decide (0 ≤ (compareSteps r.to r.from0))))) = !(l4Before r.to r.from0) := by
    by_cases c : r.to.length = r.from0.length
    · rw [cmp_before c, decide_eq_false (show ¬ ((r.from0.length : Nat) : Int) < ((r.to.length : Nat) : Int) by omega), decide_eq_true (show ((r.to.length : Nat) : Int) = ((r.from0.length : Nat) : Int) by omega)]; rfl
    · rw [decide_eq_false (show ¬ ((r.to.length : Nat) : Int) = ((r.from0.length : Nat) : Int) by omega)]
      unfold l4Before
      rw [decide_eq_false (show ¬ ((r.to.length : Nat) : Int) = ((r.from0.length : Nat) : Int) by omega)]
      simp only [Bool.false_and, Bool.or_false, Bool.not_false, cond_true]
      by_cases d : r.from0.length < r.to.length
      · rw [decide_eq_true (show ((r.from0.length : Nat) : Int) < ((r.to.length : Nat) : Int) by omega), decide_eq_false (show ¬ ((r.to.length : Nat) : Int) < ((r.from0.length : Nat) : Int) by omega)]; rfl
      · rw [decide_eq_false (show ¬ ((r.from0.length : Nat) : Int) < ((r.to.length : Nat) : Int) by omega), decide_eq_true (show ((r.to.length : Nat) : Int) < ((r.from0.length : Nat) : Int) by omega)]; rfl
  have e3 : (fun (v1 : Bool × Int) (next : Bool × Int → Bool) => bif (decide (v1.2 ≤ 2)) then (bif (((!decide (r.sex = 0)) && (!decide (r.sex = v1.2))) || (!(implIsType (KinType.mk v1.2 r.from0)))) then (next (v1.1, v1.2 + 1)) else (bif ((!(implIsType (KinType.mk v1.2 r.to))) || (!decide ((sexOf (KinType.mk v1.2 r.from0)) = (sexOf (KinType.mk v1.2 r.to))))) then false else (next (true, v1.2 + 1)))) else v1.1) =
      fun (v1 : Bool × Int) next => bif (decide (v1.2 ≤ 2)) then (bif (((!decide (r.sex = 0)) && (!decide (r.sex = v1.2))) || (!(specIsType (KinType.mk v1.2 r.from0)))) then (next (v1.1, v1.2 + 1)) else (bif ((!(specIsType (KinType.mk v1.2 r.to))) || (!decide ((l3Last (KinType.mk v1.2 r.to)) = (l3Last (KinType.mk v1.2 r.from0))))) then false else (next (true, v1.2 + 1)))) else v1.1 := by
    funext v next
    rw [type_eq, type_eq, sexOf_eq, sexOf_eq, show decide (l3Last (KinType.mk v.2 r.from0) = l3Last (KinType.mk v.2 r.to)) = decide (l3Last (KinType.mk v.2 r.to) = l3Last (KinType.mk v.2 r.from0)) from decide_eq_decide.2 ⟨Eq.symm, Eq.symm⟩]
  rw [e2, e3]
  generalize loopW (α := Bool) _ _ _ = L
  have c4 : decide (((r.from0.length : Nat) : Int) < 1) = decide (((r.from0.length : Nat) : Int) < 1) := rfl
  cases specIsName r.name <;> cases decide (r.sex < 0) <;> cases decide (2 < r.sex) <;> cases decide (r.place < 0) <;> cases decide (2 < r.place) <;> cases decide (((r.from0.length : Nat) : Int) < 1) <;> cases decide (4 < ((r.from0.length : Nat) : Int)) <;> rfl
/-! ### Lists of rules -/
def rulesOk (x : List Rule) : Prop := ∀ i : Nat, i < x.length → specIsRule (x.getD i default) = true ∧ ∀ j : Nat, j < i → (x.getD j default).name ≠ (x.getD i default).name
theorem specAre_iff (x : List Rule) : specAre x = true ↔ x.length ≤ 12 ∧ rulesOk x := by
  unfold specAre
  rw [cond_f_iff, decide_eq_false_iff_not]
  have key : loopN (fun i1 (v1 : Unit) nx1 => loopN (fun i2 (v2 : Unit) next => bif (((x.getD i2 default).name) == ((x.getD i1 default).name)) then false else (next ())) (fun (v2 : Unit) => bif (!(specIsRule (x.getD i1 default))) then false else (nx1 ())) i1 0 ()) (fun (v1 : Unit) => true) x.length 0 () = true ↔ rulesOk x := by
    refine loopN_to (fun i (_ : Unit) => ∀ k : Nat, k < i → specIsRule (x.getD k default) = true ∧ ∀ j : Nat, j < k → (x.getD j default).name ≠ (x.getD k default).name) (fun (r : Bool) => r = true ↔ rulesOk x) (fun k hk => absurd hk (Nat.not_lt_zero _)) (fun i v next hi hv hn => ?_) (fun v hv => ⟨fun _ => hv, fun _ => rfl⟩)
    refine loopN_to (fun j (_ : Unit) => ∀ k : Nat, k < j → (x.getD k default).name ≠ (x.getD i default).name) (fun (r : Bool) => r = true ↔ rulesOk x) (fun k hk => absurd hk (Nat.not_lt_zero _)) (fun j v next2 hj hv2 hn2 => ?_) (fun v hv2 => ?_)
    · refine cond_both (p := fun (r : Bool) => r = true ↔ rulesOk x) (fun c => ?_) (fun c => hn2 _ fun k hk => ?_)
      · exact ⟨fun h => (by cases h), fun h => absurd (eq_of_beq c) ((h i hi).2 j hj)⟩
      · by_cases e : k = j
        · subst e; exact fun h => by rw [h] at c; simp at c
        · exact hv2 k (by omega)
    · refine cond_both (p := fun (r : Bool) => r = true ↔ rulesOk x) (fun c => ?_) (fun c => hn _ fun k hk => ?_)
      · exact ⟨fun h => (by cases h), fun h => by rw [(h i hi).1] at c; cases c⟩
      · by_cases e : k = i
        · subst e; exact ⟨by simpa using c, hv2⟩
        · exact hv k (by omega)
  rw [key]
  exact ⟨fun h => ⟨by omega, h.2⟩, fun h => ⟨by omega, h.2⟩⟩
theorem mset_if {α : Type} (f : KV → Option α) (k k' : KV) (x : α) : mset f k x k' = if k' = k then some x else f k' := rfl
theorem implAre_iff (x : List Rule) : implAre x = true ↔ x.length ≤ 12 ∧ rulesOk x := by
  unfold implAre
  rw [cond_f_iff, decide_eq_false_iff_not]
  have key : loopN (fun i1 (v1 : (KV → Option Bool)) next => bif ((!(implIsRule (x.getD i1 default))) || ((v1 (KV.s ((x.getD i1 default).name))).getD false)) then false else (next (mset v1 (KV.s ((x.getD i1 default).name)) true))) (fun (v1 : (KV → Option Bool)) => true) x.length 0 (fun _ => none) = true ↔ rulesOk x := by
    refine loopN_to (fun i (v : KV → Option Bool) => (∀ s, (v (KV.s s)).getD false = true ↔ ∃ j : Nat, j < i ∧ (x.getD j default).name = s) ∧ ∀ k : Nat, k < i → specIsRule (x.getD k default) = true ∧ ∀ j : Nat, j < k → (x.getD j default).name ≠ (x.getD k default).name) (fun (r : Bool) => r = true ↔ rulesOk x) ⟨fun s => ⟨fun h => (by cases h), fun ⟨j, hj, _⟩ => absurd hj (Nat.not_lt_zero _)⟩, fun k hk => absurd hk (Nat.not_lt_zero _)⟩ (fun i v next hi hv hn => ?_) (fun v hv => ⟨fun _ => hv.2, fun _ => rfl⟩)
    obtain ⟨hv1, hv2⟩ := hv
    refine cond_both (p := fun (r : Bool) => r = true ↔ rulesOk x) (fun c => ?_) (fun c => hn _ ⟨fun s => ?_, fun k hk => ?_⟩)
    · refine ⟨fun h => (by cases h), fun h => ?_⟩
      rw [Bool.or_eq_true] at c
      rcases c with c | c
      · rw [rule_eq, (h i hi).1] at c; cases c
      · obtain ⟨j, hj, e⟩ := (hv1 _).1 c
        exact absurd e ((h i hi).2 j hj)
    · rw [mset_if]
      by_cases e : s = (x.getD i default).name
      · subst e
        rw [if_pos rfl]
        exact ⟨fun _ => ⟨i, by omega, rfl⟩, fun _ => rfl⟩
      · rw [if_neg (fun h => e (by injection h)), hv1]
        constructor
        · rintro ⟨j, hj, h⟩; exact ⟨j, by omega, h⟩
        · rintro ⟨j, hj, h⟩
          by_cases q : j = i
          · subst q; exact absurd h.symm e
          · exact ⟨j, by omega, h⟩
    · rw [or_f_iff] at c
      by_cases e : k = i
      · subst e
        refine ⟨by rw [← rule_eq]; simpa using c.1, fun j hj h => ?_⟩
        have := (hv1 (x.getD k default).name).2 ⟨j, hj, h⟩
        rw [c.2] at this; cases this
      · exact hv2 k (by omega)
  rw [key]
  exact ⟨fun h => ⟨by omega, h.2⟩, fun h => ⟨by omega, h.2⟩⟩
theorem are_eq (x : List Rule) : implAre x = specAre x := by rw [Bool.eq_iff_iff, implAre_iff, specAre_iff]
/-! ### A rule makes a type less -/
def RuleOk (r : Rule) : Prop := 1 ≤ r.from0.length ∧ (r.to.length < r.from0.length ∨ (r.to.length = r.from0.length ∧ stN r.to 0 < stN r.from0 0))
theorem l3Step_bd {s : Step} {x : Int} (h : l3Step s x = true) : (1 ≤ s.kind ∧ s.kind ≤ 8) ∧ 0 ≤ s.age ∧ s.age ≤ 2 := by
  unfold l3Step at h
  rw [cond_f_iff, or_f_iff, not_f_iff, not_f_iff] at h
  unfold l1In at h
  simp only [Bool.and_eq_true, decide_eq_true_eq] at h
  omega
theorem type_bd {t : KinType} (h : specIsType t = true) : ∀ k : Nat, k < t.steps.length → (1 ≤ (t.steps.getD k default).kind ∧ (t.steps.getD k default).kind ≤ 8) ∧ 0 ≤ (t.steps.getD k default).age ∧ (t.steps.getD k default).age ≤ 2 := by
  unfold specIsType at h
  rw [cond_f_iff] at h
  obtain ⟨_, h⟩ := h
  revert h
  refine loopN_to (fun i (_ : Int) => ∀ k : Nat, k < i → (1 ≤ (t.steps.getD k default).kind ∧ (t.steps.getD k default).kind ≤ 8) ∧ 0 ≤ (t.steps.getD k default).age ∧ (t.steps.getD k default).age ≤ 2) (fun (r : Bool) => r = true → ∀ k : Nat, k < t.steps.length → (1 ≤ (t.steps.getD k default).kind ∧ (t.steps.getD k default).kind ≤ 8) ∧ 0 ≤ (t.steps.getD k default).age ∧ (t.steps.getD k default).age ≤ 2) (fun k hk => absurd hk (Nat.not_lt_zero _)) (fun i v next hi hv hn => ?_) (fun v hv _ => hv)
  refine cond_both (p := fun (r : Bool) => r = true → ∀ k : Nat, k < t.steps.length → (1 ≤ (t.steps.getD k default).kind ∧ (t.steps.getD k default).kind ≤ 8) ∧ 0 ≤ (t.steps.getD k default).age ∧ (t.steps.getD k default).age ≤ 2) (fun c h => (by cases h)) (fun c => hn _ fun k hk => ?_)
  by_cases e : k = i
  · subst e; exact l3Step_bd (by simpa using c)
  · exact hv k (by omega)
theorem before_num {a b : List Step} (ha : ∀ k : Nat, k < a.length → (1 ≤ (a.getD k default).kind ∧ (a.getD k default).kind ≤ 8) ∧ 0 ≤ (a.getD k default).age ∧ (a.getD k default).age ≤ 2) (hb : ∀ k : Nat, k < b.length → (1 ≤ (b.getD k default).kind ∧ (b.getD k default).kind ≤ 8) ∧ 0 ≤ (b.getD k default).age ∧ (b.getD k default).age ≤ 2)
    (hl : a.length = b.length) (h : l4Before a b = true) : stN a 0 < stN b 0 := by
  have go : ∀ (m i : Nat), a.length - i = m → i ≤ a.length → (∀ k : Nat, k < i → (a.getD k default).kind = (b.getD k default).kind ∧ (a.getD k default).age = (b.getD k default).age) → stN a 0 < stN b 0 := by
    intro m
    induction m with
    | zero =>
      intro i hm hi hp
      have := before_at hl hi hp
      rw [if_neg (by omega), h] at this; cases this
    | succ m ih =>
      intro i hm hi hp
      have hbf := before_at hl hi hp
      rw [if_pos (by omega), h] at hbf
      have q1 := ha i (by omega)
      have q2 := hb i (by omega)
      have hpre : ∀ k : Nat, k < i → stD (a.getD k default) = stD (b.getD k default) := fun k hk => by unfold stD; rw [(hp k hk).1, (hp k hk).2]
      by_cases hk : (a.getD i default).kind = (b.getD i default).kind
      · rw [decide_eq_true hk] at hbf
        by_cases hg : (a.getD i default).age = (b.getD i default).age
        · refine ih (i + 1) (by omega) (by omega) fun k hk2 => ?_
          by_cases e : k = i
          · subst e; exact ⟨hk, hg⟩
          · exact hp k (by omega)
        · rw [decide_eq_false hg] at hbf
          have := of_decide_eq_true hbf.symm
          exact stN_first i hl (by omega) hpre (by unfold stD; omega)
      · rw [decide_eq_false hk] at hbf
        have := of_decide_eq_true hbf.symm
        exact stN_first i hl (by omega) hpre (by unfold stD; omega)
  exact go a.length 0 (by omega) (Nat.zero_le _) fun k hk => absurd hk (Nat.not_lt_zero _)
theorem rule_ok {r : Rule} (h : specIsRule r = true) : RuleOk r := by
  unfold specIsRule at h
  rw [cond_f_iff, cond_f_iff, or_f_iff (a := !(l1In ((r.from0.length : Nat) : Int) 1 4))] at h
  obtain ⟨_, ⟨h1, h2⟩, h3⟩ := h
  rw [in_not, or_f_iff, decide_eq_false_iff_not, decide_eq_false_iff_not] at h1
  have h2 : l4Before r.to r.from0 = true := by simpa using h2
  have h4 : ∃ s : Int, specIsType (KinType.mk s r.from0) = true ∧ specIsType (KinType.mk s r.to) = true := by
    revert h3
    refine loopW_to (fun (v : Bool × Int) => 1 ≤ v.2 ∧ (v.1 = true → ∃ s : Int, specIsType (KinType.mk s r.from0) = true ∧ specIsType (KinType.mk s r.to) = true)) (fun v => (3 - v.2).toNat) (fun (b : Bool) => b = true → ∃ s : Int, specIsType (KinType.mk s r.from0) = true ∧ specIsType (KinType.mk s r.to) = true) (fun v next hv hn => ?_) _ _ (Nat.lt_succ_self _) ⟨by dsimp only; omega, fun h => (by cases h)⟩
    refine cond_both (p := fun (b : Bool) => b = true → ∃ s : Int, specIsType (KinType.mk s r.from0) = true ∧ specIsType (KinType.mk s r.to) = true) (fun c => ?_) (fun _ => hv.2)
    have c := of_decide_eq_true c
    refine cond_both (p := fun (b : Bool) => b = true → ∃ s : Int, specIsType (KinType.mk s r.from0) = true ∧ specIsType (KinType.mk s r.to) = true) (fun _ => hn _ ⟨by dsimp only; omega, hv.2⟩ (by dsimp only; omega)) (fun c2 => ?_)
    refine cond_both (p := fun (b : Bool) => b = true → ∃ s : Int, specIsType (KinType.mk s r.from0) = true ∧ specIsType (KinType.mk s r.to) = true) (fun _ h => (by cases h)) (fun c3 => hn _ ⟨by dsimp only; omega, fun _ => ⟨v.2, ?_, ?_⟩⟩ (by dsimp only; omega))
    · rw [or_f_iff] at c2; simpa using c2.2
    · rw [or_f_iff] at c3; simpa using c3.1
  obtain ⟨s, h5, h6⟩ := h4
  refine ⟨by omega, ?_⟩
  by_cases c : r.to.length = r.from0.length
  · exact .inr ⟨c, before_num (type_bd h6) (type_bd h5) c h2⟩
  · unfold l4Before at h2
    rw [decide_eq_false (show ¬ ((r.to.length : Nat) : Int) = ((r.from0.length : Nat) : Int) by omega)] at h2
    have := of_decide_eq_true h2
    exact .inl (by omega)
theorem rules_ok {x : List Rule} (h : specAre x = true) : ∀ r ∈ x, RuleOk r := fun r hr => by
  obtain ⟨k, hk, e⟩ := mem_getD (d := default) hr
  have := (((specAre_iff x).1 h).2 k hk).1
  rw [e] at this
  exact rule_ok this
/-! ### Where a rule fits -/
theorem fits_iff (r : Rule) (t : KinType) (i : Int) : fitsAt r t i = true ↔ (0 ≤ i ∧ i + (r.from0.length : Int) ≤ (t.steps.length : Int)) ∧ (∀ j : Nat, j < r.from0.length → (t.steps.getD (i + ((j : Nat) : Int)).toNat default).kind = (r.from0.getD j default).kind ∧ ((r.from0.getD j default).age = 0 ∨ (r.from0.getD j default).age = (t.steps.getD (i + ((j : Nat) : Int)).toNat default).age)) ∧
    (r.sex = 0 ∨ r.sex = sexBefore t i) ∧ (r.place ≠ 1 ∨ i = 0) ∧ (r.place ≠ 2 ∨ i + (r.from0.length : Int) = (t.steps.length : Int)) := by
  unfold fitsAt
  rw [cond_f_iff, loopN_all, cond_f_iff]
  simp only [Bool.or_eq_false_iff, Bool.and_eq_false_iff, decide_eq_false_iff_not, Bool.not_eq_false', decide_eq_true_eq, Bool.and_eq_true, Bool.or_eq_true, Bool.not_eq_true', ne_eq]
  constructor
  · rintro ⟨h1, h2, h3, h4⟩
    exact ⟨by omega, fun j hj => h2 j hj, h3, h4⟩
  · rintro ⟨h1, h2, h3, h4⟩
    exact ⟨by omega, fun j hj => h2 j hj, h3, h4⟩
theorem l4fits_iff (r : Rule) (t : KinType) (i : Int) : l4Fits r t i = true ↔ (0 ≤ i ∧ i + (r.from0.length : Int) ≤ (t.steps.length : Int)) ∧ (∀ j : Nat, j < r.from0.length → (t.steps.getD (i + ((j : Nat) : Int)).toNat default).kind = (r.from0.getD j default).kind ∧ ((r.from0.getD j default).age = 0 ∨ (r.from0.getD j default).age = (t.steps.getD (i + ((j : Nat) : Int)).toNat default).age)) ∧
    (r.sex = 0 ∨ r.sex = sexBefore t i) ∧ (r.place ≠ 1 ∨ i = 0) ∧ (r.place ≠ 2 ∨ i + (r.from0.length : Int) = (t.steps.length : Int)) := by
  unfold l4Fits
  by_cases c : 0 < i
  · have e : sexBefore t i = l3Sex ((t.steps.getD ((i - 1).toNat) default).kind) := by unfold sexBefore; rw [decide_eq_false (by omega)]; rfl
    rw [decide_eq_true c, cond_true, e, cond_f_iff, cond_f_iff, cond_f_iff, loopN_all]
    simp only [Bool.or_eq_false_iff, Bool.and_eq_false_iff, decide_eq_false_iff_not, Bool.not_eq_false', decide_eq_true_eq, ne_eq, and_true]
    constructor
    · rintro ⟨h1, h2, h3, h4⟩
      exact ⟨by omega, fun j hj => ⟨(h4 j hj).1.symm, (h4 j hj).2⟩, h3, h2.1, h2.2⟩
    · rintro ⟨h1, h2, h3, h4⟩
      exact ⟨by omega, h4, h3, fun j hj => ⟨(h2 j hj).1.symm, (h2 j hj).2⟩⟩
  · rw [decide_eq_false c, cond_false, cond_f_iff, cond_f_iff, cond_f_iff, loopN_all]
    simp only [Bool.or_eq_false_iff, Bool.and_eq_false_iff, decide_eq_false_iff_not, Bool.not_eq_false', decide_eq_true_eq, ne_eq, and_true]
    constructor
    · rintro ⟨h1, h2, h3, h4⟩
      have e : sexBefore t i = l3Ego t := by unfold sexBefore; rw [decide_eq_true (by omega), egoOf_eq]; rfl
      rw [e]
      exact ⟨by omega, fun j hj => ⟨(h4 j hj).1.symm, (h4 j hj).2⟩, h3, h2.1, h2.2⟩
    · rintro ⟨h1, h2, h3, h4⟩
      have e : sexBefore t i = l3Ego t := by unfold sexBefore; rw [decide_eq_true (by omega), egoOf_eq]; rfl
      rw [e] at h3
      exact ⟨by omega, h4, h3, fun j hj => ⟨(h2 j hj).1.symm, (h2 j hj).2⟩⟩
theorem fits_eq (r : Rule) (t : KinType) (i : Int) : fitsAt r t i = l4Fits r t i := by rw [Bool.eq_iff_iff, fits_iff, l4fits_iff]
theorem replace_eq (r : Rule) (t : KinType) (i : Int) : replacedAt r t i = l4Replace r t i := by unfold replacedAt l4Replace; rw [egoOf_eq]
theorem fits_rank {r : Rule} (hr : RuleOk r) {t : KinType} {i : Int} (h : l4Fits r t i = true) : rank (l4Replace r t i).steps < rank t.steps ∧ (l4Replace r t i).steps.length ≤ t.steps.length := by
  obtain ⟨h1, h2, _⟩ := (l4fits_iff r t i).1 h
  obtain ⟨n, rfl⟩ := Int.eq_ofNat_of_zero_le h1.1
  have hn : n + r.from0.length ≤ t.steps.length := by omega
  have e1 : (((n : Nat) : Int) + ((r.from0.length : Nat) : Int)).toNat = n + r.from0.length := by omega
  have es : t.steps = t.steps.take n ++ (t.steps.drop n).take r.from0.length ++ t.steps.drop (n + r.from0.length) := by
    rw [← List.drop_drop, List.append_assoc, List.take_append_drop, List.take_append_drop]
  have ed : (t.steps.drop (n + r.from0.length)).take (t.steps.length - (n + r.from0.length)) = t.steps.drop (n + r.from0.length) := List.take_of_length_le (by rw [List.length_drop]; omega)
  unfold l4Replace
  dsimp only
  rw [e1, Int.toNat_natCast, List.drop_zero, Nat.sub_zero, ed]
  have hm : ((t.steps.drop n).take r.from0.length).length = r.from0.length := by rw [List.length_take, List.length_drop]; omega
  obtain ⟨hr1, hr2⟩ := hr
  constructor
  · rcases hr2 with q | ⟨q1, q2⟩
    · refine rank_len ?_
      rw [List.length_append, List.length_append, List.length_take, List.length_drop]; omega
    · refine Nat.lt_of_lt_of_eq (rank_num (t.steps.take n) (t.steps.drop (n + r.from0.length)) (a := r.to) (b := (t.steps.drop n).take r.from0.length) (by omega) (Nat.lt_of_lt_of_le q2 (stN_le hm.symm fun k hk => ?_))) (by rw [← es])
      have h3 := h2 k hk
      rw [show (((n : Nat) : Int) + ((k : Nat) : Int)).toNat = n + k by omega] at h3
      have e2 : ((t.steps.drop n).take r.from0.length).getD k default = t.steps.getD (n + k) default := by
        rw [List.getD_eq_getElem?_getD, List.getElem?_take, if_pos hk, List.getElem?_drop, ← List.getD_eq_getElem?_getD]
      rw [e2]
      unfold stD
      rw [h3.1]
      rcases h3.2 with z | z
      · rw [z]; simp
      · rw [z]; exact Nat.le_refl _
  · rw [List.length_append, List.length_append, List.length_take, List.length_drop]
    rcases hr2 with q | ⟨q, _⟩ <;> omega
end Go.Proofs.Ytanfabaedopeiaa
