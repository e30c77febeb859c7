import Derived.Test.YtmefknjcgdbceaaM121
set_option maxHeartbeats 4000000
set_option linter.unusedSimpArgs false
set_option linter.unusedVariables false
namespace Go.Proofs.Ytmefknjcgdbceaa
open Go Go.Lite Go.Proofs
/-! ### Children come behind their parents -/
theorem kid_lt {f : Family} (hf : specIsFamily f = true) {p c : Int} (hp : 0 ≤ p) (h : c ∈ l1Children f p) : p < c ∧ c < f.people.length := by
  obtain ⟨k, h1, h2, h3⟩ := (l1Children_mem f p c).1 h
  have h4 := fam_p hf h1
  have h5 := h4.fa; have h6 := h4.mo
  omega
theorem snoc_lt {l : List Int} {z : Int} {k : Nat} (h : k < l.length) : (l ++ [z]).getD k default = l.getD k default := by
  simp [List.getD_eq_getElem?_getD, List.getElem?_append_left h]
theorem snoc_eq {l : List Int} {z : Int} {k : Nat} (h : k = l.length) : (l ++ [z]).getD k default = z := by
  subst h; simp [List.getD_eq_getElem?_getD]
/-- How deep a person stands. -/
def dd (x : Family) (a : Int) : Int := (l1Depths x).getD a.toNat default
theorem l1Depths_par (x : Family) (hp : ∀ (k : Nat), k < x.people.length → (x.people.getD k default).father < k ∧ (x.people.getD k default).mother < k) :
    ∀ k : Nat, k < x.people.length → 0 ≤ (l1Depths x).getD k default ∧ (0 ≤ (x.people.getD k default).father → (l1Depths x).getD (x.people.getD k default).father.toNat default + 1 ≤ (l1Depths x).getD k default) ∧ (0 ≤ (x.people.getD k default).mother → (l1Depths x).getD (x.people.getD k default).mother.toNat default + 1 ≤ (l1Depths x).getD k default) := by
  unfold l1Depths
  refine loopN_to (fun i (v : List Int) => v.length = i ∧ ∀ k : Nat, k < i → 0 ≤ v.getD k default ∧ (0 ≤ (x.people.getD k default).father → v.getD (x.people.getD k default).father.toNat default + 1 ≤ v.getD k default) ∧ (0 ≤ (x.people.getD k default).mother → v.getD (x.people.getD k default).mother.toNat default + 1 ≤ v.getD k default))
    (fun (v : List Int) => ∀ k : Nat, k < x.people.length → 0 ≤ v.getD k default ∧ (0 ≤ (x.people.getD k default).father → v.getD (x.people.getD k default).father.toNat default + 1 ≤ v.getD k default) ∧ (0 ≤ (x.people.getD k default).mother → v.getD (x.people.getD k default).mother.toNat default + 1 ≤ v.getD k default)) ⟨rfl, fun k hk => absurd hk (Nat.not_lt_zero _)⟩ (fun i v next hi hv hn => ?_) (fun v hv => hv.2)
  have key : ∀ z : Int, 0 ≤ z → (0 ≤ (x.people.getD i default).father → v.getD (x.people.getD i default).father.toNat default + 1 ≤ z) → (0 ≤ (x.people.getD i default).mother → v.getD (x.people.getD i default).mother.toNat default + 1 ≤ z) →
      (v ++ [z]).length = i + 1 ∧ ∀ k : Nat, k < i + 1 → 0 ≤ (v ++ [z]).getD k default ∧ (0 ≤ (x.people.getD k default).father → (v ++ [z]).getD (x.people.getD k default).father.toNat default + 1 ≤ (v ++ [z]).getD k default) ∧ (0 ≤ (x.people.getD k default).mother → (v ++ [z]).getD (x.people.getD k default).mother.toNat default + 1 ≤ (v ++ [z]).getD k default) := by
    intro z hz h1 h2
    refine ⟨by simp [hv.1], fun k hk => ?_⟩
    have hpk := hp k (by omega)
    have hl := hv.1
    by_cases c : k = i
    · subst c
      rw [snoc_eq (by omega)]
      refine ⟨hz, fun h => ?_, fun h => ?_⟩
      · rw [snoc_lt (by omega)]; exact h1 h
      · rw [snoc_lt (by omega)]; exact h2 h
    · rw [snoc_lt (k := k) (by omega)]
      have h3 := hv.2 k (by omega)
      refine ⟨h3.1, fun h => ?_, fun h => ?_⟩
      · rw [snoc_lt (by omega)]; exact h3.2.1 h
      · rw [snoc_lt (by omega)]; exact h3.2.2 h
  have h0 : ∀ q : Int, 0 ≤ q → q < i → 0 ≤ v.getD q.toNat default := fun q h1 h2 => (hv.2 q.toNat (by omega)).1
  have hpi := hp i hi
  cases c1 : decide (0 ≤ (x.people.getD i default).father) <;> cases c2 : decide (0 ≤ (x.people.getD i default).mother) <;> simp only [cond_true, cond_false] <;> simp only [decide_eq_true_eq, decide_eq_false_iff_not] at c1 c2 <;> refine hn _ (key _ ?_ ?_ ?_)
  all_goals first
    | omega
    | (have := h0 _ c1 hpi.1; omega)
    | (have := h0 _ c2 hpi.2; omega)
theorem dd_rng {x : Family} (hf : specIsFamily x = true) {a : Int} (ha : 0 ≤ a ∧ a < x.people.length) : 0 ≤ dd x a ∧ dd x a ≤ 10 :=
  ⟨(l1Depths_par x (isFamily_par x hf) a.toNat (by omega)).1, ((specIsFamily_iff x).1 hf).2.2.1 a.toNat (by omega)⟩
theorem dd_par {x : Family} (hf : specIsFamily x = true) {a : Int} (ha : 0 ≤ a ∧ a < x.people.length) {q : Int} (hq : 0 ≤ q ∧ (q = (x.people.getD a.toNat default).father ∨ q = (x.people.getD a.toNat default).mother)) : q < a ∧ dd x q + 1 ≤ dd x a := by
  have h1 := l1Depths_par x (isFamily_par x hf) a.toNat (by omega)
  have h2 := isFamily_par x hf a.toNat (by omega)
  obtain ⟨hq, rfl | rfl⟩ := hq
  · exact ⟨by omega, h1.2.1 hq⟩
  · exact ⟨by omega, h1.2.2 hq⟩
def C44 (R : Bool) : LV × List (Nat × BC) := (.bool R, [])
def implAlive (x0 : Family) (x1 : Int) (x2 : Int) : Bool := (decide (((x0.people.getD x1.toNat default).born) ≤ x2)) && ((decide (((x0.people.getD x1.toNat default).died) = (-1))) || (decide (x2 < ((x0.people.getD x1.toNat default).died))))
def A44 (x0 : Family) (x1 : Int) (x2 : Int) : Ann := .reg 3 [] [] [6] [] [decide (((x0.people.getD x1.toNat default).born) ≤ x2), (decide (((x0.people.getD x1.toNat default).born) ≤ x2)) && (!(decide (((x0.people.getD x1.toNat default).died) = (-1))))] [pf (0 ≤ (x1 : Int) ∧ (x1 : Int) < ((x0.people.length : Nat) : Int)), gt (decide (((x0.people.getD x1.toNat default).born) ≤ x2)) (gf (decide (((x0.people.getD x1.toNat default).died) = (-1))) (pf (((decide (((x0.people.getD x1.toNat default).born) ≤ x2)) && (!(decide (((x0.people.getD x1.toNat default).died) = (-1))))) = true)))] [] [0, 1, 1, 1, 5, 5, 5, 1, 4, 1] (rt [] (C44 ((decide (((x0.people.getD x1.toNat default).born) ≤ x2)) && ((decide (((x0.people.getD x1.toNat default).died) = (-1))) || (decide (x2 < ((x0.people.getD x1.toNat default).died)))))))
theorem ok_impl_isAlive (x0 : Family) (x1 : Int) (x2 : Int) (hx : x0.people.length ≤ 1048576) (h1 : 0 ≤ x1 ∧ x1 < x0.people.length) : FnT Try.prog 44 [.agg (cFamily false x0), .int .i64 x1, .int .i64 x2] (C44 (implAlive x0 x1 x2)) := by
  have aux : ∀ R, implAlive x0 x1 x2 = R → slim (C44 R) (A44 x0 x1 x2) [] := by
    intro R hR
    refine rg ⟨by trivial, by ((try clear hR); intros; (try simp only [decide_eq_true_eq, decide_eq_false_iff_not, Bool.or_eq_true, Bool.and_eq_true, or_f_iff, not_f_iff, not_t_iff, Bool.not_eq_true', inR] at *); (repeat' apply And.intro) <;> (intros; omega)), trivial⟩ ?_
    exact congrArg C44 hR
  exact Fn.go 28 Try.func44 (by kernel_rfl) (by kernel_rfl) (by simp [C44, Frs, FrsL]) (A44 x0 x1 x2) (by kernel_rfl) (aux _ rfl)
def k44 (x0 : Family) (x1 : Int) (x2 : Int) : Cl := (hres (C44 (implAlive x0 x1 x2)), k2 (ok_impl_isAlive x0 x1 x2))
def C36 (R : Bool) : LV × List (Nat × BC) := (.bool R, [])
def l1Alive (x0 : Family) (x1 : Int) (x2 : Int) : Bool := (decide (((x0.people.getD x1.toNat default).born) ≤ x2)) && ((decide (((x0.people.getD x1.toNat default).died) = (-1))) || (decide (x2 < ((x0.people.getD x1.toNat default).died))))
def A36 (x0 : Family) (x1 : Int) (x2 : Int) : Ann := .reg 3 [] [] [6] [] [decide (((x0.people.getD x1.toNat default).born) ≤ x2), (decide (((x0.people.getD x1.toNat default).born) ≤ x2)) && (!(decide (((x0.people.getD x1.toNat default).died) = (-1))))] [pf (0 ≤ (x1 : Int) ∧ (x1 : Int) < ((x0.people.length : Nat) : Int)), gt (decide (((x0.people.getD x1.toNat default).born) ≤ x2)) (gf (decide (((x0.people.getD x1.toNat default).died) = (-1))) (pf (((decide (((x0.people.getD x1.toNat default).born) ≤ x2)) && (!(decide (((x0.people.getD x1.toNat default).died) = (-1))))) = true)))] [] [0, 1, 1, 1, 5, 5, 5, 1, 4, 1] (rt [] (C36 ((decide (((x0.people.getD x1.toNat default).born) ≤ x2)) && ((decide (((x0.people.getD x1.toNat default).died) = (-1))) || (decide (x2 < ((x0.people.getD x1.toNat default).died)))))))
theorem ok_spec_l1Alive (x0 : Family) (x1 : Int) (x2 : Int) (hx : x0.people.length ≤ 1048576) (h1 : 0 ≤ x1 ∧ x1 < x0.people.length) : FnT Try.prog 36 [.agg (cFamily false x0), .int .i64 x1, .int .i64 x2] (C36 (l1Alive x0 x1 x2)) := by
  have aux : ∀ R, l1Alive x0 x1 x2 = R → slim (C36 R) (A36 x0 x1 x2) [] := by
    intro R hR
    refine rg ⟨by trivial, by ((try clear hR); intros; (try simp only [decide_eq_true_eq, decide_eq_false_iff_not, Bool.or_eq_true, Bool.and_eq_true, or_f_iff, not_f_iff, not_t_iff, Bool.not_eq_true', inR] at *); (repeat' apply And.intro) <;> (intros; omega)), trivial⟩ ?_
    exact congrArg C36 hR
  exact Fn.go 28 Try.func36 (by kernel_rfl) (by kernel_rfl) (by simp [C36, Frs, FrsL]) (A36 x0 x1 x2) (by kernel_rfl) (aux _ rfl)
def k36 (x0 : Family) (x1 : Int) (x2 : Int) : Cl := (hres (C36 (l1Alive x0 x1 x2)), k2 (ok_spec_l1Alive x0 x1 x2))
structure estate where
  f : Family
  p : Int
  year : Int
  takes : List Bool
  num : List Int
  den : List Int
  deriving Inhabited
def cestate (fr : Bool) (x : estate) : List LV := cFamily fr x.f ++ cInt .i64 x.p ++ cInt .i64 x.year ++ cSl fr 1 (cBool) x.takes ++ cSl fr 1 (cInt .i64) x.num ++ cSl fr 1 (cInt .i64) x.den

def C47 (R : Int) : LV × List (Nat × BC) := (.int .i64 R, [])
def implGcd (x0 : Int) (x1 : Int) : Int := loopW (fun (v1 : Int × Int) next => bif (!decide (v1.2 = 0)) then (next (v1.2, v1.1.tmod v1.2)) else v1.1) ((x1).toNat + 1) (x0, x1)
def D47b1 (x0 : Int) (x1 : Int) (v1 : Int × Int) : Dl := ⟨[(0, .int .i64 v1.1), (1, .int .i64 v1.2)], []⟩
def A47b1 (x0 : Int) (x1 : Int) (v1 : Int × Int) : Ann := r0 1 [0, 1, 4, 6] [] (cn (!decide (v1.2 = 0)) (r1 1 [0, 1, 4] [] [pf ((v1.2 : Int) ≠ 0)] [0] (.next 0 [] (D47b1 x0 x1 (v1.2, v1.1.tmod v1.2)))) (r0 1 [4] [] (rt [] (C47 v1.1))))
def A47 (x0 : Int) (x1 : Int) : Ann := r0 1 [0, 1, 4] [] (.loop (Int × Int) (D47b1 x0 x1) [] [] [] (D47b1 x0 x1 (x0, x1)) (A47b1 x0 x1))
theorem ok_impl_gcd (x0 : Int) (x1 : Int) (h0 : 0 ≤ x0) (h1 : 0 ≤ x1) : FnT Try.prog 47 [.int .i64 x0, .int .i64 x1] (C47 (implGcd x0 x1)) := by
  have aux : ∀ R, implGcd x0 x1 = R → slim (C47 R) (A47 x0 x1) [] := by
    intro R hR
    refine rg trivial ?_
    revert hR; refine lW (fun v => 0 ≤ v.1 ∧ 0 ≤ v.2) (fun v => (v.2).toNat) (by trivial) (Nat.lt_succ_self _) rfl fun m1 v1 F1 hI1 hM1 hR hK1 => ?_
    refine rg trivial ?_
    revert hR; refine cd (fun hc1 hR => ?_) fun hc1 hR => ?_
    ·
      refine rg ⟨by (have h9 := Int.tmod_nonneg (a := v1.1) v1.2 hI1.1; have h8 := Int.tmod_lt_of_pos v1.1 (b := v1.2) (by simp only [decide_eq_true_eq, decide_eq_false_iff_not, Bool.not_eq_true', Bool.not_eq_false'] at *; omega); omega), trivial⟩ ?_
      exact hK1 (v1.2, v1.1.tmod v1.2) (by (have h9 := Int.tmod_nonneg (a := v1.1) v1.2 hI1.1; have h8 := Int.tmod_lt_of_pos v1.1 (b := v1.2) (by simp only [decide_eq_true_eq, decide_eq_false_iff_not, Bool.not_eq_true', Bool.not_eq_false'] at *; omega); omega)) (by (have h9 := Int.tmod_nonneg (a := v1.1) v1.2 hI1.1; have h8 := Int.tmod_lt_of_pos v1.1 (b := v1.2) (by simp only [decide_eq_true_eq, decide_eq_false_iff_not, Bool.not_eq_true', Bool.not_eq_false'] at *; omega); omega)) hR
    ·
      refine rg trivial ?_
      exact congrArg C47 hR
  exact Fn.go 12 Try.func47 (by kernel_rfl) (by kernel_rfl) (by simp [C47, Frs, FrsL]) (A47 x0 x1) (by kernel_rfl) (aux _ rfl)
def k47 (x0 : Int) (x1 : Int) : Cl := (hres (C47 (implGcd x0 x1)), k2 (ok_impl_gcd x0 x1))
def C25 (x0 : estate) (x1 : List Int) (R : (List Int) × (List Bool) × (List Int) × (List Int)) : LV × List (Nat × BC) := (.own 0, [(900000, .var [.ro false 6 x0.f.people.length (rowOf (cPerson false) x0.f.people), .ro false 4 x0.f.unions.length (rowOf (cUnion false) x0.f.unions), .int .i64 x0.p, .int .i64 x0.year, .own 1, .own 2, .own 3]), (900004, .arr 1 x1.length (rowOf (cInt .i64) x1)), (0, .arr 1 R.1.length (rowOf (cInt .i64) R.1)), (1, .arr 1 R.2.1.length (rowOf (cBool) R.2.1)), (2, .arr 1 R.2.2.1.length (rowOf (cInt .i64) R.2.2.1)), (3, .arr 1 R.2.2.2.length (rowOf (cInt .i64) R.2.2.2))])
def taking (x0 : estate) (x1 : List Int) : (List Int) × (List Bool) × (List Int) × (List Int) := loopN (fun i1 (v1 : (List Int)) next => bif (x0.takes.getD ((x1.getD i1 default).toNat) default) then (next (v1 ++ [(x1.getD i1 default)])) else (next v1)) (fun (v1 : (List Int)) => (v1, x0.takes, x0.num, x0.den)) x1.length 0 ([] : List Int)
def D25b1 (x0 : estate) (x1 : List Int) (i1 : Nat) (v1 : (List Int)) : Dl := ⟨[(10, .int .i64 ((i1 : Nat) : Int)), (5, .own 20005)], [(20005, .arr 1 v1.length (rowOf (cInt .i64) v1))]⟩
def A25b1 (x0 : estate) (x1 : List Int) (i1 : Nat) (v1 : (List Int)) : Ann := r0 1 [0, 4, 5, 8, 9, 10, 11] [20005, 900000, 900001, 900002, 900003, 900004] (cn (decide (((i1 : Nat) : Int) < ((x1.length : Nat) : Int))) (r1 2 [0, 4, 5, 7, 8, 9, 10, 20] [20005, 900000, 900001, 900002, 900003, 900004] [pf (0 ≤ (((i1 : Nat) : Int) : Int) ∧ (((i1 : Nat) : Int) : Int) < ((x1.length : Nat) : Int)), pf (0 ≤ ((x1.getD i1 default) : Int) ∧ ((x1.getD i1 default) : Int) < ((x0.takes.length : Nat) : Int))] [0, 4] (cn (x0.takes.getD ((x1.getD i1 default).toNat) default) (.reg 1 [] [(2, bsC 23 (cInt .i64) ([(x1.getD i1 default)] : List Int)), (3, ap1 24 (cInt .i64) 8 v1 (x1.getD i1 default))] [0, 4, 5, 8, 9, 10] [24, 900000, 900001, 900002, 900003, 900004] [] [] [] [0, 4] (r1 1 [0, 4, 5, 8, 9, 10] [24, 900000, 900001, 900002, 900003, 900004] [pf (inR .i64 (((i1 : Nat) : Int) + 1))] [0] (.next 0 [(20005, some 24)] (D25b1 x0 x1 (i1 + 1) (v1 ++ [(x1.getD i1 default)]))))) (r1 1 [0, 4, 5, 8, 9, 10] [20005, 900000, 900001, 900002, 900003, 900004] [pf (inR .i64 (((i1 : Nat) : Int) + 1))] [0] (.next 0 [(20005, some 20005)] (D25b1 x0 x1 (i1 + 1) v1))))) (r0 1 [4] [20005, 900000, 900001, 900002, 900003, 900004] (rt [(900000, some 900000), (900004, some 900004), (0, some 20005), (1, some 900001), (2, some 900002), (3, some 900003)] (C25 x0 x1 (v1, x0.takes, x0.num, x0.den)))))
def A25 (x0 : estate) (x1 : List Int) : Ann := r0 2 [0, 1, 4, 5] [900000, 900001, 900002, 900003, 900004] (r0 1 [0, 4, 5, 8, 9, 10] [900000, 900001, 900002, 900003, 900004] (lp (D25b1 x0 x1) [] [] [(20005, none)] (D25b1 x0 x1 0 ([] : List Int)) (A25b1 x0 x1)))
theorem ok_impl_estate__taking (x0 : estate) (x1 : List Int) (ht : x0.takes.length ≤ 1048576) (hl : x1.length ≤ 1048576) (hr : ∀ c ∈ x1, 0 ≤ c ∧ c < x0.takes.length) : FnMT Try.prog 25 [.vp 900000 0, .own 900004] [.var [.ro false 6 x0.f.people.length (rowOf (cPerson false) x0.f.people), .ro false 4 x0.f.unions.length (rowOf (cUnion false) x0.f.unions), .int .i64 x0.p, .int .i64 x0.year, .own 900001, .own 900002, .own 900003], .arr 1 x0.takes.length (rowOf (cBool) x0.takes), .arr 1 x0.num.length (rowOf (cInt .i64) x0.num), .arr 1 x0.den.length (rowOf (cInt .i64) x0.den), .arr 1 x1.length (rowOf (cInt .i64) x1)] (C25 x0 x1 (taking x0 x1)) := by
  have aux : ∀ R, taking x0 x1 = R → slim (C25 x0 x1 R) (A25 x0 x1) [] := by
    intro R hR
    refine rg trivial ?_
    refine rg trivial ?_
    revert hR; refine lN (fun i v => v.length ≤ i) (by trivial) rfl fun i1 v1 F1 hn1 hI1 hR hK1 => ?_
    refine rg trivial ?_
    refine ⟨fun hc1 => ?_, fun hc1 => ?_⟩
    · have hii1 : i1 < x1.length := by have := of_decide_eq_true hc1; omega
      replace hR := loopN_step hR hii1
      refine rg ⟨by (intros; omega), by ((try clear hR hK1); intros; (try simp only [decide_eq_true_eq, decide_eq_false_iff_not, Bool.or_eq_true, Bool.and_eq_true, or_f_iff, not_f_iff, not_t_iff, Bool.not_eq_true', inR] at *); (repeat' apply And.intro) <;> (simp_all [inR]; done)), trivial⟩ ?_
      revert hR; refine cd (fun hc2 hR => ?_) fun hc2 hR => ?_
      ·
        refine rg ⟨trivial, by omega, trivial⟩ ?_
        refine rg ⟨by ( intros; simp only [inR]; omega), trivial⟩ ?_
        exact hK1 (v1 ++ [(x1.getD i1 default)]) hii1 (by ((try clear hR hK1); intros; (try simp only [decide_eq_true_eq, decide_eq_false_iff_not, Bool.or_eq_true, Bool.and_eq_true, or_f_iff, not_f_iff, not_t_iff, Bool.not_eq_true', inR] at *); (repeat' apply And.intro) <;> (simp_all [inR]; done))) hR
      ·
        refine rg ⟨by ( intros; simp only [inR]; omega), trivial⟩ ?_
        exact hK1 v1 hii1 (by (intros; omega)) hR
    · obtain rfl : i1 = x1.length := by have := of_decide_eq_false hc1; omega
      replace hR := loopN_end hR (Nat.lt_irrefl _)
      refine rg trivial ?_
      exact congrArg (C25 x0 x1) hR
  exact FnM.go 27 Try.func25 (by kernel_rfl) (by kernel_rfl) (A25 x0 x1) (by kernel_rfl) (aux _ rfl)
def k25 (d : Nat) (ids : List Nat) (x0 : estate) (x1 : List Int) : Cl := (hresM d ids (C25 x0 x1 (taking x0 x1)), k3 (ok_impl_estate__taking x0 x1))
end Go.Proofs.Ytmefknjcgdbceaa
