import Derived.Test.YtmefknjcgdbceaaVS32
set_option maxHeartbeats 4000000
set_option linter.unusedSimpArgs false
set_option linter.unusedVariables false
namespace Go.Proofs.Ytmefknjcgdbceaa
open Go Go.Lite Go.Proofs
/-! ### What is told of shares -/
theorem kid_par {f : Family} {q c : Int} (hq : 0 ≤ q) (h : c ∈ l1Children f q) : q ∈ l1Parents f c := by
  obtain ⟨k, h1, rfl, h3⟩ := (l1Children_mem f q c).1 h
  unfold l1Parents
  rw [Int.toNat_natCast]
  rcases h3 with e | e <;> rw [e]
  · rw [decide_eq_true hq]
    simp only [cond_true]
    exact cond_both (p := fun r => q ∈ r) (fun _ => by simp) (fun _ => by simp)
  · rw [decide_eq_true hq]
    simp only [cond_true]
    exact cond_both (p := fun r => q ∈ r) (fun _ => by simp) (fun _ => by simp)
def shOf (D : Nat) (S : List Nat) (n : Nat) : List Share := ((List.range n).filter fun k => decide (0 < S.getD k 0)).map fun (k : Nat) => Share.mk (k : Int) ((S.getD k 0 / Nat.gcd (S.getD k 0) D : Nat) : Int) ((D / Nat.gcd (S.getD k 0) D : Nat) : Int)
theorem red_pos {a D : Nat} (hD : 0 < D) : 0 < a / Nat.gcd a D ↔ 0 < a := by
  have hg : 0 < Nat.gcd a D := Nat.gcd_pos_of_pos_right _ hD
  constructor
  · intro h
    rcases Nat.eq_zero_or_pos a with e | e
    · subst e; simp at h
    · exact e
  · intro h; exact Nat.div_pos (Nat.le_of_dvd h (Nat.gcd_dvd_left _ _)) hg
theorem out_val {D : Nat} {S : List Nat} {nu de : List Int} (h : RepS D S nu de) : loopN (fun i5 (v5 : (List Share)) next => bif (decide (0 < (nu.getD i5 default))) then (next (v5 ++ [(Share.mk ((i5 : Nat) : Int) (nu.getD i5 default) (de.getD i5 default))])) else (next v5)) (fun (v5 : (List Share)) => v5) (nu.length) 0 ([] : List Share) = shOf D S S.length := by
  rw [h.ln]
  refine loopN_to (fun i (v : List Share) => v = shOf D S i) (fun r => r = shOf D S S.length) rfl (fun i v next hi hv hn => ?_) (fun v hv => hv)
  have e1 := h.nm i hi
  have e2 := h.dn i hi
  have e3 : decide (0 < nu.getD i default) = decide (0 < S.getD i 0) := by
    rw [decide_eq_decide, e1, ← red_pos (a := S.getD i 0) h.pos]; omega
  have e4 : shOf D S (i + 1) = shOf D S i ++ (bif decide (0 < S.getD i 0) then [Share.mk (i : Int) ((S.getD i 0 / Nat.gcd (S.getD i 0) D : Nat) : Int) ((D / Nat.gcd (S.getD i 0) D : Nat) : Int)] else []) := by
    unfold shOf
    rw [List.range_succ, filter_snoc, List.map_append]
    congr 1
    cases decide (0 < S.getD i 0) <;> rfl
  rw [e3]
  refine cond_both (p := fun r => r = shOf D S S.length) (fun c => hn _ ?_) (fun c => hn _ ?_)
  · rw [e4, c, hv, e1, e2]; rfl
  · rw [e4, c, hv]; simp
def unit (D : Nat) (s : Share) : Nat := s.num.toNat * (D / s.den.toNat)
theorem sum_filter (f : Nat → Nat) : ∀ l : List Nat, ((l.filter fun k => decide (0 < f k)).map f).sum = (l.map f).sum
  | [] => rfl
  | a :: l => by
    have ih := sum_filter f l
    by_cases h : 0 < f a
    · rw [List.filter_cons_of_pos (by simpa using h), List.map_cons, List.map_cons, List.sum_cons, List.sum_cons, ih]
    · rw [List.filter_cons_of_neg (by simpa using h), List.map_cons, List.sum_cons, ih]; omega
theorem map_range (S : List Nat) : (List.range S.length).map (fun k => S.getD k 0) = S := by
  refine List.ext_getElem (by simp) fun k h1 h2 => ?_
  rw [List.getElem_map, List.getElem_range, List.getD_eq_getElem?_getD, List.getElem?_eq_getElem h2]; rfl
theorem unit_red {a D : Nat} (hD : 0 < D) : a / Nat.gcd a D * (D / (D / Nat.gcd a D)) = a := by
  have hg : Nat.gcd a D ∣ D := Nat.gcd_dvd_right _ _
  rw [Nat.div_div_self hg (by omega), Nat.div_mul_cancel (Nat.gcd_dvd_left _ _)]
theorem shOf_sum {D : Nat} (hD : 0 < D) (S : List Nat) : ((shOf D S S.length).map (unit D)).sum = S.sum := by
  unfold shOf
  rw [List.map_map]
  have e : (unit D ∘ fun (k : Nat) => Share.mk (k : Int) ((S.getD k 0 / Nat.gcd (S.getD k 0) D : Nat) : Int) ((D / Nat.gcd (S.getD k 0) D : Nat) : Int)) = fun k => S.getD k 0 := by
    funext k
    simp only [Function.comp, unit, Int.toNat_natCast]
    exact unit_red hD
  rw [e, sum_filter, map_range]
end Go.Proofs.Ytmefknjcgdbceaa
