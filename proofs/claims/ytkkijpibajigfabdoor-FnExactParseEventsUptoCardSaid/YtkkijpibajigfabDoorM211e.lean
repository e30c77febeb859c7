import Derived.Test.YtkkijpibajigfabDoorVP1
set_option maxHeartbeats 4000000
set_option linter.unusedSimpArgs false
set_option linter.unusedVariables false
namespace Go.Proofs.YtkkijpibajigfabDoor
open Go Go.Lite Go.Proofs
theorem l1Split_eq (x : List UInt8) (c : UInt8) : l1Split x (c.toNat : Int) = pieces c x := by
  unfold l1Split
  refine loopN_to (fun i (v : List (List UInt8) × Int) => 0 ≤ v.2 ∧ v.2 ≤ (i : Int) ∧ (∀ j, v.2.toNat ≤ j → j < i → x.getD j 0 ≠ c) ∧ v.1 ++ pieces c (x.drop v.2.toNat) = pieces c x) (fun r => r = pieces c x) ⟨by simp, by simp, fun j h1 h2 => absurd h2 (Nat.not_lt_zero _), by simp⟩ (fun i v next hi hv hn => ?_) (fun v hv => ?_)
  · obtain ⟨h0, h1, h2, h3⟩ := hv
    cases e : decide (((x.getD i 0).toNat : Int) = (c.toNat : Int)) with
    | true =>
      have e := of_decide_eq_true e
      have e : x.getD i 0 = c := UInt8.toNat_inj.1 (by omega)
      rw [cond_true]
      refine hn _ ⟨by dsimp only; omega, by dsimp only; omega, fun j h4 h5 => by dsimp only at h4; omega, ?_⟩
      dsimp only
      obtain ⟨a, ha⟩ : ∃ a : Nat, v.2 = a := ⟨v.2.toNat, by omega⟩
      rw [ha] at h1 h2 h3 ⊢
      simp only [Int.toNat_natCast] at h2 h3 ⊢
      have ha2 : a ≤ i := by omega
      have hs : x.drop a = (x.drop a).take (i - a) ++ c :: x.drop (i + 1) := by
        have e1 : (x.drop a).drop (i - a) = c :: x.drop (i + 1) := by
          rw [List.drop_drop, show a + (i - a) = i by omega, List.drop_eq_getElem_cons hi]
          congr 1
          rw [← e, List.getD_eq_getElem?_getD, List.getElem?_eq_getElem hi]; rfl
        rw [← e1, List.take_append_drop]
      have hm : c ∉ (x.drop a).take (i - a) := fun hm => by
        obtain ⟨k, hk, e2⟩ := List.getElem_of_mem hm
        simp only [List.length_take, List.length_drop] at hk
        refine h2 (a + k) (by omega) (by omega) ?_
        rw [List.getElem_take, List.getElem_drop] at e2
        rw [List.getD_eq_getElem?_getD, List.getElem?_eq_getElem (by omega)]
        exact e2
      rw [← h3, show ((i : Int) + 1).toNat = i + 1 by omega, hs, pieces_hit hm, List.append_assoc, ← hs]
      rfl
    | false =>
      have e := of_decide_eq_false e
      rw [cond_false]
      refine hn _ ⟨h0, by dsimp only; omega, fun j h4 h5 => ?_, h3⟩
      by_cases hj : j < i
      · exact h2 j h4 hj
      · have : j = i := by omega
        subst this
        exact fun e2 => e (by rw [e2])
  · obtain ⟨h0, h1, h2, h3⟩ := hv
    obtain ⟨a, ha⟩ : ∃ a : Nat, v.2 = a := ⟨v.2.toNat, by omega⟩
    rw [ha] at h1 h2 h3 ⊢
    simp only [Int.toNat_natCast] at h2 h3 ⊢
    have hm : c ∉ x.drop a := fun hm => by
      obtain ⟨k, hk, e2⟩ := List.getElem_of_mem hm
      simp only [List.length_drop] at hk
      refine h2 (a + k) (by omega) (by omega) ?_
      rw [List.getElem_drop] at e2
      rw [List.getD_eq_getElem?_getD, List.getElem?_eq_getElem (by omega)]
      exact e2
    rw [← h3, pieces_miss hm, List.take_of_length_le (by simp)]
theorem split_eq (x : List UInt8) (c : UInt8) : splitS x [c] = l1Split x (c.toNat : Int) := (l1Split_eq x c).symm
/-! ### Numerals -/
theorem digitVal_of {b : UInt8} (h1 : 48 ≤ b.toNat) (h2 : b.toNat ≤ 57) : Lib.digitVal b = some (b.toNat - 48) := by unfold Lib.digitVal; rw [if_pos ⟨h1, h2⟩]
theorem itoa_snoc {v d : Int} (hv : 1 ≤ v) (hd : 0 ≤ d ∧ d ≤ 9) : itoa (10 * v + d) = itoa v ++ [UInt8.ofNat (48 + d.toNat)] := by
  unfold itoa
  have e1 : (10 * v + d).toNat / 10 = v.toNat := by omega
  have e2 : (10 * v + d).toNat % 10 = d.toNat := by omega
  rw [Lib.decDigits, dif_neg (by omega), e1, e2]
theorem itoa_digit {d : Int} (hd : 0 ≤ d ∧ d ≤ 9) : itoa d = [UInt8.ofNat (48 + d.toNat)] := by
  unfold itoa
  rw [Lib.decDigits_one (by omega)]
theorem byte_of_digit {b : UInt8} (h1 : 48 ≤ b.toNat) : UInt8.ofNat (48 + ((b.toNat : Int) - 48).toNat) = b := by
  have : 48 + ((b.toNat : Int) - 48).toNat = b.toNat := by omega
  rw [this]; exact UInt8.ofNat_toNat
/-- What the reference's reading of a numeral yields. -/
theorem l1Read_some {x : List UInt8} (h : 0 ≤ l1Read x) : itoa (l1Read x) = x ∧ l1Read x ≤ 9999 ∧ Lib.decFrom 0 x = some (l1Read x).toNat ∧ 1 ≤ x.length ∧ x.length ≤ 4 ∧ 48 ≤ (x.getD 0 0).toNat ∧ (x.getD 0 0).toNat ≤ 57 := by
  revert h
  unfold l1Read
  cases c : ((decide (((x.length : Nat) : Int) < 1) || decide (4 < ((x.length : Nat) : Int))) || (decide (((x.getD 0 0).toNat : Int) = 48) && decide (1 < ((x.length : Nat) : Int)))) with
  | true => intro h; rw [cond_true] at h; omega
  | false =>
    rw [cond_false]
    simp only [Bool.or_eq_false_iff, Bool.and_eq_false_iff, decide_eq_false_iff_not] at c
    obtain ⟨⟨c1, c2⟩, c3⟩ := c
    refine loopN_to (fun i (v : Int) => 0 ≤ v ∧ (i = 0 → v = 0) ∧ (i = 1 → v ≤ 9) ∧ (i = 2 → v ≤ 99) ∧ (i = 3 → v ≤ 999) ∧ (i = 4 → v ≤ 9999) ∧ Lib.decFrom 0 (x.take i) = some v.toNat ∧ (1 ≤ i → itoa v = x.take i ∧ (1 < x.length → 1 ≤ v) ∧ 48 ≤ (x.getD 0 0).toNat ∧ (x.getD 0 0).toNat ≤ 57))
      (fun r => 0 ≤ r → itoa r = x ∧ r ≤ 9999 ∧ Lib.decFrom 0 x = some r.toNat ∧ 1 ≤ x.length ∧ x.length ≤ 4 ∧ 48 ≤ (x.getD 0 0).toNat ∧ (x.getD 0 0).toNat ≤ 57)
      ⟨by omega, by simp, by simp, by simp, by simp, by simp, rfl, fun h => absurd h (by decide)⟩ (fun i v next hi hv hn => ?_) (fun v hv => ?_)
    · obtain ⟨h0, h1, h2, h3, h4, h5, h6, h7⟩ := hv
      cases e : (decide (((x.getD i 0).toNat : Int) < 48) || decide (57 < ((x.getD i 0).toNat : Int))) with
      | true => rw [cond_true]; intro h; omega
      | false =>
        rw [cond_false]
        simp only [Bool.or_eq_false_iff, decide_eq_false_iff_not] at e
        obtain ⟨e1, e2⟩ := e
        have hg : x[i]? = some (x.getD i 0) := by rw [List.getD_eq_getElem?_getD, List.getElem?_eq_getElem hi]; rfl
        have ht : x.take (i + 1) = x.take i ++ [x.getD i 0] := by rw [List.take_add_one, hg]; rfl
        generalize hb : x.getD i 0 = b at *
        have hd : 0 ≤ ((b.toNat : Int) - 48) ∧ ((b.toNat : Int) - 48) ≤ 9 := by omega
        have hn1 : (10 * v + ((b.toNat : Int) - 48)).toNat = v.toNat * 10 + (b.toNat - 48) := by omega
        refine hn _ ⟨by omega, by omega, by omega, by omega, by omega, by omega, ?_, fun _ => ?_⟩
        · rw [hn1]; exact Lib.decFrom_take x i 0 _ b _ h6 hg (digitVal_of (by omega) (by omega))
        · by_cases hi0 : i = 0
          · subst hi0
            rw [h1 rfl]
            refine ⟨?_, fun hl => ?_, by rw [hb]; omega, by rw [hb]; omega⟩
            · rw [ht, show (10 * 0 + ((b.toNat : Int) - 48)) = ((b.toNat : Int) - 48) by omega, itoa_digit hd, byte_of_digit (by omega)]; rfl
            · rw [hb] at c3; omega
          · obtain ⟨k1, k2, k3, k4⟩ := h7 (by omega)
            have hv1 := k2 (by omega)
            refine ⟨?_, fun _ => by omega, k3, k4⟩
            rw [itoa_snoc hv1 hd, byte_of_digit (by omega), k1, ht]
    · obtain ⟨h0, h1, h2, h3, h4, h5, h6, h7⟩ := hv
      intro _
      obtain ⟨k1, k2, k3, k4⟩ := h7 (by omega)
      rw [List.take_of_length_le (Nat.le_refl _)] at h6 k1
      exact ⟨k1, by omega, h6, by omega, by omega, k3, k4⟩
theorem decFrom_append (l m : List UInt8) : ∀ (acc k : Nat), Lib.decFrom acc l = some k → Lib.decFrom acc (l ++ m) = Lib.decFrom k m := by
  induction l with
  | nil => intro acc k h; simp only [Lib.decFrom, Option.some.injEq] at h; rw [h]; rfl
  | cons b r ih =>
    intro acc k h
    rw [List.cons_append, Lib.decFrom]
    rw [Lib.decFrom] at h
    cases hd : Lib.digitVal b with
    | none => rw [hd] at h; cases h
    | some d => rw [hd] at h; exact ih _ k h
theorem byte_digit (k : Nat) (h : k < 10) : (UInt8.ofNat (48 + k)).toNat = 48 + k := by
  rw [UInt8.toNat_ofNat', Nat.mod_eq_of_lt (by omega)]
/-- A number's numeral: what its bytes are. -/
theorem decDigits_is : ∀ (m n : Nat), n < m → Lib.decFrom 0 (Lib.decDigits n) = some n ∧ (∀ b ∈ Lib.decDigits n, 48 ≤ b.toNat ∧ b.toNat ≤ 57) ∧ 1 ≤ (Lib.decDigits n).length ∧ (1 ≤ n → ((Lib.decDigits n).getD 0 0).toNat ≠ 48)
  | 0, n, h => absurd h (Nat.not_lt_zero _)
  | m + 1, n, h => by
    by_cases c : n < 10
    · rw [Lib.decDigits_one c]
      have hb := byte_digit n c
      refine ⟨?_, fun b hb2 => ?_, by simp, fun h1 => ?_⟩
      · rw [Lib.decFrom, digitVal_of (by omega) (by omega), hb]
        simp only [Lib.decFrom]
        congr 1; omega
      · rw [List.mem_singleton.1 hb2]; omega
      · simp only [List.getD_cons_zero]; omega
    · obtain ⟨h1, h2, h3, h4⟩ := decDigits_is m (n / 10) (by omega)
      have hb := byte_digit (n % 10) (by omega)
      rw [Lib.decDigits, dif_neg c]
      refine ⟨?_, fun b hb2 => ?_, by simp, fun _ => ?_⟩
      · rw [decFrom_append _ _ _ _ h1, Lib.decFrom, digitVal_of (by omega) (by omega), hb]
        simp only [Lib.decFrom]
        congr 1; omega
      · rcases List.mem_append.1 hb2 with hb2 | hb2
        · exact h2 b hb2
        · rw [List.mem_singleton.1 hb2]; omega
      · have := h4 (by omega)
        rw [List.getD_eq_getElem?_getD, List.getElem?_append_left (by omega), ← List.getD_eq_getElem?_getD]
        exact this
theorem l1Read_itoa {n : Int} (h : 0 ≤ n ∧ n ≤ 9999) : l1Read (itoa n) = n := by
  obtain ⟨h1, h2, h3, h4⟩ := decDigits_is (n.toNat + 1) n.toNat (Nat.lt_succ_self _)
  have hl := itoa_len4 h.2
  have h5 : n.toNat = 0 → (itoa n).length = 1 := fun e => by unfold itoa; rw [e, Lib.decDigits_one (by decide)]; rfl
  have hp : 0 ≤ l1Read (itoa n) := by
    unfold l1Read
    have c : ((decide ((((itoa n).length : Nat) : Int) < 1) || decide (4 < (((itoa n).length : Nat) : Int))) || (decide ((((itoa n).getD 0 0).toNat : Int) = 48) && decide (1 < (((itoa n).length : Nat) : Int)))) = false := by
      simp only [Bool.or_eq_false_iff, Bool.and_eq_false_iff, decide_eq_false_iff_not]
      refine ⟨⟨?_, by omega⟩, ?_⟩
      · have : 1 ≤ (itoa n).length := h3
        omega
      · by_cases e : n.toNat = 0
        · right; have := h5 e; omega
        · left; have := h4 (by omega); unfold itoa; omega
    rw [c, cond_false]
    refine loopN_to (fun i (v : Int) => 0 ≤ v) (fun r => 0 ≤ r) (Int.le_refl _) (fun i v next hi hv hn => ?_) (fun v hv => hv)
    have hb : 48 ≤ ((itoa n).getD i 0).toNat ∧ ((itoa n).getD i 0).toNat ≤ 57 := by
      rw [List.getD_eq_getElem?_getD, List.getElem?_eq_getElem hi]
      exact h2 _ (List.getElem_mem hi)
    rw [decide_eq_false (by omega), decide_eq_false (by omega)]
    exact hn _ (by omega)
  obtain ⟨k1, k2, k3, _⟩ := l1Read_some hp
  have : Lib.decFrom 0 (itoa n) = some n.toNat := h1
  rw [k3] at this
  have := Option.some.inj this
  omega
theorem atoi_read {x : List UInt8} (h : 0 ≤ l1Read x) : Lib.atoi x = some (l1Read x) := by
  obtain ⟨k1, k2, k3, k4, k5, k6, k7⟩ := l1Read_some h
  match x, k4, k6, k7, k3 with
  | b :: r, _, k6, k7, k3 =>
    simp only [List.getD_cons_zero] at k6 k7
    have n1 : ¬ (b == 45) = true := fun e => by have := beq_iff_eq.1 e; subst this; exact absurd k6 (by decide)
    have n2 : ¬ (b == 43) = true := fun e => by have := beq_iff_eq.1 e; subst this; exact absurd k6 (by decide)
    unfold Lib.atoi
    dsimp only
    rw [if_neg n1, if_neg n2]
    unfold Lib.decNat
    rw [if_neg (by simp), k3]
    simp only [Option.map_some, Option.some.injEq]
    omega
/-- The program reads a year as the reference does. -/
theorem readYear_eq (x : List UInt8) : readYear x = bif decide (0 ≤ l1Read x) then (l1Read x, true) else (0, false) := by
  by_cases h : 0 ≤ l1Read x
  · obtain ⟨k1, k2, k3, k4, k5, _⟩ := l1Read_some h
    have ha := atoiE_some (atoi_read h)
    unfold readYear
    rw [ha, decide_eq_true h, decide_eq_false (by omega), decide_eq_false (by omega), decide_eq_false (by omega), decide_eq_false (by omega), k1]
    simp
  · rw [decide_eq_false h, cond_false]
    unfold readYear
    cases c1 : (decide (((x.length : Nat) : Int) < 1) || decide (4 < ((x.length : Nat) : Int))) with
    | true => rfl
    | false =>
      rw [cond_false]
      cases c2 : ((((atoiE x).2 || decide ((atoiE x).1 < 0)) || decide (9999 < (atoiE x).1)) || (!(itoa (atoiE x).1 == x))) with
      | true => rfl
      | false =>
        simp only [Bool.or_eq_false_iff, decide_eq_false_iff_not, Bool.not_eq_false'] at c2
        obtain ⟨⟨⟨_, d2⟩, d3⟩, d4⟩ := c2
        have d4 := beq_iff_eq.1 d4
        have := l1Read_itoa (n := (atoiE x).1) ⟨by omega, by omega⟩
        rw [d4] at this
        omega
end Go.Proofs.YtkkijpibajigfabDoor
