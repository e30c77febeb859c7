import Derived.Test.YtmefknjcgdbceaaVS7
set_option maxHeartbeats 4000000
set_option linter.unusedSimpArgs false
set_option linter.unusedVariables false
namespace Go.Proofs.Ytmefknjcgdbceaa
open Go Go.Lite Go.Proofs
/-! ### package sort's functions sort -/
/-- The order of children. -/
theorem elder_swo (f : Family) : SWO (implElder f) := by
  refine ⟨fun x => ?_, fun x y h => ?_, fun x y z h1 h2 => ?_⟩
  · simp [implElder]
  · simp only [implElder, Bool.or_eq_true, Bool.and_eq_true, decide_eq_true_eq, Bool.or_eq_false_iff, Bool.and_eq_false_iff, decide_eq_false_iff_not] at *
    omega
  · simp only [implElder, Bool.or_eq_true, Bool.and_eq_true, decide_eq_true_eq, Bool.or_eq_false_iff, Bool.and_eq_false_iff, decide_eq_false_iff_not] at *
    omega
theorem insSortE_srt (x0 : SrtE) (x1 x2 : Int) (h : 0 ≤ x1 ∧ x1 ≤ x2 ∧ x2 ≤ x0.l.length) : Srt (implElder x0.c0) x1 x2 (insSortE x0 x1 x2) := by
  have hR := elder_swo x0.c0
  unfold insSortE
  refine loopW_to (fun (v : Int × List Int) => (x1 + 1 ≤ v.1 ∧ (v.1 ≤ x2 ∨ v.1 = x1 + 1)) ∧ v.2.length = x0.l.length ∧ Srt (implElder x0.c0) x1 v.1 v.2) (fun v => (x2 - v.1).toNat) (fun l => Srt (implElder x0.c0) x1 x2 l) (fun v next hv hn => ?_) _ _ (by dsimp only; omega) ⟨by dsimp only; omega, rfl, fun i j h1 h2 h3 => absurd h3 (by dsimp only; omega)⟩
  obtain ⟨hb, hl, hs⟩ := hv
  cases hc : decide (v.1 < x2) with
  | false =>
    have hc := of_decide_eq_false hc
    exact fun i j h1 h2 h3 => hs i j h1 h2 (by omega)
  | true =>
    have hc := of_decide_eq_true hc
    refine loopW_to (fun (w : Int × List Int) => w.2.length = x0.l.length ∧ InsI (implElder x0.c0) x1 v.1 w.1 w.2) (fun w => w.1.toNat) (fun l => Srt (implElder x0.c0) x1 x2 l) (fun w next2 hw hn2 => ?_) _ _ (by dsimp only; omega) ⟨hl, InsI.start (by omega) hs⟩
    obtain ⟨hwl, hw⟩ := hw
    have hwb := hw.b
    cases hd : decide (x1 < w.1) && chosenLess w.1 (w.1 - 1) x0.c0 w.2 with
    | false =>
      refine hn (_, _) ⟨by dsimp only; omega, hwl, hw.done hR fun hj => ?_⟩ (by dsimp only; omega)
      rw [decide_eq_true hj] at hd
      exact hd
    | true =>
      simp only [Bool.and_eq_true, decide_eq_true_eq] at hd
      exact hn2 (_, _) ⟨by rw [swp_len]; exact hwl, hw.step hR (by omega) (by omega) hd.1 hd.2⟩ (by dsimp only; omega)
theorem siftDownE_heap (x0 : SrtE) (lo hi first : Int) (h : 0 ≤ lo ∧ 0 ≤ first ∧ 0 ≤ hi ∧ first + hi ≤ x0.l.length) (hh : Heap (implElder x0.c0) first (lo + 1) hi x0.l) : Heap (implElder x0.c0) first lo hi (siftDownE x0 lo hi first) := by
  have hR := elder_swo x0.c0
  unfold siftDownE
  refine loopW_to (fun (v : Int × List Int) => v.2.length = x0.l.length ∧ HeapI (implElder x0.c0) first lo hi v.1 v.2) (fun v => (hi + 255 - v.1).toNat) (fun l => Heap (implElder x0.c0) first lo hi l) (fun v next hv hn => ?_) _ _ (by dsimp only; omega) ⟨rfl, HeapI.start h.1 hh⟩
  obtain ⟨hl, hv⟩ := hv
  have hb := hv.b
  cases hc : decide (hi ≤ 2 * v.1 + 1) with
  | true =>
    have hc := of_decide_eq_true hc
    exact hv.done fun c h1 h2 => absurd h2 (by omega)
  | false =>
    have hc := of_decide_eq_false hc
    cases hd : (decide (2 * v.1 + 1 + 1 < hi)) && (chosenLess (first + (2 * v.1 + 1)) ((first + (2 * v.1 + 1)) + 1) x0.c0 v.2) with
    | true =>
      simp only [Bool.and_eq_true, decide_eq_true_eq] at hd
      have hd2 : implElder x0.c0 (gi v.2 (first + (2 * v.1 + 1))) (gi v.2 (first + (2 * v.1 + 1) + 1)) = true := hd.2
      rw [show first + (2 * v.1 + 1) + 1 = first + (2 * v.1 + 2) by omega] at hd2
      have e2 : 2 * v.1 + 1 + 1 = 2 * v.1 + 2 := by omega
      rw [e2]
      cases he : !(chosenLess (first + v.1) (first + (2 * v.1 + 2)) x0.c0 v.2) with
      | true =>
        have he : implElder x0.c0 (gi v.2 (first + v.1)) (gi v.2 (first + (2 * v.1 + 2))) = false := (by simpa using he : chosenLess (first + v.1) (first + (2 * v.1 + 2)) x0.c0 v.2 = false)
        refine hv.done fun c h1 h2 => ?_
        rcases h1 with h1 | h1
        · subst h1; exact hR.ntr _ _ _ he (hR.asym _ _ hd2)
        · subst h1; exact he
      | false =>
        have he : implElder x0.c0 (gi v.2 (first + v.1)) (gi v.2 (first + (2 * v.1 + 2))) = true := (by simpa using he : chosenLess (first + v.1) (first + (2 * v.1 + 2)) x0.c0 v.2 = true)
        refine hn (_, _) ⟨by rw [swp_len]; exact hl, hv.step hR (by omega) (.inr rfl) (by omega) he fun d h1 h2 => ?_⟩ (by dsimp only; omega)
        rcases h1 with h1 | h1
        · subst h1; exact hR.asym _ _ hd2
        · subst h1; exact hR.irr _
    | false =>
      have hd2 : 2 * v.1 + 2 < hi → implElder x0.c0 (gi v.2 (first + (2 * v.1 + 1))) (gi v.2 (first + (2 * v.1 + 2))) = false := fun hk => by
        rw [decide_eq_true (show 2 * v.1 + 1 + 1 < hi by omega)] at hd
        rw [show first + (2 * v.1 + 2) = first + (2 * v.1 + 1) + 1 by omega]
        exact hd
      cases he : !(chosenLess (first + v.1) (first + (2 * v.1 + 1)) x0.c0 v.2) with
      | true =>
        have he : implElder x0.c0 (gi v.2 (first + v.1)) (gi v.2 (first + (2 * v.1 + 1))) = false := (by simpa using he : chosenLess (first + v.1) (first + (2 * v.1 + 1)) x0.c0 v.2 = false)
        refine hv.done fun c h1 h2 => ?_
        rcases h1 with h1 | h1
        · subst h1; exact he
        · subst h1; exact hR.ntr _ _ _ he (hd2 h2)
      | false =>
        have he : implElder x0.c0 (gi v.2 (first + v.1)) (gi v.2 (first + (2 * v.1 + 1))) = true := (by simpa using he : chosenLess (first + v.1) (first + (2 * v.1 + 1)) x0.c0 v.2 = true)
        refine hn (_, _) ⟨by rw [swp_len]; exact hl, hv.step hR (by omega) (.inl rfl) (by omega) he fun d h1 h2 => ?_⟩ (by dsimp only; omega)
        rcases h1 with h1 | h1
        · subst h1; exact hR.irr _
        · subst h1; exact hd2 h2
theorem heapSortE_srt (x0 : SrtE) (x1 x2 : Int) (h : 0 ≤ x1 ∧ x1 ≤ x2 ∧ x2 ≤ x0.l.length) : Srt (implElder x0.c0) x1 x2 (heapSortE x0 x1 x2) := by
  have hR := elder_swo x0.c0
  have h2 := tdiv2 (x2 - x1 - 1) (by omega)
  unfold heapSortE
  refine loopW_to (fun (v : Int × List Int) => (-1 ≤ v.1 ∧ v.1 ≤ (x2 - x1 - 1).tdiv 2) ∧ v.2.length = x0.l.length ∧ Heap (implElder x0.c0) x1 (v.1 + 1) (x2 - x1) v.2) (fun v => (v.1 + 1).toNat) (fun l => Srt (implElder x0.c0) x1 x2 l) (fun v next hv hn => ?_) _ _ (by dsimp only; omega) ⟨by dsimp only; omega, rfl, fun r c k1 k2 k3 => absurd k3 ?_⟩
  · obtain ⟨hb, hl, hv⟩ := hv
    cases hc : decide (0 ≤ v.1) with
    | true =>
      have hc := of_decide_eq_true hc
      refine hn (_, _) ⟨by dsimp only; omega, ?_, ?_⟩ (by dsimp only; omega)
      · exact (siftDownE_sw ⟨x0.c0, v.2⟩ v.1 (x2 - x1) x1 hc).len.trans hl
      · have := siftDownE_heap ⟨x0.c0, v.2⟩ v.1 (x2 - x1) x1 (by dsimp only; omega) hv
        dsimp only
        rw [show v.1 - 1 + 1 = v.1 by omega]
        exact this
    | false =>
      have hc := of_decide_eq_false hc
      have e : v.1 = -1 := by omega
      rw [e] at hv
      refine loopW_to (fun (w : Int × List Int) => (-1 ≤ w.1 ∧ w.1 < x2 - x1) ∧ w.2.length = x0.l.length ∧ Heap (implElder x0.c0) x1 0 (w.1 + 1) w.2 ∧ ∀ i j, x1 ≤ i → i < j → j < x2 → x1 + w.1 < j → implElder x0.c0 (gi w.2 j) (gi w.2 i) = false) (fun w => (w.1 + 1).toNat) (fun l => Srt (implElder x0.c0) x1 x2 l) (fun w next2 hw hn2 => ?_) _ _ (by dsimp only; omega) ⟨by dsimp only; omega, hl, ?_, fun i j k1 k2 k3 k4 => absurd k4 (by dsimp only; omega)⟩
      · obtain ⟨hb, hl, hw, hd⟩ := hw
        cases hc : decide (0 ≤ w.1) with
        | false =>
          have hc := of_decide_eq_false hc
          exact fun i j k1 k2 k3 => hd i j k1 k2 k3 (by omega)
        | true =>
          have hc := of_decide_eq_true hc
          have hg := fun (k : Int) (hk : 0 ≤ k) => gi_swp w.2 x1 (x1 + w.1) k (by omega) (by omega) hk
          have hh : Heap (implElder x0.c0) x1 (0 + 1) w.1 (swp w.2 x1 (x1 + w.1)) := fun r c k1 k2 k3 => by
            rw [hg (x1 + r) (by omega), hg (x1 + c) (by omega), if_neg (by omega), if_neg (by omega), if_neg (by omega), if_neg (by omega)]
            exact hw r c (by omega) k2 (by omega)
          have hs := siftDownE_sw ⟨x0.c0, swp w.2 x1 (x1 + w.1)⟩ 0 w.1 x1 (by omega)
          have hln : (swp w.2 x1 (x1 + w.1)).length = x0.l.length := by rw [swp_len]; exact hl
          have ho := fun (k : Int) (hk : 0 ≤ k) (h2 : k < x1 + 0 ∨ x1 + w.1 ≤ k) => hs.out (by omega) (by dsimp only; omega) hk h2
          refine hn2 (_, _) ⟨by dsimp only; omega, hs.len.trans hln, ?_, fun i j k1 k2 k3 k4 => ?_⟩ (by dsimp only; omega)
          · have := siftDownE_heap ⟨x0.c0, swp w.2 x1 (x1 + w.1)⟩ 0 w.1 x1 (by dsimp only; omega) hh
            dsimp only
            rw [show w.1 - 1 + 1 = w.1 by omega]
            exact this
          · have k4 : x1 + (w.1 - 1) < j := k4
            show implElder x0.c0 (gi (siftDownE ⟨x0.c0, swp w.2 x1 (x1 + w.1)⟩ 0 w.1 x1) j) (gi (siftDownE ⟨x0.c0, swp w.2 x1 (x1 + w.1)⟩ 0 w.1 x1) i) = false
            rw [ho j (by omega) (by omega)]
            -- what holds of all that lies ahead of j
            have key : ∀ k, x1 ≤ k → k < j → implElder x0.c0 (gi (swp w.2 x1 (x1 + w.1)) j) (gi (swp w.2 x1 (x1 + w.1)) k) = false := fun k q1 q2 => by
              rw [hg j (by omega), hg k (by omega)]
              by_cases ej : j = x1 + w.1
              · rw [if_pos ej, if_neg (by omega)]
                split
                · have := hw.top hR w.1.toNat (by omega)
                  rwa [show x1 + ((w.1.toNat : Nat) : Int) = x1 + w.1 by omega] at this
                · have := hw.top hR (k - x1).toNat (by omega)
                  rwa [show x1 + (((k - x1).toNat : Nat) : Int) = k by omega] at this
              · rw [if_neg ej, if_neg (by omega)]
                split
                · exact hd x1 j (by omega) (by omega) k3 (by omega)
                · split
                  · exact hd (x1 + w.1) j (by omega) (by omega) k3 (by omega)
                  · exact hd k j q1 q2 k3 (by omega)
            by_cases ei : x1 + w.1 ≤ i
            · rw [ho i (by omega) (by omega)]; exact key i k1 k2
            · exact hs.all (by omega) (by dsimp only; omega) (P := fun y => implElder x0.c0 (gi (swp w.2 x1 (x1 + w.1)) j) y = false) (fun k q1 q2 => key k (by omega) (by omega)) i (by omega) (by omega)
      · dsimp only
        have e0 : (-1 : Int) + 1 = 0 := by omega
        rw [e0] at hv
        rw [show x2 - x1 - 1 + 1 = x2 - x1 by omega]
        exact hv
  · dsimp only at k1 k2 k3 ⊢
    by_cases e : 0 ≤ x2 - x1 - 1
    · have : (x2 - x1 - 1).tdiv 2 = (x2 - x1 - 1) / 2 := Int.tdiv_eq_ediv_of_nonneg e
      omega
    · omega
theorem partInsE_srt (x0 : SrtE) (x1 x2 : Int) (h : x1 < x2 ∧ x2 - x1 < 50) (hr : (partInsE x0 x1 x2).1 = true) : Srt (implElder x0.c0) x1 x2 x0.l := by
  have hR := elder_swo x0.c0
  revert hr
  unfold partInsE
  refine loopN_to (fun i (v : Int × List Int) => v.2 = x0.l ∧ x1 + 1 ≤ v.1 ∧ v.1 ≤ x2 ∧ ∀ k, x1 < k → k < v.1 → implElder x0.c0 (gi x0.l k) (gi x0.l (k - 1)) = false) (fun (r : Bool × List Int) => r.1 = true → Srt (implElder x0.c0) x1 x2 x0.l) ⟨rfl, by dsimp only; omega, by dsimp only; omega, fun k k1 k2 => absurd k1 (by dsimp only at k2; omega)⟩ (fun i v next hi hv hn => ?_) (fun s hs hr => by cases hr)
  obtain ⟨he, hb1, hb2, hv⟩ := hv
  refine loopW_to (fun (w : Int) => x1 + 1 ≤ w ∧ w ≤ x2 ∧ ∀ k, x1 < k → k < w → implElder x0.c0 (gi x0.l k) (gi x0.l (k - 1)) = false) (fun (w : Int) => (x2 - w).toNat) (fun (r : Bool × List Int) => r.1 = true → Srt (implElder x0.c0) x1 x2 x0.l) (fun w next2 hw hn2 => ?_) _ _ (by omega) ⟨hb1, hb2, hv⟩
  cases hd : decide (w < x2) && !(chosenLess w (w - 1) x0.c0 v.2) with
  | true =>
    simp only [Bool.and_eq_true, decide_eq_true_eq] at hd
    refine hn2 _ ⟨by omega, by omega, fun k k1 k2 => ?_⟩ (by omega)
    by_cases e : k = w
    · subst e
      rw [he] at hd
      exact (by simpa using hd.2 : chosenLess k (k - 1) x0.c0 x0.l = false)
    · exact hw.2.2 k k1 (by omega)
  | false =>
    cases hx : decide (w = x2) with
    | true =>
      have hx := of_decide_eq_true hx
      subst hx
      exact fun _ => Srt.adj hR hw.2.2
    | false => rw [decide_eq_true h.2]; exact fun hq => by cases hq
theorem pdqE_r_srt : ∀ (m : Nat) (x0 : SrtE) (x1 x2 x3 : Int), 0 ≤ x1 ∧ x1 ≤ x2 ∧ x2 - x1 < 50 ∧ x2 ≤ 255 → x2 ≤ x0.l.length → (x2 - x1).toNat < m → (0 < x1 → ∀ k, x1 ≤ k → k < x2 → implElder x0.c0 (gi x0.l k) (gi x0.l (x1 - 1)) = false) → Srt (implElder x0.c0) x1 x2 (pdqE_r m x0 x1 x2 x3) := by
  intro m
  induction m with
  | zero => intro x0 x1 x2 x3 h hl hm; exact absurd hm (Nat.not_lt_zero _)
  | succ m ih =>
    intro x0 x1 x2 x3 h hl hm hp0
    have hR := elder_swo x0.c0
    rw [pdqE_r]
    refine loopW_to (fun (v : Int × Int × Int × Bool × Bool × List Int) => (x1 ≤ v.1 ∧ v.1 ≤ v.2.1 ∧ v.2.1 ≤ x2) ∧ v.2.2.2.2.2.length = x0.l.length ∧ Done (implElder x0.c0) x1 x2 v.1 v.2.1 v.2.2.2.2.2) (fun v => (v.2.1 - v.1).toNat) (fun (l : List Int) => Srt (implElder x0.c0) x1 x2 l) (fun v next hv hn => ?_) _ _ (by dsimp only; omega) ⟨by dsimp only; omega, rfl, fun i j k1 k2 k3 k4 => absurd k4 (by dsimp only; omega), hp0⟩
    obtain ⟨hb, hlen, hs⟩ := hv
    cases hc : decide (v.2.1 - v.1 ≤ 12) with
    | true => exact (hs.sw (insSortE_sw ⟨x0.c0, v.2.2.2.2.2⟩ v.1 v.2.1 (by omega)) (by omega)).fin (insSortE_srt ⟨x0.c0, v.2.2.2.2.2⟩ v.1 v.2.1 (by dsimp only; omega))
    | false =>
      have hc := of_decide_eq_false hc
      cases decide (v.2.2.1 = 0) with
      | true => exact (hs.sw (heapSortE_sw ⟨x0.c0, v.2.2.2.2.2⟩ v.1 v.2.1 (by omega)) (by omega)).fin (heapSortE_srt ⟨x0.c0, v.2.2.2.2.2⟩ v.1 v.2.1 (by dsimp only; omega))
      | false =>
        rw [cond_false, cond_false]
        refine jn_to (fun (j : Int × List Int) => j.2.length = x0.l.length ∧ Done (implElder x0.c0) x1 x2 v.1 v.2.1 j.2) (fun (l : List Int) => Srt (implElder x0.c0) x1 x2 l) (fun K hK => ?_) (fun j3 h3 => ?_)
        · cases !v.2.2.2.1 with
          | true =>
            have hw := breakPatE_sw ⟨x0.c0, v.2.2.2.2.2⟩ v.1 v.2.1 (by omega)
            exact hK (_, _) ⟨hw.len.trans hlen, hs.sw hw (by omega)⟩
          | false => exact hK (_, _) ⟨hlen, hs⟩
        · refine jn_to (fun (j : Int × Int) => v.1 ≤ j.1 ∧ j.1 < v.2.1) (fun (l : List Int) => Srt (implElder x0.c0) x1 x2 l) (fun K hK => hK (_, _) (choosePivotE_r ⟨x0.c0, j3.2⟩ v.1 v.2.1 (by omega))) (fun j5 h5 => ?_)
          refine jn_to (fun (j : Int × Int × List Int) => (v.1 ≤ j.1 ∧ j.1 < v.2.1) ∧ j.2.2.length = x0.l.length ∧ Done (implElder x0.c0) x1 x2 v.1 v.2.1 j.2.2) (fun (l : List Int) => Srt (implElder x0.c0) x1 x2 l) (fun K hK => ?_) (fun j6 h6 => ?_)
          · cases decide (j5.2 = 2) with
            | true =>
              have hw := reverseRangeE_sw ⟨x0.c0, j3.2⟩ v.1 v.2.1 (by omega)
              exact hK (_, _, _) ⟨by dsimp only; omega, hw.len.trans h3.1, h3.2.sw hw (by omega)⟩
            | false => exact hK (_, _, _) ⟨h5, h3⟩
          · obtain ⟨h6, h6s⟩ := h6
            refine jn_to (fun (j : List Int) => j.length = x0.l.length ∧ Done (implElder x0.c0) x1 x2 v.1 v.2.1 j) (fun (l : List Int) => Srt (implElder x0.c0) x1 x2 l) (fun K hK => ?_) (fun j8 h8 => ?_)
            · cases (v.2.2.2.1 && v.2.2.2.2.1) && (decide (j6.2.1 = 1)) with
              | false => exact hK _ h6s
              | true =>
                rw [cond_true]
                have hkp := partInsE_keep ⟨x0.c0, j6.2.2⟩ v.1 v.2.1 (by omega)
                cases hj : (partInsE ⟨x0.c0, j6.2.2⟩ v.1 v.2.1).1 with
                | true =>
                  show Srt (implElder x0.c0) x1 x2 (bif true then (partInsE ⟨x0.c0, j6.2.2⟩ v.1 v.2.1).2 else K (partInsE ⟨x0.c0, j6.2.2⟩ v.1 v.2.1).2)
                  rw [cond_true, hkp]
                  exact h6s.2.fin (partInsE_srt ⟨x0.c0, j6.2.2⟩ v.1 v.2.1 (by omega) hj)
                | false =>
                  show Srt (implElder x0.c0) x1 x2 (bif false then (partInsE ⟨x0.c0, j6.2.2⟩ v.1 v.2.1).2 else K (partInsE ⟨x0.c0, j6.2.2⟩ v.1 v.2.1).2)
                  rw [cond_false, hkp]
                  exact hK _ h6s
            · obtain ⟨hl8, h8⟩ := h8
              cases hq : (decide (0 < v.1)) && (!(chosenLess (v.1 - 1) j6.1 x0.c0 j8)) with
              | true =>
                simp only [Bool.and_eq_true, decide_eq_true_eq] at hq
                have hp := partEqE_ok ⟨x0.c0, j8⟩ v.1 v.2.1 j6.1 (by omega) (by dsimp only; omega)
                have hpb := hp.b
                have hc2 : implElder x0.c0 (gi j8 (v.1 - 1)) (gi j8 j6.1) = false := (by simpa using hq.2 : chosenLess (v.1 - 1) j6.1 x0.c0 j8 = false)
                exact hn (_, _, _, _, _, _) ⟨by dsimp only; omega, hp.s.len.trans hl8, h8.eqs hR (by omega) hq.1 hc2 hp.s hp.pv hp.lo hp.hi⟩ (by dsimp only; omega)
              | false =>
                have hp := partE_ok ⟨x0.c0, j8⟩ v.1 v.2.1 j6.1 (by omega) (by dsimp only; omega)
                have hpb := hp.b
                have hd11 := h8.sw hp.s (by omega)
                have hl11 := hp.s.len.trans hl8
                rw [cond_false]
                refine jn_to (fun (j : Int × Bool × List Int) => (v.1 ≤ j.1 ∧ j.1 < v.2.1) ∧ j.2.2.length = x0.l.length ∧ Done (implElder x0.c0) x1 x2 v.1 v.2.1 j.2.2 ∧ (∀ k, v.1 ≤ k → k < j.1 → implElder x0.c0 (gi j.2.2 k) (gi j.2.2 j.1) = true) ∧ ∀ k, j.1 < k → k < v.2.1 → implElder x0.c0 (gi j.2.2 k) (gi j.2.2 j.1) = false) (fun (l : List Int) => Srt (implElder x0.c0) x1 x2 l) (fun K hK => hK (_, _, _) ⟨hpb, hl11, hd11, fun k k1 k2 => by dsimp only at k2 ⊢; rw [hp.pv]; exact hp.lo k k1 k2, fun k k1 k2 => by dsimp only at k1 ⊢; rw [hp.pv]; exact hp.hi k k1 k2⟩) (fun j11 h11 => ?_)
                obtain ⟨h11, hl11, hd11, hlo, hhi⟩ := h11
                cases decide ((j11.1 - v.1) < (v.2.1 - j11.1)) with
                | true =>
                  have hw := pdqE_r_sw m ⟨x0.c0, j11.2.2⟩ v.1 j11.1 j3.1 (by omega) (by dsimp only; omega) (by omega)
                  have ht := ih ⟨x0.c0, j11.2.2⟩ v.1 j11.1 j3.1 (by omega) (by dsimp only; omega) (by omega) (fun h0 k k1 k2 => hd11.pb (by omega) h0 k k1 (by omega))
                  exact hn (_, _, _, _, _, _) ⟨by dsimp only; omega, hw.len.trans hl11, hd11.left hR (by omega) rfl hlo hhi hw ht⟩ (by dsimp only; omega)
                | false =>
                  have hw := pdqE_r_sw m ⟨x0.c0, j11.2.2⟩ (j11.1 + 1) v.2.1 j3.1 (by omega) (by dsimp only; omega) (by omega)
                  have ht := ih ⟨x0.c0, j11.2.2⟩ (j11.1 + 1) v.2.1 j3.1 (by omega) (by dsimp only; omega) (by omega) (fun h0 k k1 k2 => by
                    rw [show j11.1 + 1 - 1 = j11.1 by omega]
                    exact hhi k (by omega) k2)
                  exact hn (_, _, _, _, _, _) ⟨(show x1 ≤ v.1 ∧ v.1 ≤ j11.1 ∧ j11.1 ≤ x2 by omega), hw.len.trans hl11, hd11.right (mid := j11.1) (a := v.1) (b := v.2.1) hR (by omega) rfl hlo hhi hw ht⟩ (by dsimp only; omega)
/-- The whole list is sorted, and is a permutation. -/
theorem pdqE_sorted (x0 : SrtE) (x3 : Int) (h : x0.l.length < 50) : Srt (implElder x0.c0) 0 x0.l.length (pdqE x0 0 x0.l.length x3) ∧ (pdqE x0 0 x0.l.length x3).Perm x0.l := by
  unfold pdqE
  exact ⟨pdqE_r_srt 256 x0 0 x0.l.length x3 (by omega) (by omega) (by omega) (fun h0 => absurd h0 (by omega)), (pdqE_r_sw 256 x0 0 x0.l.length x3 (by omega) (by omega) (by omega)).perm (by omega) (by omega)⟩
end Go.Proofs.Ytmefknjcgdbceaa
