import Derived.Test.YtepefimocflfkaaM191
set_option maxHeartbeats 4000000
set_option linter.unusedSimpArgs false
set_option linter.unusedVariables false
namespace Go.Proofs.Ytepefimocflfkaa
open Go Go.Lite Go.Proofs
/-! ### Insertion and merging -/
theorem Srt.sub {α : Type} [Inhabited α] {R : α → α → Bool} {a b c d : Int} {l : List α} (h : Srt R a b l) (h1 : a ≤ c) (h2 : d ≤ b) : Srt R c d l := fun i j g1 g2 g3 => h i j (by omega) g2 (by omega)
theorem Srt.same {α : Type} [Inhabited α] {R : α → α → Bool} {a b : Int} {l m : List α} (h : Srt R a b l) (he : ∀ k, a ≤ k → k < b → gi m k = gi l k) : Srt R a b m := fun i j g1 g2 g3 => by rw [he i g1 (by omega), he j (by omega) g3]; exact h i j g1 g2 g3
theorem gIns_ok {α : Type} [Inhabited α] {R : α → α → Bool} (hR : SWO R) {l : List α} {a b : Int} (h : 0 ≤ a ∧ a ≤ b ∧ b ≤ l.length) : MrgOk R a b l (gIns R l a b) ∧ Srt R a b (gIns R l a b) := by
  suffices key : (fun r : List α => MrgOk R a b l r ∧ Srt R a b r) (gIns R l a b) from key
  unfold gIns
  refine loopW_to (fun v => a + 1 ≤ v.1 ∧ MrgOk R a b l v.2 ∧ Srt R a v.1 v.2) (fun v => (b - v.1).toNat) (fun r => MrgOk R a b l r ∧ Srt R a b r) (fun v next hv hn => ?_) _ _ (by dsimp only; omega) ⟨Int.le_refl _, .refl R a b l, fun i j g1 g2 g3 => by dsimp only at g3; omega⟩
  obtain ⟨h1, h2, h3⟩ := hv
  refine cond_both (p := fun r => MrgOk R a b l r ∧ Srt R a b r) (fun hc => ?_) (fun hc => ⟨h2, h3.sub (Int.le_refl _) (by have := of_decide_eq_false hc; omega)⟩)
  have hc := of_decide_eq_true hc
  refine loopW_to (fun w => (a ≤ w.1 ∧ w.1 ≤ v.1) ∧ MrgOk R a b l w.2 ∧ InsI R a v.1 w.1 w.2) (fun w => w.1.toNat) (fun r => MrgOk R a b l r ∧ Srt R a b r) (fun w next2 hw hn2 => ?_) _ _ (by dsimp only; omega) ⟨by dsimp only; omega, h2, InsI.start (by omega) h3⟩
  obtain ⟨g1, g2, g3⟩ := hw
  have hl := g2.len
  refine cond_both (p := fun r => MrgOk R a b l r ∧ Srt R a b r) (fun hd => ?_) (fun hd => hn _ ⟨by dsimp only; omega, g2, InsI.done hR g3 fun hj => ?_⟩ (by dsimp only; omega))
  · simp only [Bool.and_eq_true, decide_eq_true_eq] at hd
    refine hn2 _ ⟨by dsimp only; omega, g2.trans (mrg_adj hR (k := w.1 - 1) (by omega) ?_ (.inr ⟨by omega, rfl⟩)), InsI.step hR g3 h.1 (by omega) hd.1 hd.2⟩ (by dsimp only; omega)
    rw [show w.1 - 1 + 1 = w.1 by omega]; exact hd.2
  · rw [decide_eq_true hj, Bool.true_and] at hd; exact hd
/-- One element that stands ahead of a sorted range is put into it. -/
theorem gSym_one {α : Type} [Inhabited α] {R : α → α → Bool} (hR : SWO R) {l : List α} {a b j : Int} (h : 0 ≤ a ∧ a + 1 < b ∧ b ≤ l.length) (hs : Srt R (a + 1) b l) (hj : a + 1 ≤ j ∧ j ≤ b) (h1 : ∀ q, a + 1 ≤ q → q < j → R (gi l q) (gi l a) = true) (h2 : ∀ q, j ≤ q → q < b → R (gi l q) (gi l a) = false) :
    MrgOk R a b l (loopW (fun (v2 : Int × (List α)) next => bif (decide (v2.1 < (j - 1))) then (next (v2.1 + 1, (swp v2.2 v2.1 (v2.1 + 1)))) else v2.2) ((j - a).toNat + 1) (a, l)) ∧ Srt R a b (loopW (fun (v2 : Int × (List α)) next => bif (decide (v2.1 < (j - 1))) then (next (v2.1 + 1, (swp v2.2 v2.1 (v2.1 + 1)))) else v2.2) ((j - a).toNat + 1) (a, l)) := by
  suffices key : (fun r : List α => MrgOk R a b l r ∧ Srt R a b r) (loopW (fun (v2 : Int × (List α)) next => bif (decide (v2.1 < (j - 1))) then (next (v2.1 + 1, (swp v2.2 v2.1 (v2.1 + 1)))) else v2.2) ((j - a).toNat + 1) (a, l)) from key
  refine loopW_to (fun v => (a ≤ v.1 ∧ v.1 ≤ j - 1) ∧ MrgOk R a b l v.2 ∧ ∀ q, 0 ≤ q → gi v.2 q = if a ≤ q ∧ q < v.1 then gi l (q + 1) else if q = v.1 then gi l a else gi l q) (fun v => (j - v.1).toNat) (fun r => MrgOk R a b l r ∧ Srt R a b r) (fun v next hv hn => ?_) _ _ (by dsimp only; omega)
    ⟨by dsimp only; omega, .refl R a b l, fun q hq => by
      dsimp only
      rw [if_neg (by omega)]
      by_cases c : q = a
      · rw [if_pos c, c]
      · rw [if_neg c]⟩
  obtain ⟨k, v⟩ := v
  dsimp only at hv hn ⊢
  obtain ⟨hk, hm, hg⟩ := hv
  have hl := hm.len
  by_cases c : k < j - 1
  · rw [decide_eq_true c]
    simp only [cond_true]
    have e1 : gi v k = gi l a := by rw [hg k (by omega), if_neg (by omega), if_pos rfl]
    have e2 : gi v (k + 1) = gi l (k + 1) := by rw [hg (k + 1) (by omega), if_neg (by omega), if_neg (by omega)]
    refine hn _ ⟨by dsimp only; omega, hm.trans (mrg_adj hR (k := k) (by omega) (by rw [e1, e2]; exact h1 _ (by omega) (by omega)) (.inl ⟨rfl, rfl⟩)), fun q hq => ?_⟩ (by dsimp only; omega)
    dsimp only
    rw [gi_swp v k (k + 1) q (by omega) (by omega) hq]
    by_cases c1 : q = k + 1
    · rw [if_pos c1, e1, if_neg (by omega), if_pos c1]
    · rw [if_neg c1]
      by_cases c2 : q = k
      · rw [if_pos c2, e2, if_pos (by omega), c2]
      · rw [if_neg c2, hg q hq]
        by_cases c3 : a ≤ q ∧ q < k
        · rw [if_pos c3, if_pos (by omega)]
        · rw [if_neg c3, if_neg c2, if_neg (by omega), if_neg c1]
  · rw [decide_eq_false c]
    simp only [cond_false]
    refine ⟨hm, fun p q g1 g2 g3 => ?_⟩
    have hkj : k = j - 1 := by omega
    rw [hg p (by omega), hg q (by omega)]
    by_cases c1 : p < k
    · rw [if_pos (show a ≤ p ∧ p < k by omega)]
      by_cases c2 : q < k
      · rw [if_pos (by omega)]; exact hs _ _ (by omega) (by omega) (by omega)
      · rw [if_neg (by omega)]
        by_cases c3 : q = k
        · rw [if_pos c3]; exact hR.asym _ _ (h1 _ (by omega) (by omega))
        · rw [if_neg c3]; exact hs _ _ (by omega) (by omega) (by omega)
    · rw [if_neg (show ¬ (a ≤ p ∧ p < k) by omega), if_neg (show ¬ (a ≤ q ∧ q < k) by omega), if_neg (show ¬ q = k by omega)]
      by_cases c3 : p = k
      · rw [if_pos c3]; exact h2 _ (by omega) g3
      · rw [if_neg c3]; exact hs _ _ (by omega) g2 g3
/-- One element that stands behind a sorted range is put into it. -/
theorem gSym_last {α : Type} [Inhabited α] {R : α → α → Bool} (hR : SWO R) {l : List α} {a d j : Int} (h : 0 ≤ a ∧ a < d ∧ d + 1 ≤ l.length) (hs : Srt R a d l) (hj : a ≤ j ∧ j ≤ d) (h1 : ∀ q, a ≤ q → q < j → R (gi l d) (gi l q) = false) (h2 : ∀ q, j ≤ q → q < d → R (gi l d) (gi l q) = true) :
    MrgOk R a (d + 1) l (loopW (fun (v4 : Int × (List α)) next => bif (decide (j < v4.1)) then (next (v4.1 - 1, (swp v4.2 v4.1 (v4.1 - 1)))) else v4.2) ((d - j).toNat + 1) (d, l)) ∧ Srt R a (d + 1) (loopW (fun (v4 : Int × (List α)) next => bif (decide (j < v4.1)) then (next (v4.1 - 1, (swp v4.2 v4.1 (v4.1 - 1)))) else v4.2) ((d - j).toNat + 1) (d, l)) := by
  suffices key : (fun r : List α => MrgOk R a (d + 1) l r ∧ Srt R a (d + 1) r) (loopW (fun (v4 : Int × (List α)) next => bif (decide (j < v4.1)) then (next (v4.1 - 1, (swp v4.2 v4.1 (v4.1 - 1)))) else v4.2) ((d - j).toNat + 1) (d, l)) from key
  refine loopW_to (fun v => (j ≤ v.1 ∧ v.1 ≤ d) ∧ MrgOk R a (d + 1) l v.2 ∧ ∀ q, 0 ≤ q → gi v.2 q = if v.1 < q ∧ q ≤ d then gi l (q - 1) else if q = v.1 then gi l d else gi l q) (fun v => (v.1 - j).toNat) (fun r => MrgOk R a (d + 1) l r ∧ Srt R a (d + 1) r) (fun v next hv hn => ?_) _ _ (by dsimp only; omega)
    ⟨by dsimp only; omega, .refl R a (d + 1) l, fun q hq => by
      dsimp only
      rw [if_neg (by omega)]
      by_cases c : q = d
      · rw [if_pos c, c]
      · rw [if_neg c]⟩
  obtain ⟨k, v⟩ := v
  dsimp only at hv hn ⊢
  obtain ⟨hk, hm, hg⟩ := hv
  have hl := hm.len
  by_cases c : j < k
  · rw [decide_eq_true c]
    simp only [cond_true]
    have e1 : gi v k = gi l d := by rw [hg k (by omega), if_neg (by omega), if_pos rfl]
    have e2 : gi v (k - 1) = gi l (k - 1) := by rw [hg (k - 1) (by omega), if_neg (by omega), if_neg (by omega)]
    refine hn _ ⟨by dsimp only; omega, hm.trans (mrg_adj hR (k := k - 1) (by omega) (by rw [show k - 1 + 1 = k by omega, e1, e2]; exact h2 _ (by omega) (by omega)) (.inr ⟨by omega, rfl⟩)), fun q hq => ?_⟩ (by dsimp only; omega)
    dsimp only
    rw [gi_swp v k (k - 1) q (by omega) (by omega) hq]
    by_cases c1 : q = k - 1
    · rw [if_pos c1, e1, if_neg (by omega), if_pos c1]
    · rw [if_neg c1]
      by_cases c2 : q = k
      · rw [if_pos c2, e2, if_pos (by omega), c2]
      · rw [if_neg c2, hg q hq]
        by_cases c3 : k < q ∧ q ≤ d
        · rw [if_pos c3, if_pos (by omega)]
        · rw [if_neg c3, if_neg c2, if_neg (by omega), if_neg c1]
  · rw [decide_eq_false c]
    simp only [cond_false]
    refine ⟨hm, fun p q g1 g2 g3 => ?_⟩
    have hkj : k = j := by omega
    rw [hg p (by omega), hg q (by omega)]
    by_cases c1 : q < k
    · rw [if_neg (show ¬ (k < p ∧ p ≤ d) by omega), if_neg (show ¬ p = k by omega), if_neg (show ¬ (k < q ∧ q ≤ d) by omega), if_neg (show ¬ q = k by omega)]
      exact hs _ _ g1 g2 (by omega)
    · by_cases c2 : q = k
      · rw [if_neg (show ¬ (k < p ∧ p ≤ d) by omega), if_neg (show ¬ p = k by omega), if_neg (show ¬ (k < q ∧ q ≤ d) by omega), if_pos c2]
        exact h1 _ g1 (by omega)
      · rw [if_pos (show k < q ∧ q ≤ d by omega)]
        by_cases c3 : p < k
        · rw [if_neg (show ¬ (k < p ∧ p ≤ d) by omega), if_neg (show ¬ p = k by omega)]
          exact hs _ _ g1 (by omega) (by omega)
        · by_cases c4 : p = k
          · rw [if_neg (show ¬ (k < p ∧ p ≤ d) by omega), if_pos c4]
            exact hR.asym _ _ (h2 _ (by omega) (by omega))
          · rw [if_pos (show k < p ∧ p ≤ d by omega)]
            exact hs _ _ (by omega) (by omega) (by omega)
theorem gSym_ok {α : Type} [Inhabited α] {R : α → α → Bool} (hR : SWO R) : ∀ (m : Nat) {l : List α} {a d b : Int}, (b - a).toNat < m → 0 ≤ a ∧ a < d ∧ d < b ∧ b ≤ l.length → Srt R a d l → Srt R d b l → MrgOk R a b l (gSym R m l a d b) ∧ Srt R a b (gSym R m l a d b)
  | 0, l, a, d, b, hm, _, _, _ => absurd hm (Nat.not_lt_zero _)
  | m + 1, l, a, d, b, hm, h, hs1, hs2 => by
    suffices key : (fun r : List α => MrgOk R a b l r ∧ Srt R a b r) (gSym R (m + 1) l a d b) from key
    rw [gSym]
    refine cond_both (p := fun r : List α => MrgOk R a b l r ∧ Srt R a b r) (fun c1 => ?_) (fun c1 => cond_both (p := fun r : List α => MrgOk R a b l r ∧ Srt R a b r) (fun c2 => ?_) (fun c2 => ?_))
    · have c1 := of_decide_eq_true c1
      obtain rfl : d = a + 1 := by omega
      refine jnQ (fun (j : Int) => (a + 1 ≤ j ∧ j ≤ b) ∧ (∀ q, a + 1 ≤ q → q < j → R (gi l q) (gi l a) = true) ∧ ∀ q, j ≤ q → q < b → R (gi l q) (gi l a) = false) (fun r : List α => MrgOk R a b l r ∧ Srt R a b r) (fun K hK => ?_) (fun j hj => gSym_one hR (by omega) hs2 hj.1 hj.2.1 hj.2.2)
      refine loopW_to (fun v => (a + 1 ≤ v.1 ∧ v.1 ≤ v.2 ∧ v.2 ≤ b) ∧ (∀ q, a + 1 ≤ q → q < v.1 → R (gi l q) (gi l a) = true) ∧ ∀ q, v.2 ≤ q → q < b → R (gi l q) (gi l a) = false) (fun v => (v.2 - v.1).toNat) (fun r : List α => MrgOk R a b l r ∧ Srt R a b r) (fun v next hv hn => ?_) _ _ (by dsimp only; omega) ⟨by dsimp only; omega, fun q g1 g2 => by dsimp only at g2; omega, fun q g1 g2 => by dsimp only at g1; omega⟩
      obtain ⟨hb, h1, h2⟩ := hv
      refine cond_both (p := fun r : List α => MrgOk R a b l r ∧ Srt R a b r) (fun hc => ?_) (fun hc => hK _ ⟨by omega, h1, fun q g1 g2 => h2 q (by have := of_decide_eq_false hc; omega) g2⟩)
      have hc := of_decide_eq_true hc
      refine cond_both (p := fun r : List α => MrgOk R a b l r ∧ Srt R a b r) (fun hr => hn _ ⟨by dsimp only; omega, fun q g1 g2 => ?_, h2⟩ (by dsimp only; omega)) (fun hr => hn _ ⟨by dsimp only; omega, h1, fun q g1 g2 => ?_⟩ (by dsimp only; omega))
      · dsimp only at g2
        by_cases e : q = (v.1 + v.2) / 2 ^ 1
        · rw [e]; exact hr
        · exact hR.le_lt (hs2 q _ g1 (by omega) (by omega)) hr
      · dsimp only at g1
        by_cases e : q = (v.1 + v.2) / 2 ^ 1
        · rw [e]; exact hr
        · exact hR.ntr _ _ _ (hs2 _ q (by omega) (by omega) g2) hr
    · have c2 := of_decide_eq_true c2
      obtain rfl : b = d + 1 := by omega
      refine jnQ (fun (j : Int) => (a ≤ j ∧ j ≤ d) ∧ (∀ q, a ≤ q → q < j → R (gi l d) (gi l q) = false) ∧ ∀ q, j ≤ q → q < d → R (gi l d) (gi l q) = true) (fun r : List α => MrgOk R a (d + 1) l r ∧ Srt R a (d + 1) r) (fun K hK => ?_) (fun j hj => gSym_last hR (by omega) hs1 hj.1 hj.2.1 hj.2.2)
      refine loopW_to (fun v => (a ≤ v.1 ∧ v.1 ≤ v.2 ∧ v.2 ≤ d) ∧ (∀ q, a ≤ q → q < v.1 → R (gi l d) (gi l q) = false) ∧ ∀ q, v.2 ≤ q → q < d → R (gi l d) (gi l q) = true) (fun v => (v.2 - v.1).toNat) (fun r : List α => MrgOk R a (d + 1) l r ∧ Srt R a (d + 1) r) (fun v next hv hn => ?_) _ _ (by dsimp only; omega) ⟨by dsimp only; omega, fun q g1 g2 => by dsimp only at g2; omega, fun q g1 g2 => by dsimp only at g1; omega⟩
      obtain ⟨hb, h1, h2⟩ := hv
      refine cond_both (p := fun r : List α => MrgOk R a (d + 1) l r ∧ Srt R a (d + 1) r) (fun hc => ?_) (fun hc => hK _ ⟨by omega, h1, fun q g1 g2 => h2 q (by have := of_decide_eq_false hc; omega) g2⟩)
      have hc := of_decide_eq_true hc
      refine cond_both (p := fun r : List α => MrgOk R a (d + 1) l r ∧ Srt R a (d + 1) r) (fun hr => hn _ ⟨by dsimp only; omega, fun q g1 g2 => ?_, h2⟩ (by dsimp only; omega)) (fun hr => hn _ ⟨by dsimp only; omega, h1, fun q g1 g2 => ?_⟩ (by dsimp only; omega))
      · dsimp only at g2
        rw [Bool.not_eq_true'] at hr
        by_cases e : q = (v.1 + v.2) / 2 ^ 1
        · rw [e]; exact hr
        · exact hR.ntr _ _ _ hr (hs1 q _ g1 (by omega) (by omega))
      · dsimp only at g1
        rw [Bool.not_eq_false'] at hr
        by_cases e : q = (v.1 + v.2) / 2 ^ 1
        · rw [e]; exact hr
        · exact hR.lt_le hr (hs1 _ q (by omega) (by omega) g2)
    · have c1 := of_decide_eq_false c1
      have c2 := of_decide_eq_false c2
      have hM : ∃ M, (a + b) / 2 ^ 1 = M ∧ a < M ∧ M < b ∧ (2 * M = a + b ∨ 2 * M + 1 = a + b) := ⟨_, rfl, by omega, by omega, by omega⟩
      obtain ⟨M, eM, m1, m2, m3⟩ := hM
      rw [eM]
      have hmono : ∀ c c', a ≤ c → c ≤ c' → c' < d → d ≤ M + d - 1 - c' → M + d - 1 - c < b → R (gi l (M + d - 1 - c)) (gi l c) = true → R (gi l (M + d - 1 - c')) (gi l c') = true := by
        intro c c' g1 g2 g3 g4 g5 hr
        by_cases e : c = c'
        · rw [← e]; exact hr
        · exact hR.lt_le (hR.le_lt (hs2 (M + d - 1 - c') (M + d - 1 - c) g4 (by omega) g5) hr) (hs1 c c' g1 (by omega) g3)
      refine jnQ (fun (j : Int × Int) => (a ≤ j.1 ∧ j.1 ≤ j.2 ∧ j.2 ≤ d) ∧ (j.2 ≤ M ∧ M + d - j.1 ≤ b) ∧ (j.1 = a ∨ M + d - j.1 = b) ∧ (j.2 = d ∨ j.2 = M)) (fun r : List α => MrgOk R a b l r ∧ Srt R a b r) (fun K hK => ?_) (fun j hj => ?_)
      · refine cond_both (p := fun r : List α => MrgOk R a b l r ∧ Srt R a b r) (fun hc => hK _ ?_) (fun hc => hK _ ?_)
        · have hc := of_decide_eq_true hc; dsimp only; omega
        · have hc := of_decide_eq_false hc; dsimp only; omega
      obtain ⟨s0, r0⟩ := j
      dsimp only at hj
      refine jnQ (fun (s : Int) => (s0 ≤ s ∧ s ≤ r0) ∧ (∀ c, s0 ≤ c → c < s → R (gi l (M + d - 1 - c)) (gi l c) = false) ∧ ∀ c, s ≤ c → c < r0 → R (gi l (M + d - 1 - c)) (gi l c) = true) (fun r : List α => MrgOk R a b l r ∧ Srt R a b r) (fun K hK => ?_) (fun s hs => ?_)
      · refine loopW_to (fun v => (s0 ≤ v.1 ∧ v.1 ≤ v.2 ∧ v.2 ≤ r0) ∧ (∀ c, s0 ≤ c → c < v.1 → R (gi l (M + d - 1 - c)) (gi l c) = false) ∧ ∀ c, v.2 ≤ c → c < r0 → R (gi l (M + d - 1 - c)) (gi l c) = true) (fun v => (v.2 - v.1).toNat) (fun r : List α => MrgOk R a b l r ∧ Srt R a b r) (fun v next hv hn => ?_) _ _ (by dsimp only; omega) ⟨by dsimp only; omega, fun q g1 g2 => by dsimp only at g2; omega, fun q g1 g2 => by dsimp only at g1; omega⟩
        obtain ⟨hb, h1, h2⟩ := hv
        refine cond_both (p := fun r : List α => MrgOk R a b l r ∧ Srt R a b r) (fun hc => ?_) (fun hc => hK _ ⟨by omega, h1, fun q g1 g2 => h2 q (by have := of_decide_eq_false hc; omega) g2⟩)
        have hc := of_decide_eq_true hc
        refine cond_both (p := fun r : List α => MrgOk R a b l r ∧ Srt R a b r) (fun hr => hn _ ⟨by dsimp only; omega, fun q g1 g2 => ?_, h2⟩ (by dsimp only; omega)) (fun hr => hn _ ⟨by dsimp only; omega, h1, fun q g1 g2 => ?_⟩ (by dsimp only; omega))
        · dsimp only at g2
          rw [Bool.not_eq_true'] at hr
          cases e : R (gi l (M + d - 1 - q)) (gi l q)
          · rfl
          · rw [hmono q _ (by omega) (by omega) (by omega) (by omega) (by omega) e] at hr; cases hr
        · dsimp only at g1
          rw [Bool.not_eq_false'] at hr
          exact hmono _ q (by omega) g1 (by omega) (by omega) (by omega) hr
      obtain ⟨hsb, hlo, hhi⟩ := hs
      have hE : ∃ E, M + d - s = E ∧ d ≤ E ∧ E ≤ b ∧ M ≤ E := ⟨_, rfl, by omega, by omega, by omega⟩
      obtain ⟨E, eE, e1, e2, e3⟩ := hE
      rw [eE]
      have hst : ∀ i j, s ≤ i → i < d → d ≤ j → j < E → R (gi l j) (gi l i) = true := by
        intro i j g1 g2 g3 g4
        have hr := hhi s (by omega) (by omega)
        rw [show M + d - 1 - s = E - 1 by omega] at hr
        have h1 : R (gi l j) (gi l s) = true := by
          by_cases e : j = E - 1
          · rw [e]; exact hr
          · exact hR.le_lt (hs2 j (E - 1) g3 (by omega) (by omega)) hr
        by_cases e : i = s
        · rw [e]; exact h1
        · exact hR.lt_le h1 (hs1 s i (by omega) (by omega) g2)
      refine jnQ (fun (x : List α) => MrgOk R s E l x ∧ ∀ q, 0 ≤ q → gi x q = rotAt l s d E q) (fun r : List α => MrgOk R a b l r ∧ Srt R a b r) (fun K hK => ?_) (fun x hx => ?_)
      · refine cond_both (p := fun r : List α => MrgOk R a b l r ∧ Srt R a b r) (fun hc => hK _ ?_) (fun hc => hK _ ⟨.refl R s E l, fun q hq => ?_⟩)
        · simp only [Bool.and_eq_true, decide_eq_true_eq] at hc
          exact ⟨gRot_ok hR (by omega) hst, (gRot_gi (by omega)).2⟩
        · simp only [Bool.and_eq_false_iff, decide_eq_false_iff_not] at hc
          unfold rotAt
          by_cases q1 : s ≤ q ∧ q < s + (E - d)
          · rw [if_pos q1, show q + (d - s) = q by omega]
          · rw [if_neg q1]
            by_cases q2 : s + (E - d) ≤ q ∧ q < E
            · rw [if_pos q2, show q - (E - d) = q by omega]
            · rw [if_neg q2]
      obtain ⟨hxm, hxg⟩ := hx
      have hxl := hxm.len
      have x1 : ∀ q, a ≤ q → q < s → gi x q = gi l q := fun q g1 g2 => by rw [hxg q (by omega)]; unfold rotAt; rw [if_neg (by omega), if_neg (by omega)]
      have x2 : ∀ q, s ≤ q → q < M → gi x q = gi l (q + (d - s)) := fun q g1 g2 => by rw [hxg q (by omega)]; unfold rotAt; rw [if_pos (by omega)]
      have x3 : ∀ q, M ≤ q → q < E → gi x q = gi l (q - (E - d)) := fun q g1 g2 => by rw [hxg q (by omega)]; unfold rotAt; rw [if_neg (by omega), if_pos (by omega)]
      have x4 : ∀ q, E ≤ q → q < b → gi x q = gi l q := fun q g1 g2 => by rw [hxg q (by omega)]; unfold rotAt; rw [if_neg (by omega), if_neg (by omega)]
      have y1 : Srt R a s x := fun i j g1 g2 g3 => by rw [x1 i g1 (by omega), x1 j (by omega) g3]; exact hs1 i j g1 g2 (by omega)
      have y2 : Srt R s M x := fun i j g1 g2 g3 => by rw [x2 i g1 (by omega), x2 j (by omega) g3]; exact hs2 _ _ (by omega) (by omega) (by omega)
      have y3 : Srt R M E x := fun i j g1 g2 g3 => by rw [x3 i g1 (by omega), x3 j (by omega) g3]; exact hs1 _ _ (by omega) (by omega) (by omega)
      have y4 : Srt R E b x := fun i j g1 g2 g3 => by rw [x4 i g1 (by omega), x4 j (by omega) g3]; exact hs2 i j (by omega) g2 g3
      have hcross : ∀ i j, a ≤ i → i < M → M ≤ j → j < b → R (gi x j) (gi x i) = false := by
        intro i j g1 g2 g3 g4
        by_cases p1 : i < s
        · rw [x1 i g1 p1]
          by_cases p2 : j < E
          · rw [x3 j g3 p2]; exact hs1 i _ g1 (by omega) (by omega)
          · rw [x4 j (by omega) g4]
            have hr := hlo (s - 1) (by omega) (by omega)
            rw [show M + d - 1 - (s - 1) = E by omega] at hr
            have h1 : R (gi l j) (gi l (s - 1)) = false := by
              by_cases e : j = E
              · rw [e]; exact hr
              · exact hR.ntr _ _ _ (hs2 E j (by omega) (by omega) g4) hr
            by_cases e : i = s - 1
            · rw [e]; exact h1
            · exact hR.ntr _ _ _ h1 (hs1 i (s - 1) g1 (by omega) (by omega))
        · rw [x2 i (by omega) g2]
          by_cases p2 : j < E
          · rw [x3 j g3 p2]; exact hR.asym _ _ (hst _ _ (by omega) (by omega) (by omega) (by omega))
          · rw [x4 j (by omega) g4]; exact hs2 _ _ (by omega) (by omega) g4
      refine jnQ (fun (z : List α) => MrgOk R a M x z ∧ Srt R a M z) (fun r : List α => MrgOk R a b l r ∧ Srt R a b r) (fun K hK => ?_) (fun z hz => ?_)
      · refine cond_both (p := fun r : List α => MrgOk R a b l r ∧ Srt R a b r) (fun hc => hK _ ?_) (fun hc => hK _ ⟨.refl R a M x, ?_⟩)
        · simp only [Bool.and_eq_true, decide_eq_true_eq] at hc
          exact gSym_ok hR m (by omega) (by omega) y1 y2
        · simp only [Bool.and_eq_false_iff, decide_eq_false_iff_not] at hc
          by_cases q : a < s
          · exact y1.sub (Int.le_refl _) (by omega)
          · exact y2.sub (by omega) (Int.le_refl _)
      obtain ⟨hzm, hzs⟩ := hz
      have hzl := hzm.len
      have hz3 : Srt R M E z := y3.same fun k g1 g2 => hzm.out k (by omega) (by omega)
      have hz4 : Srt R E b z := y4.same fun k g1 g2 => hzm.out k (by omega) (by omega)
      have hfin : ∀ w, MrgOk R M b z w → Srt R M b w → MrgOk R a b l w ∧ Srt R a b w := by
        intro w hw hws
        refine ⟨((hxm.mono (by omega) (by omega) e2).trans (hzm.mono (by omega) (Int.le_refl _) (by omega))).trans (hw.mono (by omega) (by omega) (Int.le_refl _)), fun i j g1 g2 g3 => ?_⟩
        by_cases p1 : M ≤ i
        · exact hws i j p1 g2 g3
        · rw [hw.out i (by omega) (by omega)]
          by_cases p2 : j < M
          · rw [hw.out j (by omega) (by omega)]; exact hzs i j g1 g2 p2
          · obtain ⟨j', j1, j2, ej⟩ := hw.inn j (by omega) g3
            obtain ⟨i', i1, i2, ei⟩ := hzm.inn i g1 (by omega)
            rw [ej, ei, hzm.out j' (by omega) (by omega)]
            exact hcross i' j' i1 i2 j1 j2
      refine cond_both (p := fun r : List α => MrgOk R a b l r ∧ Srt R a b r) (fun hc => ?_) (fun hc => hfin z (.refl R M b z) ?_)
      · simp only [Bool.and_eq_true, decide_eq_true_eq] at hc
        have h9 := gSym_ok hR m (l := z) (a := M) (d := E) (b := b) (by omega) (by omega) hz3 hz4
        exact hfin _ h9.1 h9.2
      · simp only [Bool.and_eq_false_iff, decide_eq_false_iff_not] at hc
        by_cases q : M < E
        · exact hz3.sub (Int.le_refl _) (by omega)
        · exact hz4.sub (by omega) (Int.le_refl _)
end Go.Proofs.Ytepefimocflfkaa
