import Derived.Test.YtmefknjcgdbceaaVS38
set_option maxHeartbeats 4000000
set_option linter.unusedSimpArgs false
set_option linter.unusedVariables false
namespace Go.Proofs.Ytmefknjcgdbceaa
open Go Go.Lite Go.Proofs
/-! ### The reference's division, told as the program's -/
def RepZ (n : Nat) (k : List Share) : Prop := k.length = n ∧ ∀ j : Nat, j < n → k.getD j default = Share.mk (j : Int) 0 1
theorem shU_zero {D k : Nat} (hD : 0 < D) : shU D k 0 = Share.mk (k : Int) 0 1 := by
  unfold shU
  rw [Nat.gcd_zero_left, Nat.zero_div, Nat.div_self hD]
  rfl
theorem rep0 (n k : Nat) : (List.replicate n 0).getD k 0 = 0 := by rw [getD_rep]; split <;> rfl
theorem RepZ.rep {n : Nat} {k : List Share} (h : RepZ n k) {D : Nat} (hD : 0 < D) : RepO D (List.replicate n 0) k :=
  ⟨hD, by rw [h.1, List.length_replicate], fun j hj => by rw [List.length_replicate] at hj; rw [h.2 j hj, rep0, shU_zero hD]⟩
theorem RepO.z {D n : Nat} {k : List Share} (h : RepO D (List.replicate n 0) k) : RepZ n k :=
  ⟨by rw [h.len, List.length_replicate], fun j hj => by rw [h.el j (by rw [List.length_replicate]; exact hj), rep0, shU_zero h.pos]⟩
theorem kept_val (k : List Share) : l10Kept k = k.filter fun s => decide (0 < s.num) := by
  unfold l10Kept
  refine loopN_to (fun i (v : List Share) => v = (k.take i).filter fun s => decide (0 < s.num)) (fun r => r = k.filter fun s => decide (0 < s.num)) (by simp) (fun i v next hi hv hn => ?_) (fun v hv => by rw [hv, List.take_length])
  refine cond_both (p := fun r => r = k.filter fun s => decide (0 < s.num)) (fun c => hn _ ?_) (fun c => hn _ ?_)
  · rw [take_snoc _ default hi, filter_snoc, c, hv]; rfl
  · rw [take_snoc _ default hi, filter_snoc, c, hv]; simp
theorem RepO.map {D : Nat} {S : List Nat} {k : List Share} (h : RepO D S k) : k = (List.range S.length).map fun j => shU D j (S.getD j 0) := by
  refine List.ext_getElem (by simp [h.len]) fun j h1 h2 => ?_
  have := h.el j (by rw [← h.len]; exact h1)
  rw [List.getD_eq_getElem?_getD, List.getElem?_eq_getElem h1, Option.getD_some] at this
  rw [this, List.getElem_map, List.getElem_range]
theorem RepO.kept {D : Nat} {S : List Nat} {k : List Share} (h : RepO D S k) : l10Kept k = shOf D S S.length := by
  rw [kept_val]
  conv => lhs; rw [h.map]
  unfold shOf
  rw [List.filter_map]
  congr 1
  refine List.filter_congr fun j hj => ?_
  show decide (0 < ((S.getD j 0 / Nat.gcd (S.getD j 0) D : Nat) : Int)) = decide (0 < S.getD j 0)
  rw [decide_eq_decide, ← red_pos (a := S.getD j 0) h.pos]
  omega
/-- What is left by those among whom an estate is divided first. -/
def Res (f : Family) (y : Int) (tk : List Bool) (w : List Int) : List Share := if w = [] then [] else shOf (whole f y tk w.length) (dS f y tk 100 w (whole f y tk w.length) (List.replicate f.people.length 0)) f.people.length
theorem Res.sum {f : Family} (hf : specIsFamily f = true) {p y : Int} {tk : List Bool} (ht : TkEq f p y tk) {w : List Int} (hw : w ≠ []) (hr : ∀ c ∈ w, (0 ≤ c ∧ c < f.people.length) ∧ tk.getD c.toNat default = true) (hlen : w.length ≤ 40) (hs : w.length + sN (wt0 f y tk) f.people.length ≤ pairs f) :
    0 < whole f y tk w.length ∧ (∀ c ∈ w, Bdg f y tk (whole f y tk w.length) (1 * w.length) c) ∧ (dS f y tk 100 w (whole f y tk w.length) (List.replicate f.people.length 0)).sum = whole f y tk w.length ∧ Res f y tk w ≠ [] := by
  have hpos : 0 < w.length := List.length_pos_iff.2 hw
  have hn := (fam_n hf).1
  have hD : 0 < whole f y tk w.length := Nat.mul_pos hpos (pr_pos ht.ok _ _)
  have hmu : lmu f.people.length w ≤ 81 := lmu_le.2 fun c hc => by have := (hr c hc).1; omega
  have hb : ∀ c ∈ w, Bdg f y tk (whole f y tk w.length) (1 * w.length) c := fun c hc => who_bdg hf (Nat.le_trans hs (pairs_le hf)) (by omega) (hr c hc)
  have hsum := (gS_sum hf ht.ok 100).2 w (whole f y tk w.length) (List.replicate f.people.length 0) (by simp) hw hr (Nat.lt_of_le_of_lt hmu (by decide)) (fun c hc r h => by have := (hb c hc r h).1; rwa [Nat.one_mul] at this)
  rw [sum_rep, Nat.zero_add] at hsum
  refine ⟨hD, hb, hsum, fun e => ?_⟩
  unfold Res at e
  rw [if_neg hw] at e
  have hlen := (gS_len f y tk 100).2 w (whole f y tk w.length) (List.replicate f.people.length 0)
  rw [List.length_replicate] at hlen
  have h9 := shOf_sum hD (dS f y tk 100 w (whole f y tk w.length) (List.replicate f.people.length 0))
  rw [hlen, e, hsum] at h9
  simp at h9
  omega
theorem divide_first {f : Family} (hf : specIsFamily f = true) {p y : Int} {tk : List Bool} (ht : TkEq f p y tk) {l : List Int} (hl : ∀ c ∈ l, 0 ≤ c ∧ c < f.people.length) (hlen : l.length ≤ 40) (hs : (l.filter fun c => tk.getD c.toNat default).length + sN (wt0 f y tk) f.people.length ≤ pairs f) {kept : List Share} (hk : RepZ f.people.length kept) :
    LdOk f y tk l 1 1 kept ∧ (l10Divide f y tk l 1 1 kept).length = f.people.length ∧ ((l.filter fun c => tk.getD c.toNat default) = [] → RepZ f.people.length (l10Divide f y tk l 1 1 kept)) ∧
    ((l.filter fun c => tk.getD c.toNat default) ≠ [] → l10Kept (l10Divide f y tk l 1 1 kept) = Res f y tk (l.filter fun c => tk.getD c.toNat default) ∧ Res f y tk (l.filter fun c => tk.getD c.toNat default) ≠ []) := by
  have hn := (fam_n hf).1
  have hr : ∀ c ∈ l.filter fun c => tk.getD c.toNat default, (0 ≤ c ∧ c < f.people.length) ∧ tk.getD c.toNat default = true := fun c hc => ⟨hl c (List.mem_filter.1 hc).1, (List.mem_filter.1 hc).2⟩
  have hfl : (l.filter fun c => tk.getD c.toNat default).length ≤ 40 := Nat.le_trans (List.length_filter_le _ _) hlen
  have hmu : lmu f.people.length (l.filter fun c => tk.getD c.toNat default) < 2 * 50 := Nat.lt_of_le_of_lt (lmu_le.2 fun c hc => by have := (hr c hc).1; omega : lmu f.people.length (l.filter fun c => tk.getD c.toNat default) ≤ 81) (by decide)
  rcases Classical.em ((l.filter fun c => tk.getD c.toNat default) = []) with e | e
  · have hR := l10Divide_sem 50 f y tk l 1 1 (List.replicate f.people.length 0) kept hf hl hmu Nat.one_pos (by simp) (hk.rep Nat.one_pos) (fun c hc => by rw [e] at hc; cases hc)
    have hR2 : RepO 1 (List.replicate f.people.length 0) (l10Divide f y tk l 1 1 kept) := by
      rw [e] at hR
      exact hR
    refine ⟨⟨⟨hf, ht.ok⟩, ⟨hl, hlen⟩, rfl, 1, 1, List.replicate f.people.length 0, ⟨rfl, Nat.one_pos⟩, by simp, hk.rep Nat.one_pos, by decide, fun h => absurd e h, fun c hc => by rw [e] at hc; cases hc⟩, by rw [hR2.len, List.length_replicate], fun _ => hR2.z, fun h => absurd e h⟩
  · obtain ⟨hD, hb, hsum, hne⟩ := Res.sum hf ht e hr hfl hs
    have hM : whole f y tk (l.filter fun c => tk.getD c.toNat default).length ≤ 9223372036854775807 := by
      obtain ⟨c, hc⟩ := List.exists_mem_of_ne_nil _ e
      have h1 := (hb c hc).dvd.2
      rw [Nat.one_mul] at h1
      exact Nat.le_trans (Nat.le_mul_of_pos_left _ (List.length_pos_iff.2 e)) h1
    have hR := l10Divide_sem 50 f y tk l 1 (whole f y tk (l.filter fun c => tk.getD c.toNat default).length) (List.replicate f.people.length 0) kept hf hl hmu Nat.one_pos (by simp) (hk.rep hD) (fun c hc r h => (hb c hc r h).1)
    rw [Nat.div_one] at hR
    have hR2 : RepO (whole f y tk (l.filter fun c => tk.getD c.toNat default).length) (dS f y tk 100 (l.filter fun c => tk.getD c.toNat default) (whole f y tk (l.filter fun c => tk.getD c.toNat default).length) (List.replicate f.people.length 0)) (l10Divide f y tk l 1 1 kept) := hR
    have hlen2 := (gS_len f y tk 100).2 (l.filter fun c => tk.getD c.toNat default) (whole f y tk (l.filter fun c => tk.getD c.toNat default).length) (List.replicate f.people.length 0)
    rw [List.length_replicate] at hlen2
    refine ⟨⟨⟨hf, ht.ok⟩, ⟨hl, hlen⟩, rfl, 1, _, List.replicate f.people.length 0, ⟨rfl, Nat.one_pos⟩, by simp, hk.rep hD, hM, fun _ => ?_, hb⟩, by rw [hR2.len, hlen2], fun h => absurd h e, fun _ => ⟨?_, hne⟩⟩
    · rw [sum_rep, Nat.zero_add, Nat.div_one]; exact Nat.le_refl _
    · rw [hR2.kept, hlen2]; unfold Res; rw [if_neg e]
theorem kept_zero {n : Nat} {k : List Share} (h : RepZ n k) : l10Kept k = [] := by
  rw [(h.rep Nat.one_pos).kept]
  unfold shOf
  rw [List.map_eq_nil_iff, List.filter_eq_nil_iff]
  intro j _
  rw [rep0]; simp
/-- The loop upwards. -/
def UpJ (f : Family) (tk : List Bool) (gen : List Int) (kept : List Share) : Prop := (∀ g ∈ gen, 0 ≤ g ∧ g < f.people.length) ∧ kept.length = f.people.length ∧ (l10Kept kept = [] → RepZ f.people.length kept ∧ ∀ g ∈ gen, tk.getD g.toNat default = false)
def UpI (f : Family) (tk : List Bool) (kept : List Share) (up : List Int) : Prop := ∃ gen, up = parG f gen ∧ UpJ f tk gen kept
theorem UpI.up {f : Family} {tk : List Bool} {kept : List Share} {up : List Int} (h : UpI f tk kept up) : (∀ c ∈ up, 0 ≤ c ∧ c < f.people.length) ∧ up.length ≤ f.people.length ∧ kept.length = f.people.length := by
  obtain ⟨gen, rfl, h⟩ := h
  exact ⟨fun c hc => (parG_mem.1 hc).1, (parG_next gen).2.2, h.2.1⟩
theorem UpJ.up {f : Family} (hf : specIsFamily f = true) {tk : List Bool} {gen : List Int} {kept : List Share} (h : UpJ f tk gen kept) : UpI f tk kept (l10Parents f gen) := ⟨gen, l10Parents_eq hf h.1, h⟩
theorem filt_nil {tk : List Bool} {l : List Int} (h : (l.filter fun c => tk.getD c.toNat default) = []) : ∀ g ∈ l, tk.getD g.toNat default = false := fun g hg => by
  rcases hb : tk.getD g.toNat default with _ | _
  · rfl
  · have : g ∈ l.filter fun c => tk.getD c.toNat default := List.mem_filter.2 ⟨hg, hb⟩
    rw [h] at this; cases this
theorem up_sum {f : Family} (hf : specIsFamily f = true) {y : Int} {tk : List Bool} {gen : List Int} (h : ∀ g ∈ gen, (0 ≤ g ∧ g < f.people.length) ∧ tk.getD g.toNat default = false) : ((parG f gen).filter fun c => tk.getD c.toNat default).length + sN (wt0 f y tk) f.people.length ≤ pairs f :=
  who_up hf h ((parG_next gen).1.filter _) fun q hq => (parG_next gen).2.1 q (List.mem_filter.1 hq).1
theorem UpI.first {f : Family} (hf : specIsFamily f = true) {p y : Int} {tk : List Bool} (ht : TkEq f p y tk) {kept : List Share} {up : List Int} (h : UpI f tk kept up) (hk : l10Kept kept = []) : (RepZ f.people.length kept ∧ (up.filter fun c => tk.getD c.toNat default).length + sN (wt0 f y tk) f.people.length ≤ pairs f) := by
  obtain ⟨gen, rfl, h1, h2, h3⟩ := h
  have h4 := h3 hk
  exact ⟨h4.1, up_sum hf fun g hg => ⟨h1 g hg, h4.2 g hg⟩⟩
theorem UpI.ld {f : Family} (hf : specIsFamily f = true) {p y : Int} {tk : List Bool} (ht : TkEq f p y tk) {kept : List Share} {up : List Int} (h : UpI f tk kept up) (hk : l10Kept kept = []) : LdOk f y tk up 1 1 kept ∧ UpJ f tk up (l10Divide f y tk up 1 1 kept) := by
  have h1 := h.first hf ht hk
  have h2 := h.up
  have hn := (fam_n hf).1
  have h3 := divide_first hf ht h2.1 (by omega) h1.2 h1.1
  refine ⟨h3.1, h2.1, h3.2.1, fun e => ?_⟩
  rcases Classical.em ((up.filter fun c => tk.getD c.toNat default) = []) with e2 | e2
  · exact ⟨h3.2.2.1 e2, filt_nil e2⟩
  · have h4 := h3.2.2.2 e2
    rw [e] at h4
    exact absurd h4.1.symm h4.2
theorem kept_nil {k : List Share} {up : List Int} (h : ((decide ((((l10Kept k).length : Nat) : Int) = 0)) && (decide (0 < ((up.length : Nat) : Int)))) = true) : l10Kept k = [] ∧ 0 < up.length := by
  rw [Bool.and_eq_true, decide_eq_true_eq, decide_eq_true_eq] at h
  exact ⟨List.eq_nil_of_length_eq_zero (by omega), by omega⟩
theorem UpI.dec {f : Family} (hf : specIsFamily f = true) {tk : List Bool} {kept : List Share} {up : List Int} (h : UpI f tk kept up) (h0 : 0 < up.length) : gmu (l10Parents f up) < gmu up := by
  rw [l10Parents_eq hf h.up.1]
  exact (parG_next up).dec hf h.up.1 h0
theorem kids_ld {f : Family} (hf : specIsFamily f = true) {p y : Int} (hp : 0 ≤ p ∧ p < f.people.length) {kept : List Share} (hk : RepZ f.people.length kept) : LdOk f y (l10Part f p y) (l1Children f p) 1 1 kept ∧ UpJ f (l10Part f p y) [p] (l10Divide f y (l10Part f p y) (l1Children f p) 1 1 kept) := by
  have ht := l10Part_eq hf p y
  have h0 := ht.self hp
  have hc := l1Children_okl f p
  have h3 := divide_first hf ht hc.1 (Nat.le_trans hc.2 (fam_n hf).1) (who_down hf hp h0) hk
  refine ⟨h3.1, fun g hg => by rw [List.mem_singleton.1 hg]; exact hp, h3.2.1, fun e => ?_⟩
  rcases Classical.em (((l1Children f p).filter fun c => (l10Part f p y).getD c.toNat default) = []) with e2 | e2
  · exact ⟨h3.2.2.1 e2, fun g hg => by rw [List.mem_singleton.1 hg]; exact h0⟩
  · have h4 := h3.2.2.2 e2
    rw [e] at h4
    exact absurd h4.1.symm h4.2
theorem kept_step {i : Nat} {k : List Share} (h : RepZ i k) : RepZ (i + 1) (k ++ [Share.mk (i : Int) 0 1]) := by
  refine ⟨by rw [List.length_append, h.1]; rfl, fun j hj => ?_⟩
  rw [List.getD_eq_getElem?_getD]
  rcases Nat.lt_or_ge j i with c | c
  · rw [List.getElem?_append_left (by rw [h.1]; exact c), ← List.getD_eq_getElem?_getD]; exact h.2 j c
  · have : j = k.length := by rw [h.1]; omega
    rw [this, List.getElem?_append_right (Nat.le_refl _), Nat.sub_self, h.1]; rfl
def C5 (R : (List Share)) : LV × List (Nat × BC) := (.own 0, [(0, .arr 3 R.length (rowOf (cShare true) R))])
def specShares (x0 : Family) (x1 : Int) (x2 : Int) : (List Share) := bif (!(l1Has x0 x1)) then ([] : List Share) else (loopN (fun i1 (v1 : (List Share)) next => next (v1 ++ [(Share.mk ((i1 : Nat) : Int) 0 1)])) (fun (v1 : (List Share)) => jn (fun K1 => K1 (l10Divide x0 x2 (l10Part x0 x1 x2) (l1Children x0 x1) 1 1 v1)) (fun (j1 : (List Share)) => loopW (fun (v2 : (List Share) × (List Int)) next => bif ((decide ((((l10Kept v2.1).length : Nat) : Int) = 0)) && (decide (0 < ((v2.2.length : Nat) : Int)))) then (jn (fun K2 => K2 (l10Divide x0 x2 (l10Part x0 x1 x2) v2.2 1 1 v2.1)) (fun (j2 : (List Share)) => next (j2, l10Parents x0 v2.2))) else (l10Kept v2.1)) (gmu (l10Parents x0 [x1]) + 1) (j1, l10Parents x0 [x1]))) x0.people.length 0 ([] : List Share))
def D5b1 (x0 : Family) (x1 : Int) (x2 : Int) (i1 : Nat) (v1 : (List Share)) : Dl := ⟨[(19, .int .i64 ((i1 : Nat) : Int)), (7, .own 20007)], [(20007, .arr 3 v1.length (rowOf (cShare true) v1))]⟩
def D5j1 (x0 : Family) (x1 : Int) (x2 : Int) (i1 : Nat) (v1 : (List Share)) (j1 : (List Share)) : Dl := ⟨[(7, .own 30007)], [(30007, .arr 3 j1.length (rowOf (cShare true) j1))]⟩
def D5b2 (x0 : Family) (x1 : Int) (x2 : Int) (i1 : Nat) (v1 : (List Share)) (j1 : (List Share)) (v2 : (List Share) × (List Int)) : Dl := ⟨[(7, .own 20007), (10, .own 20010)], [(20007, .arr 3 v2.1.length (rowOf (cShare true) v2.1)), (20010, .arr 1 v2.2.length (rowOf (cInt .i64) v2.2))]⟩
def D5j2 (x0 : Family) (x1 : Int) (x2 : Int) (i1 : Nat) (v1 : (List Share)) (j1 : (List Share)) (v2 : (List Share) × (List Int)) (j2 : (List Share)) : Dl := ⟨[(7, .own 30007)], [(30007, .arr 3 j2.length (rowOf (cShare true) j2))]⟩
def A5j2 (x0 : Family) (x1 : Int) (x2 : Int) (i1 : Nat) (v1 : (List Share)) (j1 : (List Share)) (v2 : (List Share) × (List Int)) (j2 : (List Share)) : Ann := .reg 1 [] [(2, k19 x0 v2.2)] [2, 3, 6, 7, 9, 10] [3, 1031, 1061, 30007] [] [] [] [0] (.next 0 [(20007, some 30007), (20010, some 1061)] (D5b2 x0 x1 x2 i1 v1 j1 (j2, l10Parents x0 v2.2)))
def A5b2 (x0 : Family) (x1 : Int) (x2 : Int) (i1 : Nat) (v1 : (List Share)) (j1 : (List Share)) (v2 : (List Share) × (List Int)) : Ann := .reg 1 [] [(1, k20 v2.1)] [2, 3, 6, 7, 9, 10, 52] [3, 1031, 20007, 20010] [decide ((((l10Kept v2.1).length : Nat) : Int) = 0)] [] [] [0, 1, 1, 1] (cn ((decide ((((l10Kept v2.1).length : Nat) : Int) = 0)) && (decide (0 < ((v2.2.length : Nat) : Int)))) (.join 0 (List Share) (D5j2 x0 x1 x2 i1 v1 j1 v2) [2, 3, 6, 7, 9, 10] [3, 1031, 20010] (.reg 1 [] [(5, k17 58 [1031, 20010, 20007] x0 x2 (l10Part x0 x1 x2) v2.2 1 1 v2.1)] [2, 3, 6, 7, 9, 10] [3, 1031, 20007, 20010] [] [] [] [0] (.next 0 [(30007, some 20007)] (D5j2 x0 x1 x2 i1 v1 j1 v2 (l10Divide x0 x2 (l10Part x0 x1 x2) v2.2 1 1 v2.1)))) (A5j2 x0 x1 x2 i1 v1 j1 v2)) (.reg 1 [] [(1, k20 v2.1)] [6] [1063] [] [] [] [0] (rt [(0, some 1063)] (C5 (l10Kept v2.1)))))
def A5j1 (x0 : Family) (x1 : Int) (x2 : Int) (i1 : Nat) (v1 : (List Share)) (j1 : (List Share)) : Ann := .reg 1 [] [(2, bsC 42 (cInt .i64) ([x1] : List Int)), (3, k19 x0 [x1])] [2, 3, 6, 7, 9, 10] [3, 1031, 1043, 30007] [] [] [] [0, 4] (.loop ((List Share) × (List Int)) (D5b2 x0 x1 x2 i1 v1 j1) [] [30007, 1043] [(20007, some 30007), (20010, some 1043)] (D5b2 x0 x1 x2 i1 v1 j1 (j1, l10Parents x0 [x1])) (A5b2 x0 x1 x2 i1 v1 j1))
def A5b1 (x0 : Family) (x1 : Int) (x2 : Int) (i1 : Nat) (v1 : (List Share)) : Ann := r0 1 [1, 2, 3, 6, 7, 18, 19, 20] [3, 20007] (cn (decide (((i1 : Nat) : Int) < ((x0.people.length : Nat) : Int))) (r0 1 [1, 2, 3, 6, 7, 8, 18, 19] [3, 20007] (.reg 1 [] [(3, bsC 25 (cShare true) ([(Share.mk ((i1 : Nat) : Int) 0 1)] : List Share)), (4, ap1 26 (cShare true) 24 v1 (Share.mk ((i1 : Nat) : Int) 0 1))] [1, 2, 3, 6, 7, 18, 19] [3, 26] [] [] [] [0, 4] (r1 1 [1, 2, 3, 6, 7, 18, 19] [3, 26] [pf (inR .i64 (((i1 : Nat) : Int) + 1))] [0] (.next 0 [(20007, some 26)] (D5b1 x0 x1 x2 (i1 + 1) (v1 ++ [(Share.mk ((i1 : Nat) : Int) 0 1)])))))) (.reg 1 [] [(3, k16 x0 x1 x2)] [1, 2, 3, 6, 7, 9] [3, 1031, 20007] [] [] [] [0] (.join 0 (List Share) (D5j1 x0 x1 x2 i1 v1) [1, 2, 3, 6, 7, 9] [3, 1031] (.reg 1 [] [(5, k18 x0 x1), (7, k17 39 [1031, 1037, 20007] x0 x2 (l10Part x0 x1 x2) (l1Children x0 x1) 1 1 v1)] [1, 2, 3, 6, 7, 9] [3, 1031, 20007] [] [] [] [0, 4] (.next 0 [(30007, some 20007)] (D5j1 x0 x1 x2 i1 v1 (l10Divide x0 x2 (l10Part x0 x1 x2) (l1Children x0 x1) 1 1 v1)))) (A5j1 x0 x1 x2 i1 v1))))
def A5 (x0 : Family) (x1 : Int) (x2 : Int) : Ann := r0 1 [1, 2, 3, 6] [3] (.reg 1 [] [(2, k15 x0 x1)] [1, 2, 3, 6, 14] [3] [] [] [] [0] (cn (!(l1Has x0 x1)) (r0 1 [1, 2, 3, 6] [3] (rt [(0, none)] (C5 ([] : List Share)))) (.reg 1 [] [(0, bsC 15 (cShare true) ([] : List Share))] [1, 2, 3, 6, 7] [3, 15] [] [] [] [0] (r0 1 [1, 2, 3, 6, 7, 18, 19] [3, 15] (lp (D5b1 x0 x1 x2) [] [15] [(20007, some 15)] (D5b1 x0 x1 x2 0 ([] : List Share)) (A5b1 x0 x1 x2))))))
theorem ok_spec_SharesOf (x0 : Family) (x1 : Int) (x2 : Int) (hx : x0.people.length ≤ 1048576) (hu : x0.unions.length ≤ 1048576) (hn : ∀ p ∈ x0.people, p.name.length ≤ 1048576) : FnT Try.prog 5 [.agg (cFamily false x0), .int .i64 x1, .int .i64 x2] (C5 (specShares x0 x1 x2)) := by
  have aux : ∀ R, specShares x0 x1 x2 = R → slim (C5 R) (A5 x0 x1 x2) [] := by
    intro R hR
    refine rg trivial ?_
    refine rg ⟨⟨by with_reducible assumption, by with_reducible assumption, by with_reducible assumption⟩, trivial⟩ ?_
    revert hR; refine cd (fun hc1 hR => ?_) fun hc1 hR => ?_
    ·
      refine rg trivial ?_
      exact congrArg C5 hR
    ·
      refine rg ⟨trivial, trivial⟩ ?_
      refine rg trivial ?_
      revert hR; refine lN (fun i v => RepZ i v) (by (exact ⟨rfl, fun j hj => absurd hj (Nat.not_lt_zero _)⟩)) rfl fun i1 v1 F1 hn1 hI1 hR hK1 => ?_
      refine rg trivial ?_
      refine ⟨fun hc2 => ?_, fun hc2 => ?_⟩
      · have hii1 : i1 < x0.people.length := by have := of_decide_eq_true hc2; omega
        replace hR := loopN_step hR hii1
        refine rg trivial ?_
        refine rg ⟨trivial, by (have h8 := hI1.1; omega), trivial⟩ ?_
        refine rg ⟨by (have h9 := And.comm.1 ((l1Has_iff x0 x1).1 (by simpa using hc1)); have h7 := (fam_n h9.1).1; (try simp only [inR]); omega), trivial⟩ ?_
        exact hK1 (v1 ++ [(Share.mk ((i1 : Nat) : Int) 0 1)]) hii1 (by (with_reducible exact kept_step hI1)) hR
      · obtain rfl : i1 = x0.people.length := by have := of_decide_eq_false hc2; omega
        replace hR := loopN_end hR (Nat.lt_irrefl _)
        refine rg ⟨by (have h9 := And.comm.1 ((l1Has_iff x0 x1).1 (by simpa using hc1)); with_reducible exact h9.1), trivial⟩ ?_
        revert hR; refine jN (fun v => UpJ x0 (l10Part x0 x1 x2) [x1] v) (fun F101 hR hJ101 => ?_) (fun j1 hR hJ1 => ?_)
        ·
          refine rg ⟨by with_reducible assumption, by (have h9 := And.comm.1 ((l1Has_iff x0 x1).1 (by simpa using hc1)); with_reducible exact (kids_ld h9.1 h9.2 hI1).1), trivial⟩ ?_
          exact hJ101 (l10Divide x0 x2 (l10Part x0 x1 x2) (l1Children x0 x1) 1 1 v1) hR (by (have h9 := And.comm.1 ((l1Has_iff x0 x1).1 (by simpa using hc1)); with_reducible exact (kids_ld h9.1 h9.2 hI1).2))
        ·
          refine rg ⟨trivial, ⟨by (have h9 := And.comm.1 ((l1Has_iff x0 x1).1 (by simpa using hc1)); with_reducible exact h9.1), by (simp only [List.length_singleton]; omega), by (have h9 := And.comm.1 ((l1Has_iff x0 x1).1 (by simpa using hc1)); intro c hc; rw [List.mem_singleton.1 hc]; exact h9.2)⟩, trivial⟩ ?_
          revert hR; refine lW (fun v => UpI x0 (l10Part x0 x1 x2) v.1 v.2) (fun v => gmu (v.2)) (by (have h9 := And.comm.1 ((l1Has_iff x0 x1).1 (by simpa using hc1)); dsimp only; with_reducible exact UpJ.up h9.1 hJ1)) (Nat.lt_succ_self _) rfl fun m2 v2 F2 hI2 hM2 hR hK2 => ?_
          refine rg ⟨by (have h9 := And.comm.1 ((l1Has_iff x0 x1).1 (by simpa using hc1)); have h8 := UpI.up hI2; have h7 := (fam_n h9.1).1; omega), trivial⟩ ?_
          revert hR; refine cd (fun hc3 hR => ?_) fun hc3 hR => ?_
          ·
            revert hR; refine jN (fun v => UpJ x0 (l10Part x0 x1 x2) v2.2 v) (fun F102 hR hJ102 => ?_) (fun j2 hR hJ2 => ?_)
            ·
              refine rg ⟨by (have h9 := And.comm.1 ((l1Has_iff x0 x1).1 (by simpa using hc1)); with_reducible exact (UpI.ld h9.1 (l10Part_eq h9.1 x1 x2) hI2 (kept_nil hc3).1).1), trivial⟩ ?_
              exact hJ102 (l10Divide x0 x2 (l10Part x0 x1 x2) v2.2 1 1 v2.1) hR (by (have h9 := And.comm.1 ((l1Has_iff x0 x1).1 (by simpa using hc1)); with_reducible exact (UpI.ld h9.1 (l10Part_eq h9.1 x1 x2) hI2 (kept_nil hc3).1).2))
            ·
              refine rg ⟨⟨by (have h9 := And.comm.1 ((l1Has_iff x0 x1).1 (by simpa using hc1)); with_reducible exact h9.1), by (have h9 := And.comm.1 ((l1Has_iff x0 x1).1 (by simpa using hc1)); have h8 := UpI.up hI2; have h7 := (fam_n h9.1).1; omega), by (with_reducible exact (UpI.up hI2).1)⟩, trivial⟩ ?_
              exact hK2 (j2, l10Parents x0 v2.2) (by (have h9 := And.comm.1 ((l1Has_iff x0 x1).1 (by simpa using hc1)); dsimp only; with_reducible exact UpJ.up h9.1 hJ2)) (by (have h9 := And.comm.1 ((l1Has_iff x0 x1).1 (by simpa using hc1)); have h8 := UpI.dec h9.1 hI2 (kept_nil hc3).2; dsimp only; omega)) hR
          ·
            refine rg ⟨by (have h9 := And.comm.1 ((l1Has_iff x0 x1).1 (by simpa using hc1)); have h8 := UpI.up hI2; have h7 := (fam_n h9.1).1; omega), trivial⟩ ?_
            exact congrArg C5 hR
  exact Fn.go 64 Try.func5 (by kernel_rfl) (by kernel_rfl) (by simp [C5, Frs, FrsL, FrsB, rowOf, cInt, cBool, cStr, cSl, FrsL_app, cPerson, cUnion, cFamily, cestate, cShare]) (A5 x0 x1 x2) (by kernel_rfl) (aux _ rfl)
def k5 (x0 : Family) (x1 : Int) (x2 : Int) : Cl := (hres (C5 (specShares x0 x1 x2)), k3 (ok_spec_SharesOf x0 x1 x2))
end Go.Proofs.Ytmefknjcgdbceaa
