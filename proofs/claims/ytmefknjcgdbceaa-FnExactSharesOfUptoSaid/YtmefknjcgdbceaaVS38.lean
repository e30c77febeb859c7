import Derived.Test.YtmefknjcgdbceaaM159
set_option maxHeartbeats 4000000
set_option linter.unusedSimpArgs false
set_option linter.unusedVariables false
namespace Go.Proofs.Ytmefknjcgdbceaa
open Go Go.Lite Go.Proofs
def C17 (x0 : Family) (x1 : Int) (x2 : List Bool) (x3 : List Int) (x4 : Int) (x5 : Int) (x6 : List Share) (R : (List Share)) : LV × List (Nat × BC) := (.tup [], [(900000, .arr 1 x2.length (rowOf (cBool) x2)), (900001, .arr 1 x3.length (rowOf (cInt .i64) x3)), (900002, .arr 3 R.length (rowOf (cShare true) R))])
def l10Divide_r : Nat → Family → Int → (List Bool) → (List Int) → Int → Int → (List Share) → (List Share)
  | 0, _, _, _, _, _, _, _ => default
  | m + 1, x0, x1, x2, x3, x4, x5, x6 => loopN (fun i1 (v1 : Int) next => bif (x2.getD ((x3.getD i1 default).toNat) default) then (next (v1 + 1)) else (next v1)) (fun (v1 : Int) => loopN (fun i2 (v2 : (List Share)) next => bif (!(x2.getD ((x3.getD i2 default).toNat) default)) then (next v2) else (bif (l1Alive x0 (x3.getD i2 default) x1) then (next (v2.set ((x3.getD i2 default).toNat) (l10Add (v2.getD ((x3.getD i2 default).toNat) default) x4 (x5 * v1)))) else (next (l10Divide_r m x0 x1 x2 (l1Children x0 (x3.getD i2 default)) x4 (x5 * v1) v2)))) (fun (v2 : (List Share)) => v2) x3.length 0 x6) x3.length 0 0
def l10Divide (x0 : Family) (x1 : Int) (x2 : List Bool) (x3 : List Int) (x4 : Int) (x5 : Int) (x6 : List Share) : (List Share) := l10Divide_r 50 x0 x1 x2 x3 x4 x5 x6
def kr17 (m d : Nat) (ids : List Nat) (x0 : Family) (x1 : Int) (x2 : List Bool) (x3 : List Int) (x4 : Int) (x5 : Int) (x6 : List Share) : Cl := (hresM d ids (C17 x0 x1 x2 x3 x4 x5 x6 (l10Divide_r m x0 x1 x2 x3 x4 x5 x6)), pf (FnMT Try.prog 17 [.agg (cFamily false x0), .int .i64 x1, .own 900000, .own 900001, .int .i64 x4, .int .i64 x5, .own 900002] [.arr 1 x2.length (rowOf (cBool) x2), .arr 1 x3.length (rowOf (cInt .i64) x3), .arr 3 x6.length (rowOf (cShare true) x6)] (C17 x0 x1 x2 x3 x4 x5 x6 (l10Divide_r m x0 x1 x2 x3 x4 x5 x6))))
def D17b1 (m : Nat) (x0 : Family) (x1 : Int) (x2 : List Bool) (x3 : List Int) (x4 : Int) (x5 : Int) (x6 : List Share) (i1 : Nat) (v1 : Int) : Dl := ⟨[(21, .int .i64 ((i1 : Nat) : Int)), (14, .int .i64 v1)], []⟩
def D17b2 (m : Nat) (x0 : Family) (x1 : Int) (x2 : List Bool) (x3 : List Int) (x4 : Int) (x5 : Int) (x6 : List Share) (i1 : Nat) (v1 : Int) (i2 : Nat) (v2 : (List Share)) : Dl := ⟨[(34, .int .i64 ((i2 : Nat) : Int)), (6, .own 900002)], [(900002, .arr 3 v2.length (rowOf (cShare true) v2))]⟩
def A17b2 (m : Nat) (x0 : Family) (x1 : Int) (x2 : List Bool) (x3 : List Int) (x4 : Int) (x5 : Int) (x6 : List Share) (i1 : Nat) (v1 : Int) (i2 : Nat) (v2 : (List Share)) : Ann := r0 1 [1, 2, 4, 5, 6, 7, 14, 32, 33, 34, 35] [7, 900000, 900001, 900002] (cn (decide (((i2 : Nat) : Int) < ((x3.length : Nat) : Int))) (r1 1 [1, 2, 4, 5, 6, 7, 14, 18, 32, 33, 34] [7, 900000, 900001, 900002] [pf (0 ≤ (((i2 : Nat) : Int) : Int) ∧ (((i2 : Nat) : Int) : Int) < ((x3.length : Nat) : Int))] [0] (r1 1 [1, 2, 4, 5, 6, 7, 14, 18, 32, 33, 34, 42] [7, 900000, 900001, 900002] [pf (0 ≤ ((x3.getD i2 default) : Int) ∧ ((x3.getD i2 default) : Int) < ((x2.length : Nat) : Int))] [0] (cn (!(x2.getD ((x3.getD i2 default).toNat) default)) (r1 1 [1, 2, 4, 5, 6, 7, 14, 32, 33, 34] [7, 900000, 900001, 900002] [pf (inR .i64 (((i2 : Nat) : Int) + 1))] [0] (.next 0 [(900002, some 900002)] (D17b2 m x0 x1 x2 x3 x4 x5 x6 i1 v1 (i2 + 1) v2))) (.reg 1 [] [(3, k36 x0 (x3.getD i2 default) x1)] [1, 2, 4, 5, 6, 7, 14, 18, 32, 33, 34, 46] [7, 900000, 900001, 900002] [] [] [] [0] (cn (l1Alive x0 (x3.getD i2 default) x1) (.reg 1 [] [(10, k38 (v2.getD ((x3.getD i2 default).toNat) default) x4 (x5 * v1)), (12, stL 900002 (cShare true) v2 ((x3.getD i2 default).toNat) (l10Add (v2.getD ((x3.getD i2 default).toNat) default) x4 (x5 * v1)))] [1, 2, 4, 5, 6, 7, 14, 32, 33, 34] [7, 900000, 900001, 900002] [] [pf (0 ≤ ((x3.getD i2 default) : Int) ∧ ((x3.getD i2 default) : Int) < ((v2.length : Nat) : Int)), pf (inR .i64 (x5 * v1))] [] [0, 4, 8, 0, 12] (r1 1 [1, 2, 4, 5, 6, 7, 14, 32, 33, 34] [7, 900000, 900001, 900002] [pf (inR .i64 (((i2 : Nat) : Int) + 1))] [0] (.next 0 [(900002, some 900002)] (D17b2 m x0 x1 x2 x3 x4 x5 x6 i1 v1 (i2 + 1) (v2.set ((x3.getD i2 default).toNat) (l10Add (v2.getD ((x3.getD i2 default).toNat) default) x4 (x5 * v1))))))) (.reg 1 [] [(5, k18 x0 (x3.getD i2 default)), (11, kr17 m 70 [900000, 1064, 900002] x0 x1 x2 (l1Children x0 (x3.getD i2 default)) x4 (x5 * v1) v2)] [1, 2, 4, 5, 6, 7, 14, 32, 33, 34] [7, 900000, 900001, 900002] [] [pf (inR .i64 (x5 * v1))] [] [4, 0, 8] (r1 1 [1, 2, 4, 5, 6, 7, 14, 32, 33, 34] [7, 900000, 900001, 900002] [pf (inR .i64 (((i2 : Nat) : Int) + 1))] [0] (.next 0 [(900002, some 900002)] (D17b2 m x0 x1 x2 x3 x4 x5 x6 i1 v1 (i2 + 1) (l10Divide_r m x0 x1 x2 (l1Children x0 (x3.getD i2 default)) x4 (x5 * v1) v2)))))))))) (rt [(900000, some 900000), (900001, some 900001), (900002, some 900002)] (C17 x0 x1 x2 x3 x4 x5 x6 v2)))
def A17b1 (m : Nat) (x0 : Family) (x1 : Int) (x2 : List Bool) (x3 : List Int) (x4 : Int) (x5 : Int) (x6 : List Share) (i1 : Nat) (v1 : Int) : Ann := r0 1 [1, 2, 3, 4, 5, 6, 7, 14, 19, 20, 21, 22] [7, 900000, 900001, 900002] (cn (decide (((i1 : Nat) : Int) < ((x3.length : Nat) : Int))) (r1 2 [1, 2, 3, 4, 5, 6, 7, 14, 19, 20, 21, 28] [7, 900000, 900001, 900002] [pf (0 ≤ (((i1 : Nat) : Int) : Int) ∧ (((i1 : Nat) : Int) : Int) < ((x3.length : Nat) : Int)), pf (0 ≤ ((x3.getD i1 default) : Int) ∧ ((x3.getD i1 default) : Int) < ((x2.length : Nat) : Int))] [0, 4] (cn (x2.getD ((x3.getD i1 default).toNat) default) (r1 1 [1, 2, 3, 4, 5, 6, 7, 14, 19, 20, 21] [7, 900000, 900001, 900002] [pf (inR .i64 (v1 + 1))] [0] (r1 1 [1, 2, 3, 4, 5, 6, 7, 14, 19, 20, 21] [7, 900000, 900001, 900002] [pf (inR .i64 (((i1 : Nat) : Int) + 1))] [0] (.next 0 [] (D17b1 m x0 x1 x2 x3 x4 x5 x6 (i1 + 1) (v1 + 1))))) (r1 1 [1, 2, 3, 4, 5, 6, 7, 14, 19, 20, 21] [7, 900000, 900001, 900002] [pf (inR .i64 (((i1 : Nat) : Int) + 1))] [0] (.next 0 [] (D17b1 m x0 x1 x2 x3 x4 x5 x6 (i1 + 1) v1))))) (r0 1 [1, 2, 4, 5, 6, 7, 14, 32, 33, 34] [7, 900000, 900001, 900002] (lp (D17b2 m x0 x1 x2 x3 x4 x5 x6 i1 v1) [] [] [(900002, some 900002)] (D17b2 m x0 x1 x2 x3 x4 x5 x6 i1 v1 0 x6) (A17b2 m x0 x1 x2 x3 x4 x5 x6 i1 v1))))
def A17 (m : Nat) (x0 : Family) (x1 : Int) (x2 : List Bool) (x3 : List Int) (x4 : Int) (x5 : Int) (x6 : List Share) : Ann := r0 2 [1, 2, 3, 4, 5, 6, 7, 14] [7, 900000, 900001, 900002] (r0 1 [1, 2, 3, 4, 5, 6, 7, 14, 19, 20, 21] [7, 900000, 900001, 900002] (lp (D17b1 m x0 x1 x2 x3 x4 x5 x6) [] [] [] (D17b1 m x0 x1 x2 x3 x4 x5 x6 0 0) (A17b1 m x0 x1 x2 x3 x4 x5 x6)))
/-- The reference's parts are those that are told in units. -/
theorem l10Divide_sem : ∀ (m : Nat) (f : Family) (y : Int) (tk : List Bool) (l : List Int) (d D : Nat) (S : List Nat) (out : List Share), specIsFamily f = true → (∀ c ∈ l, 0 ≤ c ∧ c < f.people.length) → lmu f.people.length (l.filter fun c => tk.getD c.toNat default) < 2 * m → 0 < d → S.length = f.people.length → RepO D S out → (∀ c ∈ l.filter fun c => tk.getD c.toNat default, ∀ r, Ch f y tk c r → d * (l.filter fun c => tk.getD c.toNat default).length * r ∣ D) →
    RepO D (dS f y tk (2 * m) (l.filter fun c => tk.getD c.toNat default) (D / d) S) (l10Divide_r m f y tk l 1 (d : Int) out)
  | 0, f, y, tk, l, d, D, S, out, _, _, hm, _, _, _, _ => absurd hm (Nat.not_lt_zero _)
  | m + 1, f, y, tk, l, d, D, S, out, hf, hl, hm, hd, hS, hR, hr => by
    have hmu := lmu_le.1 (Nat.le_of_lt_succ (show lmu f.people.length (l.filter fun c => tk.getD c.toNat default) < (2 * m + 1) + 1 by omega))
    rw [l10Divide_r, show 2 * (m + 1) = (2 * m + 1) + 1 by omega, dS]
    refine loopN_to (fun i (v : Int) => v = (((l.take i).filter fun c => tk.getD c.toNat default).length : Int)) (fun r => RepO D ((l.filter fun c => tk.getD c.toNat default).foldl (fun S c => gS f y tk (2 * m + 1) c (D / d / (l.filter fun c => tk.getD c.toNat default).length) S) S) r) (by simp) (fun i v next hi hv hn => ?_) (fun n hn => ?_)
    · refine cond_both (p := fun r => RepO D ((l.filter fun c => tk.getD c.toNat default).foldl (fun S c => gS f y tk (2 * m + 1) c (D / d / (l.filter fun c => tk.getD c.toNat default).length) S) S) r) (fun c => hn _ ?_) (fun c => hn _ ?_)
      · rw [take_filter hi, c, cond_true, List.length_append, hv]; simp
      · rw [take_filter hi, c, cond_false, List.append_nil, hv]
    · rw [List.take_length] at hn
      subst hn
      refine loopN_to (fun i (v : List Share) => RepO D (((l.take i).filter fun c => tk.getD c.toNat default).foldl (fun S c => gS f y tk (2 * m + 1) c (D / d / (l.filter fun c => tk.getD c.toNat default).length) S) S) v) (fun r => RepO D ((l.filter fun c => tk.getD c.toNat default).foldl (fun S c => gS f y tk (2 * m + 1) c (D / d / (l.filter fun c => tk.getD c.toNat default).length) S) S) r) hR (fun i v next hi hv hn => ?_) (fun v hv => by rw [List.take_length] at hv; exact hv)
      have hq := hl _ (getD_mem (d := (default : Int)) hi)
      refine cond_both (p := fun r => RepO D ((l.filter fun c => tk.getD c.toNat default).foldl (fun S c => gS f y tk (2 * m + 1) c (D / d / (l.filter fun c => tk.getD c.toNat default).length) S) S) r) (fun c => hn _ ?_) (fun c => ?_)
      · have hk : tk.getD (l.getD i default).toNat default = false := by simpa using c
        rw [take_filter hi, hk, cond_false, List.append_nil]; exact hv
      · have hk : tk.getD (l.getD i default).toNat default = true := by simpa using c
        have hmem := filt_mem hi hk
        have hpos : 0 < (l.filter fun c => tk.getD c.toNat default).length := List.length_pos_of_mem hmem
        refine cond_both (p := fun r => RepO D ((l.filter fun c => tk.getD c.toNat default).foldl (fun S c => gS f y tk (2 * m + 1) c (D / d / (l.filter fun c => tk.getD c.toNat default).length) S) S) r) (fun ha => hn _ ?_) (fun ha => hn _ ?_)
        · rw [take_filter hi, hk, cond_true, List.foldl_append, List.foldl_cons, List.foldl_nil, ← Int.natCast_mul, gS, ha, cond_true, Nat.div_div_eq_div_mul]
          rw [Nat.div_div_eq_div_mul] at hv
          refine hv.add (by rw [fold_len, hS]; omega) (Nat.mul_pos hd hpos) ?_
          have := hr _ hmem 1 (.nil _)
          rwa [Nat.mul_one] at this
        · rw [take_filter hi, hk, cond_true, List.foldl_append, List.foldl_cons, List.foldl_nil, ← Int.natCast_mul, gS, ha, cond_false, Nat.div_div_eq_div_mul]
          rw [Nat.div_div_eq_div_mul] at hv
          have h2 : lmu f.people.length ((l1Children f (l.getD i default)).filter fun c => tk.getD c.toNat default) ≤ 2 * ((f.people.length : Int) - l.getD i default).toNat - 1 := lmu_le.2 fun c hc => by
            have := (kidsT_mem hf hq.1 hc).1; omega
          have h3 := hmu _ hmem
          exact l10Divide_sem m f y tk (l1Children f (l.getD i default)) (d * (l.filter fun c => tk.getD c.toNat default).length) D _ v hf (fun c hc => by have := kid_lt hf hq.1 hc; omega) (by omega) (Nat.mul_pos hd hpos) ((fold_len _ _).trans hS) hv (fun c hc r h => by
            have := hr _ hmem _ (.cons ha hc h)
            rw [Nat.mul_assoc (d * _)]; exact this)
theorem LdI.down {m : Nat} {f : Family} {y : Int} {tk : List Bool} {l : List Int} {num den n : Int} {out0 out : List Share} (h0 : LdOk f y tk l num den out0) (hm : (lmu f.people.length (l.filter fun c => tk.getD c.toNat default) + 1) / 2 < m + 1) {i : Nat} (h : LdI m f y tk l den i out) (hi : i < l.length) (hk : tk.getD (l.getD i default).toNat default = true) (hn : n = ((l.filter fun c => tk.getD c.toNat default).length : Int)) (ha : l1Alive f (l.getD i default) y = false) :
    LdI m f y tk l den (i + 1) (l10Divide_r m f y tk (l1Children f (l.getD i default)) num (den * n) out) := by
  have hmu := LdI.mu2 h0 hm hi hk
  obtain ⟨⟨hf, ht⟩, ⟨hl, _⟩, rfl, _⟩ := h0
  obtain ⟨d, D, S, ⟨rfl, hd⟩, hS, hR, hM, hs, hb⟩ := h
  subst hn
  have hq := hl _ (getD_mem (d := (default : Int)) hi)
  have hmem := filt_mem hi hk
  have hpos : 0 < (l.filter fun c => tk.getD c.toNat default).length := List.length_pos_of_mem hmem
  refine ⟨d, D, S, ⟨rfl, hd⟩, hS, ?_, hM, hs, hb⟩
  rw [take_filter hi, hk, cond_true, List.foldl_append, List.foldl_cons, List.foldl_nil, ← Int.natCast_mul, gS, ha, cond_false, Nat.div_div_eq_div_mul]
  rw [Nat.div_div_eq_div_mul] at hR
  exact l10Divide_sem m f y tk (l1Children f (l.getD i default)) (d * (l.filter fun c => tk.getD c.toNat default).length) D _ out hf (fun c hc => by have := kid_lt hf hq.1 hc; omega) (by omega) (Nat.mul_pos hd hpos) ((fold_len _ _).trans hS) hR (fun c hc r h => ((hb _ hmem).kid ha hc r h).1)

theorem ok_spec_l10Divide (x0 : Family) (x1 : Int) (x2 : List Bool) (x3 : List Int) (x4 : Int) (x5 : Int) (x6 : List Share) (h : LdOk x0 x1 x2 x3 x4 x5 x6) : FnMT Try.prog 17 [.agg (cFamily false x0), .int .i64 x1, .own 900000, .own 900001, .int .i64 x4, .int .i64 x5, .own 900002] [.arr 1 x2.length (rowOf (cBool) x2), .arr 1 x3.length (rowOf (cInt .i64) x3), .arr 3 x6.length (rowOf (cShare true) x6)] (C17 x0 x1 x2 x3 x4 x5 x6 (l10Divide x0 x1 x2 x3 x4 x5 x6)) := by
  have all : ∀ (m : Nat) (x0 : Family) (x1 : Int) (x2 : List Bool) (x3 : List Int) (x4 : Int) (x5 : Int) (x6 : List Share) (h : LdOk x0 x1 x2 x3 x4 x5 x6) (hm : (lmu x0.people.length (x3.filter fun c => x2.getD c.toNat default) + 1) / 2 < m), FnMT Try.prog 17 [.agg (cFamily false x0), .int .i64 x1, .own 900000, .own 900001, .int .i64 x4, .int .i64 x5, .own 900002] [.arr 1 x2.length (rowOf (cBool) x2), .arr 1 x3.length (rowOf (cInt .i64) x3), .arr 3 x6.length (rowOf (cShare true) x6)] (C17 x0 x1 x2 x3 x4 x5 x6 (l10Divide_r m x0 x1 x2 x3 x4 x5 x6)) := by
    intro m; induction m
    · intros; exact absurd (by assumption) (Nat.not_lt_zero _)
    rename_i m ih
    intro x0 x1 x2 x3 x4 x5 x6 h hm
    have aux : ∀ R, l10Divide_r (m + 1) x0 x1 x2 x3 x4 x5 x6 = R → slim (C17 x0 x1 x2 x3 x4 x5 x6 R) (A17 m x0 x1 x2 x3 x4 x5 x6) [] := by
      intro R hR
      rw [l10Divide_r] at hR
      refine rg trivial ?_
      refine rg trivial ?_
      revert hR; refine lN (fun i v => v = (((x3.take i).filter fun c => x2.getD c.toNat default).length : Int)) (by (simp; done)) rfl fun i1 v1 F1 hn1 hI1 hR hK1 => ?_
      refine rg trivial ?_
      refine ⟨fun hc1 => ?_, fun hc1 => ?_⟩
      · have hii1 : i1 < x3.length := by have := of_decide_eq_true hc1; omega
        replace hR := loopN_step hR hii1
        refine rg ⟨by (intros; omega), by (have h9 := h.n; have h8 := h.at hii1; omega), trivial⟩ ?_
        revert hR; refine cd (fun hc2 hR => ?_) fun hc2 hR => ?_
        ·
          refine rg ⟨by (have h9 : ((x3.take i1).filter fun c => x2.getD c.toNat default).length ≤ x3.length := Nat.le_trans (List.length_filter_le _ _) (by rw [List.length_take]; omega); have h8 := h.n; rw [hI1]; simp only [inR]; omega), trivial⟩ ?_
          refine rg ⟨by (have h9 := h.n; (try simp only [inR]); omega), trivial⟩ ?_
          exact hK1 (v1 + 1) hii1 (by (rw [take_filter hii1, hc2, cond_true, List.length_append, hI1]; simp; done)) hR
        ·
          refine rg ⟨by (have h9 := h.n; (try simp only [inR]); omega), trivial⟩ ?_
          exact hK1 v1 hii1 (by (rw [take_filter hii1, hc2, cond_false, List.append_nil, hI1]; done)) hR
      · obtain rfl : i1 = x3.length := by have := of_decide_eq_false hc1; omega
        replace hR := loopN_end hR (Nat.lt_irrefl _)
        refine rg trivial ?_
        revert hR; refine lN (fun i v => LdI m x0 x1 x2 x3 x5 i v) (by (with_reducible exact h.start m)) rfl fun i2 v2 F2 hn2 hI2 hR hK2 => ?_
        refine rg trivial ?_
        refine ⟨fun hc3 => ?_, fun hc3 => ?_⟩
        · have hii2 : i2 < x3.length := by have := of_decide_eq_true hc3; omega
          replace hR := loopN_step hR hii2
          refine rg ⟨by (intros; omega), trivial⟩ ?_
          refine rg ⟨by (have h9 := h.n; have h8 := h.at hii2; omega), trivial⟩ ?_
          revert hR; refine cd (fun hc4 hR => ?_) fun hc4 hR => ?_
          ·
            refine rg ⟨by (have h9 := h.n; (try simp only [inR]); omega), trivial⟩ ?_
            exact hK2 v2 hii2 (by (with_reducible exact hI2.skip hii2 (by simpa using hc4))) hR
          ·
            refine rg ⟨⟨by (have h9 := h.n; have h8 := h.at hii2; omega), by (have h9 := h.n; have h8 := h.at hii2; omega)⟩, trivial⟩ ?_
            revert hR; refine cd (fun hc5 hR => ?_) fun hc5 hR => ?_
            ·
              refine rg ⟨by (have h9 := h.n; have h8 := h.at hii2; have h7 := hI2.len; omega), by (have h9 := hI1; rw [List.take_length] at h9; rw [h9]; exact hI2.den hii2 (by simpa using hc4)), by (have h9 := hI1; rw [List.take_length] at h9; with_reducible exact LdI.ok h hm hI2 hii2 (by simpa using hc4) h9), by (have h9 := h.n; have h8 := h.at hii2; have h7 := hI2.len; omega), trivial⟩ ?_
              refine rg ⟨by (have h9 := h.n; (try simp only [inR]); omega), trivial⟩ ?_
              exact hK2 (v2.set ((x3.getD i2 default).toNat) (l10Add (v2.getD ((x3.getD i2 default).toNat) default) x4 (x5 * v1))) hii2 (by (have h9 := hI1; rw [List.take_length] at h9; with_reducible exact LdI.give h hI2 hii2 (by simpa using hc4) h9 hc5)) hR
            ·
              refine rg ⟨by (have h9 := hI1; rw [List.take_length] at h9; rw [h9]; exact hI2.den hii2 (by simpa using hc4)), by (have h9 := h.n; have h8 := h.at hii2; omega), ih x0 x1 x2 (l1Children x0 (x3.getD i2 default)) x4 (x5 * v1) v2 (by (have h9 := hI1; rw [List.take_length] at h9; with_reducible exact LdI.kid h hm hI2 hii2 (by simpa using hc4) h9 hc5)) (by (with_reducible exact LdI.mu2 h hm hii2 (by simpa using hc4))), trivial⟩ ?_
              refine rg ⟨by (have h9 := h.n; (try simp only [inR]); omega), trivial⟩ ?_
              exact hK2 (l10Divide_r m x0 x1 x2 (l1Children x0 (x3.getD i2 default)) x4 (x5 * v1) v2) hii2 (by (have h9 := hI1; rw [List.take_length] at h9; with_reducible exact LdI.down h hm hI2 hii2 (by simpa using hc4) h9 hc5)) hR
        · obtain rfl : i2 = x3.length := by have := of_decide_eq_false hc3; omega
          replace hR := loopN_end hR (Nat.lt_irrefl _)
          exact congrArg (C17 x0 x1 x2 x3 x4 x5 x6) hR
    exact FnM.go 72 Try.func17 (by kernel_rfl) (by kernel_rfl) (A17 m x0 x1 x2 x3 x4 x5 x6) (by kernel_rfl) (aux _ rfl)
  exact all 50 x0 x1 x2 x3 x4 x5 x6 h (by have h1 := h.mu; omega)
def k17 (d : Nat) (ids : List Nat) (x0 : Family) (x1 : Int) (x2 : List Bool) (x3 : List Int) (x4 : Int) (x5 : Int) (x6 : List Share) : Cl := (hresM d ids (C17 x0 x1 x2 x3 x4 x5 x6 (l10Divide x0 x1 x2 x3 x4 x5 x6)), k1 (ok_spec_l10Divide x0 x1 x2 x3 x4 x5 x6))
end Go.Proofs.Ytmefknjcgdbceaa
