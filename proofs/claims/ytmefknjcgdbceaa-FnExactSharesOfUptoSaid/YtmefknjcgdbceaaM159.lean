import Derived.Test.YtmefknjcgdbceaaM158
set_option maxHeartbeats 4000000
set_option linter.unusedSimpArgs false
set_option linter.unusedVariables false
namespace Go.Proofs.Ytmefknjcgdbceaa
open Go Go.Lite Go.Proofs
def C38 (R : Share) : LV × List (Nat × BC) := (.agg [.int .i64 R.person, .int .i64 R.num, .int .i64 R.den], [])
def l10Add (x0 : Share) (x1 : Int) (x2 : Int) : Share := (Share.mk x0.person (((x0.num * (((x0.den.tdiv (l10Gcd x0.den x2)) * x2).tdiv x0.den)) + (x1 * (((x0.den.tdiv (l10Gcd x0.den x2)) * x2).tdiv x2))).tdiv (l10Gcd ((x0.num * (((x0.den.tdiv (l10Gcd x0.den x2)) * x2).tdiv x0.den)) + (x1 * (((x0.den.tdiv (l10Gcd x0.den x2)) * x2).tdiv x2))) ((x0.den.tdiv (l10Gcd x0.den x2)) * x2))) (((x0.den.tdiv (l10Gcd x0.den x2)) * x2).tdiv (l10Gcd ((x0.num * (((x0.den.tdiv (l10Gcd x0.den x2)) * x2).tdiv x0.den)) + (x1 * (((x0.den.tdiv (l10Gcd x0.den x2)) * x2).tdiv x2))) ((x0.den.tdiv (l10Gcd x0.den x2)) * x2))))
def A38 (x0 : Share) (x1 : Int) (x2 : Int) : Ann := .reg 5 [] [(1005, k55 x0.den x2), (3002, k55 ((x0.num * (((x0.den.tdiv (l10Gcd x0.den x2)) * x2).tdiv x0.den)) + (x1 * (((x0.den.tdiv (l10Gcd x0.den x2)) * x2).tdiv x2))) ((x0.den.tdiv (l10Gcd x0.den x2)) * x2))] [6] [6] [] [pf (((l10Gcd x0.den x2) : Int) ≠ 0), pf (inR .i64 (x0.den.tdiv (l10Gcd x0.den x2))), pf (inR .i64 ((x0.den.tdiv (l10Gcd x0.den x2)) * x2)), pf ((x0.den : Int) ≠ 0), pf (inR .i64 (((x0.den.tdiv (l10Gcd x0.den x2)) * x2).tdiv x0.den)), pf (inR .i64 (x0.num * (((x0.den.tdiv (l10Gcd x0.den x2)) * x2).tdiv x0.den))), pf ((x2 : Int) ≠ 0), pf (inR .i64 (((x0.den.tdiv (l10Gcd x0.den x2)) * x2).tdiv x2)), pf (inR .i64 (x1 * (((x0.den.tdiv (l10Gcd x0.den x2)) * x2).tdiv x2))), pf (inR .i64 ((x0.num * (((x0.den.tdiv (l10Gcd x0.den x2)) * x2).tdiv x0.den)) + (x1 * (((x0.den.tdiv (l10Gcd x0.den x2)) * x2).tdiv x2)))), pf (((l10Gcd ((x0.num * (((x0.den.tdiv (l10Gcd x0.den x2)) * x2).tdiv x0.den)) + (x1 * (((x0.den.tdiv (l10Gcd x0.den x2)) * x2).tdiv x2))) ((x0.den.tdiv (l10Gcd x0.den x2)) * x2)) : Int) ≠ 0), pf (inR .i64 (((x0.num * (((x0.den.tdiv (l10Gcd x0.den x2)) * x2).tdiv x0.den)) + (x1 * (((x0.den.tdiv (l10Gcd x0.den x2)) * x2).tdiv x2))).tdiv (l10Gcd ((x0.num * (((x0.den.tdiv (l10Gcd x0.den x2)) * x2).tdiv x0.den)) + (x1 * (((x0.den.tdiv (l10Gcd x0.den x2)) * x2).tdiv x2))) ((x0.den.tdiv (l10Gcd x0.den x2)) * x2)))), pf (inR .i64 (((x0.den.tdiv (l10Gcd x0.den x2)) * x2).tdiv (l10Gcd ((x0.num * (((x0.den.tdiv (l10Gcd x0.den x2)) * x2).tdiv x0.den)) + (x1 * (((x0.den.tdiv (l10Gcd x0.den x2)) * x2).tdiv x2))) ((x0.den.tdiv (l10Gcd x0.den x2)) * x2))))] [] [52, 0, 4, 8, 12, 16, 20, 24, 28, 32, 36, 56, 40, 44, 40, 48] (rt [] (C38 (Share.mk x0.person (((x0.num * (((x0.den.tdiv (l10Gcd x0.den x2)) * x2).tdiv x0.den)) + (x1 * (((x0.den.tdiv (l10Gcd x0.den x2)) * x2).tdiv x2))).tdiv (l10Gcd ((x0.num * (((x0.den.tdiv (l10Gcd x0.den x2)) * x2).tdiv x0.den)) + (x1 * (((x0.den.tdiv (l10Gcd x0.den x2)) * x2).tdiv x2))) ((x0.den.tdiv (l10Gcd x0.den x2)) * x2))) (((x0.den.tdiv (l10Gcd x0.den x2)) * x2).tdiv (l10Gcd ((x0.num * (((x0.den.tdiv (l10Gcd x0.den x2)) * x2).tdiv x0.den)) + (x1 * (((x0.den.tdiv (l10Gcd x0.den x2)) * x2).tdiv x2))) ((x0.den.tdiv (l10Gcd x0.den x2)) * x2))))))
theorem ok_spec_l10Add (x0 : Share) (x1 : Int) (x2 : Int) (h : AddOk x0 x1 x2) : FnT Try.prog 38 [.agg (cShare false x0), .int .i64 x1, .int .i64 x2] (C38 (l10Add x0 x1 x2)) := by
  have aux : ∀ R, l10Add x0 x1 x2 = R → slim (C38 R) (A38 x0 x1 x2) [] := by
    intro R hR
    refine rg ⟨by (have h9 := h.rng; (try simp only [inR] at *); omega), by (have h9 := h.rng; (try simp only [inR] at *); omega), by (have h9 := h.rng; (try simp only [inR] at *); omega), by (have h9 := h.rng; (try simp only [inR] at *); omega), by (have h9 := h.rng; (try simp only [inR] at *); omega), by (have h9 := h.rng; (try simp only [inR] at *); omega), by (have h9 := h.rng; (try simp only [inR] at *); omega), by (have h9 := h.rng; (try simp only [inR] at *); omega), by (have h9 := h.rng; (try simp only [inR] at *); omega), by (have h9 := h.rng; (try simp only [inR] at *); omega), by (have h9 := h.rng; (try simp only [inR] at *); omega), by (have h9 := h.rng; (try simp only [inR] at *); omega), by (have h9 := h.rng; (try simp only [inR] at *); omega), ⟨by (have h9 := h.rng; (try simp only [inR] at *); omega), by (have h9 := h.rng; (try simp only [inR] at *); omega)⟩, ⟨by (have h9 := h.rng; (try simp only [inR] at *); omega), by (have h9 := h.rng; (try simp only [inR] at *); omega)⟩, trivial⟩ ?_
    exact congrArg C38 hR
  exact Fn.go 44 Try.func38 (by kernel_rfl) (by kernel_rfl) (by simp [C38, Frs, FrsL]) (A38 x0 x1 x2) (by kernel_rfl) (aux _ rfl)
def k38 (x0 : Share) (x1 : Int) (x2 : Int) : Cl := (hres (C38 (l10Add x0 x1 x2)), k1 (ok_spec_l10Add x0 x1 x2))
/-! ### The reference's parts, in units -/
def shU (D k s : Nat) : Share := Share.mk (k : Int) ((s / Nat.gcd s D : Nat) : Int) ((D / Nat.gcd s D : Nat) : Int)
theorem l10Add_val {k D S d : Nat} (hD : 0 < D) (hd : 0 < d) (hdv : d ∣ D) : l10Add (shU D k S) 1 (d : Int) = shU D k (S + D / d) := by
  obtain ⟨G, L, A, B, N, g2, ⟨a1, a2, a3, a4, a5⟩, ⟨b1, b2, b3, b4, b5⟩, _⟩ := add_core (S := S) hD hd hdv
  unfold l10Add shU
  dsimp only
  rw [a1, a2, a3, a4, a5, b2, b3, b4, b5]
structure RepO (D : Nat) (S : List Nat) (out : List Share) : Prop where
  pos : 0 < D
  len : out.length = S.length
  el : ∀ k : Nat, k < S.length → out.getD k default = shU D k (S.getD k 0)
theorem RepO.add {D : Nat} {S : List Nat} {out : List Share} (h : RepO D S out) {k d : Nat} (hk : k < S.length) (hd : 0 < d) (hdv : d ∣ D) :
    RepO D (S.set k (S.getD k 0 + D / d)) (out.set k (l10Add (out.getD k default) 1 (d : Int))) := by
  rw [h.el k hk, l10Add_val h.pos hd hdv]
  refine ⟨h.pos, by simp [h.len], fun j hj => ?_⟩
  rw [List.length_set] at hj
  have := h.len
  rw [getD_set, getD_set]
  by_cases e : j = k
  · subst e; rw [if_pos ⟨rfl, by omega⟩, if_pos ⟨rfl, hj⟩]
  · rw [if_neg (fun x => e x.1), if_neg (fun x => e x.1)]; exact h.el j hj
theorem RepO.ok {D : Nat} {S : List Nat} {out : List Share} (h : RepO D S out) {k d : Nat} (hk : k < S.length) (hd : 0 < d) (hdv : d ∣ D) (hM : D ≤ 9223372036854775807) (hs : S.getD k 0 + D / d ≤ D) : AddOk (out.getD k default) 1 (d : Int) := by
  rw [h.el k hk]
  exact ⟨rfl, D, S.getD k 0, d, ⟨rfl, hd, hdv⟩, ⟨rfl, rfl⟩, ⟨h.pos, hM⟩, hs⟩
/-- What is asked where a part is divided. -/
def LdOk (f : Family) (y : Int) (tk : List Bool) (l : List Int) (num den : Int) (out : List Share) : Prop := (specIsFamily f = true ∧ TkOk f y tk) ∧ ((∀ c ∈ l, 0 ≤ c ∧ c < f.people.length) ∧ l.length ≤ 40) ∧ num = 1 ∧
  ∃ (d D : Nat) (S : List Nat), (den = (d : Int) ∧ 0 < d) ∧ S.length = f.people.length ∧ RepO D S out ∧ D ≤ 9223372036854775807 ∧ ((l.filter fun c => tk.getD c.toNat default) ≠ [] → S.sum + D / d ≤ D) ∧ ∀ c ∈ l.filter fun c => tk.getD c.toNat default, Bdg f y tk D (d * (l.filter fun c => tk.getD c.toNat default).length) c
def LdI (m : Nat) (f : Family) (y : Int) (tk : List Bool) (l : List Int) (den : Int) (i : Nat) (out : List Share) : Prop :=
  ∃ (d D : Nat) (S : List Nat), (den = (d : Int) ∧ 0 < d) ∧ S.length = f.people.length ∧ RepO D (((l.take i).filter fun c => tk.getD c.toNat default).foldl (fun S c => gS f y tk (2 * m + 1) c (D / d / (l.filter fun c => tk.getD c.toNat default).length) S) S) out ∧ D ≤ 9223372036854775807 ∧ ((l.filter fun c => tk.getD c.toNat default) ≠ [] → S.sum + D / d ≤ D) ∧ ∀ c ∈ l.filter fun c => tk.getD c.toNat default, Bdg f y tk D (d * (l.filter fun c => tk.getD c.toNat default).length) c
theorem LdOk.n {f : Family} {y : Int} {tk : List Bool} {l : List Int} {num den : Int} {out : List Share} (h : LdOk f y tk l num den out) : (specIsFamily f = true ∧ f.people.length ≤ 40) ∧ tk.length = f.people.length ∧ out.length = f.people.length ∧ l.length ≤ 40 := by
  obtain ⟨⟨hf, ht⟩, ⟨_, hl⟩, _, d, D, S, _, hS, hR, _⟩ := h
  exact ⟨⟨hf, (fam_n hf).1⟩, ht.len, hR.len.trans hS, hl⟩
theorem LdOk.at {f : Family} {y : Int} {tk : List Bool} {l : List Int} {num den : Int} {out : List Share} (h : LdOk f y tk l num den out) {i : Nat} (hi : i < l.length) : 0 ≤ l.getD i default ∧ l.getD i default < f.people.length := h.2.1.1 _ (getD_mem hi)
theorem LdOk.mu {f : Family} {y : Int} {tk : List Bool} {l : List Int} {num den : Int} {out : List Share} (h : LdOk f y tk l num den out) : lmu f.people.length (l.filter fun c => tk.getD c.toNat default) ≤ 81 := lmu_le.2 fun c hc => by
  have h1 := h.2.1.1 c (List.mem_filter.1 hc).1
  have h2 := h.n.1.2
  omega
theorem LdOk.start {f : Family} {y : Int} {tk : List Bool} {l : List Int} {num den : Int} {out : List Share} (h : LdOk f y tk l num den out) (m : Nat) : LdI m f y tk l den 0 out := by
  obtain ⟨_, _, _, d, D, S, h1, hS, hR, hM, hs, hb⟩ := h
  exact ⟨d, D, S, h1, hS, hR, hM, hs, hb⟩
theorem fold_len {f : Family} {y : Int} {tk : List Bool} {m : Nat} {v : Nat} : ∀ (L : List Int) (S : List Nat), (L.foldl (fun S c => gS f y tk m c v S) S).length = S.length
  | [], S => rfl
  | c :: L, S => by rw [List.foldl_cons, fold_len L, (gS_len f y tk m).1]
theorem LdI.len {m : Nat} {f : Family} {y : Int} {tk : List Bool} {l : List Int} {den : Int} {i : Nat} {out : List Share} (h : LdI m f y tk l den i out) : out.length = f.people.length := by
  obtain ⟨d, D, S, h1, hS, hR, _⟩ := h
  rw [hR.len, fold_len, hS]
theorem filt_mem {tk : List Bool} {l : List Int} {i : Nat} (hi : i < l.length) (ht : tk.getD (l.getD i default).toNat default = true) : l.getD i default ∈ l.filter fun c => tk.getD c.toNat default := List.mem_filter.2 ⟨getD_mem hi, ht⟩
/-- The divisor at a part. -/
theorem LdI.den {m : Nat} {f : Family} {y : Int} {tk : List Bool} {l : List Int} {den : Int} {i : Nat} {out : List Share} (h : LdI m f y tk l den i out) (hi : i < l.length) (ht : tk.getD (l.getD i default).toNat default = true) : inR .i64 (den * ((l.filter fun c => tk.getD c.toNat default).length : Int)) := by
  obtain ⟨d, D, S, ⟨rfl, hd⟩, hS, hR, hM, hs, hb⟩ := h
  have h1 := (hb _ (filt_mem hi ht)).dvd.1
  have h2 := Nat.le_of_dvd hR.pos h1
  rw [← Int.natCast_mul]
  simp only [inR]
  revert h2
  generalize d * (l.filter fun c => tk.getD c.toNat default).length = z
  omega
/-- What was given before an entry, and is given there, is within the whole. -/
theorem LdI.room {m : Nat} {f : Family} {y : Int} {tk : List Bool} {l : List Int} (hf : specIsFamily f = true) (ht : TkOk f y tk) (hl : ∀ c ∈ l, 0 ≤ c ∧ c < f.people.length) (hm : lmu f.people.length (l.filter fun c => tk.getD c.toNat default) ≤ 2 * m + 1) {d D : Nat} {S : List Nat} (hd : 0 < d) (hS : S.length = f.people.length)
    (hs : (l.filter fun c => tk.getD c.toNat default) ≠ [] → S.sum + D / d ≤ D) (hb : ∀ c ∈ l.filter fun c => tk.getD c.toNat default, Bdg f y tk D (d * (l.filter fun c => tk.getD c.toNat default).length) c) {i : Nat} (hi : i < l.length) (hk : tk.getD (l.getD i default).toNat default = true) :
    ((((l.take i).filter fun c => tk.getD c.toNat default).foldl (fun S c => gS f y tk (2 * m + 1) c (D / d / (l.filter fun c => tk.getD c.toNat default).length) S) S).sum + D / d / (l.filter fun c => tk.getD c.toNat default).length ≤ D ∧ d * (l.filter fun c => tk.getD c.toNat default).length ∣ D) ∧ 0 < (l.filter fun c => tk.getD c.toNat default).length := by
  have hmem := filt_mem hi hk
  have h1 := hs (List.ne_nil_of_mem hmem)
  have hdv := (hb _ hmem).dvd.1
  have hmu := lmu_le.1 hm
  have hpos : 0 < (l.filter fun c => tk.getD c.toNat default).length := List.length_pos_of_mem hmem
  have hlt : ((l.take i).filter fun c => tk.getD c.toNat default).length < (l.filter fun c => tk.getD c.toNat default).length := by
    have e : l = l.take i ++ (l.getD i default :: l.drop (i + 1)) := by
      rw [List.getD_eq_getElem?_getD, List.getElem?_eq_getElem hi, Option.getD_some, List.getElem_cons_drop, List.take_append_drop]
    have e2 : (l.filter fun c => tk.getD c.toNat default) = ((l.take i).filter fun c => tk.getD c.toNat default) ++ (l.getD i default :: ((l.drop (i + 1)).filter fun c => tk.getD c.toNat default)) := by
      conv => lhs; rw [e]
      rw [List.filter_append, List.filter_cons_of_pos (p := fun (c : Int) => tk.getD c.toNat default) hk]
    rw [e2, List.length_append, List.length_cons]; omega
  have key : ∀ (L : List Int), (∀ c ∈ L, c ∈ l.filter fun c => tk.getD c.toNat default) → ∀ S : List Nat, S.length = f.people.length → (L.foldl (fun S c => gS f y tk (2 * m + 1) c (D / d / (l.filter fun c => tk.getD c.toNat default).length) S) S).sum = S.sum + L.length * (D / d / (l.filter fun c => tk.getD c.toNat default).length) := fun L => by
    induction L with
    | nil => intro _ S _; simp
    | cons c L ih2 =>
      intro hL S hS
      have hc := hL c (by simp)
      have hc2 := List.mem_filter.1 hc
      rw [List.foldl_cons, ih2 (fun d hd => hL d (by simp [hd])) _ (by rw [(gS_len f y tk (2 * m + 1)).1]; exact hS), (gS_sum hf ht (2 * m + 1)).1 c _ S hS (hl c hc2.1) hc2.2 (by have := hmu c hc; omega) (fun r hr => Nat.dvd_div_of_mul_dvd (bdg_dvd hd (hb c hc) r hr)), List.length_cons, Nat.add_mul]
      omega
  refine ⟨⟨?_, hdv⟩, hpos⟩
  rw [key _ (fun c hc => List.mem_filter.2 ⟨List.mem_of_mem_take (List.mem_filter.1 hc).1, (List.mem_filter.1 hc).2⟩) S hS]
  have h3 := Nat.mul_le_mul_right (D / d / (l.filter fun c => tk.getD c.toNat default).length) hlt
  have h4 : (l.filter fun c => tk.getD c.toNat default).length * (D / d / (l.filter fun c => tk.getD c.toNat default).length) ≤ D / d := Nat.mul_div_le _ _
  rw [Nat.succ_mul] at h3
  omega
theorem LdI.ok {m : Nat} {f : Family} {y : Int} {tk : List Bool} {l : List Int} {num den n : Int} {out0 out : List Share} (h0 : LdOk f y tk l num den out0) (hm : (lmu f.people.length (l.filter fun c => tk.getD c.toNat default) + 1) / 2 < m + 1) {i : Nat} (h : LdI m f y tk l den i out) (hi : i < l.length) (hk : tk.getD (l.getD i default).toNat default = true) (hn : n = ((l.filter fun c => tk.getD c.toNat default).length : Int)) :
    AddOk (out.getD (l.getD i default).toNat default) num (den * n) := by
  obtain ⟨⟨hf, ht⟩, ⟨hl, _⟩, rfl, _⟩ := h0
  obtain ⟨d, D, S, ⟨rfl, hd⟩, hS, hR, hM, hs, hb⟩ := h
  subst hn
  obtain ⟨⟨h1, h2⟩, h3⟩ := LdI.room (m := m) hf ht hl (by omega) hd hS hs hb hi hk
  rw [← Int.natCast_mul]
  have hq := hl _ (getD_mem (d := (default : Int)) hi)
  refine hR.ok (by rw [fold_len, hS]; omega) (Nat.mul_pos hd h3) h2 hM ?_
  rw [← Nat.div_div_eq_div_mul]
  exact Nat.le_trans (Nat.add_le_add_right (getD_le_sum _ _) _) h1
theorem LdI.kid {m : Nat} {f : Family} {y : Int} {tk : List Bool} {l : List Int} {num den n : Int} {out0 out : List Share} (h0 : LdOk f y tk l num den out0) (hm : (lmu f.people.length (l.filter fun c => tk.getD c.toNat default) + 1) / 2 < m + 1) {i : Nat} (h : LdI m f y tk l den i out) (hi : i < l.length) (hk : tk.getD (l.getD i default).toNat default = true) (hn : n = ((l.filter fun c => tk.getD c.toNat default).length : Int)) (ha : l1Alive f (l.getD i default) y = false) :
    LdOk f y tk (l1Children f (l.getD i default)) num (den * n) out := by
  obtain ⟨⟨hf, ht⟩, ⟨hl, _⟩, rfl, _⟩ := h0
  obtain ⟨d, D, S, ⟨rfl, hd⟩, hS, hR, hM, hs, hb⟩ := h
  subst hn
  obtain ⟨⟨h1, h2⟩, h3⟩ := LdI.room (m := m) hf ht hl (by omega) hd hS hs hb hi hk
  have hq := hl _ (getD_mem (d := (default : Int)) hi)
  refine ⟨⟨hf, ht⟩, ⟨fun c hc => by have := kid_lt hf hq.1 hc; omega, Nat.le_trans (l1Children_okl f _).2 (fam_n hf).1⟩, rfl, d * (l.filter fun c => tk.getD c.toNat default).length, D, _, ⟨by rw [Int.natCast_mul], Nat.mul_pos hd h3⟩, (fold_len _ _).trans hS, hR, hM, fun _ => ?_, fun c hc => (hb _ (filt_mem hi hk)).kid ha hc⟩
  rw [← Nat.div_div_eq_div_mul]
  exact h1
theorem LdI.mu2 {m : Nat} {f : Family} {y : Int} {tk : List Bool} {l : List Int} {num den : Int} {out0 : List Share} (h0 : LdOk f y tk l num den out0) (hm : (lmu f.people.length (l.filter fun c => tk.getD c.toNat default) + 1) / 2 < m + 1) {i : Nat} (hi : i < l.length) (hk : tk.getD (l.getD i default).toNat default = true) :
    (lmu f.people.length ((l1Children f (l.getD i default)).filter fun c => tk.getD c.toNat default) + 1) / 2 < m := by
  obtain ⟨⟨hf, ht⟩, ⟨hl, _⟩, _⟩ := h0
  have hq := hl _ (getD_mem (d := (default : Int)) hi)
  have h1 := lmu_le.1 (Nat.le_refl (lmu f.people.length (l.filter fun c => tk.getD c.toNat default))) _ (filt_mem hi hk)
  have h2 : lmu f.people.length ((l1Children f (l.getD i default)).filter fun c => tk.getD c.toNat default) ≤ 2 * ((f.people.length : Int) - l.getD i default).toNat - 1 := lmu_le.2 fun c hc => by
    have := (kidsT_mem hf hq.1 hc).1; omega
  omega
theorem take_filter {tk : List Bool} {l : List Int} {i : Nat} (hi : i < l.length) : ((l.take (i + 1)).filter fun c => tk.getD c.toNat default) = ((l.take i).filter fun c => tk.getD c.toNat default) ++ (bif tk.getD (l.getD i default).toNat default then [l.getD i default] else []) := by
  rw [take_snoc _ default hi, filter_snoc]
theorem LdI.skip {m : Nat} {f : Family} {y : Int} {tk : List Bool} {l : List Int} {den : Int} {out : List Share} {i : Nat} (h : LdI m f y tk l den i out) (hi : i < l.length) (hk : tk.getD (l.getD i default).toNat default = false) : LdI m f y tk l den (i + 1) out := by
  obtain ⟨d, D, S, h1, hS, hR, hr⟩ := h
  refine ⟨d, D, S, h1, hS, ?_, hr⟩
  rw [take_filter hi, hk, cond_false, List.append_nil]
  exact hR
theorem LdI.give {m : Nat} {f : Family} {y : Int} {tk : List Bool} {l : List Int} {num den n : Int} {out0 out : List Share} (h0 : LdOk f y tk l num den out0) {i : Nat} (h : LdI m f y tk l den i out) (hi : i < l.length) (hk : tk.getD (l.getD i default).toNat default = true) (hn : n = ((l.filter fun c => tk.getD c.toNat default).length : Int)) (ha : l1Alive f (l.getD i default) y = true) :
    LdI m f y tk l den (i + 1) (out.set (l.getD i default).toNat (l10Add (out.getD (l.getD i default).toNat default) num (den * n))) := by
  obtain ⟨⟨hf, ht⟩, ⟨hl, _⟩, rfl, _⟩ := h0
  obtain ⟨d, D, S, ⟨rfl, hd⟩, hS, hR, hM, hs, hb⟩ := h
  subst hn
  have hq := hl _ (getD_mem (d := (default : Int)) hi)
  have hpos : 0 < (l.filter fun c => tk.getD c.toNat default).length := List.length_pos_of_mem (filt_mem hi hk)
  refine ⟨d, D, S, ⟨rfl, hd⟩, hS, ?_, hM, hs, hb⟩
  rw [take_filter hi, hk, cond_true, List.foldl_append, List.foldl_cons, List.foldl_nil, ← Int.natCast_mul, gS, ha, cond_true, Nat.div_div_eq_div_mul]
  rw [Nat.div_div_eq_div_mul] at hR
  exact hR.add (by rw [fold_len, hS]; omega) (Nat.mul_pos hd hpos) (hb _ (filt_mem hi hk)).dvd.1
end Go.Proofs.Ytmefknjcgdbceaa
