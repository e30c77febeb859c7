import Derived.Test.YtkkijpibajigfaaV104
set_option maxHeartbeats 4000000
set_option linter.unusedSimpArgs false
set_option linter.unusedVariables false
namespace Go.Proofs.Ytkkijpibajigfaa
open Go Go.Lite Go.Proofs
theorem may_of {x : Family} {l : Law} {p q : Int} (hl : specIsLaw l = true) (hf : specIsFamily x = true) (hp : 0 ≤ p ∧ p < x.people.length) (hq : 0 ≤ q ∧ q < x.people.length) (y : Int) : specMay x l p q y = decide ((((impediments x l p q y).length : Nat) : Int) = 0) := by
  have h1 := (l1Has_iff x p).2 ⟨hp, hf⟩
  have h2 := (l1Has_iff x q).2 ⟨hq, hf⟩
  unfold specMay
  rw [specImp_of (by rw [hl, h1, h2]; rfl), hl, h1, h2]
  rfl
/-! ### Partners found one after another -/
/-- Partners h and marks t among n, of which at most c are not set. -/
structure WI (n c : Nat) (h : List Int) (t : List Bool) : Prop where
  hl : h.length = n
  hin : ∀ y ∈ h, -1 ≤ y ∧ y < n
  tl : t.length = n
  tc : t.count false ≤ c
theorem WI.at {n c : Nat} {h : List Int} {t : List Bool} (w : WI n c h t) {b : Nat} (hb : b < n) : -1 ≤ h.getD b default ∧ h.getD b default < n := by
  rw [List.getD_eq_getElem?_getD, List.getElem?_eq_getElem (by have := w.hl; omega)]
  exact w.hin _ (List.getElem_mem (by have := w.hl; omega))
theorem count_mark {t : List Bool} {b : Nat} (hb : b < t.length) (hf : t.getD b default = false) : (t.set b true).count false + 1 = t.count false := by
  have e : t[b] = false := by rw [List.getD_eq_getElem?_getD, List.getElem?_eq_getElem hb] at hf; exact hf
  have h1 : 0 < t.count false := List.count_pos_iff.2 (by rw [← e]; exact List.getElem_mem hb)
  rw [List.count_set hb, e]
  simp
  omega
theorem WI.mark {n c : Nat} {h : List Int} {t : List Bool} (w : WI n c h t) {b : Nat} (hb : b < n) (hf : t.getD b default = false) : WI n ((t.set b true).count false) h (t.set b true) ∧ (t.set b true).count false + 1 ≤ c := by
  have h1 := count_mark (t := t) (by have := w.tl; omega) hf
  have h2 := w.tc
  exact ⟨⟨w.hl, w.hin, by rw [List.length_set]; exact w.tl, Nat.le_refl _⟩, by omega⟩
theorem WI.put {n c : Nat} {h : List Int} {t : List Bool} (w : WI n c h t) {a : Int} (ha : 0 ≤ a ∧ a < n) (b : Nat) : WI n c (h.set b a) t :=
  ⟨by rw [List.length_set]; exact w.hl, fun y hy => by
    rcases List.mem_or_eq_of_mem_set hy with q | q
    · exact w.hin y q
    · omega, w.tl, w.tc⟩
theorem WI.mono {n c d : Nat} {h : List Int} {t : List Bool} (w : WI n c h t) (hcd : c ≤ d) : WI n d h t := ⟨w.hl, w.hin, w.tl, Nat.le_trans w.tc hcd⟩
structure WedOk (may : List (List Int)) (hus : List Int) (a : Int) (tr : List Bool) : Prop where
  n40 : tr.length ≤ 40
  ml : may.length = tr.length
  row : ∀ y ∈ may, y.length ≤ 40 ∧ ∀ b ∈ y, 0 ≤ b ∧ b < tr.length
  hl : hus.length = tr.length
  hin : ∀ y ∈ hus, -1 ≤ y ∧ y < tr.length
  ain : 0 ≤ a ∧ a < tr.length
theorem WedOk.fuel {may : List (List Int)} {hus : List Int} {a : Int} {tr : List Bool} (h : WedOk may hus a tr) : tr.count false < 100 := by
  have h1 := List.count_le_length (a := false) (l := tr)
  have h2 := h.n40
  omega
theorem WedOk.start {may : List (List Int)} {hus : List Int} {a : Int} {tr : List Bool} (h : WedOk may hus a tr) : WI tr.length (tr.count false) hus tr := ⟨h.hl, h.hin, rfl, Nat.le_refl _⟩
theorem WedOk.rowL {may : List (List Int)} {hus : List Int} {a : Int} {tr : List Bool} (h : WedOk may hus a tr) : (may.getD a.toNat default).length ≤ 40 := by
  have h1 := h.ml; have h2 := h.ain
  rw [List.getD_eq_getElem?_getD, List.getElem?_eq_getElem (by omega)]
  exact (h.row _ (List.getElem_mem (by omega))).1
theorem WedOk.b {may : List (List Int)} {hus : List Int} {a : Int} {tr : List Bool} (h : WedOk may hus a tr) {i : Nat} (hi : i < (may.getD a.toNat default).length) : 0 ≤ (may.getD a.toNat default).getD i default ∧ (may.getD a.toNat default).getD i default < tr.length := by
  have h1 := h.ml; have h2 := h.ain
  have e : may.getD a.toNat default = may[a.toNat]'(by omega) := by rw [List.getD_eq_getElem?_getD, List.getElem?_eq_getElem (by omega)]; rfl
  rw [e] at hi ⊢
  rw [List.getD_eq_getElem?_getD, List.getElem?_eq_getElem hi]
  exact (h.row _ (List.getElem_mem (by omega))).2 _ (List.getElem_mem hi)
theorem WedOk.call {may : List (List Int)} {hus : List Int} {a : Int} {tr : List Bool} (h : WedOk may hus a tr) {h' : List Int} {t' : List Bool} (w : WI tr.length (tr.count false) h' t') {b : Nat} (hb : b < tr.length) (hn : ¬ h'.getD b default < 0) : WedOk may h' (h'.getD b default) (t'.set b true) := by
  have e : (t'.set b true).length = tr.length := by rw [List.length_set]; exact w.tl
  exact ⟨by rw [e]; exact h.n40, by rw [e]; exact h.ml, by rw [e]; exact h.row, by rw [e]; exact w.hl, by rw [e]; exact w.hin, by rw [e]; have := w.at hb; omega⟩
structure AugOk (may : List (List Bool)) (a : Int) (met : List Bool) (of0 : List Int) : Prop where
  n40 : met.length ≤ 40
  ml : may.length = met.length
  row : ∀ y ∈ may, y.length = met.length
  hl : of0.length = met.length
  hin : ∀ y ∈ of0, -1 ≤ y ∧ y < met.length
  ain : 0 ≤ a ∧ a < met.length
theorem AugOk.fuel {may : List (List Bool)} {a : Int} {met : List Bool} {of0 : List Int} (h : AugOk may a met of0) : met.count false < 100 := by
  have h1 := List.count_le_length (a := false) (l := met)
  have h2 := h.n40
  omega
theorem AugOk.start {may : List (List Bool)} {a : Int} {met : List Bool} {of0 : List Int} (h : AugOk may a met of0) : WI met.length (met.count false) of0 met := ⟨h.hl, h.hin, rfl, Nat.le_refl _⟩
theorem AugOk.rowL {may : List (List Bool)} {a : Int} {met : List Bool} {of0 : List Int} (h : AugOk may a met of0) : (may.getD a.toNat default).length = met.length := by
  have h1 := h.ml; have h2 := h.ain
  rw [List.getD_eq_getElem?_getD, List.getElem?_eq_getElem (by omega)]
  exact h.row _ (List.getElem_mem (by omega))
theorem AugOk.call {may : List (List Bool)} {a : Int} {met : List Bool} {of0 : List Int} (h : AugOk may a met of0) {h' : List Int} {t' : List Bool} (w : WI met.length (met.count false) h' t') {b : Nat} (hb : b < met.length) (hn : ¬ h'.getD b default < 0) : AugOk may (h'.getD b default) (t'.set b true) h' := by
  have e : (t'.set b true).length = met.length := by rw [List.length_set]; exact w.tl
  exact ⟨by rw [e]; exact h.n40, by rw [e]; exact h.ml, by rw [e]; exact h.row, by rw [e]; exact w.hl, by rw [e]; exact w.hin, by rw [e]; have := w.at hb; omega⟩
end Go.Proofs.Ytkkijpibajigfaa
