import Derived.Test.YtkkijpibajigfabDoorVE3
set_option maxHeartbeats 4000000
set_option linter.unusedSimpArgs false
set_option linter.unusedVariables false
namespace Go.Proofs.YtkkijpibajigfabDoor
open Go Go.Lite Go.Proofs
/-- Both programs write the same text. -/
theorem fmtEv_eq (x : List Event) : implFmtEv x = specFmtEv x := by
  unfold implFmtEv specFmtEv
  rw [build_eq]
  cases hb : (!(specBuild x).2) with
  | true => rfl
  | false =>
    simp only [cond_false]
    refine loopN_rel0 (fun _ (s t : List UInt8) => s = t) (fun a b => a = b) rfl (fun i s t n1 n2 hi e hn => ?_) (fun s t e => e)
    subst e
    have h := (ev_sz hb hi).1
    have en := number_eq h.year.1
    have nm : nameText = l1NameOf := rfl
    have hk := h.kind
    have hs := h.sex
    revert hk hs en
    generalize x.getD i default = e
    intro en hk hs
    have k4 : e.kind = 1 ∨ e.kind = 2 ∨ e.kind = 3 ∨ e.kind = 4 := by omega
    rcases k4 with k | k | k | k
    · have s2 : e.sex = 1 ∨ e.sex = 2 := by have := hs k; omega
      rcases s2 with s2 | s2
      · rw [k, s2]; exact hn _ _ (by simp [sexWord, en, nm])
      · rw [k, s2]; exact hn _ _ (by simp [sexWord, en, nm])
    all_goals rw [k]; exact hn _ _ (by simp [en, nm])
/-- A text cut at each place of a byte. -/
def pieces (c : UInt8) : List UInt8 → List (List UInt8)
  | [] => [[]]
  | b :: r => if b = c then [] :: pieces c r else match pieces c r with
    | [] => [[b]]
    | p :: q => (b :: p) :: q
theorem pieces_miss {c : UInt8} : ∀ {s : List UInt8}, c ∉ s → pieces c s = [s]
  | [], _ => rfl
  | b :: r, h => by
    simp only [List.mem_cons, not_or] at h
    rw [pieces, if_neg (fun e => h.1 e.symm), pieces_miss h.2]
theorem pieces_hit {c : UInt8} {r : List UInt8} : ∀ {p : List UInt8}, c ∉ p → pieces c (p ++ c :: r) = p :: pieces c r
  | [], _ => by rw [List.nil_append, pieces, if_pos rfl]
  | b :: p, h => by
    simp only [List.mem_cons, not_or] at h
    rw [List.cons_append, pieces, if_neg (fun e => h.1 e.symm), pieces_hit h.2]
theorem pieces_len (c : UInt8) : ∀ (s : List UInt8), 1 ≤ (pieces c s).length ∧ (pieces c s).length ≤ s.length + 1
  | [] => ⟨Nat.le_refl _, Nat.le_refl _⟩
  | b :: r => by
    have ih := pieces_len c r
    rw [pieces]
    split
    · simp only [List.length_cons]; omega
    · split
      · simp
      · rename_i p q e
        rw [e] at ih
        simp only [List.length_cons] at ih ⊢; omega
theorem pieces_mem (c : UInt8) : ∀ (s : List UInt8), ∀ p ∈ pieces c s, p.length ≤ s.length
  | [], p, h => by simp [pieces] at h; subst h; exact Nat.le_refl _
  | b :: r, p, h => by
    have ih := pieces_mem c r
    rw [pieces] at h
    split at h
    · rcases List.mem_cons.1 h with rfl | h
      · simp
      · have := ih p h; simp only [List.length_cons]; omega
    · split at h
      · simp at h; subst h; simp
      · rename_i x q e
        rw [e] at ih
        rcases List.mem_cons.1 h with rfl | h
        · have := ih x (by simp); simp only [List.length_cons]; omega
        · have := ih p (by simp [h]); simp only [List.length_cons]; omega
theorem index_one {c : UInt8} : ∀ (s : List UInt8), (Lib.index s [c] = -1 ∧ c ∉ s) ∨ ∃ p r, s = p ++ c :: r ∧ c ∉ p ∧ Lib.index s [c] = (p.length : Int)
  | [] => .inl ⟨rfl, by simp⟩
  | b :: l => by
    by_cases e : b = c
    · subst e
      exact .inr ⟨[], l, rfl, by simp, by simp [Lib.index]⟩
    · have hp : [c].isPrefixOf (b :: l) = false := by simp [List.isPrefixOf, Ne.symm e]
      rcases index_one (c := c) l with ⟨h1, h2⟩ | ⟨p, r, h1, h2, h3⟩
      · exact .inl ⟨by simp [Lib.index, hp, h1], by simp [Ne.symm e, h2]⟩
      · refine .inr ⟨b :: p, r, by rw [h1]; rfl, by simp [Ne.symm e, h2], ?_⟩
        have : ¬ ((p.length : Int) = -1) := by omega
        simp [Lib.index, hp, h3, this]
theorem splitK_pieces {c : UInt8} : ∀ (k : Nat) (s : List UInt8), s.count c ≤ k → Lib.splitK [c] 0 k s = pieces c s
  | 0, s, h => by
    have : c ∉ s := List.count_eq_zero.1 (by omega)
    rw [Lib.splitK, pieces_miss this]
  | k + 1, s, h => by
    rcases index_one (c := c) s with ⟨h1, h2⟩ | ⟨p, r, h1, h2, h3⟩
    · rw [Lib.splitK, h1, pieces_miss h2]; rfl
    · have hne : ¬ ((p.length : Int) == -1) = true := by simp
      have hc : s.count c = r.count c + 1 := by rw [h1, List.count_append, List.count_cons_self, List.count_eq_zero.2 h2]; omega
      rw [Lib.splitK, h3, if_neg hne, h1, pieces_hit h2, ← splitK_pieces k r (by omega)]
      congr 1
      · simp
      · congr 1; simp
theorem splitB_pieces (s : List UInt8) (c : UInt8) : (Lib.splitB ⟨#[c]⟩ 0 (Lib.countB ⟨s.toArray⟩ ⟨#[c]⟩) ⟨s.toArray⟩).map Value.string = (pieces c s).map fun x => Value.string ⟨x.toArray⟩ := by
  have h := Lib.splitB_data ⟨#[c]⟩ 0 (Lib.countB ⟨s.toArray⟩ ⟨#[c]⟩) ⟨s.toArray⟩
  have e : Lib.countB ⟨s.toArray⟩ ⟨#[c]⟩ = s.count c := by
    show Lib.count s.toArray.toList [c] = _
    rw [Lib.count_one]
  have h2 : Lib.splitK [c] 0 (s.count c) s = pieces c s := splitK_pieces _ _ (Nat.le_refl _)
  rw [e] at h ⊢
  have h3 : (Lib.splitB ⟨#[c]⟩ 0 (s.count c) ⟨s.toArray⟩).map (fun x => x.data.toList) = pieces c s := h.trans h2
  rw [← h3, List.map_map]
  rfl
theorem pieces_count (s : List UInt8) (c : UInt8) : Lib.countB ⟨s.toArray⟩ ⟨#[c]⟩ + 1 = (pieces c s).length := by
  have h := congrArg List.length (splitB_pieces s c)
  rw [List.length_map, List.length_map, Lib.splitB_all ⟨#[c]⟩ (Nat.le_refl 1) 0 _ ⟨s.toArray⟩ rfl] at h
  exact h
end Go.Proofs.YtkkijpibajigfabDoor
