import Derived.Test.YtkkijpibajigfabDoorVP5
set_option maxHeartbeats 4000000
set_option linter.unusedSimpArgs false
set_option linter.unusedVariables false
namespace Go.Proofs.YtkkijpibajigfabDoor
open Go Go.Lite Go.Proofs
/-! A line read by both ways. -/
theorem line_both (p : List Person) (l : List UInt8) :
    ((readEv (Family.mk p []) l).2.1 = true → (l11Line (Family.mk p []) l).2 = true ∧ ((readEv (Family.mk p []) l).1.kind = 1 ∧ (readEv (Family.mk p []) l).1.sex = 0 ∨ (l11Line (Family.mk p []) l).1 = (readEv (Family.mk p []) l).1)) ∧
    ((l11Line (Family.mk p []) l).2 = true → 0 ≤ (l11Line (Family.mk p []) l).1.year → (readEv (Family.mk p []) l).2.1 = true ∧ ((l1Split l 32).length = 6 ∧ readSex ((l1Split l 32).getD 3 default) = 0 ∨ (l11Line (Family.mk p []) l).1 = (readEv (Family.mk p []) l).1)) ∧
    ((readEv (Family.mk p []) l).2.1 = true → (readEv (Family.mk p []) l).2.2.1 = bif decide ((readEv (Family.mk p []) l).1.kind = 1) then p ++ [Person.mk (readEv (Family.mk p []) l).1.name 0 0 0 0 0] else p) := by
  have es : splitS l [32] = l1Split l 32 := split_eq l 32
  have e1 : findP = l1Find := rfl
  have e2 : readPar = l1Index := rfl
  unfold readEv l11Line
  rw [es, e1, e2, readYear_eq]
  generalize l1Split l 32 = w
  have hM : (w.getD 3 default == [109, 97, 110]) = true → (w.getD 3 default == [119, 111, 109, 97, 110]) = false := fun h => by
    rw [eq_of_beq h]; rfl
  unfold readSex
  revert hM
  generalize (w.getD 3 default == [109, 97, 110]) = M
  generalize (w.getD 3 default == [119, 111, 109, 97, 110]) = X
  intro hM
  rw [Bool.and_comm (w.getD 1 default == [98, 111, 114, 110]), Bool.and_comm (w.getD 1 default == [117, 110, 105, 111, 110] || _), Bool.and_comm (w.getD 1 default == [100, 105, 101, 100])]
  have hC : (decide (((w.length : Nat) : Int) = 6) && (w.getD 1 default == [98, 111, 114, 110])) = true → w.length = 6 := fun h => by
    simp only [Bool.and_eq_true, decide_eq_true_eq] at h; omega
  revert hC
  generalize (decide (((w.length : Nat) : Int) = 6) && (w.getD 1 default == [98, 111, 114, 110])) = CB
  intro hC
  generalize (decide (((w.length : Nat) : Int) = 4) && ((w.getD 1 default == [117, 110, 105, 111, 110]) || (w.getD 1 default == [112, 97, 114, 116, 101, 100]))) = DU
  generalize (decide (((w.length : Nat) : Int) = 3) && (w.getD 1 default == [100, 105, 101, 100])) = FE
  generalize (w.getD 1 default == [112, 97, 114, 116, 101, 100]) = P
  generalize decide (((w.length : Nat) : Int) < 3) = A
  generalize l1Read (w.getD 0 default) = y
  generalize l1Index _ (w.getD 4 default) = a4
  generalize l1Index _ (w.getD 5 default) = a5
  generalize l1Find _ (w.getD 2 default) = a2
  generalize l1Find _ (w.getD 3 default) = a3
  by_cases hy : 0 ≤ y
  · rw [decide_eq_true hy]
    cases A
    · cases CB
      · cases DU
        · cases FE <;> simp +contextual
        · cases P <;> simp +contextual
      · have hC := hC rfl
        cases M
        · cases X <;> simp +contextual [hC]
        · have := hM rfl; subst this; simp +contextual
    · simp
  · rw [decide_eq_false hy]
    cases A
    · cases CB
      · cases DU
        · cases FE <;> simp [hy]
        · cases P <;> simp [hy]
      · cases X <;> simp [hy]
    · simp
theorem readEv_un (x : Family) (l : List UInt8) : (readEv x l).2.2.2 = x.unions := by
  unfold readEv
  repeat' refine cond_both (p := fun (r : Event × Bool × List Person × List Union) => r.2.2.2 = x.unions) (fun _ => ?_) (fun _ => ?_)
  all_goals rfl
/-! The lines one after another. -/
def runI : List (List UInt8) → List Event → List Person → Option (List Event)
  | [], o, _ => some o
  | l :: ls, o, p => bif !((readEv (Family.mk p []) l).2.1) then none else runI ls (o ++ [(readEv (Family.mk p []) l).1]) (readEv (Family.mk p []) l).2.2.1
def runS : List (List UInt8) → List Event → List Person → Option (List Event)
  | [], o, _ => some o
  | l :: ls, o, p => bif !((l11Line (Family.mk p []) l).2) then none else runS ls (o ++ [(l11Line (Family.mk p []) l).1]) (bif decide ((l11Line (Family.mk p []) l).1.kind = 1) then p ++ [Person.mk (l11Line (Family.mk p []) l).1.name 0 0 0 0 0] else p)
theorem runI_mem : ∀ (ls : List (List UInt8)) (o : List Event) (p : List Person) (r : List Event), runI ls o p = some r → ∀ e ∈ o, e ∈ r
  | [], o, p, r, h, e, he => by cases h; exact he
  | l :: ls, o, p, r, h, e, he => by
    rw [runI] at h
    cases c : (readEv (Family.mk p []) l).2.1 with
    | false => rw [c] at h; cases h
    | true => rw [c] at h; exact runI_mem ls _ _ r h e (List.mem_append_left _ he)
theorem runS_mem : ∀ (ls : List (List UInt8)) (o : List Event) (p : List Person) (r : List Event), runS ls o p = some r → ∀ e ∈ o, e ∈ r
  | [], o, p, r, h, e, he => by cases h; exact he
  | l :: ls, o, p, r, h, e, he => by
    rw [runS] at h
    cases c : (l11Line (Family.mk p []) l).2 with
    | false => rw [c] at h; cases h
    | true => rw [c] at h; exact runS_mem ls _ _ r h e (List.mem_append_left _ he)
theorem run_to : ∀ (ls : List (List UInt8)) (o : List Event) (p : List Person) (r : List Event), runI ls o p = some r → (∀ e ∈ r, ¬ (e.kind = 1 ∧ e.sex = 0)) → runS ls o p = some r
  | [], o, p, r, h, _ => h
  | l :: ls, o, p, r, h, hr => by
    obtain ⟨b1, _, b3⟩ := line_both p l
    rw [runI] at h
    cases c : (readEv (Family.mk p []) l).2.1 with
    | false => rw [c] at h; cases h
    | true =>
      rw [c] at h
      have h : runI ls (o ++ [(readEv (Family.mk p []) l).1]) (readEv (Family.mk p []) l).2.2.1 = some r := h
      obtain ⟨d1, d2⟩ := b1 c
      have e := d2.resolve_left (hr _ (runI_mem ls _ _ r h _ (List.mem_append_right _ (List.mem_singleton.2 rfl))))
      rw [runS, d1, e]
      rw [b3 c] at h
      exact run_to ls _ _ r h hr
theorem run_back : ∀ (ls : List (List UInt8)) (o : List Event) (p : List Person) (r : List Event), runS ls o p = some r → (∀ e ∈ r, 0 ≤ e.year) → (∀ l ∈ ls, ¬ ((l1Split l 32).length = 6 ∧ readSex ((l1Split l 32).getD 3 default) = 0)) → runI ls o p = some r
  | [], o, p, r, h, _, _ => h
  | l :: ls, o, p, r, h, hr, hl => by
    obtain ⟨_, b2, b3⟩ := line_both p l
    rw [runS] at h
    cases c : (l11Line (Family.mk p []) l).2 with
    | false => rw [c] at h; cases h
    | true =>
      rw [c] at h
      have h : runS ls (o ++ [(l11Line (Family.mk p []) l).1]) (bif decide ((l11Line (Family.mk p []) l).1.kind = 1) then p ++ [Person.mk (l11Line (Family.mk p []) l).1.name 0 0 0 0 0] else p) = some r := h
      obtain ⟨d1, d2⟩ := b2 c (hr _ (runS_mem ls _ _ r h _ (List.mem_append_right _ (List.mem_singleton.2 rfl))))
      have e := d2.resolve_left (hl l (List.mem_cons_self ..))
      rw [runI, d1, b3 d1, ← e]
      exact run_back ls _ _ r h hr fun l' h' => hl l' (List.mem_cons_of_mem _ h')
/-- What is done with what was read. -/
def fine (s : List UInt8) (o : List Event) : Bool := (specBuild o).2 && (specFmtEv o == s)
def fin (s : List UInt8) : Option (List Event) → List Event × Bool
  | none => ([], false)
  | some o => bif fine s o then (o, true) else ([], false)
theorem fin_cond (s : List UInt8) (o : List Event) : (bif ((!((specBuild o).2)) || (!((specFmtEv o) == s))) then (([] : List Event), false) else (o, true)) = fin s (some o) := by
  show _ = bif fine s o then (o, true) else ([], false)
  unfold fine
  cases (specBuild o).2 <;> cases (specFmtEv o == s) <;> rfl
theorem fin_same {s : List UInt8} {a b : Option (List Event)} (h : ∀ o, fine s o = true → (a = some o ↔ b = some o)) : fin s a = fin s b := by
  have one : ∀ {a b : Option (List Event)}, (∀ o, fine s o = true → (a = some o ↔ b = some o)) → ∀ o, a = some o → fine s o = true → fin s a = fin s b := fun h o e f => by rw [(h o f).1 e, e]
  have no : ∀ {a : Option (List Event)}, (∀ o, a = some o → fine s o = false) → fin s a = ([], false) := fun {a} h => by
    cases a with
    | none => rfl
    | some o =>
      show (bif fine s o then (o, true) else ([], false)) = ([], false)
      rw [h o rfl]; rfl
  by_cases ha : ∃ o, a = some o ∧ fine s o = true
  · obtain ⟨o, e, f⟩ := ha; exact one h o e f
  · by_cases hb : ∃ o, b = some o ∧ fine s o = true
    · obtain ⟨o, e, f⟩ := hb; exact (one (fun o f => (h o f).symm) o e f).symm
    · rw [no fun o e => by cases c : fine s o with
        | false => rfl
        | true => exact absurd ⟨o, e, c⟩ ha, no fun o e => by cases c : fine s o with
        | false => rfl
        | true => exact absurd ⟨o, e, c⟩ hb]
theorem getD_drop {α : Type} {l : List α} {i : Nat} {d : α} (h : i < l.length) : l.drop i = l.getD i d :: l.drop (i + 1) := by
  rw [List.getD_eq_getElem?_getD, List.getElem?_eq_getElem h]; exact List.drop_eq_getElem_cons h
theorem implParEv_val (s : List UInt8) : implParEv s = bif ((!((textLines s).2)) || (decide (200 < ((((textLines s).1).length : Nat) : Int)))) then (([] : List Event), false) else fin s (runI (textLines s).1 [] []) := by
  unfold implParEv
  simp only [build_eq, fmtEv_eq, fin_cond]
  generalize (textLines s).1 = ls
  have go : ∀ (m i : Nat) (v : List Event × List Person × List Union), i + m = ls.length → v.2.2 = [] →
      loopN (fun i1 (v1 : (List Event) × (List Person) × (List Union)) next => bif (!((readEv (Family.mk v1.2.1 v1.2.2) (ls.getD i1 default)).2.1)) then (([] : List Event), false) else (next ((v1.1 ++ [((readEv (Family.mk v1.2.1 v1.2.2) (ls.getD i1 default)).1)]), (readEv (Family.mk v1.2.1 v1.2.2) (ls.getD i1 default)).2.2.1, (readEv (Family.mk v1.2.1 v1.2.2) (ls.getD i1 default)).2.2.2))) (fun (v1 : (List Event) × (List Person) × (List Union)) => fin s (some v1.1)) m i v = fin s (runI (ls.drop i) v.1 v.2.1) := by
    intro m
    induction m with
    | zero => intro i v hi hv; rw [List.drop_of_length_le (by omega)]; rfl
    | succ m ih =>
      intro i v hi hv
      obtain ⟨v1, v2, v3⟩ := v
      simp only at hv; subst hv
      rw [getD_drop (d := default) (by omega), runI]
      simp only [loopN]
      cases (readEv (Family.mk v2 []) (ls.getD i default)).2.1 with
      | false => rfl
      | true => simp only [Bool.not_true, cond_false]; exact ih (i + 1) _ (by omega) (readEv_un _ _)
  rw [go ls.length 0 _ (by omega) rfl]; rfl
theorem specParEv_val (s : List UInt8) : specParEv s = bif (decide (201 < (((l1Split s 10).length : Nat) : Int))) then (([] : List Event), false) else fin s (runS (l1Split s 10).dropLast [] []) := by
  have h1 := (l1Split_len10 s).1
  unfold specParEv
  simp only [fin_cond]
  revert h1
  generalize l1Split s 10 = ls
  intro h1
  have go : ∀ (m i : Nat) (v : List Event × List Person), i + m = ls.length → 1 ≤ m →
      loopN (fun i1 (v1 : (List Event) × (List Person)) next => bif (decide (((i1 : Nat) : Int) = (((ls.length : Nat) : Int) - 1))) then fin s (some v1.1) else (bif (!((l11Line (Family.mk v1.2 ([] : List Union)) (ls.getD i1 default)).2)) then (([] : List Event), false) else (bif (decide ((((l11Line (Family.mk v1.2 ([] : List Union)) (ls.getD i1 default)).1).kind) = 1)) then (next ((v1.1 ++ [((l11Line (Family.mk v1.2 ([] : List Union)) (ls.getD i1 default)).1)]), (v1.2 ++ [(Person.mk (((l11Line (Family.mk v1.2 ([] : List Union)) (ls.getD i1 default)).1).name) 0 0 0 0 0)]))) else (next ((v1.1 ++ [((l11Line (Family.mk v1.2 ([] : List Union)) (ls.getD i1 default)).1)]), v1.2))))) (fun (v1 : (List Event) × (List Person)) => fin s (some v1.1)) m i v = fin s (runS (ls.dropLast.drop i) v.1 v.2) := by
    intro m
    induction m with
    | zero => intro i v hi hm; omega
    | succ m ih =>
      intro i v hi hm
      obtain ⟨v1, v2⟩ := v
      simp only [loopN]
      have hl : ls.dropLast.length = ls.length - 1 := List.length_dropLast
      by_cases c : ((i : Nat) : Int) = ((ls.length : Nat) : Int) - 1
      · rw [decide_eq_true c, List.drop_of_length_le (by omega)]; rfl
      · have hd : ls.dropLast.getD i default = ls.getD i default := by
          rw [List.getD_eq_getElem?_getD, List.getD_eq_getElem?_getD, List.getElem?_dropLast, if_pos (by omega)]
        rw [decide_eq_false c, getD_drop (d := default) (by omega), runS, hd]
        simp only [cond_false]
        cases (l11Line (Family.mk v2 []) (ls.getD i default)).2 with
        | false => rfl
        | true =>
          simp only [Bool.not_true, cond_false]
          cases decide ((l11Line (Family.mk v2 []) (ls.getD i default)).1.kind = 1) with
          | true => exact ih (i + 1) _ (by omega) (by omega)
          | false => exact ih (i + 1) _ (by omega) (by omega)
  rw [go ls.length 0 _ (by omega) h1]; rfl
end Go.Proofs.YtkkijpibajigfabDoor
