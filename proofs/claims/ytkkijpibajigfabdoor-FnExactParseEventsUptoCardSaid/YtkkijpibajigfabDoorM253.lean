import Derived.Test.YtkkijpibajigfabDoorM252
set_option maxHeartbeats 4000000
set_option linter.unusedSimpArgs false
set_option linter.unusedVariables false
namespace Go.Proofs.YtkkijpibajigfabDoor
open Go Go.Lite Go.Proofs
/-! The text that is written, line by line. -/
def lineOf (f : Family) (e : Event) : List UInt8 :=
  bif decide (e.kind = 1) then (bif decide (e.sex = 2) then (((((((l1Number e.year) ++ [32, 98, 111, 114, 110, 32]) ++ e.name) ++ [32, 119, 111, 109, 97, 110, 32]) ++ (l1NameOf f e.a)) ++ [32]) ++ (l1NameOf f e.b)) else (((((((l1Number e.year) ++ [32, 98, 111, 114, 110, 32]) ++ e.name) ++ [32, 109, 97, 110, 32]) ++ (l1NameOf f e.a)) ++ [32]) ++ (l1NameOf f e.b)))
  else (bif decide (e.kind = 2) then (((((l1Number e.year) ++ [32, 117, 110, 105, 111, 110, 32]) ++ (l1NameOf f e.a)) ++ [32]) ++ (l1NameOf f e.b))
  else (bif decide (e.kind = 3) then (((((l1Number e.year) ++ [32, 112, 97, 114, 116, 101, 100, 32]) ++ (l1NameOf f e.a)) ++ [32]) ++ (l1NameOf f e.b))
  else (((l1Number e.year) ++ [32, 100, 105, 101, 100, 32]) ++ (l1NameOf f e.a))))
theorem fmt_lines {x : List Event} (hb : (specBuild x).2 = true) : specFmtEv x = ((x.map (lineOf (specBuild x).1)).map (· ++ [10])).flatten := by
  unfold specFmtEv
  rw [hb]
  simp only [Bool.not_true, cond_false]
  refine loopN_to (fun i (v : List UInt8) => v = (((x.take i).map (lineOf (specBuild x).1)).map (· ++ [10])).flatten) (fun r => r = ((x.map (lineOf (specBuild x).1)).map (· ++ [10])).flatten) (by simp) (fun i v next hi hv hn => ?_) (fun v hv => by rw [hv, List.take_of_length_le (Nat.le_refl _)])
  have key : ∀ v', v' = v ++ lineOf (specBuild x).1 (x.getD i default) ++ [10] → next v' = ((x.map (lineOf (specBuild x).1)).map (· ++ [10])).flatten := fun v' e => hn _ (by
    rw [e, hv]
    simp only [List.take_add_one, List.getElem?_eq_getElem hi, Option.toList_some, List.map_append, List.flatten_append, List.map_cons, List.map_nil, List.flatten_cons, List.flatten_nil, List.append_nil, List.getD_eq_getElem?_getD, Option.getD_some, List.append_assoc])
  have e : ∀ X, X = lineOf (specBuild x).1 (x.getD i default) → next (v ++ X ++ [10]) = ((x.map (lineOf (specBuild x).1)).map (· ++ [10])).flatten := fun X h => key _ (by rw [h])
  revert e
  unfold lineOf
  generalize ((x.map _).map _).flatten = Z
  intro e
  cases h1 : decide ((x.getD i default).kind = 1) with
  | true => cases h2 : decide ((x.getD i default).sex = 2) <;> exact e _ (by rw [h1, h2]; rfl)
  | false => cases h2 : decide ((x.getD i default).kind = 2) with
    | true => exact e _ (by rw [h1, h2]; rfl)
    | false => cases h3 : decide ((x.getD i default).kind = 3) <;> exact e _ (by rw [h1, h2, h3]; rfl)
/-- No space, no end of line. -/
def Wd (s : List UInt8) : Prop := (10 : UInt8) ∉ s ∧ (32 : UInt8) ∉ s
theorem wd_of {s : List UInt8} (h : ∀ b ∈ s, 33 ≤ b.toNat) : Wd s := ⟨fun hm => absurd (h _ hm) (by decide), fun hm => absurd (h _ hm) (by decide)⟩
theorem wd_num {y : Int} (h : 0 ≤ y ∧ y ≤ 9999) : Wd (l1Number y) := by
  rw [number_eq h.1]
  refine wd_of fun b hb => ?_
  have := ((decDigits_is (y.toNat + 1) y.toNat (Nat.lt_succ_self _)).2.1 b hb).1
  omega
theorem wd_name {s : List UInt8} (h : specIsName s = true) : Wd s := by
  unfold specIsName at h
  rw [loopN_all] at h
  simp only [or_f_iff, decide_eq_false_iff_not] at h
  refine wd_of fun b hb => ?_
  obtain ⟨k, hk, e⟩ := mem_getD (d := 0) hb
  have := (h.1 k hk).1
  rw [e] at this; omega
theorem wd_nameOf {f : Family} (hf : specIsFamily f = true) (a : Int) : Wd (l1NameOf f a) := by
  unfold l1NameOf
  refine cond_both (p := fun (r : List UInt8) => Wd r) (fun _ => wd_of (by decide)) (fun _ => ?_)
  by_cases c : a.toNat < f.people.length
  · exact wd_name (fam_p hf c).name
  · rw [List.getD_eq_getElem?_getD, List.getElem?_eq_none (by omega)]; exact ⟨List.not_mem_nil, List.not_mem_nil⟩
theorem line_good {x : List Event} (hb : (specBuild x).2 = true) {e : Event} (he : e ∈ x) :
    (10 : UInt8) ∉ lineOf (specBuild x).1 e ∧ ¬ ((l1Split (lineOf (specBuild x).1 e) 32).length = 6 ∧ readSex ((l1Split (lineOf (specBuild x).1 e) 32).getD 3 default) = 0) ∧ 0 ≤ e.year ∧ ¬ (e.kind = 1 ∧ e.sex = 0) := by
  obtain ⟨hf, hk⟩ := build_kept x hb
  obtain ⟨i, hi, e1⟩ := mem_getD (d := default) he
  have hs := build_sane hb hi
  have hk := (hk i hi).2
  rw [e1] at hs hk
  have wn : e.kind = 1 → Wd e.name := fun k => by
    cases hk with
    | birth h j hj h1 => rw [← h1]; exact wd_name (fam_p hf hj).name
    | union h => omega
    | parting h => omega
    | death h => omega
  have w0 := wd_num hs.year
  have wa := wd_nameOf hf e.a
  have wb := wd_nameOf hf e.b
  have sp : ∀ t, l1Split t 32 = pieces 32 t := fun t => l1Split_eq t 32
  refine ⟨?_, ?_, hs.year.1, fun h => by have := hs.sex h.1; omega⟩
  · unfold lineOf
    have w1 := wa.1; have w2 := wb.1; have w3 := w0.1
    refine cond_both (p := fun (r : List UInt8) => (10 : UInt8) ∉ r) (fun k => ?_) (fun _ => ?_)
    · have w4 := (wn (of_decide_eq_true k)).1
      exact cond_both (p := fun (r : List UInt8) => (10 : UInt8) ∉ r) (fun _ => by simp [w1, w2, w3, w4]) (fun _ => by simp [w1, w2, w3, w4])
    · refine cond_both (p := fun (r : List UInt8) => (10 : UInt8) ∉ r) (fun _ => by simp [w1, w2, w3]) (fun _ => ?_)
      exact cond_both (p := fun (r : List UInt8) => (10 : UInt8) ∉ r) (fun _ => by simp [w1, w2, w3]) (fun _ => by simp [w1, w3])
  · unfold lineOf
    have w1 := wa.2; have w2 := wb.2; have w3 := w0.2
    refine cond_both (p := fun (r : List UInt8) => ¬ ((l1Split r 32).length = 6 ∧ readSex ((l1Split r 32).getD 3 default) = 0)) (fun k => ?_) (fun _ => ?_)
    · have w4 := (wn (of_decide_eq_true k)).2
      refine cond_both (p := fun (r : List UInt8) => ¬ ((l1Split r 32).length = 6 ∧ readSex ((l1Split r 32).getD 3 default) = 0)) (fun _ => ?_) (fun _ => ?_)
      · rw [show ((((((l1Number e.year ++ [32, 98, 111, 114, 110, 32]) ++ e.name) ++ [32, 119, 111, 109, 97, 110, 32]) ++ l1NameOf (specBuild x).1 e.a) ++ [32]) ++ l1NameOf (specBuild x).1 e.b) = l1Number e.year ++ 32 :: ([98, 111, 114, 110] ++ 32 :: (e.name ++ 32 :: ([119, 111, 109, 97, 110] ++ 32 :: (l1NameOf (specBuild x).1 e.a ++ 32 :: l1NameOf (specBuild x).1 e.b)))) by simp,
          sp, pieces_hit w3, pieces_hit (by decide), pieces_hit w4, pieces_hit (by decide), pieces_hit w1, pieces_miss w2]
        exact fun h => absurd h.2 (show ¬ readSex [119, 111, 109, 97, 110] = 0 by decide)
      · rw [show ((((((l1Number e.year ++ [32, 98, 111, 114, 110, 32]) ++ e.name) ++ [32, 109, 97, 110, 32]) ++ l1NameOf (specBuild x).1 e.a) ++ [32]) ++ l1NameOf (specBuild x).1 e.b) = l1Number e.year ++ 32 :: ([98, 111, 114, 110] ++ 32 :: (e.name ++ 32 :: ([109, 97, 110] ++ 32 :: (l1NameOf (specBuild x).1 e.a ++ 32 :: l1NameOf (specBuild x).1 e.b)))) by simp,
          sp, pieces_hit w3, pieces_hit (by decide), pieces_hit w4, pieces_hit (by decide), pieces_hit w1, pieces_miss w2]
        exact fun h => absurd h.2 (show ¬ readSex [109, 97, 110] = 0 by decide)
    · refine cond_both (p := fun (r : List UInt8) => ¬ ((l1Split r 32).length = 6 ∧ readSex ((l1Split r 32).getD 3 default) = 0)) (fun _ => ?_) (fun _ => ?_)
      · rw [show ((((l1Number e.year ++ [32, 117, 110, 105, 111, 110, 32]) ++ l1NameOf (specBuild x).1 e.a) ++ [32]) ++ l1NameOf (specBuild x).1 e.b) = l1Number e.year ++ 32 :: ([117, 110, 105, 111, 110] ++ 32 :: (l1NameOf (specBuild x).1 e.a ++ 32 :: l1NameOf (specBuild x).1 e.b)) by simp,
          sp, pieces_hit w3, pieces_hit (by decide), pieces_hit w1, pieces_miss w2]
        exact fun h => absurd h.1 (by simp)
      · refine cond_both (p := fun (r : List UInt8) => ¬ ((l1Split r 32).length = 6 ∧ readSex ((l1Split r 32).getD 3 default) = 0)) (fun _ => ?_) (fun _ => ?_)
        · rw [show ((((l1Number e.year ++ [32, 112, 97, 114, 116, 101, 100, 32]) ++ l1NameOf (specBuild x).1 e.a) ++ [32]) ++ l1NameOf (specBuild x).1 e.b) = l1Number e.year ++ 32 :: ([112, 97, 114, 116, 101, 100] ++ 32 :: (l1NameOf (specBuild x).1 e.a ++ 32 :: l1NameOf (specBuild x).1 e.b)) by simp,
            sp, pieces_hit w3, pieces_hit (by decide), pieces_hit w1, pieces_miss w2]
          exact fun h => absurd h.1 (by simp)
        · rw [show ((l1Number e.year ++ [32, 100, 105, 101, 100, 32]) ++ l1NameOf (specBuild x).1 e.a) = l1Number e.year ++ 32 :: ([100, 105, 101, 100] ++ 32 :: l1NameOf (specBuild x).1 e.a) by simp,
            sp, pieces_hit w3, pieces_hit (by decide), pieces_miss w1]
          exact fun h => absurd h.1 (by simp)
/-! A text of lines. -/
theorem pieces_lines : ∀ (ls : List (List UInt8)), (∀ l ∈ ls, (10 : UInt8) ∉ l) → pieces 10 ((ls.map (· ++ [10])).flatten) = ls ++ [[]]
  | [], _ => rfl
  | l :: ls, h => by
    rw [List.map_cons, List.flatten_cons, List.append_assoc, List.singleton_append, pieces_hit (h l (List.mem_cons_self ..)), pieces_lines ls fun l' h' => h l' (List.mem_cons_of_mem _ h')]; rfl
theorem lines_end : ∀ (ls : List (List UInt8)), ls ≠ [] → ∃ t, (ls.map (· ++ [10])).flatten = t ++ [(10 : UInt8)]
  | [l], _ => ⟨l, by simp⟩
  | l :: l2 :: ls, _ => by
    obtain ⟨t, h⟩ := lines_end (l2 :: ls) (by simp)
    exact ⟨l ++ [10] ++ t, by rw [List.map_cons, List.flatten_cons, h]; simp⟩
theorem pieces_snoc (c : UInt8) : ∀ t : List UInt8, pieces c (t ++ [c]) = pieces c t ++ [[]]
  | [] => by simp [pieces]
  | b :: t => by
    have ih := pieces_snoc c t
    have h1 := (pieces_len c t).1
    rw [List.cons_append, pieces, pieces, ih]
    by_cases e : b = c
    · rw [if_pos e, if_pos e]; rfl
    · rw [if_neg e, if_neg e]
      cases hp : pieces c t with
      | nil => rw [hp] at h1; simp at h1
      | cons p q => rfl
theorem hasSuf_snoc (t : List UInt8) : hasSuf (t ++ [10]) [10] = true := by
  unfold hasSuf slSuf
  have e : ((((t ++ [(10 : UInt8)]).length : Nat) : Int) - (([(10 : UInt8)].length : Nat) : Int)).toNat = t.length := by simp
  rw [e]
  simp; omega
theorem textLines_lines (ls : List (List UInt8)) : (textLines ((ls.map (· ++ [10])).flatten)).2 = true := by
  by_cases h : ls = []
  · subst h; rfl
  · obtain ⟨t, e⟩ := lines_end ls h
    rw [e]
    unfold textLines
    refine cond_both (p := fun (r : List (List UInt8) × Bool) => r.2 = true) (fun _ => rfl) (fun _ => ?_)
    rw [hasSuf_snoc]; rfl
theorem textLines_split (s : List UInt8) (h : (textLines s).2 = true) : l1Split s 10 = (textLines s).1 ++ [[]] := by
  have sp : l1Split s 10 = pieces 10 s := l1Split_eq s 10
  rw [sp]
  by_cases h0 : s = []
  · subst h0; rfl
  · have hs : ∃ t, s = t ++ [10] := by
      unfold textLines at h
      rw [show (s == ([] : List UInt8)) = false by simpa using h0] at h
      cases c : hasSuf s [10] with
      | false => rw [c] at h; cases h
      | true =>
        unfold hasSuf slSuf at c
        simp only [Bool.and_eq_true, decide_eq_true_eq, beq_iff_eq] at c
        obtain ⟨c1, c2⟩ := c
        have e : (((s.length : Nat) : Int) - (([(10 : UInt8)].length : Nat) : Int)).toNat = s.length - 1 := by simp only [List.length_singleton]; omega
        rw [e] at c2
        rw [List.take_of_length_le (by rw [List.length_drop]; exact Nat.le_refl _)] at c2
        exact ⟨s.take (s.length - 1), by rw [← c2, List.take_append_drop]⟩
    obtain ⟨t, rfl⟩ := hs
    rw [pieces_snoc]
    unfold textLines
    rw [hasSuf_snoc, show ((t ++ [(10 : UInt8)]) == ([] : List UInt8)) = false by simp]
    simp only [Bool.not_true, cond_false]
    have e : List.take (((((t ++ [(10 : UInt8)]).length : Nat) : Int) - 1).toNat - 0) (List.drop 0 (t ++ [10])) = t := by
      rw [show ((((t ++ [(10 : UInt8)]).length : Nat) : Int) - 1).toNat - 0 = t.length by simp]
      simp
    rw [e]; rfl
/-- What the reference reads from a text the program reads. -/
theorem fine_back {s : List UInt8} {o : List Event} (hf : fine s o = true) (h : runS (l1Split s 10).dropLast [] [] = some o) : (textLines s).2 = true ∧ runI (l1Split s 10).dropLast [] [] = some o := by
  unfold fine at hf
  simp only [Bool.and_eq_true, beq_iff_eq] at hf
  obtain ⟨hb, he⟩ := hf
  rw [fmt_lines hb] at he
  have hl : l1Split s 10 = (o.map (lineOf (specBuild o).1)) ++ [[]] := by
    rw [← he, show l1Split ((List.map (· ++ [10]) (o.map (lineOf (specBuild o).1))).flatten) 10 = pieces 10 ((List.map (· ++ [10]) (o.map (lineOf (specBuild o).1))).flatten) from l1Split_eq _ 10]
    refine pieces_lines _ fun l hm => ?_
    obtain ⟨e, h1, rfl⟩ := List.mem_map.1 hm
    exact (line_good hb h1).1
  refine ⟨by rw [← he]; exact textLines_lines _, run_back _ _ _ _ h (fun e h1 => (line_good hb h1).2.2.1) fun l hm => ?_⟩
  rw [hl, List.dropLast_concat] at hm
  obtain ⟨e, h1, rfl⟩ := List.mem_map.1 hm
  exact (line_good hb h1).2.1
/-- Both programs read the same. -/
theorem parEv_eq (s : List UInt8) : implParEv s = specParEv s := by
  rw [implParEv_val, specParEv_val]
  cases ht : (textLines s).2 with
  | true =>
    have e := textLines_split s ht
    rw [e, List.dropLast_concat, List.length_append, List.length_singleton]
    have c : decide (201 < ((((textLines s).1.length + 1 : Nat)) : Int)) = decide (200 < (((textLines s).1.length : Nat) : Int)) := by
      by_cases h : 200 < (((textLines s).1.length : Nat) : Int)
      · rw [decide_eq_true h, decide_eq_true (by omega)]
      · rw [decide_eq_false h, decide_eq_false (by omega)]
    rw [c, Bool.not_true, Bool.false_or]
    refine congrArg (fun r => bif decide (200 < (((textLines s).1.length : Nat) : Int)) then (([] : List Event), false) else r) (fin_same fun o hf => ⟨fun h => run_to _ _ _ _ h fun x hx => ?_, fun h => ?_⟩)
    · have hb : (specBuild o).2 = true := by
        unfold fine at hf; simp only [Bool.and_eq_true] at hf; exact hf.1
      exact (line_good hb hx).2.2.2
    · have := (fine_back hf (by rw [e, List.dropLast_concat]; exact h)).2
      rwa [e, List.dropLast_concat] at this
  | false =>
    rw [Bool.not_false, Bool.true_or, cond_true]
    refine Eq.symm (cond_both (p := fun (r : List Event × Bool) => r = ([], false)) (fun _ => rfl) (fun _ => ?_))
    have e : fin s (none : Option (List Event)) = ([], false) := rfl
    rw [← e]
    refine fin_same fun o hf => ⟨fun h => ?_, fun h => by cases h⟩
    have := (fine_back hf h).1
    rw [ht] at this; cases this
theorem parEv_len (s : List UInt8) : (implParEv s).1.length ≤ 200 := by
  rw [parEv_eq, specParEv_val]
  refine cond_both (p := fun (r : List Event × Bool) => r.1.length ≤ 200) (fun _ => Nat.zero_le _) (fun _ => ?_)
  cases runS (l1Split s 10).dropLast [] [] with
  | none => exact Nat.zero_le _
  | some o =>
    refine cond_both (p := fun (r : List Event × Bool) => r.1.length ≤ 200) (fun c => ?_) (fun _ => Nat.zero_le _)
    unfold fine at c
    simp only [Bool.and_eq_true] at c
    refine Nat.le_of_not_lt fun h => ?_
    have := over200 o h
    rw [this] at c; exact absurd c.1 (by decide)
end Go.Proofs.YtkkijpibajigfabDoor
