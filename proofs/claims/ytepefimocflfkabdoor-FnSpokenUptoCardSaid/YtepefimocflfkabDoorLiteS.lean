/- Rows that are exchanged, and the functions of package reflectlite that the model stands in for, at slices. Conditions: none; over any program. -/
import Derived.Test.YtepefimocflfkabDoorLiteZ
import Derived.Laws.Externs
import GoSem.Extern.ReflectliteSwapper
set_option linter.unusedVariables false
set_option linter.unusedSimpArgs false
namespace Go.Lite
open Go Go.RowKit

section
variable {P : Program} {w : World} {B : Nat} {X : Nat → Prop} {E : Env}
end

/-! ### Elements are exchanged -/
def gi {α : Type} [Inhabited α] (l : List α) (i : Int) : α := l.getD i.toNat default
section
variable {P : Program} {α : Type} [Inhabited α]
end

/-! ### What sort.Slice asks of package reflectlite -/
section
open Go.Extern Go.Extern.Rtype
variable {P : Program} {t e : TypeId} {ti : TypeInfo}
/-- A function that the model stands in for, which leaves memory as it is. -/
theorem FnX.keep {f : FuncId} {args : List LV} {bl : List BC} {r : LV} (hr : ∀ id, Ment r id → preB bl id ≠ none)
    (h : ∀ (w : World) (B : Nat) (X : Nat → Prop) (vals : List Value) (E : Env), vals.length = args.length → (∀ (i : Nat) lv v, args[i]? = some lv → vals[i]? = some v → RepV w B X E lv v) → (∀ i c, preB bl i = some c → BlkOk w B X E i c) →
      ∃ v, (callFunc f vals.toArray).run P w = .ok (.value v) w ∧ RepV w B X E r v) : FnX P f args bl r (enumB bl 900000) := by
  intro w0 w xo vals E hgh hl hbel hxo hxg hargs hblk
  have e9 : look (enumB bl 900000) = preB bl := funext (look_enumB9 bl)
  obtain ⟨v, h1, h2⟩ := h w w0.heap.size (OwnB xo (preB bl) E) vals E hl (fun i lv v h1 h2 => (hargs i lv v h1 h2).1) hblk.ok
  refine ⟨v, w, h1, v, E, rfl, hbel, Nat.le_refl _, fun b _ _ => rfl, fun k hk hl => ⟨rfl, by rw [e9] at hl; exact hl⟩, fun k b' hl hkb => .inr ⟨k, by rw [e9] at hl; exact hl, hkb⟩, ⟨by rw [e9]; exact h2, fun id hm => by rw [e9]; exact hr id hm⟩, by rw [e9]; exact hblk⟩
end
/-! ### Nothing handed where an own array is told -/
theorem preB_snoc (bl : List BC) (c : BC) (i : Nat) : preB (bl ++ [c]) i = if i = 900000 + bl.length then some c else preB bl i := by
  unfold preB
  cases hb : Nat.ble 900000 i with
  | true =>
    have h := Nat.le_of_ble_eq_true hb
    obtain ⟨d, rfl⟩ := Nat.exists_eq_add_of_le h
    simp only [cond_true, Nat.add_sub_cancel_left]
    by_cases e : d = bl.length
    · subst e; rw [if_pos rfl]; simp
    · rw [if_neg (fun h2 => e (Nat.add_left_cancel h2))]
      by_cases h2 : d < bl.length
      · rw [List.getElem?_append_left h2]
      · rw [List.getElem?_eq_none (by simp; omega), List.getElem?_eq_none (by omega)]
  | false =>
    simp only [cond_false]
    rw [if_neg]
    intro h2
    have h3 : Nat.ble 900000 i = true := Nat.ble_eq_true_of_le (by rw [h2]; exact Nat.le_add_right _ _)
    rw [hb] at h3; cases h3
theorem preB_end (bl : List BC) : preB bl (900000 + bl.length) = none := by
  unfold preB
  rw [Nat.ble_eq_true_of_le (Nat.le_add_right _ _), cond_true, Nat.add_sub_cancel_left]
  exact List.getElem?_eq_none (Nat.le_refl _)
theorem BlkOk.env {w : World} {B : Nat} {X X' : Nat → Prop} {E E' : Env} {i : Nat} {c : BC} (h : BlkOk w B X E i c) (hx : ∀ b, X' b → X b) (hE : E' i = E i) (hm : ∀ cells lv id, c = .var cells → lv ∈ cells → Ment lv id → E' id = E id) : BlkOk w B X' E' i c := by
  have h := h.sub hx
  cases c with
  | var cells =>
    obtain ⟨b, vs, T, h1, h2, h3, h4, h5⟩ := h
    exact ⟨b, vs, T, by rw [hE]; exact h1, h2, h3, h4, fun j lv v k1 k2 => (h5 j lv v k1 k2).keep (Nat.le_refl _) (fun _ _ _ => rfl) (fun b hb => .inl hb) fun id hid => hm cells lv id rfl (List.mem_of_getElem? k1) hid⟩
  | mp kd m => obtain ⟨b, es, ck, h1, h2⟩ := h; exact ⟨b, es, ck, by rw [hE]; exact h1, h2⟩
  | arr sz n row =>
    simp only [BlkOk, hE]
    exact h
theorem FnM.nil {P : Program} {f : FuncId} {args : List LV} {bl : List BC} {sz : Nat} {row : Nat → List LV} {r : LV} {rbl : List (Nat × BC)} (k : Nat) (hk : args[k]? = some (.own (900000 + bl.length))) (hn : look rbl (900000 + bl.length) = none)
    (h : FnM P f args (bl ++ [.arr sz 0 row]) r rbl) : FnM P f (args.set k .nilS) bl r rbl := by
  intro w0 w xo vals E hgh hl hbel hxo hxg hargs hblk
  let n9 := 900000 + bl.length
  let E' : Env := fun i => if i = n9 then ⟨none, 0, none, 0, 0, 0⟩ else E i
  have hE : ∀ i, i ≠ n9 → E' i = E i := fun i hi => if_neg hi
  have hE9 : E' n9 = ⟨none, 0, none, 0, 0, 0⟩ := if_pos rfl
  have hp : ∀ i, i ≠ n9 → preB (bl ++ [.arr sz 0 row]) i = preB bl i := fun i hi => by rw [preB_snoc, if_neg hi]
  have hp9 : preB (bl ++ [.arr sz 0 row]) n9 = some (.arr sz 0 row) := by rw [preB_snoc, if_pos rfl]
  have hne : ∀ i, preB bl i ≠ none → i ≠ n9 := fun i hi e => hi (by rw [e]; exact preB_end bl)
  have hX : ∀ b, OwnB xo (preB (bl ++ [.arr sz 0 row])) E' b → OwnB xo (preB bl) E b := fun b hb => by
    rcases hb with hb | ⟨i, h1, h2⟩
    · exact .inl hb
    · by_cases e : i = n9
      · rw [e, hE9] at h2; cases h2
      · exact .inr ⟨i, by rw [← hp i e]; exact h1, by rw [← hE i e]; exact h2⟩
  have hlen : vals.length = args.length := by simpa using hl
  refine Calls.mono (h w0 w xo vals E' hgh hlen hbel (fun b hb => ⟨(hxo b hb).1, fun i hi he => ?_⟩) hxg (fun i lv v h1 h2 => ?_) ⟨fun i c hc => ?_, fun i j b hi hj h1 h2 => ?_, fun i cells lv id h1 h2 h3 => ?_⟩) fun e w' hh => ?_
  · by_cases e : i = n9
    · rw [e, hE9] at he; cases he
    · rw [hp i e] at hi; rw [hE i e] at he
      exact (hxo b hb).2 i hi he
  · by_cases e : i = k
    · subst e
      have e2 : lv = .own n9 := by rw [hk] at h1; exact (Option.some.inj h1).symm
      subst e2
      have h3 := (hargs i .nilS v (by rw [List.getElem?_set_self (by exact (List.getElem?_eq_some_iff.1 hk).1)]) h2).1.nilS_inv
      subst h3
      refine ⟨?_, fun id hm => by cases hm; rw [hp9]; exact fun h => by cases h⟩
      have : (Value.slice none 0 0) = (E' n9).val := by rw [hE9]; rfl
      rw [this]
      exact .own n9
    · obtain ⟨h3, h4⟩ := hargs i lv v (by rw [List.getElem?_set_ne (fun h => e h.symm)]; exact h1) h2
      exact ⟨h3.keep (Nat.le_refl _) (fun _ _ _ => rfl) (fun b hb => .inl (hX b hb)) fun id hm => hE id (hne id (h4 id hm)), fun id hm => by rw [hp id (hne id (h4 id hm))]; exact h4 id hm⟩
  · by_cases e : i = n9
    · subst e
      rw [hp9] at hc
      injection hc with hc; subst hc
      exact ⟨by rw [hE9], .inl ⟨by rw [hE9], by rw [hE9]; rfl, rfl⟩⟩
    · rw [hp i e] at hc
      exact (hblk.ok i c hc).env hX (hE i e) fun cells lv id h1 h2 h3 => hE id (hne id (hblk.ment i cells lv id (by rw [hc, h1]) h2 h3))
  · by_cases e1 : i = n9
    · rw [e1, hE9] at h1; cases h1
    · by_cases e2 : j = n9
      · rw [e2, hE9] at h2; cases h2
      · rw [hp i e1] at hi; rw [hp j e2] at hj; rw [hE i e1] at h1; rw [hE j e2] at h2
        exact hblk.inj i j b hi hj h1 h2
  · by_cases e1 : i = n9
    · rw [e1, hp9] at h1; cases h1
    · rw [hp i e1] at h1
      have := hblk.ment i cells lv id h1 h2 h3
      rw [hp id (hne id this)]; exact this
  · obtain ⟨v, E2, c1, c2, c3, c4, c5, c6, c7, c8⟩ := hh
    refine ⟨v, E2, c1, c2, c3, fun b hb hi => c4 b hb fun i h1 h2 => ?_, fun i h1 h2 => ?_, fun i b h1 h2 => ?_, c7, c8⟩
    · by_cases e1 : i = n9
      · rw [e1, hE9] at h2; cases h2
      · rw [hp i e1] at h1; rw [hE i e1] at h2; exact hi i h1 h2
    · have e1 : i ≠ n9 := fun e => h2 (by rw [e]; exact hn)
      obtain ⟨k1, k2⟩ := c5 i h1 h2
      rw [hE i e1] at k1; rw [hp i e1] at k2
      exact ⟨k1, k2⟩
    · rcases c6 i b h1 h2 with k1 | ⟨j, k1, k2⟩
      · exact .inl k1
      · by_cases e1 : j = n9
        · rw [e1, hE9] at k2; cases k2
        · rw [hp j e1] at k1; rw [hE j e1] at k2; exact .inr ⟨j, k1, k2⟩
/-! ### Contracts that are proved elsewhere -/
theorem ResOk.val {w' : World} {B : Nat} {r : LV} {v : Value} (h : ∀ X, RepC w' B X r v) (hm : ∀ id, ¬ Ment r id) : ResOk w' B r [] v :=
  ⟨fun _ => eiNil, .c _ _ (h _), fun i c hi => by simp at hi, fun i j b hi => by simp at hi, fun id h => absurd h (hm id)⟩
theorem Fn.of_calls {P : Program} {f : FuncId} {args : List LV} {r : LV} {arrs : List BC} {vals : List Value} (ha : ∀ w vs, vs.length = args.length → (∀ (i : Nat) lv v, args[i]? = some lv → vs[i]? = some v → RepA w lv v) → vs = vals)
    (h : ∀ w, GH w → Calls P f vals.toArray w fun e w' => ∃ v, e = .returned v ∧ Below w.heap.size w w' ∧ ResOk w' w.heap.size r arrs v) : Fn P f args r arrs := fun w vs hg hl hv => by
  rw [ha w vs hl hv]; exact h w hg
theorem args_int {k : IntKind} {n : Int} (w : World) (vs : List Value) (hl : vs.length = [LV.int k n].length) (h : ∀ (i : Nat) lv v, [LV.int k n][i]? = some lv → vs[i]? = some v → RepA w lv v) : vs = [.int k n] := by
  match vs, hl with
  | [v], _ =>
    have := h 0 _ v rfl rfl 0
    cases this; rfl
theorem args_str {s : List UInt8} (w : World) (vs : List Value) (hl : vs.length = [LV.str s].length) (h : ∀ (i : Nat) lv v, [LV.str s][i]? = some lv → vs[i]? = some v → RepA w lv v) : vs = [.string ⟨s.toArray⟩] := by
  match vs, hl with
  | [v], _ =>
    have := h 0 _ v rfl rfl 0
    cases this; rfl
theorem args_str2 {s t : List UInt8} (w : World) (vs : List Value) (hl : vs.length = [LV.str s, LV.str t].length) (h : ∀ (i : Nat) lv v, [LV.str s, LV.str t][i]? = some lv → vs[i]? = some v → RepA w lv v) : vs = [.string ⟨s.toArray⟩, .string ⟨t.toArray⟩] := by
  match vs, hl with
  | [v, u], _ =>
    have h1 := h 0 _ v rfl rfl 0
    have h2 := h 1 _ u rfl rfl 0
    cases h1; cases h2; rfl
/-- A call that hands back a new list of texts. -/
theorem Fn.of_strs {P : Program} {f : FuncId} {args : List LV} {l : List (List UInt8)} {vals : List Value} {T : TypeId} (ha : ∀ w vs, vs.length = args.length → (∀ (i : Nat) lv v, args[i]? = some lv → vs[i]? = some v → RepA w lv v) → vs = vals)
    (hl : l.length ≤ maxLen) (h : ∀ w, GH w → Calls P f vals.toArray w fun e w' => e = .returned (.slice (some ⟨w.heap.size, 0, none⟩) l.length l.length) ∧ w' = w.alloc (.cells (l.map fun s => Value.string ⟨s.toArray⟩).toArray T)) :
    Fn P f args (.own 0) [.arr 1 l.length (rowOf cStr l)] :=
  Fn.of_calls ha fun w hg => (h w hg).mono fun e w' ⟨he, hw⟩ => ⟨_, he, by
    rw [hw]; exact (Below.refl _ _).alloc (Nat.le_refl _) _, by
    refine ⟨fun _ => ⟨some w.heap.size, 0, some ⟨w.heap.size, 0, none⟩, l.length, l.length, l.length⟩, .own 0, fun i c hi => ?_, fun i j b hi hj _ _ => ?_, fun id hm => ?_⟩
    · match i, hi with
      | 0, hi =>
        cases hi
        refine ⟨⟨rfl, .inr ⟨w.heap.size, l.length, _, T, rfl, rfl, Nat.le_refl _, by rw [hw]; exact heap_alloc_new w _, Nat.le_refl _, hl, by simp, fun k hk => ⟨rfl, fun lv hlv => ?_, fun j lv v hj hv => ?_⟩⟩⟩, _, _, _, rfl⟩
        · simp only [rowOf, cStr, List.mem_singleton] at hlv; subst hlv; rfl
        · match j, hj with
          | 0, hj =>
            simp only [rowOf, cStr, List.getElem?_cons_zero, Option.some.injEq] at hj
            subst hj
            simp only [Nat.zero_add, Nat.mul_one, Nat.add_zero, List.getElem?_toArray, List.getElem?_map, List.getElem?_eq_getElem hk, Option.map_some, Option.some.injEq] at hv
            subst hv
            rw [List.getD_eq_getElem?_getD, List.getElem?_eq_getElem hk]
            exact .str _
    · match i, j, hi, hj with
      | 0, 0, _, _ => rfl
      | 0, j + 1, _, hj => simp at hj
      | i + 1, _, hi, _ => simp at hi
    · cases hm; simp⟩
/-- A call that hands back a number and an error. -/
theorem Fn.of_intErr {P : Program} {f : FuncId} {args : List LV} {k : IntKind} {n : Int} {b : Bool} {vals : List Value} (ha : ∀ w vs, vs.length = args.length → (∀ (i : Nat) lv v, args[i]? = some lv → vs[i]? = some v → RepA w lv v) → vs = vals)
    (h : ∀ w, GH w → Calls P f vals.toArray w fun e w' => ∃ v, e = .returned (.tuple #[.int k n, v]) ∧ (b = false → v = .nilIface) ∧ (b = true → ∃ t u, v = .iface t u) ∧ Below w.heap.size w w') : Fn P f args (.tup [.int k n, .er b]) [] :=
  Fn.of_calls ha fun w hg => (h w hg).mono fun e w' ⟨v, he, h0, h1, hb⟩ => ⟨_, he, hb, .val (fun X => .tup _ _ rfl fun i lv u hl hu => by
    match i, hl, hu with
    | 0, hl, hu => cases hl; cases hu; exact .int _ _
    | 1, hl, hu => cases hl; cases hu; exact .er b _ h0 h1
    | i + 2, hl, _ => simp at hl) fun id hm => by
      cases hm with
      | tup _ lv _ hlv hm' =>
        simp only [List.mem_cons, List.not_mem_nil, or_false] at hlv
        rcases hlv with rfl | rfl <;> cases hm'⟩
/-- A call that hands back a text. -/
theorem Fn.of_strB {P : Program} {f : FuncId} {args : List LV} {s : List UInt8} {vals : List Value} (ha : ∀ w vs, vs.length = args.length → (∀ (i : Nat) lv v, args[i]? = some lv → vs[i]? = some v → RepA w lv v) → vs = vals)
    (h : ∀ w, GH w → Calls P f vals.toArray w fun e w' => e = .returned (.string ⟨s.toArray⟩) ∧ Below w.heap.size w w') : Fn P f args (.str s) [] :=
  Fn.of_calls ha fun w hg => (h w hg).mono fun e w' ⟨he, hw⟩ => ⟨_, he, hw, .val (fun _ => .str s) fun id hm => by cases hm⟩
end Go.Lite
