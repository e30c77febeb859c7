/- Rows that are exchanged, and the functions of package reflectlite that the model stands in for, at slices. Conditions: none; over any program. -/
import Derived.Test.YtkkijpibajigfabDoorLiteZ
import Derived.Laws.Externs
import GoSem.Extern.ReflectliteSwapper
set_option linter.unusedVariables false
set_option linter.unusedSimpArgs false
namespace Go.Lite
open Go Go.RowKit

section
variable {P : Program} {w : World} {B : Nat} {X : Nat → Prop} {E : Env}
end

/-! ### Elements are exchanged -/
def gi {α : Type} [Inhabited α] (l : List α) (i : Int) : α := l.getD i.toNat default
theorem preB_one (c : BC) : preB [c] 900000 = some c := by
  unfold preB
  rw [Nat.ble_eq_true_of_le (Nat.le_refl _), Nat.sub_self]
  rfl
section
variable {P : Program} {α : Type} [Inhabited α]
end

/-! ### What sort.Slice asks of package reflectlite -/
section
open Go.Extern Go.Extern.Rtype
variable {P : Program} {t e : TypeId} {ti : TypeInfo}
/-- A function that the model stands in for, which leaves memory as it is. -/
theorem FnX.keep {f : FuncId} {args : List LV} {bl : List BC} {r : LV} (hr : ∀ id, Ment r id → preB bl id ≠ none)
    (h : ∀ (w : World) (B : Nat) (X : Nat → Prop) (vals : List Value) (E : Env), vals.length = args.length → (∀ (i : Nat) lv v, args[i]? = some lv → vals[i]? = some v → RepV w B X E lv v) → (∀ i c, preB bl i = some c → BlkOk w B X E i c) →
      ∃ v, (callFunc f vals.toArray).run P w = .ok (.value v) w ∧ RepV w B X E r v) : FnX P f args bl r (enumB bl 900000) := by
  intro w0 w xo vals E hgh hl hbel hxo hxg hargs hblk
  have e9 : look (enumB bl 900000) = preB bl := funext (look_enumB9 bl)
  obtain ⟨v, h1, h2⟩ := h w w0.heap.size (OwnB xo (preB bl) E) vals E hl (fun i lv v h1 h2 => (hargs i lv v h1 h2).1) hblk.ok
  refine ⟨v, w, h1, v, E, rfl, hbel, Nat.le_refl _, fun b _ _ => rfl, fun k hk hl => ⟨rfl, by rw [e9] at hl; exact hl⟩, fun k b' hl => .inr ⟨k, by rw [e9] at hl; exact hl⟩, ⟨by rw [e9]; exact h2, fun id hm => by rw [e9]; exact hr id hm⟩, by rw [e9]; exact hblk⟩
end
/-! ### Contracts that are proved elsewhere -/
theorem ResOk.val {w' : World} {B : Nat} {r : LV} {v : Value} (h : ∀ X, RepC w' B X r v) (hm : ∀ id, ¬ Ment r id) : ResOk w' B r [] v :=
  ⟨⟨fun _ => eiNil, fun _ _ => False⟩, .c _ _ (h _), fun i c hi => by simp at hi, fun i j b hi => by simpa using hi.ne, fun id h => absurd h (hm id)⟩
theorem Fn.of_calls {P : Program} {f : FuncId} {args : List LV} {r : LV} {arrs : List BC} {vals : List Value} (ha : ∀ w vs, vs.length = args.length → (∀ (i : Nat) lv v, args[i]? = some lv → vs[i]? = some v → RepA w lv v) → vs = vals)
    (h : ∀ w, GH w → Calls P f vals.toArray w fun e w' => ∃ v, e = .returned v ∧ Below w.heap.size w w' ∧ ResOk w' w.heap.size r arrs v) : Fn P f args r arrs := fun w vs hg hl hv => by
  rw [ha w vs hl hv]; exact h w hg
theorem args_int {k : IntKind} {n : Int} (w : World) (vs : List Value) (hl : vs.length = [LV.int k n].length) (h : ∀ (i : Nat) lv v, [LV.int k n][i]? = some lv → vs[i]? = some v → RepA w lv v) : vs = [.int k n] := by
  match vs, hl with
  | [v], _ =>
    have := h 0 _ v rfl rfl 0
    cases this; rfl
theorem args_str {s : List UInt8} (w : World) (vs : List Value) (hl : vs.length = [LV.str s].length) (h : ∀ (i : Nat) lv v, [LV.str s][i]? = some lv → vs[i]? = some v → RepA w lv v) : vs = [.string ⟨s.toArray⟩] := by
  match vs, hl with
  | [v], _ =>
    have := h 0 _ v rfl rfl 0
    cases this; rfl
theorem args_str2 {s t : List UInt8} (w : World) (vs : List Value) (hl : vs.length = [LV.str s, LV.str t].length) (h : ∀ (i : Nat) lv v, [LV.str s, LV.str t][i]? = some lv → vs[i]? = some v → RepA w lv v) : vs = [.string ⟨s.toArray⟩, .string ⟨t.toArray⟩] := by
  match vs, hl with
  | [v, u], _ =>
    have h1 := h 0 _ v rfl rfl 0
    have h2 := h 1 _ u rfl rfl 0
    cases h1; cases h2; rfl
/-- A call that hands back a new list of texts. -/
theorem Fn.of_strs {P : Program} {f : FuncId} {args : List LV} {l : List (List UInt8)} {vals : List Value} {T : TypeId} (ha : ∀ w vs, vs.length = args.length → (∀ (i : Nat) lv v, args[i]? = some lv → vs[i]? = some v → RepA w lv v) → vs = vals)
    (hl : l.length ≤ maxLen) (h : ∀ w, GH w → Calls P f vals.toArray w fun e w' => e = .returned (.slice (some ⟨w.heap.size, 0, none⟩) l.length l.length) ∧ w' = w.alloc (.cells (l.map fun s => Value.string ⟨s.toArray⟩).toArray T)) :
    Fn P f args (.own 0) [.arr 1 l.length (rowOf cStr l)] :=
  Fn.of_calls ha fun w hg => (h w hg).mono fun e w' ⟨he, hw⟩ => ⟨_, he, by
    rw [hw]; exact (Below.refl _ _).alloc (Nat.le_refl _) _, by
    refine ⟨⟨fun _ => ⟨some w.heap.size, 0, some ⟨w.heap.size, 0, none⟩, l.length, l.length, l.length⟩, fun _ _ => False⟩, .own 0, fun i c hi => ?_, fun i j b hi' hj' => ?_, fun id hm => ?_⟩
    · match i, hi with
      | 0, hi =>
        cases hi
        refine ⟨⟨rfl, .inr ⟨w.heap.size, l.length, _, T, rfl, rfl, Nat.le_refl _, by rw [hw]; exact heap_alloc_new w _, Nat.le_refl _, hl, by simp, fun k hk => ⟨rfl, fun lv hlv => ?_, fun j lv v hj hv => ?_⟩⟩⟩, trivial⟩
        · simp only [rowOf, cStr, List.mem_singleton] at hlv; subst hlv; rfl
        · match j, hj with
          | 0, hj =>
            simp only [rowOf, cStr, List.getElem?_cons_zero, Option.some.injEq] at hj
            subst hj
            simp only [Nat.zero_add, Nat.mul_one, Nat.add_zero, List.getElem?_toArray, List.getElem?_map, List.getElem?_eq_getElem hk, Option.map_some, Option.some.injEq] at hv
            subst hv
            rw [List.getD_eq_getElem?_getD, List.getElem?_eq_getElem hk]
            exact .str _
    · have hi := hi'.ne
      have hj := hj'.ne
      match i, j, hi, hj with
      | 0, 0, _, _ => rfl
      | 0, j + 1, _, hj => simp at hj
      | i + 1, _, hi, _ => simp at hi
    · cases hm; simp⟩
/-- A call that hands back a number and an error. -/
theorem Fn.of_intErr {P : Program} {f : FuncId} {args : List LV} {k : IntKind} {n : Int} {b : Bool} {vals : List Value} (ha : ∀ w vs, vs.length = args.length → (∀ (i : Nat) lv v, args[i]? = some lv → vs[i]? = some v → RepA w lv v) → vs = vals)
    (h : ∀ w, GH w → Calls P f vals.toArray w fun e w' => ∃ v, e = .returned (.tuple #[.int k n, v]) ∧ (b = false → v = .nilIface) ∧ (b = true → ∃ t u, v = .iface t u) ∧ Below w.heap.size w w') : Fn P f args (.tup [.int k n, .er b]) [] :=
  Fn.of_calls ha fun w hg => (h w hg).mono fun e w' ⟨v, he, h0, h1, hb⟩ => ⟨_, he, hb, .val (fun X => .tup _ _ rfl fun i lv u hl hu => by
    match i, hl, hu with
    | 0, hl, hu => cases hl; cases hu; exact .int _ _
    | 1, hl, hu => cases hl; cases hu; exact .er b _ h0 h1
    | i + 2, hl, _ => simp at hl) fun id hm => by
      cases hm with
      | tup _ lv _ hlv hm' =>
        simp only [List.mem_cons, List.not_mem_nil, or_false] at hlv
        rcases hlv with rfl | rfl <;> cases hm'⟩
/-- A call that hands back a text. -/
theorem Fn.of_strB {P : Program} {f : FuncId} {args : List LV} {s : List UInt8} {vals : List Value} (ha : ∀ w vs, vs.length = args.length → (∀ (i : Nat) lv v, args[i]? = some lv → vs[i]? = some v → RepA w lv v) → vs = vals)
    (h : ∀ w, GH w → Calls P f vals.toArray w fun e w' => e = .returned (.string ⟨s.toArray⟩) ∧ Below w.heap.size w w') : Fn P f args (.str s) [] :=
  Fn.of_calls ha fun w hg => (h w hg).mono fun e w' ⟨he, hw⟩ => ⟨_, he, hw, .val (fun _ => .str s) fun id hm => by cases hm⟩
end Go.Lite
