/- Rows that are exchanged, and the functions of package reflectlite that the model stands in for, at slices. Conditions: none; over any program. -/
import Derived.Test.YtaageiiodlfeiaaLiteZ
import Derived.Laws.Externs
import GoSem.Extern.ReflectliteSwapper
set_option linter.unusedVariables false
set_option linter.unusedSimpArgs false
namespace Go.Lite
open Go Go.RowKit

section
variable {P : Program} {w : World} {B : Nat} {X : Nat → Prop} {E : Env}
end

/-! ### Elements are exchanged -/
def gi {α : Type} [Inhabited α] (l : List α) (i : Int) : α := l.getD i.toNat default
section
variable {P : Program} {α : Type} [Inhabited α]
end

/-! ### What sort.Slice asks of package reflectlite -/
section
open Go.Extern Go.Extern.Rtype
variable {P : Program} {t e : TypeId} {ti : TypeInfo}
/-- A function that the model stands in for, which leaves memory as it is. -/
theorem FnX.keep {f : FuncId} {args : List LV} {bl : List BC} {r : LV} (hr : ∀ id, Ment r id → preB bl id ≠ none)
    (h : ∀ (w : World) (B : Nat) (X : Nat → Prop) (vals : List Value) (E : Env), vals.length = args.length → (∀ (i : Nat) lv v, args[i]? = some lv → vals[i]? = some v → RepV w B X E lv v) → (∀ i c, preB bl i = some c → BlkOk w B X E i c) →
      ∃ v, (callFunc f vals.toArray).run P w = .ok (.value v) w ∧ RepV w B X E r v) : FnX P f args bl r (enumB bl 900000) := by
  intro w0 w xo vals E hgh hl hbel hxo hxg hargs hblk
  have e9 : look (enumB bl 900000) = preB bl := funext (look_enumB9 bl)
  obtain ⟨v, h1, h2⟩ := h w w0.heap.size (OwnB xo (preB bl) E) vals E hl (fun i lv v h1 h2 => (hargs i lv v h1 h2).1) hblk.ok
  refine ⟨v, w, h1, v, E, rfl, hbel, Nat.le_refl _, fun b _ _ => rfl, fun k hk hl => ⟨rfl, by rw [e9] at hl; exact hl⟩, fun k b' hl => .inr ⟨k, by rw [e9] at hl; exact hl⟩, ⟨by rw [e9]; exact h2, fun id hm => by rw [e9]; exact hr id hm⟩, by rw [e9]; exact hblk⟩
end
/-! ### Contracts that are proved elsewhere -/
theorem ResOk.val {w' : World} {B : Nat} {r : LV} {v : Value} (h : ∀ X, RepC w' B X r v) (hm : ∀ id, ¬ Ment r id) : ResOk w' B r [] v :=
  ⟨⟨fun _ => eiNil, fun _ _ => False⟩, .c _ _ (h _), fun i c hi => by simp at hi, fun i j b hi => by simpa using hi.ne, fun id h => absurd h (hm id)⟩
theorem Fn.of_calls {P : Program} {f : FuncId} {args : List LV} {r : LV} {arrs : List BC} {vals : List Value} (ha : ∀ w vs, vs.length = args.length → (∀ (i : Nat) lv v, args[i]? = some lv → vs[i]? = some v → RepA w lv v) → vs = vals)
    (h : ∀ w, GH w → Calls P f vals.toArray w fun e w' => ∃ v, e = .returned v ∧ Below w.heap.size w w' ∧ ResOk w' w.heap.size r arrs v) : Fn P f args r arrs := fun w vs hg hl hv => by
  rw [ha w vs hl hv]; exact h w hg
theorem args_str2 {s t : List UInt8} (w : World) (vs : List Value) (hl : vs.length = [LV.str s, LV.str t].length) (h : ∀ (i : Nat) lv v, [LV.str s, LV.str t][i]? = some lv → vs[i]? = some v → RepA w lv v) : vs = [.string ⟨s.toArray⟩, .string ⟨t.toArray⟩] := by
  match vs, hl with
  | [v, u], _ =>
    have h1 := h 0 _ v rfl rfl 0
    have h2 := h 1 _ u rfl rfl 0
    cases h1; cases h2; rfl
end Go.Lite
