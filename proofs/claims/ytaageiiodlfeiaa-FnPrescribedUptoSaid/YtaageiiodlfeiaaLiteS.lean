/- Rows that are exchanged, and the functions of package reflectlite that the model stands in for, at slices. Conditions: none; over any program. -/
import Derived.Test.YtaageiiodlfeiaaLiteZ
import Derived.Laws.Externs
import GoSem.Extern.ReflectliteSwapper
set_option linter.unusedVariables false
set_option linter.unusedSimpArgs false
namespace Go.Lite
open Go Go.RowKit

section
variable {P : Program} {w : World} {B : Nat} {X : Nat → Prop} {E : Env}
end

/-! ### Elements are exchanged -/
def gi {α : Type} [Inhabited α] (l : List α) (i : Int) : α:=l.getD i.toNat default
section
variable {P : Program} {α : Type} [Inhabited α]
end

/-! ### What sort.Slice asks of package reflectlite -/
section
open Go.Extern Go.Extern.Rtype
variable {P : Program} {t e : TypeId} {ti : TypeInfo}
/-- A function that the model stands in for, which leaves memory as it is. -/
theorem FnX.keep {f : FuncId} {args : List LV} {bl : List BC} {r : LV} (hr : ∀ id, Ment r id → preB bl id ≠ none)
    (h : ∀ (w : World) (B : Nat) (X : Nat → Prop) (vals : List Value) (E : Env), vals.length = args.length → (∀ (i : Nat) lv v, args[i]? = some lv → vals[i]? = some v → RepV w B X E lv v) → (∀ i c, preB bl i = some c → BlkOk w B X E i c) →
      ∃ v,(callFunc f vals.toArray).run P w = .ok (.value v) w ∧ RepV w B X E r v) : FnX P f args bl r (enumB bl 900000):=by
  intro w0 w xo vals E hgh hl hbel hxo hxg hargs hblk
  have e9 : look (enumB bl 900000) = preB bl:=funext (look_enumB9 bl)
  obtain ⟨v,h1,h2⟩:=h w w0.heap.size (OwnB xo (preB bl) E) vals E hl (fun i lv v h1 h2=>(hargs i lv v h1 h2).1) hblk.ok
  refine ⟨v,w,h1,v,E,rfl,hbel,Nat.le_refl _,fun b _ _=>rfl,fun k hk hl=>⟨rfl,by rw [e9] at hl;exact hl⟩,fun k b' hl=>.inr ⟨k,by rw [e9] at hl;exact hl⟩,⟨by rw [e9];exact h2,fun id hm=>by rw [e9];exact hr id hm⟩,by rw [e9];exact hblk⟩
end
/-! ### Nothing handed where an own array is told -/
theorem preB_snoc (bl : List BC) (c : BC) (i : Nat) : preB (bl ++ [c]) i = if i = 900000 + bl.length then some c else preB bl i := by
  unfold preB
  cases hb : Nat.ble 900000 i with
  | true =>
    have h:=Nat.le_of_ble_eq_true hb
    obtain ⟨d,rfl⟩:=Nat.exists_eq_add_of_le h
    simp only [cond_true,Nat.add_sub_cancel_left]
    by_cases e : d = bl.length
    · subst e;rw [if_pos rfl];simp
    · rw [if_neg (fun h2=>e (Nat.add_left_cancel h2))]
      by_cases h2 : d < bl.length
      · rw [List.getElem?_append_left h2]
      · rw [List.getElem?_eq_none (by simp;omega),List.getElem?_eq_none (by omega)]
  | false =>
    simp only [cond_false]
    rw [if_neg]
    intro h2
    have h3 : Nat.ble 900000 i = true:=Nat.ble_eq_true_of_le (by rw [h2];exact Nat.le_add_right _ _)
    rw [hb] at h3;cases h3
theorem preB_end (bl : List BC) : preB bl (900000 + bl.length) = none := by
  unfold preB
  rw [Nat.ble_eq_true_of_le (Nat.le_add_right _ _),cond_true,Nat.add_sub_cancel_left]
  exact List.getElem?_eq_none (Nat.le_refl _)
theorem BlkOk.env {w : World} {B : Nat} {X X' : Nat → Prop} {E E' : Env} {i : Nat} {c : BC} (h : BlkOk w B X E i c) (hx : ∀ b, X' b → X b) (hE : E' i = E i) (hm : ∀ cells lv id, c = .var cells → lv ∈ cells → Ment lv id → E' id = E id) (hS : E'.s i = E.s i) (ho : ∀ cl sz n rows, c = .nest cl sz n rows → cl = true) : BlkOk w B X' E' i c := by
  have h:=h.sub hx
  cases c with
  | var cells =>
    obtain ⟨b,vs,T,h1,h2,h3,h4,h5⟩:=h
    exact ⟨b,vs,T,by rw [hE];exact h1,h2,h3,h4,fun j lv v k1 k2=>(h5 j lv v k1 k2).keep (Nat.le_refl _) (fun _ _ _=>rfl) (fun b hb=>.inl hb) fun id hid=>hm cells lv id rfl (List.mem_of_getElem? k1) hid⟩
  | mp kd m=>obtain ⟨b,es,ck,h1,h2⟩:=h;exact ⟨b,es,ck,by rw [hE];exact h1,h2⟩
  | bld T e s=>obtain ⟨b,v,p,h1,h2,h3⟩:=h;exact ⟨b,v,p,by rw [hE];exact h1,h2,by rw [hS];exact h3⟩
  | arr sz n row =>
    simp only [BlkOk,hE]
    exact h
  | nest cl sz n rows=>exact h.move (ho cl sz n rows rfl) (Nat.le_refl _) (fun _ h=>h) hE fun b=>by rw [hS]
theorem FnM.nil {P : Program} {f : FuncId} {args : List LV} {bl : List BC} {sz : Nat} {row : Nat → List LV} {r : LV} {rbl : List (Nat × BC)} (k : Nat) (hk : args[k]? = some (.own (900000 + bl.length))) (hn : look rbl (900000 + bl.length) = none)
    (h : FnM P f args (bl ++ [.arr sz 0 row]) r rbl) : FnM P f (args.set k .nilS) bl r rbl:=by
  intro w0 w xo vals E hgh hl hbel hxo hxg hargs hblk
  let n9:=900000 + bl.length
  let E' : Env:=⟨fun i=>if i = n9 then ⟨none,0,none,0,0,0⟩ else E i,E.s⟩
  have hE : ∀ i,i ≠ n9 → E' i = E i:=fun i hi=>if_neg hi
  have hE9 : E' n9 = ⟨none,0,none,0,0,0⟩:=if_pos rfl
  have hp : ∀ i,i ≠ n9 → preB (bl ++ [.arr sz 0 row]) i = preB bl i:=fun i hi=>by rw [preB_snoc,if_neg hi]
  have hp9 : preB (bl ++ [.arr sz 0 row]) n9 = some (.arr sz 0 row):=by rw [preB_snoc,if_pos rfl]
  have hne : ∀ i,preB bl i ≠ none → i ≠ n9:=fun i hi e=>hi (by rw [e];exact preB_end bl)
  have hat : ∀ i b, OwnAt (preB (bl ++ [.arr sz 0 row])) E' i b ↔ OwnAt (preB bl) E i b := fun i b => by
    by_cases e : i = n9
    · subst e
      constructor
      · rintro (⟨_,h2⟩ | ⟨h1,_⟩)
        · rw [hE9] at h2;cases h2
        · rw [hp9] at h1;exact h1.elim
      · intro h;exact absurd (preB_end bl) h.ne
    · unfold OwnAt
      rw [hp i e,hE i e]
  have hX : ∀ b, OwnB xo (preB (bl ++ [.arr sz 0 row])) E' b → OwnB xo (preB bl) E b := fun b hb => by
    rcases hb with hb | ⟨i,h1⟩
    · exact .inl hb
    · exact .inr ⟨i,(hat i b).1 h1⟩
  have hlen : vals.length = args.length:=by simpa using hl
  refine Calls.mono (h w0 w xo vals E' hgh hlen hbel (fun b hb=>⟨(hxo b hb).1,fun i hi=>(hxo b hb).2 i ((hat i b).1 hi)⟩) hxg (fun i lv v h1 h2=>?_) ⟨fun i c hc=>?_,fun i j b hi hj=>hblk.inj i j b ((hat i b).1 hi) ((hat j b).1 hj),fun i cells lv id h1 h2 h3=>?_,fun i cl sz' n' rows hi=>?_⟩) fun e w' hh=>?_
  · by_cases e : i = k
    · subst e
      have e2 : lv = .own n9:=by rw [hk] at h1;exact (Option.some.inj h1).symm
      subst e2
      have h3:=(hargs i .nilS v (by rw [List.getElem?_set_self (by exact (List.getElem?_eq_some_iff.1 hk).1)]) h2).1.nilS_inv
      subst h3
      refine ⟨?_,fun id hm=>by cases hm;rw [hp9];exact fun h=>by cases h⟩
      have : (Value.slice none 0 0) = (E' n9).val:=by rw [hE9];rfl
      rw [this]
      exact .own n9
    · obtain ⟨h3,h4⟩:=hargs i lv v (by rw [List.getElem?_set_ne (fun h=>e h.symm)];exact h1) h2
      exact ⟨h3.keep (Nat.le_refl _) (fun _ _ _=>rfl) (fun b hb=>.inl (hX b hb)) fun id hm=>hE id (hne id (h4 id hm)),fun id hm=>by rw [hp id (hne id (h4 id hm))];exact h4 id hm⟩
  · by_cases e : i = n9
    · subst e
      rw [hp9] at hc
      injection hc with hc;subst hc
      exact ⟨by rw [hE9],.inl ⟨by rw [hE9],by rw [hE9];rfl,rfl⟩⟩
    · rw [hp i e] at hc
      exact (hblk.ok i c hc).env hX (hE i e) (fun cells lv id h1 h2 h3=>hE id (hne id (hblk.ment i cells lv id (by rw [hc,h1]) h2 h3))) rfl fun cl sz' n' rows hcc=>hblk.out i cl sz' n' rows (by rw [hc,hcc])
  · by_cases e1 : i = n9
    · rw [e1,hp9] at h1;cases h1
    · rw [hp i e1] at h1
      have:=hblk.ment i cells lv id h1 h2 h3
      rw [hp id (hne id this)];exact this
  · by_cases e1 : i = n9
    · rw [e1,hp9] at hi;cases hi
    · rw [hp i e1] at hi
      exact hblk.out i cl sz' n' rows hi
  · obtain ⟨v,E2,c1,c2,c3,c4,c5,c6,c7,c8⟩:=hh
    refine ⟨v,E2,c1,c2,c3,fun b hb hi=>c4 b hb fun i h1=>hi i ((hat i b).1 h1),fun i h1 h2=>?_,fun i b h1=>?_,c7,c8⟩
    · have e1 : i ≠ n9:=fun e=>h2 (by rw [e];exact hn)
      obtain ⟨k1,k2⟩:=c5 i h1 h2
      rw [hE i e1] at k1;rw [hp i e1] at k2
      exact ⟨k1,k2⟩
    · rcases c6 i b h1 with k1 | ⟨j,k1⟩
      · exact .inl k1
      · exact .inr ⟨j,(hat j b).1 k1⟩
/-! ### Contracts that are proved elsewhere -/
theorem ResOk.val {w' : World} {B : Nat} {r : LV} {v : Value} (h : ∀ X, RepC w' B X r v) (hm : ∀ id, ¬ Ment r id) : ResOk w' B r [] v :=
  ⟨⟨fun _=>eiNil,fun _ _=>False⟩,.c _ _ (h _),fun i c hi=>by simp at hi,fun i j b hi=>by simpa using hi.ne,fun id h=>absurd h (hm id)⟩
end Go.Lite
