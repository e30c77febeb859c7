/- Arguments opened: what a reading of an argument says of the plain data that it holds. And the last step of a statement. Conditions: none; over any program. -/
import Derived.Test.YtaageiiodlfeiaaLiteL
import Derived.ProofKit
import Derived.WideKeyArgs
import Derived.Deep.Slices
import Derived.Below
import Derived.ChangeSame
set_option linter.unusedVariables false
namespace Go.Lite
open Go Go.RowKit Go.ChangeShapes Go.WideShapes Go.Deep

/-- Cells read as a list of symbolic values. -/
def RdL (w : World) (l : List LV) (cs : List Value) : Prop :=
  cs.length = l.length ∧ (∀ lv ∈ l, isOne lv = true) ∧ ∀ (j : Nat) lv v, l[j]? = some lv → cs[j]? = some v → RepA w lv v

theorem RdL.append {w : World} {l l' : List LV} {cs cs' : List Value} (h : RdL w l cs) (h' : RdL w l' cs') : RdL w (l ++ l') (cs ++ cs') := by
  refine ⟨by simp [h.1, h'.1], fun lv hl => ?_, fun j lv v hl hv => ?_⟩
  · rcases List.mem_append.1 hl with hl | hl
    · exact h.2.1 lv hl
    · exact h'.2.1 lv hl
  · rcases Nat.lt_or_ge j l.length with hj | hj
    · rw [List.getElem?_append_left hj] at hl
      rw [List.getElem?_append_left (by rw [h.1]; exact hj)] at hv
      exact h.2.2 j lv v hl hv
    · rw [List.getElem?_append_right hj] at hl
      rw [List.getElem?_append_right (by rw [h.1]; exact hj), h.1] at hv
      exact h'.2.2 _ lv v hl hv

section
variable {P : Program} {H : Type} {enc : TypeId × Value → H} {bk : DataW H → Nat}

/-- A type's cells read as plain data. -/
def Opens (P : Program) (enc : TypeId × Value → H) (bk : DataW H → Nat) (t : TypeId) {α : Type} (f : α → List LV) (Ok : Nat → α → Prop) : Prop :=
  ∀ (w : World) (spare : Nat → Bool) (held : Bool) (fuel : Nat) (cs : List Value) (x : DataW H × List MemPlace), DataW.trod enc P w 0 spare held fuel t cs = some x → ∃ a, Ok (bk x.1) a ∧ RdL w (f a) cs

theorem Opens.map {t : TypeId} {α β : Type} {f : α → List LV} {g : β → List LV} {Ok : Nat → α → Prop} {Ok' : Nat → β → Prop} (h : Opens P enc bk t f Ok) (m : α → β) (hf : ∀ a, f a = g (m a)) (hO : ∀ b a, Ok b a → Ok' b (m a)) : Opens P enc bk t g Ok' := by
  intro w spare held fuel cs x hx
  obtain ⟨a, ha, hr⟩ := h w spare held fuel cs x hx
  exact ⟨m a, hO _ a ha, by rw [← hf]; exact hr⟩

/-! ### The last step -/
theorem TrodAll_stays (hl : laidOutB P = true) {W W' : World} {sp' : Nat → Bool} : ∀ {ts : List TypeId} {vs : List Value} {ds : List (DataW H)} {ps : List MemPlace}, ts.all (fun t => P.readableRec t && decide (t < P.types.size)) = true →
    DataW.TrodAll enc P W 0 (fun _ => true) true ts vs ds ps → (∀ p ∈ ps, W.sameAt W' p) → (∀ p ∈ ps, sp' p.block = true) → DataW.TrodAll enc P W' 0 sp' true ts vs ds ps
  | [], vs, ds, ps, _, h, _, _ => by
    cases vs <;> cases ds <;> simp [DataW.TrodAll] at h ⊢
    exact h
  | t :: ts, vs, ds, ps, ht, h, hs, hsp => by
    obtain ⟨v, vs', d, ds', p, q, rfl, rfl, rfl, h1, h2⟩ := trodAll_cons h
    simp only [List.all_cons, Bool.and_eq_true, decide_eq_true_eq] at ht
    exact ⟨p, q, WideElems.Trod_stays hl ht.1.1 ht.1.2 h1 (fun x hx => hs x (List.mem_append.2 (.inl hx))) (fun x hx => hsp x (List.mem_append.2 (.inl hx))),
      TrodAll_stays hl (by simpa using ht.2) h2 (fun x hx => hs x (List.mem_append.2 (.inr hx))) (fun x hx => hsp x (List.mem_append.2 (.inr hx))), rfl⟩

theorem post_of_below {f : Func} {s : ChangeSpec} {apart fresh handsOn again : Bool} {W W' : World} {args : Array Value} {v : Value} {ds gs : List (DataW H)} {before pa pv : List MemPlace}
    (hW : DataW.Whole enc P f.params.toList s.vars apart W args.toList ds gs before)
    (hres : ∀ (b : Nat) (sp : Nat → Bool) (hd : Bool), DataW.TrodAll enc P W' b sp hd f.resultTypes.toList (v.resultList f.resultTypes.size) (s.fn H (ds ++ gs)).results [])
    (hargs : ∀ sp : Nat → Bool, (∀ p ∈ before, sp p.block = true) → DataW.TrodAll enc P W' 0 sp true f.params.toList args.toList (s.fn H (ds ++ gs)).args pa)
    (hvars : ∀ sp : Nat → Bool, (∀ p ∈ before, sp p.block = true) → DataW.TrodVars enc P W' sp s.vars (s.fn H (ds ++ gs)).vars pv)
    (hps : before = pa ++ pv) (hb : Below W.heap.size W W')
    (hok : ∀ (j : Nat) (t : TypeId) (r : Value), f.resultTypes[j]? = some t → (v.resultList f.resultTypes.size)[j]? = some r → Value.okWide P W' .any 0 t r) :
    s.post enc P f apart fresh handsOn again W args v W' := by
  have hlt : ∀ p ∈ before, p.block < W.heap.size := fun p hp => hW.lt p hp
  have hold : ∀ p ∈ before, (fun b => decide (b < W.heap.size)) p.block = true := fun p hp => by simpa using hlt p hp
  refine ⟨ds, gs, before, [], pa, pv, hW, hres _ _ _, hargs _ hold, hvars _ hold, World.keptBut_mono (fun p hp => ⟨hp, ?_⟩) (hb.frame (· ∈ before)), fun _ => ?_⟩
  · rw [hps, List.mem_append] at hp
    exact Or.inr hp
  · obtain ⟨_, _, _, _, _, hz, hn⟩ := hW
    refine ⟨hok, _, _, ([] ++ pa) ++ pv, ⟨[] ++ pa, pv, trodAll_append (hargs _ (fun _ _ => rfl)) (hres _ _ _), hvars _ (fun _ _ => rfl), rfl, ?_, ?_⟩, ?_⟩
    · intro b off hp
      have hin : MemPlace.cell b off ∈ before := by rw [hps]; simpa using hp
      rw [hb.frozen (hlt _ hin)]
      exact hz b off hin
    · intro ha
      have := hn ha
      rw [hps] at this
      simpa using this
    · intro p hp _
      rw [hps]
      simpa using hp

/-- THE LAST STEP OF A STATEMENT: the function answers true, memory that was there stands. -/
theorem row_post {f : Func} {s : ChangeSpec} {W W' : World} {args : Array Value} {ds gs : List (DataW H)} {before : List MemPlace} {tb : TypeId} (hl : laidOutB P = true) (hp : f.params.toList.all (fun t => P.readableRec t && decide (t < P.types.size)) = true)
    (hrt : f.resultTypes = #[tb]) (hb : P.underlying tb = some .bool) (hvars : s.vars = []) (hfn : s.fn H (ds ++ []) = { results := [.lit (.bool true)], args := ds })
    (hW : DataW.Whole enc P f.params.toList s.vars false W args.toList ds gs before) (hbe : Below W.heap.size W W') : s.post enc P f false true false false W args (.bool true) W' := by
  have hW' := hW
  obtain ⟨p, q, hA, hV, rfl, hfz, hnd⟩ := hW
  rw [hvars] at hV
  obtain ⟨rfl, rfl⟩ := trodVars_none hV
  have hlt : ∀ x ∈ p ++ [], x.block < W.heap.size := fun x hx => hW'.lt x hx
  simp only [List.append_nil] at hW' hlt
  refine post_of_below (pa := p) (pv := []) hW' (fun _ _ _ => ?_) (fun sp hsp => ?_) (fun sp hsp => ?_) (by simp) hbe ?_
  · rw [hfn, hrt]
    exact ⟨[], [], shut_bool hb _, trodAll_mk0, rfl⟩
  · rw [hfn]
    exact TrodAll_stays hl hp hA (fun x hx => hbe.same (hlt x hx)) hsp
  · rw [hfn, hvars]; rfl
  · exact ok_one hrt rfl (okWide_bool_mk hb _)
end

/-- A contract that ends in true, called. -/
theorem Fn.true_of {P : Program} {f : FuncId} {args : List LV} (h : Fn P f args (.bool true) []) {W : World} (hgh : GH W) {vals : Array Value} (hl : vals.toList.length = args.length) (hr : ∀ (i : Nat) lv v, args[i]? = some lv → vals.toList[i]? = some v → RepA W lv v) :
    Calls P f vals W fun e w' => e = .returned (.bool true) ∧ Below W.heap.size W w' := by
  refine (h W vals.toList hgh hl hr).mono fun e w' ⟨v, he, hb, E, hv, _⟩ => ?_
  rw [he, hv.bool_inv]
  exact ⟨rfl, hb⟩

end Go.Lite
