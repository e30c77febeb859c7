/- Rows that list package variables: what is listed gives the variable's cells; the last step of a statement whose row reads variables. Conditions: none; over any program. -/
import Derived.Test.YtepefimocflfkabDoorLiteR
import Derived.OpenVars
import Derived.Deep.DeepHandedRow
import Derived.Lib.LaidTab
set_option linter.unusedVariables false
namespace Go.Lite
open Go Go.RowKit Go.ChangeShapes Go.WideShapes Go.Deep Go.WideElems

section
variable {P : Program} {H : Type} {enc : TypeId × Value → H}
theorem TrodVars_stays (hl : laidOutB P = true) {W W' : World} (hb : Below W.heap.size W W') {sp : Nat → Bool} :
    ∀ {ns : List String} {gs : List (DataW H)} {ps : List MemPlace}, varsRowed P ns = true → DataW.TrodVars enc P W (fun _ => true) ns gs ps → (∀ p ∈ ps, sp p.block = true) → DataW.TrodVars enc P W' sp ns gs ps
  | [], [], _, _, h, _ => h
  | [], _ :: _, _, _, h, _ => h.elim
  | _ :: _, [], _, _, h, _ => h.elim
  | n :: ns, d :: ds, ps, hv, h, hsp => by
    have hlt := h.lt
    obtain ⟨g, t, cs, fuel, p, q, h1, h2, h3, h4, hs, e⟩ := h
    simp only [varsRowed, List.all_cons, Bool.and_eq_true] at hv
    have ht : P.readableRec t = true ∧ t < P.types.size := by
      have := hv.1
      rw [h1] at this
      cases hg : P.globals[g]? with
      | none => rw [hg] at h2; cases h2
      | some gl =>
        rw [hg] at h2
        obtain rfl : gl.type = t := Option.some.inj h2
        simpa [hg] using this
    have hp : ∀ x ∈ p, x.block < W.heap.size := fun x hx => hlt x (by rw [e]; simp [hx])
    have h3' : W'.var? P n = some cs := by
      unfold World.var? at h3 ⊢
      rw [h1] at h3 ⊢
      simp only [Option.bind_some] at h3 ⊢
      have hg : g < W.heap.size := by
        cases hh : W.heap[g]? with
        | none => rw [hh] at h3; cases h3
        | some o => exact (Array.getElem?_eq_some_iff.1 hh).1
      rw [hb.block g hg]; exact h3
    exact ⟨g, t, cs, fuel, p, q, h1, h2, h3', DataW.trod_stays (kids_book hl ht.1) (book_sized ht.1) (fun h => by cases h) ⟨ht.2, book_self t⟩ h4 (fun x hx => hb.same (hp x hx)) (fun x hx => hsp x (by rw [e]; simp [hx])),
      TrodVars_stays hl hb (by simpa [varsRowed] using hv.2) hs (fun x hx => hsp x (by rw [e]; simp [hx])), e⟩

/-- THE LAST STEP OF A STATEMENT whose row reads package variables. -/
theorem row_post_vars {f : Func} {s : ChangeSpec} {W W' : World} {args : Array Value} {ds gs : List (DataW H)} {before : List MemPlace} {tb : TypeId} (hl : laidOutB P = true) (hp : f.params.toList.all (fun t => P.readableRec t && decide (t < P.types.size)) = true)
    (hrt : f.resultTypes = #[tb]) (hb : P.underlying tb = some .bool) (hv : varsRowed P s.vars = true) (hfn : s.fn H (ds ++ gs) = { results := [.lit (.bool true)], args := ds, vars := gs })
    (hW : DataW.Whole enc P f.params.toList s.vars false W args.toList ds gs before) (hbe : Below W.heap.size W W') : s.post enc P f false true false false W args (.bool true) W' := by
  have hW' := hW
  obtain ⟨p, q, hA, hV, rfl, hfz, hnd⟩ := hW
  have hlt : ∀ x ∈ p ++ q, x.block < W.heap.size := fun x hx => hW'.lt x hx
  refine post_of_below (pa := p) (pv := q) hW' (fun _ _ _ => ?_) (fun sp hsp => ?_) (fun sp hsp => ?_) rfl hbe ?_
  · rw [hfn, hrt]
    exact ⟨[], [], shut_bool hb _, trodAll_mk0, rfl⟩
  · rw [hfn]
    exact TrodAll_stays hl hp hA (fun x hx => hbe.same (hlt x (List.mem_append_left _ hx))) (fun x hx => hsp x (List.mem_append_left _ hx))
  · rw [hfn]
    exact TrodVars_stays hl hbe hv hV (fun x hx => hsp x (List.mem_append_right _ hx))
  · exact ok_one hrt rfl (okWide_bool_mk hb _)

/-- An array of strings that reads as a list of words holds them, cell for cell. -/
theorem cells_of_strs {w : World} {base : Nat} {sp : Nat → Bool} {held : Bool} {fuel : Nat} {t e : TypeId} {n : Nat} {cs : List Value} {ws : List (List UInt8)} {p : List MemPlace}
    (ht : P.underlying t = some (.array n e)) (he : P.underlying e = some .string) (hce : P.cellsOf e = 1) (hct : P.cellsOf t = n)
    (h : DataW.trod enc P w base sp held fuel t cs = some (.agg (ws.map fun s => .lit (.string s)), p)) : cs = ws.map fun s => Value.string ⟨s.toArray⟩ := by
  cases fuel with
  | zero => simp [DataW.trod] at h
  | succ fuel =>
    simp only [DataW.trod, ht, hce, hct, Nat.mul_one] at h
    split at h
    · rename_i hl
      obtain ⟨xs, hm, hx⟩ := Option.map_eq_some_iff.1 h
      have hxs : xs.map (·.1) = ws.map fun z => (DataW.lit (.string z) : DataW H) := by
        have := congrArg Prod.fst hx
        simpa using this
      have hxl : xs.length = n := by simpa using Go.Lib.mapM_length hm
      have hzl : ws.length = n := by
        have := congrArg List.length hxs
        simp at this
        omega
      apply List.ext_getElem?
      intro i
      by_cases hi : i < n
      · obtain ⟨b, hb, hf⟩ := Go.Lib.mapM_at hm i i (by simp [hi])
        obtain ⟨z, hc, rfl, _⟩ := DataW.trod_string he hf
        have h1 : cs[i]? = some (.string z) := by
          have := congrArg (·[0]?) hc
          simpa [List.getElem?_take, List.getElem?_drop] using this
        have h2 : (xs.map (·.1))[i]? = some (DataW.lit (.string z.data.toList) : DataW H) := by simp [hb]
        rw [hxs] at h2
        simp only [List.getElem?_map, Option.map_eq_some_iff, DataW.lit.injEq, Lit.string.injEq] at h2
        obtain ⟨z', hz', e'⟩ := h2
        simp [h1, hz', e']
      · rw [List.getElem?_eq_none (by omega), List.getElem?_eq_none (by simp; omega)]
    · cases h
/-- From a row's condition to the cells: the table of words stands first on the list. -/
theorem words_of_head {W : World} {name : String} {ws : List (List UInt8)} {rest : List (String × DataW Unit)} {g : Nat} {t e : TypeId} {n : Nat}
    (hg : P.globalNamed name = some g) (hty : (P.globals[g]?).map (·.type) = some t) (ht : P.underlying t = some (.array n e)) (he : P.underlying e = some .string) (hce : P.cellsOf e = 1) (hct : P.cellsOf t = n)
    (h : laidMet P ((name, .agg (ws.map fun s => .lit (.string s))) :: rest) W) : g < W.heap.size ∧ ∀ i, i < ws.length → W.cell? ⟨g, i, none⟩ = some (.string ⟨(ws.getD i []).toArray⟩) := by
  obtain ⟨ps, ⟨g', t', cs, fuel, p, q, hg', ht', hvar, hd, _, _⟩, _⟩ := h
  obtain rfl := Option.some.inj (hg.symm.trans hg')
  obtain rfl := Option.some.inj (hty.symm.trans ht')
  have hc := cells_of_strs ht he hce hct hd
  refine ⟨?_, fun i hi => ?_⟩
  · unfold World.var? at hvar
    rw [hg] at hvar
    simp only [Option.bind_some] at hvar
    cases hh : W.heap[g]? with
    | none => rw [hh] at hvar; cases hvar
    | some o => exact (Array.getElem?_eq_some_iff.1 hh).1
  · have := World.var?_cell hg hvar i
    rw [this, ← Array.getElem?_toList, hc]
    simp [List.getD, hi]
end
end Go.Lite
