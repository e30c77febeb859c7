/- For every string, the program's ParseCustom returns what the reference's returns; the package variable preferWords holds the five words that the program text lays there, which the card ties to the program. -/
import Derived.Test.YtmefknjcgdbceaaDoorCards
import Derived.Test.YtmefknjcgdbceaaDoorTie
import Derived.Test.YtmefknjcgdbceaaDoorM171
import Derived.Test.YtmefknjcgdbceaaDoorLiteV
import Derived.WalkKit
import Derived.ProofKit
import Derived.OpenShut
import Derived.JoinedCond
set_option maxHeartbeats 4000000
set_option linter.unusedSimpArgs false
set_option linter.unusedVariables false
namespace Go.Proofs.YtmefknjcgdbceaaDoor
open Go Go.Lite Go.Proofs Go.ChangeShapes Go.WideShapes Go.ChangeAt Go.RowKit
def C4 (R : Bool) : LV × List (Nat × BC) := (.bool R, [])
def laws_FnExactParseCustom_m (x0 : List UInt8) : Bool := bif (decide (1048576 < ((x0.length : Nat) : Int))) then true else (bif ((!(eqCustom ((implParse x0).1) ((specParse x0).1))) || (!(((implParse x0).2) == ((specParse x0).2)))) then false else true)
def A4 (x0 : List UInt8) : Ann := r0 1 [0, 2] [] (r0 1 [0, 2, 9] [] (cn (decide (1048576 < ((x0.length : Nat) : Int))) (r0 1 [0, 2] [] (rt [] (C4 true))) (.reg 2 [] [(1, k8 x0), (1001, k9 x0)] [2, 3, 4, 5, 6] [3, 5] [] [] [] [0, 4] (.reg 1 [] [(2, k10 ((implParse x0).1) ((specParse x0).1))] [2, 28] [] [!(!(eqCustom ((implParse x0).1) ((specParse x0).1))), !(eqCustom ((implParse x0).1) ((specParse x0).1))] [] [] [0, 1, 1, 6] (cn ((!(eqCustom ((implParse x0).1) ((specParse x0).1))) || (!(((implParse x0).2) == ((specParse x0).2)))) (r0 1 [2] [] (rt [] (C4 false))) (r0 1 [2] [] (rt [] (C4 true))))))))
theorem law_ParseCustom (x0 : List UInt8) : laws_FnExactParseCustom_m x0 = true := by
  unfold laws_FnExactParseCustom_m
  rw [parse_eq]
  simp [eqCustom_self]
theorem ok_laws_FnExactParseCustom (x0 : List UInt8) : FnT Tryd.prog 4 [.str x0] (C4 true) := by
  have aux : ∀ R, laws_FnExactParseCustom_m x0 = R → slim (C4 R) (A4 x0) [] := by
    intro R hR
    refine rg trivial ?_
    refine rg trivial ?_
    revert hR; refine cd (fun hc1 hR => ?_) fun hc1 hR => ?_
    ·
      refine rg trivial ?_
      exact congrArg C4 hR
    ·
      refine rg ⟨trivial, trivial, trivial⟩ ?_
      refine rg ⟨trivial, trivial⟩ ?_
      revert hR; refine cd (fun hc2 hR => ?_) fun hc2 hR => ?_
      ·
        refine rg trivial ?_
        exact congrArg C4 hR
      ·
        refine rg trivial ?_
        exact congrArg C4 hR
  exact Fn.go 29 Tryd.func4 (by kernel_rfl) (by kernel_rfl) (by simp [C4, Frs, FrsL]) (A4 x0) (by kernel_rfl) (aux _ (law_ParseCustom x0))
theorem bulk_pos {H : Type} (d : DataW H) : 1 ≤ Rows.uptoBulk d := by
  cases d with
  | lit l => cases l <;> simp [Rows.uptoBulk]
  | _ => simp [Rows.uptoBulk]
theorem bulkAll_len {H : Type} : ∀ l : List (DataW H), l.length ≤ Rows.uptoBulkAll l
  | [] => by simp
  | d :: l => by
    have := bulk_pos d
    have := bulkAll_len l
    simp only [Rows.uptoBulkAll, List.length_cons]
    omega
theorem bulkAll_mem {H : Type} : ∀ (l : List (DataW H)) (d : DataW H), d ∈ l → Rows.uptoBulk d ≤ Rows.uptoBulkAll l
  | [], d, h => by cases h
  | e :: l, d, h => by
    simp only [Rows.uptoBulkAll]
    rcases List.mem_cons.1 h with e | h
    · rw [e]; omega
    · have := bulkAll_mem l d h
      omega
theorem bulk {H : Type} : Bulk (Rows.uptoBulk (H := H)) where
  str := fun bs => by simp [Rows.uptoBulk]
  slen := fun es sp => by
    have := bulkAll_len es
    simp only [Rows.uptoBulk]
    omega
  sel := fun es sp e he => by
    have := bulkAll_mem es e he
    simp only [Rows.uptoBulk]
    omega
  agg := fun ps p hp => by
    have := bulkAll_mem ps p hp
    simp only [Rows.uptoBulk]
    omega
theorem own : ownKnob Tryd.prog.godebug = none := by kernel_rfl
theorem laidOut : laidOutB Tryd.prog = true := by kernel_rfl
theorem gVar : Tryd.prog.globalNamed "loop.example/g03221/impl.preferWords" = some 0 := by kernel_rfl
theorem gVarType : (Tryd.prog.globals[0]?).map (·.type) = some 34 := by kernel_rfl
theorem gh_of {W : World} (h : laidMetH Tryd.prog Rows.fnExactParseCustomRow.laid W) : GH W :=
  words_of_head (ws := gWords) (rest := []) gVar gVarType Tryd.underlying34 Tryd.underlying9 (by kernel_rfl) (by kernel_rfl) h
set_option maxRecDepth 100000 in
theorem contract (H : Type) (enc : TypeId × Value → H) (W : World) (base : Nat) (args : Array Value) (ds gs : List (DataW H)) (before : List MemPlace)
    (hval : ∀ (j : Nat) t v, Tryd.f4.params[j]? = some t → args[j]? = some v → Value.okWide Tryd.prog W .any base t v)
    (hW : DataW.Whole enc Tryd.prog Tryd.f4.params.toList Rows.fnExactParseCustomSpec.vars false W args.toList ds gs before) (hL : laidMetH Tryd.prog Rows.fnExactParseCustomRow.laid W) :
    Calls Tryd.prog 4 args W fun e W' => ∃ v, e = .returned v ∧ Rows.fnExactParseCustomSpec.post enc Tryd.prog Tryd.f4 false true false false W args v W' := by
  have hW' := hW
  obtain ⟨p, q, hA0, hV, hpq, hfz, hnd⟩ := hW
  have hA : DataW.TrodAll enc Tryd.prog W 0 (fun _ => true) true Tryd.f4.params.toList args.toList ds p := hA0
  clear hA0
  rw [Tryd.params4] at hA hval
  obtain ⟨v0, vs0, d0, ds0, p0, q0, hargs, rfl, rfl, h0, hA1⟩ := trodAll_cons hA
  obtain ⟨rfl, rfl, rfl⟩ := trodAll_nil hA1
  obtain rfl : args = #[v0] := by cases args; simp_all
  obtain ⟨g0, rfl⟩ : ∃ g0, gs = [g0] := by
    match gs, hV with
    | [], hV => exact hV.elim
    | [g0], _ => exact ⟨g0, rfl⟩
    | _ :: _ :: _, hV => obtain ⟨_, _, _, _, _, _, _, _, _, _, hV, _⟩ := hV; exact hV.elim
  obtain ⟨x0, k0, r0⟩ := top_str bulk Tryd.underlying9 (hval 0 9 v0 rfl rfl) h0
  refine (Lite.Fn.true_of (ok_laws_FnExactParseCustom x0) (gh_of hL) (by rfl) fun i lv v hl hv => ?_).mono fun e W' ⟨he, hb⟩ => ⟨_, he, row_post_vars laidOut (by kernel_rfl) rfl Tryd.underlying4 (by kernel_rfl) rfl hW' hb⟩
  match i, hl, hv with
  | 0, hl, hv => cases hl; cases hv; exact r0
  | _ + 1, hl, _ => simp at hl
noncomputable def laidWorld (os : Os) : World :=
  { World.holding Tryd.prog os ⟨#[], #[], []⟩ with heap := (World.holding Tryd.prog os ⟨#[], #[], []⟩).heap.modify 0 fun
      | .cells _ t frozen => .cells #[.string ⟨#[97, 110, 121]⟩, .string ⟨#[109, 101, 110]⟩, .string ⟨#[119, 111, 109, 101, 110]⟩, .string ⟨#[111, 110, 108, 121, 32, 109, 101, 110]⟩, .string ⟨#[111, 110, 108, 121, 32, 119, 111, 109, 101, 110]⟩] t frozen
      | o => o }
theorem laid_met (os : Os) : laidMet Tryd.prog Rows.fnExactParseCustomRow.laid ((laidWorld os).forCall (fun _ _ => 0) ⟨#[], #[.string ⟨#[]⟩], []⟩).memory :=
  laidMet_of_run' 8 (by kernel_rfl) (by kernel_rfl)
theorem reads (os : Os) {H : Type} (enc : TypeId × Value → H) : ∃ places, DataW.whole enc Tryd.prog ((laidWorld os).forCall (fun _ _ => 0) ⟨#[], #[.string ⟨#[]⟩], []⟩).memory Tryd.f4.params.toList Rows.fnExactParseCustomSpec.vars false #[(Value.string ⟨#[]⟩)].toList 12 = some ([.lit (.string [])], [.agg (gWords.map fun s => .lit (.string s))], places) :=
  ⟨[.cell 0 0, .cell 0 1, .cell 0 2, .cell 0 3, .cell 0 4], by kernel_rfl⟩
set_option maxRecDepth 100000 in
theorem lifted (os : Os) (started : os.Started) (H : Type) (enc : TypeId × Value → H) (F : Stop.Interp) :
    ReturnsInHanded {} Tryd.checked os 4 .any ((OpenSpec.ofChange Rows.fnExactParseCustomSpec).preRow enc Tryd.prog Tryd.f4 Rows.fnExactParseCustomRow.domain false Rows.fnExactParseCustomRow.laid) (((OpenSpec.ofChange Rows.fnExactParseCustomSpec).at F).post enc Tryd.prog Tryd.f4 false true false false) := by
  obtain ⟨places, hx⟩ := reads os enc
  refine returnsInHanded_of_row (C := Tryd.checked) (s := OpenSpec.ofChange Rows.fnExactParseCustomSpec) own started (by kernel_rfl) Tryd.func4
    (witness_row_at (enc := enc) (C := Tryd.checked) false (laidWorld os) #[.string ⟨#[]⟩] rfl (by kernel_rfl) (by kernel_rfl) (by kernel_rfl)
      (OpenSpec.preRow_of_cond 12 hx (by kernel_rfl) (fun k hk => by cases hk) (by kernel_rfl) (laid_met os))) ?_
  intro W base args ds gs before hval hW _ hcond _ hL _ _
  exact contract H enc W base args ds gs before hval hW hL
theorem said : Rows.FnExactParseCustomSaid :=
  OpenClaim.holds_of_cond 4 Tryd.f4 rfl rfl rfl rfl rfl rfl rfl ⟨rfl, rfl, rfl, rfl, rfl⟩ rfl rfl rfl rfl rfl (by kernel_rfl) Tryd.func4 (by kernel_rfl)
    (of_decide_eq_true (by kernel_rfl)) (by unfold Func.isWrapper; first | (rw [if_pos (by decide +kernel)]; kernel_rfl) | (rw [if_neg (by decide +kernel)]; exact ⟨rfl, rfl⟩))
    (fun os started H enc _ F => by rw [OpenClaim.pre_eq_preRow]; exact lifted os started H enc F)
theorem plain (f : FuncId) (fn : Func) (hf : Tryd.pinned.checked.prog.funcNamed "loop.example/g03221/laws.FnExactParseCustom" = some f) (hfn : Tryd.pinned.checked.prog.funcs[f]? = some fn) :
    false = Tryd.pinned.checked.prog.looks [] ∧ ∀ (j : Nat) t, fn.params[j]? = some t → Tryd.pinned.checked.prog.wantsStandIn t = false := by
  obtain rfl : f = 4 := Option.some.inj ((show Tryd.prog.funcNamed "loop.example/g03221/laws.FnExactParseCustom" = some 4 by kernel_rfl).symm.trans hf) |>.symm
  obtain rfl : fn = Tryd.f4 := (Option.some.inj (Tryd.func4.symm.trans hfn)).symm
  refine ⟨by kernel_rfl, fun j t ht => ?_⟩
  rw [Tryd.params4] at ht
  have hm : t ∈ [9] := by simpa using Array.mem_of_getElem? ht
  have hall : ([9].all fun u => !Tryd.prog.wantsStandIn u) = true := by kernel_rfl
  exact (show Tryd.prog.wantsStandIn t = false by simpa using List.all_eq_true.1 hall t hm)
theorem proved : Rows.FnExactParseCustomCardSaid :=
  Claim7.holds_tied_plain_at .later [] _ _ _ _ said (fun _ h => by cases h) (by kernel_rfl) (fun _ h => by cases h) fnExactParseCustom_row_tie rfl ⟨rfl, rfl⟩ (by kernel_rfl) rfl plain (by kernel_rfl)
end Go.Proofs.YtmefknjcgdbceaaDoor
