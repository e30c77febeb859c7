/- For every custom, the program's FormatCustom returns what the reference's returns; the package variable preferWords holds the five words that the program text lays there, which the card ties to the program. -/
import Derived.Test.YtmefknjcgdbceaaDoorCards
import Derived.Test.YtmefknjcgdbceaaDoorTie
import Derived.Test.YtmefknjcgdbceaaDoorM170
import Derived.Test.YtmefknjcgdbceaaDoorLiteV
import Derived.WalkKit
import Derived.ProofKit
import Derived.OpenShut
import Derived.JoinedCond
set_option maxHeartbeats 4000000
set_option linter.unusedSimpArgs false
set_option linter.unusedVariables false
namespace Go.Proofs.YtmefknjcgdbceaaDoor
open Go Go.Lite Go.Proofs Go.ChangeShapes Go.WideShapes Go.ChangeAt Go.RowKit
def C3 (R : Bool) : LV × List (Nat × BC) := (.bool R, [])
def laws_FnExactFormatCustom_m (x0 : Custom) : Bool := bif (!((implFormat x0) == (specFormat x0))) then false else true
def A3 (x0 : Custom) : Ann := .reg 3 [] [(1001, k6 x0), (1002, k5 x0), (2001, k6 x0), (2002, k7 x0)] [2, 3, 4] [] [] [] [] [0, 4, 8, 12] (r0 1 [2, 13] [] (cn (!((implFormat x0) == (specFormat x0))) (r0 1 [2] [] (rt [] (C3 false))) (r0 1 [2] [] (rt [] (C3 true)))))
theorem law_FormatCustom (x0 : Custom) : laws_FnExactFormatCustom_m x0 = true := by
  unfold laws_FnExactFormatCustom_m
  rw [format_eq]
  simp
theorem ok_laws_FnExactFormatCustom (x0 : Custom) : FnT Tryd.prog 3 [.agg (cCustom false x0)] (C3 true) := by
  have aux : ∀ R, laws_FnExactFormatCustom_m x0 = R → slim (C3 R) (A3 x0) [] := by
    intro R hR
    refine rg ⟨trivial, trivial, trivial, trivial, trivial⟩ ?_
    refine rg trivial ?_
    revert hR; refine cd (fun hc1 hR => ?_) fun hc1 hR => ?_
    ·
      refine rg trivial ?_
      exact congrArg C3 hR
    ·
      refine rg trivial ?_
      exact congrArg C3 hR
  exact Fn.go 14 Tryd.func3 (by kernel_rfl) (by kernel_rfl) (by simp [C3, Frs, FrsL]) (A3 x0) (by kernel_rfl) (aux _ (law_FormatCustom x0))
theorem bulk_pos {H : Type} (d : DataW H) : 1 ≤ Rows.uptoBulk d := by
  cases d with
  | lit l => cases l <;> simp [Rows.uptoBulk]
  | _ => simp [Rows.uptoBulk]
theorem bulkAll_len {H : Type} : ∀ l : List (DataW H), l.length ≤ Rows.uptoBulkAll l
  | [] => by simp
  | d :: l => by
    have := bulk_pos d
    have := bulkAll_len l
    simp only [Rows.uptoBulkAll, List.length_cons]
    omega
theorem bulkAll_mem {H : Type} : ∀ (l : List (DataW H)) (d : DataW H), d ∈ l → Rows.uptoBulk d ≤ Rows.uptoBulkAll l
  | [], d, h => by cases h
  | e :: l, d, h => by
    simp only [Rows.uptoBulkAll]
    rcases List.mem_cons.1 h with e | h
    · rw [e]; omega
    · have := bulkAll_mem l d h
      omega
theorem bulk {H : Type} : Bulk (Rows.uptoBulk (H := H)) where
  str := fun bs => by simp [Rows.uptoBulk]
  slen := fun es sp => by
    have := bulkAll_len es
    simp only [Rows.uptoBulk]
    omega
  sel := fun es sp e he => by
    have := bulkAll_mem es e he
    simp only [Rows.uptoBulk]
    omega
  agg := fun ps p hp => by
    have := bulkAll_mem ps p hp
    simp only [Rows.uptoBulk]
    omega
theorem own : ownKnob Tryd.prog.godebug = none := by kernel_rfl
theorem laidOut : laidOutB Tryd.prog = true := by kernel_rfl
def OkCustom (b : Nat) (x : Custom) : Prop := (inR .i64 x.prefer) ∧ (True) ∧ (True) ∧ True
theorem opens23 {H : Type} {enc : TypeId × Value → H} {bk : DataW H → Nat} (hb : Bulk bk) : Opens Tryd.prog enc bk 23 (cCustom false) OkCustom := by
  have h := opens_struct (enc := enc) hb Tryd.underlying23 (tot := 3) (by kernel_rfl) (opensF_cons (sz := 1) (tot := 2) (mono_triv (p := fun (n : Int) => inR .i64 n)) rfl (by kernel_rfl) (opens_int Tryd.underlying3) (opensF_cons (sz := 1) (tot := 1) (mono_triv (p := fun (_ : Bool) => True)) rfl (by kernel_rfl) (opens_bool Tryd.underlying4) (opensF_cons (sz := 1) (tot := 0) (mono_triv (p := fun (_ : Bool) => True)) rfl (by kernel_rfl) (opens_bool Tryd.underlying4) (opensF_nil))))
  exact h.map (fun p => ⟨p.1, p.2.1, p.2.2.1⟩) (fun p => by simp [cCustom]) (fun b p hp => by simpa [OkCustom] using hp)
theorem gVar : Tryd.prog.globalNamed "loop.example/g03221/impl.preferWords" = some 0 := by kernel_rfl
theorem gVarType : (Tryd.prog.globals[0]?).map (·.type) = some 34 := by kernel_rfl
theorem gh_of {W : World} (h : laidMetH Tryd.prog Rows.fnExactFormatCustomRow.laid W) : GH W :=
  words_of_head (ws := gWords) (rest := []) gVar gVarType Tryd.underlying34 Tryd.underlying9 (by kernel_rfl) (by kernel_rfl) h
set_option maxRecDepth 100000 in
theorem contract (H : Type) (enc : TypeId × Value → H) (W : World) (base : Nat) (args : Array Value) (ds gs : List (DataW H)) (before : List MemPlace)
    (hval : ∀ (j : Nat) t v, Tryd.f3.params[j]? = some t → args[j]? = some v → Value.okWide Tryd.prog W .any base t v)
    (hW : DataW.Whole enc Tryd.prog Tryd.f3.params.toList Rows.fnExactFormatCustomSpec.vars false W args.toList ds gs before) (hL : laidMetH Tryd.prog Rows.fnExactFormatCustomRow.laid W) :
    Calls Tryd.prog 3 args W fun e W' => ∃ v, e = .returned v ∧ Rows.fnExactFormatCustomSpec.post enc Tryd.prog Tryd.f3 false true false false W args v W' := by
  have hW' := hW
  obtain ⟨p, q, hA0, hV, hpq, hfz, hnd⟩ := hW
  have hA : DataW.TrodAll enc Tryd.prog W 0 (fun _ => true) true Tryd.f3.params.toList args.toList ds p := hA0
  clear hA0
  rw [Tryd.params3] at hA hval
  obtain ⟨v0, vs0, d0, ds0, p0, q0, hargs, rfl, rfl, h0, hA1⟩ := trodAll_cons hA
  obtain ⟨rfl, rfl, rfl⟩ := trodAll_nil hA1
  obtain rfl : args = #[v0] := by cases args; simp_all
  obtain ⟨g0, rfl⟩ : ∃ g0, gs = [g0] := by
    match gs, hV with
    | [], hV => exact hV.elim
    | [g0], _ => exact ⟨g0, rfl⟩
    | _ :: _ :: _, hV => obtain ⟨_, _, _, _, _, _, _, _, _, _, hV, _⟩ := hV; exact hV.elim
  obtain ⟨x0, k0, r0⟩ := top_struct (opens23 bulk) Tryd.underlying23 (hval 0 23 v0 rfl rfl) h0
  refine (Lite.Fn.true_of (ok_laws_FnExactFormatCustom x0) (gh_of hL) (by rfl) fun i lv v hl hv => ?_).mono fun e W' ⟨he, hb⟩ => ⟨_, he, row_post_vars laidOut (by kernel_rfl) rfl Tryd.underlying4 (by kernel_rfl) rfl hW' hb⟩
  match i, hl, hv with
  | 0, hl, hv => cases hl; cases hv; exact r0
  | _ + 1, hl, _ => simp at hl
noncomputable def laidWorld (os : Os) : World :=
  { World.holding Tryd.prog os ⟨#[], #[], []⟩ with heap := (World.holding Tryd.prog os ⟨#[], #[], []⟩).heap.modify 0 fun
      | .cells _ t frozen => .cells #[.string ⟨#[97, 110, 121]⟩, .string ⟨#[109, 101, 110]⟩, .string ⟨#[119, 111, 109, 101, 110]⟩, .string ⟨#[111, 110, 108, 121, 32, 109, 101, 110]⟩, .string ⟨#[111, 110, 108, 121, 32, 119, 111, 109, 101, 110]⟩] t frozen
      | o => o }
theorem laid_met (os : Os) : laidMet Tryd.prog Rows.fnExactFormatCustomRow.laid ((laidWorld os).forCall (fun _ _ => 0) ⟨#[], #[.agg #[.int .i64 0, .bool false, .bool false]], []⟩).memory :=
  laidMet_of_run' 8 (by kernel_rfl) (by kernel_rfl)
theorem reads (os : Os) {H : Type} (enc : TypeId × Value → H) : ∃ places, DataW.whole enc Tryd.prog ((laidWorld os).forCall (fun _ _ => 0) ⟨#[], #[.agg #[.int .i64 0, .bool false, .bool false]], []⟩).memory Tryd.f3.params.toList Rows.fnExactFormatCustomSpec.vars false #[(Value.agg #[.int .i64 0, .bool false, .bool false])].toList 12 = some ([.agg [.lit (.int .i64 0), .lit (.bool false), .lit (.bool false)]], [.agg (gWords.map fun s => .lit (.string s))], places) :=
  ⟨[.cell 0 0, .cell 0 1, .cell 0 2, .cell 0 3, .cell 0 4], by kernel_rfl⟩
set_option maxRecDepth 100000 in
theorem lifted (os : Os) (started : os.Started) (H : Type) (enc : TypeId × Value → H) (F : Stop.Interp) :
    ReturnsInHanded {} Tryd.checked os 3 .any ((OpenSpec.ofChange Rows.fnExactFormatCustomSpec).preRow enc Tryd.prog Tryd.f3 Rows.fnExactFormatCustomRow.domain false Rows.fnExactFormatCustomRow.laid) (((OpenSpec.ofChange Rows.fnExactFormatCustomSpec).at F).post enc Tryd.prog Tryd.f3 false true false false) := by
  obtain ⟨places, hx⟩ := reads os enc
  refine returnsInHanded_of_row (C := Tryd.checked) (s := OpenSpec.ofChange Rows.fnExactFormatCustomSpec) own started (by kernel_rfl) Tryd.func3
    (witness_row_at (enc := enc) (C := Tryd.checked) false (laidWorld os) #[.agg #[.int .i64 0, .bool false, .bool false]] rfl (by kernel_rfl) (by kernel_rfl) (by kernel_rfl)
      (OpenSpec.preRow_of_cond 12 hx (by kernel_rfl) (fun k hk => by cases hk) (by kernel_rfl) (laid_met os))) ?_
  intro W base args ds gs before hval hW _ hcond _ hL _ _
  exact contract H enc W base args ds gs before hval hW hL
theorem said : Rows.FnExactFormatCustomSaid :=
  OpenClaim.holds_of_cond 3 Tryd.f3 rfl rfl rfl rfl rfl rfl rfl ⟨rfl, rfl, rfl, rfl, rfl⟩ rfl rfl rfl rfl rfl (by kernel_rfl) Tryd.func3 (by kernel_rfl)
    (of_decide_eq_true (by kernel_rfl)) (by unfold Func.isWrapper; first | (rw [if_pos (by decide +kernel)]; kernel_rfl) | (rw [if_neg (by decide +kernel)]; exact ⟨rfl, rfl⟩))
    (fun os started H enc _ F => by rw [OpenClaim.pre_eq_preRow]; exact lifted os started H enc F)
theorem plain (f : FuncId) (fn : Func) (hf : Tryd.pinned.checked.prog.funcNamed "loop.example/g03221/laws.FnExactFormatCustom" = some f) (hfn : Tryd.pinned.checked.prog.funcs[f]? = some fn) :
    false = Tryd.pinned.checked.prog.looks [] ∧ ∀ (j : Nat) t, fn.params[j]? = some t → Tryd.pinned.checked.prog.wantsStandIn t = false := by
  obtain rfl : f = 3 := Option.some.inj ((show Tryd.prog.funcNamed "loop.example/g03221/laws.FnExactFormatCustom" = some 3 by kernel_rfl).symm.trans hf) |>.symm
  obtain rfl : fn = Tryd.f3 := (Option.some.inj (Tryd.func3.symm.trans hfn)).symm
  refine ⟨by kernel_rfl, fun j t ht => ?_⟩
  rw [Tryd.params3] at ht
  have hm : t ∈ [23] := by simpa using Array.mem_of_getElem? ht
  have hall : ([23].all fun u => !Tryd.prog.wantsStandIn u) = true := by kernel_rfl
  exact (show Tryd.prog.wantsStandIn t = false by simpa using List.all_eq_true.1 hall t hm)
theorem proved : Rows.FnExactFormatCustomCardSaid :=
  Claim7.holds_tied_plain_at .later [] _ _ _ _ said (fun _ h => by cases h) (by kernel_rfl) (fun _ h => by cases h) fnExactFormatCustom_row_tie rfl ⟨rfl, rfl⟩ (by kernel_rfl) rfl plain (by kernel_rfl)
end Go.Proofs.YtmefknjcgdbceaaDoor
