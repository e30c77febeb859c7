/- The program's FormatLaw returns what the reference's returns, for all arguments. -/
import Derived.Test.YtepefimocflfkabDoorCards
import Derived.Test.YtepefimocflfkabDoorTie
import Derived.Test.YtepefimocflfkabDoorVT1
import Derived.Test.YtepefimocflfkabDoorLiteV
import Derived.WalkKit
import Derived.ProofKit
import Derived.OpenShut
import Derived.JoinedCond
set_option maxHeartbeats 4000000
set_option linter.unusedSimpArgs false
set_option linter.unusedVariables false
namespace Go.Proofs.YtepefimocflfkabDoor
open Go Go.Lite Go.Proofs Go.ChangeShapes Go.WideShapes Go.ChangeAt Go.RowKit
def C3 (R : Bool) : LV × List (Nat × BC) := (.bool R, [])
def laws_FnExactFormatLaw_m (x0 : Law) : Bool := bif (!((implFmtLaw x0) == (specFmtLaw x0))) then false else true
def A3 (x0 : Law) : Ann := .reg 3 [] [(1001, k7 x0), (1002, k6 x0), (2001, k7 x0), (2002, k8 x0)] [2, 3, 4] [] [] [] [] [0, 4, 8, 12] (r0 1 [2, 13] [] (cn (!((implFmtLaw x0) == (specFmtLaw x0))) (r0 1 [2] [] (rt [] (C3 false))) (r0 1 [2] [] (rt [] (C3 true)))))
theorem law_FormatLaw (x0 : Law) : laws_FnExactFormatLaw_m x0 = true := by
  unfold laws_FnExactFormatLaw_m
  rw [fmtLaw_eq]; simp
theorem ok_laws_FnExactFormatLaw (x0 : Law) : FnT Tryd.prog 3 [.agg (cLaw false x0)] (C3 true) := by
  have aux : ∀ R, laws_FnExactFormatLaw_m x0 = R → slim (C3 R) (A3 x0) [] := by
    intro R hR
    refine rg ⟨trivial, trivial, trivial, trivial, trivial⟩ ?_
    refine rg trivial ?_
    revert hR; refine cd (fun hc1 hR => ?_) fun hc1 hR => ?_
    ·
      refine rg trivial ?_
      exact congrArg C3 hR
    ·
      refine rg trivial ?_
      exact congrArg C3 hR
  exact Fn.go 14 Tryd.func3 (by kernel_rfl) (by kernel_rfl) (by simp [C3, Frs, FrsL]) (A3 x0) (by kernel_rfl) (aux _ (law_FormatLaw x0))
theorem bulk_pos {H : Type} (d : DataW H) : 1 ≤ Rows.uptoBulk d := by
  cases d with
  | lit l => cases l <;> simp [Rows.uptoBulk]
  | _ => simp [Rows.uptoBulk]
theorem bulkAll_len {H : Type} : ∀ l : List (DataW H), l.length ≤ Rows.uptoBulkAll l
  | [] => by simp
  | d :: l => by
    have := bulk_pos d
    have := bulkAll_len l
    simp only [Rows.uptoBulkAll, List.length_cons]
    omega
theorem bulkAll_mem {H : Type} : ∀ (l : List (DataW H)) (d : DataW H), d ∈ l → Rows.uptoBulk d ≤ Rows.uptoBulkAll l
  | [], d, h => by cases h
  | e :: l, d, h => by
    simp only [Rows.uptoBulkAll]
    rcases List.mem_cons.1 h with e | h
    · rw [e]; omega
    · have := bulkAll_mem l d h
      omega
theorem bulk {H : Type} : Bulk (Rows.uptoBulk (H := H)) where
  str := fun bs => by simp [Rows.uptoBulk]
  slen := fun es sp => by
    have := bulkAll_len es
    simp only [Rows.uptoBulk]
    omega
  sel := fun es sp e he => by
    have := bulkAll_mem es e he
    simp only [Rows.uptoBulk]
    omega
  agg := fun ps p hp => by
    have := bulkAll_mem ps p hp
    simp only [Rows.uptoBulk]
    omega
theorem own : ownKnob Tryd.prog.godebug = none := by kernel_rfl
theorem laidOut : laidOutB Tryd.prog = true := by kernel_rfl
def OkLaw (b : Nat) (x : Law) : Prop := (inR .i64 x.degree) ∧ (inR .i64 x.canon) ∧ (inR .i64 x.affinity) ∧ (inR .i64 x.age) ∧ (inR .i64 x.wives) ∧ (inR .i64 x.husbands) ∧ (True) ∧ (True) ∧ True
theorem opens23 {H : Type} {enc : TypeId × Value → H} {bk : DataW H → Nat} (hb : Bulk bk) : Opens Tryd.prog enc bk 23 (cLaw false) OkLaw := by
  have h := opens_struct (enc := enc) hb Tryd.underlying23 (tot := 8) (by kernel_rfl) (opensF_cons (sz := 1) (tot := 7) (mono_triv (p := fun (n : Int) => inR .i64 n)) rfl (by kernel_rfl) (opens_int Tryd.underlying3) (opensF_cons (sz := 1) (tot := 6) (mono_triv (p := fun (n : Int) => inR .i64 n)) rfl (by kernel_rfl) (opens_int Tryd.underlying3) (opensF_cons (sz := 1) (tot := 5) (mono_triv (p := fun (n : Int) => inR .i64 n)) rfl (by kernel_rfl) (opens_int Tryd.underlying3) (opensF_cons (sz := 1) (tot := 4) (mono_triv (p := fun (n : Int) => inR .i64 n)) rfl (by kernel_rfl) (opens_int Tryd.underlying3) (opensF_cons (sz := 1) (tot := 3) (mono_triv (p := fun (n : Int) => inR .i64 n)) rfl (by kernel_rfl) (opens_int Tryd.underlying3) (opensF_cons (sz := 1) (tot := 2) (mono_triv (p := fun (n : Int) => inR .i64 n)) rfl (by kernel_rfl) (opens_int Tryd.underlying3) (opensF_cons (sz := 1) (tot := 1) (mono_triv (p := fun (_ : Bool) => True)) rfl (by kernel_rfl) (opens_bool Tryd.underlying4) (opensF_cons (sz := 1) (tot := 0) (mono_triv (p := fun (_ : Bool) => True)) rfl (by kernel_rfl) (opens_bool Tryd.underlying4) (opensF_nil)))))))))
  exact h.map (fun p => ⟨p.1, p.2.1, p.2.2.1, p.2.2.2.1, p.2.2.2.2.1, p.2.2.2.2.2.1, p.2.2.2.2.2.2.1, p.2.2.2.2.2.2.2.1⟩) (fun p => by simp [cLaw]) (fun b p hp => by simpa [OkLaw] using hp)
theorem gh_of {W : World} (_ : laidMetH Tryd.prog Rows.fnExactFormatLawRow.laid W) : GH W := trivial
set_option maxRecDepth 100000 in
theorem contract (H : Type) (enc : TypeId × Value → H) (W : World) (base : Nat) (args : Array Value) (ds gs : List (DataW H)) (before : List MemPlace)
    (hval : ∀ (j : Nat) t v, Tryd.f3.params[j]? = some t → args[j]? = some v → Value.okWide Tryd.prog W .any base t v)
    (hW : DataW.Whole enc Tryd.prog Tryd.f3.params.toList Rows.fnExactFormatLawSpec.vars false W args.toList ds gs before) (hL : laidMetH Tryd.prog Rows.fnExactFormatLawRow.laid W) :
    Calls Tryd.prog 3 args W fun e W' => ∃ v, e = .returned v ∧ Rows.fnExactFormatLawSpec.post enc Tryd.prog Tryd.f3 false true false false W args v W' := by
  have hW' := hW
  obtain ⟨p, q, hA0, hV, hpq, hfz, hnd⟩ := hW
  have hA : DataW.TrodAll enc Tryd.prog W 0 (fun _ => true) true Tryd.f3.params.toList args.toList ds p := hA0
  clear hA0
  rw [Tryd.params3] at hA hval
  obtain ⟨v0, vs0, d0, ds0, p0, q0, hargs, rfl, rfl, h0, hA1⟩ := trodAll_cons hA
  obtain ⟨rfl, rfl, rfl⟩ := trodAll_nil hA1
  obtain rfl : args = #[v0] := by cases args; simp_all
  obtain ⟨rfl, rfl⟩ := trodVars_none hV
  obtain ⟨x0, k0, r0⟩ := top_struct (opens23 bulk) Tryd.underlying23 (hval 0 23 v0 rfl rfl) h0
  refine (Lite.Fn.true_of (ok_laws_FnExactFormatLaw x0) (gh_of hL) (by rfl) fun i lv v hl hv => ?_).mono fun e W' ⟨he, hb⟩ => ⟨_, he, row_post laidOut (by kernel_rfl) rfl Tryd.underlying4 rfl rfl hW' hb⟩
  match i, hl, hv with
  | 0, hl, hv => cases hl; cases hv; exact r0
  | _ + 1, hl, _ => simp at hl
noncomputable def laidWorld (os : Os) : World :=
  { World.holding Tryd.prog os ⟨#[], #[], []⟩ with heap := (World.holding Tryd.prog os ⟨#[], #[], []⟩).heap |>.modify 7 (fun | .cells _ t frozen => .cells #[.int .u8 0, .int .u8 1, .int .u8 28, .int .u8 2, .int .u8 29, .int .u8 14, .int .u8 24, .int .u8 3, .int .u8 30, .int .u8 22, .int .u8 20, .int .u8 15, .int .u8 25, .int .u8 17, .int .u8 4, .int .u8 8, .int .u8 31, .int .u8 27, .int .u8 13, .int .u8 23, .int .u8 21, .int .u8 19, .int .u8 16, .int .u8 7, .int .u8 26, .int .u8 12, .int .u8 18, .int .u8 6, .int .u8 11, .int .u8 5, .int .u8 10, .int .u8 9] t frozen | o => o) |>.modify 8 (fun | .cells _ t frozen => .cells #[.int .u8 0, .int .u8 1, .int .u8 56, .int .u8 2, .int .u8 57, .int .u8 49, .int .u8 28, .int .u8 3, .int .u8 61, .int .u8 58, .int .u8 42, .int .u8 50, .int .u8 38, .int .u8 29, .int .u8 17, .int .u8 4, .int .u8 62, .int .u8 47, .int .u8 59, .int .u8 36, .int .u8 45, .int .u8 43, .int .u8 51, .int .u8 22, .int .u8 53, .int .u8 39, .int .u8 33, .int .u8 30, .int .u8 24, .int .u8 18, .int .u8 12, .int .u8 5, .int .u8 63, .int .u8 55, .int .u8 48, .int .u8 27, .int .u8 60, .int .u8 41, .int .u8 37, .int .u8 16, .int .u8 46, .int .u8 35, .int .u8 44, .int .u8 21, .int .u8 52, .int .u8 32, .int .u8 23, .int .u8 11, .int .u8 54, .int .u8 26, .int .u8 40, .int .u8 15, .int .u8 34, .int .u8 20, .int .u8 31, .int .u8 10, .int .u8 25, .int .u8 14, .int .u8 19, .int .u8 9, .int .u8 13, .int .u8 8, .int .u8 7, .int .u8 6] t frozen | o => o) |>.modify 1 (fun | .cells _ t frozen => .cells #[.int .u64 1, .int .u64 10, .int .u64 100, .int .u64 1000, .int .u64 10000, .int .u64 100000, .int .u64 1000000, .int .u64 10000000, .int .u64 100000000, .int .u64 1000000000, .int .u64 10000000000, .int .u64 100000000000, .int .u64 1000000000000, .int .u64 10000000000000, .int .u64 100000000000000, .int .u64 1000000000000000, .int .u64 10000000000000000, .int .u64 100000000000000000, .int .u64 1000000000000000000, .int .u64 10000000000000000000] t frozen | o => o) }
theorem laid_met (os : Os) : laidMet Tryd.prog Rows.fnExactFormatLawRow.laid ((laidWorld os).forCall (fun _ _ => 0) ⟨#[], #[.agg #[.int .i64 0, .int .i64 0, .int .i64 0, .int .i64 0, .int .i64 0, .int .i64 0, .bool false, .bool false]], []⟩).memory :=
  laidMet_of_run' 8 (by kernel_rfl) (by kernel_rfl)
theorem reads (os : Os) {H : Type} (enc : TypeId × Value → H) : ∃ places, DataW.whole enc Tryd.prog ((laidWorld os).forCall (fun _ _ => 0) ⟨#[], #[.agg #[.int .i64 0, .int .i64 0, .int .i64 0, .int .i64 0, .int .i64 0, .int .i64 0, .bool false, .bool false]], []⟩).memory Tryd.f3.params.toList Rows.fnExactFormatLawSpec.vars false #[(Value.agg #[.int .i64 0, .int .i64 0, .int .i64 0, .int .i64 0, .int .i64 0, .int .i64 0, .bool false, .bool false])].toList 12 = some ([.agg [.lit (.int .i64 0), .lit (.int .i64 0), .lit (.int .i64 0), .lit (.int .i64 0), .lit (.int .i64 0), .lit (.int .i64 0), .lit (.bool false), .lit (.bool false)]], [], places) :=
  ⟨[], by kernel_rfl⟩
set_option maxRecDepth 100000 in
theorem lifted (os : Os) (started : os.Started) (H : Type) (enc : TypeId × Value → H) (F : Stop.Interp) :
    ReturnsInHanded {} Tryd.checked os 3 .any ((OpenSpec.ofChange Rows.fnExactFormatLawSpec).preRow enc Tryd.prog Tryd.f3 Rows.fnExactFormatLawRow.domain false Rows.fnExactFormatLawRow.laid) (((OpenSpec.ofChange Rows.fnExactFormatLawSpec).at F).post enc Tryd.prog Tryd.f3 false true false false) := by
  obtain ⟨places, hx⟩ := reads os enc
  refine returnsInHanded_of_row (C := Tryd.checked) (s := OpenSpec.ofChange Rows.fnExactFormatLawSpec) own started (by kernel_rfl) Tryd.func3
    (witness_row_at (enc := enc) (C := Tryd.checked) false (laidWorld os) #[.agg #[.int .i64 0, .int .i64 0, .int .i64 0, .int .i64 0, .int .i64 0, .int .i64 0, .bool false, .bool false]] rfl (by kernel_rfl) (by kernel_rfl) (by kernel_rfl)
      (OpenSpec.preRow_of_cond 12 hx (by kernel_rfl) (fun k hk => by cases hk) (by kernel_rfl) (laid_met os))) ?_
  intro W base args ds gs before hval hW _ hcond _ hL _ _
  exact contract H enc W base args ds gs before hval hW hL
theorem said : Rows.FnExactFormatLawSaid :=
  OpenClaim.holds_of_cond 3 Tryd.f3 rfl rfl rfl rfl rfl rfl rfl ⟨rfl, rfl, rfl, rfl, rfl⟩ rfl rfl rfl rfl rfl (by kernel_rfl) Tryd.func3 (by kernel_rfl)
    (of_decide_eq_true (by kernel_rfl)) (by unfold Func.isWrapper; first | (rw [if_pos (by decide +kernel)]; kernel_rfl) | (rw [if_neg (by decide +kernel)]; exact ⟨rfl, rfl⟩))
    (fun os started H enc _ F => by rw [OpenClaim.pre_eq_preRow]; exact lifted os started H enc F)
theorem plain (f : FuncId) (fn : Func) (hf : Tryd.pinned.checked.prog.funcNamed "loop.example/g03221/laws.FnExactFormatLaw" = some f) (hfn : Tryd.pinned.checked.prog.funcs[f]? = some fn) :
    true = Tryd.pinned.checked.prog.looks [] ∧ ∀ (j : Nat) t, fn.params[j]? = some t → Tryd.pinned.checked.prog.wantsStandIn t = false := by
  obtain rfl : f = 3 := Option.some.inj ((show Tryd.prog.funcNamed "loop.example/g03221/laws.FnExactFormatLaw" = some 3 by kernel_rfl).symm.trans hf) |>.symm
  obtain rfl : fn = Tryd.f3 := (Option.some.inj (Tryd.func3.symm.trans hfn)).symm
  refine ⟨by kernel_rfl, fun j t ht => ?_⟩
  rw [Tryd.params3] at ht
  have hm : t ∈ [23] := by simpa using Array.mem_of_getElem? ht
  have hall : ([23].all fun u => !Tryd.prog.wantsStandIn u) = true := by kernel_rfl
  exact (show Tryd.prog.wantsStandIn t = false by simpa using List.all_eq_true.1 hall t hm)
theorem proved : Rows.FnExactFormatLawCardSaid :=
  Claim7.holds_tied_plain_at .later [] _ _ _ _ said (fun _ h => by cases h) (by kernel_rfl) (fun _ h => by cases h) fnExactFormatLaw_row_tie rfl ⟨rfl, rfl⟩ (by kernel_rfl) rfl plain (by kernel_rfl)
end Go.Proofs.YtepefimocflfkabDoor
