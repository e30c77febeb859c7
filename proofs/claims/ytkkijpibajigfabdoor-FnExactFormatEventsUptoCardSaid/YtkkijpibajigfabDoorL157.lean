/- The program's FormatEvents returns what the reference's returns, for all arguments. -/
import Derived.Test.YtkkijpibajigfabDoorCards
import Derived.Test.YtkkijpibajigfabDoorTie
import Derived.Stop.LaidErr
import Derived.LaidLaws
import Derived.Shelf.Vars
import Derived.Test.YtkkijpibajigfabDoorM251
import Derived.Test.YtkkijpibajigfabDoorLiteV
import Derived.WalkKit
import Derived.ProofKit
import Derived.OpenShut
import Derived.JoinedCond
set_option maxHeartbeats 4000000
set_option linter.unusedSimpArgs false
set_option linter.unusedVariables false
namespace Go.Proofs.YtkkijpibajigfabDoor
open Go Go.Lite Go.Proofs Go.ChangeShapes Go.WideShapes Go.ChangeAt Go.RowKit
def C3 (R : Bool) : LV × List (Nat × BC) := (.bool R, [])
def laws_FnExactFormatEvents_m (x0 : List Event) : Bool := bif (decide ((szEventS x0 1048576) < 0)) then true else (bif (!((implFmtEv x0) == (specFmtEv x0))) then false else (bif (!(eqEventS x0 x0)) then false else true))
def A3 (x0 : List Event) : Ann := .reg 3 [] [(2002, k5 x0 1048576)] [0, 2, 3] [] [] [] [] [0] (r0 1 [0, 2, 11] [] (cn (decide ((szEventS x0 1048576) < 0)) (r0 1 [0, 2] [] (rt [] (C3 true))) (.reg 3 [] [(1, k7 x0), (2, k6 x0), (1001, k7 x0), (2001, k8 x0)] [0, 2, 4, 5, 6] [1016] [] [] [] [0, 4, 8, 12] (r0 1 [0, 2, 5, 21] [1016] (cn (!((implFmtEv x0) == (specFmtEv x0))) (r0 1 [0, 2, 5] [1016] (rt [] (C3 false))) (.reg 1 [] [(2, k7 x0), (3, k9 x0 x0)] [2, 26] [] [] [] [] [0, 4] (cn (!(eqEventS x0 x0)) (r0 1 [2] [] (rt [] (C3 false))) (r0 1 [2] [] (rt [] (C3 true))))))))))
theorem law_FormatEvents (x0 : List Event) : laws_FnExactFormatEvents_m x0 = true := by
  unfold laws_FnExactFormatEvents_m
  rw [fmtEv_eq, eqEventS_self]; simp
theorem ok_laws_FnExactFormatEvents (x0 : List Event) (hx : x0.length ≤ 1048576) (hy : ∀ e ∈ x0, e.name.length ≤ 1048576) : FnT Tryd.prog 3 [.ro false 6 x0.length (rowOf (cEvent false) x0)] (C3 true) := by
  have aux : ∀ R, laws_FnExactFormatEvents_m x0 = R → slim (C3 R) (A3 x0) [] := by
    intro R hR
    refine rg ⟨⟨by trivial, by trivial, by trivial⟩, trivial⟩ ?_
    refine rg trivial ?_
    revert hR; refine cd (fun hc1 hR => ?_) fun hc1 hR => ?_
    ·
      refine rg trivial ?_
      exact congrArg C3 hR
    ·
      refine rg ⟨by trivial, ⟨by trivial, by trivial⟩, by trivial, ⟨by trivial, by trivial⟩, trivial⟩ ?_
      refine rg trivial ?_
      revert hR; refine cd (fun hc2 hR => ?_) fun hc2 hR => ?_
      ·
        refine rg trivial ?_
        exact congrArg C3 hR
      ·
        refine rg ⟨by trivial, by trivial, trivial⟩ ?_
        revert hR; refine cd (fun hc3 hR => ?_) fun hc3 hR => ?_
        ·
          refine rg trivial ?_
          exact congrArg C3 hR
        ·
          refine rg trivial ?_
          exact congrArg C3 hR
  exact Fn.go 27 Tryd.func3 (by kernel_rfl) (by kernel_rfl) (by simp [C3, Frs, FrsL]) (A3 x0) (by kernel_rfl) (aux _ (law_FormatEvents x0))
theorem bulk_pos {H : Type} (d : DataW H) : 1 ≤ Rows.uptoBulk d := by
  cases d with
  | lit l => cases l <;> simp [Rows.uptoBulk]
  | _ => simp [Rows.uptoBulk]
theorem bulkAll_len {H : Type} : ∀ l : List (DataW H), l.length ≤ Rows.uptoBulkAll l
  | [] => by simp
  | d :: l => by
    have := bulk_pos d
    have := bulkAll_len l
    simp only [Rows.uptoBulkAll, List.length_cons]
    omega
theorem bulkAll_mem {H : Type} : ∀ (l : List (DataW H)) (d : DataW H), d ∈ l → Rows.uptoBulk d ≤ Rows.uptoBulkAll l
  | [], d, h => by cases h
  | e :: l, d, h => by
    simp only [Rows.uptoBulkAll]
    rcases List.mem_cons.1 h with e | h
    · rw [e]; omega
    · have := bulkAll_mem l d h
      omega
theorem bulk {H : Type} : Bulk (Rows.uptoBulk (H := H)) where
  str := fun bs => by simp [Rows.uptoBulk]
  slen := fun es sp => by
    have := bulkAll_len es
    simp only [Rows.uptoBulk]
    omega
  sel := fun es sp e he => by
    have := bulkAll_mem es e he
    simp only [Rows.uptoBulk]
    omega
  agg := fun ps p hp => by
    have := bulkAll_mem ps p hp
    simp only [Rows.uptoBulk]
    omega
theorem own : ownKnob Tryd.prog.godebug = none := by kernel_rfl
theorem laidOut : laidOutB Tryd.prog = true := by kernel_rfl
def OkEvent (b : Nat) (x : Event) : Prop := (inR .i64 x.kind) ∧ (inR .i64 x.year) ∧ (x.name.length ≤ b) ∧ (inR .i64 x.sex) ∧ (inR .i64 x.a) ∧ (inR .i64 x.b) ∧ True
theorem okEvent_mono (b b' : Nat) (x : Event) (h : b ≤ b') (hx : OkEvent b x) : OkEvent b' x := by
  obtain ⟨h0, h1, h2, h3, h4, h5, _⟩ := hx
  exact ⟨(mono_triv (p := fun (n : Int) => inR .i64 n)) _ _ _ h h0, (mono_triv (p := fun (n : Int) => inR .i64 n)) _ _ _ h h1, mono_len _ _ _ h h2, (mono_triv (p := fun (n : Int) => inR .i64 n)) _ _ _ h h3, (mono_triv (p := fun (n : Int) => inR .i64 n)) _ _ _ h h4, (mono_triv (p := fun (n : Int) => inR .i64 n)) _ _ _ h h5, trivial⟩
theorem opens35 {H : Type} {enc : TypeId × Value → H} {bk : DataW H → Nat} (hb : Bulk bk) : Opens Tryd.prog enc bk 35 (cEvent false) OkEvent := by
  have h := opens_struct (enc := enc) hb Tryd.underlying35 (tot := 6) (by kernel_rfl) (opensF_cons (sz := 1) (tot := 5) (mono_triv (p := fun (n : Int) => inR .i64 n)) rfl (by kernel_rfl) (opens_int Tryd.underlying3) (opensF_cons (sz := 1) (tot := 4) (mono_triv (p := fun (n : Int) => inR .i64 n)) rfl (by kernel_rfl) (opens_int Tryd.underlying3) (opensF_cons (sz := 1) (tot := 3) mono_len rfl (by kernel_rfl) (opens_str hb Tryd.underlying9) (opensF_cons (sz := 1) (tot := 2) (mono_triv (p := fun (n : Int) => inR .i64 n)) rfl (by kernel_rfl) (opens_int Tryd.underlying3) (opensF_cons (sz := 1) (tot := 1) (mono_triv (p := fun (n : Int) => inR .i64 n)) rfl (by kernel_rfl) (opens_int Tryd.underlying3) (opensF_cons (sz := 1) (tot := 0) (mono_triv (p := fun (n : Int) => inR .i64 n)) rfl (by kernel_rfl) (opens_int Tryd.underlying3) (opensF_nil)))))))
  exact h.map (fun p => ⟨p.1, p.2.1, p.2.2.1, p.2.2.2.1, p.2.2.2.2.1, p.2.2.2.2.2.1⟩) (fun p => by simp [cEvent]) (fun b p hp => by simpa [OkEvent] using hp)
theorem gPowVar : Tryd.prog.globalNamed "internal/strconv.uint64pow10" = some 0 := by kernel_rfl
theorem gPowType : (Tryd.prog.globals[0]?).map (·.type) = some 104 := by kernel_rfl
theorem gh_of {W : World} (hm : laidMetH Tryd.prog Rows.fnExactFormatEventsUptoRow.laid W) : GH W := by
  have h : laidMet Tryd.prog Rows.fnExactFormatEventsUptoRow.laid W := hm
  have hp : Lib.TabIs Tryd.prog W "internal/strconv.uint64pow10" .u64 gPow := Lib.tabIs_of_head gPowVar gPowType Tryd.underlying104 Tryd.underlying94 (by kernel_rfl) (by kernel_rfl) (h.tail.tail)
  have hq : ∃ t f, W.heap[0]? = some (.cells (gPow.map fun z => Value.int .u64 z).toArray t f) := by
    unfold Lib.TabIs World.var? at hp
    rw [gPowVar] at hp
    simp only [Option.bind_some] at hp
    split at hp
    · rename_i cs t f e; cases hp; exact ⟨t, f, e⟩
    · cases hp
  refine ⟨?_, hq, trivial⟩
  obtain ⟨t, f, e⟩ := hq
  have := (Array.getElem?_eq_some_iff.1 e).1
  omega
set_option maxRecDepth 100000 in
theorem contract (H : Type) (enc : TypeId × Value → H) (W : World) (base : Nat) (args : Array Value) (ds gs : List (DataW H)) (before : List MemPlace)
    (hval : ∀ (j : Nat) t v, Tryd.f3.params[j]? = some t → args[j]? = some v → Value.okWide Tryd.prog W .any base t v)
    (hW : DataW.Whole enc Tryd.prog Tryd.f3.params.toList Rows.fnExactFormatEventsSpec.vars false W args.toList ds gs before) (hL : laidMetH Tryd.prog Rows.fnExactFormatEventsUptoRow.laid W) (hk : Rows.uptoSmall H (ds ++ gs) = true) :
    Calls Tryd.prog 3 args W fun e W' => ∃ v, e = .returned v ∧ Rows.fnExactFormatEventsSpec.post enc Tryd.prog Tryd.f3 false true false false W args v W' := by
  have hW' := hW
  obtain ⟨p, q, hA0, hV, hpq, hfz, hnd⟩ := hW
  have hA : DataW.TrodAll enc Tryd.prog W 0 (fun _ => true) true Tryd.f3.params.toList args.toList ds p := hA0
  clear hA0
  rw [Tryd.params3] at hA hval
  obtain ⟨v0, vs0, d0, ds0, p0, q0, hargs, rfl, rfl, h0, hA1⟩ := trodAll_cons hA
  obtain ⟨rfl, rfl, rfl⟩ := trodAll_nil hA1
  obtain rfl : args = #[v0] := by cases args; simp_all
  obtain ⟨rfl, rfl⟩ := trodVars_none hV
  obtain ⟨x0, k0, r0⟩ := top_slice (opens_slice bulk okEvent_mono Tryd.underlying22 (sz := 6) (by kernel_rfl) (by omega) (opens35 bulk)) Tryd.underlying22 (hval 0 22 v0 rfl rfl) h0
  have kk0 := ((mono_sl okEvent_mono)) _ _ x0 (show Rows.uptoBulk d0 ≤ 1048576 from Nat.le_trans (bulkAll_mem _ d0 (by simp)) (of_decide_eq_true hk)) k0
  refine (Lite.Fn.true_of (ok_laws_FnExactFormatEvents x0 kk0.1 (fun e he => (kk0.2 e he).2.2.1)) (gh_of hL) (by rfl) fun i lv v hl hv => ?_).mono fun e W' ⟨he, hb⟩ => ⟨_, he, row_post laidOut (by kernel_rfl) rfl Tryd.underlying4 rfl rfl hW' hb⟩
  match i, hl, hv with
  | 0, hl, hv => cases hl; cases hv; exact r0
  | _ + 1, hl, _ => simp at hl
noncomputable def laidWorld (os : Os) : World :=
  { World.holding Tryd.prog os ⟨#[], #[], []⟩ with heap := (World.holding Tryd.prog os ⟨#[], #[], []⟩).heap |>.modify 4 (fun | .cells _ t frozen => .cells #[.int .u8 0, .int .u8 1, .int .u8 28, .int .u8 2, .int .u8 29, .int .u8 14, .int .u8 24, .int .u8 3, .int .u8 30, .int .u8 22, .int .u8 20, .int .u8 15, .int .u8 25, .int .u8 17, .int .u8 4, .int .u8 8, .int .u8 31, .int .u8 27, .int .u8 13, .int .u8 23, .int .u8 21, .int .u8 19, .int .u8 16, .int .u8 7, .int .u8 26, .int .u8 12, .int .u8 18, .int .u8 6, .int .u8 11, .int .u8 5, .int .u8 10, .int .u8 9] t frozen | o => o) |>.modify 5 (fun | .cells _ t frozen => .cells #[.int .u8 0, .int .u8 1, .int .u8 56, .int .u8 2, .int .u8 57, .int .u8 49, .int .u8 28, .int .u8 3, .int .u8 61, .int .u8 58, .int .u8 42, .int .u8 50, .int .u8 38, .int .u8 29, .int .u8 17, .int .u8 4, .int .u8 62, .int .u8 47, .int .u8 59, .int .u8 36, .int .u8 45, .int .u8 43, .int .u8 51, .int .u8 22, .int .u8 53, .int .u8 39, .int .u8 33, .int .u8 30, .int .u8 24, .int .u8 18, .int .u8 12, .int .u8 5, .int .u8 63, .int .u8 55, .int .u8 48, .int .u8 27, .int .u8 60, .int .u8 41, .int .u8 37, .int .u8 16, .int .u8 46, .int .u8 35, .int .u8 44, .int .u8 21, .int .u8 52, .int .u8 32, .int .u8 23, .int .u8 11, .int .u8 54, .int .u8 26, .int .u8 40, .int .u8 15, .int .u8 34, .int .u8 20, .int .u8 31, .int .u8 10, .int .u8 25, .int .u8 14, .int .u8 19, .int .u8 9, .int .u8 13, .int .u8 8, .int .u8 7, .int .u8 6] t frozen | o => o) |>.modify 0 (fun | .cells _ t frozen => .cells #[.int .u64 1, .int .u64 10, .int .u64 100, .int .u64 1000, .int .u64 10000, .int .u64 100000, .int .u64 1000000, .int .u64 10000000, .int .u64 100000000, .int .u64 1000000000, .int .u64 10000000000, .int .u64 100000000000, .int .u64 1000000000000, .int .u64 10000000000000, .int .u64 100000000000000, .int .u64 1000000000000000, .int .u64 10000000000000000, .int .u64 100000000000000000, .int .u64 1000000000000000000, .int .u64 10000000000000000000] t frozen | o => o) }
theorem laid_met (os : Os) : laidMet Tryd.prog Rows.fnExactFormatEventsUptoRow.laid ((laidWorld os).forCall (fun _ _ => 0) ⟨#[], #[.slice none 0 0], []⟩).memory :=
  laidMet_of_run' 8 (by kernel_rfl) (by kernel_rfl)
theorem reads (os : Os) {H : Type} (enc : TypeId × Value → H) : ∃ places, DataW.whole enc Tryd.prog ((laidWorld os).forCall (fun _ _ => 0) ⟨#[], #[.slice none 0 0], []⟩).memory Tryd.f3.params.toList Rows.fnExactFormatEventsSpec.vars false #[(Value.slice none 0 0)].toList 12 = some ([.nil], [], places) :=
  ⟨[], by kernel_rfl⟩
set_option maxRecDepth 100000 in
theorem lifted (os : Os) (started : os.Started) (H : Type) (enc : TypeId × Value → H) (F : Stop.Interp) :
    ReturnsInHanded {} Tryd.checked os 3 .any ((Rows.OpenSpec.upto Rows.fnExactFormatEventsSpec).preRow enc Tryd.prog Tryd.f3 Rows.fnExactFormatEventsUptoRow.domain false Rows.fnExactFormatEventsUptoRow.laid) (((Rows.OpenSpec.upto Rows.fnExactFormatEventsSpec).at F).post enc Tryd.prog Tryd.f3 false true false false) := by
  obtain ⟨places, hx⟩ := reads os enc
  refine returnsInHanded_of_row (C := Tryd.checked) (s := Rows.OpenSpec.upto Rows.fnExactFormatEventsSpec) own started (by kernel_rfl) Tryd.func3
    (witness_row_at (enc := enc) (C := Tryd.checked) false (laidWorld os) #[.slice none 0 0] rfl (by kernel_rfl) (by kernel_rfl) (by kernel_rfl)
      (OpenSpec.preRow_of_cond 12 hx (by kernel_rfl) (fun k hk => by cases hk; kernel_rfl) (by kernel_rfl) (laid_met os))) ?_
  intro W base args ds gs before hval hW _ hcond _ hL _ _
  exact contract H enc W base args ds gs before hval hW hL (hcond _ rfl)
theorem said : Rows.FnExactFormatEventsUptoSaid :=
  OpenClaim.holds_of_cond 3 Tryd.f3 rfl rfl rfl rfl rfl rfl rfl ⟨rfl, rfl, rfl, rfl, rfl⟩ rfl rfl rfl rfl rfl (by kernel_rfl) Tryd.func3 (by kernel_rfl)
    (of_decide_eq_true (by kernel_rfl)) (by unfold Func.isWrapper; first | (rw [if_pos (by decide +kernel)]; kernel_rfl) | (rw [if_neg (by decide +kernel)]; exact ⟨rfl, rfl⟩))
    (fun os started H enc _ F => by rw [OpenClaim.pre_eq_preRow]; exact lifted os started H enc F)
theorem plain (f : FuncId) (fn : Func) (hf : Tryd.pinned.checked.prog.funcNamed "loop.example/g03221/laws.FnExactFormatEvents" = some f) (hfn : Tryd.pinned.checked.prog.funcs[f]? = some fn) :
    true = Tryd.pinned.checked.prog.looks [] ∧ ∀ (j : Nat) t, fn.params[j]? = some t → Tryd.pinned.checked.prog.wantsStandIn t = false := by
  obtain rfl : f = 3 := Option.some.inj ((show Tryd.prog.funcNamed "loop.example/g03221/laws.FnExactFormatEvents" = some 3 by kernel_rfl).symm.trans hf) |>.symm
  obtain rfl : fn = Tryd.f3 := (Option.some.inj (Tryd.func3.symm.trans hfn)).symm
  refine ⟨by kernel_rfl, fun j t ht => ?_⟩
  rw [Tryd.params3] at ht
  have hm : t ∈ [22] := by simpa using Array.mem_of_getElem? ht
  have hall : ([22].all fun u => !Tryd.prog.wantsStandIn u) = true := by kernel_rfl
  exact (show Tryd.prog.wantsStandIn t = false by simpa using List.all_eq_true.1 hall t hm)
theorem proved : Rows.FnExactFormatEventsUptoCardSaid :=
  Claim7.holds_tied_plain_at .later [] _ _ _ _ said (fun _ h => by cases h) (by kernel_rfl) (fun _ h => by cases h) fnExactFormatEventsUpto_row_tie rfl ⟨rfl, rfl⟩ (by kernel_rfl) rfl plain (by kernel_rfl)
end Go.Proofs.YtkkijpibajigfabDoor
