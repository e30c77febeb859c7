/- The program's ParseEvents returns what the reference's returns, for all arguments. -/
import Derived.Test.YtkkijpibajigfabDoorCards
import Derived.Test.YtkkijpibajigfabDoorTie
import Derived.Stop.LaidErr
import Derived.LaidLaws
import Derived.Shelf.Vars
import Derived.Test.YtkkijpibajigfabDoorM253
import Derived.Test.YtkkijpibajigfabDoorLiteV
import Derived.WalkKit
import Derived.ProofKit
import Derived.OpenShut
import Derived.JoinedCond
set_option maxHeartbeats 4000000
set_option linter.unusedSimpArgs false
set_option linter.unusedVariables false
namespace Go.Proofs.YtkkijpibajigfabDoor
open Go Go.Lite Go.Proofs Go.ChangeShapes Go.WideShapes Go.ChangeAt Go.RowKit
def C4 (R : Bool) : LV × List (Nat × BC) := (.bool R, [])
def laws_FnExactParseEvents_m (x0 : List UInt8) : Bool := bif (decide (1048576 < ((x0.length : Nat) : Int))) then true else (bif ((!(eqEventS ((implParEv x0).1) ((specParEv x0).1))) || (!(((implParEv x0).2) == ((specParEv x0).2)))) then false else (bif (decide ((heldEventS ((markEventS ((implParEv x0).1) 1).2) 1) < 0)) then false else (bif (!decide ((heldEventS ((markEventS ((implParEv x0).1) 1).2) 1) = ((markEventS ((implParEv x0).1) 1).1))) then false else (bif ((!(eqEventS ((implParEv x0).1) ((specParEv x0).1))) || (!(((implParEv x0).2) == ((specParEv x0).2)))) then false else (bif (decide ((heldEventS ((markEventS ((implParEv x0).1) 1).2) 1) < 0)) then false else (bif (!decide ((heldEventS ((markEventS ((implParEv x0).1) 1).2) 1) = ((markEventS ((implParEv x0).1) 1).1))) then false else true))))))
def A4 (x0 : List UInt8) : Ann := r0 1 [0, 2] [] (r0 1 [0, 2, 13] [] (cn (decide (1048576 < ((x0.length : Nat) : Int))) (r0 1 [0, 2] [] (rt [] (C4 true))) (.reg 2 [] [(1, k10 x0), (1001, k11 x0)] [0, 2, 3, 4, 5, 6] [1016, 1021] [] [] [] [0, 4] (.reg 1 [] [(2, k9 ((implParEv x0).1) ((specParEv x0).1))] [0, 2, 3, 4, 5, 32] [1016, 1021] [!(!(eqEventS ((implParEv x0).1) ((specParEv x0).1))), !(eqEventS ((implParEv x0).1) ((specParEv x0).1))] [] [] [0, 1, 1, 6] (cn ((!(eqEventS ((implParEv x0).1) ((specParEv x0).1))) || (!(((implParEv x0).2) == ((specParEv x0).2)))) (r0 1 [0, 2, 3, 4, 5] [1016, 1021] (rt [] (C4 false))) (.reg 4 [] [(1002, k12 35 [1021] ((implParEv x0).1) 1), (3002, k13 ((markEventS ((implParEv x0).1) 1).2) 1)] [0, 2, 3, 4, 5, 7, 8] [1016, 1021] [] [] [] [0, 4] (r0 1 [0, 2, 3, 4, 5, 7, 8, 40] [1016, 1021] (cn (decide ((heldEventS ((markEventS ((implParEv x0).1) 1).2) 1) < 0)) (r0 1 [0, 2, 3, 4, 5, 7, 8] [1016, 1021] (rt [] (C4 false))) (r0 1 [0, 2, 3, 4, 5, 7, 43] [1016, 1021] (cn (!decide ((heldEventS ((markEventS ((implParEv x0).1) 1).2) 1) = ((markEventS ((implParEv x0).1) 1).1))) (r0 1 [0, 2, 3, 4, 5, 7] [1016, 1021] (rt [] (C4 false))) (.reg 1 [] [(1, k11 x0)] [2, 3, 4, 5, 7, 9, 10] [1016, 1021, 1046] [] [] [] [0] (.reg 1 [] [(2, k9 ((implParEv x0).1) ((specParEv x0).1))] [2, 5, 7, 57] [1021] [!(!(eqEventS ((implParEv x0).1) ((specParEv x0).1))), !(eqEventS ((implParEv x0).1) ((specParEv x0).1))] [] [] [0, 1, 1, 6] (cn ((!(eqEventS ((implParEv x0).1) ((specParEv x0).1))) || (!(((implParEv x0).2) == ((specParEv x0).2)))) (r0 1 [2, 5, 7] [1021] (rt [] (C4 false))) (.reg 2 [] [(1002, k13 ((markEventS ((implParEv x0).1) 1).2) 1)] [2, 7, 8] [] [] [] [] [0] (r0 1 [2, 7, 8, 62] [] (cn (decide ((heldEventS ((markEventS ((implParEv x0).1) 1).2) 1) < 0)) (r0 1 [2, 7, 8] [] (rt [] (C4 false))) (r0 1 [2, 65] [] (cn (!decide ((heldEventS ((markEventS ((implParEv x0).1) 1).2) 1) = ((markEventS ((implParEv x0).1) 1).1))) (r0 1 [2] [] (rt [] (C4 false))) (r0 1 [2] [] (rt [] (C4 true)))))))))))))))))))))
theorem law_ParseEvents (x0 : List UInt8) : laws_FnExactParseEvents_m x0 = true := by
  unfold laws_FnExactParseEvents_m
  simp only [parEv_eq, eqEventS_self, held_events, markEventS_val, beq_self_eq_true, bne_self_eq_false]
  repeat' refine cond_both (p := fun r => r = true) (fun h => ?_) (fun h => ?_)
  all_goals first | rfl | (simp only [Bool.or_eq_true, decide_eq_true_eq, Bool.not_eq_true', Bool.not_true, decide_eq_false_iff_not, Bool.false_eq_true, or_false, or_f_iff, not_true, Bool.true_eq_false, beq_self_eq_true, bne_self_eq_false] at * <;> first | omega | contradiction)
theorem ok_laws_FnExactParseEvents (x0 : List UInt8) (h : x0.length ≤ 1048576) : FnT Tryd.prog 4 [.str x0] (C4 true) := by
  have aux : ∀ R, laws_FnExactParseEvents_m x0 = R → slim (C4 R) (A4 x0) [] := by
    intro R hR
    refine rg trivial ?_
    refine rg trivial ?_
    revert hR; refine cd (fun hc1 hR => ?_) fun hc1 hR => ?_
    ·
      refine rg trivial ?_
      exact congrArg C4 hR
    ·
      refine rg ⟨by trivial, by trivial, trivial⟩ ?_
      refine rg ⟨by (have h9 := parEv_len x0; have h8 := congrArg (fun r => r.1.length) (parEv_eq x0); have h7 := (markEventS_get (implParEv x0).1 1).1; have h6 := markEventS_val (implParEv x0).1 1; (try dsimp only at h8); omega), trivial⟩ ?_
      revert hR; refine cd (fun hc2 hR => ?_) fun hc2 hR => ?_
      ·
        refine rg trivial ?_
        exact congrArg C4 hR
      ·
        refine rg ⟨⟨by (have h9 := parEv_len x0; have h8 := congrArg (fun r => r.1.length) (parEv_eq x0); have h7 := (markEventS_get (implParEv x0).1 1).1; have h6 := markEventS_val (implParEv x0).1 1; (try dsimp only at h8); omega), by trivial⟩, ⟨by (have h9 := parEv_len x0; have h8 := congrArg (fun r => r.1.length) (parEv_eq x0); have h7 := (markEventS_get (implParEv x0).1 1).1; have h6 := markEventS_val (implParEv x0).1 1; (try dsimp only at h8); omega), by trivial⟩, trivial⟩ ?_
        refine rg trivial ?_
        revert hR; refine cd (fun hc3 hR => ?_) fun hc3 hR => ?_
        ·
          refine rg trivial ?_
          exact congrArg C4 hR
        ·
          refine rg trivial ?_
          revert hR; refine cd (fun hc4 hR => ?_) fun hc4 hR => ?_
          ·
            refine rg trivial ?_
            exact congrArg C4 hR
          ·
            refine rg ⟨by trivial, trivial⟩ ?_
            refine rg ⟨by (have h9 := parEv_len x0; have h8 := congrArg (fun r => r.1.length) (parEv_eq x0); have h7 := (markEventS_get (implParEv x0).1 1).1; have h6 := markEventS_val (implParEv x0).1 1; (try dsimp only at h8); omega), trivial⟩ ?_
            revert hR; refine cd (fun hc5 hR => ?_) fun hc5 hR => ?_
            ·
              refine rg trivial ?_
              exact congrArg C4 hR
            ·
              refine rg ⟨⟨by (have h9 := parEv_len x0; have h8 := congrArg (fun r => r.1.length) (parEv_eq x0); have h7 := (markEventS_get (implParEv x0).1 1).1; have h6 := markEventS_val (implParEv x0).1 1; (try dsimp only at h8); omega), by trivial⟩, trivial⟩ ?_
              refine rg trivial ?_
              revert hR; refine cd (fun hc6 hR => ?_) fun hc6 hR => ?_
              ·
                refine rg trivial ?_
                exact congrArg C4 hR
              ·
                refine rg trivial ?_
                revert hR; refine cd (fun hc7 hR => ?_) fun hc7 hR => ?_
                ·
                  refine rg trivial ?_
                  exact congrArg C4 hR
                ·
                  refine rg trivial ?_
                  exact congrArg C4 hR
  exact Fn.go 66 Tryd.func4 (by kernel_rfl) (by kernel_rfl) (by simp [C4, Frs, FrsL]) (A4 x0) (by kernel_rfl) (aux _ (law_ParseEvents x0))
theorem bulk_pos {H : Type} (d : DataW H) : 1 ≤ Rows.uptoBulk d := by
  cases d with
  | lit l => cases l <;> simp [Rows.uptoBulk]
  | _ => simp [Rows.uptoBulk]
theorem bulkAll_len {H : Type} : ∀ l : List (DataW H), l.length ≤ Rows.uptoBulkAll l
  | [] => by simp
  | d :: l => by
    have := bulk_pos d
    have := bulkAll_len l
    simp only [Rows.uptoBulkAll, List.length_cons]
    omega
theorem bulkAll_mem {H : Type} : ∀ (l : List (DataW H)) (d : DataW H), d ∈ l → Rows.uptoBulk d ≤ Rows.uptoBulkAll l
  | [], d, h => by cases h
  | e :: l, d, h => by
    simp only [Rows.uptoBulkAll]
    rcases List.mem_cons.1 h with e | h
    · rw [e]; omega
    · have := bulkAll_mem l d h
      omega
theorem bulk {H : Type} : Bulk (Rows.uptoBulk (H := H)) where
  str := fun bs => by simp [Rows.uptoBulk]
  slen := fun es sp => by
    have := bulkAll_len es
    simp only [Rows.uptoBulk]
    omega
  sel := fun es sp e he => by
    have := bulkAll_mem es e he
    simp only [Rows.uptoBulk]
    omega
  agg := fun ps p hp => by
    have := bulkAll_mem ps p hp
    simp only [Rows.uptoBulk]
    omega
theorem own : ownKnob Tryd.prog.godebug = none := by kernel_rfl
theorem laidOut : laidOutB Tryd.prog = true := by kernel_rfl
theorem gPowVar : Tryd.prog.globalNamed "internal/strconv.uint64pow10" = some 0 := by kernel_rfl
theorem gPowType : (Tryd.prog.globals[0]?).map (·.type) = some 104 := by kernel_rfl
theorem gErrVar : Tryd.prog.globalNamed "strconv.ErrSyntax" = some 2 := by kernel_rfl
theorem gErrType : (Tryd.prog.globals[2]?).map (·.type) = some 51 := by kernel_rfl
theorem gStar : "*" ++ "errors.errorString" = "*errors.errorString" := by decide
theorem gErrRow (u : TypeId) (h : Tryd.prog.typeName? 3 u = some "*errors.errorString") : u = 134 :=
  typeName_ptr_named (nm := "errors.errorString") (by rw [gStar]; kernel_rfl) (by kernel_rfl) (by decide) u (by rw [gStar]; exact h)
theorem gh_of {W : World} (hm : laidMetH Tryd.prog Rows.fnExactParseEventsUptoRow.laid W) (hs : W.ShapedOpen Tryd.prog) : GH W := by
  have h : laidMet Tryd.prog Rows.fnExactParseEventsUptoRow.laid W := hm
  have hp : Lib.TabIs Tryd.prog W "internal/strconv.uint64pow10" .u64 gPow := Lib.tabIs_of_head gPowVar gPowType Tryd.underlying104 Tryd.underlying94 (by kernel_rfl) (by kernel_rfl) (h.tail.tail)
  obtain ⟨a, s, he, _⟩ := laid_sentinel (h.tail.tail.tail.tail.tail) gErrVar gErrType Tryd.underlying51 gErrRow Tryd.underlying134 Tryd.underlying136 rfl rfl Tryd.underlying9 (by kernel_rfl) (by kernel_rfl)
  have hx : W.cell? ⟨2, 0, none⟩ = some (.iface 134 (.pointer (some a))) := by simpa using World.var?_cell gErrVar he 0
  have hm := cell_of_shapedOpen_int (k := .i64) hs (g := 1) (t := 3) (zero := #[.int .i64 0]) (of_decide_eq_true (by kernel_rfl)) (by kernel_rfl) rfl (by kernel_rfl) (by kernel_rfl) (by kernel_rfl)
  have hq : ∃ t f, W.heap[0]? = some (.cells (gPow.map fun z => Value.int .u64 z).toArray t f) := by
    unfold Lib.TabIs World.var? at hp
    rw [gPowVar] at hp
    simp only [Option.bind_some] at hp
    split at hp
    · rename_i cs t f e; cases hp; exact ⟨t, f, e⟩
    · cases hp
  have hz : 3 ≤ W.heap.size := by
    unfold World.cell? at hx
    cases e : W.heap[2]? with
    | none => simp [e] at hx
    | some o => have := (Array.getElem?_eq_some_iff.1 e).1; omega
  exact ⟨hz, hq, hm, _, _, hx⟩
noncomputable def laidLow : Nat := (World.holding Tryd.prog default ⟨#[], #[], []⟩).heap.size
set_option maxRecDepth 100000 in
theorem contract (H : Type) (enc : TypeId × Value → H) (W : World) (base : Nat) (args : Array Value) (ds gs : List (DataW H)) (before : List MemPlace)
    (hval : ∀ (j : Nat) t v, Tryd.f4.params[j]? = some t → args[j]? = some v → Value.okWide Tryd.prog W .any base t v)
    (hW : DataW.Whole enc Tryd.prog Tryd.f4.params.toList Rows.fnExactParseEventsSpec.vars false W args.toList ds gs before) (hL : laidMetH Tryd.prog Rows.fnExactParseEventsUptoRow.laid W) (hSh : W.ShapedOpen Tryd.prog) (hk : Rows.uptoSmall H (ds ++ gs) = true) :
    Calls Tryd.prog 4 args W fun e W' => ∃ v, e = .returned v ∧ Rows.fnExactParseEventsSpec.post enc Tryd.prog Tryd.f4 false true false false W args v W' := by
  have hW' := hW
  obtain ⟨p, q, hA0, hV, hpq, hfz, hnd⟩ := hW
  have hA : DataW.TrodAll enc Tryd.prog W 0 (fun _ => true) true Tryd.f4.params.toList args.toList ds p := hA0
  clear hA0
  rw [Tryd.params4] at hA hval
  obtain ⟨v0, vs0, d0, ds0, p0, q0, hargs, rfl, rfl, h0, hA1⟩ := trodAll_cons hA
  obtain ⟨rfl, rfl, rfl⟩ := trodAll_nil hA1
  obtain rfl : args = #[v0] := by cases args; simp_all
  obtain ⟨rfl, rfl⟩ := trodVars_none hV
  obtain ⟨x0, k0, r0⟩ := top_str bulk Tryd.underlying9 (hval 0 9 v0 rfl rfl) h0
  have kk0 := (mono_len) _ _ x0 (show Rows.uptoBulk d0 ≤ 1048576 from Nat.le_trans (bulkAll_mem _ d0 (by simp)) (of_decide_eq_true hk)) k0
  refine (Lite.Fn.true_of (ok_laws_FnExactParseEvents x0 kk0) (gh_of hL hSh) (by rfl) fun i lv v hl hv => ?_).mono fun e W' ⟨he, hb⟩ => ⟨_, he, row_post laidOut (by kernel_rfl) rfl Tryd.underlying4 rfl rfl hW' hb⟩
  match i, hl, hv with
  | 0, hl, hv => cases hl; cases hv; exact r0
  | _ + 1, hl, _ => simp at hl
noncomputable def laidWorld (os : Os) : World :=
  { World.holding Tryd.prog os ⟨#[.cells #[.string ⟨#[118, 97, 108, 117, 101, 32, 111, 117, 116, 32, 111, 102, 32, 114, 97, 110, 103, 101]⟩] 136, .cells #[.string ⟨#[105, 110, 118, 97, 108, 105, 100, 32, 115, 121, 110, 116, 97, 120]⟩] 136], #[], []⟩ with heap := (World.holding Tryd.prog os ⟨#[.cells #[.string ⟨#[118, 97, 108, 117, 101, 32, 111, 117, 116, 32, 111, 102, 32, 114, 97, 110, 103, 101]⟩] 136, .cells #[.string ⟨#[105, 110, 118, 97, 108, 105, 100, 32, 115, 121, 110, 116, 97, 120]⟩] 136], #[], []⟩).heap |>.modify 4 (fun | .cells _ t frozen => .cells #[.int .u8 0, .int .u8 1, .int .u8 28, .int .u8 2, .int .u8 29, .int .u8 14, .int .u8 24, .int .u8 3, .int .u8 30, .int .u8 22, .int .u8 20, .int .u8 15, .int .u8 25, .int .u8 17, .int .u8 4, .int .u8 8, .int .u8 31, .int .u8 27, .int .u8 13, .int .u8 23, .int .u8 21, .int .u8 19, .int .u8 16, .int .u8 7, .int .u8 26, .int .u8 12, .int .u8 18, .int .u8 6, .int .u8 11, .int .u8 5, .int .u8 10, .int .u8 9] t frozen | o => o) |>.modify 5 (fun | .cells _ t frozen => .cells #[.int .u8 0, .int .u8 1, .int .u8 56, .int .u8 2, .int .u8 57, .int .u8 49, .int .u8 28, .int .u8 3, .int .u8 61, .int .u8 58, .int .u8 42, .int .u8 50, .int .u8 38, .int .u8 29, .int .u8 17, .int .u8 4, .int .u8 62, .int .u8 47, .int .u8 59, .int .u8 36, .int .u8 45, .int .u8 43, .int .u8 51, .int .u8 22, .int .u8 53, .int .u8 39, .int .u8 33, .int .u8 30, .int .u8 24, .int .u8 18, .int .u8 12, .int .u8 5, .int .u8 63, .int .u8 55, .int .u8 48, .int .u8 27, .int .u8 60, .int .u8 41, .int .u8 37, .int .u8 16, .int .u8 46, .int .u8 35, .int .u8 44, .int .u8 21, .int .u8 52, .int .u8 32, .int .u8 23, .int .u8 11, .int .u8 54, .int .u8 26, .int .u8 40, .int .u8 15, .int .u8 34, .int .u8 20, .int .u8 31, .int .u8 10, .int .u8 25, .int .u8 14, .int .u8 19, .int .u8 9, .int .u8 13, .int .u8 8, .int .u8 7, .int .u8 6] t frozen | o => o) |>.modify 0 (fun | .cells _ t frozen => .cells #[.int .u64 1, .int .u64 10, .int .u64 100, .int .u64 1000, .int .u64 10000, .int .u64 100000, .int .u64 1000000, .int .u64 10000000, .int .u64 100000000, .int .u64 1000000000, .int .u64 10000000000, .int .u64 100000000000, .int .u64 1000000000000, .int .u64 10000000000000, .int .u64 100000000000000, .int .u64 1000000000000000, .int .u64 10000000000000000, .int .u64 100000000000000000, .int .u64 1000000000000000000, .int .u64 10000000000000000000] t frozen | o => o) |>.modify 7 (fun | .cells _ t frozen => .cells #[.int .u8 128, .int .u8 191, .int .u8 160, .int .u8 191, .int .u8 128, .int .u8 159, .int .u8 144, .int .u8 191, .int .u8 128, .int .u8 143, .int .u8 0, .int .u8 0, .int .u8 0, .int .u8 0, .int .u8 0, .int .u8 0, .int .u8 0, .int .u8 0, .int .u8 0, .int .u8 0, .int .u8 0, .int .u8 0, .int .u8 0, .int .u8 0, .int .u8 0, .int .u8 0, .int .u8 0, .int .u8 0, .int .u8 0, .int .u8 0, .int .u8 0, .int .u8 0] t frozen | o => o) |>.modify 3 (fun | .cells _ t frozen => .cells #[.iface 134 (.pointer (some ⟨laidLow + 0, 0, none⟩))] t frozen | o => o) |>.modify 2 (fun | .cells _ t frozen => .cells #[.iface 134 (.pointer (some ⟨laidLow + 1, 0, none⟩))] t frozen | o => o) |>.modify 6 (fun | .cells _ t frozen => .cells (Go.Pinned.utf8FirstZ.map fun (z : Nat) => Value.int .u8 (z : Int)).toArray t frozen | o => o) }
theorem laid_met (os : Os) : laidMet Tryd.prog Rows.fnExactParseEventsUptoRow.laid ((laidWorld os).forCall (fun _ _ => 0) ⟨#[], #[.string ⟨#[]⟩], []⟩).memory :=
  laidMet_of_run' 8 (by kernel_rfl) (by kernel_rfl)
theorem reads (os : Os) {H : Type} (enc : TypeId × Value → H) : ∃ places, DataW.whole enc Tryd.prog ((laidWorld os).forCall (fun _ _ => 0) ⟨#[], #[.string ⟨#[]⟩], []⟩).memory Tryd.f4.params.toList Rows.fnExactParseEventsSpec.vars false #[(Value.string ⟨#[]⟩)].toList 12 = some ([.lit (.string [])], [], places) :=
  ⟨[], by kernel_rfl⟩
set_option maxRecDepth 100000 in
theorem lifted (os : Os) (started : os.Started) (H : Type) (enc : TypeId × Value → H) (F : Stop.Interp) :
    ReturnsInHanded {} Tryd.checked os 4 .any ((Rows.OpenSpec.upto Rows.fnExactParseEventsSpec).preRow enc Tryd.prog Tryd.f4 Rows.fnExactParseEventsUptoRow.domain false Rows.fnExactParseEventsUptoRow.laid) (((Rows.OpenSpec.upto Rows.fnExactParseEventsSpec).at F).post enc Tryd.prog Tryd.f4 false true false false) := by
  obtain ⟨places, hx⟩ := reads os enc
  refine returnsInHanded_of_row (C := Tryd.checked) (s := Rows.OpenSpec.upto Rows.fnExactParseEventsSpec) own started (by kernel_rfl) Tryd.func4
    (witness_row_at (enc := enc) (C := Tryd.checked) false (laidWorld os) #[.string ⟨#[]⟩] rfl (by kernel_rfl) (by kernel_rfl) (by kernel_rfl)
      (OpenSpec.preRow_of_cond 12 hx (by kernel_rfl) (fun k hk => by cases hk; kernel_rfl) (by kernel_rfl) (laid_met os))) ?_
  intro W base args ds gs before hval hW _ hcond _ hL hSh _
  exact contract H enc W base args ds gs before hval hW hL hSh (hcond _ rfl)
theorem said : Rows.FnExactParseEventsUptoSaid :=
  OpenClaim.holds_of_cond 4 Tryd.f4 rfl rfl rfl rfl rfl rfl rfl ⟨rfl, rfl, rfl, rfl, rfl⟩ rfl rfl rfl rfl rfl (by kernel_rfl) Tryd.func4 (by kernel_rfl)
    (of_decide_eq_true (by kernel_rfl)) (by unfold Func.isWrapper; first | (rw [if_pos (by decide +kernel)]; kernel_rfl) | (rw [if_neg (by decide +kernel)]; exact ⟨rfl, rfl⟩))
    (fun os started H enc _ F => by rw [OpenClaim.pre_eq_preRow]; exact lifted os started H enc F)
theorem plain (f : FuncId) (fn : Func) (hf : Tryd.pinned.checked.prog.funcNamed "loop.example/g03221/laws.FnExactParseEvents" = some f) (hfn : Tryd.pinned.checked.prog.funcs[f]? = some fn) :
    true = Tryd.pinned.checked.prog.looks [] ∧ ∀ (j : Nat) t, fn.params[j]? = some t → Tryd.pinned.checked.prog.wantsStandIn t = false := by
  obtain rfl : f = 4 := Option.some.inj ((show Tryd.prog.funcNamed "loop.example/g03221/laws.FnExactParseEvents" = some 4 by kernel_rfl).symm.trans hf) |>.symm
  obtain rfl : fn = Tryd.f4 := (Option.some.inj (Tryd.func4.symm.trans hfn)).symm
  refine ⟨by kernel_rfl, fun j t ht => ?_⟩
  rw [Tryd.params4] at ht
  have hm : t ∈ [9] := by simpa using Array.mem_of_getElem? ht
  have hall : ([9].all fun u => !Tryd.prog.wantsStandIn u) = true := by kernel_rfl
  exact (show Tryd.prog.wantsStandIn t = false by simpa using List.all_eq_true.1 hall t hm)
theorem proved : Rows.FnExactParseEventsUptoCardSaid :=
  Claim7.holds_tied_plain_at .later [] _ _ _ _ said (fun _ h => by cases h) (by kernel_rfl) (fun _ h => by cases h) fnExactParseEventsUpto_row_tie rfl ⟨rfl, rfl⟩ (by kernel_rfl) rfl plain (by kernel_rfl)
end Go.Proofs.YtkkijpibajigfabDoor
