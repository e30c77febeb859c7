/- Laws and customs are read back from their text (FnSpoken). Conditions: none beyond the given row's (what it reads is of bulk at most 1048576). -/
import Derived.Test.YtepefimocflfkabDoorCards
import Derived.Test.YtepefimocflfkabDoorTie
import Derived.Stop.LaidErr
import Derived.LaidLaws
import Derived.Shelf.Vars
import Derived.Test.YtepefimocflfkabDoorM213
import Derived.Test.YtepefimocflfkabDoorLiteV
import Derived.WalkKit
import Derived.ProofKit
import Derived.OpenShut
import Derived.JoinedCond
set_option maxHeartbeats 4000000
set_option linter.unusedSimpArgs false
set_option linter.unusedVariables false
namespace Go.Proofs.YtepefimocflfkabDoor
open Go Go.Lite Go.Proofs Go.ChangeShapes Go.WideShapes Go.ChangeAt Go.RowKit
def C5 (R : Bool) : LV × List (Nat × BC) := (.bool R, [])
def laws_FnSpoken_m (x0 : List Int) : Bool := bif (decide (1048576 < ((x0.length : Nat) : Int))) then true else (((((implParseLaw (implFmtLaw (makeLaw x0))).2) && ((implParse (implFormat (Custom.mk ((at1 x0 1).tmod 5) (decide (((at1 x0 2).tmod 2) = 0)) (decide (((at1 x0 3).tmod 2) = 0))))).2)) && ((decide ((((implParseLaw (implFmtLaw (makeLaw x0))).1).degree) = ((makeLaw x0).degree))) && ((decide ((((implParseLaw (implFmtLaw (makeLaw x0))).1).canon) = ((makeLaw x0).canon))) && ((decide ((((implParseLaw (implFmtLaw (makeLaw x0))).1).affinity) = ((makeLaw x0).affinity))) && ((decide ((((implParseLaw (implFmtLaw (makeLaw x0))).1).age) = ((makeLaw x0).age))) && ((decide ((((implParseLaw (implFmtLaw (makeLaw x0))).1).wives) = ((makeLaw x0).wives))) && ((decide ((((implParseLaw (implFmtLaw (makeLaw x0))).1).husbands) = ((makeLaw x0).husbands))) && (((((implParseLaw (implFmtLaw (makeLaw x0))).1).patriline) == ((makeLaw x0).patriline)) && (((((implParseLaw (implFmtLaw (makeLaw x0))).1).matriline) == ((makeLaw x0).matriline)) && true))))))))) && ((decide (((at1 x0 1).tmod 5) = (((implParse (implFormat (Custom.mk ((at1 x0 1).tmod 5) (decide (((at1 x0 2).tmod 2) = 0)) (decide (((at1 x0 3).tmod 2) = 0))))).1).prefer))) && (((decide (((at1 x0 2).tmod 2) = 0)) == (((implParse (implFormat (Custom.mk ((at1 x0 1).tmod 5) (decide (((at1 x0 2).tmod 2) = 0)) (decide (((at1 x0 3).tmod 2) = 0))))).1).youngest)) && (((decide (((at1 x0 3).tmod 2) = 0)) == (((implParse (implFormat (Custom.mk ((at1 x0 1).tmod 5) (decide (((at1 x0 2).tmod 2) = 0)) (decide (((at1 x0 3).tmod 2) = 0))))).1).represent)) && true))))
def A5 (x0 : List Int) : Ann := r0 1 [0, 2] [] (r0 1 [0, 2, 11] [] (cn (decide (1048576 < ((x0.length : Nat) : Int))) (r0 1 [0, 2] [] (rt [] (C5 true))) (.reg 5 [] [(1, k12 x0), (1001, k13 x0 1), (1004, k13 x0 2), (1008, k13 x0 3), (2001, k8 (makeLaw x0)), (2002, k10 (implFmtLaw (makeLaw x0))), (3001, k15 (Custom.mk ((at1 x0 1).tmod 5) (decide (((at1 x0 2).tmod 2) = 0)) (decide (((at1 x0 3).tmod 2) = 0)))), (3002, k14 (implFormat (Custom.mk ((at1 x0 1).tmod 5) (decide (((at1 x0 2).tmod 2) = 0)) (decide (((at1 x0 3).tmod 2) = 0)))))] [2] [] [(implParseLaw (implFmtLaw (makeLaw x0))).2, ((implParseLaw (implFmtLaw (makeLaw x0))).2) && ((implParse (implFormat (Custom.mk ((at1 x0 1).tmod 5) (decide (((at1 x0 2).tmod 2) = 0)) (decide (((at1 x0 3).tmod 2) = 0))))).2), (((implParseLaw (implFmtLaw (makeLaw x0))).2) && ((implParse (implFormat (Custom.mk ((at1 x0 1).tmod 5) (decide (((at1 x0 2).tmod 2) = 0)) (decide (((at1 x0 3).tmod 2) = 0))))).2)) && ((decide ((((implParseLaw (implFmtLaw (makeLaw x0))).1).degree) = ((makeLaw x0).degree))) && ((decide ((((implParseLaw (implFmtLaw (makeLaw x0))).1).canon) = ((makeLaw x0).canon))) && ((decide ((((implParseLaw (implFmtLaw (makeLaw x0))).1).affinity) = ((makeLaw x0).affinity))) && ((decide ((((implParseLaw (implFmtLaw (makeLaw x0))).1).age) = ((makeLaw x0).age))) && ((decide ((((implParseLaw (implFmtLaw (makeLaw x0))).1).wives) = ((makeLaw x0).wives))) && ((decide ((((implParseLaw (implFmtLaw (makeLaw x0))).1).husbands) = ((makeLaw x0).husbands))) && (((((implParseLaw (implFmtLaw (makeLaw x0))).1).patriline) == ((makeLaw x0).patriline)) && (((((implParseLaw (implFmtLaw (makeLaw x0))).1).matriline) == ((makeLaw x0).matriline)) && true))))))))] [pf ((5 : Int) ≠ 0), pf ((2 : Int) ≠ 0)] [] [8, 12, 0, 16, 4, 20, 4, 24, 28, 32, 36, 1, 5, 5, 5, 9, 9, 9] (rt [] (C5 (((((implParseLaw (implFmtLaw (makeLaw x0))).2) && ((implParse (implFormat (Custom.mk ((at1 x0 1).tmod 5) (decide (((at1 x0 2).tmod 2) = 0)) (decide (((at1 x0 3).tmod 2) = 0))))).2)) && ((decide ((((implParseLaw (implFmtLaw (makeLaw x0))).1).degree) = ((makeLaw x0).degree))) && ((decide ((((implParseLaw (implFmtLaw (makeLaw x0))).1).canon) = ((makeLaw x0).canon))) && ((decide ((((implParseLaw (implFmtLaw (makeLaw x0))).1).affinity) = ((makeLaw x0).affinity))) && ((decide ((((implParseLaw (implFmtLaw (makeLaw x0))).1).age) = ((makeLaw x0).age))) && ((decide ((((implParseLaw (implFmtLaw (makeLaw x0))).1).wives) = ((makeLaw x0).wives))) && ((decide ((((implParseLaw (implFmtLaw (makeLaw x0))).1).husbands) = ((makeLaw x0).husbands))) && (((((implParseLaw (implFmtLaw (makeLaw x0))).1).patriline) == ((makeLaw x0).patriline)) && (((((implParseLaw (implFmtLaw (makeLaw x0))).1).matriline) == ((makeLaw x0).matriline)) && true))))))))) && ((decide (((at1 x0 1).tmod 5) = (((implParse (implFormat (Custom.mk ((at1 x0 1).tmod 5) (decide (((at1 x0 2).tmod 2) = 0)) (decide (((at1 x0 3).tmod 2) = 0))))).1).prefer))) && (((decide (((at1 x0 2).tmod 2) = 0)) == (((implParse (implFormat (Custom.mk ((at1 x0 1).tmod 5) (decide (((at1 x0 2).tmod 2) = 0)) (decide (((at1 x0 3).tmod 2) = 0))))).1).youngest)) && (((decide (((at1 x0 3).tmod 2) = 0)) == (((implParse (implFormat (Custom.mk ((at1 x0 1).tmod 5) (decide (((at1 x0 2).tmod 2) = 0)) (decide (((at1 x0 3).tmod 2) = 0))))).1).represent)) && true)))))))))
theorem law_FnSpoken {x0 : List Int} (hx : x0.length ≤ 1048576 ∧ ∀ y ∈ x0, inR .u8 y) : laws_FnSpoken_m x0 = true := by
  have h1 := at1_rng (bytes_ok hx).2 (i := 1) (by omega)
  have hl : specIsLaw (makeLaw x0) = true := by
    unfold makeLaw
    exact l9Law_ok (l01New_ok (bytes_ok hx).2 (bytes_ok hx).1)
  unfold laws_FnSpoken_m
  rw [law_read hl, custom_read (by rw [Int.tmod_eq_emod_of_nonneg (by omega)]; omega), decide_eq_false (by have := hx.1; omega)]
  simp
theorem ok_laws_FnSpoken (x0 : List Int) (hx0 : x0.length ≤ 1048576 ∧ ∀ y ∈ x0, inR .u8 y) : FnT Tryd.prog 5 [.ro false 1 x0.length (rowOf (cInt .u8) x0)] (C5 true) := by
  have aux : ∀ R, laws_FnSpoken_m x0 = R → slim (C5 R) (A5 x0) [] := by
    intro R hR
    refine rg trivial ?_
    refine rg trivial ?_
    revert hR; refine cd (fun hc1 hR => ?_) fun hc1 hR => ?_
    ·
      refine rg trivial ?_
      exact congrArg C5 hR
    ·
      refine rg ⟨by (intros; omega), by (intros; omega), ⟨by (intros; omega), by (with_reducible exact (bytes_ok hx0).2)⟩, ⟨by (intros; omega), by (with_reducible exact (bytes_ok hx0).2), by (intros; omega)⟩, ⟨by (intros; omega), by (with_reducible exact (bytes_ok hx0).2), by (intros; omega)⟩, ⟨by (intros; omega), by (with_reducible exact (bytes_ok hx0).2), by (intros; omega)⟩, trivial, by (have h9 := fmtLaw_len (makeLaw x0); omega), trivial, trivial, trivial⟩ ?_
      exact congrArg C5 hR
  exact Fn.go 52 Tryd.func5 (by kernel_rfl) (by kernel_rfl) (by simp [C5, Frs, FrsL]) (A5 x0) (by kernel_rfl) (aux _ (law_FnSpoken hx0))
theorem bulk_pos {H : Type} (d : DataW H) : 1 ≤ Rows.uptoBulk d := by
  cases d with
  | lit l => cases l <;> simp [Rows.uptoBulk]
  | _ => simp [Rows.uptoBulk]
theorem bulkAll_len {H : Type} : ∀ l : List (DataW H), l.length ≤ Rows.uptoBulkAll l
  | [] => by simp
  | d :: l => by
    have := bulk_pos d
    have := bulkAll_len l
    simp only [Rows.uptoBulkAll, List.length_cons]
    omega
theorem bulkAll_mem {H : Type} : ∀ (l : List (DataW H)) (d : DataW H), d ∈ l → Rows.uptoBulk d ≤ Rows.uptoBulkAll l
  | [], d, h => by cases h
  | e :: l, d, h => by
    simp only [Rows.uptoBulkAll]
    rcases List.mem_cons.1 h with e | h
    · rw [e]; omega
    · have := bulkAll_mem l d h
      omega
theorem bulk {H : Type} : Bulk (Rows.uptoBulk (H := H)) where
  str := fun bs => by simp [Rows.uptoBulk]
  slen := fun es sp => by
    have := bulkAll_len es
    simp only [Rows.uptoBulk]
    omega
  sel := fun es sp e he => by
    have := bulkAll_mem es e he
    simp only [Rows.uptoBulk]
    omega
  agg := fun ps p hp => by
    have := bulkAll_mem ps p hp
    simp only [Rows.uptoBulk]
    omega
theorem own : ownKnob Tryd.prog.godebug = none := by kernel_rfl
theorem laidOut : laidOutB Tryd.prog = true := by kernel_rfl
theorem gPowVar : Tryd.prog.globalNamed "internal/strconv.uint64pow10" = some 1 := by kernel_rfl
theorem gPowType : (Tryd.prog.globals[1]?).map (·.type) = some 91 := by kernel_rfl
theorem gErrVar : Tryd.prog.globalNamed "strconv.ErrSyntax" = some 3 := by kernel_rfl
theorem gErrType : (Tryd.prog.globals[3]?).map (·.type) = some 60 := by kernel_rfl
theorem gStar : "*" ++ "errors.errorString" = "*errors.errorString" := by decide
theorem gErrRow (u : TypeId) (h : Tryd.prog.typeName? 3 u = some "*errors.errorString") : u = 112 :=
  typeName_ptr_named (nm := "errors.errorString") (by rw [gStar]; kernel_rfl) (by kernel_rfl) (by decide) u (by rw [gStar]; exact h)
theorem gVar : Tryd.prog.globalNamed "loop.example/g03221/impl.preferWords" = some 0 := by kernel_rfl
theorem gVarType : (Tryd.prog.globals[0]?).map (·.type) = some 56 := by kernel_rfl
theorem gh_of {W : World} (hm : laidMetH Tryd.prog Rows.fnSpokenUptoRow.laid W) (hs : W.ShapedOpen Tryd.prog) : GH W := by
  have h : laidMet Tryd.prog Rows.fnSpokenUptoRow.laid W := hm
  have hp : Lib.TabIs Tryd.prog W "internal/strconv.uint64pow10" .u64 gPow := Lib.tabIs_of_head gPowVar gPowType Tryd.underlying91 Tryd.underlying74 (by kernel_rfl) (by kernel_rfl) (h.tail.tail)
  obtain ⟨a, s, he, _⟩ := laid_sentinel (h.tail.tail.tail.tail.tail) gErrVar gErrType Tryd.underlying60 gErrRow Tryd.underlying112 Tryd.underlying114 rfl rfl Tryd.underlying9 (by kernel_rfl) (by kernel_rfl)
  have hx : W.cell? ⟨3, 0, none⟩ = some (.iface 112 (.pointer (some a))) := by simpa using World.var?_cell gErrVar he 0
  have hm := cell_of_shapedOpen_int (k := .i64) hs (g := 2) (t := 3) (zero := #[.int .i64 0]) (of_decide_eq_true (by kernel_rfl)) (by kernel_rfl) rfl (by kernel_rfl) (by kernel_rfl) (by kernel_rfl)
  have hq : ∃ t f, W.heap[1]? = some (.cells (gPow.map fun z => Value.int .u64 z).toArray t f) := by
    unfold Lib.TabIs World.var? at hp
    rw [gPowVar] at hp
    simp only [Option.bind_some] at hp
    split at hp
    · rename_i cs t f e; cases hp; exact ⟨t, f, e⟩
    · cases hp
  have hz : 4 ≤ W.heap.size := by
    unfold World.cell? at hx
    cases e : W.heap[3]? with
    | none => simp [e] at hx
    | some o => have := (Array.getElem?_eq_some_iff.1 e).1; omega
  have hw := words_of_head (ws := gWords) gVar gVarType Tryd.underlying56 Tryd.underlying9 (by kernel_rfl) (by kernel_rfl) (h.tail.tail.tail.tail.tail.tail)
  exact ⟨⟨hz, fun j hj => hw.2 j hj⟩, hq, hm, _, _, hx⟩
noncomputable def laidLow : Nat := (World.holding Tryd.prog default ⟨#[], #[], []⟩).heap.size
set_option maxRecDepth 100000 in
theorem contract (H : Type) (enc : TypeId × Value → H) (W : World) (base : Nat) (args : Array Value) (ds gs : List (DataW H)) (before : List MemPlace)
    (hval : ∀ (j : Nat) t v, Tryd.f5.params[j]? = some t → args[j]? = some v → Value.okWide Tryd.prog W .any base t v)
    (hW : DataW.Whole enc Tryd.prog Tryd.f5.params.toList Rows.fnSpokenSpec.vars false W args.toList ds gs before) (hL : laidMetH Tryd.prog Rows.fnSpokenUptoRow.laid W) (hSh : W.ShapedOpen Tryd.prog) (hk : Rows.uptoSmall H (ds ++ gs) = true) :
    Calls Tryd.prog 5 args W fun e W' => ∃ v, e = .returned v ∧ Rows.fnSpokenSpec.post enc Tryd.prog Tryd.f5 false true false false W args v W' := by
  have hW' := hW
  obtain ⟨p, q, hA0, hV, hpq, hfz, hnd⟩ := hW
  have hA : DataW.TrodAll enc Tryd.prog W 0 (fun _ => true) true Tryd.f5.params.toList args.toList ds p := hA0
  clear hA0
  rw [Tryd.params5] at hA hval
  obtain ⟨v0, vs0, d0, ds0, p0, q0, hargs, rfl, rfl, h0, hA1⟩ := trodAll_cons hA
  obtain ⟨rfl, rfl, rfl⟩ := trodAll_nil hA1
  obtain rfl : args = #[v0] := by cases args; simp_all
  obtain ⟨g0, rfl⟩ : ∃ g0, gs = [g0] := by
    match gs, hV with
    | [], hV => exact hV.elim
    | [g0], _ => exact ⟨g0, rfl⟩
    | _ :: _ :: _, hV => obtain ⟨_, _, _, _, _, _, _, _, _, _, hV, _⟩ := hV; exact hV.elim
  obtain ⟨x0, k0, r0⟩ := top_slice (opens_slice bulk (mono_triv (p := fun (n : Int) => inR .u8 n)) Tryd.underlying32 (sz := 1) (by kernel_rfl) (by omega) (opens_int Tryd.underlying5)) Tryd.underlying32 (hval 0 32 v0 rfl rfl) h0
  have kk0 := ((mono_sl (mono_triv (p := fun (n : Int) => inR .u8 n)))) _ _ x0 (show Rows.uptoBulk d0 ≤ 1048576 from Nat.le_trans (bulkAll_mem _ d0 (by simp)) (of_decide_eq_true hk)) k0
  refine (Lite.Fn.true_of (ok_laws_FnSpoken x0 kk0) (gh_of hL hSh) (by rfl) fun i lv v hl hv => ?_).mono fun e W' ⟨he, hb⟩ => ⟨_, he, row_post_vars laidOut (by kernel_rfl) rfl Tryd.underlying4 (by kernel_rfl) rfl hW' hb⟩
  match i, hl, hv with
  | 0, hl, hv => cases hl; cases hv; exact r0
  | _ + 1, hl, _ => simp at hl
noncomputable def laidWorld (os : Os) : World :=
  { World.holding Tryd.prog os ⟨#[.cells #[.string ⟨#[118, 97, 108, 117, 101, 32, 111, 117, 116, 32, 111, 102, 32, 114, 97, 110, 103, 101]⟩] 114, .cells #[.string ⟨#[105, 110, 118, 97, 108, 105, 100, 32, 115, 121, 110, 116, 97, 120]⟩] 114], #[], []⟩ with heap := (World.holding Tryd.prog os ⟨#[.cells #[.string ⟨#[118, 97, 108, 117, 101, 32, 111, 117, 116, 32, 111, 102, 32, 114, 97, 110, 103, 101]⟩] 114, .cells #[.string ⟨#[105, 110, 118, 97, 108, 105, 100, 32, 115, 121, 110, 116, 97, 120]⟩] 114], #[], []⟩).heap |>.modify 7 (fun | .cells _ t frozen => .cells #[.int .u8 0, .int .u8 1, .int .u8 28, .int .u8 2, .int .u8 29, .int .u8 14, .int .u8 24, .int .u8 3, .int .u8 30, .int .u8 22, .int .u8 20, .int .u8 15, .int .u8 25, .int .u8 17, .int .u8 4, .int .u8 8, .int .u8 31, .int .u8 27, .int .u8 13, .int .u8 23, .int .u8 21, .int .u8 19, .int .u8 16, .int .u8 7, .int .u8 26, .int .u8 12, .int .u8 18, .int .u8 6, .int .u8 11, .int .u8 5, .int .u8 10, .int .u8 9] t frozen | o => o) |>.modify 8 (fun | .cells _ t frozen => .cells #[.int .u8 0, .int .u8 1, .int .u8 56, .int .u8 2, .int .u8 57, .int .u8 49, .int .u8 28, .int .u8 3, .int .u8 61, .int .u8 58, .int .u8 42, .int .u8 50, .int .u8 38, .int .u8 29, .int .u8 17, .int .u8 4, .int .u8 62, .int .u8 47, .int .u8 59, .int .u8 36, .int .u8 45, .int .u8 43, .int .u8 51, .int .u8 22, .int .u8 53, .int .u8 39, .int .u8 33, .int .u8 30, .int .u8 24, .int .u8 18, .int .u8 12, .int .u8 5, .int .u8 63, .int .u8 55, .int .u8 48, .int .u8 27, .int .u8 60, .int .u8 41, .int .u8 37, .int .u8 16, .int .u8 46, .int .u8 35, .int .u8 44, .int .u8 21, .int .u8 52, .int .u8 32, .int .u8 23, .int .u8 11, .int .u8 54, .int .u8 26, .int .u8 40, .int .u8 15, .int .u8 34, .int .u8 20, .int .u8 31, .int .u8 10, .int .u8 25, .int .u8 14, .int .u8 19, .int .u8 9, .int .u8 13, .int .u8 8, .int .u8 7, .int .u8 6] t frozen | o => o) |>.modify 1 (fun | .cells _ t frozen => .cells #[.int .u64 1, .int .u64 10, .int .u64 100, .int .u64 1000, .int .u64 10000, .int .u64 100000, .int .u64 1000000, .int .u64 10000000, .int .u64 100000000, .int .u64 1000000000, .int .u64 10000000000, .int .u64 100000000000, .int .u64 1000000000000, .int .u64 10000000000000, .int .u64 100000000000000, .int .u64 1000000000000000, .int .u64 10000000000000000, .int .u64 100000000000000000, .int .u64 1000000000000000000, .int .u64 10000000000000000000] t frozen | o => o) |>.modify 6 (fun | .cells _ t frozen => .cells #[.int .u8 128, .int .u8 191, .int .u8 160, .int .u8 191, .int .u8 128, .int .u8 159, .int .u8 144, .int .u8 191, .int .u8 128, .int .u8 143, .int .u8 0, .int .u8 0, .int .u8 0, .int .u8 0, .int .u8 0, .int .u8 0, .int .u8 0, .int .u8 0, .int .u8 0, .int .u8 0, .int .u8 0, .int .u8 0, .int .u8 0, .int .u8 0, .int .u8 0, .int .u8 0, .int .u8 0, .int .u8 0, .int .u8 0, .int .u8 0, .int .u8 0, .int .u8 0] t frozen | o => o) |>.modify 4 (fun | .cells _ t frozen => .cells #[.iface 112 (.pointer (some ⟨laidLow + 0, 0, none⟩))] t frozen | o => o) |>.modify 3 (fun | .cells _ t frozen => .cells #[.iface 112 (.pointer (some ⟨laidLow + 1, 0, none⟩))] t frozen | o => o) |>.modify 0 (fun | .cells _ t frozen => .cells #[.string ⟨#[97, 110, 121]⟩, .string ⟨#[109, 101, 110]⟩, .string ⟨#[119, 111, 109, 101, 110]⟩, .string ⟨#[111, 110, 108, 121, 32, 109, 101, 110]⟩, .string ⟨#[111, 110, 108, 121, 32, 119, 111, 109, 101, 110]⟩] t frozen | o => o) |>.modify 5 (fun | .cells _ t frozen => .cells (Go.Pinned.utf8FirstZ.map fun (z : Nat) => Value.int .u8 (z : Int)).toArray t frozen | o => o) }
theorem laid_met (os : Os) : laidMet Tryd.prog Rows.fnSpokenUptoRow.laid ((laidWorld os).forCall (fun _ _ => 0) ⟨#[], #[.slice none 0 0], []⟩).memory :=
  laidMet_of_run' 8 (by kernel_rfl) (by kernel_rfl)
theorem reads (os : Os) {H : Type} (enc : TypeId × Value → H) : ∃ places, DataW.whole enc Tryd.prog ((laidWorld os).forCall (fun _ _ => 0) ⟨#[], #[.slice none 0 0], []⟩).memory Tryd.f5.params.toList Rows.fnSpokenSpec.vars false #[(Value.slice none 0 0)].toList 12 = some ([.nil], [.agg (gWords.map fun s => .lit (.string s))], places) :=
  ⟨[.cell 0 0, .cell 0 1, .cell 0 2, .cell 0 3, .cell 0 4], by kernel_rfl⟩
set_option maxRecDepth 100000 in
theorem lifted (os : Os) (started : os.Started) (H : Type) (enc : TypeId × Value → H) (F : Stop.Interp) :
    ReturnsInHanded {} Tryd.checked os 5 .any ((Rows.OpenSpec.upto Rows.fnSpokenSpec).preRow enc Tryd.prog Tryd.f5 Rows.fnSpokenUptoRow.domain false Rows.fnSpokenUptoRow.laid) (((Rows.OpenSpec.upto Rows.fnSpokenSpec).at F).post enc Tryd.prog Tryd.f5 false true false false) := by
  obtain ⟨places, hx⟩ := reads os enc
  refine returnsInHanded_of_row (C := Tryd.checked) (s := Rows.OpenSpec.upto Rows.fnSpokenSpec) own started (by kernel_rfl) Tryd.func5
    (witness_row_at (enc := enc) (C := Tryd.checked) false (laidWorld os) #[.slice none 0 0] rfl (by kernel_rfl) (by kernel_rfl) (by kernel_rfl)
      (OpenSpec.preRow_of_cond 12 hx (by kernel_rfl) (fun k hk => by cases hk; kernel_rfl) (by kernel_rfl) (laid_met os))) ?_
  intro W base args ds gs before hval hW _ hcond _ hL hSh _
  exact contract H enc W base args ds gs before hval hW hL hSh (hcond _ rfl)
theorem said : Rows.FnSpokenUptoSaid :=
  OpenClaim.holds_of_cond 5 Tryd.f5 rfl rfl rfl rfl rfl rfl rfl ⟨rfl, rfl, rfl, rfl, rfl⟩ rfl rfl rfl rfl rfl (by kernel_rfl) Tryd.func5 (by kernel_rfl)
    (of_decide_eq_true (by kernel_rfl)) (by unfold Func.isWrapper; first | (rw [if_pos (by decide +kernel)]; kernel_rfl) | (rw [if_neg (by decide +kernel)]; exact ⟨rfl, rfl⟩))
    (fun os started H enc _ F => by rw [OpenClaim.pre_eq_preRow]; exact lifted os started H enc F)
theorem plain (f : FuncId) (fn : Func) (hf : Tryd.pinned.checked.prog.funcNamed "loop.example/g03221/laws.FnSpoken" = some f) (hfn : Tryd.pinned.checked.prog.funcs[f]? = some fn) :
    true = Tryd.pinned.checked.prog.looks [] ∧ ∀ (j : Nat) t, fn.params[j]? = some t → Tryd.pinned.checked.prog.wantsStandIn t = false := by
  obtain rfl : f = 5 := Option.some.inj ((show Tryd.prog.funcNamed "loop.example/g03221/laws.FnSpoken" = some 5 by kernel_rfl).symm.trans hf) |>.symm
  obtain rfl : fn = Tryd.f5 := (Option.some.inj (Tryd.func5.symm.trans hfn)).symm
  refine ⟨by kernel_rfl, fun j t ht => ?_⟩
  rw [Tryd.params5] at ht
  have hm : t ∈ [32] := by simpa using Array.mem_of_getElem? ht
  have hall : ([32].all fun u => !Tryd.prog.wantsStandIn u) = true := by kernel_rfl
  exact (show Tryd.prog.wantsStandIn t = false by simpa using List.all_eq_true.1 hall t hm)
theorem proved : Rows.FnSpokenUptoCardSaid :=
  Claim7.holds_tied_plain_at .later [] _ _ _ _ said (fun _ h => by cases h) (by kernel_rfl) (fun _ h => by cases h) fnSpokenUpto_row_tie rfl ⟨rfl, rfl⟩ (by kernel_rfl) rfl plain (by kernel_rfl)
end Go.Proofs.YtepefimocflfkabDoor
