/- The law FnExactIsCustom: the IsCustom of the program answers as the reference does. Conditions: none. -/
import Derived.Test.YtfknejbegmfhcaaRows
import Derived.Test.YtfknejbegmfhcaaLiteR
import Derived.WalkKit
import Derived.ProofKit
import Derived.OpenShut
import Derived.JoinedCond
set_option linter.unusedSimpArgs false
set_option linter.unusedVariables false
namespace Go.Proofs.Ytfknejbegmfhcaa
open Go Go.Lite Go.Proofs Go.ChangeShapes Go.WideShapes Go.ChangeAt Go.RowKit
structure Custom where
  prefer : Int
  youngest : Bool
  represent : Bool
  deriving Inhabited
def cCustom (fr : Bool) (x : Custom) : List LV := cInt .i64 x.prefer ++ cBool x.youngest ++ cBool x.represent

theorem ok_laws_toCustom (x : Custom) : Lite.Fn Try.prog 7 [.agg (cCustom false x)] (.agg [.int .i64 x.prefer, .bool x.youngest, .bool x.represent]) [] := by
  refine Lite.Fn.intro 14 Try.func7 (by kernel_rfl) (by kernel_rfl) (by kernel_rfl) fun w0 a w hs => ?_
  refine W.linK hs 6 [] [2] [2] (s2 := ⟨[(2, .vp 2 0)], [(2, .var [.int .i64 x.prefer, .bool x.youngest, .bool x.represent])], [3, 2, 1]⟩) (vcs := []) (by kernel_rfl) trivial fun a w hs => ?_
  refine W.ret (by kernel_rfl) ?_
  exact ret_ok hs [] (vcs := [x.prefer = x.prefer, x.youngest = x.youngest, x.represent = x.represent, Frs (.agg [.int .i64 x.prefer, .bool x.youngest, .bool x.represent])]) (by kernel_rfl) ⟨by first | rfl | (simp []; done), by first | rfl | (simp []; done), by first | rfl | (simp []; done), by simp [Frs, FrsL], trivial⟩
def l1In (x0 : Int) (x1 : Int) (x2 : Int) : Bool := (decide (x1 ≤ x0)) && (decide (x0 ≤ x2))
theorem ok_spec_l1In (x0 : Int) (x1 : Int) (x2 : Int) : Lite.Fn Try.prog 14 [.int .i64 x0, .int .i64 x1, .int .i64 x2] (.bool (l1In x0 x1 x2)) [] := by
  refine Lite.Fn.intro 15 Try.func14 (by kernel_rfl) (by kernel_rfl) (by kernel_rfl) fun w0 a w hs => ?_
  refine W.linK hs 2 [] [6] [] (s2 := ⟨[(6, .bool ((decide (x1 ≤ x0)) && (decide (x0 ≤ x2))))], [], []⟩) (vcs := [(decide (x1 ≤ x0)) = true → (decide (x1 ≤ x0)) = true, (decide (x1 ≤ x0)) = true → (decide (x1 ≤ x0)) = true, (decide (x1 ≤ x0)) = true → (decide (x1 ≤ x0)) = true]) (by kernel_rfl) ⟨fun h => h, fun h => h, fun h => h, trivial⟩ fun a w hs => ?_
  refine W.ret (by kernel_rfl) ?_
  exact ret_ok hs [] (vcs := [((decide (x1 ≤ x0)) && (decide (x0 ≤ x2))) = (l1In x0 x1 x2), Frs (.bool (l1In x0 x1 x2))]) (by kernel_rfl) ⟨by first | rfl | (simp [l1In]; done), by simp [Frs, FrsL], trivial⟩
def specIsCustom (x : Custom) : Bool := l1In x.prefer 0 4
theorem ok_spec_IsCustom (x : Custom) : Lite.Fn Try.prog 6 [.agg (cCustom false x)] (.bool (specIsCustom x)) [] := by
  refine Lite.Fn.intro 6 Try.func6 (by kernel_rfl) (by kernel_rfl) (by kernel_rfl) fun w0 a w hs => ?_
  refine W.linK hs 2 [(1002, .res (.bool (l1In x.prefer 0 4)) [])] [2] [] (s2 := ⟨[(2, .bool (l1In x.prefer 0 4))], [], [1]⟩) (vcs := [Lite.Fn Try.prog 14 [.int .i64 x.prefer, .int .i64 0, .int .i64 4] (.bool (l1In x.prefer 0 4)) []]) (by kernel_rfl) ⟨ok_spec_l1In x.prefer 0 4, trivial⟩ fun a w hs => ?_
  refine W.ret (by kernel_rfl) ?_
  exact ret_ok hs [] (vcs := [(l1In x.prefer 0 4) = (specIsCustom x), Frs (.bool (specIsCustom x))]) (by kernel_rfl) ⟨by first | rfl | (simp [specIsCustom]; done), by simp [Frs, FrsL], trivial⟩
def implIsCustom (x : Custom) : Bool := (decide (0 ≤ x.prefer)) && (decide (x.prefer ≤ 4))
theorem ok_impl_IsCustom (x : Custom) : Lite.Fn Try.prog 8 [.agg (cCustom false x)] (.bool (implIsCustom x)) [] := by
  refine Lite.Fn.intro 11 Try.func8 (by kernel_rfl) (by kernel_rfl) (by kernel_rfl) fun w0 a w hs => ?_
  refine W.linK hs 2 [] [2] [] (s2 := ⟨[(2, .bool ((decide (0 ≤ x.prefer)) && (decide (x.prefer ≤ 4))))], [], [1]⟩) (vcs := [(decide (0 ≤ x.prefer)) = true → (decide (0 ≤ x.prefer)) = true, (decide (0 ≤ x.prefer)) = true → (decide (0 ≤ x.prefer)) = true, (decide (0 ≤ x.prefer)) = true → (decide (0 ≤ x.prefer)) = true]) (by kernel_rfl) ⟨fun h => h, fun h => h, fun h => h, trivial⟩ fun a w hs => ?_
  refine W.ret (by kernel_rfl) ?_
  exact ret_ok hs [] (vcs := [((decide (0 ≤ x.prefer)) && (decide (x.prefer ≤ 4))) = (implIsCustom x), Frs (.bool (implIsCustom x))]) (by kernel_rfl) ⟨by first | rfl | (simp [implIsCustom]; done), by simp [Frs, FrsL], trivial⟩
theorem eq_IsCustom (x : Custom) : implIsCustom x = specIsCustom x := rfl
theorem ok_laws_FnExactIsCustom (x : Custom) : Lite.Fn Try.prog 3 [.agg (cCustom false x)] (.bool true) [] := by
  refine Lite.Fn.intro 14 Try.func3 (by kernel_rfl) (by kernel_rfl) (by kernel_rfl) fun w0 a w hs => ?_
  refine W.linK hs 3 [(1001, .res (.agg [.int .i64 x.prefer, .bool x.youngest, .bool x.represent]) []), (1002, .res (.bool (specIsCustom x)) []), (2001, .res (.agg [.int .i64 x.prefer, .bool x.youngest, .bool x.represent]) []), (2002, .res (.bool (implIsCustom x)) [])] [2, 3, 4] [] (s2 := ⟨[(2, .bool false), (3, .bool (specIsCustom x)), (4, .bool (implIsCustom x))], [], [1]⟩) (vcs := [Lite.Fn Try.prog 7 [.agg [.int .i64 x.prefer, .bool x.youngest, .bool x.represent]] (.agg [.int .i64 x.prefer, .bool x.youngest, .bool x.represent]) [], Lite.Fn Try.prog 6 [.agg [.int .i64 x.prefer, .bool x.youngest, .bool x.represent]] (.bool (specIsCustom x)) [], Lite.Fn Try.prog 7 [.agg [.int .i64 x.prefer, .bool x.youngest, .bool x.represent]] (.agg [.int .i64 x.prefer, .bool x.youngest, .bool x.represent]) [], Lite.Fn Try.prog 8 [.agg [.int .i64 x.prefer, .bool x.youngest, .bool x.represent]] (.bool (implIsCustom x)) []]) (by kernel_rfl) ⟨ok_laws_toCustom x, ok_spec_IsCustom x, ok_laws_toCustom x, ok_impl_IsCustom x, trivial⟩ fun a w hs => ?_
  refine W.seq (by kernel_rfl) ?_
  refine W.linK hs 1 [] [2, 13] [] (s2 := ⟨[(2, .bool false), (13, .bool (!((implIsCustom x) == (specIsCustom x))))], [], [1]⟩) (vcs := []) (by kernel_rfl) trivial fun a w hs => ?_
  refine W.cond hs (by kernel_rfl) (b := !((implIsCustom x) == (specIsCustom x))) (p := []) (by kernel_rfl) trivial (fun hc1 => ?_) (fun hc1 => ?_)
  ·
    refine W.linK hs 1 [] [2] [] (s2 := ⟨[(2, .bool false)], [], [1]⟩) (vcs := []) (by kernel_rfl) trivial fun a w hs => ?_
    refine W.ret (by kernel_rfl) ?_
    exact ret_ok hs [] (vcs := [false = true, Frs (.bool true)]) (by kernel_rfl) ⟨by first | rfl | (simp_all [eq_IsCustom]; done), by simp [Frs, FrsL], trivial⟩
  ·
    refine W.skip (by kernel_rfl) ?_
    refine W.linK hs 1 [] [2] [] (s2 := ⟨[(2, .bool true)], [], [1]⟩) (vcs := []) (by kernel_rfl) trivial fun a w hs => ?_
    refine W.ret (by kernel_rfl) ?_
    exact ret_ok hs [] (vcs := [true = true, Frs (.bool true)]) (by kernel_rfl) ⟨by first | rfl | (simp_all [eq_IsCustom]; done), by simp [Frs, FrsL], trivial⟩
theorem bulk_pos {H : Type} (d : DataW H) : 1 ≤ Rows.uptoBulk d := by
  cases d with
  | lit l => cases l <;> simp [Rows.uptoBulk]
  | _ => simp [Rows.uptoBulk]
theorem bulkAll_len {H : Type} : ∀ l : List (DataW H), l.length ≤ Rows.uptoBulkAll l
  | [] => by simp
  | d :: l => by
    have := bulk_pos d
    have := bulkAll_len l
    simp only [Rows.uptoBulkAll, List.length_cons]
    omega
theorem bulkAll_mem {H : Type} : ∀ (l : List (DataW H)) (d : DataW H), d ∈ l → Rows.uptoBulk d ≤ Rows.uptoBulkAll l
  | [], d, h => by cases h
  | e :: l, d, h => by
    simp only [Rows.uptoBulkAll]
    rcases List.mem_cons.1 h with e | h
    · rw [e]; omega
    · have := bulkAll_mem l d h
      omega
theorem bulk {H : Type} : Bulk (Rows.uptoBulk (H := H)) where
  str := fun bs => by simp [Rows.uptoBulk]
  slen := fun es sp => by
    have := bulkAll_len es
    simp only [Rows.uptoBulk]
    omega
  sel := fun es sp e he => by
    have := bulkAll_mem es e he
    simp only [Rows.uptoBulk]
    omega
  agg := fun ps p hp => by
    have := bulkAll_mem ps p hp
    simp only [Rows.uptoBulk]
    omega
theorem own : ownKnob Try.prog.godebug = none := by kernel_rfl
theorem laidOut : laidOutB Try.prog = true := by kernel_rfl
def OkCustom (b : Nat) (x : Custom) : Prop := (inR .i64 x.prefer) ∧ (True) ∧ (True) ∧ True
theorem okCustom_mono (b b' : Nat) (x : Custom) (h : b ≤ b') (hx : OkCustom b x) : OkCustom b' x := by
  obtain ⟨h0, h1, h2, _⟩ := hx
  exact ⟨(fun _ _ _ _ h => h) _ _ _ h h0, (fun _ _ _ _ h => h) _ _ _ h h1, (fun _ _ _ _ h => h) _ _ _ h h2, trivial⟩
theorem opens23 {H : Type} {enc : TypeId × Value → H} {bk : DataW H → Nat} (hb : Bulk bk) : Opens Try.prog enc bk 23 (cCustom false) OkCustom := by
  have h := opens_struct (enc := enc) hb Try.underlying23 (tot := 3) (by kernel_rfl) (opensF_cons (sz := 1) (tot := 2) (fun _ _ _ _ h => h) rfl (by kernel_rfl) (opens_int Try.underlying3) (opensF_cons (sz := 1) (tot := 1) (fun _ _ _ _ h => h) rfl (by kernel_rfl) (opens_bool Try.underlying4) (opensF_cons (sz := 1) (tot := 0) (fun _ _ _ _ h => h) rfl (by kernel_rfl) (opens_bool Try.underlying4) (opensF_nil))))
  exact h.map (fun p => ⟨p.1, p.2.1, p.2.2.1⟩) (fun p => by simp [cCustom]) (fun b p hp => by simpa [OkCustom] using hp)
theorem contract (H : Type) (enc : TypeId × Value → H) (W : World) (base : Nat) (args : Array Value) (ds gs : List (DataW H)) (before : List MemPlace)
    (hval : ∀ (j : Nat) t v, Try.f3.params[j]? = some t → args[j]? = some v → Value.okWide Try.prog W .any base t v)
    (hW : DataW.Whole enc Try.prog Try.f3.params.toList Rows.fnExactIsCustomSpec.vars false W args.toList ds gs before) :
    Calls Try.prog 3 args W fun e W' => ∃ v, e = .returned v ∧ Rows.fnExactIsCustomSpec.post enc Try.prog Try.f3 false true false false W args v W' := by
  have hW' := hW
  obtain ⟨p, q, hA0, hV, hpq, hfz, hnd⟩ := hW
  have hA : DataW.TrodAll enc Try.prog W 0 (fun _ => true) true Try.f3.params.toList args.toList ds p := hA0
  clear hA0
  rw [Try.params3] at hA hval
  obtain ⟨v0, vs0, d0, ds0, p0, q0, hargs, rfl, rfl, h0, hA1⟩ := trodAll_cons hA
  obtain ⟨rfl, rfl, rfl⟩ := trodAll_nil hA1
  obtain rfl : args = #[v0] := by cases args; simp_all
  obtain ⟨rfl, rfl⟩ := trodVars_none hV
  obtain ⟨x0, k0, r0⟩ := top_struct (opens23 bulk) Try.underlying23 (hval 0 23 v0 rfl rfl) h0
  refine (Lite.Fn.true_of (ok_laws_FnExactIsCustom x0) (by rfl) fun i lv v hl hv => ?_).mono fun e W' ⟨he, hb⟩ => ⟨_, he, row_post laidOut (by kernel_rfl) rfl Try.underlying4 rfl rfl hW' hb⟩
  match i, hl, hv with
  | 0, hl, hv => cases hl; cases hv; exact r0
  | _ + 1, hl, _ => simp at hl
set_option maxRecDepth 100000 in
theorem lifted (os : Os) (started : os.Started) (H : Type) (enc : TypeId × Value → H) :
    ReturnsInHanded {} Try.checked os 3 .any (Rows.fnExactIsCustomSpec.pre6 enc Try.prog Try.f3 Rows.fnExactIsCustomRow.domain false) (Rows.fnExactIsCustomSpec.post enc Try.prog Try.f3 false true false false) := by
  refine returnsInHanded_of_change (C := Try.checked) own started (by kernel_rfl) Try.func3
    (ChangeSpec.witness6 (enc := enc) (C := Try.checked) false ⟨#[], #[.agg #[.int .i64 0, .bool false, .bool false]], []⟩ 12 (by kernel_rfl) (by kernel_rfl) (by kernel_rfl) (by kernel_rfl)) ?_
  intro W base args ds gs before hval hW _ _
  exact contract H enc W base args ds gs before hval hW
theorem proved : Rows.FnExactIsCustomSaid :=
  OpenClaim.holds_of_wide 3 Try.f3 rfl rfl rfl rfl rfl rfl rfl ⟨rfl, rfl, rfl, rfl, rfl⟩ rfl rfl rfl rfl rfl (by kernel_rfl) Try.func3 (by kernel_rfl)
    (of_decide_eq_true (by kernel_rfl)) (by unfold Func.isWrapper; first | (rw [if_pos (by decide +kernel)]; kernel_rfl) | (rw [if_neg (by decide +kernel)]; exact ⟨rfl, rfl⟩))
    (fun os started H enc _ => lifted os started H enc)
end Go.Proofs.Ytfknejbegmfhcaa
