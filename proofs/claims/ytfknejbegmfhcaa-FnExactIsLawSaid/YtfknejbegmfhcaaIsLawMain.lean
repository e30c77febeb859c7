/- The law FnExactIsLaw: the IsLaw of the program answers as the reference does. Conditions: none. -/
import Derived.Test.YtfknejbegmfhcaaRows
import Derived.Test.YtfknejbegmfhcaaLiteR
import Derived.WalkKit
import Derived.ProofKit
import Derived.OpenShut
import Derived.JoinedCond
set_option linter.unusedSimpArgs false
set_option linter.unusedVariables false
namespace Go.Proofs.Ytfknejbegmfhcaa
open Go Go.Lite Go.Proofs Go.ChangeShapes Go.WideShapes Go.ChangeAt Go.RowKit
structure Law where
  degree : Int
  canon : Int
  affinity : Int
  age : Int
  wives : Int
  husbands : Int
  patriline : Bool
  matriline : Bool
  deriving Inhabited
def cLaw (fr : Bool) (x : Law) : List LV := cInt .i64 x.degree ++ cInt .i64 x.canon ++ cInt .i64 x.affinity ++ cInt .i64 x.age ++ cInt .i64 x.wives ++ cInt .i64 x.husbands ++ cBool x.patriline ++ cBool x.matriline

theorem ok_laws_toLaw (x : Law) : Lite.Fn Try.prog 10 [.agg (cLaw false x)] (.agg [.int .i64 x.degree, .int .i64 x.canon, .int .i64 x.affinity, .int .i64 x.age, .int .i64 x.wives, .int .i64 x.husbands, .bool x.patriline, .bool x.matriline]) [] := by
  refine Lite.Fn.intro 29 Try.func10 (by kernel_rfl) (by kernel_rfl) (by kernel_rfl) fun w0 a w hs => ?_
  refine W.linK hs 11 [] [2] [2] (s2 := ⟨[(2, .vp 2 0)], [(2, .var [.int .i64 x.degree, .int .i64 x.canon, .int .i64 x.affinity, .int .i64 x.age, .int .i64 x.wives, .int .i64 x.husbands, .bool x.patriline, .bool x.matriline])], [3, 2, 1]⟩) (vcs := []) (by kernel_rfl) trivial fun a w hs => ?_
  refine W.ret (by kernel_rfl) ?_
  exact ret_ok hs [] (vcs := [x.degree = x.degree, x.canon = x.canon, x.affinity = x.affinity, x.age = x.age, x.wives = x.wives, x.husbands = x.husbands, x.patriline = x.patriline, x.matriline = x.matriline, Frs (.agg [.int .i64 x.degree, .int .i64 x.canon, .int .i64 x.affinity, .int .i64 x.age, .int .i64 x.wives, .int .i64 x.husbands, .bool x.patriline, .bool x.matriline])]) (by kernel_rfl) ⟨by first | rfl | (simp []; done), by first | rfl | (simp []; done), by first | rfl | (simp []; done), by first | rfl | (simp []; done), by first | rfl | (simp []; done), by first | rfl | (simp []; done), by first | rfl | (simp []; done), by first | rfl | (simp []; done), by simp [Frs, FrsL], trivial⟩
def l1In (x0 : Int) (x1 : Int) (x2 : Int) : Bool := (decide (x1 ≤ x0)) && (decide (x0 ≤ x2))
theorem ok_spec_l1In (x0 : Int) (x1 : Int) (x2 : Int) : Lite.Fn Try.prog 14 [.int .i64 x0, .int .i64 x1, .int .i64 x2] (.bool (l1In x0 x1 x2)) [] := by
  refine Lite.Fn.intro 15 Try.func14 (by kernel_rfl) (by kernel_rfl) (by kernel_rfl) fun w0 a w hs => ?_
  refine W.linK hs 2 [] [6] [] (s2 := ⟨[(6, .bool ((decide (x1 ≤ x0)) && (decide (x0 ≤ x2))))], [], []⟩) (vcs := [(decide (x1 ≤ x0)) = true → (decide (x1 ≤ x0)) = true, (decide (x1 ≤ x0)) = true → (decide (x1 ≤ x0)) = true, (decide (x1 ≤ x0)) = true → (decide (x1 ≤ x0)) = true]) (by kernel_rfl) ⟨fun h => h, fun h => h, fun h => h, trivial⟩ fun a w hs => ?_
  refine W.ret (by kernel_rfl) ?_
  exact ret_ok hs [] (vcs := [((decide (x1 ≤ x0)) && (decide (x0 ≤ x2))) = (l1In x0 x1 x2), Frs (.bool (l1In x0 x1 x2))]) (by kernel_rfl) ⟨by first | rfl | (simp [l1In]; done), by simp [Frs, FrsL], trivial⟩
def implIsLaw1 (x0 : Int) (x1 : Int) (x2 : Int) : Bool := (decide (x1 ≤ x0)) && (decide (x0 ≤ x2))
theorem ok_impl_IsLaw_1 (x0 : Int) (x1 : Int) (x2 : Int) : Lite.Fn Try.prog 15 [.int .i64 x0, .int .i64 x1, .int .i64 x2] (.bool (implIsLaw1 x0 x1 x2)) [] := by
  refine Lite.Fn.intro 15 Try.func15 (by kernel_rfl) (by kernel_rfl) (by kernel_rfl) fun w0 a w hs => ?_
  refine W.linK hs 2 [] [6] [] (s2 := ⟨[(6, .bool ((decide (x1 ≤ x0)) && (decide (x0 ≤ x2))))], [], []⟩) (vcs := [(decide (x1 ≤ x0)) = true → (decide (x1 ≤ x0)) = true, (decide (x1 ≤ x0)) = true → (decide (x1 ≤ x0)) = true, (decide (x1 ≤ x0)) = true → (decide (x1 ≤ x0)) = true]) (by kernel_rfl) ⟨fun h => h, fun h => h, fun h => h, trivial⟩ fun a w hs => ?_
  refine W.ret (by kernel_rfl) ?_
  exact ret_ok hs [] (vcs := [((decide (x1 ≤ x0)) && (decide (x0 ≤ x2))) = (implIsLaw1 x0 x1 x2), Frs (.bool (implIsLaw1 x0 x1 x2))]) (by kernel_rfl) ⟨by first | rfl | (simp [implIsLaw1]; done), by simp [Frs, FrsL], trivial⟩
def implIsLaw (x : Law) : Bool := (((((implIsLaw1 x.degree 0 20) && (implIsLaw1 x.affinity 0 20)) && (implIsLaw1 x.canon 0 10)) && (implIsLaw1 x.age 0 99)) && (implIsLaw1 x.wives 1 9)) && (implIsLaw1 x.husbands 1 9)
theorem ok_impl_IsLaw (x : Law) : Lite.Fn Try.prog 11 [.agg (cLaw false x)] (.bool (implIsLaw x)) [] := by
  refine Lite.Fn.intro 38 Try.func11 (by kernel_rfl) (by kernel_rfl) (by kernel_rfl) fun w0 a w hs => ?_
  refine W.linK hs 3 [(2003, .res (.bool (implIsLaw1 x.degree 0 20)) []), (2008, .res (.bool (implIsLaw1 x.affinity 0 20)) []), (2014, .res (.bool (implIsLaw1 x.canon 0 10)) []), (2020, .res (.bool (implIsLaw1 x.age 0 99)) []), (2026, .res (.bool (implIsLaw1 x.wives 1 9)) []), (2032, .res (.bool (implIsLaw1 x.husbands 1 9)) [])] [2] [] (s2 := ⟨[(2, .bool ((((((implIsLaw1 x.degree 0 20) && (implIsLaw1 x.affinity 0 20)) && (implIsLaw1 x.canon 0 10)) && (implIsLaw1 x.age 0 99)) && (implIsLaw1 x.wives 1 9)) && (implIsLaw1 x.husbands 1 9)))], [], [1]⟩) (vcs := [Lite.Fn Try.prog 15 [.int .i64 x.degree, .int .i64 0, .int .i64 20] (.bool (implIsLaw1 x.degree 0 20)) [], (implIsLaw1 x.degree 0 20) = true → (implIsLaw1 x.degree 0 20) = true, (implIsLaw1 x.degree 0 20) = true → (implIsLaw1 x.degree 0 20) = true, (implIsLaw1 x.degree 0 20) = true → (implIsLaw1 x.degree 0 20) = true, (implIsLaw1 x.degree 0 20) = true → Lite.Fn Try.prog 15 [.int .i64 x.affinity, .int .i64 0, .int .i64 20] (.bool (implIsLaw1 x.affinity 0 20)) [], (implIsLaw1 x.degree 0 20) = true → (implIsLaw1 x.degree 0 20) = true, ((implIsLaw1 x.degree 0 20) && (implIsLaw1 x.affinity 0 20)) = true → ((implIsLaw1 x.degree 0 20) && (implIsLaw1 x.affinity 0 20)) = true, ((implIsLaw1 x.degree 0 20) && (implIsLaw1 x.affinity 0 20)) = true → ((implIsLaw1 x.degree 0 20) && (implIsLaw1 x.affinity 0 20)) = true, ((implIsLaw1 x.degree 0 20) && (implIsLaw1 x.affinity 0 20)) = true → ((implIsLaw1 x.degree 0 20) && (implIsLaw1 x.affinity 0 20)) = true, ((implIsLaw1 x.degree 0 20) && (implIsLaw1 x.affinity 0 20)) = true → Lite.Fn Try.prog 15 [.int .i64 x.canon, .int .i64 0, .int .i64 10] (.bool (implIsLaw1 x.canon 0 10)) [], ((implIsLaw1 x.degree 0 20) && (implIsLaw1 x.affinity 0 20)) = true → ((implIsLaw1 x.degree 0 20) && (implIsLaw1 x.affinity 0 20)) = true, (((implIsLaw1 x.degree 0 20) && (implIsLaw1 x.affinity 0 20)) && (implIsLaw1 x.canon 0 10)) = true → (((implIsLaw1 x.degree 0 20) && (implIsLaw1 x.affinity 0 20)) && (implIsLaw1 x.canon 0 10)) = true, (((implIsLaw1 x.degree 0 20) && (implIsLaw1 x.affinity 0 20)) && (implIsLaw1 x.canon 0 10)) = true → (((implIsLaw1 x.degree 0 20) && (implIsLaw1 x.affinity 0 20)) && (implIsLaw1 x.canon 0 10)) = true, (((implIsLaw1 x.degree 0 20) && (implIsLaw1 x.affinity 0 20)) && (implIsLaw1 x.canon 0 10)) = true → (((implIsLaw1 x.degree 0 20) && (implIsLaw1 x.affinity 0 20)) && (implIsLaw1 x.canon 0 10)) = true, (((implIsLaw1 x.degree 0 20) && (implIsLaw1 x.affinity 0 20)) && (implIsLaw1 x.canon 0 10)) = true → Lite.Fn Try.prog 15 [.int .i64 x.age, .int .i64 0, .int .i64 99] (.bool (implIsLaw1 x.age 0 99)) [], (((implIsLaw1 x.degree 0 20) && (implIsLaw1 x.affinity 0 20)) && (implIsLaw1 x.canon 0 10)) = true → (((implIsLaw1 x.degree 0 20) && (implIsLaw1 x.affinity 0 20)) && (implIsLaw1 x.canon 0 10)) = true, ((((implIsLaw1 x.degree 0 20) && (implIsLaw1 x.affinity 0 20)) && (implIsLaw1 x.canon 0 10)) && (implIsLaw1 x.age 0 99)) = true → ((((implIsLaw1 x.degree 0 20) && (implIsLaw1 x.affinity 0 20)) && (implIsLaw1 x.canon 0 10)) && (implIsLaw1 x.age 0 99)) = true, ((((implIsLaw1 x.degree 0 20) && (implIsLaw1 x.affinity 0 20)) && (implIsLaw1 x.canon 0 10)) && (implIsLaw1 x.age 0 99)) = true → ((((implIsLaw1 x.degree 0 20) && (implIsLaw1 x.affinity 0 20)) && (implIsLaw1 x.canon 0 10)) && (implIsLaw1 x.age 0 99)) = true, ((((implIsLaw1 x.degree 0 20) && (implIsLaw1 x.affinity 0 20)) && (implIsLaw1 x.canon 0 10)) && (implIsLaw1 x.age 0 99)) = true → ((((implIsLaw1 x.degree 0 20) && (implIsLaw1 x.affinity 0 20)) && (implIsLaw1 x.canon 0 10)) && (implIsLaw1 x.age 0 99)) = true, ((((implIsLaw1 x.degree 0 20) && (implIsLaw1 x.affinity 0 20)) && (implIsLaw1 x.canon 0 10)) && (implIsLaw1 x.age 0 99)) = true → Lite.Fn Try.prog 15 [.int .i64 x.wives, .int .i64 1, .int .i64 9] (.bool (implIsLaw1 x.wives 1 9)) [], ((((implIsLaw1 x.degree 0 20) && (implIsLaw1 x.affinity 0 20)) && (implIsLaw1 x.canon 0 10)) && (implIsLaw1 x.age 0 99)) = true → ((((implIsLaw1 x.degree 0 20) && (implIsLaw1 x.affinity 0 20)) && (implIsLaw1 x.canon 0 10)) && (implIsLaw1 x.age 0 99)) = true, (((((implIsLaw1 x.degree 0 20) && (implIsLaw1 x.affinity 0 20)) && (implIsLaw1 x.canon 0 10)) && (implIsLaw1 x.age 0 99)) && (implIsLaw1 x.wives 1 9)) = true → (((((implIsLaw1 x.degree 0 20) && (implIsLaw1 x.affinity 0 20)) && (implIsLaw1 x.canon 0 10)) && (implIsLaw1 x.age 0 99)) && (implIsLaw1 x.wives 1 9)) = true, (((((implIsLaw1 x.degree 0 20) && (implIsLaw1 x.affinity 0 20)) && (implIsLaw1 x.canon 0 10)) && (implIsLaw1 x.age 0 99)) && (implIsLaw1 x.wives 1 9)) = true → (((((implIsLaw1 x.degree 0 20) && (implIsLaw1 x.affinity 0 20)) && (implIsLaw1 x.canon 0 10)) && (implIsLaw1 x.age 0 99)) && (implIsLaw1 x.wives 1 9)) = true, (((((implIsLaw1 x.degree 0 20) && (implIsLaw1 x.affinity 0 20)) && (implIsLaw1 x.canon 0 10)) && (implIsLaw1 x.age 0 99)) && (implIsLaw1 x.wives 1 9)) = true → (((((implIsLaw1 x.degree 0 20) && (implIsLaw1 x.affinity 0 20)) && (implIsLaw1 x.canon 0 10)) && (implIsLaw1 x.age 0 99)) && (implIsLaw1 x.wives 1 9)) = true, (((((implIsLaw1 x.degree 0 20) && (implIsLaw1 x.affinity 0 20)) && (implIsLaw1 x.canon 0 10)) && (implIsLaw1 x.age 0 99)) && (implIsLaw1 x.wives 1 9)) = true → Lite.Fn Try.prog 15 [.int .i64 x.husbands, .int .i64 1, .int .i64 9] (.bool (implIsLaw1 x.husbands 1 9)) [], (((((implIsLaw1 x.degree 0 20) && (implIsLaw1 x.affinity 0 20)) && (implIsLaw1 x.canon 0 10)) && (implIsLaw1 x.age 0 99)) && (implIsLaw1 x.wives 1 9)) = true → (((((implIsLaw1 x.degree 0 20) && (implIsLaw1 x.affinity 0 20)) && (implIsLaw1 x.canon 0 10)) && (implIsLaw1 x.age 0 99)) && (implIsLaw1 x.wives 1 9)) = true]) (by kernel_rfl) ⟨ok_impl_IsLaw_1 x.degree 0 20, fun h => h, fun h => h, fun h => h, fun _ => ok_impl_IsLaw_1 x.affinity 0 20, fun h => h, fun h => h, fun h => h, fun h => h, fun _ => ok_impl_IsLaw_1 x.canon 0 10, fun h => h, fun h => h, fun h => h, fun h => h, fun _ => ok_impl_IsLaw_1 x.age 0 99, fun h => h, fun h => h, fun h => h, fun h => h, fun _ => ok_impl_IsLaw_1 x.wives 1 9, fun h => h, fun h => h, fun h => h, fun h => h, fun _ => ok_impl_IsLaw_1 x.husbands 1 9, fun h => h, trivial⟩ fun a w hs => ?_
  refine W.ret (by kernel_rfl) ?_
  exact ret_ok hs [] (vcs := [((((((implIsLaw1 x.degree 0 20) && (implIsLaw1 x.affinity 0 20)) && (implIsLaw1 x.canon 0 10)) && (implIsLaw1 x.age 0 99)) && (implIsLaw1 x.wives 1 9)) && (implIsLaw1 x.husbands 1 9)) = (implIsLaw x), Frs (.bool (implIsLaw x))]) (by kernel_rfl) ⟨by first | rfl | (simp [implIsLaw]; done), by simp [Frs, FrsL], trivial⟩
def specIsLaw (x : Law) : Bool := (((((l1In x.degree 0 20) && (l1In x.canon 0 10)) && (l1In x.affinity 0 20)) && (l1In x.age 0 99)) && (l1In x.wives 1 9)) && (l1In x.husbands 1 9)
theorem ok_spec_IsLaw (x : Law) : Lite.Fn Try.prog 9 [.agg (cLaw false x)] (.bool (specIsLaw x)) [] := by
  refine Lite.Fn.intro 31 Try.func9 (by kernel_rfl) (by kernel_rfl) (by kernel_rfl) fun w0 a w hs => ?_
  refine W.linK hs 2 [(1002, .res (.bool (l1In x.degree 0 20)) []), (1006, .res (.bool (l1In x.canon 0 10)) []), (1011, .res (.bool (l1In x.affinity 0 20)) []), (1016, .res (.bool (l1In x.age 0 99)) []), (1021, .res (.bool (l1In x.wives 1 9)) []), (1026, .res (.bool (l1In x.husbands 1 9)) [])] [2] [] (s2 := ⟨[(2, .bool ((((((l1In x.degree 0 20) && (l1In x.canon 0 10)) && (l1In x.affinity 0 20)) && (l1In x.age 0 99)) && (l1In x.wives 1 9)) && (l1In x.husbands 1 9)))], [], [1]⟩) (vcs := [Lite.Fn Try.prog 14 [.int .i64 x.degree, .int .i64 0, .int .i64 20] (.bool (l1In x.degree 0 20)) [], (l1In x.degree 0 20) = true → (l1In x.degree 0 20) = true, (l1In x.degree 0 20) = true → (l1In x.degree 0 20) = true, (l1In x.degree 0 20) = true → Lite.Fn Try.prog 14 [.int .i64 x.canon, .int .i64 0, .int .i64 10] (.bool (l1In x.canon 0 10)) [], (l1In x.degree 0 20) = true → (l1In x.degree 0 20) = true, ((l1In x.degree 0 20) && (l1In x.canon 0 10)) = true → ((l1In x.degree 0 20) && (l1In x.canon 0 10)) = true, ((l1In x.degree 0 20) && (l1In x.canon 0 10)) = true → ((l1In x.degree 0 20) && (l1In x.canon 0 10)) = true, ((l1In x.degree 0 20) && (l1In x.canon 0 10)) = true → Lite.Fn Try.prog 14 [.int .i64 x.affinity, .int .i64 0, .int .i64 20] (.bool (l1In x.affinity 0 20)) [], ((l1In x.degree 0 20) && (l1In x.canon 0 10)) = true → ((l1In x.degree 0 20) && (l1In x.canon 0 10)) = true, (((l1In x.degree 0 20) && (l1In x.canon 0 10)) && (l1In x.affinity 0 20)) = true → (((l1In x.degree 0 20) && (l1In x.canon 0 10)) && (l1In x.affinity 0 20)) = true, (((l1In x.degree 0 20) && (l1In x.canon 0 10)) && (l1In x.affinity 0 20)) = true → (((l1In x.degree 0 20) && (l1In x.canon 0 10)) && (l1In x.affinity 0 20)) = true, (((l1In x.degree 0 20) && (l1In x.canon 0 10)) && (l1In x.affinity 0 20)) = true → Lite.Fn Try.prog 14 [.int .i64 x.age, .int .i64 0, .int .i64 99] (.bool (l1In x.age 0 99)) [], (((l1In x.degree 0 20) && (l1In x.canon 0 10)) && (l1In x.affinity 0 20)) = true → (((l1In x.degree 0 20) && (l1In x.canon 0 10)) && (l1In x.affinity 0 20)) = true, ((((l1In x.degree 0 20) && (l1In x.canon 0 10)) && (l1In x.affinity 0 20)) && (l1In x.age 0 99)) = true → ((((l1In x.degree 0 20) && (l1In x.canon 0 10)) && (l1In x.affinity 0 20)) && (l1In x.age 0 99)) = true, ((((l1In x.degree 0 20) && (l1In x.canon 0 10)) && (l1In x.affinity 0 20)) && (l1In x.age 0 99)) = true → ((((l1In x.degree 0 20) && (l1In x.canon 0 10)) && (l1In x.affinity 0 20)) && (l1In x.age 0 99)) = true, ((((l1In x.degree 0 20) && (l1In x.canon 0 10)) && (l1In x.affinity 0 20)) && (l1In x.age 0 99)) = true → Lite.Fn Try.prog 14 [.int .i64 x.wives, .int .i64 1, .int .i64 9] (.bool (l1In x.wives 1 9)) [], ((((l1In x.degree 0 20) && (l1In x.canon 0 10)) && (l1In x.affinity 0 20)) && (l1In x.age 0 99)) = true → ((((l1In x.degree 0 20) && (l1In x.canon 0 10)) && (l1In x.affinity 0 20)) && (l1In x.age 0 99)) = true, (((((l1In x.degree 0 20) && (l1In x.canon 0 10)) && (l1In x.affinity 0 20)) && (l1In x.age 0 99)) && (l1In x.wives 1 9)) = true → (((((l1In x.degree 0 20) && (l1In x.canon 0 10)) && (l1In x.affinity 0 20)) && (l1In x.age 0 99)) && (l1In x.wives 1 9)) = true, (((((l1In x.degree 0 20) && (l1In x.canon 0 10)) && (l1In x.affinity 0 20)) && (l1In x.age 0 99)) && (l1In x.wives 1 9)) = true → (((((l1In x.degree 0 20) && (l1In x.canon 0 10)) && (l1In x.affinity 0 20)) && (l1In x.age 0 99)) && (l1In x.wives 1 9)) = true, (((((l1In x.degree 0 20) && (l1In x.canon 0 10)) && (l1In x.affinity 0 20)) && (l1In x.age 0 99)) && (l1In x.wives 1 9)) = true → Lite.Fn Try.prog 14 [.int .i64 x.husbands, .int .i64 1, .int .i64 9] (.bool (l1In x.husbands 1 9)) [], (((((l1In x.degree 0 20) && (l1In x.canon 0 10)) && (l1In x.affinity 0 20)) && (l1In x.age 0 99)) && (l1In x.wives 1 9)) = true → (((((l1In x.degree 0 20) && (l1In x.canon 0 10)) && (l1In x.affinity 0 20)) && (l1In x.age 0 99)) && (l1In x.wives 1 9)) = true]) (by kernel_rfl) ⟨ok_spec_l1In x.degree 0 20, fun h => h, fun h => h, fun _ => ok_spec_l1In x.canon 0 10, fun h => h, fun h => h, fun h => h, fun _ => ok_spec_l1In x.affinity 0 20, fun h => h, fun h => h, fun h => h, fun _ => ok_spec_l1In x.age 0 99, fun h => h, fun h => h, fun h => h, fun _ => ok_spec_l1In x.wives 1 9, fun h => h, fun h => h, fun h => h, fun _ => ok_spec_l1In x.husbands 1 9, fun h => h, trivial⟩ fun a w hs => ?_
  refine W.ret (by kernel_rfl) ?_
  exact ret_ok hs [] (vcs := [((((((l1In x.degree 0 20) && (l1In x.canon 0 10)) && (l1In x.affinity 0 20)) && (l1In x.age 0 99)) && (l1In x.wives 1 9)) && (l1In x.husbands 1 9)) = (specIsLaw x), Frs (.bool (specIsLaw x))]) (by kernel_rfl) ⟨by first | rfl | (simp [specIsLaw]; done), by simp [Frs, FrsL], trivial⟩
theorem eq_IsLaw (x : Law) : implIsLaw x = specIsLaw x := by
  simp only [implIsLaw, specIsLaw, implIsLaw1, l1In]
  rw [Bool.eq_iff_iff]
  simp
  grind
theorem ok_laws_FnExactIsLaw (x : Law) : Lite.Fn Try.prog 4 [.agg (cLaw false x)] (.bool true) [] := by
  refine Lite.Fn.intro 14 Try.func4 (by kernel_rfl) (by kernel_rfl) (by kernel_rfl) fun w0 a w hs => ?_
  refine W.linK hs 3 [(1001, .res (.agg [.int .i64 x.degree, .int .i64 x.canon, .int .i64 x.affinity, .int .i64 x.age, .int .i64 x.wives, .int .i64 x.husbands, .bool x.patriline, .bool x.matriline]) []), (1002, .res (.bool (specIsLaw x)) []), (2001, .res (.agg [.int .i64 x.degree, .int .i64 x.canon, .int .i64 x.affinity, .int .i64 x.age, .int .i64 x.wives, .int .i64 x.husbands, .bool x.patriline, .bool x.matriline]) []), (2002, .res (.bool (implIsLaw x)) [])] [2, 3, 4] [] (s2 := ⟨[(2, .bool false), (3, .bool (specIsLaw x)), (4, .bool (implIsLaw x))], [], [1]⟩) (vcs := [Lite.Fn Try.prog 10 [.agg [.int .i64 x.degree, .int .i64 x.canon, .int .i64 x.affinity, .int .i64 x.age, .int .i64 x.wives, .int .i64 x.husbands, .bool x.patriline, .bool x.matriline]] (.agg [.int .i64 x.degree, .int .i64 x.canon, .int .i64 x.affinity, .int .i64 x.age, .int .i64 x.wives, .int .i64 x.husbands, .bool x.patriline, .bool x.matriline]) [], Lite.Fn Try.prog 9 [.agg [.int .i64 x.degree, .int .i64 x.canon, .int .i64 x.affinity, .int .i64 x.age, .int .i64 x.wives, .int .i64 x.husbands, .bool x.patriline, .bool x.matriline]] (.bool (specIsLaw x)) [], Lite.Fn Try.prog 10 [.agg [.int .i64 x.degree, .int .i64 x.canon, .int .i64 x.affinity, .int .i64 x.age, .int .i64 x.wives, .int .i64 x.husbands, .bool x.patriline, .bool x.matriline]] (.agg [.int .i64 x.degree, .int .i64 x.canon, .int .i64 x.affinity, .int .i64 x.age, .int .i64 x.wives, .int .i64 x.husbands, .bool x.patriline, .bool x.matriline]) [], Lite.Fn Try.prog 11 [.agg [.int .i64 x.degree, .int .i64 x.canon, .int .i64 x.affinity, .int .i64 x.age, .int .i64 x.wives, .int .i64 x.husbands, .bool x.patriline, .bool x.matriline]] (.bool (implIsLaw x)) []]) (by kernel_rfl) ⟨ok_laws_toLaw x, ok_spec_IsLaw x, ok_laws_toLaw x, ok_impl_IsLaw x, trivial⟩ fun a w hs => ?_
  refine W.seq (by kernel_rfl) ?_
  refine W.linK hs 1 [] [2, 13] [] (s2 := ⟨[(2, .bool false), (13, .bool (!((implIsLaw x) == (specIsLaw x))))], [], [1]⟩) (vcs := []) (by kernel_rfl) trivial fun a w hs => ?_
  refine W.cond hs (by kernel_rfl) (b := !((implIsLaw x) == (specIsLaw x))) (p := []) (by kernel_rfl) trivial (fun hc1 => ?_) (fun hc1 => ?_)
  ·
    refine W.linK hs 1 [] [2] [] (s2 := ⟨[(2, .bool false)], [], [1]⟩) (vcs := []) (by kernel_rfl) trivial fun a w hs => ?_
    refine W.ret (by kernel_rfl) ?_
    exact ret_ok hs [] (vcs := [false = true, Frs (.bool true)]) (by kernel_rfl) ⟨by first | rfl | (simp_all [eq_IsLaw]; done), by simp [Frs, FrsL], trivial⟩
  ·
    refine W.skip (by kernel_rfl) ?_
    refine W.linK hs 1 [] [2] [] (s2 := ⟨[(2, .bool true)], [], [1]⟩) (vcs := []) (by kernel_rfl) trivial fun a w hs => ?_
    refine W.ret (by kernel_rfl) ?_
    exact ret_ok hs [] (vcs := [true = true, Frs (.bool true)]) (by kernel_rfl) ⟨by first | rfl | (simp_all [eq_IsLaw]; done), by simp [Frs, FrsL], trivial⟩
theorem bulk_pos {H : Type} (d : DataW H) : 1 ≤ Rows.uptoBulk d := by
  cases d with
  | lit l => cases l <;> simp [Rows.uptoBulk]
  | _ => simp [Rows.uptoBulk]
theorem bulkAll_len {H : Type} : ∀ l : List (DataW H), l.length ≤ Rows.uptoBulkAll l
  | [] => by simp
  | d :: l => by
    have := bulk_pos d
    have := bulkAll_len l
    simp only [Rows.uptoBulkAll, List.length_cons]
    omega
theorem bulkAll_mem {H : Type} : ∀ (l : List (DataW H)) (d : DataW H), d ∈ l → Rows.uptoBulk d ≤ Rows.uptoBulkAll l
  | [], d, h => by cases h
  | e :: l, d, h => by
    simp only [Rows.uptoBulkAll]
    rcases List.mem_cons.1 h with e | h
    · rw [e]; omega
    · have := bulkAll_mem l d h
      omega
theorem bulk {H : Type} : Bulk (Rows.uptoBulk (H := H)) where
  str := fun bs => by simp [Rows.uptoBulk]
  slen := fun es sp => by
    have := bulkAll_len es
    simp only [Rows.uptoBulk]
    omega
  sel := fun es sp e he => by
    have := bulkAll_mem es e he
    simp only [Rows.uptoBulk]
    omega
  agg := fun ps p hp => by
    have := bulkAll_mem ps p hp
    simp only [Rows.uptoBulk]
    omega
theorem own : ownKnob Try.prog.godebug = none := by kernel_rfl
theorem laidOut : laidOutB Try.prog = true := by kernel_rfl
def OkLaw (b : Nat) (x : Law) : Prop := (inR .i64 x.degree) ∧ (inR .i64 x.canon) ∧ (inR .i64 x.affinity) ∧ (inR .i64 x.age) ∧ (inR .i64 x.wives) ∧ (inR .i64 x.husbands) ∧ (True) ∧ (True) ∧ True
theorem okLaw_mono (b b' : Nat) (x : Law) (h : b ≤ b') (hx : OkLaw b x) : OkLaw b' x := by
  obtain ⟨h0, h1, h2, h3, h4, h5, h6, h7, _⟩ := hx
  exact ⟨(fun _ _ _ _ h => h) _ _ _ h h0, (fun _ _ _ _ h => h) _ _ _ h h1, (fun _ _ _ _ h => h) _ _ _ h h2, (fun _ _ _ _ h => h) _ _ _ h h3, (fun _ _ _ _ h => h) _ _ _ h h4, (fun _ _ _ _ h => h) _ _ _ h h5, (fun _ _ _ _ h => h) _ _ _ h h6, (fun _ _ _ _ h => h) _ _ _ h h7, trivial⟩
theorem opens29 {H : Type} {enc : TypeId × Value → H} {bk : DataW H → Nat} (hb : Bulk bk) : Opens Try.prog enc bk 29 (cLaw false) OkLaw := by
  have h := opens_struct (enc := enc) hb Try.underlying29 (tot := 8) (by kernel_rfl) (opensF_cons (sz := 1) (tot := 7) (fun _ _ _ _ h => h) rfl (by kernel_rfl) (opens_int Try.underlying3) (opensF_cons (sz := 1) (tot := 6) (fun _ _ _ _ h => h) rfl (by kernel_rfl) (opens_int Try.underlying3) (opensF_cons (sz := 1) (tot := 5) (fun _ _ _ _ h => h) rfl (by kernel_rfl) (opens_int Try.underlying3) (opensF_cons (sz := 1) (tot := 4) (fun _ _ _ _ h => h) rfl (by kernel_rfl) (opens_int Try.underlying3) (opensF_cons (sz := 1) (tot := 3) (fun _ _ _ _ h => h) rfl (by kernel_rfl) (opens_int Try.underlying3) (opensF_cons (sz := 1) (tot := 2) (fun _ _ _ _ h => h) rfl (by kernel_rfl) (opens_int Try.underlying3) (opensF_cons (sz := 1) (tot := 1) (fun _ _ _ _ h => h) rfl (by kernel_rfl) (opens_bool Try.underlying4) (opensF_cons (sz := 1) (tot := 0) (fun _ _ _ _ h => h) rfl (by kernel_rfl) (opens_bool Try.underlying4) (opensF_nil)))))))))
  exact h.map (fun p => ⟨p.1, p.2.1, p.2.2.1, p.2.2.2.1, p.2.2.2.2.1, p.2.2.2.2.2.1, p.2.2.2.2.2.2.1, p.2.2.2.2.2.2.2.1⟩) (fun p => by simp [cLaw]) (fun b p hp => by simpa [OkLaw] using hp)
theorem contract (H : Type) (enc : TypeId × Value → H) (W : World) (base : Nat) (args : Array Value) (ds gs : List (DataW H)) (before : List MemPlace)
    (hval : ∀ (j : Nat) t v, Try.f4.params[j]? = some t → args[j]? = some v → Value.okWide Try.prog W .any base t v)
    (hW : DataW.Whole enc Try.prog Try.f4.params.toList Rows.fnExactIsLawSpec.vars false W args.toList ds gs before) :
    Calls Try.prog 4 args W fun e W' => ∃ v, e = .returned v ∧ Rows.fnExactIsLawSpec.post enc Try.prog Try.f4 false true false false W args v W' := by
  have hW' := hW
  obtain ⟨p, q, hA0, hV, hpq, hfz, hnd⟩ := hW
  have hA : DataW.TrodAll enc Try.prog W 0 (fun _ => true) true Try.f4.params.toList args.toList ds p := hA0
  clear hA0
  rw [Try.params4] at hA hval
  obtain ⟨v0, vs0, d0, ds0, p0, q0, hargs, rfl, rfl, h0, hA1⟩ := trodAll_cons hA
  obtain ⟨rfl, rfl, rfl⟩ := trodAll_nil hA1
  obtain rfl : args = #[v0] := by cases args; simp_all
  obtain ⟨rfl, rfl⟩ := trodVars_none hV
  obtain ⟨x0, k0, r0⟩ := top_struct (opens29 bulk) Try.underlying29 (hval 0 29 v0 rfl rfl) h0
  refine (Lite.Fn.true_of (ok_laws_FnExactIsLaw x0) (by rfl) fun i lv v hl hv => ?_).mono fun e W' ⟨he, hb⟩ => ⟨_, he, row_post laidOut (by kernel_rfl) rfl Try.underlying4 rfl rfl hW' hb⟩
  match i, hl, hv with
  | 0, hl, hv => cases hl; cases hv; exact r0
  | _ + 1, hl, _ => simp at hl
set_option maxRecDepth 100000 in
theorem lifted (os : Os) (started : os.Started) (H : Type) (enc : TypeId × Value → H) :
    ReturnsInHanded {} Try.checked os 4 .any (Rows.fnExactIsLawSpec.pre6 enc Try.prog Try.f4 Rows.fnExactIsLawRow.domain false) (Rows.fnExactIsLawSpec.post enc Try.prog Try.f4 false true false false) := by
  refine returnsInHanded_of_change (C := Try.checked) own started (by kernel_rfl) Try.func4
    (ChangeSpec.witness6 (enc := enc) (C := Try.checked) false ⟨#[], #[.agg #[.int .i64 0, .int .i64 0, .int .i64 0, .int .i64 0, .int .i64 0, .int .i64 0, .bool false, .bool false]], []⟩ 12 (by kernel_rfl) (by kernel_rfl) (by kernel_rfl) (by kernel_rfl)) ?_
  intro W base args ds gs before hval hW _ _
  exact contract H enc W base args ds gs before hval hW
theorem proved : Rows.FnExactIsLawSaid :=
  OpenClaim.holds_of_wide 4 Try.f4 rfl rfl rfl rfl rfl rfl rfl ⟨rfl, rfl, rfl, rfl, rfl⟩ rfl rfl rfl rfl rfl (by kernel_rfl) Try.func4 (by kernel_rfl)
    (of_decide_eq_true (by kernel_rfl)) (by unfold Func.isWrapper; first | (rw [if_pos (by decide +kernel)]; kernel_rfl) | (rw [if_neg (by decide +kernel)]; exact ⟨rfl, rfl⟩))
    (fun os started H enc _ => lifted os started H enc)
end Go.Proofs.Ytfknejbegmfhcaa
