import Derived.Test.YtanpfncfphpddabM9
set_option maxHeartbeats 4000000
set_option linter.unusedSimpArgs false
set_option linter.unusedVariables false
namespace Go.Proofs.Ytanpfncfphpddab
open Go Go.Lite Go.Proofs
def eqIntS (x0 : List Int) (x1 : List Int) : Bool := bif (!decide (((x0.length : Nat) : Int) = ((x1.length : Nat) : Int))) then false else (loopN (fun i1 (v1 : Unit) next => bif (!decide ((x0.getD i1 default) = (x1.getD i1 default))) then false else (next ())) (fun (v1 : Unit) => true) x0.length 0 ())
theorem aux_laws_eqIntS (x0 : List Int) (x1 : List Int) (hx : x0.length ≤ 1048576) (R : Bool) (hR : eqIntS x0 x1 = R) : Lite.Fn Try.prog 13 [.ro false 1 x0.length (rowOf (cInt .i64) x0), .ro false 1 x1.length (rowOf (cInt .i64) x1)] (.bool R) [] := by
  refine Lite.Fn.intro 26 Try.func13 (by kernel_rfl) (by kernel_rfl) (by kernel_rfl) fun w0 a w hs => ?_
  refine W.linK hs 1 [] [0, 1, 4] [] (s2 := ⟨[(0, .ro false 1 x0.length (rowOf (cInt .i64) x0)), (1, .ro false 1 x1.length (rowOf (cInt .i64) x1)), (4, .bool false)], [], []⟩) (vcs := []) (by kernel_rfl) trivial ?_
  clear hs; intro a w hs
  refine W.seq (by kernel_rfl) ?_
  refine W.linK hs 1 [] [0, 1, 4, 10] [] (s2 := ⟨[(0, .ro false 1 x0.length (rowOf (cInt .i64) x0)), (1, .ro false 1 x1.length (rowOf (cInt .i64) x1)), (4, .bool false), (10, .bool (!decide (((x0.length : Nat) : Int) = ((x1.length : Nat) : Int))))], [], []⟩) (vcs := []) (by kernel_rfl) trivial ?_
  clear hs; intro a w hs
  refine W.cond hs (by kernel_rfl) (b := !decide (((x0.length : Nat) : Int) = ((x1.length : Nat) : Int))) (p := []) (by kernel_rfl) trivial (fun hc1 => ?_) (fun hc1 => ?_)
  ·
    replace hR := ct hR hc1
    refine W.linK hs 1 [] [0, 1, 4] [] (s2 := ⟨[(0, .ro false 1 x0.length (rowOf (cInt .i64) x0)), (1, .ro false 1 x1.length (rowOf (cInt .i64) x1)), (4, .bool false)], [], []⟩) (vcs := []) (by kernel_rfl) trivial ?_
    clear hs; intro a w hs
    refine W.ret (by kernel_rfl) ?_
    subst hR
    exact ret_ok hs [] (vcs := [false = false, Frs (.bool false)]) (by kernel_rfl) ⟨rfl, by simp [Frs, FrsL], trivial⟩
  ·
    replace hR := cf hR hc1
    refine W.skip (by kernel_rfl) ?_
    refine W.seq (by kernel_rfl) ?_
    refine W.linK hs 1 [] [0, 1, 4, 5] [] (s2 := ⟨[(0, .ro false 1 x0.length (rowOf (cInt .i64) x0)), (1, .ro false 1 x1.length (rowOf (cInt .i64) x1)), (4, .bool false), (5, .int .i64 0)], [], []⟩) (vcs := []) (by kernel_rfl) trivial ?_
    clear hs; intro a w hs
    refine W.block 0 (by kernel_rfl) ?_
    refine W.loopN (s0 := ()) hR (by kernel_rfl) (fun i v => ⟨[(0, .ro false 1 x0.length (rowOf (cInt .i64) x0)), (1, .ro false 1 x1.length (rowOf (cInt .i64) x1)), (4, .bool false), (5, .int .i64 ((i : Nat) : Int))], [], []⟩) (fun i v => True) (by trivial) (hs.le (T := ⟨[(0, .ro false 1 x0.length (rowOf (cInt .i64) x0)), (1, .ro false 1 x1.length (rowOf (cInt .i64) x1)), (4, .bool false), (5, .int .i64 ((0 : Nat) : Int))], [], []⟩) [] (vcs := [rowsEq x0.length x0.length (rowOf (cInt .i64) x0) (rowOf (cInt .i64) x0), rowsEq x1.length x1.length (rowOf (cInt .i64) x1) (rowOf (cInt .i64) x1), false = false, (0 : Int) = ((0 : Nat) : Int)]) (by kernel_rfl) ⟨⟨rfl, fun _ _ => rfl⟩, ⟨rfl, fun _ _ => rfl⟩, rfl, by first | rfl | omega | (simp; done), trivial⟩) ?_
    intro i1 v1 a w hn1 hI1 hR hs
    replace hs : H 26 w0 noX ⟨[(0, .ro false 1 x0.length (rowOf (cInt .i64) x0)), (1, .ro false 1 x1.length (rowOf (cInt .i64) x1)), (4, .bool false), (5, .int .i64 ((i1 : Nat) : Int))], [], []⟩ a w := hs
    refine W.seq (by kernel_rfl) ?_
    refine W.linK hs 1 [] [0, 1, 4, 5, 14] [] (s2 := ⟨[(0, .ro false 1 x0.length (rowOf (cInt .i64) x0)), (1, .ro false 1 x1.length (rowOf (cInt .i64) x1)), (4, .bool false), (5, .int .i64 ((i1 : Nat) : Int)), (14, .bool (decide (((i1 : Nat) : Int) < ((x0.length : Nat) : Int))))], [], []⟩) (vcs := []) (by kernel_rfl) trivial ?_
    clear hs; intro a w hs
    refine W.cond hs (by kernel_rfl) (b := decide (((i1 : Nat) : Int) < ((x0.length : Nat) : Int))) (p := []) (by kernel_rfl) trivial (fun hc2 => ?_) (fun hc2 => ?_)
    ·
      have hii1 : i1 < x0.length := by have := of_decide_eq_true hc2; omega
      replace hR := loopN_step hR hii1
      refine W.skip (by kernel_rfl) ?_
      refine W.seq (by kernel_rfl) ?_
      refine W.block 1 (by kernel_rfl) ?_
      refine W.seq (by kernel_rfl) ?_
      refine W.drawK hs (by kernel_rfl) (by kernel_rfl) [] [0, 1, 4, 5, 25] [] (s2 := ⟨[(0, .ro false 1 x0.length (rowOf (cInt .i64) x0)), (1, .ro false 1 x1.length (rowOf (cInt .i64) x1)), (4, .bool false), (5, .int .i64 ((i1 : Nat) : Int)), (25, .bool (!decide ((x0.getD i1 default) = (x1.getD i1 default))))], [], []⟩) (vcs := [0 ≤ (((i1 : Nat) : Int) : Int) ∧ (((i1 : Nat) : Int) : Int) < ((x0.length : Nat) : Int), 0 ≤ (((i1 : Nat) : Int) : Int) ∧ (((i1 : Nat) : Int) : Int) < ((x1.length : Nat) : Int)]) (by kernel_rfl) ⟨by (intros; omega), by (clear hs hR; intros; (try simp only [decide_eq_true_eq, decide_eq_false_iff_not, Bool.or_eq_true, Bool.and_eq_true, or_f_iff, not_f_iff, not_t_iff, Bool.not_eq_true', inR] at *); (repeat' apply And.intro) <;> (intros; omega)), trivial⟩ ?_
      clear hs; intro a w hs
      refine W.cond hs (by kernel_rfl) (b := !decide ((x0.getD i1 default) = (x1.getD i1 default))) (p := []) (by kernel_rfl) trivial (fun hc3 => ?_) (fun hc3 => ?_)
      ·
        replace hR := ct hR hc3
        refine W.linK hs 1 [] [0, 1, 4, 5] [] (s2 := ⟨[(0, .ro false 1 x0.length (rowOf (cInt .i64) x0)), (1, .ro false 1 x1.length (rowOf (cInt .i64) x1)), (4, .bool false), (5, .int .i64 ((i1 : Nat) : Int))], [], []⟩) (vcs := []) (by kernel_rfl) trivial ?_
        clear hs; intro a w hs
        refine W.ret (by kernel_rfl) ?_
        subst hR
        exact ret_ok hs [] (vcs := [false = false, Frs (.bool false)]) (by kernel_rfl) ⟨rfl, by simp [Frs, FrsL], trivial⟩
      ·
        replace hR := cf hR hc3
        refine W.skip (by kernel_rfl) ?_
        refine W.regK hs (by kernel_rfl) [] [0, 1, 4, 5] [] (s2 := ⟨[(0, .ro false 1 x0.length (rowOf (cInt .i64) x0)), (1, .ro false 1 x1.length (rowOf (cInt .i64) x1)), (4, .bool false), (5, .int .i64 (((i1 : Nat) : Int) + 1))], [], []⟩) (vcs := [inR .i64 (((i1 : Nat) : Int) + 1)]) (by kernel_rfl) ⟨by (clear hs; intros; simp only [inR]; omega), trivial⟩ ?_
        clear hs; intro a w hs
        exact ⟨(), hii1, by trivial, hR, hs.le (T := ⟨[(0, .ro false 1 x0.length (rowOf (cInt .i64) x0)), (1, .ro false 1 x1.length (rowOf (cInt .i64) x1)), (4, .bool false), (5, .int .i64 (((i1 + 1) : Nat) : Int))], [], []⟩) [] (vcs := [rowsEq x0.length x0.length (rowOf (cInt .i64) x0) (rowOf (cInt .i64) x0), rowsEq x1.length x1.length (rowOf (cInt .i64) x1) (rowOf (cInt .i64) x1), false = false, (((i1 : Nat) : Int) + 1 : Int) = (((i1 + 1) : Nat) : Int)]) (by kernel_rfl) ⟨⟨rfl, fun _ _ => rfl⟩, ⟨rfl, fun _ _ => rfl⟩, rfl, by first | rfl | omega | (simp; done), trivial⟩⟩
    ·
      obtain rfl : i1 = x0.length := by have := of_decide_eq_false hc2; omega
      replace hR := loopN_end hR (Nat.lt_irrefl _)
      refine W.exit 0 (by kernel_rfl) rfl ?_
      refine W.linK hs 1 [] [4] [] (s2 := ⟨[(4, .bool true)], [], []⟩) (vcs := []) (by kernel_rfl) trivial ?_
      clear hs; intro a w hs
      refine W.ret (by kernel_rfl) ?_
      subst hR
      exact ret_ok hs [] (vcs := [true = true, Frs (.bool true)]) (by kernel_rfl) ⟨rfl, by simp [Frs, FrsL], trivial⟩
theorem eqIntS_self (x : List Int) : eqIntS x x = true := by
  unfold eqIntS
  refine cond_both (p := fun r => r = true) (fun c => by simp at c) (fun _ => ?_)
  exact loopN_inv (fun _ _ => True) (fun r => r = true) (fun i v next _ hn => cond_both (p := fun r => r = true) (fun c => by simp at c) (fun _ => hn _ trivial)) (fun _ _ _ => rfl) _ _ _ trivial
theorem ok_laws_eqIntS (x0 : List Int) (x1 : List Int) (hx : x0.length ≤ 1048576) : Lite.Fn Try.prog 13 [.ro false 1 x0.length (rowOf (cInt .i64) x0), .ro false 1 x1.length (rowOf (cInt .i64) x1)] (.bool (eqIntS x0 x1)) [] := aux_laws_eqIntS x0 x1 hx _ rfl
def markText (x0 : Int) : (List UInt8) := bif (decide (x0 ≤ 0)) then [109, 48] else (loopW (fun (v1 : Int × (List UInt8)) next => bif (decide (0 < v1.1)) then (next (v1.1.tdiv 10, (List.map Lite.byteOf ([IntKind.wrap .u8 (48 + (v1.1.tmod 10))] : List Int)) ++ v1.2)) else ([109] ++ v1.2)) (x0.toNat + 1) (x0, ([] : List UInt8)))
theorem aux_laws_markText (x0 : Int) (hk : x0 ≤ 60000000) (R : (List UInt8)) (hR : markText x0 = R) : Lite.Fn Try.prog 72 [.int .i64 x0] (.str R) [] := by
  refine Lite.Fn.intro 20 Try.func72 (by kernel_rfl) (by kernel_rfl) (by kernel_rfl) fun w0 a w hs => ?_
  refine W.linK hs 1 [] [0, 2] [] (s2 := ⟨[(0, .int .i64 x0), (2, .str ([] : List UInt8))], [], []⟩) (vcs := []) (by kernel_rfl) trivial ?_
  clear hs; intro a w hs
  refine W.seq (by kernel_rfl) ?_
  refine W.linK hs 1 [] [0, 2, 5] [] (s2 := ⟨[(0, .int .i64 x0), (2, .str ([] : List UInt8)), (5, .bool (decide (x0 ≤ 0)))], [], []⟩) (vcs := []) (by kernel_rfl) trivial ?_
  clear hs; intro a w hs
  refine W.cond hs (by kernel_rfl) (b := decide (x0 ≤ 0)) (p := []) (by kernel_rfl) trivial (fun hc1 => ?_) (fun hc1 => ?_)
  ·
    replace hR := ct hR hc1
    refine W.linK hs 1 [] [0, 2] [] (s2 := ⟨[(0, .int .i64 x0), (2, .str [109, 48])], [], []⟩) (vcs := []) (by kernel_rfl) trivial ?_
    clear hs; intro a w hs
    refine W.ret (by kernel_rfl) ?_
    subst hR
    exact ret_ok hs [] (vcs := [([109, 48] : List UInt8) = [109, 48], Frs (.str [109, 48])]) (by kernel_rfl) ⟨rfl, by simp [Frs, FrsL], trivial⟩
  ·
    replace hR := cf hR hc1
    refine W.skip (by kernel_rfl) ?_
    refine W.linK hs 1 [] [0, 2, 3] [] (s2 := ⟨[(0, .int .i64 x0), (2, .str ([] : List UInt8)), (3, .str ([] : List UInt8))], [], []⟩) (vcs := []) (by kernel_rfl) trivial ?_
    clear hs; intro a w hs
    refine W.seq (by kernel_rfl) ?_
    refine W.block 0 (by kernel_rfl) ?_
    refine W.loopW (s0 := (x0, ([] : List UInt8))) hR (by kernel_rfl) (fun v => ⟨[(0, .int .i64 v.1), (2, .str ([] : List UInt8)), (3, .str v.2)], [], []⟩) (fun v => (0 ≤ v.1 ∧ v.1 ≤ 60000000) ∧ v.2.length + v.1.toNat ≤ 60000000) (fun v => v.1.toNat) (by (clear hs hR; intros; (try simp only [decide_eq_true_eq, decide_eq_false_iff_not, Bool.or_eq_true, Bool.and_eq_true, or_f_iff, not_f_iff, not_t_iff, Bool.not_eq_true', inR] at *); (repeat' apply And.intro) <;> (first | (intros; omega) | (simp only [List.length_append, List.length_map, List.length_cons, List.length_nil]; omega)))) (Nat.lt_succ_self _) (hs.le (T := ⟨[(0, .int .i64 x0), (2, .str ([] : List UInt8)), (3, .str ([] : List UInt8))], [], []⟩) [] (vcs := [(x0 : Int) = x0, ([] : List UInt8) = ([] : List UInt8), ([] : List UInt8) = ([] : List UInt8)]) (by kernel_rfl) ⟨by first | rfl | omega | (simp; done), rfl, rfl, trivial⟩) ?_
    intro m1 v1 a w hI1 hM1 hR hs
    replace hs : H 20 w0 noX ⟨[(0, .int .i64 v1.1), (2, .str ([] : List UInt8)), (3, .str v1.2)], [], []⟩ a w := hs
    refine W.seq (by kernel_rfl) ?_
    refine W.linK hs 1 [] [0, 2, 3, 7] [] (s2 := ⟨[(0, .int .i64 v1.1), (2, .str ([] : List UInt8)), (3, .str v1.2), (7, .bool (decide (0 < v1.1)))], [], []⟩) (vcs := []) (by kernel_rfl) trivial ?_
    clear hs; intro a w hs
    refine W.cond hs (by kernel_rfl) (b := decide (0 < v1.1)) (p := []) (by kernel_rfl) trivial (fun hc2 => ?_) (fun hc2 => ?_)
    ·
      replace hR := ct hR hc2
      refine W.skip (by kernel_rfl) ?_
      refine W.block 1 (by kernel_rfl) ?_
      refine W.linK hs 1 [(3, .wrap), (4, .row (rowOf (cInt .u8) [IntKind.wrap .u8 (48 + (v1.1.tmod 10))])), (5, .ints ([IntKind.wrap .u8 (48 + (v1.1.tmod 10))] : List Int))] [0, 2, 3] [] (s2 := ⟨[(0, .int .i64 v1.1), (2, .str ([] : List UInt8)), (3, .str ((List.map Lite.byteOf ([IntKind.wrap .u8 (48 + (v1.1.tmod 10))] : List Int)) ++ v1.2))], [], [12]⟩) (vcs := [(10 : Int) ≠ 0, inR .i64 (48 + (v1.1.tmod 10)), (rowOf (cInt .u8) [IntKind.wrap .u8 (48 + (v1.1.tmod 10))]) 0 = [.int .u8 (IntKind.wrap .u8 (48 + (v1.1.tmod 10)))], 1 = ([IntKind.wrap .u8 (48 + (v1.1.tmod 10))] : List Int).length ∧ ∀ k, k < 1 → (rowOf (cInt .u8) [IntKind.wrap .u8 (48 + (v1.1.tmod 10))]) k = [.int .u8 (([IntKind.wrap .u8 (48 + (v1.1.tmod 10))] : List Int).getD k default)], (((List.map Lite.byteOf ([IntKind.wrap .u8 (48 + (v1.1.tmod 10))] : List Int)).length + v1.2.length : Nat) : Int) ≤ 9223372036854775807]) (by kernel_rfl) ⟨by trivial, by (clear hs hR; intros; (try simp only [decide_eq_true_eq, decide_eq_false_iff_not, Bool.or_eq_true, Bool.and_eq_true, or_f_iff, not_f_iff, not_t_iff, Bool.not_eq_true', inR] at *); (repeat' apply And.intro) <;> (have e := Int.tmod_eq_emod_of_nonneg (a := v1.1) (b := 10) (by omega); omega)), rfl, ⟨by first | rfl | simp, fun _ _ => rfl⟩, by (have e := Int.tdiv_eq_ediv_of_nonneg (a := v1.1) (b := 10) (by omega); simp only [List.length_append, List.length_map, List.length_cons, List.length_nil]; omega), trivial⟩ ?_
      clear hs; intro a w hs
      refine W.regK hs (by kernel_rfl) [] [0, 2, 3] [] (s2 := ⟨[(0, .int .i64 (v1.1.tdiv 10)), (2, .str ([] : List UInt8)), (3, .str ((List.map Lite.byteOf ([IntKind.wrap .u8 (48 + (v1.1.tmod 10))] : List Int)) ++ v1.2))], [], [12]⟩) (vcs := [(10 : Int) ≠ 0, inR .i64 (v1.1.tdiv 10)]) (by kernel_rfl) ⟨by trivial, by (clear hs hR; intros; (try simp only [decide_eq_true_eq, decide_eq_false_iff_not, Bool.or_eq_true, Bool.and_eq_true, or_f_iff, not_f_iff, not_t_iff, Bool.not_eq_true', inR] at *); (repeat' apply And.intro) <;> (have e := Int.tdiv_eq_ediv_of_nonneg (a := v1.1) (b := 10) (by omega); omega)), trivial⟩ ?_
      clear hs; intro a w hs
      exact ⟨(v1.1.tdiv 10, (List.map Lite.byteOf ([IntKind.wrap .u8 (48 + (v1.1.tmod 10))] : List Int)) ++ v1.2), by (clear hs hR; intros; (try simp only [decide_eq_true_eq, decide_eq_false_iff_not, Bool.or_eq_true, Bool.and_eq_true, or_f_iff, not_f_iff, not_t_iff, Bool.not_eq_true', inR] at *); (repeat' apply And.intro) <;> (first | (have e := Int.tdiv_eq_ediv_of_nonneg (a := v1.1) (b := 10) (by omega); omega) | (have e := Int.tdiv_eq_ediv_of_nonneg (a := v1.1) (b := 10) (by omega); simp only [List.length_append, List.length_map, List.length_cons, List.length_nil]; omega))), by (clear hs hR; intros; (try simp only [decide_eq_true_eq, decide_eq_false_iff_not, Bool.or_eq_true, Bool.and_eq_true, or_f_iff, not_f_iff, not_t_iff, Bool.not_eq_true', inR] at *); (repeat' apply And.intro) <;> (have e := Int.tdiv_eq_ediv_of_nonneg (a := v1.1) (b := 10) (by omega); omega)), hR, hs.le (T := ⟨[(0, .int .i64 (v1.1.tdiv 10)), (2, .str ([] : List UInt8)), (3, .str ((List.map Lite.byteOf ([IntKind.wrap .u8 (48 + (v1.1.tmod 10))] : List Int)) ++ v1.2))], [], []⟩) [] (vcs := [(v1.1.tdiv 10 : Int) = (v1.1.tdiv 10), ([] : List UInt8) = ([] : List UInt8), ((List.map Lite.byteOf ([IntKind.wrap .u8 (48 + (v1.1.tmod 10))] : List Int)) ++ v1.2) = ((List.map Lite.byteOf ([IntKind.wrap .u8 (48 + (v1.1.tmod 10))] : List Int)) ++ v1.2)]) (by kernel_rfl) ⟨by first | rfl | omega | (simp; done), rfl, rfl, trivial⟩⟩
    ·
      replace hR := cf hR hc2
      refine W.exit 0 (by kernel_rfl) rfl ?_
      refine W.linK hs 1 [] [2] [] (s2 := ⟨[(2, .str ([109] ++ v1.2))], [], []⟩) (vcs := [(([109].length + v1.2.length : Nat) : Int) ≤ 9223372036854775807]) (by kernel_rfl) ⟨by (have e := Int.tdiv_eq_ediv_of_nonneg (a := v1.1) (b := 10) (by omega); simp only [List.length_append, List.length_map, List.length_cons, List.length_nil]; omega), trivial⟩ ?_
      clear hs; intro a w hs
      refine W.ret (by kernel_rfl) ?_
      subst hR
      exact ret_ok hs [] (vcs := [([109] ++ v1.2 : List UInt8) = ([109] ++ v1.2), Frs (.str ([109] ++ v1.2))]) (by kernel_rfl) ⟨rfl, by simp [Frs, FrsL], trivial⟩
theorem ok_laws_markText (x0 : Int) (hk : x0 ≤ 60000000) : Lite.Fn Try.prog 72 [.int .i64 x0] (.str (markText x0)) [] := aux_laws_markText x0 hk _ rfl
def markIntS (x0 : List Int) (x1 : Int) : Int × (List Int) := loopN (fun i1 (v1 : (List Int) × Int) next => next ((v1.1.set i1 v1.2), v1.2 + 1)) (fun (v1 : (List Int) × Int) => (v1.2, v1.1)) x0.length 0 (x0, x1)
theorem aux_laws_markIntS (x0 : List Int) (x1 : Int) (hx : x0.length ≤ 1048576) (hk : 0 ≤ x1 ∧ x1 ≤ 30000000) (R : Int × (List Int)) (hR : markIntS x0 x1 = R) : Lite.FnM Try.prog 16 [.own 900000, .int .i64 x1] [.arr 1 x0.length (rowOf (cInt .i64) x0)] (.int .i64 R.1) [(900000, .arr 1 R.2.length (rowOf (cInt .i64) R.2))] := by
  refine Lite.FnM.intro 19 Try.func16 (by kernel_rfl) (by kernel_rfl) (by kernel_rfl) fun w0 X0 a w hs => ?_
  refine W.linK hs 1 [] [0, 1, 4] [900000] (s2 := ⟨[(0, .own 900000), (1, .int .i64 x1), (4, .int .i64 0)], [(900000, .arr 1 x0.length (rowOf (cInt .i64) x0))], []⟩) (vcs := []) (by kernel_rfl) trivial ?_
  clear hs; intro a w hs
  refine W.seq (by kernel_rfl) ?_
  refine W.linK hs 1 [] [0, 1, 4, 5] [900000] (s2 := ⟨[(0, .own 900000), (1, .int .i64 x1), (4, .int .i64 0), (5, .int .i64 0)], [(900000, .arr 1 x0.length (rowOf (cInt .i64) x0))], []⟩) (vcs := []) (by kernel_rfl) trivial ?_
  clear hs; intro a w hs
  refine W.block 0 (by kernel_rfl) ?_
  refine W.loopN (s0 := (x0, x1)) hR (by kernel_rfl) (fun i v => ⟨[(0, .own 900000), (1, .int .i64 v.2), (4, .int .i64 0), (5, .int .i64 ((i : Nat) : Int))], [(900000, .arr 1 x0.length (rowOf (cInt .i64) v.1))], [900000]⟩) (fun i v => v.1.length = x0.length ∧ v.2 = x1 + 1 * i) (by (clear hs hR; intros; (try simp only [decide_eq_true_eq, decide_eq_false_iff_not, Bool.or_eq_true, Bool.and_eq_true, or_f_iff, not_f_iff, not_t_iff, Bool.not_eq_true', inR] at *); (repeat' apply And.intro) <;> (first | (intros; omega) | (simp_all [inR]; done)))) (hs.le (T := ⟨[(0, .own 900000), (1, .int .i64 x1), (4, .int .i64 0), (5, .int .i64 ((0 : Nat) : Int))], [(900000, .arr 1 x0.length (rowOf (cInt .i64) x0))], [900000]⟩) [(900000, some 900000)] (vcs := [(x1 : Int) = x1, (0 : Int) = 0, (0 : Int) = ((0 : Nat) : Int), rowsEq x0.length x0.length (rowOf (cInt .i64) x0) (rowOf (cInt .i64) x0)]) (by kernel_rfl) ⟨by first | rfl | omega | (simp; done), by first | rfl | omega | (simp; done), by first | rfl | omega | (simp; done), ⟨rfl, fun _ _ => rfl⟩, trivial⟩) ?_
  intro i1 v1 a w hn1 hI1 hR hs
  replace hs : H 19 w0 X0 ⟨[(0, .own 900000), (1, .int .i64 v1.2), (4, .int .i64 0), (5, .int .i64 ((i1 : Nat) : Int))], [(900000, .arr 1 x0.length (rowOf (cInt .i64) v1.1))], [900000]⟩ a w := hs
  refine W.seq (by kernel_rfl) ?_
  refine W.linK hs 1 [] [0, 1, 4, 5, 9] [900000] (s2 := ⟨[(0, .own 900000), (1, .int .i64 v1.2), (4, .int .i64 0), (5, .int .i64 ((i1 : Nat) : Int)), (9, .bool (decide (((i1 : Nat) : Int) < ((x0.length : Nat) : Int))))], [(900000, .arr 1 x0.length (rowOf (cInt .i64) v1.1))], [900000]⟩) (vcs := []) (by kernel_rfl) trivial ?_
  clear hs; intro a w hs
  refine W.cond hs (by kernel_rfl) (b := decide (((i1 : Nat) : Int) < ((x0.length : Nat) : Int))) (p := []) (by kernel_rfl) trivial (fun hc1 => ?_) (fun hc1 => ?_)
  ·
    have hii1 : i1 < x0.length := by have := of_decide_eq_true hc1; omega
    replace hR := loopN_step hR hii1
    refine W.skip (by kernel_rfl) ?_
    refine W.seq (by kernel_rfl) ?_
    refine W.block 1 (by kernel_rfl) ?_
    refine W.linK hs 1 [(4, .row (rowOf (cInt .i64) (v1.1.set i1 v1.2)))] [0, 1, 4, 5] [900000] (s2 := ⟨[(0, .own 900000), (1, .int .i64 v1.2), (4, .int .i64 0), (5, .int .i64 ((i1 : Nat) : Int))], [(900000, .arr 1 x0.length (rowOf (cInt .i64) (v1.1.set i1 v1.2)))], [900000]⟩) (vcs := [0 ≤ (((i1 : Nat) : Int) : Int) ∧ (((i1 : Nat) : Int) : Int) < ((x0.length : Nat) : Int), ∀ k, k < x0.length → (rowOf (cInt .i64) (v1.1.set i1 v1.2)) k = bif Nat.beq k i1 then setSeg ((rowOf (cInt .i64) v1.1) k) 0 [.int .i64 v1.2] else (rowOf (cInt .i64) v1.1) k]) (by kernel_rfl) ⟨by (intros; omega), fun k hk => row_set (cInt .i64) v1.1 i1 v1.2 (by (intros; omega)) k (Nat.lt_of_lt_of_le hk (by (intros; omega))), trivial⟩ ?_
    clear hs; intro a w hs
    refine W.regK hs (by kernel_rfl) [] [0, 1, 4, 5] [900000] (s2 := ⟨[(0, .own 900000), (1, .int .i64 (v1.2 + 1)), (4, .int .i64 0), (5, .int .i64 ((i1 : Nat) : Int))], [(900000, .arr 1 x0.length (rowOf (cInt .i64) (v1.1.set i1 v1.2)))], [900000]⟩) (vcs := [inR .i64 (v1.2 + 1)]) (by kernel_rfl) ⟨by (clear hs; intros; simp only [inR]; omega), trivial⟩ ?_
    clear hs; intro a w hs
    refine W.regK hs (by kernel_rfl) [] [0, 1, 4, 5] [900000] (s2 := ⟨[(0, .own 900000), (1, .int .i64 (v1.2 + 1)), (4, .int .i64 0), (5, .int .i64 (((i1 : Nat) : Int) + 1))], [(900000, .arr 1 x0.length (rowOf (cInt .i64) (v1.1.set i1 v1.2)))], [900000]⟩) (vcs := [inR .i64 (((i1 : Nat) : Int) + 1)]) (by kernel_rfl) ⟨by (clear hs; intros; simp only [inR]; omega), trivial⟩ ?_
    clear hs; intro a w hs
    exact ⟨((v1.1.set i1 v1.2), v1.2 + 1), hii1, by (simp only [List.length_set]; omega), hR, hs.le (T := ⟨[(0, .own 900000), (1, .int .i64 (v1.2 + 1)), (4, .int .i64 0), (5, .int .i64 (((i1 + 1) : Nat) : Int))], [(900000, .arr 1 x0.length (rowOf (cInt .i64) (v1.1.set i1 v1.2)))], [900000]⟩) [(900000, some 900000)] (vcs := [(v1.2 + 1 : Int) = (v1.2 + 1), (0 : Int) = 0, (((i1 : Nat) : Int) + 1 : Int) = (((i1 + 1) : Nat) : Int), rowsEq x0.length x0.length (rowOf (cInt .i64) (v1.1.set i1 v1.2)) (rowOf (cInt .i64) (v1.1.set i1 v1.2))]) (by kernel_rfl) ⟨by first | rfl | omega | (simp; done), by first | rfl | omega | (simp; done), by first | rfl | omega | (simp; done), ⟨rfl, fun _ _ => rfl⟩, trivial⟩⟩
  ·
    obtain rfl : i1 = x0.length := by have := of_decide_eq_false hc1; omega
    replace hR := loopN_end hR (Nat.lt_irrefl _)
    refine W.exit 0 (by kernel_rfl) rfl ?_
    refine W.linK hs 1 [] [4] [900000] (s2 := ⟨[(4, .int .i64 v1.2)], [(900000, .arr 1 x0.length (rowOf (cInt .i64) v1.1))], [900000]⟩) (vcs := []) (by kernel_rfl) trivial ?_
    clear hs; intro a w hs
    refine W.ret (by kernel_rfl) ?_
    subst hR
    exact ret_okM hs [(900000, some 900000)] (vcs := [rowsEq x0.length (((v1.2, v1.1).2).length) (rowOf (cInt .i64) v1.1) (rowOf (cInt .i64) ((v1.2, v1.1).2)), (v1.2 : Int) = ((v1.2, v1.1).1)]) (by kernel_rfl) ⟨⟨by (clear hs; intros; simp only [inR]; omega), fun _ _ => rfl⟩, by first | rfl | omega | (simp; done), trivial⟩
theorem ok_laws_markIntS (x0 : List Int) (x1 : Int) (hx : x0.length ≤ 1048576) (hk : 0 ≤ x1 ∧ x1 ≤ 30000000) : Lite.FnM Try.prog 16 [.own 900000, .int .i64 x1] [.arr 1 x0.length (rowOf (cInt .i64) x0)] (.int .i64 ((markIntS x0 x1).1)) [(900000, .arr 1 (((markIntS x0 x1).2).length) (rowOf (cInt .i64) ((markIntS x0 x1).2)))] := aux_laws_markIntS x0 x1 hx hk _ rfl
def markPersonS (x0 : List Person) (x1 : Int) : Int × (List Person) := loopN (fun i1 (v1 : (List Person) × Int) next => next ((v1.1.set i1 (Person.mk (markText v1.2) (v1.2 + 1) ((v1.2 + 1) + 1) (((v1.2 + 1) + 1) + 1) ((((v1.2 + 1) + 1) + 1) + 1) (((((v1.2 + 1) + 1) + 1) + 1) + 1))), (((((v1.2 + 1) + 1) + 1) + 1) + 1) + 1)) (fun (v1 : (List Person) × Int) => (v1.2, v1.1)) x0.length 0 (x0, x1)
theorem aux_laws_markPersonS (x0 : List Person) (x1 : Int) (hx : x0.length ≤ 1048576) (hk : 0 ≤ x1 ∧ x1 ≤ 30000000) (R : Int × (List Person)) (hR : markPersonS x0 x1 = R) : Lite.FnM Try.prog 47 [.own 900000, .int .i64 x1] [.arr 6 x0.length (rowOf (cPerson true) x0)] (.int .i64 R.1) [(900000, .arr 6 R.2.length (rowOf (cPerson true) R.2))] := by
  refine Lite.FnM.intro 56 Try.func47 (by kernel_rfl) (by kernel_rfl) (by kernel_rfl) fun w0 X0 a w hs => ?_
  refine W.linK hs 1 [] [0, 1, 4] [900000] (s2 := ⟨[(0, .own 900000), (1, .int .i64 x1), (4, .int .i64 0)], [(900000, .arr 6 x0.length (rowOf (cPerson true) x0))], []⟩) (vcs := []) (by kernel_rfl) trivial ?_
  clear hs; intro a w hs
  refine W.seq (by kernel_rfl) ?_
  refine W.linK hs 1 [] [0, 1, 4, 5] [900000] (s2 := ⟨[(0, .own 900000), (1, .int .i64 x1), (4, .int .i64 0), (5, .int .i64 0)], [(900000, .arr 6 x0.length (rowOf (cPerson true) x0))], []⟩) (vcs := []) (by kernel_rfl) trivial ?_
  clear hs; intro a w hs
  refine W.block 0 (by kernel_rfl) ?_
  refine W.loopN (s0 := (x0, x1)) hR (by kernel_rfl) (fun i v => ⟨[(0, .own 900000), (1, .int .i64 v.2), (4, .int .i64 0), (5, .int .i64 ((i : Nat) : Int))], [(900000, .arr 6 x0.length (rowOf (cPerson true) v.1))], [900000]⟩) (fun i v => v.1.length = x0.length ∧ v.2 = x1 + 6 * i) (by (clear hs hR; intros; (try simp only [decide_eq_true_eq, decide_eq_false_iff_not, Bool.or_eq_true, Bool.and_eq_true, or_f_iff, not_f_iff, not_t_iff, Bool.not_eq_true', inR] at *); (repeat' apply And.intro) <;> (first | (intros; omega) | (simp_all [inR]; done)))) (hs.le (T := ⟨[(0, .own 900000), (1, .int .i64 x1), (4, .int .i64 0), (5, .int .i64 ((0 : Nat) : Int))], [(900000, .arr 6 x0.length (rowOf (cPerson true) x0))], [900000]⟩) [(900000, some 900000)] (vcs := [(x1 : Int) = x1, (0 : Int) = 0, (0 : Int) = ((0 : Nat) : Int), rowsEq x0.length x0.length (rowOf (cPerson true) x0) (rowOf (cPerson true) x0)]) (by kernel_rfl) ⟨by first | rfl | omega | (simp; done), by first | rfl | omega | (simp; done), by first | rfl | omega | (simp; done), ⟨rfl, fun _ _ => rfl⟩, trivial⟩) ?_
  intro i1 v1 a w hn1 hI1 hR hs
  replace hs : H 56 w0 X0 ⟨[(0, .own 900000), (1, .int .i64 v1.2), (4, .int .i64 0), (5, .int .i64 ((i1 : Nat) : Int))], [(900000, .arr 6 x0.length (rowOf (cPerson true) v1.1))], [900000]⟩ a w := hs
  refine W.seq (by kernel_rfl) ?_
  refine W.linK hs 1 [] [0, 1, 4, 5, 9] [900000] (s2 := ⟨[(0, .own 900000), (1, .int .i64 v1.2), (4, .int .i64 0), (5, .int .i64 ((i1 : Nat) : Int)), (9, .bool (decide (((i1 : Nat) : Int) < ((x0.length : Nat) : Int))))], [(900000, .arr 6 x0.length (rowOf (cPerson true) v1.1))], [900000]⟩) (vcs := []) (by kernel_rfl) trivial ?_
  clear hs; intro a w hs
  refine W.cond hs (by kernel_rfl) (b := decide (((i1 : Nat) : Int) < ((x0.length : Nat) : Int))) (p := []) (by kernel_rfl) trivial (fun hc1 => ?_) (fun hc1 => ?_)
  ·
    have hii1 : i1 < x0.length := by have := of_decide_eq_true hc1; omega
    replace hR := loopN_step hR hii1
    refine W.skip (by kernel_rfl) ?_
    refine W.seq (by kernel_rfl) ?_
    refine W.block 1 (by kernel_rfl) ?_
    refine W.linK hs 11 [(3, .res (.str (markText v1.2)) []), (6, .row (rowOf (cPerson true) (v1.1.set i1 (Person.mk (markText v1.2) ((v1.1.getD i1 default).sex) ((v1.1.getD i1 default).father) ((v1.1.getD i1 default).mother) ((v1.1.getD i1 default).born) ((v1.1.getD i1 default).died))))), (2005, .row (rowOf (cPerson true) (v1.1.set i1 (Person.mk (markText v1.2) (v1.2 + 1) ((v1.1.getD i1 default).father) ((v1.1.getD i1 default).mother) ((v1.1.getD i1 default).born) ((v1.1.getD i1 default).died))))), (4005, .row (rowOf (cPerson true) (v1.1.set i1 (Person.mk (markText v1.2) (v1.2 + 1) ((v1.2 + 1) + 1) ((v1.1.getD i1 default).mother) ((v1.1.getD i1 default).born) ((v1.1.getD i1 default).died))))), (6005, .row (rowOf (cPerson true) (v1.1.set i1 (Person.mk (markText v1.2) (v1.2 + 1) ((v1.2 + 1) + 1) (((v1.2 + 1) + 1) + 1) ((v1.1.getD i1 default).born) ((v1.1.getD i1 default).died))))), (8005, .row (rowOf (cPerson true) (v1.1.set i1 (Person.mk (markText v1.2) (v1.2 + 1) ((v1.2 + 1) + 1) (((v1.2 + 1) + 1) + 1) ((((v1.2 + 1) + 1) + 1) + 1) ((v1.1.getD i1 default).died))))), (10005, .row (rowOf (cPerson true) (v1.1.set i1 (Person.mk (markText v1.2) (v1.2 + 1) ((v1.2 + 1) + 1) (((v1.2 + 1) + 1) + 1) ((((v1.2 + 1) + 1) + 1) + 1) (((((v1.2 + 1) + 1) + 1) + 1) + 1)))))] [0, 1, 4, 5] [900000] (s2 := ⟨[(0, .own 900000), (1, .int .i64 (((((v1.2 + 1) + 1) + 1) + 1) + 1)), (4, .int .i64 0), (5, .int .i64 ((i1 : Nat) : Int))], [(900000, .arr 6 x0.length (rowOf (cPerson true) (v1.1.set i1 (Person.mk (markText v1.2) (v1.2 + 1) ((v1.2 + 1) + 1) (((v1.2 + 1) + 1) + 1) ((((v1.2 + 1) + 1) + 1) + 1) (((((v1.2 + 1) + 1) + 1) + 1) + 1)))))], [900000]⟩) (vcs := [Lite.Fn Try.prog 72 [.int .i64 v1.2] (.str (markText v1.2)) [], 0 ≤ (((i1 : Nat) : Int) : Int) ∧ (((i1 : Nat) : Int) : Int) < ((x0.length : Nat) : Int), ∀ k, k < x0.length → (rowOf (cPerson true) (v1.1.set i1 (Person.mk (markText v1.2) ((v1.1.getD i1 default).sex) ((v1.1.getD i1 default).father) ((v1.1.getD i1 default).mother) ((v1.1.getD i1 default).born) ((v1.1.getD i1 default).died)))) k = bif Nat.beq k i1 then setSeg ((rowOf (cPerson true) v1.1) k) 0 [.str (markText v1.2)] else (rowOf (cPerson true) v1.1) k, inR .i64 (v1.2 + 1), 0 ≤ (((i1 : Nat) : Int) : Int) ∧ (((i1 : Nat) : Int) : Int) < ((x0.length : Nat) : Int), ∀ k, k < x0.length → (rowOf (cPerson true) (v1.1.set i1 (Person.mk (markText v1.2) (v1.2 + 1) ((v1.1.getD i1 default).father) ((v1.1.getD i1 default).mother) ((v1.1.getD i1 default).born) ((v1.1.getD i1 default).died)))) k = bif Nat.beq k i1 then setSeg ((rowOf (cPerson true) (v1.1.set i1 (Person.mk (markText v1.2) ((v1.1.getD i1 default).sex) ((v1.1.getD i1 default).father) ((v1.1.getD i1 default).mother) ((v1.1.getD i1 default).born) ((v1.1.getD i1 default).died)))) k) 1 [.int .i64 (v1.2 + 1)] else (rowOf (cPerson true) (v1.1.set i1 (Person.mk (markText v1.2) ((v1.1.getD i1 default).sex) ((v1.1.getD i1 default).father) ((v1.1.getD i1 default).mother) ((v1.1.getD i1 default).born) ((v1.1.getD i1 default).died)))) k, inR .i64 ((v1.2 + 1) + 1), 0 ≤ (((i1 : Nat) : Int) : Int) ∧ (((i1 : Nat) : Int) : Int) < ((x0.length : Nat) : Int), ∀ k, k < x0.length → (rowOf (cPerson true) (v1.1.set i1 (Person.mk (markText v1.2) (v1.2 + 1) ((v1.2 + 1) + 1) ((v1.1.getD i1 default).mother) ((v1.1.getD i1 default).born) ((v1.1.getD i1 default).died)))) k = bif Nat.beq k i1 then setSeg ((rowOf (cPerson true) (v1.1.set i1 (Person.mk (markText v1.2) (v1.2 + 1) ((v1.1.getD i1 default).father) ((v1.1.getD i1 default).mother) ((v1.1.getD i1 default).born) ((v1.1.getD i1 default).died)))) k) 2 [.int .i64 ((v1.2 + 1) + 1)] else (rowOf (cPerson true) (v1.1.set i1 (Person.mk (markText v1.2) (v1.2 + 1) ((v1.1.getD i1 default).father) ((v1.1.getD i1 default).mother) ((v1.1.getD i1 default).born) ((v1.1.getD i1 default).died)))) k, inR .i64 (((v1.2 + 1) + 1) + 1), 0 ≤ (((i1 : Nat) : Int) : Int) ∧ (((i1 : Nat) : Int) : Int) < ((x0.length : Nat) : Int), ∀ k, k < x0.length → (rowOf (cPerson true) (v1.1.set i1 (Person.mk (markText v1.2) (v1.2 + 1) ((v1.2 + 1) + 1) (((v1.2 + 1) + 1) + 1) ((v1.1.getD i1 default).born) ((v1.1.getD i1 default).died)))) k = bif Nat.beq k i1 then setSeg ((rowOf (cPerson true) (v1.1.set i1 (Person.mk (markText v1.2) (v1.2 + 1) ((v1.2 + 1) + 1) ((v1.1.getD i1 default).mother) ((v1.1.getD i1 default).born) ((v1.1.getD i1 default).died)))) k) 3 [.int .i64 (((v1.2 + 1) + 1) + 1)] else (rowOf (cPerson true) (v1.1.set i1 (Person.mk (markText v1.2) (v1.2 + 1) ((v1.2 + 1) + 1) ((v1.1.getD i1 default).mother) ((v1.1.getD i1 default).born) ((v1.1.getD i1 default).died)))) k, inR .i64 ((((v1.2 + 1) + 1) + 1) + 1), 0 ≤ (((i1 : Nat) : Int) : Int) ∧ (((i1 : Nat) : Int) : Int) < ((x0.length : Nat) : Int), ∀ k, k < x0.length → (rowOf (cPerson true) (v1.1.set i1 (Person.mk (markText v1.2) (v1.2 + 1) ((v1.2 + 1) + 1) (((v1.2 + 1) + 1) + 1) ((((v1.2 + 1) + 1) + 1) + 1) ((v1.1.getD i1 default).died)))) k = bif Nat.beq k i1 then setSeg ((rowOf (cPerson true) (v1.1.set i1 (Person.mk (markText v1.2) (v1.2 + 1) ((v1.2 + 1) + 1) (((v1.2 + 1) + 1) + 1) ((v1.1.getD i1 default).born) ((v1.1.getD i1 default).died)))) k) 4 [.int .i64 ((((v1.2 + 1) + 1) + 1) + 1)] else (rowOf (cPerson true) (v1.1.set i1 (Person.mk (markText v1.2) (v1.2 + 1) ((v1.2 + 1) + 1) (((v1.2 + 1) + 1) + 1) ((v1.1.getD i1 default).born) ((v1.1.getD i1 default).died)))) k, inR .i64 (((((v1.2 + 1) + 1) + 1) + 1) + 1), 0 ≤ (((i1 : Nat) : Int) : Int) ∧ (((i1 : Nat) : Int) : Int) < ((x0.length : Nat) : Int), ∀ k, k < x0.length → (rowOf (cPerson true) (v1.1.set i1 (Person.mk (markText v1.2) (v1.2 + 1) ((v1.2 + 1) + 1) (((v1.2 + 1) + 1) + 1) ((((v1.2 + 1) + 1) + 1) + 1) (((((v1.2 + 1) + 1) + 1) + 1) + 1)))) k = bif Nat.beq k i1 then setSeg ((rowOf (cPerson true) (v1.1.set i1 (Person.mk (markText v1.2) (v1.2 + 1) ((v1.2 + 1) + 1) (((v1.2 + 1) + 1) + 1) ((((v1.2 + 1) + 1) + 1) + 1) ((v1.1.getD i1 default).died)))) k) 5 [.int .i64 (((((v1.2 + 1) + 1) + 1) + 1) + 1)] else (rowOf (cPerson true) (v1.1.set i1 (Person.mk (markText v1.2) (v1.2 + 1) ((v1.2 + 1) + 1) (((v1.2 + 1) + 1) + 1) ((((v1.2 + 1) + 1) + 1) + 1) ((v1.1.getD i1 default).died)))) k]) (by kernel_rfl) ⟨ok_laws_markText v1.2 (by (intros; omega)), by (intros; omega), fun k hk => row_set_part (cPerson true) v1.1 i1 (Person.mk (markText v1.2) ((v1.1.getD i1 default).sex) ((v1.1.getD i1 default).father) ((v1.1.getD i1 default).mother) ((v1.1.getD i1 default).born) ((v1.1.getD i1 default).died)) 0 [.str (markText v1.2)] rfl (by (intros; omega)) k (Nat.lt_of_lt_of_le hk (by (intros; omega))), by (clear hs; intros; simp only [inR]; omega), by (intros; omega), fun k hk => row_set_again (cPerson true) v1.1 i1 (Person.mk (markText v1.2) ((v1.1.getD i1 default).sex) ((v1.1.getD i1 default).father) ((v1.1.getD i1 default).mother) ((v1.1.getD i1 default).born) ((v1.1.getD i1 default).died)) (Person.mk (markText v1.2) (v1.2 + 1) ((v1.1.getD i1 default).father) ((v1.1.getD i1 default).mother) ((v1.1.getD i1 default).born) ((v1.1.getD i1 default).died)) 1 [.int .i64 (v1.2 + 1)] rfl (by (intros; omega)) k (Nat.lt_of_lt_of_le hk (by (intros; omega))), by (clear hs; intros; simp only [inR]; omega), by (intros; omega), fun k hk => row_set_again (cPerson true) v1.1 i1 (Person.mk (markText v1.2) (v1.2 + 1) ((v1.1.getD i1 default).father) ((v1.1.getD i1 default).mother) ((v1.1.getD i1 default).born) ((v1.1.getD i1 default).died)) (Person.mk (markText v1.2) (v1.2 + 1) ((v1.2 + 1) + 1) ((v1.1.getD i1 default).mother) ((v1.1.getD i1 default).born) ((v1.1.getD i1 default).died)) 2 [.int .i64 ((v1.2 + 1) + 1)] rfl (by (intros; omega)) k (Nat.lt_of_lt_of_le hk (by (intros; omega))), by (clear hs; intros; simp only [inR]; omega), by (intros; omega), fun k hk => row_set_again (cPerson true) v1.1 i1 (Person.mk (markText v1.2) (v1.2 + 1) ((v1.2 + 1) + 1) ((v1.1.getD i1 default).mother) ((v1.1.getD i1 default).born) ((v1.1.getD i1 default).died)) (Person.mk (markText v1.2) (v1.2 + 1) ((v1.2 + 1) + 1) (((v1.2 + 1) + 1) + 1) ((v1.1.getD i1 default).born) ((v1.1.getD i1 default).died)) 3 [.int .i64 (((v1.2 + 1) + 1) + 1)] rfl (by (intros; omega)) k (Nat.lt_of_lt_of_le hk (by (intros; omega))), by (clear hs; intros; simp only [inR]; omega), by (intros; omega), fun k hk => row_set_again (cPerson true) v1.1 i1 (Person.mk (markText v1.2) (v1.2 + 1) ((v1.2 + 1) + 1) (((v1.2 + 1) + 1) + 1) ((v1.1.getD i1 default).born) ((v1.1.getD i1 default).died)) (Person.mk (markText v1.2) (v1.2 + 1) ((v1.2 + 1) + 1) (((v1.2 + 1) + 1) + 1) ((((v1.2 + 1) + 1) + 1) + 1) ((v1.1.getD i1 default).died)) 4 [.int .i64 ((((v1.2 + 1) + 1) + 1) + 1)] rfl (by (intros; omega)) k (Nat.lt_of_lt_of_le hk (by (intros; omega))), by (clear hs; intros; simp only [inR]; omega), by (intros; omega), fun k hk => row_set_again (cPerson true) v1.1 i1 (Person.mk (markText v1.2) (v1.2 + 1) ((v1.2 + 1) + 1) (((v1.2 + 1) + 1) + 1) ((((v1.2 + 1) + 1) + 1) + 1) ((v1.1.getD i1 default).died)) (Person.mk (markText v1.2) (v1.2 + 1) ((v1.2 + 1) + 1) (((v1.2 + 1) + 1) + 1) ((((v1.2 + 1) + 1) + 1) + 1) (((((v1.2 + 1) + 1) + 1) + 1) + 1)) 5 [.int .i64 (((((v1.2 + 1) + 1) + 1) + 1) + 1)] rfl (by (intros; omega)) k (Nat.lt_of_lt_of_le hk (by (intros; omega))), trivial⟩ ?_
    clear hs; intro a w hs
    refine W.regK hs (by kernel_rfl) [] [0, 1, 4, 5] [900000] (s2 := ⟨[(0, .own 900000), (1, .int .i64 ((((((v1.2 + 1) + 1) + 1) + 1) + 1) + 1)), (4, .int .i64 0), (5, .int .i64 ((i1 : Nat) : Int))], [(900000, .arr 6 x0.length (rowOf (cPerson true) (v1.1.set i1 (Person.mk (markText v1.2) (v1.2 + 1) ((v1.2 + 1) + 1) (((v1.2 + 1) + 1) + 1) ((((v1.2 + 1) + 1) + 1) + 1) (((((v1.2 + 1) + 1) + 1) + 1) + 1)))))], [900000]⟩) (vcs := [inR .i64 ((((((v1.2 + 1) + 1) + 1) + 1) + 1) + 1)]) (by kernel_rfl) ⟨by (clear hs; intros; simp only [inR]; omega), trivial⟩ ?_
    clear hs; intro a w hs
    refine W.regK hs (by kernel_rfl) [] [0, 1, 4, 5] [900000] (s2 := ⟨[(0, .own 900000), (1, .int .i64 ((((((v1.2 + 1) + 1) + 1) + 1) + 1) + 1)), (4, .int .i64 0), (5, .int .i64 (((i1 : Nat) : Int) + 1))], [(900000, .arr 6 x0.length (rowOf (cPerson true) (v1.1.set i1 (Person.mk (markText v1.2) (v1.2 + 1) ((v1.2 + 1) + 1) (((v1.2 + 1) + 1) + 1) ((((v1.2 + 1) + 1) + 1) + 1) (((((v1.2 + 1) + 1) + 1) + 1) + 1)))))], [900000]⟩) (vcs := [inR .i64 (((i1 : Nat) : Int) + 1)]) (by kernel_rfl) ⟨by (clear hs; intros; simp only [inR]; omega), trivial⟩ ?_
    clear hs; intro a w hs
    exact ⟨((v1.1.set i1 (Person.mk (markText v1.2) (v1.2 + 1) ((v1.2 + 1) + 1) (((v1.2 + 1) + 1) + 1) ((((v1.2 + 1) + 1) + 1) + 1) (((((v1.2 + 1) + 1) + 1) + 1) + 1))), (((((v1.2 + 1) + 1) + 1) + 1) + 1) + 1), hii1, by (simp only [List.length_set]; omega), hR, hs.le (T := ⟨[(0, .own 900000), (1, .int .i64 ((((((v1.2 + 1) + 1) + 1) + 1) + 1) + 1)), (4, .int .i64 0), (5, .int .i64 (((i1 + 1) : Nat) : Int))], [(900000, .arr 6 x0.length (rowOf (cPerson true) (v1.1.set i1 (Person.mk (markText v1.2) (v1.2 + 1) ((v1.2 + 1) + 1) (((v1.2 + 1) + 1) + 1) ((((v1.2 + 1) + 1) + 1) + 1) (((((v1.2 + 1) + 1) + 1) + 1) + 1)))))], [900000]⟩) [(900000, some 900000)] (vcs := [((((((v1.2 + 1) + 1) + 1) + 1) + 1) + 1 : Int) = ((((((v1.2 + 1) + 1) + 1) + 1) + 1) + 1), (0 : Int) = 0, (((i1 : Nat) : Int) + 1 : Int) = (((i1 + 1) : Nat) : Int), rowsEq x0.length x0.length (rowOf (cPerson true) (v1.1.set i1 (Person.mk (markText v1.2) (v1.2 + 1) ((v1.2 + 1) + 1) (((v1.2 + 1) + 1) + 1) ((((v1.2 + 1) + 1) + 1) + 1) (((((v1.2 + 1) + 1) + 1) + 1) + 1)))) (rowOf (cPerson true) (v1.1.set i1 (Person.mk (markText v1.2) (v1.2 + 1) ((v1.2 + 1) + 1) (((v1.2 + 1) + 1) + 1) ((((v1.2 + 1) + 1) + 1) + 1) (((((v1.2 + 1) + 1) + 1) + 1) + 1))))]) (by kernel_rfl) ⟨by first | rfl | omega | (simp; done), by first | rfl | omega | (simp; done), by first | rfl | omega | (simp; done), ⟨rfl, fun _ _ => rfl⟩, trivial⟩⟩
  ·
    obtain rfl : i1 = x0.length := by have := of_decide_eq_false hc1; omega
    replace hR := loopN_end hR (Nat.lt_irrefl _)
    refine W.exit 0 (by kernel_rfl) rfl ?_
    refine W.linK hs 1 [] [4] [900000] (s2 := ⟨[(4, .int .i64 v1.2)], [(900000, .arr 6 x0.length (rowOf (cPerson true) v1.1))], [900000]⟩) (vcs := []) (by kernel_rfl) trivial ?_
    clear hs; intro a w hs
    refine W.ret (by kernel_rfl) ?_
    subst hR
    exact ret_okM hs [(900000, some 900000)] (vcs := [rowsEq x0.length (((v1.2, v1.1).2).length) (rowOf (cPerson true) v1.1) (rowOf (cPerson true) ((v1.2, v1.1).2)), (v1.2 : Int) = ((v1.2, v1.1).1)]) (by kernel_rfl) ⟨⟨by (clear hs; intros; simp only [inR]; omega), fun _ _ => rfl⟩, by first | rfl | omega | (simp; done), trivial⟩
theorem ok_laws_markPersonS (x0 : List Person) (x1 : Int) (hx : x0.length ≤ 1048576) (hk : 0 ≤ x1 ∧ x1 ≤ 30000000) : Lite.FnM Try.prog 47 [.own 900000, .int .i64 x1] [.arr 6 x0.length (rowOf (cPerson true) x0)] (.int .i64 ((markPersonS x0 x1).1)) [(900000, .arr 6 (((markPersonS x0 x1).2).length) (rowOf (cPerson true) ((markPersonS x0 x1).2)))] := aux_laws_markPersonS x0 x1 hx hk _ rfl
def markUnionS (x0 : List Union) (x1 : Int) : Int × (List Union) := loopN (fun i1 (v1 : (List Union) × Int) next => next ((v1.1.set i1 (Union.mk v1.2 (v1.2 + 1) ((v1.2 + 1) + 1) (((v1.2 + 1) + 1) + 1))), (((v1.2 + 1) + 1) + 1) + 1)) (fun (v1 : (List Union) × Int) => (v1.2, v1.1)) x0.length 0 (x0, x1)
theorem aux_laws_markUnionS (x0 : List Union) (x1 : Int) (hx : x0.length ≤ 1048576) (hk : 0 ≤ x1 ∧ x1 ≤ 30000000) (R : Int × (List Union)) (hR : markUnionS x0 x1 = R) : Lite.FnM Try.prog 48 [.own 900000, .int .i64 x1] [.arr 4 x0.length (rowOf (cUnion true) x0)] (.int .i64 R.1) [(900000, .arr 4 R.2.length (rowOf (cUnion true) R.2))] := by
  refine Lite.FnM.intro 41 Try.func48 (by kernel_rfl) (by kernel_rfl) (by kernel_rfl) fun w0 X0 a w hs => ?_
  refine W.linK hs 1 [] [0, 1, 4] [900000] (s2 := ⟨[(0, .own 900000), (1, .int .i64 x1), (4, .int .i64 0)], [(900000, .arr 4 x0.length (rowOf (cUnion true) x0))], []⟩) (vcs := []) (by kernel_rfl) trivial ?_
  clear hs; intro a w hs
  refine W.seq (by kernel_rfl) ?_
  refine W.linK hs 1 [] [0, 1, 4, 5] [900000] (s2 := ⟨[(0, .own 900000), (1, .int .i64 x1), (4, .int .i64 0), (5, .int .i64 0)], [(900000, .arr 4 x0.length (rowOf (cUnion true) x0))], []⟩) (vcs := []) (by kernel_rfl) trivial ?_
  clear hs; intro a w hs
  refine W.block 0 (by kernel_rfl) ?_
  refine W.loopN (s0 := (x0, x1)) hR (by kernel_rfl) (fun i v => ⟨[(0, .own 900000), (1, .int .i64 v.2), (4, .int .i64 0), (5, .int .i64 ((i : Nat) : Int))], [(900000, .arr 4 x0.length (rowOf (cUnion true) v.1))], [900000]⟩) (fun i v => v.1.length = x0.length ∧ v.2 = x1 + 4 * i) (by (clear hs hR; intros; (try simp only [decide_eq_true_eq, decide_eq_false_iff_not, Bool.or_eq_true, Bool.and_eq_true, or_f_iff, not_f_iff, not_t_iff, Bool.not_eq_true', inR] at *); (repeat' apply And.intro) <;> (first | (intros; omega) | (simp_all [inR]; done)))) (hs.le (T := ⟨[(0, .own 900000), (1, .int .i64 x1), (4, .int .i64 0), (5, .int .i64 ((0 : Nat) : Int))], [(900000, .arr 4 x0.length (rowOf (cUnion true) x0))], [900000]⟩) [(900000, some 900000)] (vcs := [(x1 : Int) = x1, (0 : Int) = 0, (0 : Int) = ((0 : Nat) : Int), rowsEq x0.length x0.length (rowOf (cUnion true) x0) (rowOf (cUnion true) x0)]) (by kernel_rfl) ⟨by first | rfl | omega | (simp; done), by first | rfl | omega | (simp; done), by first | rfl | omega | (simp; done), ⟨rfl, fun _ _ => rfl⟩, trivial⟩) ?_
  intro i1 v1 a w hn1 hI1 hR hs
  replace hs : H 41 w0 X0 ⟨[(0, .own 900000), (1, .int .i64 v1.2), (4, .int .i64 0), (5, .int .i64 ((i1 : Nat) : Int))], [(900000, .arr 4 x0.length (rowOf (cUnion true) v1.1))], [900000]⟩ a w := hs
  refine W.seq (by kernel_rfl) ?_
  refine W.linK hs 1 [] [0, 1, 4, 5, 9] [900000] (s2 := ⟨[(0, .own 900000), (1, .int .i64 v1.2), (4, .int .i64 0), (5, .int .i64 ((i1 : Nat) : Int)), (9, .bool (decide (((i1 : Nat) : Int) < ((x0.length : Nat) : Int))))], [(900000, .arr 4 x0.length (rowOf (cUnion true) v1.1))], [900000]⟩) (vcs := []) (by kernel_rfl) trivial ?_
  clear hs; intro a w hs
  refine W.cond hs (by kernel_rfl) (b := decide (((i1 : Nat) : Int) < ((x0.length : Nat) : Int))) (p := []) (by kernel_rfl) trivial (fun hc1 => ?_) (fun hc1 => ?_)
  ·
    have hii1 : i1 < x0.length := by have := of_decide_eq_true hc1; omega
    replace hR := loopN_step hR hii1
    refine W.skip (by kernel_rfl) ?_
    refine W.seq (by kernel_rfl) ?_
    refine W.block 1 (by kernel_rfl) ?_
    refine W.linK hs 7 [(5, .row (rowOf (cUnion true) (v1.1.set i1 (Union.mk v1.2 ((v1.1.getD i1 default).woman) ((v1.1.getD i1 default).from0) ((v1.1.getD i1 default).to))))), (2005, .row (rowOf (cUnion true) (v1.1.set i1 (Union.mk v1.2 (v1.2 + 1) ((v1.1.getD i1 default).from0) ((v1.1.getD i1 default).to))))), (4005, .row (rowOf (cUnion true) (v1.1.set i1 (Union.mk v1.2 (v1.2 + 1) ((v1.2 + 1) + 1) ((v1.1.getD i1 default).to))))), (6005, .row (rowOf (cUnion true) (v1.1.set i1 (Union.mk v1.2 (v1.2 + 1) ((v1.2 + 1) + 1) (((v1.2 + 1) + 1) + 1)))))] [0, 1, 4, 5] [900000] (s2 := ⟨[(0, .own 900000), (1, .int .i64 (((v1.2 + 1) + 1) + 1)), (4, .int .i64 0), (5, .int .i64 ((i1 : Nat) : Int))], [(900000, .arr 4 x0.length (rowOf (cUnion true) (v1.1.set i1 (Union.mk v1.2 (v1.2 + 1) ((v1.2 + 1) + 1) (((v1.2 + 1) + 1) + 1)))))], [900000]⟩) (vcs := [0 ≤ (((i1 : Nat) : Int) : Int) ∧ (((i1 : Nat) : Int) : Int) < ((x0.length : Nat) : Int), ∀ k, k < x0.length → (rowOf (cUnion true) (v1.1.set i1 (Union.mk v1.2 ((v1.1.getD i1 default).woman) ((v1.1.getD i1 default).from0) ((v1.1.getD i1 default).to)))) k = bif Nat.beq k i1 then setSeg ((rowOf (cUnion true) v1.1) k) 0 [.int .i64 v1.2] else (rowOf (cUnion true) v1.1) k, inR .i64 (v1.2 + 1), 0 ≤ (((i1 : Nat) : Int) : Int) ∧ (((i1 : Nat) : Int) : Int) < ((x0.length : Nat) : Int), ∀ k, k < x0.length → (rowOf (cUnion true) (v1.1.set i1 (Union.mk v1.2 (v1.2 + 1) ((v1.1.getD i1 default).from0) ((v1.1.getD i1 default).to)))) k = bif Nat.beq k i1 then setSeg ((rowOf (cUnion true) (v1.1.set i1 (Union.mk v1.2 ((v1.1.getD i1 default).woman) ((v1.1.getD i1 default).from0) ((v1.1.getD i1 default).to)))) k) 1 [.int .i64 (v1.2 + 1)] else (rowOf (cUnion true) (v1.1.set i1 (Union.mk v1.2 ((v1.1.getD i1 default).woman) ((v1.1.getD i1 default).from0) ((v1.1.getD i1 default).to)))) k, inR .i64 ((v1.2 + 1) + 1), 0 ≤ (((i1 : Nat) : Int) : Int) ∧ (((i1 : Nat) : Int) : Int) < ((x0.length : Nat) : Int), ∀ k, k < x0.length → (rowOf (cUnion true) (v1.1.set i1 (Union.mk v1.2 (v1.2 + 1) ((v1.2 + 1) + 1) ((v1.1.getD i1 default).to)))) k = bif Nat.beq k i1 then setSeg ((rowOf (cUnion true) (v1.1.set i1 (Union.mk v1.2 (v1.2 + 1) ((v1.1.getD i1 default).from0) ((v1.1.getD i1 default).to)))) k) 2 [.int .i64 ((v1.2 + 1) + 1)] else (rowOf (cUnion true) (v1.1.set i1 (Union.mk v1.2 (v1.2 + 1) ((v1.1.getD i1 default).from0) ((v1.1.getD i1 default).to)))) k, inR .i64 (((v1.2 + 1) + 1) + 1), 0 ≤ (((i1 : Nat) : Int) : Int) ∧ (((i1 : Nat) : Int) : Int) < ((x0.length : Nat) : Int), ∀ k, k < x0.length → (rowOf (cUnion true) (v1.1.set i1 (Union.mk v1.2 (v1.2 + 1) ((v1.2 + 1) + 1) (((v1.2 + 1) + 1) + 1)))) k = bif Nat.beq k i1 then setSeg ((rowOf (cUnion true) (v1.1.set i1 (Union.mk v1.2 (v1.2 + 1) ((v1.2 + 1) + 1) ((v1.1.getD i1 default).to)))) k) 3 [.int .i64 (((v1.2 + 1) + 1) + 1)] else (rowOf (cUnion true) (v1.1.set i1 (Union.mk v1.2 (v1.2 + 1) ((v1.2 + 1) + 1) ((v1.1.getD i1 default).to)))) k]) (by kernel_rfl) ⟨by (intros; omega), fun k hk => row_set_part (cUnion true) v1.1 i1 (Union.mk v1.2 ((v1.1.getD i1 default).woman) ((v1.1.getD i1 default).from0) ((v1.1.getD i1 default).to)) 0 [.int .i64 v1.2] rfl (by (intros; omega)) k (Nat.lt_of_lt_of_le hk (by (intros; omega))), by (clear hs; intros; simp only [inR]; omega), by (intros; omega), fun k hk => row_set_again (cUnion true) v1.1 i1 (Union.mk v1.2 ((v1.1.getD i1 default).woman) ((v1.1.getD i1 default).from0) ((v1.1.getD i1 default).to)) (Union.mk v1.2 (v1.2 + 1) ((v1.1.getD i1 default).from0) ((v1.1.getD i1 default).to)) 1 [.int .i64 (v1.2 + 1)] rfl (by (intros; omega)) k (Nat.lt_of_lt_of_le hk (by (intros; omega))), by (clear hs; intros; simp only [inR]; omega), by (intros; omega), fun k hk => row_set_again (cUnion true) v1.1 i1 (Union.mk v1.2 (v1.2 + 1) ((v1.1.getD i1 default).from0) ((v1.1.getD i1 default).to)) (Union.mk v1.2 (v1.2 + 1) ((v1.2 + 1) + 1) ((v1.1.getD i1 default).to)) 2 [.int .i64 ((v1.2 + 1) + 1)] rfl (by (intros; omega)) k (Nat.lt_of_lt_of_le hk (by (intros; omega))), by (clear hs; intros; simp only [inR]; omega), by (intros; omega), fun k hk => row_set_again (cUnion true) v1.1 i1 (Union.mk v1.2 (v1.2 + 1) ((v1.2 + 1) + 1) ((v1.1.getD i1 default).to)) (Union.mk v1.2 (v1.2 + 1) ((v1.2 + 1) + 1) (((v1.2 + 1) + 1) + 1)) 3 [.int .i64 (((v1.2 + 1) + 1) + 1)] rfl (by (intros; omega)) k (Nat.lt_of_lt_of_le hk (by (intros; omega))), trivial⟩ ?_
    clear hs; intro a w hs
    refine W.regK hs (by kernel_rfl) [] [0, 1, 4, 5] [900000] (s2 := ⟨[(0, .own 900000), (1, .int .i64 ((((v1.2 + 1) + 1) + 1) + 1)), (4, .int .i64 0), (5, .int .i64 ((i1 : Nat) : Int))], [(900000, .arr 4 x0.length (rowOf (cUnion true) (v1.1.set i1 (Union.mk v1.2 (v1.2 + 1) ((v1.2 + 1) + 1) (((v1.2 + 1) + 1) + 1)))))], [900000]⟩) (vcs := [inR .i64 ((((v1.2 + 1) + 1) + 1) + 1)]) (by kernel_rfl) ⟨by (clear hs; intros; simp only [inR]; omega), trivial⟩ ?_
    clear hs; intro a w hs
    refine W.regK hs (by kernel_rfl) [] [0, 1, 4, 5] [900000] (s2 := ⟨[(0, .own 900000), (1, .int .i64 ((((v1.2 + 1) + 1) + 1) + 1)), (4, .int .i64 0), (5, .int .i64 (((i1 : Nat) : Int) + 1))], [(900000, .arr 4 x0.length (rowOf (cUnion true) (v1.1.set i1 (Union.mk v1.2 (v1.2 + 1) ((v1.2 + 1) + 1) (((v1.2 + 1) + 1) + 1)))))], [900000]⟩) (vcs := [inR .i64 (((i1 : Nat) : Int) + 1)]) (by kernel_rfl) ⟨by (clear hs; intros; simp only [inR]; omega), trivial⟩ ?_
    clear hs; intro a w hs
    exact ⟨((v1.1.set i1 (Union.mk v1.2 (v1.2 + 1) ((v1.2 + 1) + 1) (((v1.2 + 1) + 1) + 1))), (((v1.2 + 1) + 1) + 1) + 1), hii1, by (simp only [List.length_set]; omega), hR, hs.le (T := ⟨[(0, .own 900000), (1, .int .i64 ((((v1.2 + 1) + 1) + 1) + 1)), (4, .int .i64 0), (5, .int .i64 (((i1 + 1) : Nat) : Int))], [(900000, .arr 4 x0.length (rowOf (cUnion true) (v1.1.set i1 (Union.mk v1.2 (v1.2 + 1) ((v1.2 + 1) + 1) (((v1.2 + 1) + 1) + 1)))))], [900000]⟩) [(900000, some 900000)] (vcs := [((((v1.2 + 1) + 1) + 1) + 1 : Int) = ((((v1.2 + 1) + 1) + 1) + 1), (0 : Int) = 0, (((i1 : Nat) : Int) + 1 : Int) = (((i1 + 1) : Nat) : Int), rowsEq x0.length x0.length (rowOf (cUnion true) (v1.1.set i1 (Union.mk v1.2 (v1.2 + 1) ((v1.2 + 1) + 1) (((v1.2 + 1) + 1) + 1)))) (rowOf (cUnion true) (v1.1.set i1 (Union.mk v1.2 (v1.2 + 1) ((v1.2 + 1) + 1) (((v1.2 + 1) + 1) + 1))))]) (by kernel_rfl) ⟨by first | rfl | omega | (simp; done), by first | rfl | omega | (simp; done), by first | rfl | omega | (simp; done), ⟨rfl, fun _ _ => rfl⟩, trivial⟩⟩
  ·
    obtain rfl : i1 = x0.length := by have := of_decide_eq_false hc1; omega
    replace hR := loopN_end hR (Nat.lt_irrefl _)
    refine W.exit 0 (by kernel_rfl) rfl ?_
    refine W.linK hs 1 [] [4] [900000] (s2 := ⟨[(4, .int .i64 v1.2)], [(900000, .arr 4 x0.length (rowOf (cUnion true) v1.1))], [900000]⟩) (vcs := []) (by kernel_rfl) trivial ?_
    clear hs; intro a w hs
    refine W.ret (by kernel_rfl) ?_
    subst hR
    exact ret_okM hs [(900000, some 900000)] (vcs := [rowsEq x0.length (((v1.2, v1.1).2).length) (rowOf (cUnion true) v1.1) (rowOf (cUnion true) ((v1.2, v1.1).2)), (v1.2 : Int) = ((v1.2, v1.1).1)]) (by kernel_rfl) ⟨⟨by (clear hs; intros; simp only [inR]; omega), fun _ _ => rfl⟩, by first | rfl | omega | (simp; done), trivial⟩
theorem ok_laws_markUnionS (x0 : List Union) (x1 : Int) (hx : x0.length ≤ 1048576) (hk : 0 ≤ x1 ∧ x1 ≤ 30000000) : Lite.FnM Try.prog 48 [.own 900000, .int .i64 x1] [.arr 4 x0.length (rowOf (cUnion true) x0)] (.int .i64 ((markUnionS x0 x1).1)) [(900000, .arr 4 (((markUnionS x0 x1).2).length) (rowOf (cUnion true) ((markUnionS x0 x1).2)))] := aux_laws_markUnionS x0 x1 hx hk _ rfl
def heldIntS (x0 : List Int) (x1 : Int) : Int := loopN (fun i1 (v1 : Int) next => bif (!decide ((x0.getD i1 default) = v1)) then (-1) else (next (v1 + 1))) (fun (v1 : Int) => v1) x0.length 0 x1
theorem aux_laws_heldIntS (x0 : List Int) (x1 : Int) (hx : x0.length ≤ 1048576) (hk : 0 ≤ x1 ∧ x1 ≤ 30000000) (R : Int) (hR : heldIntS x0 x1 = R) : Lite.Fn Try.prog 17 [.ro false 1 x0.length (rowOf (cInt .i64) x0), .int .i64 x1] (.int .i64 R) [] := by
  refine Lite.Fn.intro 21 Try.func17 (by kernel_rfl) (by kernel_rfl) (by kernel_rfl) fun w0 a w hs => ?_
  refine W.linK hs 1 [] [0, 1, 4] [] (s2 := ⟨[(0, .ro false 1 x0.length (rowOf (cInt .i64) x0)), (1, .int .i64 x1), (4, .int .i64 0)], [], []⟩) (vcs := []) (by kernel_rfl) trivial ?_
  clear hs; intro a w hs
  refine W.seq (by kernel_rfl) ?_
  refine W.linK hs 1 [] [0, 1, 4, 5] [] (s2 := ⟨[(0, .ro false 1 x0.length (rowOf (cInt .i64) x0)), (1, .int .i64 x1), (4, .int .i64 0), (5, .int .i64 0)], [], []⟩) (vcs := []) (by kernel_rfl) trivial ?_
  clear hs; intro a w hs
  refine W.block 0 (by kernel_rfl) ?_
  refine W.loopN (s0 := x1) hR (by kernel_rfl) (fun i v => ⟨[(0, .ro false 1 x0.length (rowOf (cInt .i64) x0)), (1, .int .i64 v), (4, .int .i64 0), (5, .int .i64 ((i : Nat) : Int))], [], []⟩) (fun i v => v = x1 + i) (by (intros; omega)) (hs.le (T := ⟨[(0, .ro false 1 x0.length (rowOf (cInt .i64) x0)), (1, .int .i64 x1), (4, .int .i64 0), (5, .int .i64 ((0 : Nat) : Int))], [], []⟩) [] (vcs := [rowsEq x0.length x0.length (rowOf (cInt .i64) x0) (rowOf (cInt .i64) x0), (x1 : Int) = x1, (0 : Int) = 0, (0 : Int) = ((0 : Nat) : Int)]) (by kernel_rfl) ⟨⟨rfl, fun _ _ => rfl⟩, by first | rfl | omega | (simp; done), by first | rfl | omega | (simp; done), by first | rfl | omega | (simp; done), trivial⟩) ?_
  intro i1 v1 a w hn1 hI1 hR hs
  replace hs : H 21 w0 noX ⟨[(0, .ro false 1 x0.length (rowOf (cInt .i64) x0)), (1, .int .i64 v1), (4, .int .i64 0), (5, .int .i64 ((i1 : Nat) : Int))], [], []⟩ a w := hs
  refine W.seq (by kernel_rfl) ?_
  refine W.linK hs 1 [] [0, 1, 4, 5, 9] [] (s2 := ⟨[(0, .ro false 1 x0.length (rowOf (cInt .i64) x0)), (1, .int .i64 v1), (4, .int .i64 0), (5, .int .i64 ((i1 : Nat) : Int)), (9, .bool (decide (((i1 : Nat) : Int) < ((x0.length : Nat) : Int))))], [], []⟩) (vcs := []) (by kernel_rfl) trivial ?_
  clear hs; intro a w hs
  refine W.cond hs (by kernel_rfl) (b := decide (((i1 : Nat) : Int) < ((x0.length : Nat) : Int))) (p := []) (by kernel_rfl) trivial (fun hc1 => ?_) (fun hc1 => ?_)
  ·
    have hii1 : i1 < x0.length := by have := of_decide_eq_true hc1; omega
    replace hR := loopN_step hR hii1
    refine W.skip (by kernel_rfl) ?_
    refine W.seq (by kernel_rfl) ?_
    refine W.block 1 (by kernel_rfl) ?_
    refine W.seq (by kernel_rfl) ?_
    refine W.linK hs 1 [] [0, 1, 4, 5, 17] [] (s2 := ⟨[(0, .ro false 1 x0.length (rowOf (cInt .i64) x0)), (1, .int .i64 v1), (4, .int .i64 0), (5, .int .i64 ((i1 : Nat) : Int)), (17, .bool (!decide ((x0.getD i1 default) = v1)))], [], []⟩) (vcs := [0 ≤ (((i1 : Nat) : Int) : Int) ∧ (((i1 : Nat) : Int) : Int) < ((x0.length : Nat) : Int)]) (by kernel_rfl) ⟨by (intros; omega), trivial⟩ ?_
    clear hs; intro a w hs
    refine W.cond hs (by kernel_rfl) (b := !decide ((x0.getD i1 default) = v1)) (p := []) (by kernel_rfl) trivial (fun hc2 => ?_) (fun hc2 => ?_)
    ·
      replace hR := ct hR hc2
      refine W.linK hs 1 [] [0, 1, 4, 5] [] (s2 := ⟨[(0, .ro false 1 x0.length (rowOf (cInt .i64) x0)), (1, .int .i64 v1), (4, .int .i64 (-1)), (5, .int .i64 ((i1 : Nat) : Int))], [], []⟩) (vcs := []) (by kernel_rfl) trivial ?_
      clear hs; intro a w hs
      refine W.ret (by kernel_rfl) ?_
      subst hR
      exact ret_ok hs [] (vcs := [((-1) : Int) = (-1), Frs (.int .i64 (-1))]) (by kernel_rfl) ⟨by first | rfl | omega | (simp; done), by simp [Frs, FrsL], trivial⟩
    ·
      replace hR := cf hR hc2
      refine W.skip (by kernel_rfl) ?_
      refine W.regK hs (by kernel_rfl) [] [0, 1, 4, 5] [] (s2 := ⟨[(0, .ro false 1 x0.length (rowOf (cInt .i64) x0)), (1, .int .i64 (v1 + 1)), (4, .int .i64 0), (5, .int .i64 ((i1 : Nat) : Int))], [], []⟩) (vcs := [inR .i64 (v1 + 1)]) (by kernel_rfl) ⟨by (clear hs; intros; simp only [inR]; omega), trivial⟩ ?_
      clear hs; intro a w hs
      refine W.regK hs (by kernel_rfl) [] [0, 1, 4, 5] [] (s2 := ⟨[(0, .ro false 1 x0.length (rowOf (cInt .i64) x0)), (1, .int .i64 (v1 + 1)), (4, .int .i64 0), (5, .int .i64 (((i1 : Nat) : Int) + 1))], [], []⟩) (vcs := [inR .i64 (((i1 : Nat) : Int) + 1)]) (by kernel_rfl) ⟨by (clear hs; intros; simp only [inR]; omega), trivial⟩ ?_
      clear hs; intro a w hs
      exact ⟨v1 + 1, hii1, by (intros; omega), hR, hs.le (T := ⟨[(0, .ro false 1 x0.length (rowOf (cInt .i64) x0)), (1, .int .i64 (v1 + 1)), (4, .int .i64 0), (5, .int .i64 (((i1 + 1) : Nat) : Int))], [], []⟩) [] (vcs := [rowsEq x0.length x0.length (rowOf (cInt .i64) x0) (rowOf (cInt .i64) x0), (v1 + 1 : Int) = (v1 + 1), (0 : Int) = 0, (((i1 : Nat) : Int) + 1 : Int) = (((i1 + 1) : Nat) : Int)]) (by kernel_rfl) ⟨⟨rfl, fun _ _ => rfl⟩, by first | rfl | omega | (simp; done), by first | rfl | omega | (simp; done), by first | rfl | omega | (simp; done), trivial⟩⟩
  ·
    obtain rfl : i1 = x0.length := by have := of_decide_eq_false hc1; omega
    replace hR := loopN_end hR (Nat.lt_irrefl _)
    refine W.exit 0 (by kernel_rfl) rfl ?_
    refine W.linK hs 1 [] [4] [] (s2 := ⟨[(4, .int .i64 v1)], [], []⟩) (vcs := []) (by kernel_rfl) trivial ?_
    clear hs; intro a w hs
    refine W.ret (by kernel_rfl) ?_
    subst hR
    exact ret_ok hs [] (vcs := [(v1 : Int) = v1, Frs (.int .i64 v1)]) (by kernel_rfl) ⟨by first | rfl | omega | (simp; done), by simp [Frs, FrsL], trivial⟩
theorem ok_laws_heldIntS (x0 : List Int) (x1 : Int) (hx : x0.length ≤ 1048576) (hk : 0 ≤ x1 ∧ x1 ≤ 30000000) : Lite.Fn Try.prog 17 [.ro false 1 x0.length (rowOf (cInt .i64) x0), .int .i64 x1] (.int .i64 (heldIntS x0 x1)) [] := aux_laws_heldIntS x0 x1 hx hk _ rfl
end Go.Proofs.Ytanpfncfphpddab
