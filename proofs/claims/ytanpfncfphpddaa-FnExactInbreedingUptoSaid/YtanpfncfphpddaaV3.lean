import Derived.Test.YtanpfncfphpddaaM2
set_option maxHeartbeats 4000000
set_option linter.unusedSimpArgs false
set_option linter.unusedVariables false
namespace Go.Proofs.Ytanpfncfphpddaa
open Go Go.Lite Go.Proofs
def specIsFamily (x0 : Family) : Bool := bif ((decide (40 < ((x0.people.length : Nat) : Int))) || (decide (60 < ((x0.unions.length : Nat) : Int)))) then false else (loopN (fun i1 (v1 : Unit) next => bif (!(l1Person x0 ((i1 : Nat) : Int))) then false else (next ())) (fun (v1 : Unit) => loopN (fun i2 (v2 : Unit) next => bif (decide (10 < ((l1Depths x0).getD i2 default))) then false else (next ())) (fun (v2 : Unit) => loopN (fun i3 (v3 : Unit) next => bif (!(l1Union x0 ((i3 : Nat) : Int))) then false else (next ())) (fun (v3 : Unit) => true) x0.unions.length 0 ()) ((l1Depths x0).length) 0 ()) x0.people.length 0 ())
theorem aux_spec_IsFamily (x0 : Family) (hx : x0.people.length ≤ 1048576) (hu : x0.unions.length ≤ 1048576) (hn : ∀ p ∈ x0.people, p.name.length ≤ 1048576) (R : Bool) (hR : specIsFamily x0 = R) : Lite.Fn Try.prog 44 [.agg (cFamily false x0)] (.bool R) [] := by
  refine Lite.Fn.intro 49 Try.func44 (by kernel_rfl) (by kernel_rfl) (by kernel_rfl) fun w0 a w hs => ?_
  refine W.linK hs 1 [] [1, 2] [1] (s2 := ⟨[(1, .vp 1 0), (2, .bool false)], [(1, .var [.ro false 6 x0.people.length (rowOf (cPerson false) x0.people), .ro false 4 x0.unions.length (rowOf (cUnion false) x0.unions)])], [1]⟩) (vcs := []) (by kernel_rfl) trivial ?_
  clear hs; intro a w hs
  refine W.seq (by kernel_rfl) ?_
  refine W.linK hs 1 [] [1, 2, 16] [1] (s2 := ⟨[(1, .vp 1 0), (2, .bool false), (16, .bool ((decide (40 < ((x0.people.length : Nat) : Int))) || (decide (60 < ((x0.unions.length : Nat) : Int)))))], [(1, .var [.ro false 6 x0.people.length (rowOf (cPerson false) x0.people), .ro false 4 x0.unions.length (rowOf (cUnion false) x0.unions)])], [1]⟩) (vcs := [(!(decide (40 < ((x0.people.length : Nat) : Int)))) = true → (!(decide (40 < ((x0.people.length : Nat) : Int)))) = true, (!(decide (40 < ((x0.people.length : Nat) : Int)))) = true → (!(decide (40 < ((x0.people.length : Nat) : Int)))) = true, (!(decide (40 < ((x0.people.length : Nat) : Int)))) = true → (!(decide (40 < ((x0.people.length : Nat) : Int)))) = true, (decide (40 < ((x0.people.length : Nat) : Int))) = false → (!(decide (40 < ((x0.people.length : Nat) : Int)))) = true]) (by kernel_rfl) ⟨fun h => h, fun h => h, fun h => h, by (clear hs hR; intros; (try simp only [decide_eq_true_eq, decide_eq_false_iff_not, Bool.or_eq_true, Bool.and_eq_true, or_f_iff, not_f_iff, not_t_iff, Bool.not_eq_true', inR] at *); (repeat' apply And.intro) <;> (intros; omega)), trivial⟩ ?_
  clear hs; intro a w hs
  refine W.cond hs (by kernel_rfl) (b := (decide (40 < ((x0.people.length : Nat) : Int))) || (decide (60 < ((x0.unions.length : Nat) : Int)))) (p := []) (by kernel_rfl) trivial (fun hc1 => ?_) (fun hc1 => ?_)
  ·
    replace hR := ct hR hc1
    refine W.linK hs 1 [] [1, 2] [1] (s2 := ⟨[(1, .vp 1 0), (2, .bool false)], [(1, .var [.ro false 6 x0.people.length (rowOf (cPerson false) x0.people), .ro false 4 x0.unions.length (rowOf (cUnion false) x0.unions)])], [1]⟩) (vcs := []) (by kernel_rfl) trivial ?_
    clear hs; intro a w hs
    refine W.ret (by kernel_rfl) ?_
    subst hR
    exact ret_ok hs [] (vcs := [false = false, Frs (.bool false)]) (by kernel_rfl) ⟨rfl, by simp [Frs, FrsL], trivial⟩
  ·
    replace hR := cf hR hc1
    refine W.skip (by kernel_rfl) ?_
    refine W.seq (by kernel_rfl) ?_
    refine W.linK hs 1 [] [1, 2, 19, 20] [1] (s2 := ⟨[(1, .vp 1 0), (2, .bool false), (19, .int .i64 ((x0.people.length : Nat) : Int)), (20, .int .i64 0)], [(1, .var [.ro false 6 x0.people.length (rowOf (cPerson false) x0.people), .ro false 4 x0.unions.length (rowOf (cUnion false) x0.unions)])], [1]⟩) (vcs := []) (by kernel_rfl) trivial ?_
    clear hs; intro a w hs
    refine W.block 0 (by kernel_rfl) ?_
    refine W.loopN (s0 := ()) hR (by kernel_rfl) (fun i v => ⟨[(1, .vp 1 0), (2, .bool false), (19, .int .i64 ((x0.people.length : Nat) : Int)), (20, .int .i64 ((i : Nat) : Int))], [(1, .var [.ro false 6 x0.people.length (rowOf (cPerson false) x0.people), .ro false 4 x0.unions.length (rowOf (cUnion false) x0.unions)])], [1]⟩) (fun i v => ∀ k : Nat, k < i → l1Person x0 k = true) (by (intros; omega)) (hs.le (T := ⟨[(1, .vp 1 0), (2, .bool false), (19, .int .i64 ((x0.people.length : Nat) : Int)), (20, .int .i64 ((0 : Nat) : Int))], [(1, .var [.ro false 6 x0.people.length (rowOf (cPerson false) x0.people), .ro false 4 x0.unions.length (rowOf (cUnion false) x0.unions)])], [1]⟩) [(1, some 1)] (vcs := [false = false, (((x0.people.length : Nat) : Int) : Int) = ((x0.people.length : Nat) : Int), (0 : Int) = ((0 : Nat) : Int), rowsEq x0.people.length x0.people.length (rowOf (cPerson false) x0.people) (rowOf (cPerson false) x0.people), rowsEq x0.unions.length x0.unions.length (rowOf (cUnion false) x0.unions) (rowOf (cUnion false) x0.unions)]) (by kernel_rfl) ⟨rfl, by first | rfl | omega | (simp; done), by first | rfl | omega | (simp; done), ⟨rfl, fun _ _ => rfl⟩, ⟨rfl, fun _ _ => rfl⟩, trivial⟩) ?_
    intro i1 v1 a w hn1 hI1 hR hs
    replace hs : H 49 w0 noX ⟨[(1, .vp 1 0), (2, .bool false), (19, .int .i64 ((x0.people.length : Nat) : Int)), (20, .int .i64 ((i1 : Nat) : Int))], [(1, .var [.ro false 6 x0.people.length (rowOf (cPerson false) x0.people), .ro false 4 x0.unions.length (rowOf (cUnion false) x0.unions)])], [1]⟩ a w := hs
    refine W.linK hs 1 [] [1, 2, 19, 20, 21] [1] (s2 := ⟨[(1, .vp 1 0), (2, .bool false), (19, .int .i64 ((x0.people.length : Nat) : Int)), (20, .int .i64 ((i1 : Nat) : Int)), (21, .bool (decide (((i1 : Nat) : Int) < ((x0.people.length : Nat) : Int))))], [(1, .var [.ro false 6 x0.people.length (rowOf (cPerson false) x0.people), .ro false 4 x0.unions.length (rowOf (cUnion false) x0.unions)])], [1]⟩) (vcs := []) (by kernel_rfl) trivial ?_
    clear hs; intro a w hs
    refine W.seq (by kernel_rfl) ?_
    refine W.cond hs (by kernel_rfl) (b := decide (((i1 : Nat) : Int) < ((x0.people.length : Nat) : Int))) (p := []) (by kernel_rfl) trivial (fun hc2 => ?_) (fun hc2 => ?_)
    ·
      have hii1 : i1 < x0.people.length := by have := of_decide_eq_true hc2; omega
      replace hR := loopN_step hR hii1
      refine W.skip (by kernel_rfl) ?_
      refine W.seq (by kernel_rfl) ?_
      refine W.block 1 (by kernel_rfl) ?_
      refine W.linK hs 2 [(1002, .res (.bool (l1Person x0 ((i1 : Nat) : Int))) [])] [1, 2, 19, 20, 26] [1] (s2 := ⟨[(1, .vp 1 0), (2, .bool false), (19, .int .i64 ((x0.people.length : Nat) : Int)), (20, .int .i64 ((i1 : Nat) : Int)), (26, .bool (!(l1Person x0 ((i1 : Nat) : Int))))], [(1, .var [.ro false 6 x0.people.length (rowOf (cPerson false) x0.people), .ro false 4 x0.unions.length (rowOf (cUnion false) x0.unions)])], [1]⟩) (vcs := [Lite.Fn Try.prog 57 [.agg [.ro false 6 x0.people.length (rowOf (cPerson false) x0.people), .ro false 4 x0.unions.length (rowOf (cUnion false) x0.unions)], .int .i64 ((i1 : Nat) : Int)] (.bool (l1Person x0 ((i1 : Nat) : Int))) []]) (by kernel_rfl) ⟨ok_spec_l1Person x0 ((i1 : Nat) : Int) (by trivial) (by trivial) (by (intros; omega)), trivial⟩ ?_
      clear hs; intro a w hs
      refine W.cond hs (by kernel_rfl) (b := !(l1Person x0 ((i1 : Nat) : Int))) (p := []) (by kernel_rfl) trivial (fun hc3 => ?_) (fun hc3 => ?_)
      ·
        replace hR := ct hR hc3
        refine W.linK hs 1 [] [1, 2, 19, 20] [1] (s2 := ⟨[(1, .vp 1 0), (2, .bool false), (19, .int .i64 ((x0.people.length : Nat) : Int)), (20, .int .i64 ((i1 : Nat) : Int))], [(1, .var [.ro false 6 x0.people.length (rowOf (cPerson false) x0.people), .ro false 4 x0.unions.length (rowOf (cUnion false) x0.unions)])], [1]⟩) (vcs := []) (by kernel_rfl) trivial ?_
        clear hs; intro a w hs
        refine W.ret (by kernel_rfl) ?_
        subst hR
        exact ret_ok hs [] (vcs := [false = false, Frs (.bool false)]) (by kernel_rfl) ⟨rfl, by simp [Frs, FrsL], trivial⟩
      ·
        replace hR := cf hR hc3
        refine W.skip (by kernel_rfl) ?_
        refine W.regK hs (by kernel_rfl) [] [1, 2, 19, 20] [1] (s2 := ⟨[(1, .vp 1 0), (2, .bool false), (19, .int .i64 ((x0.people.length : Nat) : Int)), (20, .int .i64 (((i1 : Nat) : Int) + 1))], [(1, .var [.ro false 6 x0.people.length (rowOf (cPerson false) x0.people), .ro false 4 x0.unions.length (rowOf (cUnion false) x0.unions)])], [1]⟩) (vcs := [inR .i64 (((i1 : Nat) : Int) + 1)]) (by kernel_rfl) ⟨by (clear hs; intros; simp only [inR]; omega), trivial⟩ ?_
        clear hs; intro a w hs
        exact ⟨(), hii1, by (clear hs hR; intros; (try simp only [decide_eq_true_eq, decide_eq_false_iff_not, Bool.or_eq_true, Bool.and_eq_true, or_f_iff, not_f_iff, not_t_iff, Bool.not_eq_true', inR] at *); (repeat' apply And.intro) <;> grind [inR, getD_set, getD_snoc, getD_rep, List.length_set, rep_snoc, l1Person]), hR, hs.le (T := ⟨[(1, .vp 1 0), (2, .bool false), (19, .int .i64 ((x0.people.length : Nat) : Int)), (20, .int .i64 (((i1 + 1) : Nat) : Int))], [(1, .var [.ro false 6 x0.people.length (rowOf (cPerson false) x0.people), .ro false 4 x0.unions.length (rowOf (cUnion false) x0.unions)])], [1]⟩) [(1, some 1)] (vcs := [false = false, (((x0.people.length : Nat) : Int) : Int) = ((x0.people.length : Nat) : Int), (((i1 : Nat) : Int) + 1 : Int) = (((i1 + 1) : Nat) : Int), rowsEq x0.people.length x0.people.length (rowOf (cPerson false) x0.people) (rowOf (cPerson false) x0.people), rowsEq x0.unions.length x0.unions.length (rowOf (cUnion false) x0.unions) (rowOf (cUnion false) x0.unions)]) (by kernel_rfl) ⟨rfl, by first | rfl | omega | (simp; done), by first | rfl | omega | (simp; done), ⟨rfl, fun _ _ => rfl⟩, ⟨rfl, fun _ _ => rfl⟩, trivial⟩⟩
    ·
      obtain rfl : i1 = x0.people.length := by have := of_decide_eq_false hc2; omega
      replace hR := loopN_end hR (Nat.lt_irrefl _)
      refine W.exit 0 (by kernel_rfl) rfl ?_
      refine W.seq (by kernel_rfl) ?_
      refine W.linK hs 1 [(1, .res (.own 0) [(1, (l1Depths x0).length, (rowOf (cInt .i64) (l1Depths x0)))])] [1, 2, 29, 30, 31] [1, 1029] (s2 := ⟨[(1, .vp 1 0), (2, .bool false), (29, .own 1029), (30, .int .i64 (((l1Depths x0).length : Nat) : Int)), (31, .int .i64 0)], [(1, .var [.ro false 6 x0.people.length (rowOf (cPerson false) x0.people), .ro false 4 x0.unions.length (rowOf (cUnion false) x0.unions)]), (1029, .arr 1 ((l1Depths x0).length) (rowOf (cInt .i64) (l1Depths x0)))], [1029, 1]⟩) (vcs := [Lite.Fn Try.prog 58 [.agg [.ro false 6 x0.people.length (rowOf (cPerson false) x0.people), .ro false 4 x0.unions.length (rowOf (cUnion false) x0.unions)]] (.own 0) [.arr 1 ((l1Depths x0).length) (rowOf (cInt .i64) (l1Depths x0))]]) (by kernel_rfl) ⟨ok_spec_l1Depths x0 (by trivial) (by (exact fun k hk => l1Person_par _ _ (hI1 k hk))), trivial⟩ ?_
      clear hs; intro a w hs
      have hp1 := l1Depths_len x0
      refine W.block 2 (by kernel_rfl) ?_
      refine W.loopN (s0 := ()) hR (by kernel_rfl) (fun i v => ⟨[(1, .vp 1 0), (2, .bool false), (29, .own 1029), (30, .int .i64 (((l1Depths x0).length : Nat) : Int)), (31, .int .i64 ((i : Nat) : Int))], [(1, .var [.ro false 6 x0.people.length (rowOf (cPerson false) x0.people), .ro false 4 x0.unions.length (rowOf (cUnion false) x0.unions)]), (1029, .arr 1 ((l1Depths x0).length) (rowOf (cInt .i64) (l1Depths x0)))], [1, 1029]⟩) (fun i v => True) (by trivial) (hs.le (T := ⟨[(1, .vp 1 0), (2, .bool false), (29, .own 1029), (30, .int .i64 (((l1Depths x0).length : Nat) : Int)), (31, .int .i64 ((0 : Nat) : Int))], [(1, .var [.ro false 6 x0.people.length (rowOf (cPerson false) x0.people), .ro false 4 x0.unions.length (rowOf (cUnion false) x0.unions)]), (1029, .arr 1 ((l1Depths x0).length) (rowOf (cInt .i64) (l1Depths x0)))], [1, 1029]⟩) [(1, some 1), (1029, some 1029)] (vcs := [false = false, ((((l1Depths x0).length : Nat) : Int) : Int) = (((l1Depths x0).length : Nat) : Int), (0 : Int) = ((0 : Nat) : Int), rowsEq x0.people.length x0.people.length (rowOf (cPerson false) x0.people) (rowOf (cPerson false) x0.people), rowsEq x0.unions.length x0.unions.length (rowOf (cUnion false) x0.unions) (rowOf (cUnion false) x0.unions), rowsEq ((l1Depths x0).length) ((l1Depths x0).length) (rowOf (cInt .i64) (l1Depths x0)) (rowOf (cInt .i64) (l1Depths x0))]) (by kernel_rfl) ⟨rfl, by first | rfl | omega | (simp; done), by first | rfl | omega | (simp; done), ⟨rfl, fun _ _ => rfl⟩, ⟨rfl, fun _ _ => rfl⟩, ⟨rfl, fun _ _ => rfl⟩, trivial⟩) ?_
      intro i2 v2 a w hn2 hI2 hR hs
      replace hs : H 49 w0 noX ⟨[(1, .vp 1 0), (2, .bool false), (29, .own 1029), (30, .int .i64 (((l1Depths x0).length : Nat) : Int)), (31, .int .i64 ((i2 : Nat) : Int))], [(1, .var [.ro false 6 x0.people.length (rowOf (cPerson false) x0.people), .ro false 4 x0.unions.length (rowOf (cUnion false) x0.unions)]), (1029, .arr 1 ((l1Depths x0).length) (rowOf (cInt .i64) (l1Depths x0)))], [1, 1029]⟩ a w := hs
      refine W.linK hs 1 [] [1, 2, 29, 30, 31, 32] [1, 1029] (s2 := ⟨[(1, .vp 1 0), (2, .bool false), (29, .own 1029), (30, .int .i64 (((l1Depths x0).length : Nat) : Int)), (31, .int .i64 ((i2 : Nat) : Int)), (32, .bool (decide (((i2 : Nat) : Int) < (((l1Depths x0).length : Nat) : Int))))], [(1, .var [.ro false 6 x0.people.length (rowOf (cPerson false) x0.people), .ro false 4 x0.unions.length (rowOf (cUnion false) x0.unions)]), (1029, .arr 1 ((l1Depths x0).length) (rowOf (cInt .i64) (l1Depths x0)))], [1, 1029]⟩) (vcs := []) (by kernel_rfl) trivial ?_
      clear hs; intro a w hs
      refine W.seq (by kernel_rfl) ?_
      refine W.cond hs (by kernel_rfl) (b := decide (((i2 : Nat) : Int) < (((l1Depths x0).length : Nat) : Int))) (p := []) (by kernel_rfl) trivial (fun hc4 => ?_) (fun hc4 => ?_)
      ·
        have hii2 : i2 < (l1Depths x0).length := by have := of_decide_eq_true hc4; omega
        replace hR := loopN_step hR hii2
        refine W.skip (by kernel_rfl) ?_
        refine W.seq (by kernel_rfl) ?_
        refine W.block 3 (by kernel_rfl) ?_
        refine W.linK hs 2 [] [1, 2, 29, 30, 31, 36] [1, 1029] (s2 := ⟨[(1, .vp 1 0), (2, .bool false), (29, .own 1029), (30, .int .i64 (((l1Depths x0).length : Nat) : Int)), (31, .int .i64 ((i2 : Nat) : Int)), (36, .bool (decide (10 < ((l1Depths x0).getD i2 default))))], [(1, .var [.ro false 6 x0.people.length (rowOf (cPerson false) x0.people), .ro false 4 x0.unions.length (rowOf (cUnion false) x0.unions)]), (1029, .arr 1 ((l1Depths x0).length) (rowOf (cInt .i64) (l1Depths x0)))], [1, 1029]⟩) (vcs := [0 ≤ (((i2 : Nat) : Int) : Int) ∧ (((i2 : Nat) : Int) : Int) < (((l1Depths x0).length : Nat) : Int)]) (by kernel_rfl) ⟨by (intros; omega), trivial⟩ ?_
        clear hs; intro a w hs
        refine W.cond hs (by kernel_rfl) (b := decide (10 < ((l1Depths x0).getD i2 default))) (p := []) (by kernel_rfl) trivial (fun hc5 => ?_) (fun hc5 => ?_)
        ·
          replace hR := ct hR hc5
          refine W.linK hs 1 [] [1, 2, 29, 30, 31] [1, 1029] (s2 := ⟨[(1, .vp 1 0), (2, .bool false), (29, .own 1029), (30, .int .i64 (((l1Depths x0).length : Nat) : Int)), (31, .int .i64 ((i2 : Nat) : Int))], [(1, .var [.ro false 6 x0.people.length (rowOf (cPerson false) x0.people), .ro false 4 x0.unions.length (rowOf (cUnion false) x0.unions)]), (1029, .arr 1 ((l1Depths x0).length) (rowOf (cInt .i64) (l1Depths x0)))], [1, 1029]⟩) (vcs := []) (by kernel_rfl) trivial ?_
          clear hs; intro a w hs
          refine W.ret (by kernel_rfl) ?_
          subst hR
          exact ret_ok hs [] (vcs := [false = false, Frs (.bool false)]) (by kernel_rfl) ⟨rfl, by simp [Frs, FrsL], trivial⟩
        ·
          replace hR := cf hR hc5
          refine W.skip (by kernel_rfl) ?_
          refine W.regK hs (by kernel_rfl) [] [1, 2, 29, 30, 31] [1, 1029] (s2 := ⟨[(1, .vp 1 0), (2, .bool false), (29, .own 1029), (30, .int .i64 (((l1Depths x0).length : Nat) : Int)), (31, .int .i64 (((i2 : Nat) : Int) + 1))], [(1, .var [.ro false 6 x0.people.length (rowOf (cPerson false) x0.people), .ro false 4 x0.unions.length (rowOf (cUnion false) x0.unions)]), (1029, .arr 1 ((l1Depths x0).length) (rowOf (cInt .i64) (l1Depths x0)))], [1, 1029]⟩) (vcs := [inR .i64 (((i2 : Nat) : Int) + 1)]) (by kernel_rfl) ⟨by (clear hs; intros; simp only [inR]; omega), trivial⟩ ?_
          clear hs; intro a w hs
          exact ⟨(), hii2, by trivial, hR, hs.le (T := ⟨[(1, .vp 1 0), (2, .bool false), (29, .own 1029), (30, .int .i64 (((l1Depths x0).length : Nat) : Int)), (31, .int .i64 (((i2 + 1) : Nat) : Int))], [(1, .var [.ro false 6 x0.people.length (rowOf (cPerson false) x0.people), .ro false 4 x0.unions.length (rowOf (cUnion false) x0.unions)]), (1029, .arr 1 ((l1Depths x0).length) (rowOf (cInt .i64) (l1Depths x0)))], [1, 1029]⟩) [(1, some 1), (1029, some 1029)] (vcs := [false = false, ((((l1Depths x0).length : Nat) : Int) : Int) = (((l1Depths x0).length : Nat) : Int), (((i2 : Nat) : Int) + 1 : Int) = (((i2 + 1) : Nat) : Int), rowsEq x0.people.length x0.people.length (rowOf (cPerson false) x0.people) (rowOf (cPerson false) x0.people), rowsEq x0.unions.length x0.unions.length (rowOf (cUnion false) x0.unions) (rowOf (cUnion false) x0.unions), rowsEq ((l1Depths x0).length) ((l1Depths x0).length) (rowOf (cInt .i64) (l1Depths x0)) (rowOf (cInt .i64) (l1Depths x0))]) (by kernel_rfl) ⟨rfl, by first | rfl | omega | (simp; done), by first | rfl | omega | (simp; done), ⟨rfl, fun _ _ => rfl⟩, ⟨rfl, fun _ _ => rfl⟩, ⟨rfl, fun _ _ => rfl⟩, trivial⟩⟩
      ·
        obtain rfl : i2 = (l1Depths x0).length := by have := of_decide_eq_false hc4; omega
        replace hR := loopN_end hR (Nat.lt_irrefl _)
        refine W.exit 2 (by kernel_rfl) rfl ?_
        refine W.seq (by kernel_rfl) ?_
        refine W.linK hs 1 [] [1, 2, 40, 41] [1] (s2 := ⟨[(1, .vp 1 0), (2, .bool false), (40, .int .i64 ((x0.unions.length : Nat) : Int)), (41, .int .i64 0)], [(1, .var [.ro false 6 x0.people.length (rowOf (cPerson false) x0.people), .ro false 4 x0.unions.length (rowOf (cUnion false) x0.unions)])], [1, 1029]⟩) (vcs := []) (by kernel_rfl) trivial ?_
        clear hs; intro a w hs
        refine W.block 4 (by kernel_rfl) ?_
        refine W.loopN (s0 := ()) hR (by kernel_rfl) (fun i v => ⟨[(1, .vp 1 0), (2, .bool false), (40, .int .i64 ((x0.unions.length : Nat) : Int)), (41, .int .i64 ((i : Nat) : Int))], [(1, .var [.ro false 6 x0.people.length (rowOf (cPerson false) x0.people), .ro false 4 x0.unions.length (rowOf (cUnion false) x0.unions)])], [1]⟩) (fun i v => True) (by trivial) (hs.le (T := ⟨[(1, .vp 1 0), (2, .bool false), (40, .int .i64 ((x0.unions.length : Nat) : Int)), (41, .int .i64 ((0 : Nat) : Int))], [(1, .var [.ro false 6 x0.people.length (rowOf (cPerson false) x0.people), .ro false 4 x0.unions.length (rowOf (cUnion false) x0.unions)])], [1]⟩) [(1, some 1)] (vcs := [false = false, (((x0.unions.length : Nat) : Int) : Int) = ((x0.unions.length : Nat) : Int), (0 : Int) = ((0 : Nat) : Int), rowsEq x0.people.length x0.people.length (rowOf (cPerson false) x0.people) (rowOf (cPerson false) x0.people), rowsEq x0.unions.length x0.unions.length (rowOf (cUnion false) x0.unions) (rowOf (cUnion false) x0.unions)]) (by kernel_rfl) ⟨rfl, by first | rfl | omega | (simp; done), by first | rfl | omega | (simp; done), ⟨rfl, fun _ _ => rfl⟩, ⟨rfl, fun _ _ => rfl⟩, trivial⟩) ?_
        intro i3 v3 a w hn3 hI3 hR hs
        replace hs : H 49 w0 noX ⟨[(1, .vp 1 0), (2, .bool false), (40, .int .i64 ((x0.unions.length : Nat) : Int)), (41, .int .i64 ((i3 : Nat) : Int))], [(1, .var [.ro false 6 x0.people.length (rowOf (cPerson false) x0.people), .ro false 4 x0.unions.length (rowOf (cUnion false) x0.unions)])], [1]⟩ a w := hs
        refine W.linK hs 1 [] [1, 2, 40, 41, 42] [1] (s2 := ⟨[(1, .vp 1 0), (2, .bool false), (40, .int .i64 ((x0.unions.length : Nat) : Int)), (41, .int .i64 ((i3 : Nat) : Int)), (42, .bool (decide (((i3 : Nat) : Int) < ((x0.unions.length : Nat) : Int))))], [(1, .var [.ro false 6 x0.people.length (rowOf (cPerson false) x0.people), .ro false 4 x0.unions.length (rowOf (cUnion false) x0.unions)])], [1]⟩) (vcs := []) (by kernel_rfl) trivial ?_
        clear hs; intro a w hs
        refine W.seq (by kernel_rfl) ?_
        refine W.cond hs (by kernel_rfl) (b := decide (((i3 : Nat) : Int) < ((x0.unions.length : Nat) : Int))) (p := []) (by kernel_rfl) trivial (fun hc6 => ?_) (fun hc6 => ?_)
        ·
          have hii3 : i3 < x0.unions.length := by have := of_decide_eq_true hc6; omega
          replace hR := loopN_step hR hii3
          refine W.skip (by kernel_rfl) ?_
          refine W.seq (by kernel_rfl) ?_
          refine W.block 5 (by kernel_rfl) ?_
          refine W.linK hs 2 [(1002, .res (.bool (l1Union x0 ((i3 : Nat) : Int))) [])] [1, 2, 40, 41, 47] [1] (s2 := ⟨[(1, .vp 1 0), (2, .bool false), (40, .int .i64 ((x0.unions.length : Nat) : Int)), (41, .int .i64 ((i3 : Nat) : Int)), (47, .bool (!(l1Union x0 ((i3 : Nat) : Int))))], [(1, .var [.ro false 6 x0.people.length (rowOf (cPerson false) x0.people), .ro false 4 x0.unions.length (rowOf (cUnion false) x0.unions)])], [1]⟩) (vcs := [Lite.Fn Try.prog 59 [.agg [.ro false 6 x0.people.length (rowOf (cPerson false) x0.people), .ro false 4 x0.unions.length (rowOf (cUnion false) x0.unions)], .int .i64 ((i3 : Nat) : Int)] (.bool (l1Union x0 ((i3 : Nat) : Int))) []]) (by kernel_rfl) ⟨ok_spec_l1Union x0 ((i3 : Nat) : Int) (by trivial) (by trivial) (by (intros; omega)), trivial⟩ ?_
          clear hs; intro a w hs
          refine W.cond hs (by kernel_rfl) (b := !(l1Union x0 ((i3 : Nat) : Int))) (p := []) (by kernel_rfl) trivial (fun hc7 => ?_) (fun hc7 => ?_)
          ·
            replace hR := ct hR hc7
            refine W.linK hs 1 [] [1, 2, 40, 41] [1] (s2 := ⟨[(1, .vp 1 0), (2, .bool false), (40, .int .i64 ((x0.unions.length : Nat) : Int)), (41, .int .i64 ((i3 : Nat) : Int))], [(1, .var [.ro false 6 x0.people.length (rowOf (cPerson false) x0.people), .ro false 4 x0.unions.length (rowOf (cUnion false) x0.unions)])], [1]⟩) (vcs := []) (by kernel_rfl) trivial ?_
            clear hs; intro a w hs
            refine W.ret (by kernel_rfl) ?_
            subst hR
            exact ret_ok hs [] (vcs := [false = false, Frs (.bool false)]) (by kernel_rfl) ⟨rfl, by simp [Frs, FrsL], trivial⟩
          ·
            replace hR := cf hR hc7
            refine W.skip (by kernel_rfl) ?_
            refine W.regK hs (by kernel_rfl) [] [1, 2, 40, 41] [1] (s2 := ⟨[(1, .vp 1 0), (2, .bool false), (40, .int .i64 ((x0.unions.length : Nat) : Int)), (41, .int .i64 (((i3 : Nat) : Int) + 1))], [(1, .var [.ro false 6 x0.people.length (rowOf (cPerson false) x0.people), .ro false 4 x0.unions.length (rowOf (cUnion false) x0.unions)])], [1]⟩) (vcs := [inR .i64 (((i3 : Nat) : Int) + 1)]) (by kernel_rfl) ⟨by (clear hs; intros; simp only [inR]; omega), trivial⟩ ?_
            clear hs; intro a w hs
            exact ⟨(), hii3, by trivial, hR, hs.le (T := ⟨[(1, .vp 1 0), (2, .bool false), (40, .int .i64 ((x0.unions.length : Nat) : Int)), (41, .int .i64 (((i3 + 1) : Nat) : Int))], [(1, .var [.ro false 6 x0.people.length (rowOf (cPerson false) x0.people), .ro false 4 x0.unions.length (rowOf (cUnion false) x0.unions)])], [1]⟩) [(1, some 1)] (vcs := [false = false, (((x0.unions.length : Nat) : Int) : Int) = ((x0.unions.length : Nat) : Int), (((i3 : Nat) : Int) + 1 : Int) = (((i3 + 1) : Nat) : Int), rowsEq x0.people.length x0.people.length (rowOf (cPerson false) x0.people) (rowOf (cPerson false) x0.people), rowsEq x0.unions.length x0.unions.length (rowOf (cUnion false) x0.unions) (rowOf (cUnion false) x0.unions)]) (by kernel_rfl) ⟨rfl, by first | rfl | omega | (simp; done), by first | rfl | omega | (simp; done), ⟨rfl, fun _ _ => rfl⟩, ⟨rfl, fun _ _ => rfl⟩, trivial⟩⟩
        ·
          obtain rfl : i3 = x0.unions.length := by have := of_decide_eq_false hc6; omega
          replace hR := loopN_end hR (Nat.lt_irrefl _)
          refine W.exit 4 (by kernel_rfl) rfl ?_
          refine W.linK hs 1 [] [2] [] (s2 := ⟨[(2, .bool true)], [], [1]⟩) (vcs := []) (by kernel_rfl) trivial ?_
          clear hs; intro a w hs
          refine W.ret (by kernel_rfl) ?_
          subst hR
          exact ret_ok hs [] (vcs := [true = true, Frs (.bool true)]) (by kernel_rfl) ⟨rfl, by simp [Frs, FrsL], trivial⟩
theorem ok_spec_IsFamily (x0 : Family) (hx : x0.people.length ≤ 1048576) (hu : x0.unions.length ≤ 1048576) (hn : ∀ p ∈ x0.people, p.name.length ≤ 1048576) : Lite.Fn Try.prog 44 [.agg (cFamily false x0)] (.bool (specIsFamily x0)) [] := aux_spec_IsFamily x0 hx hu hn _ rfl
def l1Has (x0 : Family) (x1 : Int) : Bool := ((decide (0 ≤ x1)) && (decide (x1 < ((x0.people.length : Nat) : Int)))) && (specIsFamily x0)
theorem aux_spec_l1Has (x0 : Family) (x1 : Int) (hx : x0.people.length ≤ 1048576) (hu : x0.unions.length ≤ 1048576) (hn : ∀ p ∈ x0.people, p.name.length ≤ 1048576) (R : Bool) (hR : l1Has x0 x1 = R) : Lite.Fn Try.prog 27 [.agg (cFamily false x0), .int .i64 x1] (.bool R) [] := by
  refine Lite.Fn.intro 18 Try.func27 (by kernel_rfl) (by kernel_rfl) (by kernel_rfl) fun w0 a w hs => ?_
  refine W.linK hs 2 [(1011, .res (.bool (specIsFamily x0)) [])] [4] [] (s2 := ⟨[(4, .bool (((decide (0 ≤ x1)) && (decide (x1 < ((x0.people.length : Nat) : Int)))) && (specIsFamily x0)))], [], [2]⟩) (vcs := [(decide (0 ≤ x1)) = true → (decide (0 ≤ x1)) = true, (decide (0 ≤ x1)) = true → (decide (0 ≤ x1)) = true, (decide (0 ≤ x1)) = true → (decide (0 ≤ x1)) = true, (decide (0 ≤ x1)) = true → (decide (0 ≤ x1)) = true, (decide (0 ≤ x1)) = true → (decide (0 ≤ x1)) = true, ((decide (0 ≤ x1)) && (decide (x1 < ((x0.people.length : Nat) : Int)))) = true → ((decide (0 ≤ x1)) && (decide (x1 < ((x0.people.length : Nat) : Int)))) = true, ((decide (0 ≤ x1)) && (decide (x1 < ((x0.people.length : Nat) : Int)))) = true → Lite.Fn Try.prog 44 [.agg [.ro false 6 x0.people.length (rowOf (cPerson false) x0.people), .ro false 4 x0.unions.length (rowOf (cUnion false) x0.unions)]] (.bool (specIsFamily x0)) [], ((decide (0 ≤ x1)) && (decide (x1 < ((x0.people.length : Nat) : Int)))) = true → ((decide (0 ≤ x1)) && (decide (x1 < ((x0.people.length : Nat) : Int)))) = true]) (by kernel_rfl) ⟨fun h => h, fun h => h, fun h => h, fun h => h, fun h => h, fun h => h, fun hg => ok_spec_IsFamily x0 (by trivial) (by trivial) (by trivial), fun h => h, trivial⟩ ?_
  clear hs; intro a w hs
  refine W.ret (by kernel_rfl) ?_
  subst hR
  exact ret_ok hs [] (vcs := [(((decide (0 ≤ x1)) && (decide (x1 < ((x0.people.length : Nat) : Int)))) && (specIsFamily x0)) = (((decide (0 ≤ x1)) && (decide (x1 < ((x0.people.length : Nat) : Int)))) && (specIsFamily x0)), Frs (.bool (((decide (0 ≤ x1)) && (decide (x1 < ((x0.people.length : Nat) : Int)))) && (specIsFamily x0)))]) (by kernel_rfl) ⟨rfl, by simp [Frs, FrsL], trivial⟩
theorem ok_spec_l1Has (x0 : Family) (x1 : Int) (hx : x0.people.length ≤ 1048576) (hu : x0.unions.length ≤ 1048576) (hn : ∀ p ∈ x0.people, p.name.length ≤ 1048576) : Lite.Fn Try.prog 27 [.agg (cFamily false x0), .int .i64 x1] (.bool (l1Has x0 x1)) [] := aux_spec_l1Has x0 x1 hx hu hn _ rfl
def l1Parents (x0 : Family) (x1 : Int) : (List Int) := bif (decide (0 ≤ ((x0.people.getD x1.toNat default).father))) then (bif (decide (0 ≤ ((x0.people.getD x1.toNat default).mother))) then ((([] : List Int) ++ [(x0.people.getD x1.toNat default).father]) ++ [(x0.people.getD x1.toNat default).mother]) else (([] : List Int) ++ [(x0.people.getD x1.toNat default).father])) else (bif (decide (0 ≤ ((x0.people.getD x1.toNat default).mother))) then (([] : List Int) ++ [(x0.people.getD x1.toNat default).mother]) else ([] : List Int))
theorem aux_spec_l1Parents (x0 : Family) (x1 : Int) (hx : x0.people.length ≤ 1048576) (hi : 0 ≤ x1 ∧ x1 < x0.people.length) (R : (List Int)) (hR : l1Parents x0 x1 = R) : Lite.Fn Try.prog 45 [.agg (cFamily false x0), .int .i64 x1] (.own 0) [.arr 1 R.length (rowOf (cInt .i64) R)] := by
  refine Lite.Fn.intro 40 Try.func45 (by kernel_rfl) (by kernel_rfl) (by kernel_rfl) fun w0 a w hs => ?_
  refine W.linK hs 2 [(1000, .row (rowOf (cInt .i64) ([] : List Int)))] [1, 2, 4, 5] [2, 6] (s2 := ⟨[(1, .int .i64 x1), (2, .vp 2 0), (4, .nilS), (5, .own 6)], [(2, .var [.ro false 6 x0.people.length (rowOf (cPerson false) x0.people), .ro false 4 x0.unions.length (rowOf (cUnion false) x0.unions)]), (6, .arr 1 0 (rowOf (cInt .i64) ([] : List Int)))], [6, 2]⟩) (vcs := []) (by kernel_rfl) trivial ?_
  clear hs; intro a w hs
  refine W.seq (by kernel_rfl) ?_
  refine W.linK hs 1 [] [1, 2, 4, 5, 13] [2, 6] (s2 := ⟨[(1, .int .i64 x1), (2, .vp 2 0), (4, .nilS), (5, .own 6), (13, .bool (decide (0 ≤ ((x0.people.getD x1.toNat default).father))))], [(2, .var [.ro false 6 x0.people.length (rowOf (cPerson false) x0.people), .ro false 4 x0.unions.length (rowOf (cUnion false) x0.unions)]), (6, .arr 1 0 (rowOf (cInt .i64) ([] : List Int)))], [6, 2]⟩) (vcs := [0 ≤ (x1 : Int) ∧ (x1 : Int) < ((x0.people.length : Nat) : Int)]) (by kernel_rfl) ⟨by trivial, trivial⟩ ?_
  clear hs; intro a w hs
  refine W.cond hs (by kernel_rfl) (b := decide (0 ≤ ((x0.people.getD x1.toNat default).father))) (p := []) (by kernel_rfl) trivial (fun hc1 => ?_) (fun hc1 => ?_)
  ·
    replace hR := ct hR hc1
    refine W.regK hs (by kernel_rfl) [(7, .row (rowOf (cInt .i64) [(x0.people.getD x1.toNat default).father])), (8, .row (rowOf (cInt .i64) (([] : List Int) ++ [(x0.people.getD x1.toNat default).father])))] [1, 2, 4, 5] [2, 22] (s2 := ⟨[(1, .int .i64 x1), (2, .vp 2 0), (4, .nilS), (5, .own 22)], [(2, .var [.ro false 6 x0.people.length (rowOf (cPerson false) x0.people), .ro false 4 x0.unions.length (rowOf (cUnion false) x0.unions)]), (22, .arr 1 (0 + 1) (rowOf (cInt .i64) (([] : List Int) ++ [(x0.people.getD x1.toNat default).father])))], [22, 21, 6, 2]⟩) (vcs := [0 ≤ (x1 : Int) ∧ (x1 : Int) < ((x0.people.length : Nat) : Int), (rowOf (cInt .i64) [(x0.people.getD x1.toNat default).father]) 0 = [.int .i64 ((x0.people.getD x1.toNat default).father)], ∀ k, k < 0 + 1 → (rowOf (cInt .i64) (([] : List Int) ++ [(x0.people.getD x1.toNat default).father])) k = bif Nat.blt k 0 then (rowOf (cInt .i64) ([] : List Int)) k else (rowOf (cInt .i64) [(x0.people.getD x1.toNat default).father]) (k - 0), (0 + 1) * 8 ≤ 140737488355328]) (by kernel_rfl) ⟨by trivial, rfl, row_append (cInt .i64) ([] : List Int) [(x0.people.getD x1.toNat default).father], by omega, trivial⟩ ?_
    clear hs; intro a w hs
    refine W.seq (by kernel_rfl) ?_
    refine W.linK hs 1 [] [1, 2, 4, 5, 29] [2, 22] (s2 := ⟨[(1, .int .i64 x1), (2, .vp 2 0), (4, .nilS), (5, .own 22), (29, .bool (decide (0 ≤ ((x0.people.getD x1.toNat default).mother))))], [(2, .var [.ro false 6 x0.people.length (rowOf (cPerson false) x0.people), .ro false 4 x0.unions.length (rowOf (cUnion false) x0.unions)]), (22, .arr 1 (0 + 1) (rowOf (cInt .i64) (([] : List Int) ++ [(x0.people.getD x1.toNat default).father])))], [22, 21, 6, 2]⟩) (vcs := [0 ≤ (x1 : Int) ∧ (x1 : Int) < ((x0.people.length : Nat) : Int)]) (by kernel_rfl) ⟨by trivial, trivial⟩ ?_
    clear hs; intro a w hs
    refine W.cond hs (by kernel_rfl) (b := decide (0 ≤ ((x0.people.getD x1.toNat default).mother))) (p := []) (by kernel_rfl) trivial (fun hc2 => ?_) (fun hc2 => ?_)
    ·
      replace hR := ct hR hc2
      refine W.regK hs (by kernel_rfl) [(7, .row (rowOf (cInt .i64) [(x0.people.getD x1.toNat default).mother])), (8, .row (rowOf (cInt .i64) ((([] : List Int) ++ [(x0.people.getD x1.toNat default).father]) ++ [(x0.people.getD x1.toNat default).mother])))] [4, 5] [38] (s2 := ⟨[(4, .nilS), (5, .own 38)], [(38, .arr 1 ((0 + 1) + 1) (rowOf (cInt .i64) ((([] : List Int) ++ [(x0.people.getD x1.toNat default).father]) ++ [(x0.people.getD x1.toNat default).mother])))], [38, 37, 22, 21, 6, 2]⟩) (vcs := [0 ≤ (x1 : Int) ∧ (x1 : Int) < ((x0.people.length : Nat) : Int), (rowOf (cInt .i64) [(x0.people.getD x1.toNat default).mother]) 0 = [.int .i64 ((x0.people.getD x1.toNat default).mother)], ∀ k, k < (0 + 1) + 1 → (rowOf (cInt .i64) ((([] : List Int) ++ [(x0.people.getD x1.toNat default).father]) ++ [(x0.people.getD x1.toNat default).mother])) k = bif Nat.blt k (0 + 1) then (rowOf (cInt .i64) (([] : List Int) ++ [(x0.people.getD x1.toNat default).father])) k else (rowOf (cInt .i64) [(x0.people.getD x1.toNat default).mother]) (k - (0 + 1)), ((0 + 1) + 1) * 8 ≤ 140737488355328]) (by kernel_rfl) ⟨by trivial, rfl, row_append (cInt .i64) (([] : List Int) ++ [(x0.people.getD x1.toNat default).father]) [(x0.people.getD x1.toNat default).mother], by omega, trivial⟩ ?_
      clear hs; intro a w hs
      refine W.linK hs 1 [] [4] [38] (s2 := ⟨[(4, .own 38)], [(38, .arr 1 ((0 + 1) + 1) (rowOf (cInt .i64) ((([] : List Int) ++ [(x0.people.getD x1.toNat default).father]) ++ [(x0.people.getD x1.toNat default).mother])))], [38, 37, 22, 21, 6, 2]⟩) (vcs := []) (by kernel_rfl) trivial ?_
      clear hs; intro a w hs
      refine W.ret (by kernel_rfl) ?_
      subst hR
      exact ret_ok hs [(0, some 38)] (vcs := [rowsEq ((0 + 1) + 1) (((([] : List Int) ++ [(x0.people.getD x1.toNat default).father]) ++ [(x0.people.getD x1.toNat default).mother]).length) (rowOf (cInt .i64) ((([] : List Int) ++ [(x0.people.getD x1.toNat default).father]) ++ [(x0.people.getD x1.toNat default).mother])) (rowOf (cInt .i64) ((([] : List Int) ++ [(x0.people.getD x1.toNat default).father]) ++ [(x0.people.getD x1.toNat default).mother])), Frs (.own 0), FrsB (.arr 1 (((([] : List Int) ++ [(x0.people.getD x1.toNat default).father]) ++ [(x0.people.getD x1.toNat default).mother]).length) (rowOf (cInt .i64) ((([] : List Int) ++ [(x0.people.getD x1.toNat default).father]) ++ [(x0.people.getD x1.toNat default).mother])))]) (by kernel_rfl) ⟨⟨by rfl, fun _ _ => rfl⟩, by simp [Frs, FrsL], by intro k hk; simp [rowOf, cInt, cBool, cStr, cSl, FrsL, Frs, FrsL_app, cPerson, cUnion, cFamily], trivial⟩
    ·
      replace hR := cf hR hc2
      refine W.skip (by kernel_rfl) ?_
      refine W.linK hs 1 [] [4] [22] (s2 := ⟨[(4, .own 22)], [(22, .arr 1 (0 + 1) (rowOf (cInt .i64) (([] : List Int) ++ [(x0.people.getD x1.toNat default).father])))], [22, 21, 6, 2]⟩) (vcs := []) (by kernel_rfl) trivial ?_
      clear hs; intro a w hs
      refine W.ret (by kernel_rfl) ?_
      subst hR
      exact ret_ok hs [(0, some 22)] (vcs := [rowsEq (0 + 1) ((([] : List Int) ++ [(x0.people.getD x1.toNat default).father]).length) (rowOf (cInt .i64) (([] : List Int) ++ [(x0.people.getD x1.toNat default).father])) (rowOf (cInt .i64) (([] : List Int) ++ [(x0.people.getD x1.toNat default).father])), Frs (.own 0), FrsB (.arr 1 ((([] : List Int) ++ [(x0.people.getD x1.toNat default).father]).length) (rowOf (cInt .i64) (([] : List Int) ++ [(x0.people.getD x1.toNat default).father])))]) (by kernel_rfl) ⟨⟨by rfl, fun _ _ => rfl⟩, by simp [Frs, FrsL], by intro k hk; simp [rowOf, cInt, cBool, cStr, cSl, FrsL, Frs, FrsL_app, cPerson, cUnion, cFamily], trivial⟩
  ·
    replace hR := cf hR hc1
    refine W.skip (by kernel_rfl) ?_
    refine W.seq (by kernel_rfl) ?_
    refine W.linK hs 1 [] [1, 2, 4, 5, 29] [2, 6] (s2 := ⟨[(1, .int .i64 x1), (2, .vp 2 0), (4, .nilS), (5, .own 6), (29, .bool (decide (0 ≤ ((x0.people.getD x1.toNat default).mother))))], [(2, .var [.ro false 6 x0.people.length (rowOf (cPerson false) x0.people), .ro false 4 x0.unions.length (rowOf (cUnion false) x0.unions)]), (6, .arr 1 0 (rowOf (cInt .i64) ([] : List Int)))], [6, 2]⟩) (vcs := [0 ≤ (x1 : Int) ∧ (x1 : Int) < ((x0.people.length : Nat) : Int)]) (by kernel_rfl) ⟨by trivial, trivial⟩ ?_
    clear hs; intro a w hs
    refine W.cond hs (by kernel_rfl) (b := decide (0 ≤ ((x0.people.getD x1.toNat default).mother))) (p := []) (by kernel_rfl) trivial (fun hc3 => ?_) (fun hc3 => ?_)
    ·
      replace hR := ct hR hc3
      refine W.regK hs (by kernel_rfl) [(7, .row (rowOf (cInt .i64) [(x0.people.getD x1.toNat default).mother])), (8, .row (rowOf (cInt .i64) (([] : List Int) ++ [(x0.people.getD x1.toNat default).mother])))] [4, 5] [38] (s2 := ⟨[(4, .nilS), (5, .own 38)], [(38, .arr 1 (0 + 1) (rowOf (cInt .i64) (([] : List Int) ++ [(x0.people.getD x1.toNat default).mother])))], [38, 37, 6, 2]⟩) (vcs := [0 ≤ (x1 : Int) ∧ (x1 : Int) < ((x0.people.length : Nat) : Int), (rowOf (cInt .i64) [(x0.people.getD x1.toNat default).mother]) 0 = [.int .i64 ((x0.people.getD x1.toNat default).mother)], ∀ k, k < 0 + 1 → (rowOf (cInt .i64) (([] : List Int) ++ [(x0.people.getD x1.toNat default).mother])) k = bif Nat.blt k 0 then (rowOf (cInt .i64) ([] : List Int)) k else (rowOf (cInt .i64) [(x0.people.getD x1.toNat default).mother]) (k - 0), (0 + 1) * 8 ≤ 140737488355328]) (by kernel_rfl) ⟨by trivial, rfl, row_append (cInt .i64) ([] : List Int) [(x0.people.getD x1.toNat default).mother], by omega, trivial⟩ ?_
      clear hs; intro a w hs
      refine W.linK hs 1 [] [4] [38] (s2 := ⟨[(4, .own 38)], [(38, .arr 1 (0 + 1) (rowOf (cInt .i64) (([] : List Int) ++ [(x0.people.getD x1.toNat default).mother])))], [38, 37, 6, 2]⟩) (vcs := []) (by kernel_rfl) trivial ?_
      clear hs; intro a w hs
      refine W.ret (by kernel_rfl) ?_
      subst hR
      exact ret_ok hs [(0, some 38)] (vcs := [rowsEq (0 + 1) ((([] : List Int) ++ [(x0.people.getD x1.toNat default).mother]).length) (rowOf (cInt .i64) (([] : List Int) ++ [(x0.people.getD x1.toNat default).mother])) (rowOf (cInt .i64) (([] : List Int) ++ [(x0.people.getD x1.toNat default).mother])), Frs (.own 0), FrsB (.arr 1 ((([] : List Int) ++ [(x0.people.getD x1.toNat default).mother]).length) (rowOf (cInt .i64) (([] : List Int) ++ [(x0.people.getD x1.toNat default).mother])))]) (by kernel_rfl) ⟨⟨by rfl, fun _ _ => rfl⟩, by simp [Frs, FrsL], by intro k hk; simp [rowOf, cInt, cBool, cStr, cSl, FrsL, Frs, FrsL_app, cPerson, cUnion, cFamily], trivial⟩
    ·
      replace hR := cf hR hc3
      refine W.skip (by kernel_rfl) ?_
      refine W.linK hs 1 [] [4] [6] (s2 := ⟨[(4, .own 6)], [(6, .arr 1 0 (rowOf (cInt .i64) ([] : List Int)))], [6, 2]⟩) (vcs := []) (by kernel_rfl) trivial ?_
      clear hs; intro a w hs
      refine W.ret (by kernel_rfl) ?_
      subst hR
      exact ret_ok hs [(0, some 6)] (vcs := [rowsEq 0 (([] : List Int).length) (rowOf (cInt .i64) ([] : List Int)) (rowOf (cInt .i64) ([] : List Int)), Frs (.own 0), FrsB (.arr 1 (([] : List Int).length) (rowOf (cInt .i64) ([] : List Int)))]) (by kernel_rfl) ⟨⟨by rfl, fun _ _ => rfl⟩, by simp [Frs, FrsL], by intro k hk; simp [rowOf, cInt, cBool, cStr, cSl, FrsL, Frs, FrsL_app, cPerson, cUnion, cFamily], trivial⟩
theorem l1Parents_rng (x : Family) (i : Int) : (l1Parents x i).length ≤ 2 ∧ ∀ k : Nat, k < (l1Parents x i).length → 0 ≤ (l1Parents x i).getD k default ∧ ((l1Parents x i).getD k default = (x.people.getD i.toNat default).father ∨ (l1Parents x i).getD k default = (x.people.getD i.toNat default).mother) := by
  unfold l1Parents
  cases h1 : decide (0 ≤ (x.people.getD i.toNat default).father) <;> cases h2 : decide (0 ≤ (x.people.getD i.toNat default).mother) <;> simp only [cond_true, cond_false] <;> refine ⟨by simp, fun k hk => ?_⟩
  · simp at hk
  · simp at hk; subst hk; have := of_decide_eq_true h2; simpa using this
  · simp at hk; subst hk; have := of_decide_eq_true h1; simpa using this
  · have := of_decide_eq_true h1; have := of_decide_eq_true h2
    simp at hk
    match k, hk with
    | 0, _ => exact ⟨by assumption, .inl rfl⟩
    | 1, _ => exact ⟨by assumption, .inr rfl⟩
theorem ok_spec_l1Parents (x0 : Family) (x1 : Int) (hx : x0.people.length ≤ 1048576) (hi : 0 ≤ x1 ∧ x1 < x0.people.length) : Lite.Fn Try.prog 45 [.agg (cFamily false x0), .int .i64 x1] (.own 0) [.arr 1 ((l1Parents x0 x1).length) (rowOf (cInt .i64) (l1Parents x0 x1))] := aux_spec_l1Parents x0 x1 hx hi _ rfl
end Go.Proofs.Ytanpfncfphpddaa
