import Derived.Test.YtanpfncfphpddaaM7
set_option maxHeartbeats 4000000
set_option linter.unusedSimpArgs false
set_option linter.unusedVariables false
namespace Go.Proofs.Ytanpfncfphpddaa
open Go Go.Lite Go.Proofs
structure Dyad where
  num : Int
  exp : Int
  deriving Inhabited
def cDyad (fr : Bool) (x : Dyad) : List LV := cInt .i64 x.num ++ cInt .i64 x.exp

def eqDyad (x0 : Dyad) (x1 : Dyad) : Bool := bif (!decide (x0.num = x1.num)) then false else (bif (!decide (x0.exp = x1.exp)) then false else true)
theorem aux_laws_eqDyad (x0 : Dyad) (x1 : Dyad) (R : Bool) (hR : eqDyad x0 x1 = R) : Lite.Fn Try.prog 18 [.agg (cDyad false x0), .agg (cDyad false x1)] (.bool R) [] := by
  refine Lite.Fn.intro 15 Try.func18 (by kernel_rfl) (by kernel_rfl) (by kernel_rfl) fun w0 a w hs => ?_
  refine W.linK hs 1 [] [2, 3, 4] [2, 3] (s2 := ⟨[(2, .vp 2 0), (3, .vp 3 0), (4, .bool false)], [(2, .var [.int .i64 x0.num, .int .i64 x0.exp]), (3, .var [.int .i64 x1.num, .int .i64 x1.exp])], [3, 2]⟩) (vcs := []) (by kernel_rfl) trivial ?_
  clear hs; intro a w hs
  refine W.seq (by kernel_rfl) ?_
  refine W.linK hs 1 [] [2, 3, 4, 9] [2, 3] (s2 := ⟨[(2, .vp 2 0), (3, .vp 3 0), (4, .bool false), (9, .bool (!decide (x0.num = x1.num)))], [(2, .var [.int .i64 x0.num, .int .i64 x0.exp]), (3, .var [.int .i64 x1.num, .int .i64 x1.exp])], [3, 2]⟩) (vcs := []) (by kernel_rfl) trivial ?_
  clear hs; intro a w hs
  refine W.cond hs (by kernel_rfl) (b := !decide (x0.num = x1.num)) (p := []) (by kernel_rfl) trivial (fun hc1 => ?_) (fun hc1 => ?_)
  ·
    replace hR := ct hR hc1
    refine W.linK hs 1 [] [2, 3, 4] [2, 3] (s2 := ⟨[(2, .vp 2 0), (3, .vp 3 0), (4, .bool false)], [(2, .var [.int .i64 x0.num, .int .i64 x0.exp]), (3, .var [.int .i64 x1.num, .int .i64 x1.exp])], [3, 2]⟩) (vcs := []) (by kernel_rfl) trivial ?_
    clear hs; intro a w hs
    refine W.ret (by kernel_rfl) ?_
    subst hR
    exact ret_ok hs [] (vcs := [false = false, Frs (.bool false)]) (by kernel_rfl) ⟨rfl, by simp [Frs, FrsL], trivial⟩
  ·
    replace hR := cf hR hc1
    refine W.skip (by kernel_rfl) ?_
    refine W.seq (by kernel_rfl) ?_
    refine W.linK hs 1 [] [4, 14] [] (s2 := ⟨[(4, .bool false), (14, .bool (!decide (x0.exp = x1.exp)))], [], [3, 2]⟩) (vcs := []) (by kernel_rfl) trivial ?_
    clear hs; intro a w hs
    refine W.cond hs (by kernel_rfl) (b := !decide (x0.exp = x1.exp)) (p := []) (by kernel_rfl) trivial (fun hc2 => ?_) (fun hc2 => ?_)
    ·
      replace hR := ct hR hc2
      refine W.linK hs 1 [] [4] [] (s2 := ⟨[(4, .bool false)], [], [3, 2]⟩) (vcs := []) (by kernel_rfl) trivial ?_
      clear hs; intro a w hs
      refine W.ret (by kernel_rfl) ?_
      subst hR
      exact ret_ok hs [] (vcs := [false = false, Frs (.bool false)]) (by kernel_rfl) ⟨rfl, by simp [Frs, FrsL], trivial⟩
    ·
      replace hR := cf hR hc2
      refine W.skip (by kernel_rfl) ?_
      refine W.linK hs 1 [] [4] [] (s2 := ⟨[(4, .bool true)], [], [3, 2]⟩) (vcs := []) (by kernel_rfl) trivial ?_
      clear hs; intro a w hs
      refine W.ret (by kernel_rfl) ?_
      subst hR
      exact ret_ok hs [] (vcs := [true = true, Frs (.bool true)]) (by kernel_rfl) ⟨rfl, by simp [Frs, FrsL], trivial⟩
theorem eqDyad_self (x : Dyad) : eqDyad x x = true := by simp [eqDyad]
theorem ok_laws_eqDyad (x0 : Dyad) (x1 : Dyad) : Lite.Fn Try.prog 18 [.agg (cDyad false x0), .agg (cDyad false x1)] (.bool (eqDyad x0 x1)) [] := aux_laws_eqDyad x0 x1  _ rfl
def l8Reduce (x0 : Int) (x1 : Int) : Dyad := loopW (fun (v1 : Int × Int) next => bif ((decide (0 < v1.2)) && (decide ((v1.1.tmod 2) = 0))) then (next (v1.1.tdiv 2, v1.2 - 1)) else (Dyad.mk v1.1 v1.2)) (x1.toNat + 1) (x0, x1)
theorem aux_spec_l8Reduce (x0 : Int) (x1 : Int) (hn : 0 ≤ x0 ∧ x0 ≤ 4398046511104) (he : 0 ≤ x1 ∧ x1 ≤ 100) (R : Dyad) (hR : l8Reduce x0 x1 = R) : Lite.Fn Try.prog 55 [.int .i64 x0, .int .i64 x1] (.agg [.int .i64 R.num, .int .i64 R.exp]) [] := by
  refine Lite.Fn.intro 19 Try.func55 (by kernel_rfl) (by kernel_rfl) (by kernel_rfl) fun w0 a w hs => ?_
  refine W.linK hs 1 [] [0, 1, 4] [4] (s2 := ⟨[(0, .int .i64 x0), (1, .int .i64 x1), (4, .vp 4 0)], [(4, .var [.int .i64 0, .int .i64 0])], [4]⟩) (vcs := []) (by kernel_rfl) trivial ?_
  clear hs; intro a w hs
  refine W.seq (by kernel_rfl) ?_
  refine W.block 0 (by kernel_rfl) ?_
  refine W.loopW (s0 := (x0, x1)) hR (by kernel_rfl) (fun v => ⟨[(0, .int .i64 v.1), (1, .int .i64 v.2), (4, .vp 4 0)], [(4, .var [.int .i64 0, .int .i64 0])], [4]⟩) (fun v => (0 ≤ v.1 ∧ v.1 ≤ 4398046511104) ∧ 0 ≤ v.2 ∧ v.2 ≤ 100) (fun v => v.2.toNat) (by trivial) (Nat.lt_succ_self _) (hs.le (T := ⟨[(0, .int .i64 x0), (1, .int .i64 x1), (4, .vp 4 0)], [(4, .var [.int .i64 0, .int .i64 0])], [4]⟩) [(4, some 4)] (vcs := [(x0 : Int) = x0, (x1 : Int) = x1, (0 : Int) = 0, (0 : Int) = 0]) (by kernel_rfl) ⟨by first | rfl | omega | (simp; done), by first | rfl | omega | (simp; done), by first | rfl | omega | (simp; done), by first | rfl | omega | (simp; done), trivial⟩) ?_
  intro m1 v1 a w hI1 hM1 hR hs
  replace hs : H 19 w0 noX ⟨[(0, .int .i64 v1.1), (1, .int .i64 v1.2), (4, .vp 4 0)], [(4, .var [.int .i64 0, .int .i64 0])], [4]⟩ a w := hs
  refine W.seq (by kernel_rfl) ?_
  refine W.linK hs 1 [] [0, 1, 4, 11] [4] (s2 := ⟨[(0, .int .i64 v1.1), (1, .int .i64 v1.2), (4, .vp 4 0), (11, .bool ((decide (0 < v1.2)) && (decide ((v1.1.tmod 2) = 0))))], [(4, .var [.int .i64 0, .int .i64 0])], [4]⟩) (vcs := [(decide (0 < v1.2)) = true → (decide (0 < v1.2)) = true, (decide (0 < v1.2)) = true → (2 : Int) ≠ 0, (decide (0 < v1.2)) = true → (decide (0 < v1.2)) = true, (decide (0 < v1.2)) = true → (decide (0 < v1.2)) = true]) (by kernel_rfl) ⟨fun h => h, by (intros; omega), fun h => h, fun h => h, trivial⟩ ?_
  clear hs; intro a w hs
  refine W.cond hs (by kernel_rfl) (b := (decide (0 < v1.2)) && (decide ((v1.1.tmod 2) = 0))) (p := []) (by kernel_rfl) trivial (fun hc1 => ?_) (fun hc1 => ?_)
  ·
    replace hR := ct hR hc1
    refine W.skip (by kernel_rfl) ?_
    refine W.block 1 (by kernel_rfl) ?_
    refine W.linK hs 1 [] [0, 1, 4] [4] (s2 := ⟨[(0, .int .i64 (v1.1.tdiv 2)), (1, .int .i64 v1.2), (4, .vp 4 0)], [(4, .var [.int .i64 0, .int .i64 0])], [4]⟩) (vcs := [(2 : Int) ≠ 0, inR .i64 (v1.1.tdiv 2)]) (by kernel_rfl) ⟨by trivial, by (clear hs hR; intros; (try simp only [decide_eq_true_eq, decide_eq_false_iff_not, Bool.or_eq_true, Bool.and_eq_true, or_f_iff, not_f_iff, not_t_iff, Bool.not_eq_true', inR] at *); (repeat' apply And.intro) <;> (have e := Int.tdiv_eq_ediv_of_nonneg (a := v1.1) (b := 2) (by omega); omega)), trivial⟩ ?_
    clear hs; intro a w hs
    refine W.regK hs (by kernel_rfl) [] [0, 1, 4] [4] (s2 := ⟨[(0, .int .i64 (v1.1.tdiv 2)), (1, .int .i64 (v1.2 - 1)), (4, .vp 4 0)], [(4, .var [.int .i64 0, .int .i64 0])], [4]⟩) (vcs := [inR .i64 (v1.2 - 1)]) (by kernel_rfl) ⟨by (clear hs; intros; simp only [inR]; omega), trivial⟩ ?_
    clear hs; intro a w hs
    exact ⟨(v1.1.tdiv 2, v1.2 - 1), by (clear hs hR; intros; (try simp only [decide_eq_true_eq, decide_eq_false_iff_not, Bool.or_eq_true, Bool.and_eq_true, or_f_iff, not_f_iff, not_t_iff, Bool.not_eq_true', inR] at *); (repeat' apply And.intro) <;> (first | (intros; omega) | (have e := Int.tdiv_eq_ediv_of_nonneg (a := v1.1) (b := 2) (by omega); omega))), by (clear hs hR; intros; (try simp only [decide_eq_true_eq, decide_eq_false_iff_not, Bool.or_eq_true, Bool.and_eq_true, or_f_iff, not_f_iff, not_t_iff, Bool.not_eq_true', inR] at *); (repeat' apply And.intro) <;> (intros; omega)), hR, hs.le (T := ⟨[(0, .int .i64 (v1.1.tdiv 2)), (1, .int .i64 (v1.2 - 1)), (4, .vp 4 0)], [(4, .var [.int .i64 0, .int .i64 0])], [4]⟩) [(4, some 4)] (vcs := [(v1.1.tdiv 2 : Int) = (v1.1.tdiv 2), (v1.2 - 1 : Int) = (v1.2 - 1), (0 : Int) = 0, (0 : Int) = 0]) (by kernel_rfl) ⟨by first | rfl | omega | (simp; done), by first | rfl | omega | (simp; done), by first | rfl | omega | (simp; done), by first | rfl | omega | (simp; done), trivial⟩⟩
  ·
    replace hR := cf hR hc1
    refine W.exit 0 (by kernel_rfl) rfl ?_
    refine W.linK hs 1 [] [4] [4] (s2 := ⟨[(4, .vp 4 0)], [(4, .var [.int .i64 v1.1, .int .i64 v1.2])], [4]⟩) (vcs := []) (by kernel_rfl) trivial ?_
    clear hs; intro a w hs
    refine W.ret (by kernel_rfl) ?_
    subst hR
    exact ret_ok hs [] (vcs := [(v1.1 : Int) = ((Dyad.mk v1.1 v1.2).num), (v1.2 : Int) = ((Dyad.mk v1.1 v1.2).exp), Frs (.agg [.int .i64 ((Dyad.mk v1.1 v1.2).num), .int .i64 ((Dyad.mk v1.1 v1.2).exp)])]) (by kernel_rfl) ⟨by first | rfl | omega | (simp; done), by first | rfl | omega | (simp; done), by simp [Frs, FrsL], trivial⟩
theorem ok_spec_l8Reduce (x0 : Int) (x1 : Int) (hn : 0 ≤ x0 ∧ x0 ≤ 4398046511104) (he : 0 ≤ x1 ∧ x1 ≤ 100) : Lite.Fn Try.prog 55 [.int .i64 x0, .int .i64 x1] (.agg [.int .i64 ((l8Reduce x0 x1).num), .int .i64 ((l8Reduce x0 x1).exp)]) [] := aux_spec_l8Reduce x0 x1 hn he _ rfl
def Dy (d : Dyad) : Prop := 0 ≤ d.num ∧ (0 ≤ d.exp ∧ d.exp ≤ 40) ∧ d.num * 2 ^ (40 - d.exp).toNat ≤ 2199023255552
theorem pow_pos2 (k : Nat) : (0 : Int) < 2 ^ k := Int.pow_pos (by omega)
theorem Dy.le {d : Dyad} (h : Dy d) : 0 ≤ d.num ∧ d.num ≤ 2199023255552 := by
  refine ⟨h.1, Int.le_trans ?_ h.2.2⟩
  have h1 := Int.mul_le_mul_of_nonneg_left (show (1 : Int) ≤ 2 ^ (40 - d.exp).toNat from by have := pow_pos2 (40 - d.exp).toNat; omega) h.1
  rwa [Int.mul_one] at h1
theorem Dy.dbl {n e : Int} (h : Dy ⟨n, e⟩) (he : e < 40) : Dy ⟨2 * n, e + 1⟩ := by
  obtain ⟨h1, h2, h3⟩ := h
  refine ⟨by simp only at *; omega, by simp only at *; omega, ?_⟩
  simp only at *
  have e1 : (40 - e).toNat = (40 - (e + 1)).toNat + 1 := by omega
  rw [e1, Int.pow_succ] at h3
  rw [show 2 * n * 2 ^ (40 - (e + 1)).toNat = n * (2 ^ (40 - (e + 1)).toNat * 2) by rw [Int.mul_comm 2 n, Int.mul_assoc, Int.mul_comm 2]]
  exact h3
def l8Add (x0 : Dyad) (x1 : Dyad) : Dyad := loopW (fun (v1 : Int × Int) next => bif (decide (v1.2 < x1.exp)) then (next (2 * v1.1, v1.2 + 1)) else (loopW (fun (v2 : Int × Int) next => bif (decide (v2.2 < v1.2)) then (next (2 * v2.1, v2.2 + 1)) else (l8Reduce (v1.1 + v2.1) v1.2)) ((v1.2 - x1.exp).toNat + 1) (x1.num, x1.exp))) ((x1.exp - x0.exp).toNat + 1) (x0.num, x0.exp)
theorem aux_spec_l8Add (x0 : Dyad) (x1 : Dyad) (hd : Dy x0) (hd2 : Dy x1) (R : Dyad) (hR : l8Add x0 x1 = R) : Lite.Fn Try.prog 54 [.agg (cDyad false x0), .agg (cDyad false x1)] (.agg [.int .i64 R.num, .int .i64 R.exp]) [] := by
  refine Lite.Fn.intro 37 Try.func54 (by kernel_rfl) (by kernel_rfl) (by kernel_rfl) fun w0 a w hs => ?_
  refine W.linK hs 1 [] [2, 3, 4] [2, 3, 4] (s2 := ⟨[(2, .vp 2 0), (3, .vp 3 0), (4, .vp 4 0)], [(2, .var [.int .i64 x0.num, .int .i64 x0.exp]), (3, .var [.int .i64 x1.num, .int .i64 x1.exp]), (4, .var [.int .i64 0, .int .i64 0])], [4, 3, 2]⟩) (vcs := []) (by kernel_rfl) trivial ?_
  clear hs; intro a w hs
  refine W.seq (by kernel_rfl) ?_
  refine W.block 0 (by kernel_rfl) ?_
  refine W.loopW (s0 := (x0.num, x0.exp)) hR (by kernel_rfl) (fun v => ⟨[(2, .vp 2 0), (3, .vp 3 0), (4, .vp 4 0)], [(2, .var [.int .i64 v.1, .int .i64 v.2]), (3, .var [.int .i64 x1.num, .int .i64 x1.exp]), (4, .var [.int .i64 0, .int .i64 0])], [2, 3, 4]⟩) (fun v => Dy ⟨v.1, v.2⟩) (fun v => (x1.exp - v.2).toNat) (by trivial) (Nat.lt_succ_self _) (hs.le (T := ⟨[(2, .vp 2 0), (3, .vp 3 0), (4, .vp 4 0)], [(2, .var [.int .i64 x0.num, .int .i64 x0.exp]), (3, .var [.int .i64 x1.num, .int .i64 x1.exp]), (4, .var [.int .i64 0, .int .i64 0])], [2, 3, 4]⟩) [(2, some 2), (3, some 3), (4, some 4)] (vcs := [(x0.num : Int) = x0.num, (x0.exp : Int) = x0.exp, (x1.num : Int) = x1.num, (x1.exp : Int) = x1.exp, (0 : Int) = 0, (0 : Int) = 0]) (by kernel_rfl) ⟨by first | rfl | omega | (simp; done), by first | rfl | omega | (simp; done), by first | rfl | omega | (simp; done), by first | rfl | omega | (simp; done), by first | rfl | omega | (simp; done), by first | rfl | omega | (simp; done), trivial⟩) ?_
  intro m1 v1 a w hI1 hM1 hR hs
  replace hs : H 37 w0 noX ⟨[(2, .vp 2 0), (3, .vp 3 0), (4, .vp 4 0)], [(2, .var [.int .i64 v1.1, .int .i64 v1.2]), (3, .var [.int .i64 x1.num, .int .i64 x1.exp]), (4, .var [.int .i64 0, .int .i64 0])], [2, 3, 4]⟩ a w := hs
  refine W.seq (by kernel_rfl) ?_
  refine W.linK hs 1 [] [2, 3, 4, 9] [2, 3, 4] (s2 := ⟨[(2, .vp 2 0), (3, .vp 3 0), (4, .vp 4 0), (9, .bool (decide (v1.2 < x1.exp)))], [(2, .var [.int .i64 v1.1, .int .i64 v1.2]), (3, .var [.int .i64 x1.num, .int .i64 x1.exp]), (4, .var [.int .i64 0, .int .i64 0])], [2, 3, 4]⟩) (vcs := []) (by kernel_rfl) trivial ?_
  clear hs; intro a w hs
  refine W.cond hs (by kernel_rfl) (b := decide (v1.2 < x1.exp)) (p := []) (by kernel_rfl) trivial (fun hc1 => ?_) (fun hc1 => ?_)
  ·
    replace hR := ct hR hc1
    refine W.skip (by kernel_rfl) ?_
    refine W.block 1 (by kernel_rfl) ?_
    refine W.regK hs (by kernel_rfl) [] [2, 3, 4] [2, 3, 4] (s2 := ⟨[(2, .vp 2 0), (3, .vp 3 0), (4, .vp 4 0)], [(2, .var [.int .i64 (2 * v1.1), .int .i64 (v1.2 + 1)]), (3, .var [.int .i64 x1.num, .int .i64 x1.exp]), (4, .var [.int .i64 0, .int .i64 0])], [2, 3, 4]⟩) (vcs := [inR .i64 (2 * v1.1), inR .i64 (v1.2 + 1)]) (by kernel_rfl) ⟨by (clear hs hR; intros; (try simp only [decide_eq_true_eq, decide_eq_false_iff_not, Bool.or_eq_true, Bool.and_eq_true, or_f_iff, not_f_iff, not_t_iff, Bool.not_eq_true', inR] at *); (repeat' apply And.intro) <;> (have h8 := Dy.le hI1; have h7 := hI1.2.1; have h6 := hd2.2.1; simp only at *; omega)), by (clear hs hR; intros; (try simp only [decide_eq_true_eq, decide_eq_false_iff_not, Bool.or_eq_true, Bool.and_eq_true, or_f_iff, not_f_iff, not_t_iff, Bool.not_eq_true', inR] at *); (repeat' apply And.intro) <;> (have h8 := Dy.le hI1; have h7 := hI1.2.1; have h6 := hd2.2.1; simp only at *; omega)), trivial⟩ ?_
    clear hs; intro a w hs
    exact ⟨(2 * v1.1, v1.2 + 1), by (have h6 := hd2.2.1; have h5 := of_decide_eq_true hc1; exact Dy.dbl hI1 (by omega)), by (clear hs hR; intros; (try simp only [decide_eq_true_eq, decide_eq_false_iff_not, Bool.or_eq_true, Bool.and_eq_true, or_f_iff, not_f_iff, not_t_iff, Bool.not_eq_true', inR] at *); (repeat' apply And.intro) <;> (intros; omega)), hR, hs.le (T := ⟨[(2, .vp 2 0), (3, .vp 3 0), (4, .vp 4 0)], [(2, .var [.int .i64 (2 * v1.1), .int .i64 (v1.2 + 1)]), (3, .var [.int .i64 x1.num, .int .i64 x1.exp]), (4, .var [.int .i64 0, .int .i64 0])], [2, 3, 4]⟩) [(2, some 2), (3, some 3), (4, some 4)] (vcs := [(2 * v1.1 : Int) = (2 * v1.1), (v1.2 + 1 : Int) = (v1.2 + 1), (x1.num : Int) = x1.num, (x1.exp : Int) = x1.exp, (0 : Int) = 0, (0 : Int) = 0]) (by kernel_rfl) ⟨by first | rfl | omega | (simp; done), by first | rfl | omega | (simp; done), by first | rfl | omega | (simp; done), by first | rfl | omega | (simp; done), by first | rfl | omega | (simp; done), by first | rfl | omega | (simp; done), trivial⟩⟩
  ·
    replace hR := cf hR hc1
    refine W.exit 0 (by kernel_rfl) rfl ?_
    refine W.seq (by kernel_rfl) ?_
    refine W.block 2 (by kernel_rfl) ?_
    refine W.loopW (s0 := (x1.num, x1.exp)) hR (by kernel_rfl) (fun v => ⟨[(2, .vp 2 0), (3, .vp 3 0), (4, .vp 4 0)], [(2, .var [.int .i64 v1.1, .int .i64 v1.2]), (3, .var [.int .i64 v.1, .int .i64 v.2]), (4, .var [.int .i64 0, .int .i64 0])], [2, 3, 4]⟩) (fun v => Dy ⟨v.1, v.2⟩) (fun v => (v1.2 - v.2).toNat) (by trivial) (Nat.lt_succ_self _) (hs.le (T := ⟨[(2, .vp 2 0), (3, .vp 3 0), (4, .vp 4 0)], [(2, .var [.int .i64 v1.1, .int .i64 v1.2]), (3, .var [.int .i64 x1.num, .int .i64 x1.exp]), (4, .var [.int .i64 0, .int .i64 0])], [2, 3, 4]⟩) [(2, some 2), (3, some 3), (4, some 4)] (vcs := [(v1.1 : Int) = v1.1, (v1.2 : Int) = v1.2, (x1.num : Int) = x1.num, (x1.exp : Int) = x1.exp, (0 : Int) = 0, (0 : Int) = 0]) (by kernel_rfl) ⟨by first | rfl | omega | (simp; done), by first | rfl | omega | (simp; done), by first | rfl | omega | (simp; done), by first | rfl | omega | (simp; done), by first | rfl | omega | (simp; done), by first | rfl | omega | (simp; done), trivial⟩) ?_
    intro m2 v2 a w hI2 hM2 hR hs
    replace hs : H 37 w0 noX ⟨[(2, .vp 2 0), (3, .vp 3 0), (4, .vp 4 0)], [(2, .var [.int .i64 v1.1, .int .i64 v1.2]), (3, .var [.int .i64 v2.1, .int .i64 v2.2]), (4, .var [.int .i64 0, .int .i64 0])], [2, 3, 4]⟩ a w := hs
    refine W.seq (by kernel_rfl) ?_
    refine W.linK hs 1 [] [2, 3, 4, 21] [2, 3, 4] (s2 := ⟨[(2, .vp 2 0), (3, .vp 3 0), (4, .vp 4 0), (21, .bool (decide (v2.2 < v1.2)))], [(2, .var [.int .i64 v1.1, .int .i64 v1.2]), (3, .var [.int .i64 v2.1, .int .i64 v2.2]), (4, .var [.int .i64 0, .int .i64 0])], [2, 3, 4]⟩) (vcs := []) (by kernel_rfl) trivial ?_
    clear hs; intro a w hs
    refine W.cond hs (by kernel_rfl) (b := decide (v2.2 < v1.2)) (p := []) (by kernel_rfl) trivial (fun hc2 => ?_) (fun hc2 => ?_)
    ·
      replace hR := ct hR hc2
      refine W.skip (by kernel_rfl) ?_
      refine W.block 3 (by kernel_rfl) ?_
      refine W.regK hs (by kernel_rfl) [] [2, 3, 4] [2, 3, 4] (s2 := ⟨[(2, .vp 2 0), (3, .vp 3 0), (4, .vp 4 0)], [(2, .var [.int .i64 v1.1, .int .i64 v1.2]), (3, .var [.int .i64 (2 * v2.1), .int .i64 (v2.2 + 1)]), (4, .var [.int .i64 0, .int .i64 0])], [2, 3, 4]⟩) (vcs := [inR .i64 (2 * v2.1), inR .i64 (v2.2 + 1)]) (by kernel_rfl) ⟨by (clear hs hR; intros; (try simp only [decide_eq_true_eq, decide_eq_false_iff_not, Bool.or_eq_true, Bool.and_eq_true, or_f_iff, not_f_iff, not_t_iff, Bool.not_eq_true', inR] at *); (repeat' apply And.intro) <;> (have h8 := Dy.le hI2; have h7 := hI2.2.1; have h9 := Dy.le hI1; have h6 := hI1.2.1; simp only at *; omega)), by (clear hs hR; intros; (try simp only [decide_eq_true_eq, decide_eq_false_iff_not, Bool.or_eq_true, Bool.and_eq_true, or_f_iff, not_f_iff, not_t_iff, Bool.not_eq_true', inR] at *); (repeat' apply And.intro) <;> (first | (have h8 := Dy.le hI1; have h7 := hI1.2.1; have h6 := hd2.2.1; simp only at *; omega) | (have h8 := Dy.le hI2; have h7 := hI2.2.1; have h9 := Dy.le hI1; have h6 := hI1.2.1; simp only at *; omega))), trivial⟩ ?_
      clear hs; intro a w hs
      exact ⟨(2 * v2.1, v2.2 + 1), by (have h6 := hI1.2.1; have h5 := of_decide_eq_true hc2; simp only at *; exact Dy.dbl hI2 (by omega)), by (clear hs hR; intros; (try simp only [decide_eq_true_eq, decide_eq_false_iff_not, Bool.or_eq_true, Bool.and_eq_true, or_f_iff, not_f_iff, not_t_iff, Bool.not_eq_true', inR] at *); (repeat' apply And.intro) <;> (intros; omega)), hR, hs.le (T := ⟨[(2, .vp 2 0), (3, .vp 3 0), (4, .vp 4 0)], [(2, .var [.int .i64 v1.1, .int .i64 v1.2]), (3, .var [.int .i64 (2 * v2.1), .int .i64 (v2.2 + 1)]), (4, .var [.int .i64 0, .int .i64 0])], [2, 3, 4]⟩) [(2, some 2), (3, some 3), (4, some 4)] (vcs := [(v1.1 : Int) = v1.1, (v1.2 : Int) = v1.2, (2 * v2.1 : Int) = (2 * v2.1), (v2.2 + 1 : Int) = (v2.2 + 1), (0 : Int) = 0, (0 : Int) = 0]) (by kernel_rfl) ⟨by first | rfl | omega | (simp; done), by first | rfl | omega | (simp; done), by first | rfl | omega | (simp; done), by first | rfl | omega | (simp; done), by first | rfl | omega | (simp; done), by first | rfl | omega | (simp; done), trivial⟩⟩
    ·
      replace hR := cf hR hc2
      refine W.exit 2 (by kernel_rfl) rfl ?_
      refine W.linK hs 1 [(7, .res (.agg [.int .i64 ((l8Reduce (v1.1 + v2.1) v1.2).num), .int .i64 ((l8Reduce (v1.1 + v2.1) v1.2).exp)]) [])] [4] [4] (s2 := ⟨[(4, .vp 4 0)], [(4, .var [.int .i64 ((l8Reduce (v1.1 + v2.1) v1.2).num), .int .i64 ((l8Reduce (v1.1 + v2.1) v1.2).exp)])], [2, 3, 4]⟩) (vcs := [inR .i64 (v1.1 + v2.1), Lite.Fn Try.prog 55 [.int .i64 (v1.1 + v2.1), .int .i64 v1.2] (.agg [.int .i64 ((l8Reduce (v1.1 + v2.1) v1.2).num), .int .i64 ((l8Reduce (v1.1 + v2.1) v1.2).exp)]) []]) (by kernel_rfl) ⟨by (clear hs hR; intros; (try simp only [decide_eq_true_eq, decide_eq_false_iff_not, Bool.or_eq_true, Bool.and_eq_true, or_f_iff, not_f_iff, not_t_iff, Bool.not_eq_true', inR] at *); (repeat' apply And.intro) <;> (have h8 := Dy.le hI2; have h7 := hI2.2.1; have h9 := Dy.le hI1; have h6 := hI1.2.1; simp only at *; omega)), ok_spec_l8Reduce (v1.1 + v2.1) v1.2 (by (have h8 := Dy.le hI2; have h7 := hI2.2.1; have h9 := Dy.le hI1; have h6 := hI1.2.1; simp only at *; omega)) (by (have h8 := Dy.le hI1; have h7 := hI1.2.1; have h6 := hd2.2.1; simp only at *; omega)), trivial⟩ ?_
      clear hs; intro a w hs
      refine W.ret (by kernel_rfl) ?_
      subst hR
      exact ret_ok hs [] (vcs := [((l8Reduce (v1.1 + v2.1) v1.2).num : Int) = ((l8Reduce (v1.1 + v2.1) v1.2).num), ((l8Reduce (v1.1 + v2.1) v1.2).exp : Int) = ((l8Reduce (v1.1 + v2.1) v1.2).exp), Frs (.agg [.int .i64 ((l8Reduce (v1.1 + v2.1) v1.2).num), .int .i64 ((l8Reduce (v1.1 + v2.1) v1.2).exp)])]) (by kernel_rfl) ⟨by first | rfl | omega | (simp; done), by first | rfl | omega | (simp; done), by simp [Frs, FrsL], trivial⟩
theorem ok_spec_l8Add (x0 : Dyad) (x1 : Dyad) (hd : Dy x0) (hd2 : Dy x1) : Lite.Fn Try.prog 54 [.agg (cDyad false x0), .agg (cDyad false x1)] (.agg [.int .i64 ((l8Add x0 x1).num), .int .i64 ((l8Add x0 x1).exp)]) [] := aux_spec_l8Add x0 x1 hd hd2 _ rfl
def isDyad (x0 : Dyad) : Bool := ((((decide (0 ≤ x0.num)) && (decide (x0.num ≤ 1073741824))) && (decide (0 ≤ x0.exp))) && (decide (x0.exp ≤ 30))) && ((decide (x0.exp = 0)) || (decide ((x0.num.tmod 2) = 1)))
theorem aux_impl_isDyad (x0 : Dyad) (R : Bool) (hR : isDyad x0 = R) : Lite.Fn Try.prog 64 [.agg (cDyad false x0)] (.bool R) [] := by
  refine Lite.Fn.intro 32 Try.func64 (by kernel_rfl) (by kernel_rfl) (by kernel_rfl) fun w0 a w hs => ?_
  refine W.linK hs 2 [] [2] [] (s2 := ⟨[(2, .bool (((((decide (0 ≤ x0.num)) && (decide (x0.num ≤ 1073741824))) && (decide (0 ≤ x0.exp))) && (decide (x0.exp ≤ 30))) && ((decide (x0.exp = 0)) || (decide ((x0.num.tmod 2) = 1)))))], [], [1]⟩) (vcs := [(decide (0 ≤ x0.num)) = true → (decide (0 ≤ x0.num)) = true, (decide (0 ≤ x0.num)) = true → (decide (0 ≤ x0.num)) = true, (decide (0 ≤ x0.num)) = true → (decide (0 ≤ x0.num)) = true, ((decide (0 ≤ x0.num)) && (decide (x0.num ≤ 1073741824))) = true → ((decide (0 ≤ x0.num)) && (decide (x0.num ≤ 1073741824))) = true, ((decide (0 ≤ x0.num)) && (decide (x0.num ≤ 1073741824))) = true → ((decide (0 ≤ x0.num)) && (decide (x0.num ≤ 1073741824))) = true, ((decide (0 ≤ x0.num)) && (decide (x0.num ≤ 1073741824))) = true → ((decide (0 ≤ x0.num)) && (decide (x0.num ≤ 1073741824))) = true, (((decide (0 ≤ x0.num)) && (decide (x0.num ≤ 1073741824))) && (decide (0 ≤ x0.exp))) = true → (((decide (0 ≤ x0.num)) && (decide (x0.num ≤ 1073741824))) && (decide (0 ≤ x0.exp))) = true, (((decide (0 ≤ x0.num)) && (decide (x0.num ≤ 1073741824))) && (decide (0 ≤ x0.exp))) = true → (((decide (0 ≤ x0.num)) && (decide (x0.num ≤ 1073741824))) && (decide (0 ≤ x0.exp))) = true, (((decide (0 ≤ x0.num)) && (decide (x0.num ≤ 1073741824))) && (decide (0 ≤ x0.exp))) = true → (((decide (0 ≤ x0.num)) && (decide (x0.num ≤ 1073741824))) && (decide (0 ≤ x0.exp))) = true, ((((decide (0 ≤ x0.num)) && (decide (x0.num ≤ 1073741824))) && (decide (0 ≤ x0.exp))) && (decide (x0.exp ≤ 30))) = true → ((((decide (0 ≤ x0.num)) && (decide (x0.num ≤ 1073741824))) && (decide (0 ≤ x0.exp))) && (decide (x0.exp ≤ 30))) = true, ((((decide (0 ≤ x0.num)) && (decide (x0.num ≤ 1073741824))) && (decide (0 ≤ x0.exp))) && (decide (x0.exp ≤ 30))) = true → ((((decide (0 ≤ x0.num)) && (decide (x0.num ≤ 1073741824))) && (decide (0 ≤ x0.exp))) && (decide (x0.exp ≤ 30))) = true, ((((decide (0 ≤ x0.num)) && (decide (x0.num ≤ 1073741824))) && (decide (0 ≤ x0.exp))) && (decide (x0.exp ≤ 30))) = true → ((((decide (0 ≤ x0.num)) && (decide (x0.num ≤ 1073741824))) && (decide (0 ≤ x0.exp))) && (decide (x0.exp ≤ 30))) = true, (((((decide (0 ≤ x0.num)) && (decide (x0.num ≤ 1073741824))) && (decide (0 ≤ x0.exp))) && (decide (x0.exp ≤ 30))) && (!(decide (x0.exp = 0)))) = true → (((((decide (0 ≤ x0.num)) && (decide (x0.num ≤ 1073741824))) && (decide (0 ≤ x0.exp))) && (decide (x0.exp ≤ 30))) && (!(decide (x0.exp = 0)))) = true, (((((decide (0 ≤ x0.num)) && (decide (x0.num ≤ 1073741824))) && (decide (0 ≤ x0.exp))) && (decide (x0.exp ≤ 30))) && (!(decide (x0.exp = 0)))) = true → (((((decide (0 ≤ x0.num)) && (decide (x0.num ≤ 1073741824))) && (decide (0 ≤ x0.exp))) && (decide (x0.exp ≤ 30))) && (!(decide (x0.exp = 0)))) = true, (((((decide (0 ≤ x0.num)) && (decide (x0.num ≤ 1073741824))) && (decide (0 ≤ x0.exp))) && (decide (x0.exp ≤ 30))) && (!(decide (x0.exp = 0)))) = true → (2 : Int) ≠ 0, (((((decide (0 ≤ x0.num)) && (decide (x0.num ≤ 1073741824))) && (decide (0 ≤ x0.exp))) && (decide (x0.exp ≤ 30))) && (!(decide (x0.exp = 0)))) = true → (((((decide (0 ≤ x0.num)) && (decide (x0.num ≤ 1073741824))) && (decide (0 ≤ x0.exp))) && (decide (x0.exp ≤ 30))) && (!(decide (x0.exp = 0)))) = true, ((((decide (0 ≤ x0.num)) && (decide (x0.num ≤ 1073741824))) && (decide (0 ≤ x0.exp))) && (decide (x0.exp ≤ 30))) = true → ((((decide (0 ≤ x0.num)) && (decide (x0.num ≤ 1073741824))) && (decide (0 ≤ x0.exp))) && (decide (x0.exp ≤ 30))) = true, ((((decide (0 ≤ x0.num)) && (decide (x0.num ≤ 1073741824))) && (decide (0 ≤ x0.exp))) && (decide (x0.exp ≤ 30))) = true → (decide (x0.exp = 0)) = false → (((((decide (0 ≤ x0.num)) && (decide (x0.num ≤ 1073741824))) && (decide (0 ≤ x0.exp))) && (decide (x0.exp ≤ 30))) && (!(decide (x0.exp = 0)))) = true, ((((decide (0 ≤ x0.num)) && (decide (x0.num ≤ 1073741824))) && (decide (0 ≤ x0.exp))) && (decide (x0.exp ≤ 30))) = true → ((((decide (0 ≤ x0.num)) && (decide (x0.num ≤ 1073741824))) && (decide (0 ≤ x0.exp))) && (decide (x0.exp ≤ 30))) = true]) (by kernel_rfl) ⟨fun h => h, fun h => h, fun h => h, fun h => h, fun h => h, fun h => h, fun h => h, fun h => h, fun h => h, fun h => h, fun h => h, fun h => h, fun h => h, fun h => h, by (intros; omega), fun h => h, fun h => h, by (clear hs hR; intros; (try simp only [decide_eq_true_eq, decide_eq_false_iff_not, Bool.or_eq_true, Bool.and_eq_true, or_f_iff, not_f_iff, not_t_iff, Bool.not_eq_true', inR] at *); (repeat' apply And.intro) <;> (intros; omega)), fun h => h, trivial⟩ ?_
  clear hs; intro a w hs
  refine W.ret (by kernel_rfl) ?_
  subst hR
  exact ret_ok hs [] (vcs := [(((((decide (0 ≤ x0.num)) && (decide (x0.num ≤ 1073741824))) && (decide (0 ≤ x0.exp))) && (decide (x0.exp ≤ 30))) && ((decide (x0.exp = 0)) || (decide ((x0.num.tmod 2) = 1)))) = (((((decide (0 ≤ x0.num)) && (decide (x0.num ≤ 1073741824))) && (decide (0 ≤ x0.exp))) && (decide (x0.exp ≤ 30))) && ((decide (x0.exp = 0)) || (decide ((x0.num.tmod 2) = 1)))), Frs (.bool (((((decide (0 ≤ x0.num)) && (decide (x0.num ≤ 1073741824))) && (decide (0 ≤ x0.exp))) && (decide (x0.exp ≤ 30))) && ((decide (x0.exp = 0)) || (decide ((x0.num.tmod 2) = 1)))))]) (by kernel_rfl) ⟨rfl, by simp [Frs, FrsL], trivial⟩
theorem ok_impl_isDyad (x0 : Dyad) : Lite.Fn Try.prog 64 [.agg (cDyad false x0)] (.bool (isDyad x0)) [] := aux_impl_isDyad x0  _ rfl
def dyadOf (x0 : Int) (x1 : Int) : Dyad × Bool := loopW (fun (v1 : Int × Int) next => bif ((decide (0 < v1.2)) && (decide ((v1.1.tmod 2) = 0))) then (next (v1.1.tdiv 2, v1.2 - 1)) else ((Dyad.mk v1.1 v1.2), isDyad (Dyad.mk v1.1 v1.2))) (x1.toNat + 1) (x0, x1)
theorem aux_impl_dyadOf (x0 : Int) (x1 : Int) (hn : 0 ≤ x0 ∧ x0 ≤ 4398046511104) (he : 0 ≤ x1 ∧ x1 ≤ 100) (R : Dyad × Bool) (hR : dyadOf x0 x1 = R) : Lite.Fn Try.prog 56 [.int .i64 x0, .int .i64 x1] (.tup [.agg [.int .i64 R.1.num, .int .i64 R.1.exp], .bool R.2]) [] := by
  refine Lite.Fn.intro 24 Try.func56 (by kernel_rfl) (by kernel_rfl) (by kernel_rfl) fun w0 a w hs => ?_
  refine W.linK hs 1 [] [0, 1, 4, 5] [4] (s2 := ⟨[(0, .int .i64 x0), (1, .int .i64 x1), (4, .vp 4 0), (5, .bool false)], [(4, .var [.int .i64 0, .int .i64 0])], [4]⟩) (vcs := []) (by kernel_rfl) trivial ?_
  clear hs; intro a w hs
  refine W.seq (by kernel_rfl) ?_
  refine W.block 0 (by kernel_rfl) ?_
  refine W.loopW (s0 := (x0, x1)) hR (by kernel_rfl) (fun v => ⟨[(0, .int .i64 v.1), (1, .int .i64 v.2), (4, .vp 4 0), (5, .bool false)], [(4, .var [.int .i64 0, .int .i64 0])], [4]⟩) (fun v => (0 ≤ v.1 ∧ v.1 ≤ 4398046511104) ∧ 0 ≤ v.2 ∧ v.2 ≤ 100) (fun v => v.2.toNat) (by trivial) (Nat.lt_succ_self _) (hs.le (T := ⟨[(0, .int .i64 x0), (1, .int .i64 x1), (4, .vp 4 0), (5, .bool false)], [(4, .var [.int .i64 0, .int .i64 0])], [4]⟩) [(4, some 4)] (vcs := [(x0 : Int) = x0, (x1 : Int) = x1, false = false, (0 : Int) = 0, (0 : Int) = 0]) (by kernel_rfl) ⟨by first | rfl | omega | (simp; done), by first | rfl | omega | (simp; done), rfl, by first | rfl | omega | (simp; done), by first | rfl | omega | (simp; done), trivial⟩) ?_
  intro m1 v1 a w hI1 hM1 hR hs
  replace hs : H 24 w0 noX ⟨[(0, .int .i64 v1.1), (1, .int .i64 v1.2), (4, .vp 4 0), (5, .bool false)], [(4, .var [.int .i64 0, .int .i64 0])], [4]⟩ a w := hs
  refine W.seq (by kernel_rfl) ?_
  refine W.linK hs 1 [] [0, 1, 4, 5, 13] [4] (s2 := ⟨[(0, .int .i64 v1.1), (1, .int .i64 v1.2), (4, .vp 4 0), (5, .bool false), (13, .bool ((decide (0 < v1.2)) && (decide ((v1.1.tmod 2) = 0))))], [(4, .var [.int .i64 0, .int .i64 0])], [4]⟩) (vcs := [(decide (0 < v1.2)) = true → (decide (0 < v1.2)) = true, (decide (0 < v1.2)) = true → (2 : Int) ≠ 0, (decide (0 < v1.2)) = true → (decide (0 < v1.2)) = true, (decide (0 < v1.2)) = true → (decide (0 < v1.2)) = true]) (by kernel_rfl) ⟨fun h => h, by (intros; omega), fun h => h, fun h => h, trivial⟩ ?_
  clear hs; intro a w hs
  refine W.cond hs (by kernel_rfl) (b := (decide (0 < v1.2)) && (decide ((v1.1.tmod 2) = 0))) (p := []) (by kernel_rfl) trivial (fun hc1 => ?_) (fun hc1 => ?_)
  ·
    replace hR := ct hR hc1
    refine W.skip (by kernel_rfl) ?_
    refine W.block 1 (by kernel_rfl) ?_
    refine W.linK hs 1 [] [0, 1, 4, 5] [4] (s2 := ⟨[(0, .int .i64 (v1.1.tdiv 2)), (1, .int .i64 v1.2), (4, .vp 4 0), (5, .bool false)], [(4, .var [.int .i64 0, .int .i64 0])], [4]⟩) (vcs := [(2 : Int) ≠ 0, inR .i64 (v1.1.tdiv 2)]) (by kernel_rfl) ⟨by trivial, by (clear hs hR; intros; (try simp only [decide_eq_true_eq, decide_eq_false_iff_not, Bool.or_eq_true, Bool.and_eq_true, or_f_iff, not_f_iff, not_t_iff, Bool.not_eq_true', inR] at *); (repeat' apply And.intro) <;> (have e := Int.tdiv_eq_ediv_of_nonneg (a := v1.1) (b := 2) (by omega); omega)), trivial⟩ ?_
    clear hs; intro a w hs
    refine W.regK hs (by kernel_rfl) [] [0, 1, 4, 5] [4] (s2 := ⟨[(0, .int .i64 (v1.1.tdiv 2)), (1, .int .i64 (v1.2 - 1)), (4, .vp 4 0), (5, .bool false)], [(4, .var [.int .i64 0, .int .i64 0])], [4]⟩) (vcs := [inR .i64 (v1.2 - 1)]) (by kernel_rfl) ⟨by (clear hs; intros; simp only [inR]; omega), trivial⟩ ?_
    clear hs; intro a w hs
    exact ⟨(v1.1.tdiv 2, v1.2 - 1), by (clear hs hR; intros; (try simp only [decide_eq_true_eq, decide_eq_false_iff_not, Bool.or_eq_true, Bool.and_eq_true, or_f_iff, not_f_iff, not_t_iff, Bool.not_eq_true', inR] at *); (repeat' apply And.intro) <;> (first | (intros; omega) | (have e := Int.tdiv_eq_ediv_of_nonneg (a := v1.1) (b := 2) (by omega); omega))), by (clear hs hR; intros; (try simp only [decide_eq_true_eq, decide_eq_false_iff_not, Bool.or_eq_true, Bool.and_eq_true, or_f_iff, not_f_iff, not_t_iff, Bool.not_eq_true', inR] at *); (repeat' apply And.intro) <;> (intros; omega)), hR, hs.le (T := ⟨[(0, .int .i64 (v1.1.tdiv 2)), (1, .int .i64 (v1.2 - 1)), (4, .vp 4 0), (5, .bool false)], [(4, .var [.int .i64 0, .int .i64 0])], [4]⟩) [(4, some 4)] (vcs := [(v1.1.tdiv 2 : Int) = (v1.1.tdiv 2), (v1.2 - 1 : Int) = (v1.2 - 1), false = false, (0 : Int) = 0, (0 : Int) = 0]) (by kernel_rfl) ⟨by first | rfl | omega | (simp; done), by first | rfl | omega | (simp; done), rfl, by first | rfl | omega | (simp; done), by first | rfl | omega | (simp; done), trivial⟩⟩
  ·
    replace hR := cf hR hc1
    refine W.exit 0 (by kernel_rfl) rfl ?_
    refine W.linK hs 1 [] [4, 5, 6] [4, 6] (s2 := ⟨[(4, .vp 4 0), (5, .bool false), (6, .vp 6 0)], [(4, .var [.int .i64 0, .int .i64 0]), (6, .var [.int .i64 v1.1, .int .i64 v1.2])], [6, 4]⟩) (vcs := []) (by kernel_rfl) trivial ?_
    clear hs; intro a w hs
    refine W.seq (by kernel_rfl) ?_
    refine W.drawK hs (by kernel_rfl) (by kernel_rfl) [(2, .res (.bool (isDyad (Dyad.mk v1.1 v1.2))) [])] [4, 5] [4] (s2 := ⟨[(4, .vp 4 0), (5, .bool (isDyad (Dyad.mk v1.1 v1.2)))], [(4, .var [.int .i64 v1.1, .int .i64 v1.2])], [6, 4]⟩) (vcs := [Lite.Fn Try.prog 64 [.agg [.int .i64 v1.1, .int .i64 v1.2]] (.bool (isDyad (Dyad.mk v1.1 v1.2))) []]) (by kernel_rfl) ⟨ok_impl_isDyad (Dyad.mk v1.1 v1.2), trivial⟩ ?_
    clear hs; intro a w hs
    refine W.ret (by kernel_rfl) ?_
    subst hR
    exact ret_ok hs [] (vcs := [(v1.1 : Int) = ((((Dyad.mk v1.1 v1.2), isDyad (Dyad.mk v1.1 v1.2)).1).num), (v1.2 : Int) = ((((Dyad.mk v1.1 v1.2), isDyad (Dyad.mk v1.1 v1.2)).1).exp), (isDyad (Dyad.mk v1.1 v1.2)) = (((Dyad.mk v1.1 v1.2), isDyad (Dyad.mk v1.1 v1.2)).2), Frs (.tup [.agg [.int .i64 ((((Dyad.mk v1.1 v1.2), isDyad (Dyad.mk v1.1 v1.2)).1).num), .int .i64 ((((Dyad.mk v1.1 v1.2), isDyad (Dyad.mk v1.1 v1.2)).1).exp)], .bool (((Dyad.mk v1.1 v1.2), isDyad (Dyad.mk v1.1 v1.2)).2)])]) (by kernel_rfl) ⟨by first | rfl | omega | (simp; done), by first | rfl | omega | (simp; done), rfl, by simp [Frs, FrsL], trivial⟩
theorem ok_impl_dyadOf (x0 : Int) (x1 : Int) (hn : 0 ≤ x0 ∧ x0 ≤ 4398046511104) (he : 0 ≤ x1 ∧ x1 ≤ 100) : Lite.Fn Try.prog 56 [.int .i64 x0, .int .i64 x1] (.tup [.agg [.int .i64 (((dyadOf x0 x1).1).num), .int .i64 (((dyadOf x0 x1).1).exp)], .bool ((dyadOf x0 x1).2)]) [] := aux_impl_dyadOf x0 x1 hn he _ rfl
def wholeDyad (x0 : Int) : Dyad := ((dyadOf x0 40).1)
theorem aux_impl_wholeDyad (x0 : Int) (hn : 0 ≤ x0 ∧ x0 ≤ 4398046511104) (R : Dyad) (hR : wholeDyad x0 = R) : Lite.Fn Try.prog 38 [.int .i64 x0] (.agg [.int .i64 R.num, .int .i64 R.exp]) [] := by
  refine Lite.Fn.intro 11 Try.func38 (by kernel_rfl) (by kernel_rfl) (by kernel_rfl) fun w0 a w hs => ?_
  refine W.linK hs 3 [(1001, .res (.tup [.agg [.int .i64 (((dyadOf x0 40).1).num), .int .i64 (((dyadOf x0 40).1).exp)], .bool ((dyadOf x0 40).2)]) [])] [2] [2] (s2 := ⟨[(2, .vp 2 0)], [(2, .var [.int .i64 (((dyadOf x0 40).1).num), .int .i64 (((dyadOf x0 40).1).exp)])], [3, 2]⟩) (vcs := [Lite.Fn Try.prog 56 [.int .i64 x0, .int .i64 40] (.tup [.agg [.int .i64 (((dyadOf x0 40).1).num), .int .i64 (((dyadOf x0 40).1).exp)], .bool ((dyadOf x0 40).2)]) []]) (by kernel_rfl) ⟨ok_impl_dyadOf x0 40 (by trivial) (by trivial), trivial⟩ ?_
  clear hs; intro a w hs
  refine W.ret (by kernel_rfl) ?_
  subst hR
  exact ret_ok hs [] (vcs := [(((dyadOf x0 40).1).num : Int) = (((dyadOf x0 40).1).num), (((dyadOf x0 40).1).exp : Int) = (((dyadOf x0 40).1).exp), Frs (.agg [.int .i64 (((dyadOf x0 40).1).num), .int .i64 (((dyadOf x0 40).1).exp)])]) (by kernel_rfl) ⟨by first | rfl | omega | (simp; done), by first | rfl | omega | (simp; done), by simp [Frs, FrsL], trivial⟩
theorem ok_impl_wholeDyad (x0 : Int) (hn : 0 ≤ x0 ∧ x0 ≤ 4398046511104) : Lite.Fn Try.prog 38 [.int .i64 x0] (.agg [.int .i64 ((wholeDyad x0).num), .int .i64 ((wholeDyad x0).exp)]) [] := aux_impl_wholeDyad x0 hn _ rfl
end Go.Proofs.Ytanpfncfphpddaa
