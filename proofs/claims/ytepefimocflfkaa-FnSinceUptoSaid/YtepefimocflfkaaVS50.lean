import Derived.Test.YtepefimocflfkaaV47
set_option maxHeartbeats 4000000
set_option linter.unusedSimpArgs false
set_option linter.unusedVariables false
namespace Go.Proofs.Ytepefimocflfkaa
open Go Go.Lite Go.Proofs
def C57 (R : Bool) : LV × List (Nat × BC) := (.bool R, [])
def implAlive (x0 : Family) (x1 : Int) (x2 : Int) : Bool := (decide (((x0.people.getD x1.toNat default).born) ≤ x2)) && ((decide (((x0.people.getD x1.toNat default).died) = (-1))) || (decide (x2 < ((x0.people.getD x1.toNat default).died))))
def A57 (x0 : Family) (x1 : Int) (x2 : Int) : Ann := .reg 3 [] [] [6] [] [decide (((x0.people.getD x1.toNat default).born) ≤ x2), (decide (((x0.people.getD x1.toNat default).born) ≤ x2)) && (!(decide (((x0.people.getD x1.toNat default).died) = (-1))))] [pf (0 ≤ (x1 : Int) ∧ (x1 : Int) < ((x0.people.length : Nat) : Int)), gt (decide (((x0.people.getD x1.toNat default).born) ≤ x2)) (gf (decide (((x0.people.getD x1.toNat default).died) = (-1))) (pf (((decide (((x0.people.getD x1.toNat default).born) ≤ x2)) && (!(decide (((x0.people.getD x1.toNat default).died) = (-1))))) = true)))] [] [0, 1, 1, 1, 5, 5, 5, 1, 4, 1] (rt [] (C57 ((decide (((x0.people.getD x1.toNat default).born) ≤ x2)) && ((decide (((x0.people.getD x1.toNat default).died) = (-1))) || (decide (x2 < ((x0.people.getD x1.toNat default).died)))))))
theorem ok_impl_isAlive (x0 : Family) (x1 : Int) (x2 : Int) (hx : x0.people.length ≤ 1048576) (h1 : 0 ≤ x1 ∧ x1 < x0.people.length) : FnT Try.prog 57 [.agg (cFamily false x0), .int .i64 x1, .int .i64 x2] (C57 (implAlive x0 x1 x2)) := by
  have aux : ∀ R, implAlive x0 x1 x2 = R → slim (C57 R) (A57 x0 x1 x2) [] := by
    intro R hR
    refine rg ⟨by trivial, by ((try clear hR); intros; (try simp only [decide_eq_true_eq, decide_eq_false_iff_not, Bool.or_eq_true, Bool.and_eq_true, or_f_iff, not_f_iff, not_t_iff, Bool.not_eq_true', inR] at *); (repeat' apply And.intro) <;> (intros; omega)), trivial⟩ ?_
    exact congrArg C57 hR
  exact Fn.go 28 Try.func57 (by kernel_rfl) (by kernel_rfl) (by simp [C57, Frs, FrsL]) (A57 x0 x1 x2) (by kernel_rfl) (aux _ rfl)
def k57 (x0 : Family) (x1 : Int) (x2 : Int) : Cl := (hres (C57 (implAlive x0 x1 x2)), k2 (ok_impl_isAlive x0 x1 x2))
def l1Alive (x0 : Family) (x1 : Int) (x2 : Int) : Bool := (decide (((x0.people.getD x1.toNat default).born) ≤ x2)) && ((decide (((x0.people.getD x1.toNat default).died) = (-1))) || (decide (x2 < ((x0.people.getD x1.toNat default).died))))
theorem at_mod {b : List Int} (hb : ∀ y ∈ b, 0 ≤ y ∧ y ≤ 255) {i : Int} (hi : 0 ≤ i) (n : Int) (hn : 0 < n) : 0 ≤ (at1 b i).tmod n ∧ (at1 b i).tmod n < n := by
  rw [Int.tmod_eq_emod_of_nonneg (at1_rng hb hi).1]
  exact ⟨Int.emod_nonneg _ (by omega), Int.emod_lt_of_pos _ hn⟩
theorem year_idx {b : List Int} (hb : ∀ y ∈ b, 0 ≤ y ∧ y ≤ 255) {i : Int} (hi : 0 ≤ i) {x : Family} (hf : specIsFamily x = true) (hn : 0 < x.people.length) : (0 ≤ (at1 b i).tmod (x.people.length : Int) ∧ (at1 b i).tmod (x.people.length : Int) < (x.people.length : Int)) ∧ (0 ≤ (x.people.getD ((at1 b i).tmod (x.people.length : Int)).toNat default).born ∧ (x.people.getD ((at1 b i).tmod (x.people.length : Int)).toNat default).born ≤ 9999) ∧ ((x.people.getD ((at1 b i).tmod (x.people.length : Int)).toNat default).died ≤ 9999) := by
  have h9 : 0 ≤ (at1 b i).tmod (x.people.length : Int) ∧ (at1 b i).tmod (x.people.length : Int) < (x.people.length : Int) := at_mod hb hi _ (by omega)
  have h7 := fam_p hf (k := ((at1 b i).tmod (x.people.length : Int)).toNat) (by omega)
  have h6 := h7.born; have h5 := h7.died
  exact ⟨h9, h6, by omega⟩
theorem four_rng {i : Nat} (h : i < 4) : 0 ≤ ([0, 1, 20, 45] : List Int).getD i default ∧ ([0, 1, 20, 45] : List Int).getD i default ≤ 45 := by
  match i, h with
  | 0, _ => decide
  | 1, _ => decide
  | 2, _ => decide
  | 3, _ => decide
def C13 (R : Int) : LV × List (Nat × BC) := (.int .i64 R, [])
def lawYear (x0 : List Int) (x1 : Int) (x2 : Family) : Int := bif ((decide (0 ≤ ((x2.people.getD (((at1 x0 x1).tmod ((x2.people.length : Nat) : Int)).toNat) default).died))) && (decide (((at1 x0 (x1 + 1)).tmod 2) = 0))) then ((((x2.people.getD (((at1 x0 x1).tmod ((x2.people.length : Nat) : Int)).toNat) default).died) + ((at1 x0 (x1 + 2)).tmod 3)) - 1) else (((x2.people.getD (((at1 x0 x1).tmod ((x2.people.length : Nat) : Int)).toNat) default).born) + ([0, 1, 20, 45].getD (((at1 x0 (x1 + 1)).tmod 4).toNat) default))
def A13 (x0 : List Int) (x1 : Int) (x2 : Family) : Ann := .reg 2 [] [(1004, k16 x0 x1)] [0, 1, 6, 7] [7] [] [pf ((((x2.people.length : Nat) : Int) : Int) ≠ 0), pf (0 ≤ ((at1 x0 x1).tmod ((x2.people.length : Nat) : Int) : Int) ∧ ((at1 x0 x1).tmod ((x2.people.length : Nat) : Int) : Int) < ((x2.people.length : Nat) : Int))] [] [8, 0, 4] (.reg 1 [] [(7, cg (decide (0 ≤ ((x2.people.getD (((at1 x0 x1).tmod ((x2.people.length : Nat) : Int)).toNat) default).died))) (k16 x0 (x1 + 1)))] [0, 1, 6, 7, 29] [7] [decide (0 ≤ ((x2.people.getD (((at1 x0 x1).tmod ((x2.people.length : Nat) : Int)).toNat) default).died))] [gt (decide (0 ≤ ((x2.people.getD (((at1 x0 x1).tmod ((x2.people.length : Nat) : Int)).toNat) default).died))) (pf (inR .i64 (x1 + 1))), gt (decide (0 ≤ ((x2.people.getD (((at1 x0 x1).tmod ((x2.people.length : Nat) : Int)).toNat) default).died))) (pf ((2 : Int) ≠ 0))] [] [1, 0, 1, 1, 8, 1, 4, 1, 1] (cn ((decide (0 ≤ ((x2.people.getD (((at1 x0 x1).tmod ((x2.people.length : Nat) : Int)).toNat) default).died))) && (decide (((at1 x0 (x1 + 1)).tmod 2) = 0))) (.reg 1 [] [(5, k16 x0 (x1 + 2))] [0, 1, 6, 7] [7] [] [pf (inR .i64 (x1 + 2)), pf ((3 : Int) ≠ 0), pf (inR .i64 (((x2.people.getD (((at1 x0 x1).tmod ((x2.people.length : Nat) : Int)).toNat) default).died) + ((at1 x0 (x1 + 2)).tmod 3))), pf (inR .i64 ((((x2.people.getD (((at1 x0 x1).tmod ((x2.people.length : Nat) : Int)).toNat) default).died) + ((at1 x0 (x1 + 2)).tmod 3)) - 1))] [] [0, 16, 4, 8, 12] (rt [] (C13 ((((x2.people.getD (((at1 x0 x1).tmod ((x2.people.length : Nat) : Int)).toNat) default).died) + ((at1 x0 (x1 + 2)).tmod 3)) - 1)))) (.reg 1 [] [(2, bsC 41 (cInt .i64) ([0, 1, 20, 45] : List Int)), (6, k16 x0 (x1 + 1))] [6] [] [] [pf (inR .i64 (x1 + 1)), pf ((4 : Int) ≠ 0), pf (0 ≤ ((at1 x0 (x1 + 1)).tmod 4 : Int) ∧ ((at1 x0 (x1 + 1)).tmod 4 : Int) < ((4 : Nat) : Int)), pf (inR .i64 (((x2.people.getD (((at1 x0 x1).tmod ((x2.people.length : Nat) : Int)).toNat) default).born) + ([0, 1, 20, 45].getD (((at1 x0 (x1 + 1)).tmod 4).toNat) default)))] [] [16, 0, 20, 4, 8, 12] (rt [] (C13 (((x2.people.getD (((at1 x0 x1).tmod ((x2.people.length : Nat) : Int)).toNat) default).born) + ([0, 1, 20, 45].getD (((at1 x0 (x1 + 1)).tmod 4).toNat) default)))))))
theorem ok_laws_year (x0 : List Int) (x1 : Int) (x2 : Family) (hx : x0.length ≤ 1048576) (hb : ∀ y ∈ x0, 0 ≤ y ∧ y ≤ 255) (hi : 0 ≤ x1 ∧ x1 ≤ 900) (hf : specIsFamily x2 = true) (hn : 0 < x2.people.length) : FnT Try.prog 13 [.ro false 1 x0.length (rowOf (cInt .u8) x0), .int .i64 x1, .agg (cFamily false x2)] (C13 (lawYear x0 x1 x2)) := by
  have aux : ∀ R, lawYear x0 x1 x2 = R → slim (C13 R) (A13 x0 x1 x2) [] := by
    intro R hR
    refine rg ⟨by (intros; omega), by (have h9 := year_idx hb hi.1 hf hn; (try simp only [inR]); omega), ⟨by with_reducible assumption, by with_reducible assumption, by (intros; omega)⟩, trivial⟩ ?_
    refine rg ⟨by (have h9 := year_idx hb hi.1 hf hn; (try simp only [inR]); omega), by (intros; omega), fun hg0 => ⟨by with_reducible assumption, by with_reducible assumption, by (intros; omega)⟩, trivial⟩ ?_
    revert hR; refine cd (fun hc1 hR => ?_) fun hc1 hR => ?_
    ·
      refine rg ⟨by (have h9 := year_idx hb hi.1 hf hn; (try simp only [inR]); omega), by (intros; omega), by ((try clear hR); intros; (try simp only [decide_eq_true_eq, decide_eq_false_iff_not, Bool.or_eq_true, Bool.and_eq_true, or_f_iff, not_f_iff, not_t_iff, Bool.not_eq_true', inR] at *); (repeat' apply And.intro) <;> (have h9 := year_idx hb hi.1 hf hn; have h8 := at_mod hb (i := x1 + 2) (by omega) 3 (by omega); intros; (try simp only [inR, decide_eq_true_eq] at *); omega)), by ((try clear hR); intros; (try simp only [decide_eq_true_eq, decide_eq_false_iff_not, Bool.or_eq_true, Bool.and_eq_true, or_f_iff, not_f_iff, not_t_iff, Bool.not_eq_true', inR] at *); (repeat' apply And.intro) <;> (have h9 := year_idx hb hi.1 hf hn; have h8 := at_mod hb (i := x1 + 2) (by omega) 3 (by omega); intros; (try simp only [inR, decide_eq_true_eq] at *); omega)), ⟨by with_reducible assumption, by with_reducible assumption, by (intros; omega)⟩, trivial⟩ ?_
      exact congrArg C13 hR
    ·
      refine rg ⟨by (have h9 := year_idx hb hi.1 hf hn; (try simp only [inR]); omega), by (intros; omega), by (have h9 := year_idx hb hi.1 hf hn; have h8 := at_mod hb (i := x1 + 1) (by omega) 4 (by omega); (try simp only [inR, List.length_cons, List.length_nil]); omega), by (have h9 := year_idx hb hi.1 hf hn; have h8 := at_mod hb (i := x1 + 1) (by omega) 4 (by omega); have h7 := four_rng (i := ((at1 x0 (x1 + 1)).tmod 4).toNat) (by omega); (try simp only [inR]); omega), trivial, ⟨by with_reducible assumption, by with_reducible assumption, by (intros; omega)⟩, trivial⟩ ?_
      exact congrArg C13 hR
  exact Fn.go 50 Try.func13 (by kernel_rfl) (by kernel_rfl) (by simp [C13, Frs, FrsL]) (A13 x0 x1 x2) (by kernel_rfl) (aux _ rfl)
def k13 (x0 : List Int) (x1 : Int) (x2 : Family) : Cl := (hres (C13 (lawYear x0 x1 x2)), k5 (ok_laws_year x0 x1 x2))
def C18 (R : Bool) : LV × List (Nat × BC) := (.bool R, [])
def lawInts (x0 : List Int) (x1 : List Int) : Bool := bif (!decide (((x0.length : Nat) : Int) = ((x1.length : Nat) : Int))) then false else (loopN (fun i1 (v1 : Unit) next => bif (!decide ((x0.getD i1 default) = (x1.getD i1 default))) then false else (next ())) (fun (v1 : Unit) => true) x0.length 0 ())
def D18b1 (x0 : List Int) (x1 : List Int) (i1 : Nat) (v1 : Unit) : Dl := ⟨[(13, .int .i64 ((i1 : Nat) : Int))], []⟩
def A18b1 (x0 : List Int) (x1 : List Int) (i1 : Nat) (v1 : Unit) : Ann := r0 1 [0, 1, 4, 12, 13, 14] [] (cn (decide (((i1 : Nat) : Int) < ((x0.length : Nat) : Int))) (r1 2 [0, 1, 4, 12, 13, 24] [] [pf (0 ≤ (((i1 : Nat) : Int) : Int) ∧ (((i1 : Nat) : Int) : Int) < ((x0.length : Nat) : Int)), pf (0 ≤ (((i1 : Nat) : Int) : Int) ∧ (((i1 : Nat) : Int) : Int) < ((x1.length : Nat) : Int))] [0, 4] (cn (!decide ((x0.getD i1 default) = (x1.getD i1 default))) (r0 1 [0, 1, 4, 12, 13] [] (rt [] (C18 false))) (r1 1 [0, 1, 4, 12, 13] [] [pf (inR .i64 (((i1 : Nat) : Int) + 1))] [0] (.next 0 [] (D18b1 x0 x1 (i1 + 1) ()))))) (r0 1 [4] [] (rt [] (C18 true))))
def A18 (x0 : List Int) (x1 : List Int) : Ann := r0 1 [0, 1, 4] [] (r0 1 [0, 1, 4, 10] [] (cn (!decide (((x0.length : Nat) : Int) = ((x1.length : Nat) : Int))) (r0 1 [0, 1, 4] [] (rt [] (C18 false))) (r0 1 [0, 1, 4, 12, 13] [] (lp (D18b1 x0 x1) [] [] [] (D18b1 x0 x1 0 ()) (A18b1 x0 x1)))))
theorem ok_laws_ints (x0 : List Int) (x1 : List Int) (hx : x0.length ≤ 1048576) : FnT Try.prog 18 [.ro false 1 x0.length (rowOf (cInt .i64) x0), .ro false 1 x1.length (rowOf (cInt .i64) x1)] (C18 (lawInts x0 x1)) := by
  have aux : ∀ R, lawInts x0 x1 = R → slim (C18 R) (A18 x0 x1) [] := by
    intro R hR
    refine rg trivial ?_
    refine rg trivial ?_
    revert hR; refine cd (fun hc1 hR => ?_) fun hc1 hR => ?_
    ·
      refine rg trivial ?_
      exact congrArg C18 hR
    ·
      refine rg trivial ?_
      revert hR; refine lN (fun i v => True) (by trivial) rfl fun i1 v1 F1 hn1 hI1 hR hK1 => ?_
      refine rg trivial ?_
      refine ⟨fun hc2 => ?_, fun hc2 => ?_⟩
      · have hii1 : i1 < x0.length := by have := of_decide_eq_true hc2; omega
        replace hR := loopN_step hR hii1
        refine rg ⟨by (intros; omega), by ((try clear hR hK1); intros; (try simp only [decide_eq_true_eq, decide_eq_false_iff_not, Bool.or_eq_true, Bool.and_eq_true, or_f_iff, not_f_iff, not_t_iff, Bool.not_eq_true', inR] at *); (repeat' apply And.intro) <;> (intros; omega)), trivial⟩ ?_
        revert hR; refine cd (fun hc3 hR => ?_) fun hc3 hR => ?_
        ·
          refine rg trivial ?_
          exact congrArg C18 hR
        ·
          refine rg ⟨by ( intros; simp only [inR]; omega), trivial⟩ ?_
          exact hK1 () hii1 (by trivial) hR
      · obtain rfl : i1 = x0.length := by have := of_decide_eq_false hc2; omega
        replace hR := loopN_end hR (Nat.lt_irrefl _)
        refine rg trivial ?_
        exact congrArg C18 hR
  exact Fn.go 26 Try.func18 (by kernel_rfl) (by kernel_rfl) (by simp [C18, Frs, FrsL]) (A18 x0 x1) (by kernel_rfl) (aux _ rfl)
def k18 (x0 : List Int) (x1 : List Int) : Cl := (hres (C18 (lawInts x0 x1)), k1 (ok_laws_ints x0 x1))
theorem wrap_u8 (n : Int) : 0 ≤ IntKind.wrap .u8 n ∧ IntKind.wrap .u8 n ≤ 255 := by
  simp only [IntKind.wrap, IntKind.signed, IntKind.bits]
  simp
  omega
theorem fresh1 (x : Int) : ∀ y ∈ [IntKind.wrap .u8 x], 0 ≤ y ∧ y ≤ 255 := fun y hy => by rw [List.mem_singleton.1 hy]; exact wrap_u8 x
theorem fresh2 {l : List Int} (h : ∀ y ∈ l, 0 ≤ y ∧ y ≤ 255) (x : Int) : ∀ y ∈ l ++ [IntKind.wrap .u8 x], 0 ≤ y ∧ y ≤ 255 := fun y hy => by
  rcases List.mem_append.1 hy with hy | hy
  · exact h y hy
  · exact fresh1 x y hy
def C12 (R : (List Int)) : LV × List (Nat × BC) := (.own 0, [(0, .arr 1 R.length (rowOf (cInt .u8) R))])
def lawFresh (x0 : List Int) (x1 : Int) : (List Int) := loopW (fun (v1 : (List Int) × Int) next => bif ((decide (v1.2 < ((x0.length : Nat) : Int))) && (decide (v1.2 < 600))) then (next ((v1.1 ++ [IntKind.wrap .u8 (((IntKind.wrap .i64 (x0.getD v1.2.toNat default)) * 3) + (x1 * ((v1.2.tmod 7) + 1)))]), v1.2 + 1)) else v1.1) ((600 - (0 : Int)).toNat + 1) ([IntKind.wrap .u8 x1], 0)
def D12b1 (x0 : List Int) (x1 : Int) (v1 : (List Int) × Int) : Dl := ⟨[(5, .own 20005), (6, .int .i64 v1.2)], [(20005, .arr 1 v1.1.length (rowOf (cInt .u8) v1.1))]⟩
def A12b1 (x0 : List Int) (x1 : Int) (v1 : (List Int) × Int) : Ann := .reg 1 [] [] [0, 1, 4, 5, 6, 17] [20005] [decide (v1.2 < ((x0.length : Nat) : Int))] [] [] [1, 1] (cn ((decide (v1.2 < ((x0.length : Nat) : Int))) && (decide (v1.2 < 600))) (.reg 1 [(5, .wrap), (13, .wrap)] [(14, bsC 34 (cInt .u8) ([IntKind.wrap .u8 (((IntKind.wrap .i64 (x0.getD v1.2.toNat default)) * 3) + (x1 * ((v1.2.tmod 7) + 1)))] : List Int)), (15, ap1 35 (cInt .u8) 1 v1.1 (IntKind.wrap .u8 (((IntKind.wrap .i64 (x0.getD v1.2.toNat default)) * 3) + (x1 * ((v1.2.tmod 7) + 1)))))] [0, 1, 4, 5, 6] [35] [] [pf (0 ≤ (v1.2 : Int) ∧ (v1.2 : Int) < ((x0.length : Nat) : Int)), pf (inR .i64 ((IntKind.wrap .i64 (x0.getD v1.2.toNat default)) * 3)), pf ((7 : Int) ≠ 0), pf (inR .i64 ((v1.2.tmod 7) + 1)), pf (inR .i64 (x1 * ((v1.2.tmod 7) + 1))), pf (inR .i64 (((IntKind.wrap .i64 (x0.getD v1.2.toNat default)) * 3) + (x1 * ((v1.2.tmod 7) + 1))))] [] [0, 4, 8, 12, 16, 20, 24, 28] (r1 1 [0, 1, 4, 5, 6] [35] [pf (inR .i64 (v1.2 + 1))] [0] (.next 0 [(20005, some 35)] (D12b1 x0 x1 ((v1.1 ++ [IntKind.wrap .u8 (((IntKind.wrap .i64 (x0.getD v1.2.toNat default)) * 3) + (x1 * ((v1.2.tmod 7) + 1)))]), v1.2 + 1))))) (r0 1 [4] [20005] (rt [(0, some 20005)] (C12 v1.1))))
def A12 (x0 : List Int) (x1 : Int) : Ann := .reg 2 [(1001, .wrap)] [(1002, bsC 9 (cInt .u8) ([IntKind.wrap .u8 x1] : List Int))] [0, 1, 4, 5] [9] [] [] [] [0] (r0 1 [0, 1, 4, 5, 6] [9] (.loop ((List Int) × Int) (D12b1 x0 x1) [] [9] [(20005, some 9)] (D12b1 x0 x1 ([IntKind.wrap .u8 x1], 0)) (A12b1 x0 x1)))
theorem fresh_ok (b : List Int) (s : Int) : (lawFresh b s).length ≤ 1048576 ∧ ∀ y ∈ lawFresh b s, 0 ≤ y ∧ y ≤ 255 := by
  unfold lawFresh
  refine loopW_to (fun (v : (List Int) × Int) => (0 ≤ v.2 ∧ v.2 ≤ 600 ∧ v.1.length = v.2.toNat + 1) ∧ ∀ y ∈ v.1, 0 ≤ y ∧ y ≤ 255) (fun v => (600 - v.2).toNat) (fun (r : List Int) => r.length ≤ 1048576 ∧ ∀ y ∈ r, 0 ≤ y ∧ y ≤ 255) (fun v next hv hn => ?_) _ _ (Nat.lt_succ_self _) ⟨by simp, fresh1 s⟩
  refine cond_both (p := fun (r : List Int) => r.length ≤ 1048576 ∧ ∀ y ∈ r, 0 ≤ y ∧ y ≤ 255) (fun c => ?_) (fun _ => ⟨by omega, hv.2⟩)
  simp only [Bool.and_eq_true, decide_eq_true_eq] at c
  exact hn _ ⟨by simp only [List.length_append, List.length_singleton]; omega, fresh2 hv.2 _⟩ (by dsimp only; omega)
theorem ok_laws_fresh (x0 : List Int) (x1 : Int) (hx : x0.length ≤ 1048576) (hb : ∀ y ∈ x0, 0 ≤ y ∧ y ≤ 255) (hs : 0 ≤ x1 ∧ x1 ≤ 255) : FnT Try.prog 12 [.ro false 1 x0.length (rowOf (cInt .u8) x0), .int .i64 x1] (C12 (lawFresh x0 x1)) := by
  have aux : ∀ R, lawFresh x0 x1 = R → slim (C12 R) (A12 x0 x1) [] := by
    intro R hR
    refine rg ⟨trivial, trivial⟩ ?_
    refine rg trivial ?_
    revert hR; refine lW (fun v => (0 ≤ v.2 ∧ v.2 ≤ 600 ∧ v.1.length = v.2.toNat + 1) ∧ ∀ y ∈ v.1, 0 ≤ y ∧ y ≤ 255) (fun v => (600 - (v.2 : Int)).toNat) (by (exact ⟨by simp, fresh1 x1⟩)) (Nat.lt_succ_self _) rfl fun m1 v1 F1 hI1 hM1 hR hK1 => ?_
    refine rg trivial ?_
    revert hR; refine cd (fun hc1 hR => ?_) fun hc1 hR => ?_
    ·
      refine rg ⟨by (simp only [Bool.and_eq_true, decide_eq_true_eq] at hc1; (try dsimp only); (try simp only [inR]); omega), by (simp only [Bool.and_eq_true, decide_eq_true_eq] at hc1; have h9 := getD_byte hb v1.2.toNat; have h8 : (v1.2).tmod 7 = v1.2 % 7 := Int.tmod_eq_emod_of_nonneg (by omega); have h7 := wrap_small (n := x0.getD v1.2.toNat default) (by omega); have h6 : 0 ≤ x1 * (v1.2 % 7 + 1) ∧ x1 * (v1.2 % 7 + 1) ≤ 255 * 7 := ⟨Int.mul_nonneg (by omega) (by omega), Int.mul_le_mul (by omega) (by omega) (by omega) (by omega)⟩; (first | rw [h7, h8] | rw [h7] | rw [h8]); simp only [inR]; omega), by (intros; omega), by (simp only [Bool.and_eq_true, decide_eq_true_eq] at hc1; have h9 := getD_byte hb v1.2.toNat; have h8 : (v1.2).tmod 7 = v1.2 % 7 := Int.tmod_eq_emod_of_nonneg (by omega); have h7 := wrap_small (n := x0.getD v1.2.toNat default) (by omega); have h6 : 0 ≤ x1 * (v1.2 % 7 + 1) ∧ x1 * (v1.2 % 7 + 1) ≤ 255 * 7 := ⟨Int.mul_nonneg (by omega) (by omega), Int.mul_le_mul (by omega) (by omega) (by omega) (by omega)⟩; (first | rw [h7, h8] | rw [h7] | rw [h8]); simp only [inR]; omega), by (simp only [Bool.and_eq_true, decide_eq_true_eq] at hc1; have h9 := getD_byte hb v1.2.toNat; have h8 : (v1.2).tmod 7 = v1.2 % 7 := Int.tmod_eq_emod_of_nonneg (by omega); have h7 := wrap_small (n := x0.getD v1.2.toNat default) (by omega); have h6 : 0 ≤ x1 * (v1.2 % 7 + 1) ∧ x1 * (v1.2 % 7 + 1) ≤ 255 * 7 := ⟨Int.mul_nonneg (by omega) (by omega), Int.mul_le_mul (by omega) (by omega) (by omega) (by omega)⟩; (first | rw [h7, h8] | rw [h7] | rw [h8]); simp only [inR]; omega), by (simp only [Bool.and_eq_true, decide_eq_true_eq] at hc1; have h9 := getD_byte hb v1.2.toNat; have h8 : (v1.2).tmod 7 = v1.2 % 7 := Int.tmod_eq_emod_of_nonneg (by omega); have h7 := wrap_small (n := x0.getD v1.2.toNat default) (by omega); have h6 : 0 ≤ x1 * (v1.2 % 7 + 1) ∧ x1 * (v1.2 % 7 + 1) ≤ 255 * 7 := ⟨Int.mul_nonneg (by omega) (by omega), Int.mul_le_mul (by omega) (by omega) (by omega) (by omega)⟩; (first | rw [h7, h8] | rw [h7] | rw [h8]); simp only [inR]; omega), trivial, by omega, trivial⟩ ?_
      refine rg ⟨by (simp only [Bool.and_eq_true, decide_eq_true_eq] at hc1; (try dsimp only); (try simp only [inR]); omega), trivial⟩ ?_
      exact hK1 ((v1.1 ++ [IntKind.wrap .u8 (((IntKind.wrap .i64 (x0.getD v1.2.toNat default)) * 3) + (x1 * ((v1.2.tmod 7) + 1)))]), v1.2 + 1) (by (simp only [Bool.and_eq_true, decide_eq_true_eq] at hc1; dsimp only; exact ⟨by simp only [List.length_append, List.length_singleton]; omega, fresh2 hI1.2 _⟩)) (by (simp only [Bool.and_eq_true, decide_eq_true_eq] at hc1; (try dsimp only); (try simp only [inR]); omega)) hR
    ·
      refine rg trivial ?_
      exact congrArg C12 hR
  exact Fn.go 37 Try.func12 (by kernel_rfl) (by kernel_rfl) (by simp [C12, Frs, FrsL, FrsB, rowOf, cInt, cBool, cStr, cSl, FrsL_app, cPerson, cUnion, cFamily, cLaw, cl01Cur]) (A12 x0 x1) (by kernel_rfl) (aux _ rfl)
def k12 (x0 : List Int) (x1 : Int) : Cl := (hres (C12 (lawFresh x0 x1)), k3 (ok_laws_fresh x0 x1))
end Go.Proofs.Ytepefimocflfkaa
