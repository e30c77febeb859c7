import Derived.Test.YtepefimocflfkaaM22
set_option maxHeartbeats 4000000
set_option linter.unusedSimpArgs false
set_option linter.unusedVariables false
namespace Go.Proofs.Ytepefimocflfkaa
open Go Go.Lite Go.Proofs
structure Law where
  degree : Int
  canon : Int
  affinity : Int
  age : Int
  wives : Int
  husbands : Int
  patriline : Bool
  matriline : Bool
  deriving Inhabited
def cLaw (fr : Bool) (x : Law) : List LV := cInt .i64 x.degree ++ cInt .i64 x.canon ++ cInt .i64 x.affinity ++ cInt .i64 x.age ++ cInt .i64 x.wives ++ cInt .i64 x.husbands ++ cBool x.patriline ++ cBool x.matriline

def C105 (R : Int) : LV × List (Nat × BC) := (.int .i64 R, [])
def other (x0 : Union) (x1 : Int) : Int := bif (decide (x1 = x0.man)) then x0.woman else (bif (decide (x1 = x0.woman)) then x0.man else (-1))
def A105 (x0 : Union) (x1 : Int) : Ann := r0 1 [1, 2, 4] [2] (r0 1 [2, 4, 5] [2] (r0 1 [2, 4, 5, 6] [2] (cn (decide (x1 = x0.man)) (r0 1 [4] [] (rt [] (C105 x0.woman))) (r0 1 [2, 4, 12] [2] (cn (decide (x1 = x0.woman)) (r0 1 [4] [] (rt [] (C105 x0.man))) (r0 1 [4] [] (rt [] (C105 (-1)))))))))
theorem other_rng (u : Union) (p : Int) : other u p = u.man ∨ other u p = u.woman ∨ other u p = -1 := by
  unfold other
  refine cond_both (p := fun (r : Int) => r = u.man ∨ r = u.woman ∨ r = -1) (fun _ => .inr (.inl rfl)) (fun _ => ?_)
  exact cond_both (p := fun (r : Int) => r = u.man ∨ r = u.woman ∨ r = -1) (fun _ => .inl rfl) (fun _ => .inr (.inr rfl))
theorem ok_impl_other (x0 : Union) (x1 : Int) : FnT Try.prog 105 [.agg (cUnion false x0), .int .i64 x1] (C105 (other x0 x1)) := by
  have aux : ∀ R, other x0 x1 = R → slim (C105 R) (A105 x0 x1) [] := by
    intro R hR
    refine rg trivial ?_
    refine rg trivial ?_
    refine rg trivial ?_
    revert hR; refine cd (fun hc1 hR => ?_) fun hc1 hR => ?_
    ·
      refine rg trivial ?_
      exact congrArg C105 hR
    ·
      refine rg trivial ?_
      revert hR; refine cd (fun hc2 hR => ?_) fun hc2 hR => ?_
      ·
        refine rg trivial ?_
        exact congrArg C105 hR
      ·
        refine rg trivial ?_
        exact congrArg C105 hR
  exact Fn.go 18 Try.func105 (by kernel_rfl) (by kernel_rfl) (by simp [C105, Frs, FrsL]) (A105 x0 x1) (by kernel_rfl) (aux _ rfl)
def k105 (x0 : Union) (x1 : Int) : Cl := (hres (C105 (other x0 x1)), k0 (ok_impl_other x0 x1))
def C163 (R : Int × Bool) : LV × List (Nat × BC) := (.tup [.int .i64 R.1, .bool R.2], [])
def l1Other (x0 : Union) (x1 : Int) : Int × Bool := bif (decide (x0.man = x1)) then (x0.woman, true) else (x0.man, decide (x0.woman = x1))
def A163 (x0 : Union) (x1 : Int) : Ann := r0 1 [1, 2, 4, 5] [2] (r0 1 [1, 2, 4, 5, 9] [2] (cn (decide (x0.man = x1)) (r0 1 [1, 2, 4, 5] [2] (rt [] (C163 (x0.woman, true)))) (r0 1 [4, 5] [] (rt [] (C163 (x0.man, decide (x0.woman = x1)))))))
theorem ok_spec_l1Other (x0 : Union) (x1 : Int) : FnT Try.prog 163 [.agg (cUnion false x0), .int .i64 x1] (C163 (l1Other x0 x1)) := by
  have aux : ∀ R, l1Other x0 x1 = R → slim (C163 R) (A163 x0 x1) [] := by
    intro R hR
    refine rg trivial ?_
    refine rg trivial ?_
    revert hR; refine cd (fun hc1 hR => ?_) fun hc1 hR => ?_
    ·
      refine rg trivial ?_
      exact congrArg C163 hR
    ·
      refine rg trivial ?_
      exact congrArg C163 hR
  exact Fn.go 18 Try.func163 (by kernel_rfl) (by kernel_rfl) (by simp [C163, Frs, FrsL]) (A163 x0 x1) (by kernel_rfl) (aux _ rfl)
def k163 (x0 : Union) (x1 : Int) : Cl := (hres (C163 (l1Other x0 x1)), k0 (ok_spec_l1Other x0 x1))
def C111 (R : Int × Bool) : LV × List (Nat × BC) := (.tup [.int .i64 R.1, .bool R.2], [])
def unionEnd (x0 : Family) (x1 : Union) : Int × Bool := bif (!decide (x1.to = (-1))) then (x1.to, true) else (bif (decide (((x0.people.getD x1.man.toNat default).died) = (-1))) then (Max.max ((x0.people.getD x1.woman.toNat default).died) 0, !decide (((x0.people.getD x1.woman.toNat default).died) = (-1))) else (bif (decide (((x0.people.getD x1.woman.toNat default).died) = (-1))) then ((x0.people.getD x1.man.toNat default).died, true) else (Min.min ((x0.people.getD x1.man.toNat default).died) ((x0.people.getD x1.woman.toNat default).died), true)))
def A111 (x0 : Family) (x1 : Union) : Ann := r0 1 [2, 3, 4, 5] [2, 3] (r0 1 [2, 3, 4, 5, 10] [2, 3] (cn (!decide (x1.to = (-1))) (r0 1 [2, 3, 4, 5] [2, 3] (rt [] (C111 (x1.to, true)))) (r1 1 [4, 5, 6, 7] [] [pf (0 ≤ (x1.man : Int) ∧ (x1.man : Int) < ((x0.people.length : Nat) : Int)), pf (0 ≤ (x1.woman : Int) ∧ (x1.woman : Int) < ((x0.people.length : Nat) : Int))] [0, 4] (r0 1 [4, 5, 6, 7, 27] [] (cn (decide (((x0.people.getD x1.man.toNat default).died) = (-1))) (r0 1 [4, 5, 6, 7] [] (rt [] (C111 (Max.max ((x0.people.getD x1.woman.toNat default).died) 0, !decide (((x0.people.getD x1.woman.toNat default).died) = (-1)))))) (r0 1 [4, 5, 6, 7, 34] [] (cn (decide (((x0.people.getD x1.woman.toNat default).died) = (-1))) (r0 1 [4, 5, 6, 7] [] (rt [] (C111 ((x0.people.getD x1.man.toNat default).died, true)))) (r0 1 [4, 5] [] (rt [] (C111 (Min.min ((x0.people.getD x1.man.toNat default).died) ((x0.people.getD x1.woman.toNat default).died), true)))))))))))
theorem ok_impl_unionEnd (x0 : Family) (x1 : Union) (hx : x0.people.length ≤ 1048576) (hm : 0 ≤ x1.man ∧ x1.man < x0.people.length) (hw : 0 ≤ x1.woman ∧ x1.woman < x0.people.length) : FnT Try.prog 111 [.agg (cFamily false x0), .agg (cUnion false x1)] (C111 (unionEnd x0 x1)) := by
  have aux : ∀ R, unionEnd x0 x1 = R → slim (C111 R) (A111 x0 x1) [] := by
    intro R hR
    refine rg trivial ?_
    refine rg trivial ?_
    revert hR; refine cd (fun hc1 hR => ?_) fun hc1 hR => ?_
    ·
      refine rg trivial ?_
      exact congrArg C111 hR
    ·
      refine rg ⟨by trivial, by trivial, trivial⟩ ?_
      refine rg trivial ?_
      revert hR; refine cd (fun hc2 hR => ?_) fun hc2 hR => ?_
      ·
        refine rg trivial ?_
        exact congrArg C111 hR
      ·
        refine rg trivial ?_
        revert hR; refine cd (fun hc3 hR => ?_) fun hc3 hR => ?_
        ·
          refine rg trivial ?_
          exact congrArg C111 hR
        ·
          refine rg trivial ?_
          exact congrArg C111 hR
  exact Fn.go 41 Try.func111 (by kernel_rfl) (by kernel_rfl) (by simp [C111, Frs, FrsL]) (A111 x0 x1) (by kernel_rfl) (aux _ rfl)
def k111 (x0 : Family) (x1 : Union) : Cl := (hres (C111 (unionEnd x0 x1)), k3 (ok_impl_unionEnd x0 x1))
def C197 (R : Int × Bool) : LV × List (Nat × BC) := (.tup [.int .i64 R.1, .bool R.2], [])
def l1End (x0 : Family) (x1 : Union) : Int × Bool := bif (decide (0 ≤ x1.to)) then (x1.to, true) else (bif ((decide (((x0.people.getD x1.man.toNat default).died) < 0)) && (decide (((x0.people.getD x1.woman.toNat default).died) < 0))) then (0, false) else (bif ((decide (((x0.people.getD x1.man.toNat default).died) < 0)) || ((decide (0 ≤ ((x0.people.getD x1.woman.toNat default).died))) && (decide (((x0.people.getD x1.woman.toNat default).died) < ((x0.people.getD x1.man.toNat default).died))))) then ((x0.people.getD x1.woman.toNat default).died, true) else ((x0.people.getD x1.man.toNat default).died, true)))
def A197 (x0 : Family) (x1 : Union) : Ann := r0 1 [2, 3, 4, 5] [2, 3] (r0 1 [2, 3, 4, 5, 10] [2, 3] (cn (decide (0 ≤ x1.to)) (r0 1 [2, 3, 4, 5] [2, 3] (rt [] (C197 (x1.to, true)))) (r1 2 [4, 5, 6, 7] [] [pf (0 ≤ (x1.man : Int) ∧ (x1.man : Int) < ((x0.people.length : Nat) : Int)), pf (0 ≤ (x1.woman : Int) ∧ (x1.woman : Int) < ((x0.people.length : Nat) : Int))] [0, 4] (.reg 1 [] [] [4, 5, 6, 7, 32] [] [decide (((x0.people.getD x1.man.toNat default).died) < 0)] [] [] [1, 1] (cn ((decide (((x0.people.getD x1.man.toNat default).died) < 0)) && (decide (((x0.people.getD x1.woman.toNat default).died) < 0))) (r0 1 [4, 5, 6, 7] [] (rt [] (C197 (0, false)))) (.reg 1 [] [] [4, 5, 6, 7, 43] [] [!(decide (((x0.people.getD x1.man.toNat default).died) < 0)), (!(decide (((x0.people.getD x1.man.toNat default).died) < 0))) && (decide (0 ≤ ((x0.people.getD x1.woman.toNat default).died))), decide (((x0.people.getD x1.man.toNat default).died) < 0)] [gt (!(decide (((x0.people.getD x1.man.toNat default).died) < 0))) (gt (decide (0 ≤ ((x0.people.getD x1.woman.toNat default).died))) (pf (((!(decide (((x0.people.getD x1.man.toNat default).died) < 0))) && (decide (0 ≤ ((x0.people.getD x1.woman.toNat default).died)))) = true)))] [] [1, 1, 5, 5, 1, 0, 10] (cn ((decide (((x0.people.getD x1.man.toNat default).died) < 0)) || ((decide (0 ≤ ((x0.people.getD x1.woman.toNat default).died))) && (decide (((x0.people.getD x1.woman.toNat default).died) < ((x0.people.getD x1.man.toNat default).died))))) (r0 1 [4, 5, 6] [] (r0 1 [4, 5] [] (rt [] (C197 ((x0.people.getD x1.woman.toNat default).died, true))))) (r0 1 [4, 5] [] (rt [] (C197 ((x0.people.getD x1.man.toNat default).died, true)))))))))))
theorem ok_spec_l1End (x0 : Family) (x1 : Union) (hx : x0.people.length ≤ 1048576) (hm : 0 ≤ x1.man ∧ x1.man < x0.people.length) (hw : 0 ≤ x1.woman ∧ x1.woman < x0.people.length) : FnT Try.prog 197 [.agg (cFamily false x0), .agg (cUnion false x1)] (C197 (l1End x0 x1)) := by
  have aux : ∀ R, l1End x0 x1 = R → slim (C197 R) (A197 x0 x1) [] := by
    intro R hR
    refine rg trivial ?_
    refine rg trivial ?_
    revert hR; refine cd (fun hc1 hR => ?_) fun hc1 hR => ?_
    ·
      refine rg trivial ?_
      exact congrArg C197 hR
    ·
      refine rg ⟨by trivial, by trivial, trivial⟩ ?_
      refine rg trivial ?_
      revert hR; refine cd (fun hc2 hR => ?_) fun hc2 hR => ?_
      ·
        refine rg trivial ?_
        exact congrArg C197 hR
      ·
        refine rg ⟨by ((try clear hR); intros; (try simp only [decide_eq_true_eq, decide_eq_false_iff_not, Bool.or_eq_true, Bool.and_eq_true, or_f_iff, not_f_iff, not_t_iff, Bool.not_eq_true', inR] at *); (repeat' apply And.intro) <;> (intros; omega)), trivial⟩ ?_
        revert hR; refine cd (fun hc3 hR => ?_) fun hc3 hR => ?_
        ·
          refine rg trivial ?_
          refine rg trivial ?_
          exact congrArg C197 hR
        ·
          refine rg trivial ?_
          exact congrArg C197 hR
  exact Fn.go 46 Try.func197 (by kernel_rfl) (by kernel_rfl) (by simp [C197, Frs, FrsL]) (A197 x0 x1) (by kernel_rfl) (aux _ rfl)
def k197 (x0 : Family) (x1 : Union) : Cl := (hres (C197 (l1End x0 x1)), k3 (ok_spec_l1End x0 x1))
def C151 (R : Int) : LV × List (Nat × BC) := (.int .i64 R, [])
def up (x0 : Family) (x1 : Int) (x2 : Int) : Int := bif (decide (x2 = 1)) then ((x0.people.getD x1.toNat default).father) else ((x0.people.getD x1.toNat default).mother)
def A151 (x0 : Family) (x1 : Int) (x2 : Int) : Ann := r0 1 [1, 2, 3, 6] [3] (r0 1 [1, 3, 6, 8] [3] (cn (decide (x2 = 1)) (r1 1 [1, 3, 6] [3] [pf (0 ≤ (x1 : Int) ∧ (x1 : Int) < ((x0.people.length : Nat) : Int))] [0] (rt [] (C151 ((x0.people.getD x1.toNat default).father)))) (r1 1 [6] [] [pf (0 ≤ (x1 : Int) ∧ (x1 : Int) < ((x0.people.length : Nat) : Int))] [0] (rt [] (C151 ((x0.people.getD x1.toNat default).mother))))))
theorem ok_impl_up (x0 : Family) (x1 : Int) (x2 : Int) (hx : x0.people.length ≤ 1048576) (h1 : 0 ≤ x1 ∧ x1 < x0.people.length) : FnT Try.prog 151 [.agg (cFamily false x0), .int .i64 x1, .int .i64 x2] (C151 (up x0 x1 x2)) := by
  have aux : ∀ R, up x0 x1 x2 = R → slim (C151 R) (A151 x0 x1 x2) [] := by
    intro R hR
    refine rg trivial ?_
    refine rg trivial ?_
    revert hR; refine cd (fun hc1 hR => ?_) fun hc1 hR => ?_
    ·
      refine rg ⟨by trivial, trivial⟩ ?_
      exact congrArg C151 hR
    ·
      refine rg ⟨by trivial, trivial⟩ ?_
      exact congrArg C151 hR
  exact Fn.go 21 Try.func151 (by kernel_rfl) (by kernel_rfl) (by simp [C151, Frs, FrsL]) (A151 x0 x1 x2) (by kernel_rfl) (aux _ rfl)
def k151 (x0 : Family) (x1 : Int) (x2 : Int) : Cl := (hres (C151 (up x0 x1 x2)), k2 (ok_impl_up x0 x1 x2))
def C106 (R : Bool) : LV × List (Nat × BC) := (.bool R, [])
def lacksLife (x0 : Person) (x1 : Int) : Bool := (decide (x1 < x0.born)) || ((!decide (x0.died = (-1))) && (decide (x0.died < x1)))
def A106 (x0 : Person) (x1 : Int) : Ann := .reg 2 [] [] [4] [] [!(decide (x1 < x0.born)), (!(decide (x1 < x0.born))) && (!decide (x0.died = (-1))), decide (x1 < x0.born)] [gt (!(decide (x1 < x0.born))) (gt (!decide (x0.died = (-1))) (pf (((!(decide (x1 < x0.born))) && (!decide (x0.died = (-1)))) = true)))] [] [1, 1, 1, 5, 5, 5, 1, 0, 10] (rt [] (C106 ((decide (x1 < x0.born)) || ((!decide (x0.died = (-1))) && (decide (x0.died < x1))))))
theorem ok_impl_lacksLife (x0 : Person) (x1 : Int) : FnT Try.prog 106 [.agg (cPerson false x0), .int .i64 x1] (C106 (lacksLife x0 x1)) := by
  have aux : ∀ R, lacksLife x0 x1 = R → slim (C106 R) (A106 x0 x1) [] := by
    intro R hR
    refine rg ⟨by ((try clear hR); intros; (try simp only [decide_eq_true_eq, decide_eq_false_iff_not, Bool.or_eq_true, Bool.and_eq_true, or_f_iff, not_f_iff, not_t_iff, Bool.not_eq_true', inR] at *); (repeat' apply And.intro) <;> (intros; omega)), trivial⟩ ?_
    exact congrArg C106 hR
  exact Fn.go 20 Try.func106 (by kernel_rfl) (by kernel_rfl) (by simp [C106, Frs, FrsL]) (A106 x0 x1) (by kernel_rfl) (aux _ rfl)
def k106 (x0 : Person) (x1 : Int) : Cl := (hres (C106 (lacksLife x0 x1)), k0 (ok_impl_lacksLife x0 x1))
def C156 (R : Bool) : LV × List (Nat × BC) := (.bool R, [])
def l9Life (x0 : Person) (x1 : Int) : Bool := (decide (x1 < x0.born)) || ((!decide (x0.died = (-1))) && (decide (x0.died < x1)))
def A156 (x0 : Person) (x1 : Int) : Ann := .reg 2 [] [] [4] [] [!(decide (x1 < x0.born)), (!(decide (x1 < x0.born))) && (!decide (x0.died = (-1))), decide (x1 < x0.born)] [gt (!(decide (x1 < x0.born))) (gt (!decide (x0.died = (-1))) (pf (((!(decide (x1 < x0.born))) && (!decide (x0.died = (-1)))) = true)))] [] [1, 1, 1, 5, 5, 5, 1, 0, 10] (rt [] (C156 ((decide (x1 < x0.born)) || ((!decide (x0.died = (-1))) && (decide (x0.died < x1))))))
theorem ok_spec_l9Life (x0 : Person) (x1 : Int) : FnT Try.prog 156 [.agg (cPerson false x0), .int .i64 x1] (C156 (l9Life x0 x1)) := by
  have aux : ∀ R, l9Life x0 x1 = R → slim (C156 R) (A156 x0 x1) [] := by
    intro R hR
    refine rg ⟨by ((try clear hR); intros; (try simp only [decide_eq_true_eq, decide_eq_false_iff_not, Bool.or_eq_true, Bool.and_eq_true, or_f_iff, not_f_iff, not_t_iff, Bool.not_eq_true', inR] at *); (repeat' apply And.intro) <;> (intros; omega)), trivial⟩ ?_
    exact congrArg C156 hR
  exact Fn.go 20 Try.func156 (by kernel_rfl) (by kernel_rfl) (by simp [C156, Frs, FrsL]) (A156 x0 x1) (by kernel_rfl) (aux _ rfl)
def k156 (x0 : Person) (x1 : Int) : Cl := (hres (C156 (l9Life x0 x1)), k0 (ok_spec_l9Life x0 x1))
def C103 (R : Bool) : LV × List (Nat × BC) := (.bool R, [])
def lawIn (x0 : Int) (x1 : Int) (x2 : Int) : Bool := (decide (x1 ≤ x0)) && (decide (x0 ≤ x2))
def A103 (x0 : Int) (x1 : Int) (x2 : Int) : Ann := .reg 2 [] [] [6] [] [decide (x1 ≤ x0)] [] [] [1, 1, 1] (rt [] (C103 ((decide (x1 ≤ x0)) && (decide (x0 ≤ x2)))))
theorem ok_impl_IsLaw_1 (x0 : Int) (x1 : Int) (x2 : Int) : FnT Try.prog 103 [.int .i64 x0, .int .i64 x1, .int .i64 x2] (C103 (lawIn x0 x1 x2)) := by
  have aux : ∀ R, lawIn x0 x1 x2 = R → slim (C103 R) (A103 x0 x1 x2) [] := by
    intro R hR
    refine rg trivial ?_
    exact congrArg C103 hR
  exact Fn.go 15 Try.func103 (by kernel_rfl) (by kernel_rfl) (by simp [C103, Frs, FrsL]) (A103 x0 x1 x2) (by kernel_rfl) (aux _ rfl)
def k103 (x0 : Int) (x1 : Int) (x2 : Int) : Cl := (hres (C103 (lawIn x0 x1 x2)), k0 (ok_impl_IsLaw_1 x0 x1 x2))
def C55 (R : Bool) : LV × List (Nat × BC) := (.bool R, [])
def implIsLaw (x0 : Law) : Bool := (((((lawIn x0.degree 0 20) && (lawIn x0.affinity 0 20)) && (lawIn x0.canon 0 10)) && (lawIn x0.age 0 99)) && (lawIn x0.wives 1 9)) && (lawIn x0.husbands 1 9)
def A55 (x0 : Law) : Ann := .reg 3 [] [(2003, k103 x0.degree 0 20), (2008, cg (lawIn x0.degree 0 20) (k103 x0.affinity 0 20)), (2014, cg ((lawIn x0.degree 0 20) && (lawIn x0.affinity 0 20)) (k103 x0.canon 0 10)), (2020, cg (((lawIn x0.degree 0 20) && (lawIn x0.affinity 0 20)) && (lawIn x0.canon 0 10)) (k103 x0.age 0 99)), (2026, cg ((((lawIn x0.degree 0 20) && (lawIn x0.affinity 0 20)) && (lawIn x0.canon 0 10)) && (lawIn x0.age 0 99)) (k103 x0.wives 1 9)), (2032, cg (((((lawIn x0.degree 0 20) && (lawIn x0.affinity 0 20)) && (lawIn x0.canon 0 10)) && (lawIn x0.age 0 99)) && (lawIn x0.wives 1 9)) (k103 x0.husbands 1 9))] [2] [] [lawIn x0.degree 0 20, (lawIn x0.degree 0 20) && (lawIn x0.affinity 0 20), ((lawIn x0.degree 0 20) && (lawIn x0.affinity 0 20)) && (lawIn x0.canon 0 10), (((lawIn x0.degree 0 20) && (lawIn x0.affinity 0 20)) && (lawIn x0.canon 0 10)) && (lawIn x0.age 0 99), ((((lawIn x0.degree 0 20) && (lawIn x0.affinity 0 20)) && (lawIn x0.canon 0 10)) && (lawIn x0.age 0 99)) && (lawIn x0.wives 1 9)] [] [] [0, 1, 1, 1, 4, 1, 5, 5, 5, 8, 5, 9, 9, 9, 12, 9, 13, 13, 13, 16, 13, 17, 17, 17, 20, 17] (rt [] (C55 ((((((lawIn x0.degree 0 20) && (lawIn x0.affinity 0 20)) && (lawIn x0.canon 0 10)) && (lawIn x0.age 0 99)) && (lawIn x0.wives 1 9)) && (lawIn x0.husbands 1 9))))
theorem ok_impl_IsLaw (x0 : Law) : FnT Try.prog 55 [.agg (cLaw false x0)] (C55 (implIsLaw x0)) := by
  have aux : ∀ R, implIsLaw x0 = R → slim (C55 R) (A55 x0) [] := by
    intro R hR
    refine rg ⟨trivial, fun hg0 => trivial, fun hg0 => trivial, fun hg0 => trivial, fun hg0 => trivial, fun hg0 => trivial, trivial⟩ ?_
    exact congrArg C55 hR
  exact Fn.go 38 Try.func55 (by kernel_rfl) (by kernel_rfl) (by simp [C55, Frs, FrsL]) (A55 x0) (by kernel_rfl) (aux _ rfl)
def k55 (x0 : Law) : Cl := (hres (C55 (implIsLaw x0)), k0 (ok_impl_IsLaw x0))
def C75 (R : Bool) : LV × List (Nat × BC) := (.bool R, [])
def specIsLaw (x0 : Law) : Bool := (((((l1In x0.degree 0 20) && (l1In x0.canon 0 10)) && (l1In x0.affinity 0 20)) && (l1In x0.age 0 99)) && (l1In x0.wives 1 9)) && (l1In x0.husbands 1 9)
def A75 (x0 : Law) : Ann := .reg 2 [] [(1002, k101 x0.degree 0 20), (1006, cg (l1In x0.degree 0 20) (k101 x0.canon 0 10)), (1011, cg ((l1In x0.degree 0 20) && (l1In x0.canon 0 10)) (k101 x0.affinity 0 20)), (1016, cg (((l1In x0.degree 0 20) && (l1In x0.canon 0 10)) && (l1In x0.affinity 0 20)) (k101 x0.age 0 99)), (1021, cg ((((l1In x0.degree 0 20) && (l1In x0.canon 0 10)) && (l1In x0.affinity 0 20)) && (l1In x0.age 0 99)) (k101 x0.wives 1 9)), (1026, cg (((((l1In x0.degree 0 20) && (l1In x0.canon 0 10)) && (l1In x0.affinity 0 20)) && (l1In x0.age 0 99)) && (l1In x0.wives 1 9)) (k101 x0.husbands 1 9))] [2] [] [l1In x0.degree 0 20, (l1In x0.degree 0 20) && (l1In x0.canon 0 10), ((l1In x0.degree 0 20) && (l1In x0.canon 0 10)) && (l1In x0.affinity 0 20), (((l1In x0.degree 0 20) && (l1In x0.canon 0 10)) && (l1In x0.affinity 0 20)) && (l1In x0.age 0 99), ((((l1In x0.degree 0 20) && (l1In x0.canon 0 10)) && (l1In x0.affinity 0 20)) && (l1In x0.age 0 99)) && (l1In x0.wives 1 9)] [] [] [0, 1, 1, 4, 1, 5, 5, 8, 5, 9, 9, 12, 9, 13, 13, 16, 13, 17, 17, 20, 17] (rt [] (C75 ((((((l1In x0.degree 0 20) && (l1In x0.canon 0 10)) && (l1In x0.affinity 0 20)) && (l1In x0.age 0 99)) && (l1In x0.wives 1 9)) && (l1In x0.husbands 1 9))))
theorem ok_spec_IsLaw (x0 : Law) : FnT Try.prog 75 [.agg (cLaw false x0)] (C75 (specIsLaw x0)) := by
  have aux : ∀ R, specIsLaw x0 = R → slim (C75 R) (A75 x0) [] := by
    intro R hR
    refine rg ⟨trivial, fun hg0 => trivial, fun hg0 => trivial, fun hg0 => trivial, fun hg0 => trivial, fun hg0 => trivial, trivial⟩ ?_
    exact congrArg C75 hR
  exact Fn.go 31 Try.func75 (by kernel_rfl) (by kernel_rfl) (by simp [C75, Frs, FrsL]) (A75 x0) (by kernel_rfl) (aux _ rfl)
def k75 (x0 : Law) : Cl := (hres (C75 (specIsLaw x0)), k0 (ok_spec_IsLaw x0))
def C125 (R : (List Int)) : LV × List (Nat × BC) := (.own 0, [(0, .arr 1 R.length (rowOf (cInt .i64) R))])
def l3Listed (x0 : List Bool) : (List Int) := loopN (fun i1 (v1 : (List Int)) next => bif (x0.getD i1 default) then (next (v1 ++ [((i1 : Nat) : Int)])) else (next v1)) (fun (v1 : (List Int)) => v1) x0.length 0 ([] : List Int)
def D125b1 (x0 : List Bool) (i1 : Nat) (v1 : (List Int)) : Dl := ⟨[(9, .int .i64 ((i1 : Nat) : Int)), (3, .own 20003)], [(20003, .arr 1 v1.length (rowOf (cInt .i64) v1))]⟩
def A125b1 (x0 : List Bool) (i1 : Nat) (v1 : (List Int)) : Ann := r0 1 [2, 3, 7, 8, 9, 10] [20003] (cn (decide (((i1 : Nat) : Int) < ((x0.length : Nat) : Int))) (r1 2 [2, 3, 4, 7, 8, 9, 14] [20003] [pf (0 ≤ (((i1 : Nat) : Int) : Int) ∧ (((i1 : Nat) : Int) : Int) < ((x0.length : Nat) : Int))] [0] (cn (x0.getD i1 default) (.reg 1 [] [(2, bsC 17 (cInt .i64) ([((i1 : Nat) : Int)] : List Int)), (3, ap1 18 (cInt .i64) 8 v1 ((i1 : Nat) : Int))] [2, 3, 7, 8, 9] [18] [] [] [] [0, 4] (r1 1 [2, 3, 7, 8, 9] [18] [pf (inR .i64 (((i1 : Nat) : Int) + 1))] [0] (.next 0 [(20003, some 18)] (D125b1 x0 (i1 + 1) (v1 ++ [((i1 : Nat) : Int)]))))) (r1 1 [2, 3, 7, 8, 9] [20003] [pf (inR .i64 (((i1 : Nat) : Int) + 1))] [0] (.next 0 [(20003, some 20003)] (D125b1 x0 (i1 + 1) v1))))) (r0 1 [2] [20003] (rt [(0, some 20003)] (C125 v1))))
def A125 (x0 : List Bool) : Ann := .reg 2 [] [(1000, bsC 6 (cInt .i64) ([] : List Int))] [0, 2, 3] [6] [] [] [] [0] (r0 1 [2, 3, 7, 8, 9] [6] (lp (D125b1 x0) [] [6] [(20003, some 6)] (D125b1 x0 0 ([] : List Int)) (A125b1 x0)))
theorem l3Listed_len (l : List Bool) : (l3Listed l).length ≤ l.length := by
  unfold l3Listed
  exact loopN_to (fun i (v : List Int) => v.length ≤ i) (fun (r : List Int) => r.length ≤ l.length) (by simp) (fun i v next hi hv hn => cond_both (p := fun (r : List Int) => r.length ≤ l.length) (fun _ => hn _ (by simp; omega)) (fun _ => hn _ (by omega))) (fun v hv => hv)
theorem ok_spec_l3Listed (x0 : List Bool) (hx : x0.length ≤ 1048576) : FnT Try.prog 125 [.ro false 1 x0.length (rowOf (cBool) x0)] (C125 (l3Listed x0)) := by
  have aux : ∀ R, l3Listed x0 = R → slim (C125 R) (A125 x0) [] := by
    intro R hR
    refine rg ⟨trivial, trivial⟩ ?_
    refine rg trivial ?_
    revert hR; refine lN (fun i v => v.length ≤ i) (by trivial) rfl fun i1 v1 F1 hn1 hI1 hR hK1 => ?_
    refine rg trivial ?_
    refine ⟨fun hc1 => ?_, fun hc1 => ?_⟩
    · have hii1 : i1 < x0.length := by have := of_decide_eq_true hc1; omega
      replace hR := loopN_step hR hii1
      refine rg ⟨by (intros; omega), trivial⟩ ?_
      revert hR; refine cd (fun hc2 hR => ?_) fun hc2 hR => ?_
      ·
        refine rg ⟨trivial, by omega, trivial⟩ ?_
        refine rg ⟨by ( intros; simp only [inR]; omega), trivial⟩ ?_
        exact hK1 (v1 ++ [((i1 : Nat) : Int)]) hii1 (by ((try simp only [decide_eq_true_eq, decide_eq_false_iff_not, List.length_append, List.length_set, List.length_cons, List.length_nil, List.length_replicate] at *); omega)) hR
      ·
        refine rg ⟨by ( intros; simp only [inR]; omega), trivial⟩ ?_
        exact hK1 v1 hii1 (by (intros; omega)) hR
    · obtain rfl : i1 = x0.length := by have := of_decide_eq_false hc1; omega
      replace hR := loopN_end hR (Nat.lt_irrefl _)
      refine rg trivial ?_
      exact congrArg C125 hR
  exact Fn.go 21 Try.func125 (by kernel_rfl) (by kernel_rfl) (by simp [C125, Frs, FrsL, FrsB, rowOf, cInt, cBool, cStr, cSl, FrsL_app, cPerson, cUnion, cFamily, cLaw]) (A125 x0) (by kernel_rfl) (aux _ rfl)
def k125 (x0 : List Bool) : Cl := (hres (C125 (l3Listed x0)), k1 (ok_spec_l3Listed x0))
def C35 (R : Law) : LV × List (Nat × BC) := (.agg [.int .i64 R.degree, .int .i64 R.canon, .int .i64 R.affinity, .int .i64 R.age, .int .i64 R.wives, .int .i64 R.husbands, .bool R.patriline, .bool R.matriline], [])
def laws_toLaw_m (x0 : Law) : Law := x0
def A35 (x0 : Law) : Ann := r0 11 [2] [2] (rt [] (C35 x0))
theorem ok_laws_toLaw (x0 : Law) : FnT Try.prog 35 [.agg (cLaw false x0)] (C35 x0) := by
  have aux : ∀ R, laws_toLaw_m x0 = R → slim (C35 R) (A35 x0) [] := by
    intro R hR
    refine rg trivial ?_
    exact congrArg C35 hR
  exact Fn.go 29 Try.func35 (by kernel_rfl) (by kernel_rfl) (by simp [C35, Frs, FrsL]) (A35 x0) (by kernel_rfl) (aux _ rfl)
def k35 (x0 : Law) : Cl := (hres (C35 x0), k0 (ok_laws_toLaw x0))
end Go.Proofs.Ytepefimocflfkaa
