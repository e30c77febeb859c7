import Derived.Test.YtanfabaedopeiaaProg
import Derived.Test.YtanfabaedopeiaaLiteS
import Derived.KernelRfl
set_option maxHeartbeats 4000000
set_option linter.unusedSimpArgs false
set_option linter.unusedVariables false
namespace Go.Proofs.Ytanfabaedopeiaa
open Go Go.Lite Go.Proofs
structure Person where
  name : List UInt8
  sex : Int
  father : Int
  mother : Int
  born : Int
  died : Int
  deriving Inhabited
def cPerson (fr : Bool) (x : Person) : List LV := cStr x.name ++ cInt .i64 x.sex ++ cInt .i64 x.father ++ cInt .i64 x.mother ++ cInt .i64 x.born ++ cInt .i64 x.died

structure Union where
  man : Int
  woman : Int
  from0 : Int
  to : Int
  deriving Inhabited
def cUnion (fr : Bool) (x : Union) : List LV := cInt .i64 x.man ++ cInt .i64 x.woman ++ cInt .i64 x.from0 ++ cInt .i64 x.to

structure Family where
  people : List Person
  unions : List Union
  deriving Inhabited
def cFamily (fr : Bool) (x : Family) : List LV := cSl fr 6 (cPerson fr) x.people ++ cSl fr 4 (cUnion fr) x.unions

def C151 (R : Int) : LV × List (Nat × BC) := (.int .i64 R, [])
def szPerson (x0 : Person) (x1 : Int) : Int := bif (decide ((x1 - ((x0.name.length : Nat) : Int)) < 0)) then (-1) else (x1 - ((x0.name.length : Nat) : Int))
def A151 (x0 : Person) (x1 : Int) : Ann := r1 2 [1, 4] [] [pf (inR .i64 (x1 - ((x0.name.length : Nat) : Int)))] [0] (r0 1 [1, 4, 11] [] (cn (decide ((x1 - ((x0.name.length : Nat) : Int)) < 0)) (r0 1 [1, 4] [] (rt [] (C151 (-1)))) (r0 1 [4] [] (rt [] (C151 (x1 - ((x0.name.length : Nat) : Int)))))))
theorem szPerson_rng (x : Person) (w : Int) : szPerson x w ≤ max w (-1) ∧ -1 ≤ szPerson x w := by
  unfold szPerson
  cases h : decide (w - (x.name.length : Int) < 0) <;> simp_all <;> omega
theorem ok_laws_szPerson (x0 : Person) (x1 : Int) (hx : x0.name.length ≤ 1048576) (hw : -1 ≤ x1 ∧ x1 ≤ 1048576) : FnT Try.prog 151 [.agg (cPerson false x0), .int .i64 x1] (C151 (szPerson x0 x1)) := by
  have aux : ∀ R, szPerson x0 x1 = R → slim (C151 R) (A151 x0 x1) [] := by
    intro R hR
    refine rg ⟨by ( intros; simp only [inR]; omega), trivial⟩ ?_
    refine rg trivial ?_
    revert hR; refine cd (fun hc1 hR => ?_) fun hc1 hR => ?_
    ·
      refine rg trivial ?_
      exact congrArg C151 hR
    ·
      refine rg trivial ?_
      exact congrArg C151 hR
  exact Fn.go 13 Try.func151 (by kernel_rfl) (by kernel_rfl) (by simp [C151, Frs, FrsL]) (A151 x0 x1) (by kernel_rfl) (aux _ rfl)
def k151 (x0 : Person) (x1 : Int) : Cl := (hres (C151 (szPerson x0 x1)), k2 (ok_laws_szPerson x0 x1))
def C80 (R : Int) : LV × List (Nat × BC) := (.int .i64 R, [])
def szPersonS (x0 : List Person) (x1 : Int) : Int := bif (decide ((x1 - ((x0.length : Nat) : Int)) < 0)) then (-1) else (loopN (fun i1 (v1 : Int) next => bif (decide ((szPerson (x0.getD i1 default) v1) < 0)) then (-1) else (next (szPerson (x0.getD i1 default) v1))) (fun (v1 : Int) => v1) x0.length 0 (x1 - ((x0.length : Nat) : Int)))
def D80b1 (x0 : List Person) (x1 : Int) (i1 : Nat) (v1 : Int) : Dl := ⟨[(5, .int .i64 ((i1 : Nat) : Int)), (1, .int .i64 v1)], []⟩
def A80b1 (x0 : List Person) (x1 : Int) (i1 : Nat) (v1 : Int) : Ann := r0 1 [0, 1, 4, 5, 15] [] (cn (decide (((i1 : Nat) : Int) < ((x0.length : Nat) : Int))) (.reg 2 [] [(5, k151 (x0.getD i1 default) v1)] [0, 1, 4, 5, 25] [] [] [pf (0 ≤ (((i1 : Nat) : Int) : Int) ∧ (((i1 : Nat) : Int) : Int) < ((x0.length : Nat) : Int))] [] [0, 4] (cn (decide ((szPerson (x0.getD i1 default) v1) < 0)) (r0 1 [0, 1, 4, 5] [] (rt [] (C80 (-1)))) (r1 1 [0, 1, 4, 5] [] [pf (inR .i64 (((i1 : Nat) : Int) + 1))] [0] (.next 0 [] (D80b1 x0 x1 (i1 + 1) (szPerson (x0.getD i1 default) v1)))))) (r0 1 [4] [] (rt [] (C80 v1))))
def A80 (x0 : List Person) (x1 : Int) : Ann := r1 2 [0, 1, 4] [] [pf (inR .i64 (x1 - ((x0.length : Nat) : Int)))] [0] (r0 1 [0, 1, 4, 11] [] (cn (decide ((x1 - ((x0.length : Nat) : Int)) < 0)) (r0 1 [0, 1, 4] [] (rt [] (C80 (-1)))) (r0 1 [0, 1, 4, 5] [] (lp (D80b1 x0 x1) [] [] [] (D80b1 x0 x1 0 (x1 - ((x0.length : Nat) : Int))) (A80b1 x0 x1)))))
theorem szPersonS_rng (x : List Person) (w : Int) : szPersonS x w ≤ max w (-1) ∧ -1 ≤ szPersonS x w := by
  unfold szPersonS
  cases h : decide (w - (x.length : Int) < 0)
  · refine loopN_inv (fun _ v => v ≤ max w (-1) ∧ -1 ≤ v) (fun r => r ≤ max w (-1) ∧ -1 ≤ r) (fun i v next hv hn => ?_) (fun _ v hv => hv) _ _ _ ?_
    · have := szPerson_rng (x.getD i default) v
      cases h2 : decide (szPerson (x.getD i default) v < 0)
      · exact hn _ (by omega)
      · simp only [cond_true]; omega
    · have := of_decide_eq_false h
      constructor <;> omega
  · simp only [cond_true]; omega
theorem ok_laws_szPersonS (x0 : List Person) (x1 : Int) (hx : x0.length ≤ 1048576) (hy : ∀ p ∈ x0, p.name.length ≤ 1048576) (hw : -1 ≤ x1 ∧ x1 ≤ 1048576) : FnT Try.prog 80 [.ro false 6 x0.length (rowOf (cPerson false) x0), .int .i64 x1] (C80 (szPersonS x0 x1)) := by
  have aux : ∀ R, szPersonS x0 x1 = R → slim (C80 R) (A80 x0 x1) [] := by
    intro R hR
    refine rg ⟨by ( intros; simp only [inR]; omega), trivial⟩ ?_
    refine rg trivial ?_
    revert hR; refine cd (fun hc1 hR => ?_) fun hc1 hR => ?_
    ·
      refine rg trivial ?_
      exact congrArg C80 hR
    ·
      refine rg trivial ?_
      revert hR; refine lN (fun i v => -1 ≤ v ∧ v ≤ 1048576) (by ((try clear hR); intros; (try simp only [decide_eq_true_eq, decide_eq_false_iff_not, Bool.or_eq_true, Bool.and_eq_true, or_f_iff, not_f_iff, not_t_iff, Bool.not_eq_true', inR] at *); (repeat' apply And.intro) <;> (intros; omega))) rfl fun i1 v1 F1 hn1 hI1 hR hK1 => ?_
      refine rg trivial ?_
      refine ⟨fun hc2 => ?_, fun hc2 => ?_⟩
      · have hii1 : i1 < x0.length := by have := of_decide_eq_true hc2; omega
        replace hR := loopN_step hR hii1
        refine rg ⟨by (intros; omega), ⟨by ((try clear hR hK1); intros; (try simp only [decide_eq_true_eq, decide_eq_false_iff_not, Bool.or_eq_true, Bool.and_eq_true, or_f_iff, not_f_iff, not_t_iff, Bool.not_eq_true', inR] at *); (repeat' apply And.intro) <;> (simp_all [inR]; done)), by trivial⟩, trivial⟩ ?_
        have hp1 := szPerson_rng (x0.getD i1 default) v1
        revert hR; refine cd (fun hc3 hR => ?_) fun hc3 hR => ?_
        ·
          refine rg trivial ?_
          exact congrArg C80 hR
        ·
          refine rg ⟨by ( intros; simp only [inR]; omega), trivial⟩ ?_
          exact hK1 (szPerson (x0.getD i1 default) v1) hii1 (by (intros; omega)) hR
      · obtain rfl : i1 = x0.length := by have := of_decide_eq_false hc2; omega
        replace hR := loopN_end hR (Nat.lt_irrefl _)
        refine rg trivial ?_
        exact congrArg C80 hR
  exact Fn.go 27 Try.func80 (by kernel_rfl) (by kernel_rfl) (by simp [C80, Frs, FrsL]) (A80 x0 x1) (by kernel_rfl) (aux _ rfl)
def k80 (x0 : List Person) (x1 : Int) : Cl := (hres (C80 (szPersonS x0 x1)), k3 (ok_laws_szPersonS x0 x1))
def C81 (R : Int) : LV × List (Nat × BC) := (.int .i64 R, [])
def szUnionS (x0 : List Union) (x1 : Int) : Int := bif (decide ((x1 - ((x0.length : Nat) : Int)) < 0)) then (-1) else (x1 - ((x0.length : Nat) : Int))
def A81 (x0 : List Union) (x1 : Int) : Ann := r1 2 [1, 4] [] [pf (inR .i64 (x1 - ((x0.length : Nat) : Int)))] [0] (r0 1 [1, 4, 10] [] (cn (decide ((x1 - ((x0.length : Nat) : Int)) < 0)) (r0 1 [1, 4] [] (rt [] (C81 (-1)))) (r0 1 [4] [] (rt [] (C81 (x1 - ((x0.length : Nat) : Int)))))))
theorem ok_laws_szUnionS (x0 : List Union) (x1 : Int) (hx : x0.length ≤ 1048576) (hw : -1 ≤ x1 ∧ x1 ≤ 1048576) : FnT Try.prog 81 [.ro false 4 x0.length (rowOf (cUnion false) x0), .int .i64 x1] (C81 (szUnionS x0 x1)) := by
  have aux : ∀ R, szUnionS x0 x1 = R → slim (C81 R) (A81 x0 x1) [] := by
    intro R hR
    refine rg ⟨by ( intros; simp only [inR]; omega), trivial⟩ ?_
    refine rg trivial ?_
    revert hR; refine cd (fun hc1 hR => ?_) fun hc1 hR => ?_
    ·
      refine rg trivial ?_
      exact congrArg C81 hR
    ·
      refine rg trivial ?_
      exact congrArg C81 hR
  exact Fn.go 12 Try.func81 (by kernel_rfl) (by kernel_rfl) (by simp [C81, Frs, FrsL]) (A81 x0 x1) (by kernel_rfl) (aux _ rfl)
def k81 (x0 : List Union) (x1 : Int) : Cl := (hres (C81 (szUnionS x0 x1)), k2 (ok_laws_szUnionS x0 x1))
def C30 (R : Int) : LV × List (Nat × BC) := (.int .i64 R, [])
def szFamily (x0 : Family) (x1 : Int) : Int := bif (decide ((szPersonS x0.people x1) < 0)) then (-1) else (bif (decide ((szUnionS x0.unions (szPersonS x0.people x1)) < 0)) then (-1) else (szUnionS x0.unions (szPersonS x0.people x1)))
def A30 (x0 : Family) (x1 : Int) : Ann := .reg 2 [] [(1003, k80 x0.people x1)] [1, 2, 4] [2] [] [] [] [0] (r0 1 [1, 2, 4, 10] [2] (cn (decide ((szPersonS x0.people x1) < 0)) (r0 1 [1, 2, 4] [2] (rt [] (C30 (-1)))) (.reg 1 [] [(3, k81 x0.unions (szPersonS x0.people x1))] [1, 4] [] [] [] [] [0] (r0 1 [1, 4, 16] [] (cn (decide ((szUnionS x0.unions (szPersonS x0.people x1)) < 0)) (r0 1 [1, 4] [] (rt [] (C30 (-1)))) (r0 1 [4] [] (rt [] (C30 (szUnionS x0.unions (szPersonS x0.people x1))))))))))
theorem ok_laws_szFamily (x0 : Family) (x1 : Int) (hx : x0.people.length ≤ 1048576 ∧ x0.unions.length ≤ 1048576) (hy : ∀ p ∈ x0.people, p.name.length ≤ 1048576) (hw : -1 ≤ x1 ∧ x1 ≤ 1048576) : FnT Try.prog 30 [.agg (cFamily false x0), .int .i64 x1] (C30 (szFamily x0 x1)) := by
  have aux : ∀ R, szFamily x0 x1 = R → slim (C30 R) (A30 x0 x1) [] := by
    intro R hR
    refine rg ⟨⟨by (intros; omega), by trivial, by trivial⟩, trivial⟩ ?_
    have hp1 := szPersonS_rng x0.people x1
    refine rg trivial ?_
    revert hR; refine cd (fun hc1 hR => ?_) fun hc1 hR => ?_
    ·
      refine rg trivial ?_
      exact congrArg C30 hR
    ·
      refine rg ⟨⟨by (intros; omega), by (intros; omega)⟩, trivial⟩ ?_
      refine rg trivial ?_
      revert hR; refine cd (fun hc2 hR => ?_) fun hc2 hR => ?_
      ·
        refine rg trivial ?_
        exact congrArg C30 hR
      ·
        refine rg trivial ?_
        exact congrArg C30 hR
  exact Fn.go 18 Try.func30 (by kernel_rfl) (by kernel_rfl) (by simp [C30, Frs, FrsL]) (A30 x0 x1) (by kernel_rfl) (aux _ rfl)
def k30 (x0 : Family) (x1 : Int) : Cl := (hres (C30 (szFamily x0 x1)), k3 (ok_laws_szFamily x0 x1))
def C161 (R : Person) : LV × List (Nat × BC) := (.agg [.str R.name, .int .i64 R.sex, .int .i64 R.father, .int .i64 R.mother, .int .i64 R.born, .int .i64 R.died], [])
def laws_toPerson_m (x0 : Person) : Person := x0
def A161 (x0 : Person) : Ann := r0 9 [2] [2] (rt [] (C161 x0))
theorem ok_laws_toPerson (x0 : Person) : FnT Try.prog 161 [.agg (cPerson false x0)] (C161 x0) := by
  have aux : ∀ R, laws_toPerson_m x0 = R → slim (C161 R) (A161 x0) [] := by
    intro R hR
    refine rg trivial ?_
    exact congrArg C161 hR
  exact Fn.go 23 Try.func161 (by kernel_rfl) (by kernel_rfl) (by simp [C161, Frs, FrsL]) (A161 x0) (by kernel_rfl) (aux _ rfl)
def k161 (x0 : Person) : Cl := (hres (C161 x0), k0 (ok_laws_toPerson x0))
def C93 (R : (List Person)) : LV × List (Nat × BC) := (.own 0, [(0, .arr 6 R.length (rowOf (cPerson true) R))])
def laws_toPersonS_m (x0 : List Person) : (List Person) := loopN (fun i1 (v1 : (List Person)) next => next (v1.set i1 (x0.getD i1 default))) (fun (v1 : (List Person)) => v1) x0.length 0 (List.replicate x0.length (default : Person))
def D93b1 (x0 : List Person) (i1 : Nat) (v1 : (List Person)) : Dl := ⟨[(4, .int .i64 ((i1 : Nat) : Int)), (3, .own 20003)], [(20003, .arr 6 x0.length (rowOf (cPerson true) v1))]⟩
def A93b1 (x0 : List Person) (i1 : Nat) (v1 : (List Person)) : Ann := r0 1 [0, 2, 3, 4, 11] [20003] (cn (decide (((i1 : Nat) : Int) < ((x0.length : Nat) : Int))) (.reg 1 [] [(6, k161 (x0.getD i1 default)), (8, stC 20003 (cPerson true) x0.length v1 i1 (x0.getD i1 default))] [0, 2, 3, 4] [20003] [] [pf (0 ≤ (((i1 : Nat) : Int) : Int) ∧ (((i1 : Nat) : Int) : Int) < ((x0.length : Nat) : Int))] [] [0, 4, 0, 8] (r1 1 [0, 2, 3, 4] [20003] [pf (inR .i64 (((i1 : Nat) : Int) + 1))] [0] (.next 0 [(20003, some 20003)] (D93b1 x0 (i1 + 1) (v1.set i1 (x0.getD i1 default)))))) (r0 1 [2] [20003] (.co false 20003 v1.length (rowOf (cPerson true) v1) [lnP (rowOf (cPerson true) v1) x0.length v1.length] [] 0 (rt [(0, some 20003)] (C93 v1)))))
def A93 (x0 : List Person) : Ann := .reg 2 [] [(1002, msC 7 (cPerson true) 56 ((x0.length : Nat) : Int) ((x0.length : Nat) : Int) x0.length (default : Person) (rfl))] [0, 2, 3] [7] [] [] [] [0] (r0 1 [0, 2, 3, 4] [7] (lp (D93b1 x0) [] [7] [(20003, some 7)] (D93b1 x0 0 (List.replicate x0.length (default : Person))) (A93b1 x0)))
theorem toPersonS_id (x : List Person) : laws_toPersonS_m x = x := loopN_copy x _ _ _ _ (by simp) (by simp) (fun k hk => absurd hk (by omega))
theorem ok_laws_toPersonS (x0 : List Person) (hx : x0.length ≤ 1048576) : FnT Try.prog 93 [.ro false 6 x0.length (rowOf (cPerson false) x0)] (C93 x0) := by
  have aux : ∀ R, laws_toPersonS_m x0 = R → slim (C93 R) (A93 x0) [] := by
    intro R hR
    refine rg ⟨by (intros; omega), trivial⟩ ?_
    refine rg trivial ?_
    revert hR; refine lN (fun i v => v.length = x0.length) (by ((try clear hR); intros; (try simp only [decide_eq_true_eq, decide_eq_false_iff_not, Bool.or_eq_true, Bool.and_eq_true, or_f_iff, not_f_iff, not_t_iff, Bool.not_eq_true', inR] at *); (repeat' apply And.intro) <;> (simp_all [inR]; done))) rfl fun i1 v1 F1 hn1 hI1 hR hK1 => ?_
    refine rg trivial ?_
    refine ⟨fun hc1 => ?_, fun hc1 => ?_⟩
    · have hii1 : i1 < x0.length := by have := of_decide_eq_true hc1; omega
      replace hR := loopN_step hR hii1
      refine rg ⟨by (intros; omega), trivial, by (intros; omega), trivial⟩ ?_
      refine rg ⟨by ( intros; simp only [inR]; omega), trivial⟩ ?_
      exact hK1 (v1.set i1 (x0.getD i1 default)) hii1 (by ((try clear hR hK1); intros; (try simp only [decide_eq_true_eq, decide_eq_false_iff_not, Bool.or_eq_true, Bool.and_eq_true, or_f_iff, not_f_iff, not_t_iff, Bool.not_eq_true', inR] at *); (repeat' apply And.intro) <;> (simp_all [inR]; done))) hR
    · obtain rfl : i1 = x0.length := by have := of_decide_eq_false hc1; omega
      replace hR := loopN_end hR (Nat.lt_irrefl _)
      refine rg trivial ?_
      refine og (by (intros; omega)) ?_
      exact congrArg C93 hR
  exact Fn.go 23 Try.func93 (by kernel_rfl) (by kernel_rfl) (by simp [C93, Frs, FrsL, FrsB, rowOf, cInt, cBool, cStr, cSl, FrsL_app, cPerson, cUnion, cFamily]) (A93 x0) (by kernel_rfl) (aux _ (toPersonS_id x0))
def k93 (x0 : List Person) : Cl := (hres (C93 x0), k1 (ok_laws_toPersonS x0))
def C162 (R : Union) : LV × List (Nat × BC) := (.agg [.int .i64 R.man, .int .i64 R.woman, .int .i64 R.from0, .int .i64 R.to], [])
def laws_toUnion_m (x0 : Union) : Union := x0
def A162 (x0 : Union) : Ann := r0 7 [2] [2] (rt [] (C162 x0))
theorem ok_laws_toUnion (x0 : Union) : FnT Try.prog 162 [.agg (cUnion false x0)] (C162 x0) := by
  have aux : ∀ R, laws_toUnion_m x0 = R → slim (C162 R) (A162 x0) [] := by
    intro R hR
    refine rg trivial ?_
    exact congrArg C162 hR
  exact Fn.go 17 Try.func162 (by kernel_rfl) (by kernel_rfl) (by simp [C162, Frs, FrsL]) (A162 x0) (by kernel_rfl) (aux _ rfl)
def k162 (x0 : Union) : Cl := (hres (C162 x0), k0 (ok_laws_toUnion x0))
def C94 (R : (List Union)) : LV × List (Nat × BC) := (.own 0, [(0, .arr 4 R.length (rowOf (cUnion true) R))])
def laws_toUnionS_m (x0 : List Union) : (List Union) := loopN (fun i1 (v1 : (List Union)) next => next (v1.set i1 (x0.getD i1 default))) (fun (v1 : (List Union)) => v1) x0.length 0 (List.replicate x0.length (default : Union))
def D94b1 (x0 : List Union) (i1 : Nat) (v1 : (List Union)) : Dl := ⟨[(4, .int .i64 ((i1 : Nat) : Int)), (3, .own 20003)], [(20003, .arr 4 x0.length (rowOf (cUnion true) v1))]⟩
def A94b1 (x0 : List Union) (i1 : Nat) (v1 : (List Union)) : Ann := r0 1 [0, 2, 3, 4, 11] [20003] (cn (decide (((i1 : Nat) : Int) < ((x0.length : Nat) : Int))) (.reg 1 [] [(6, k162 (x0.getD i1 default)), (8, stC 20003 (cUnion true) x0.length v1 i1 (x0.getD i1 default))] [0, 2, 3, 4] [20003] [] [pf (0 ≤ (((i1 : Nat) : Int) : Int) ∧ (((i1 : Nat) : Int) : Int) < ((x0.length : Nat) : Int))] [] [0, 4, 0, 8] (r1 1 [0, 2, 3, 4] [20003] [pf (inR .i64 (((i1 : Nat) : Int) + 1))] [0] (.next 0 [(20003, some 20003)] (D94b1 x0 (i1 + 1) (v1.set i1 (x0.getD i1 default)))))) (r0 1 [2] [20003] (.co false 20003 v1.length (rowOf (cUnion true) v1) [lnP (rowOf (cUnion true) v1) x0.length v1.length] [] 0 (rt [(0, some 20003)] (C94 v1)))))
def A94 (x0 : List Union) : Ann := .reg 2 [] [(1002, msC 7 (cUnion true) 32 ((x0.length : Nat) : Int) ((x0.length : Nat) : Int) x0.length (default : Union) (rfl))] [0, 2, 3] [7] [] [] [] [0] (r0 1 [0, 2, 3, 4] [7] (lp (D94b1 x0) [] [7] [(20003, some 7)] (D94b1 x0 0 (List.replicate x0.length (default : Union))) (A94b1 x0)))
theorem toUnionS_id (x : List Union) : laws_toUnionS_m x = x := loopN_copy x _ _ _ _ (by simp) (by simp) (fun k hk => absurd hk (by omega))
theorem ok_laws_toUnionS (x0 : List Union) (hx : x0.length ≤ 1048576) : FnT Try.prog 94 [.ro false 4 x0.length (rowOf (cUnion false) x0)] (C94 x0) := by
  have aux : ∀ R, laws_toUnionS_m x0 = R → slim (C94 R) (A94 x0) [] := by
    intro R hR
    refine rg ⟨by (intros; omega), trivial⟩ ?_
    refine rg trivial ?_
    revert hR; refine lN (fun i v => v.length = x0.length) (by ((try clear hR); intros; (try simp only [decide_eq_true_eq, decide_eq_false_iff_not, Bool.or_eq_true, Bool.and_eq_true, or_f_iff, not_f_iff, not_t_iff, Bool.not_eq_true', inR] at *); (repeat' apply And.intro) <;> (simp_all [inR]; done))) rfl fun i1 v1 F1 hn1 hI1 hR hK1 => ?_
    refine rg trivial ?_
    refine ⟨fun hc1 => ?_, fun hc1 => ?_⟩
    · have hii1 : i1 < x0.length := by have := of_decide_eq_true hc1; omega
      replace hR := loopN_step hR hii1
      refine rg ⟨by (intros; omega), trivial, by (intros; omega), trivial⟩ ?_
      refine rg ⟨by ( intros; simp only [inR]; omega), trivial⟩ ?_
      exact hK1 (v1.set i1 (x0.getD i1 default)) hii1 (by ((try clear hR hK1); intros; (try simp only [decide_eq_true_eq, decide_eq_false_iff_not, Bool.or_eq_true, Bool.and_eq_true, or_f_iff, not_f_iff, not_t_iff, Bool.not_eq_true', inR] at *); (repeat' apply And.intro) <;> (simp_all [inR]; done))) hR
    · obtain rfl : i1 = x0.length := by have := of_decide_eq_false hc1; omega
      replace hR := loopN_end hR (Nat.lt_irrefl _)
      refine rg trivial ?_
      refine og (by (intros; omega)) ?_
      exact congrArg C94 hR
  exact Fn.go 23 Try.func94 (by kernel_rfl) (by kernel_rfl) (by simp [C94, Frs, FrsL, FrsB, rowOf, cInt, cBool, cStr, cSl, FrsL_app, cPerson, cUnion, cFamily]) (A94 x0) (by kernel_rfl) (aux _ (toUnionS_id x0))
def k94 (x0 : List Union) : Cl := (hres (C94 x0), k1 (ok_laws_toUnionS x0))
def C36 (R : Family) : LV × List (Nat × BC) := (.agg [.own 0, .own 1], [(0, .arr 6 R.people.length (rowOf (cPerson true) R.people)), (1, .arr 4 R.unions.length (rowOf (cUnion true) R.unions))])
def laws_toFamily_m (x0 : Family) : Family := x0
def A36 (x0 : Family) : Ann := .reg 5 [] [(2002, k93 x0.people), (3002, k94 x0.unions)] [2] [2, 1006, 1010] [] [] [] [0, 4] (rt [(0, some 1006), (1, some 1010)] (C36 x0))
theorem ok_laws_toFamily (x0 : Family) (hx : x0.people.length ≤ 1048576 ∧ x0.unions.length ≤ 1048576) : FnT Try.prog 36 [.agg (cFamily false x0)] (C36 x0) := by
  have aux : ∀ R, laws_toFamily_m x0 = R → slim (C36 R) (A36 x0) [] := by
    intro R hR
    refine rg ⟨by (intros; omega), by (intros; omega), trivial⟩ ?_
    exact congrArg C36 hR
  exact Fn.go 13 Try.func36 (by kernel_rfl) (by kernel_rfl) (by simp [C36, Frs, FrsL, FrsB, rowOf, cInt, cBool, cStr, cSl, FrsL_app, cPerson, cUnion, cFamily]) (A36 x0) (by kernel_rfl) (aux _ rfl)
def k36 (x0 : Family) : Cl := (hres (C36 x0), k1 (ok_laws_toFamily x0))
def C168 (R : Bool) : LV × List (Nat × BC) := (.bool R, [])
def eqPerson (x0 : Person) (x1 : Person) : Bool := bif (!(x0.name == x1.name)) then false else (bif (!decide (x0.sex = x1.sex)) then false else (bif (!decide (x0.father = x1.father)) then false else (bif (!decide (x0.mother = x1.mother)) then false else (bif (!decide (x0.born = x1.born)) then false else (bif (!decide (x0.died = x1.died)) then false else true)))))
def A168 (x0 : Person) (x1 : Person) : Ann := r0 1 [2, 3, 4] [2, 3] (r0 1 [2, 3, 4, 9] [2, 3] (cn (!(x0.name == x1.name)) (r0 1 [2, 3, 4] [2, 3] (rt [] (C168 false))) (r0 1 [2, 3, 4, 14] [2, 3] (cn (!decide (x0.sex = x1.sex)) (r0 1 [2, 3, 4] [2, 3] (rt [] (C168 false))) (r0 1 [2, 3, 4, 19] [2, 3] (cn (!decide (x0.father = x1.father)) (r0 1 [2, 3, 4] [2, 3] (rt [] (C168 false))) (r0 1 [2, 3, 4, 24] [2, 3] (cn (!decide (x0.mother = x1.mother)) (r0 1 [2, 3, 4] [2, 3] (rt [] (C168 false))) (r0 1 [2, 3, 4, 29] [2, 3] (cn (!decide (x0.born = x1.born)) (r0 1 [2, 3, 4] [2, 3] (rt [] (C168 false))) (r0 1 [4, 34] [] (cn (!decide (x0.died = x1.died)) (r0 1 [4] [] (rt [] (C168 false))) (r0 1 [4] [] (rt [] (C168 true)))))))))))))))
theorem eqPerson_self (x : Person) : eqPerson x x = true := by simp [eqPerson]
theorem ok_laws_eqPerson (x0 : Person) (x1 : Person) : FnT Try.prog 168 [.agg (cPerson false x0), .agg (cPerson false x1)] (C168 (eqPerson x0 x1)) := by
  have aux : ∀ R, eqPerson x0 x1 = R → slim (C168 R) (A168 x0 x1) [] := by
    intro R hR
    refine rg trivial ?_
    refine rg trivial ?_
    revert hR; refine cd (fun hc1 hR => ?_) fun hc1 hR => ?_
    ·
      refine rg trivial ?_
      exact congrArg C168 hR
    ·
      refine rg trivial ?_
      revert hR; refine cd (fun hc2 hR => ?_) fun hc2 hR => ?_
      ·
        refine rg trivial ?_
        exact congrArg C168 hR
      ·
        refine rg trivial ?_
        revert hR; refine cd (fun hc3 hR => ?_) fun hc3 hR => ?_
        ·
          refine rg trivial ?_
          exact congrArg C168 hR
        ·
          refine rg trivial ?_
          revert hR; refine cd (fun hc4 hR => ?_) fun hc4 hR => ?_
          ·
            refine rg trivial ?_
            exact congrArg C168 hR
          ·
            refine rg trivial ?_
            revert hR; refine cd (fun hc5 hR => ?_) fun hc5 hR => ?_
            ·
              refine rg trivial ?_
              exact congrArg C168 hR
            ·
              refine rg trivial ?_
              revert hR; refine cd (fun hc6 hR => ?_) fun hc6 hR => ?_
              ·
                refine rg trivial ?_
                exact congrArg C168 hR
              ·
                refine rg trivial ?_
                exact congrArg C168 hR
  exact Fn.go 35 Try.func168 (by kernel_rfl) (by kernel_rfl) (by simp [C168, Frs, FrsL]) (A168 x0 x1) (by kernel_rfl) (aux _ rfl)
def k168 (x0 : Person) (x1 : Person) : Cl := (hres (C168 (eqPerson x0 x1)), k0 (ok_laws_eqPerson x0 x1))
def C105 (R : Bool) : LV × List (Nat × BC) := (.bool R, [])
def eqPersonS (x0 : List Person) (x1 : List Person) : Bool := bif (!decide (((x0.length : Nat) : Int) = ((x1.length : Nat) : Int))) then false else (loopN (fun i1 (v1 : Unit) next => bif (!(eqPerson (x0.getD i1 default) (x1.getD i1 default))) then false else (next ())) (fun (v1 : Unit) => true) x0.length 0 ())
def D105b1 (x0 : List Person) (x1 : List Person) (i1 : Nat) (v1 : Unit) : Dl := ⟨[(5, .int .i64 ((i1 : Nat) : Int))], []⟩
def A105b1 (x0 : List Person) (x1 : List Person) (i1 : Nat) (v1 : Unit) : Ann := r0 1 [0, 1, 4, 5, 14] [] (cn (decide (((i1 : Nat) : Int) < ((x0.length : Nat) : Int))) (.reg 1 [] [(8, k168 (x0.getD i1 default) (x1.getD i1 default))] [0, 1, 4, 5, 26] [] [] [pf (0 ≤ (((i1 : Nat) : Int) : Int) ∧ (((i1 : Nat) : Int) : Int) < ((x0.length : Nat) : Int)), pf (0 ≤ (((i1 : Nat) : Int) : Int) ∧ (((i1 : Nat) : Int) : Int) < ((x1.length : Nat) : Int))] [] [0, 4, 8] (cn (!(eqPerson (x0.getD i1 default) (x1.getD i1 default))) (r0 1 [0, 1, 4, 5] [] (rt [] (C105 false))) (r1 1 [0, 1, 4, 5] [] [pf (inR .i64 (((i1 : Nat) : Int) + 1))] [0] (.next 0 [] (D105b1 x0 x1 (i1 + 1) ()))))) (r0 1 [4] [] (rt [] (C105 true))))
def A105 (x0 : List Person) (x1 : List Person) : Ann := r0 1 [0, 1, 4] [] (r0 1 [0, 1, 4, 10] [] (cn (!decide (((x0.length : Nat) : Int) = ((x1.length : Nat) : Int))) (r0 1 [0, 1, 4] [] (rt [] (C105 false))) (r0 1 [0, 1, 4, 5] [] (lp (D105b1 x0 x1) [] [] [] (D105b1 x0 x1 0 ()) (A105b1 x0 x1)))))
theorem eqPersonS_self (x : List Person) : eqPersonS x x = true := by
  simp only [eqPersonS, decide_true, Bool.not_true, cond_false]
  exact loopN_inv (fun _ _ => True) (fun r => r = true) (fun i v next _ hn => by simp only [eqPerson_self, Bool.not_true, cond_false]; exact hn _ trivial) (fun _ _ _ => rfl) _ _ _ trivial
theorem ok_laws_eqPersonS (x0 : List Person) (x1 : List Person) (hx : x0.length ≤ 1048576) : FnT Try.prog 105 [.ro false 6 x0.length (rowOf (cPerson false) x0), .ro false 6 x1.length (rowOf (cPerson false) x1)] (C105 (eqPersonS x0 x1)) := by
  have aux : ∀ R, eqPersonS x0 x1 = R → slim (C105 R) (A105 x0 x1) [] := by
    intro R hR
    refine rg trivial ?_
    refine rg trivial ?_
    revert hR; refine cd (fun hc1 hR => ?_) fun hc1 hR => ?_
    ·
      refine rg trivial ?_
      exact congrArg C105 hR
    ·
      refine rg trivial ?_
      revert hR; refine lN (fun i v => True) (by trivial) rfl fun i1 v1 F1 hn1 hI1 hR hK1 => ?_
      refine rg trivial ?_
      refine ⟨fun hc2 => ?_, fun hc2 => ?_⟩
      · have hii1 : i1 < x0.length := by have := of_decide_eq_true hc2; omega
        replace hR := loopN_step hR hii1
        refine rg ⟨by (intros; omega), by ((try clear hR hK1); intros; (try simp only [decide_eq_true_eq, decide_eq_false_iff_not, Bool.or_eq_true, Bool.and_eq_true, or_f_iff, not_f_iff, not_t_iff, Bool.not_eq_true', inR] at *); (repeat' apply And.intro) <;> (intros; omega)), trivial, trivial⟩ ?_
        revert hR; refine cd (fun hc3 hR => ?_) fun hc3 hR => ?_
        ·
          refine rg trivial ?_
          exact congrArg C105 hR
        ·
          refine rg ⟨by ( intros; simp only [inR]; omega), trivial⟩ ?_
          exact hK1 () hii1 (by trivial) hR
      · obtain rfl : i1 = x0.length := by have := of_decide_eq_false hc2; omega
        replace hR := loopN_end hR (Nat.lt_irrefl _)
        refine rg trivial ?_
        exact congrArg C105 hR
  exact Fn.go 27 Try.func105 (by kernel_rfl) (by kernel_rfl) (by simp [C105, Frs, FrsL]) (A105 x0 x1) (by kernel_rfl) (aux _ rfl)
def k105 (x0 : List Person) (x1 : List Person) : Cl := (hres (C105 (eqPersonS x0 x1)), k1 (ok_laws_eqPersonS x0 x1))
def C169 (R : Bool) : LV × List (Nat × BC) := (.bool R, [])
def eqUnion (x0 : Union) (x1 : Union) : Bool := bif (!decide (x0.man = x1.man)) then false else (bif (!decide (x0.woman = x1.woman)) then false else (bif (!decide (x0.from0 = x1.from0)) then false else (bif (!decide (x0.to = x1.to)) then false else true)))
def A169 (x0 : Union) (x1 : Union) : Ann := r0 1 [2, 3, 4] [2, 3] (r0 1 [2, 3, 4, 9] [2, 3] (cn (!decide (x0.man = x1.man)) (r0 1 [2, 3, 4] [2, 3] (rt [] (C169 false))) (r0 1 [2, 3, 4, 14] [2, 3] (cn (!decide (x0.woman = x1.woman)) (r0 1 [2, 3, 4] [2, 3] (rt [] (C169 false))) (r0 1 [2, 3, 4, 19] [2, 3] (cn (!decide (x0.from0 = x1.from0)) (r0 1 [2, 3, 4] [2, 3] (rt [] (C169 false))) (r0 1 [4, 24] [] (cn (!decide (x0.to = x1.to)) (r0 1 [4] [] (rt [] (C169 false))) (r0 1 [4] [] (rt [] (C169 true)))))))))))
theorem eqUnion_self (x : Union) : eqUnion x x = true := by simp [eqUnion]
theorem ok_laws_eqUnion (x0 : Union) (x1 : Union) : FnT Try.prog 169 [.agg (cUnion false x0), .agg (cUnion false x1)] (C169 (eqUnion x0 x1)) := by
  have aux : ∀ R, eqUnion x0 x1 = R → slim (C169 R) (A169 x0 x1) [] := by
    intro R hR
    refine rg trivial ?_
    refine rg trivial ?_
    revert hR; refine cd (fun hc1 hR => ?_) fun hc1 hR => ?_
    ·
      refine rg trivial ?_
      exact congrArg C169 hR
    ·
      refine rg trivial ?_
      revert hR; refine cd (fun hc2 hR => ?_) fun hc2 hR => ?_
      ·
        refine rg trivial ?_
        exact congrArg C169 hR
      ·
        refine rg trivial ?_
        revert hR; refine cd (fun hc3 hR => ?_) fun hc3 hR => ?_
        ·
          refine rg trivial ?_
          exact congrArg C169 hR
        ·
          refine rg trivial ?_
          revert hR; refine cd (fun hc4 hR => ?_) fun hc4 hR => ?_
          ·
            refine rg trivial ?_
            exact congrArg C169 hR
          ·
            refine rg trivial ?_
            exact congrArg C169 hR
  exact Fn.go 25 Try.func169 (by kernel_rfl) (by kernel_rfl) (by simp [C169, Frs, FrsL]) (A169 x0 x1) (by kernel_rfl) (aux _ rfl)
def k169 (x0 : Union) (x1 : Union) : Cl := (hres (C169 (eqUnion x0 x1)), k0 (ok_laws_eqUnion x0 x1))
def C106 (R : Bool) : LV × List (Nat × BC) := (.bool R, [])
def eqUnionS (x0 : List Union) (x1 : List Union) : Bool := bif (!decide (((x0.length : Nat) : Int) = ((x1.length : Nat) : Int))) then false else (loopN (fun i1 (v1 : Unit) next => bif (!(eqUnion (x0.getD i1 default) (x1.getD i1 default))) then false else (next ())) (fun (v1 : Unit) => true) x0.length 0 ())
def D106b1 (x0 : List Union) (x1 : List Union) (i1 : Nat) (v1 : Unit) : Dl := ⟨[(5, .int .i64 ((i1 : Nat) : Int))], []⟩
def A106b1 (x0 : List Union) (x1 : List Union) (i1 : Nat) (v1 : Unit) : Ann := r0 1 [0, 1, 4, 5, 14] [] (cn (decide (((i1 : Nat) : Int) < ((x0.length : Nat) : Int))) (.reg 1 [] [(8, k169 (x0.getD i1 default) (x1.getD i1 default))] [0, 1, 4, 5, 26] [] [] [pf (0 ≤ (((i1 : Nat) : Int) : Int) ∧ (((i1 : Nat) : Int) : Int) < ((x0.length : Nat) : Int)), pf (0 ≤ (((i1 : Nat) : Int) : Int) ∧ (((i1 : Nat) : Int) : Int) < ((x1.length : Nat) : Int))] [] [0, 4, 8] (cn (!(eqUnion (x0.getD i1 default) (x1.getD i1 default))) (r0 1 [0, 1, 4, 5] [] (rt [] (C106 false))) (r1 1 [0, 1, 4, 5] [] [pf (inR .i64 (((i1 : Nat) : Int) + 1))] [0] (.next 0 [] (D106b1 x0 x1 (i1 + 1) ()))))) (r0 1 [4] [] (rt [] (C106 true))))
def A106 (x0 : List Union) (x1 : List Union) : Ann := r0 1 [0, 1, 4] [] (r0 1 [0, 1, 4, 10] [] (cn (!decide (((x0.length : Nat) : Int) = ((x1.length : Nat) : Int))) (r0 1 [0, 1, 4] [] (rt [] (C106 false))) (r0 1 [0, 1, 4, 5] [] (lp (D106b1 x0 x1) [] [] [] (D106b1 x0 x1 0 ()) (A106b1 x0 x1)))))
theorem eqUnionS_self (x : List Union) : eqUnionS x x = true := by
  simp only [eqUnionS, decide_true, Bool.not_true, cond_false]
  exact loopN_inv (fun _ _ => True) (fun r => r = true) (fun i v next _ hn => by simp only [eqUnion_self, Bool.not_true, cond_false]; exact hn _ trivial) (fun _ _ _ => rfl) _ _ _ trivial
theorem ok_laws_eqUnionS (x0 : List Union) (x1 : List Union) (hx : x0.length ≤ 1048576) : FnT Try.prog 106 [.ro false 4 x0.length (rowOf (cUnion false) x0), .ro false 4 x1.length (rowOf (cUnion false) x1)] (C106 (eqUnionS x0 x1)) := by
  have aux : ∀ R, eqUnionS x0 x1 = R → slim (C106 R) (A106 x0 x1) [] := by
    intro R hR
    refine rg trivial ?_
    refine rg trivial ?_
    revert hR; refine cd (fun hc1 hR => ?_) fun hc1 hR => ?_
    ·
      refine rg trivial ?_
      exact congrArg C106 hR
    ·
      refine rg trivial ?_
      revert hR; refine lN (fun i v => True) (by trivial) rfl fun i1 v1 F1 hn1 hI1 hR hK1 => ?_
      refine rg trivial ?_
      refine ⟨fun hc2 => ?_, fun hc2 => ?_⟩
      · have hii1 : i1 < x0.length := by have := of_decide_eq_true hc2; omega
        replace hR := loopN_step hR hii1
        refine rg ⟨by (intros; omega), by ((try clear hR hK1); intros; (try simp only [decide_eq_true_eq, decide_eq_false_iff_not, Bool.or_eq_true, Bool.and_eq_true, or_f_iff, not_f_iff, not_t_iff, Bool.not_eq_true', inR] at *); (repeat' apply And.intro) <;> (intros; omega)), trivial, trivial⟩ ?_
        revert hR; refine cd (fun hc3 hR => ?_) fun hc3 hR => ?_
        ·
          refine rg trivial ?_
          exact congrArg C106 hR
        ·
          refine rg ⟨by ( intros; simp only [inR]; omega), trivial⟩ ?_
          exact hK1 () hii1 (by trivial) hR
      · obtain rfl : i1 = x0.length := by have := of_decide_eq_false hc2; omega
        replace hR := loopN_end hR (Nat.lt_irrefl _)
        refine rg trivial ?_
        exact congrArg C106 hR
  exact Fn.go 27 Try.func106 (by kernel_rfl) (by kernel_rfl) (by simp [C106, Frs, FrsL]) (A106 x0 x1) (by kernel_rfl) (aux _ rfl)
def k106 (x0 : List Union) (x1 : List Union) : Cl := (hres (C106 (eqUnionS x0 x1)), k1 (ok_laws_eqUnionS x0 x1))
def C44 (R : Bool) : LV × List (Nat × BC) := (.bool R, [])
def eqFamily (x0 : Family) (x1 : Family) : Bool := bif (!(eqPersonS x0.people x1.people)) then false else (bif (!(eqUnionS x0.unions x1.unions)) then false else true)
def A44 (x0 : Family) (x1 : Family) : Ann := r0 1 [2, 3, 4] [2, 3] (.reg 1 [] [(4, k105 x0.people x1.people)] [2, 3, 4, 10] [2, 3] [] [] [] [0] (cn (!(eqPersonS x0.people x1.people)) (r0 1 [2, 3, 4] [2, 3] (rt [] (C44 false))) (.reg 1 [] [(4, k106 x0.unions x1.unions)] [4, 16] [] [] [] [] [0] (cn (!(eqUnionS x0.unions x1.unions)) (r0 1 [4] [] (rt [] (C44 false))) (r0 1 [4] [] (rt [] (C44 true)))))))
theorem eqFamily_self (x : Family) : eqFamily x x = true := by simp [eqFamily, eqPersonS_self, eqUnionS_self]
theorem ok_laws_eqFamily (x0 : Family) (x1 : Family) (hx : x0.people.length ≤ 1048576 ∧ x0.unions.length ≤ 1048576) : FnT Try.prog 44 [.agg (cFamily false x0), .agg (cFamily false x1)] (C44 (eqFamily x0 x1)) := by
  have aux : ∀ R, eqFamily x0 x1 = R → slim (C44 R) (A44 x0 x1) [] := by
    intro R hR
    refine rg trivial ?_
    refine rg ⟨by (intros; omega), trivial⟩ ?_
    revert hR; refine cd (fun hc1 hR => ?_) fun hc1 hR => ?_
    ·
      refine rg trivial ?_
      exact congrArg C44 hR
    ·
      refine rg ⟨by (intros; omega), trivial⟩ ?_
      revert hR; refine cd (fun hc2 hR => ?_) fun hc2 hR => ?_
      ·
        refine rg trivial ?_
        exact congrArg C44 hR
      ·
        refine rg trivial ?_
        exact congrArg C44 hR
  exact Fn.go 17 Try.func44 (by kernel_rfl) (by kernel_rfl) (by simp [C44, Frs, FrsL]) (A44 x0 x1) (by kernel_rfl) (aux _ rfl)
def k44 (x0 : Family) (x1 : Family) : Cl := (hres (C44 (eqFamily x0 x1)), k1 (ok_laws_eqFamily x0 x1))
end Go.Proofs.Ytanfabaedopeiaa
