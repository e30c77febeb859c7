import Derived.Test.YtepefimocflfkaaProg
import Derived.Test.YtepefimocflfkaaLiteS
import Derived.KernelRfl
set_option maxHeartbeats 4000000
set_option linter.unusedSimpArgs false
set_option linter.unusedVariables false
namespace Go.Proofs.Ytepefimocflfkaa
open Go Go.Lite Go.Proofs
structure Person where
  name : List UInt8
  sex : Int
  father : Int
  mother : Int
  born : Int
  died : Int
  deriving Inhabited
def cPerson (fr : Bool) (x : Person) : List LV := cStr x.name ++ cInt .i64 x.sex ++ cInt .i64 x.father ++ cInt .i64 x.mother ++ cInt .i64 x.born ++ cInt .i64 x.died

structure Union where
  man : Int
  woman : Int
  from0 : Int
  to : Int
  deriving Inhabited
def cUnion (fr : Bool) (x : Union) : List LV := cInt .i64 x.man ++ cInt .i64 x.woman ++ cInt .i64 x.from0 ++ cInt .i64 x.to

structure Family where
  people : List Person
  unions : List Union
  deriving Inhabited
def cFamily (fr : Bool) (x : Family) : List LV := cSl fr 6 (cPerson fr) x.people ++ cSl fr 4 (cUnion fr) x.unions

def C115 (R : Int) : LV × List (Nat × BC) := (.int .i64 R, [])
def szPerson (x0 : Person) (x1 : Int) : Int := bif (decide ((x1 - ((x0.name.length : Nat) : Int)) < 0)) then (-1) else (x1 - ((x0.name.length : Nat) : Int))
def A115 (x0 : Person) (x1 : Int) : Ann := r1 2 [1, 4] [] [pf (inR .i64 (x1 - ((x0.name.length : Nat) : Int)))] [0] (r0 1 [1, 4, 11] [] (cn (decide ((x1 - ((x0.name.length : Nat) : Int)) < 0)) (r0 1 [1, 4] [] (rt [] (C115 (-1)))) (r0 1 [4] [] (rt [] (C115 (x1 - ((x0.name.length : Nat) : Int)))))))
theorem szPerson_rng (x : Person) (w : Int) : szPerson x w ≤ max w (-1) ∧ -1 ≤ szPerson x w := by
  unfold szPerson
  cases h : decide (w - (x.name.length : Int) < 0) <;> simp_all <;> omega
theorem ok_laws_szPerson (x0 : Person) (x1 : Int) (hx : x0.name.length ≤ 1048576) (hw : -1 ≤ x1 ∧ x1 ≤ 1048576) : FnT Try.prog 115 [.agg (cPerson false x0), .int .i64 x1] (C115 (szPerson x0 x1)) := by
  have aux : ∀ R, szPerson x0 x1 = R → slim (C115 R) (A115 x0 x1) [] := by
    intro R hR
    refine rg ⟨by ( intros; simp only [inR]; omega), trivial⟩ ?_
    refine rg trivial ?_
    revert hR; refine cd (fun hc1 hR => ?_) fun hc1 hR => ?_
    ·
      refine rg trivial ?_
      exact congrArg C115 hR
    ·
      refine rg trivial ?_
      exact congrArg C115 hR
  exact Fn.go 13 Try.func115 (by kernel_rfl) (by kernel_rfl) (by simp [C115, Frs, FrsL]) (A115 x0 x1) (by kernel_rfl) (aux _ rfl)
def k115 (x0 : Person) (x1 : Int) : Cl := (hres (C115 (szPerson x0 x1)), k2 (ok_laws_szPerson x0 x1))
def C61 (R : Int) : LV × List (Nat × BC) := (.int .i64 R, [])
def szPersonS (x0 : List Person) (x1 : Int) : Int := bif (decide ((x1 - ((x0.length : Nat) : Int)) < 0)) then (-1) else (loopN (fun i1 (v1 : Int) next => bif (decide ((szPerson (x0.getD i1 default) v1) < 0)) then (-1) else (next (szPerson (x0.getD i1 default) v1))) (fun (v1 : Int) => v1) x0.length 0 (x1 - ((x0.length : Nat) : Int)))
def D61b1 (x0 : List Person) (x1 : Int) (i1 : Nat) (v1 : Int) : Dl := ⟨[(5, .int .i64 ((i1 : Nat) : Int)), (1, .int .i64 v1)], []⟩
def A61b1 (x0 : List Person) (x1 : Int) (i1 : Nat) (v1 : Int) : Ann := r0 1 [0, 1, 4, 5, 15] [] (cn (decide (((i1 : Nat) : Int) < ((x0.length : Nat) : Int))) (.reg 2 [] [(5, k115 (x0.getD i1 default) v1)] [0, 1, 4, 5, 25] [] [] [pf (0 ≤ (((i1 : Nat) : Int) : Int) ∧ (((i1 : Nat) : Int) : Int) < ((x0.length : Nat) : Int))] [] [0, 4] (cn (decide ((szPerson (x0.getD i1 default) v1) < 0)) (r0 1 [0, 1, 4, 5] [] (rt [] (C61 (-1)))) (r1 1 [0, 1, 4, 5] [] [pf (inR .i64 (((i1 : Nat) : Int) + 1))] [0] (.next 0 [] (D61b1 x0 x1 (i1 + 1) (szPerson (x0.getD i1 default) v1)))))) (r0 1 [4] [] (rt [] (C61 v1))))
def A61 (x0 : List Person) (x1 : Int) : Ann := r1 2 [0, 1, 4] [] [pf (inR .i64 (x1 - ((x0.length : Nat) : Int)))] [0] (r0 1 [0, 1, 4, 11] [] (cn (decide ((x1 - ((x0.length : Nat) : Int)) < 0)) (r0 1 [0, 1, 4] [] (rt [] (C61 (-1)))) (r0 1 [0, 1, 4, 5] [] (lp (D61b1 x0 x1) [] [] [] (D61b1 x0 x1 0 (x1 - ((x0.length : Nat) : Int))) (A61b1 x0 x1)))))
theorem szPersonS_rng (x : List Person) (w : Int) : szPersonS x w ≤ max w (-1) ∧ -1 ≤ szPersonS x w := by
  unfold szPersonS
  cases h : decide (w - (x.length : Int) < 0)
  · refine loopN_inv (fun _ v => v ≤ max w (-1) ∧ -1 ≤ v) (fun r => r ≤ max w (-1) ∧ -1 ≤ r) (fun i v next hv hn => ?_) (fun _ v hv => hv) _ _ _ ?_
    · have := szPerson_rng (x.getD i default) v
      cases h2 : decide (szPerson (x.getD i default) v < 0)
      · exact hn _ (by omega)
      · simp only [cond_true]; omega
    · have := of_decide_eq_false h
      constructor <;> omega
  · simp only [cond_true]; omega
theorem ok_laws_szPersonS (x0 : List Person) (x1 : Int) (hx : x0.length ≤ 1048576) (hy : ∀ p ∈ x0, p.name.length ≤ 1048576) (hw : -1 ≤ x1 ∧ x1 ≤ 1048576) : FnT Try.prog 61 [.ro false 6 x0.length (rowOf (cPerson false) x0), .int .i64 x1] (C61 (szPersonS x0 x1)) := by
  have aux : ∀ R, szPersonS x0 x1 = R → slim (C61 R) (A61 x0 x1) [] := by
    intro R hR
    refine rg ⟨by ( intros; simp only [inR]; omega), trivial⟩ ?_
    refine rg trivial ?_
    revert hR; refine cd (fun hc1 hR => ?_) fun hc1 hR => ?_
    ·
      refine rg trivial ?_
      exact congrArg C61 hR
    ·
      refine rg trivial ?_
      revert hR; refine lN (fun i v => -1 ≤ v ∧ v ≤ 1048576) (by ((try clear hR); intros; (try simp only [decide_eq_true_eq, decide_eq_false_iff_not, Bool.or_eq_true, Bool.and_eq_true, or_f_iff, not_f_iff, not_t_iff, Bool.not_eq_true', inR] at *); (repeat' apply And.intro) <;> (intros; omega))) rfl fun i1 v1 F1 hn1 hI1 hR hK1 => ?_
      refine rg trivial ?_
      refine ⟨fun hc2 => ?_, fun hc2 => ?_⟩
      · have hii1 : i1 < x0.length := by have := of_decide_eq_true hc2; omega
        replace hR := loopN_step hR hii1
        refine rg ⟨by (intros; omega), ⟨by ((try clear hR hK1); intros; (try simp only [decide_eq_true_eq, decide_eq_false_iff_not, Bool.or_eq_true, Bool.and_eq_true, or_f_iff, not_f_iff, not_t_iff, Bool.not_eq_true', inR] at *); (repeat' apply And.intro) <;> (simp_all [inR]; done)), by trivial⟩, trivial⟩ ?_
        have hp1 := szPerson_rng (x0.getD i1 default) v1
        revert hR; refine cd (fun hc3 hR => ?_) fun hc3 hR => ?_
        ·
          refine rg trivial ?_
          exact congrArg C61 hR
        ·
          refine rg ⟨by ( intros; simp only [inR]; omega), trivial⟩ ?_
          exact hK1 (szPerson (x0.getD i1 default) v1) hii1 (by (intros; omega)) hR
      · obtain rfl : i1 = x0.length := by have := of_decide_eq_false hc2; omega
        replace hR := loopN_end hR (Nat.lt_irrefl _)
        refine rg trivial ?_
        exact congrArg C61 hR
  exact Fn.go 27 Try.func61 (by kernel_rfl) (by kernel_rfl) (by simp [C61, Frs, FrsL]) (A61 x0 x1) (by kernel_rfl) (aux _ rfl)
def k61 (x0 : List Person) (x1 : Int) : Cl := (hres (C61 (szPersonS x0 x1)), k3 (ok_laws_szPersonS x0 x1))
def C62 (R : Int) : LV × List (Nat × BC) := (.int .i64 R, [])
def szUnionS (x0 : List Union) (x1 : Int) : Int := bif (decide ((x1 - ((x0.length : Nat) : Int)) < 0)) then (-1) else (x1 - ((x0.length : Nat) : Int))
def A62 (x0 : List Union) (x1 : Int) : Ann := r1 2 [1, 4] [] [pf (inR .i64 (x1 - ((x0.length : Nat) : Int)))] [0] (r0 1 [1, 4, 10] [] (cn (decide ((x1 - ((x0.length : Nat) : Int)) < 0)) (r0 1 [1, 4] [] (rt [] (C62 (-1)))) (r0 1 [4] [] (rt [] (C62 (x1 - ((x0.length : Nat) : Int)))))))
theorem ok_laws_szUnionS (x0 : List Union) (x1 : Int) (hx : x0.length ≤ 1048576) (hw : -1 ≤ x1 ∧ x1 ≤ 1048576) : FnT Try.prog 62 [.ro false 4 x0.length (rowOf (cUnion false) x0), .int .i64 x1] (C62 (szUnionS x0 x1)) := by
  have aux : ∀ R, szUnionS x0 x1 = R → slim (C62 R) (A62 x0 x1) [] := by
    intro R hR
    refine rg ⟨by ( intros; simp only [inR]; omega), trivial⟩ ?_
    refine rg trivial ?_
    revert hR; refine cd (fun hc1 hR => ?_) fun hc1 hR => ?_
    ·
      refine rg trivial ?_
      exact congrArg C62 hR
    ·
      refine rg trivial ?_
      exact congrArg C62 hR
  exact Fn.go 12 Try.func62 (by kernel_rfl) (by kernel_rfl) (by simp [C62, Frs, FrsL]) (A62 x0 x1) (by kernel_rfl) (aux _ rfl)
def k62 (x0 : List Union) (x1 : Int) : Cl := (hres (C62 (szUnionS x0 x1)), k2 (ok_laws_szUnionS x0 x1))
def C24 (R : Int) : LV × List (Nat × BC) := (.int .i64 R, [])
def szFamily (x0 : Family) (x1 : Int) : Int := bif (decide ((szPersonS x0.people x1) < 0)) then (-1) else (bif (decide ((szUnionS x0.unions (szPersonS x0.people x1)) < 0)) then (-1) else (szUnionS x0.unions (szPersonS x0.people x1)))
def A24 (x0 : Family) (x1 : Int) : Ann := .reg 2 [] [(1003, k61 x0.people x1)] [1, 2, 4] [2] [] [] [] [0] (r0 1 [1, 2, 4, 10] [2] (cn (decide ((szPersonS x0.people x1) < 0)) (r0 1 [1, 2, 4] [2] (rt [] (C24 (-1)))) (.reg 1 [] [(3, k62 x0.unions (szPersonS x0.people x1))] [1, 4] [] [] [] [] [0] (r0 1 [1, 4, 16] [] (cn (decide ((szUnionS x0.unions (szPersonS x0.people x1)) < 0)) (r0 1 [1, 4] [] (rt [] (C24 (-1)))) (r0 1 [4] [] (rt [] (C24 (szUnionS x0.unions (szPersonS x0.people x1))))))))))
theorem ok_laws_szFamily (x0 : Family) (x1 : Int) (hx : x0.people.length ≤ 1048576 ∧ x0.unions.length ≤ 1048576) (hy : ∀ p ∈ x0.people, p.name.length ≤ 1048576) (hw : -1 ≤ x1 ∧ x1 ≤ 1048576) : FnT Try.prog 24 [.agg (cFamily false x0), .int .i64 x1] (C24 (szFamily x0 x1)) := by
  have aux : ∀ R, szFamily x0 x1 = R → slim (C24 R) (A24 x0 x1) [] := by
    intro R hR
    refine rg ⟨⟨by (intros; omega), by trivial, by trivial⟩, trivial⟩ ?_
    have hp1 := szPersonS_rng x0.people x1
    refine rg trivial ?_
    revert hR; refine cd (fun hc1 hR => ?_) fun hc1 hR => ?_
    ·
      refine rg trivial ?_
      exact congrArg C24 hR
    ·
      refine rg ⟨⟨by (intros; omega), by (intros; omega)⟩, trivial⟩ ?_
      refine rg trivial ?_
      revert hR; refine cd (fun hc2 hR => ?_) fun hc2 hR => ?_
      ·
        refine rg trivial ?_
        exact congrArg C24 hR
      ·
        refine rg trivial ?_
        exact congrArg C24 hR
  exact Fn.go 18 Try.func24 (by kernel_rfl) (by kernel_rfl) (by simp [C24, Frs, FrsL]) (A24 x0 x1) (by kernel_rfl) (aux _ rfl)
def k24 (x0 : Family) (x1 : Int) : Cl := (hres (C24 (szFamily x0 x1)), k3 (ok_laws_szFamily x0 x1))
def C116 (R : Person) : LV × List (Nat × BC) := (.agg [.str R.name, .int .i64 R.sex, .int .i64 R.father, .int .i64 R.mother, .int .i64 R.born, .int .i64 R.died], [])
def laws_toPerson_m (x0 : Person) : Person := x0
def A116 (x0 : Person) : Ann := r0 9 [2] [2] (rt [] (C116 x0))
theorem ok_laws_toPerson (x0 : Person) : FnT Try.prog 116 [.agg (cPerson false x0)] (C116 x0) := by
  have aux : ∀ R, laws_toPerson_m x0 = R → slim (C116 R) (A116 x0) [] := by
    intro R hR
    refine rg trivial ?_
    exact congrArg C116 hR
  exact Fn.go 23 Try.func116 (by kernel_rfl) (by kernel_rfl) (by simp [C116, Frs, FrsL]) (A116 x0) (by kernel_rfl) (aux _ rfl)
def k116 (x0 : Person) : Cl := (hres (C116 x0), k0 (ok_laws_toPerson x0))
def C63 (R : (List Person)) : LV × List (Nat × BC) := (.own 0, [(0, .arr 6 R.length (rowOf (cPerson true) R))])
def laws_toPersonS_m (x0 : List Person) : (List Person) := loopN (fun i1 (v1 : (List Person)) next => next (v1.set i1 (x0.getD i1 default))) (fun (v1 : (List Person)) => v1) x0.length 0 (List.replicate x0.length (default : Person))
def D63b1 (x0 : List Person) (i1 : Nat) (v1 : (List Person)) : Dl := ⟨[(4, .int .i64 ((i1 : Nat) : Int)), (3, .own 20003)], [(20003, .arr 6 x0.length (rowOf (cPerson true) v1))]⟩
def A63b1 (x0 : List Person) (i1 : Nat) (v1 : (List Person)) : Ann := r0 1 [0, 2, 3, 4, 11] [20003] (cn (decide (((i1 : Nat) : Int) < ((x0.length : Nat) : Int))) (.reg 1 [] [(6, k116 (x0.getD i1 default)), (8, stC 20003 (cPerson true) x0.length v1 i1 (x0.getD i1 default))] [0, 2, 3, 4] [20003] [] [pf (0 ≤ (((i1 : Nat) : Int) : Int) ∧ (((i1 : Nat) : Int) : Int) < ((x0.length : Nat) : Int))] [] [0, 4, 0, 8] (r1 1 [0, 2, 3, 4] [20003] [pf (inR .i64 (((i1 : Nat) : Int) + 1))] [0] (.next 0 [(20003, some 20003)] (D63b1 x0 (i1 + 1) (v1.set i1 (x0.getD i1 default)))))) (r0 1 [2] [20003] (.co false 20003 v1.length (rowOf (cPerson true) v1) [lnP (rowOf (cPerson true) v1) x0.length v1.length] [] 0 (rt [(0, some 20003)] (C63 v1)))))
def A63 (x0 : List Person) : Ann := .reg 2 [] [(1002, msC 7 (cPerson true) 56 ((x0.length : Nat) : Int) ((x0.length : Nat) : Int) x0.length (default : Person) (rfl))] [0, 2, 3] [7] [] [] [] [0] (r0 1 [0, 2, 3, 4] [7] (lp (D63b1 x0) [] [7] [(20003, some 7)] (D63b1 x0 0 (List.replicate x0.length (default : Person))) (A63b1 x0)))
theorem toPersonS_id (x : List Person) : laws_toPersonS_m x = x := loopN_copy x _ _ _ _ (by simp) (by simp) (fun k hk => absurd hk (by omega))
theorem ok_laws_toPersonS (x0 : List Person) (hx : x0.length ≤ 1048576) : FnT Try.prog 63 [.ro false 6 x0.length (rowOf (cPerson false) x0)] (C63 x0) := by
  have aux : ∀ R, laws_toPersonS_m x0 = R → slim (C63 R) (A63 x0) [] := by
    intro R hR
    refine rg ⟨by (intros; omega), trivial⟩ ?_
    refine rg trivial ?_
    revert hR; refine lN (fun i v => v.length = x0.length) (by ((try clear hR); intros; (try simp only [decide_eq_true_eq, decide_eq_false_iff_not, Bool.or_eq_true, Bool.and_eq_true, or_f_iff, not_f_iff, not_t_iff, Bool.not_eq_true', inR] at *); (repeat' apply And.intro) <;> (simp_all [inR]; done))) rfl fun i1 v1 F1 hn1 hI1 hR hK1 => ?_
    refine rg trivial ?_
    refine ⟨fun hc1 => ?_, fun hc1 => ?_⟩
    · have hii1 : i1 < x0.length := by have := of_decide_eq_true hc1; omega
      replace hR := loopN_step hR hii1
      refine rg ⟨by (intros; omega), trivial, by (intros; omega), trivial⟩ ?_
      refine rg ⟨by ( intros; simp only [inR]; omega), trivial⟩ ?_
      exact hK1 (v1.set i1 (x0.getD i1 default)) hii1 (by ((try clear hR hK1); intros; (try simp only [decide_eq_true_eq, decide_eq_false_iff_not, Bool.or_eq_true, Bool.and_eq_true, or_f_iff, not_f_iff, not_t_iff, Bool.not_eq_true', inR] at *); (repeat' apply And.intro) <;> (simp_all [inR]; done))) hR
    · obtain rfl : i1 = x0.length := by have := of_decide_eq_false hc1; omega
      replace hR := loopN_end hR (Nat.lt_irrefl _)
      refine rg trivial ?_
      refine og (by (intros; omega)) ?_
      exact congrArg C63 hR
  exact Fn.go 23 Try.func63 (by kernel_rfl) (by kernel_rfl) (by simp [C63, Frs, FrsL, FrsB, rowOf, cInt, cBool, cStr, cSl, FrsL_app, cPerson, cUnion, cFamily]) (A63 x0) (by kernel_rfl) (aux _ (toPersonS_id x0))
def k63 (x0 : List Person) : Cl := (hres (C63 x0), k1 (ok_laws_toPersonS x0))
def C117 (R : Union) : LV × List (Nat × BC) := (.agg [.int .i64 R.man, .int .i64 R.woman, .int .i64 R.from0, .int .i64 R.to], [])
def laws_toUnion_m (x0 : Union) : Union := x0
def A117 (x0 : Union) : Ann := r0 7 [2] [2] (rt [] (C117 x0))
theorem ok_laws_toUnion (x0 : Union) : FnT Try.prog 117 [.agg (cUnion false x0)] (C117 x0) := by
  have aux : ∀ R, laws_toUnion_m x0 = R → slim (C117 R) (A117 x0) [] := by
    intro R hR
    refine rg trivial ?_
    exact congrArg C117 hR
  exact Fn.go 17 Try.func117 (by kernel_rfl) (by kernel_rfl) (by simp [C117, Frs, FrsL]) (A117 x0) (by kernel_rfl) (aux _ rfl)
def k117 (x0 : Union) : Cl := (hres (C117 x0), k0 (ok_laws_toUnion x0))
def C64 (R : (List Union)) : LV × List (Nat × BC) := (.own 0, [(0, .arr 4 R.length (rowOf (cUnion true) R))])
def laws_toUnionS_m (x0 : List Union) : (List Union) := loopN (fun i1 (v1 : (List Union)) next => next (v1.set i1 (x0.getD i1 default))) (fun (v1 : (List Union)) => v1) x0.length 0 (List.replicate x0.length (default : Union))
def D64b1 (x0 : List Union) (i1 : Nat) (v1 : (List Union)) : Dl := ⟨[(4, .int .i64 ((i1 : Nat) : Int)), (3, .own 20003)], [(20003, .arr 4 x0.length (rowOf (cUnion true) v1))]⟩
def A64b1 (x0 : List Union) (i1 : Nat) (v1 : (List Union)) : Ann := r0 1 [0, 2, 3, 4, 11] [20003] (cn (decide (((i1 : Nat) : Int) < ((x0.length : Nat) : Int))) (.reg 1 [] [(6, k117 (x0.getD i1 default)), (8, stC 20003 (cUnion true) x0.length v1 i1 (x0.getD i1 default))] [0, 2, 3, 4] [20003] [] [pf (0 ≤ (((i1 : Nat) : Int) : Int) ∧ (((i1 : Nat) : Int) : Int) < ((x0.length : Nat) : Int))] [] [0, 4, 0, 8] (r1 1 [0, 2, 3, 4] [20003] [pf (inR .i64 (((i1 : Nat) : Int) + 1))] [0] (.next 0 [(20003, some 20003)] (D64b1 x0 (i1 + 1) (v1.set i1 (x0.getD i1 default)))))) (r0 1 [2] [20003] (.co false 20003 v1.length (rowOf (cUnion true) v1) [lnP (rowOf (cUnion true) v1) x0.length v1.length] [] 0 (rt [(0, some 20003)] (C64 v1)))))
def A64 (x0 : List Union) : Ann := .reg 2 [] [(1002, msC 7 (cUnion true) 32 ((x0.length : Nat) : Int) ((x0.length : Nat) : Int) x0.length (default : Union) (rfl))] [0, 2, 3] [7] [] [] [] [0] (r0 1 [0, 2, 3, 4] [7] (lp (D64b1 x0) [] [7] [(20003, some 7)] (D64b1 x0 0 (List.replicate x0.length (default : Union))) (A64b1 x0)))
theorem toUnionS_id (x : List Union) : laws_toUnionS_m x = x := loopN_copy x _ _ _ _ (by simp) (by simp) (fun k hk => absurd hk (by omega))
theorem ok_laws_toUnionS (x0 : List Union) (hx : x0.length ≤ 1048576) : FnT Try.prog 64 [.ro false 4 x0.length (rowOf (cUnion false) x0)] (C64 x0) := by
  have aux : ∀ R, laws_toUnionS_m x0 = R → slim (C64 R) (A64 x0) [] := by
    intro R hR
    refine rg ⟨by (intros; omega), trivial⟩ ?_
    refine rg trivial ?_
    revert hR; refine lN (fun i v => v.length = x0.length) (by ((try clear hR); intros; (try simp only [decide_eq_true_eq, decide_eq_false_iff_not, Bool.or_eq_true, Bool.and_eq_true, or_f_iff, not_f_iff, not_t_iff, Bool.not_eq_true', inR] at *); (repeat' apply And.intro) <;> (simp_all [inR]; done))) rfl fun i1 v1 F1 hn1 hI1 hR hK1 => ?_
    refine rg trivial ?_
    refine ⟨fun hc1 => ?_, fun hc1 => ?_⟩
    · have hii1 : i1 < x0.length := by have := of_decide_eq_true hc1; omega
      replace hR := loopN_step hR hii1
      refine rg ⟨by (intros; omega), trivial, by (intros; omega), trivial⟩ ?_
      refine rg ⟨by ( intros; simp only [inR]; omega), trivial⟩ ?_
      exact hK1 (v1.set i1 (x0.getD i1 default)) hii1 (by ((try clear hR hK1); intros; (try simp only [decide_eq_true_eq, decide_eq_false_iff_not, Bool.or_eq_true, Bool.and_eq_true, or_f_iff, not_f_iff, not_t_iff, Bool.not_eq_true', inR] at *); (repeat' apply And.intro) <;> (simp_all [inR]; done))) hR
    · obtain rfl : i1 = x0.length := by have := of_decide_eq_false hc1; omega
      replace hR := loopN_end hR (Nat.lt_irrefl _)
      refine rg trivial ?_
      refine og (by (intros; omega)) ?_
      exact congrArg C64 hR
  exact Fn.go 23 Try.func64 (by kernel_rfl) (by kernel_rfl) (by simp [C64, Frs, FrsL, FrsB, rowOf, cInt, cBool, cStr, cSl, FrsL_app, cPerson, cUnion, cFamily]) (A64 x0) (by kernel_rfl) (aux _ (toUnionS_id x0))
def k64 (x0 : List Union) : Cl := (hres (C64 x0), k1 (ok_laws_toUnionS x0))
def C25 (R : Family) : LV × List (Nat × BC) := (.agg [.own 0, .own 1], [(0, .arr 6 R.people.length (rowOf (cPerson true) R.people)), (1, .arr 4 R.unions.length (rowOf (cUnion true) R.unions))])
def laws_toFamily_m (x0 : Family) : Family := x0
def A25 (x0 : Family) : Ann := .reg 5 [] [(2002, k63 x0.people), (3002, k64 x0.unions)] [2] [2, 1006, 1010] [] [] [] [0, 4] (rt [(0, some 1006), (1, some 1010)] (C25 x0))
theorem ok_laws_toFamily (x0 : Family) (hx : x0.people.length ≤ 1048576 ∧ x0.unions.length ≤ 1048576) : FnT Try.prog 25 [.agg (cFamily false x0)] (C25 x0) := by
  have aux : ∀ R, laws_toFamily_m x0 = R → slim (C25 R) (A25 x0) [] := by
    intro R hR
    refine rg ⟨by (intros; omega), by (intros; omega), trivial⟩ ?_
    exact congrArg C25 hR
  exact Fn.go 13 Try.func25 (by kernel_rfl) (by kernel_rfl) (by simp [C25, Frs, FrsL, FrsB, rowOf, cInt, cBool, cStr, cSl, FrsL_app, cPerson, cUnion, cFamily]) (A25 x0) (by kernel_rfl) (aux _ rfl)
def k25 (x0 : Family) : Cl := (hres (C25 x0), k1 (ok_laws_toFamily x0))
def C122 (R : Bool) : LV × List (Nat × BC) := (.bool R, [])
def eqPerson (x0 : Person) (x1 : Person) : Bool := bif (!(x0.name == x1.name)) then false else (bif (!decide (x0.sex = x1.sex)) then false else (bif (!decide (x0.father = x1.father)) then false else (bif (!decide (x0.mother = x1.mother)) then false else (bif (!decide (x0.born = x1.born)) then false else (bif (!decide (x0.died = x1.died)) then false else true)))))
def A122 (x0 : Person) (x1 : Person) : Ann := r0 1 [2, 3, 4] [2, 3] (r0 1 [2, 3, 4, 9] [2, 3] (cn (!(x0.name == x1.name)) (r0 1 [2, 3, 4] [2, 3] (rt [] (C122 false))) (r0 1 [2, 3, 4, 14] [2, 3] (cn (!decide (x0.sex = x1.sex)) (r0 1 [2, 3, 4] [2, 3] (rt [] (C122 false))) (r0 1 [2, 3, 4, 19] [2, 3] (cn (!decide (x0.father = x1.father)) (r0 1 [2, 3, 4] [2, 3] (rt [] (C122 false))) (r0 1 [2, 3, 4, 24] [2, 3] (cn (!decide (x0.mother = x1.mother)) (r0 1 [2, 3, 4] [2, 3] (rt [] (C122 false))) (r0 1 [2, 3, 4, 29] [2, 3] (cn (!decide (x0.born = x1.born)) (r0 1 [2, 3, 4] [2, 3] (rt [] (C122 false))) (r0 1 [4, 34] [] (cn (!decide (x0.died = x1.died)) (r0 1 [4] [] (rt [] (C122 false))) (r0 1 [4] [] (rt [] (C122 true)))))))))))))))
theorem eqPerson_self (x : Person) : eqPerson x x = true := by simp [eqPerson]
theorem ok_laws_eqPerson (x0 : Person) (x1 : Person) : FnT Try.prog 122 [.agg (cPerson false x0), .agg (cPerson false x1)] (C122 (eqPerson x0 x1)) := by
  have aux : ∀ R, eqPerson x0 x1 = R → slim (C122 R) (A122 x0 x1) [] := by
    intro R hR
    refine rg trivial ?_
    refine rg trivial ?_
    revert hR; refine cd (fun hc1 hR => ?_) fun hc1 hR => ?_
    ·
      refine rg trivial ?_
      exact congrArg C122 hR
    ·
      refine rg trivial ?_
      revert hR; refine cd (fun hc2 hR => ?_) fun hc2 hR => ?_
      ·
        refine rg trivial ?_
        exact congrArg C122 hR
      ·
        refine rg trivial ?_
        revert hR; refine cd (fun hc3 hR => ?_) fun hc3 hR => ?_
        ·
          refine rg trivial ?_
          exact congrArg C122 hR
        ·
          refine rg trivial ?_
          revert hR; refine cd (fun hc4 hR => ?_) fun hc4 hR => ?_
          ·
            refine rg trivial ?_
            exact congrArg C122 hR
          ·
            refine rg trivial ?_
            revert hR; refine cd (fun hc5 hR => ?_) fun hc5 hR => ?_
            ·
              refine rg trivial ?_
              exact congrArg C122 hR
            ·
              refine rg trivial ?_
              revert hR; refine cd (fun hc6 hR => ?_) fun hc6 hR => ?_
              ·
                refine rg trivial ?_
                exact congrArg C122 hR
              ·
                refine rg trivial ?_
                exact congrArg C122 hR
  exact Fn.go 35 Try.func122 (by kernel_rfl) (by kernel_rfl) (by simp [C122, Frs, FrsL]) (A122 x0 x1) (by kernel_rfl) (aux _ rfl)
def k122 (x0 : Person) (x1 : Person) : Cl := (hres (C122 (eqPerson x0 x1)), k0 (ok_laws_eqPerson x0 x1))
def C66 (R : Bool) : LV × List (Nat × BC) := (.bool R, [])
def eqPersonS (x0 : List Person) (x1 : List Person) : Bool := bif (!decide (((x0.length : Nat) : Int) = ((x1.length : Nat) : Int))) then false else (loopN (fun i1 (v1 : Unit) next => bif (!(eqPerson (x0.getD i1 default) (x1.getD i1 default))) then false else (next ())) (fun (v1 : Unit) => true) x0.length 0 ())
def D66b1 (x0 : List Person) (x1 : List Person) (i1 : Nat) (v1 : Unit) : Dl := ⟨[(5, .int .i64 ((i1 : Nat) : Int))], []⟩
def A66b1 (x0 : List Person) (x1 : List Person) (i1 : Nat) (v1 : Unit) : Ann := r0 1 [0, 1, 4, 5, 14] [] (cn (decide (((i1 : Nat) : Int) < ((x0.length : Nat) : Int))) (.reg 1 [] [(8, k122 (x0.getD i1 default) (x1.getD i1 default))] [0, 1, 4, 5, 26] [] [] [pf (0 ≤ (((i1 : Nat) : Int) : Int) ∧ (((i1 : Nat) : Int) : Int) < ((x0.length : Nat) : Int)), pf (0 ≤ (((i1 : Nat) : Int) : Int) ∧ (((i1 : Nat) : Int) : Int) < ((x1.length : Nat) : Int))] [] [0, 4, 8] (cn (!(eqPerson (x0.getD i1 default) (x1.getD i1 default))) (r0 1 [0, 1, 4, 5] [] (rt [] (C66 false))) (r1 1 [0, 1, 4, 5] [] [pf (inR .i64 (((i1 : Nat) : Int) + 1))] [0] (.next 0 [] (D66b1 x0 x1 (i1 + 1) ()))))) (r0 1 [4] [] (rt [] (C66 true))))
def A66 (x0 : List Person) (x1 : List Person) : Ann := r0 1 [0, 1, 4] [] (r0 1 [0, 1, 4, 10] [] (cn (!decide (((x0.length : Nat) : Int) = ((x1.length : Nat) : Int))) (r0 1 [0, 1, 4] [] (rt [] (C66 false))) (r0 1 [0, 1, 4, 5] [] (lp (D66b1 x0 x1) [] [] [] (D66b1 x0 x1 0 ()) (A66b1 x0 x1)))))
theorem eqPersonS_self (x : List Person) : eqPersonS x x = true := by
  simp only [eqPersonS, decide_true, Bool.not_true, cond_false]
  exact loopN_inv (fun _ _ => True) (fun r => r = true) (fun i v next _ hn => by simp only [eqPerson_self, Bool.not_true, cond_false]; exact hn _ trivial) (fun _ _ _ => rfl) _ _ _ trivial
theorem ok_laws_eqPersonS (x0 : List Person) (x1 : List Person) (hx : x0.length ≤ 1048576) : FnT Try.prog 66 [.ro false 6 x0.length (rowOf (cPerson false) x0), .ro false 6 x1.length (rowOf (cPerson false) x1)] (C66 (eqPersonS x0 x1)) := by
  have aux : ∀ R, eqPersonS x0 x1 = R → slim (C66 R) (A66 x0 x1) [] := by
    intro R hR
    refine rg trivial ?_
    refine rg trivial ?_
    revert hR; refine cd (fun hc1 hR => ?_) fun hc1 hR => ?_
    ·
      refine rg trivial ?_
      exact congrArg C66 hR
    ·
      refine rg trivial ?_
      revert hR; refine lN (fun i v => True) (by trivial) rfl fun i1 v1 F1 hn1 hI1 hR hK1 => ?_
      refine rg trivial ?_
      refine ⟨fun hc2 => ?_, fun hc2 => ?_⟩
      · have hii1 : i1 < x0.length := by have := of_decide_eq_true hc2; omega
        replace hR := loopN_step hR hii1
        refine rg ⟨by (intros; omega), by ((try clear hR hK1); intros; (try simp only [decide_eq_true_eq, decide_eq_false_iff_not, Bool.or_eq_true, Bool.and_eq_true, or_f_iff, not_f_iff, not_t_iff, Bool.not_eq_true', inR] at *); (repeat' apply And.intro) <;> (intros; omega)), trivial, trivial⟩ ?_
        revert hR; refine cd (fun hc3 hR => ?_) fun hc3 hR => ?_
        ·
          refine rg trivial ?_
          exact congrArg C66 hR
        ·
          refine rg ⟨by ( intros; simp only [inR]; omega), trivial⟩ ?_
          exact hK1 () hii1 (by trivial) hR
      · obtain rfl : i1 = x0.length := by have := of_decide_eq_false hc2; omega
        replace hR := loopN_end hR (Nat.lt_irrefl _)
        refine rg trivial ?_
        exact congrArg C66 hR
  exact Fn.go 27 Try.func66 (by kernel_rfl) (by kernel_rfl) (by simp [C66, Frs, FrsL]) (A66 x0 x1) (by kernel_rfl) (aux _ rfl)
def k66 (x0 : List Person) (x1 : List Person) : Cl := (hres (C66 (eqPersonS x0 x1)), k1 (ok_laws_eqPersonS x0 x1))
def C123 (R : Bool) : LV × List (Nat × BC) := (.bool R, [])
def eqUnion (x0 : Union) (x1 : Union) : Bool := bif (!decide (x0.man = x1.man)) then false else (bif (!decide (x0.woman = x1.woman)) then false else (bif (!decide (x0.from0 = x1.from0)) then false else (bif (!decide (x0.to = x1.to)) then false else true)))
def A123 (x0 : Union) (x1 : Union) : Ann := r0 1 [2, 3, 4] [2, 3] (r0 1 [2, 3, 4, 9] [2, 3] (cn (!decide (x0.man = x1.man)) (r0 1 [2, 3, 4] [2, 3] (rt [] (C123 false))) (r0 1 [2, 3, 4, 14] [2, 3] (cn (!decide (x0.woman = x1.woman)) (r0 1 [2, 3, 4] [2, 3] (rt [] (C123 false))) (r0 1 [2, 3, 4, 19] [2, 3] (cn (!decide (x0.from0 = x1.from0)) (r0 1 [2, 3, 4] [2, 3] (rt [] (C123 false))) (r0 1 [4, 24] [] (cn (!decide (x0.to = x1.to)) (r0 1 [4] [] (rt [] (C123 false))) (r0 1 [4] [] (rt [] (C123 true)))))))))))
theorem eqUnion_self (x : Union) : eqUnion x x = true := by simp [eqUnion]
theorem ok_laws_eqUnion (x0 : Union) (x1 : Union) : FnT Try.prog 123 [.agg (cUnion false x0), .agg (cUnion false x1)] (C123 (eqUnion x0 x1)) := by
  have aux : ∀ R, eqUnion x0 x1 = R → slim (C123 R) (A123 x0 x1) [] := by
    intro R hR
    refine rg trivial ?_
    refine rg trivial ?_
    revert hR; refine cd (fun hc1 hR => ?_) fun hc1 hR => ?_
    ·
      refine rg trivial ?_
      exact congrArg C123 hR
    ·
      refine rg trivial ?_
      revert hR; refine cd (fun hc2 hR => ?_) fun hc2 hR => ?_
      ·
        refine rg trivial ?_
        exact congrArg C123 hR
      ·
        refine rg trivial ?_
        revert hR; refine cd (fun hc3 hR => ?_) fun hc3 hR => ?_
        ·
          refine rg trivial ?_
          exact congrArg C123 hR
        ·
          refine rg trivial ?_
          revert hR; refine cd (fun hc4 hR => ?_) fun hc4 hR => ?_
          ·
            refine rg trivial ?_
            exact congrArg C123 hR
          ·
            refine rg trivial ?_
            exact congrArg C123 hR
  exact Fn.go 25 Try.func123 (by kernel_rfl) (by kernel_rfl) (by simp [C123, Frs, FrsL]) (A123 x0 x1) (by kernel_rfl) (aux _ rfl)
def k123 (x0 : Union) (x1 : Union) : Cl := (hres (C123 (eqUnion x0 x1)), k0 (ok_laws_eqUnion x0 x1))
def C67 (R : Bool) : LV × List (Nat × BC) := (.bool R, [])
def eqUnionS (x0 : List Union) (x1 : List Union) : Bool := bif (!decide (((x0.length : Nat) : Int) = ((x1.length : Nat) : Int))) then false else (loopN (fun i1 (v1 : Unit) next => bif (!(eqUnion (x0.getD i1 default) (x1.getD i1 default))) then false else (next ())) (fun (v1 : Unit) => true) x0.length 0 ())
def D67b1 (x0 : List Union) (x1 : List Union) (i1 : Nat) (v1 : Unit) : Dl := ⟨[(5, .int .i64 ((i1 : Nat) : Int))], []⟩
def A67b1 (x0 : List Union) (x1 : List Union) (i1 : Nat) (v1 : Unit) : Ann := r0 1 [0, 1, 4, 5, 14] [] (cn (decide (((i1 : Nat) : Int) < ((x0.length : Nat) : Int))) (.reg 1 [] [(8, k123 (x0.getD i1 default) (x1.getD i1 default))] [0, 1, 4, 5, 26] [] [] [pf (0 ≤ (((i1 : Nat) : Int) : Int) ∧ (((i1 : Nat) : Int) : Int) < ((x0.length : Nat) : Int)), pf (0 ≤ (((i1 : Nat) : Int) : Int) ∧ (((i1 : Nat) : Int) : Int) < ((x1.length : Nat) : Int))] [] [0, 4, 8] (cn (!(eqUnion (x0.getD i1 default) (x1.getD i1 default))) (r0 1 [0, 1, 4, 5] [] (rt [] (C67 false))) (r1 1 [0, 1, 4, 5] [] [pf (inR .i64 (((i1 : Nat) : Int) + 1))] [0] (.next 0 [] (D67b1 x0 x1 (i1 + 1) ()))))) (r0 1 [4] [] (rt [] (C67 true))))
def A67 (x0 : List Union) (x1 : List Union) : Ann := r0 1 [0, 1, 4] [] (r0 1 [0, 1, 4, 10] [] (cn (!decide (((x0.length : Nat) : Int) = ((x1.length : Nat) : Int))) (r0 1 [0, 1, 4] [] (rt [] (C67 false))) (r0 1 [0, 1, 4, 5] [] (lp (D67b1 x0 x1) [] [] [] (D67b1 x0 x1 0 ()) (A67b1 x0 x1)))))
theorem eqUnionS_self (x : List Union) : eqUnionS x x = true := by
  simp only [eqUnionS, decide_true, Bool.not_true, cond_false]
  exact loopN_inv (fun _ _ => True) (fun r => r = true) (fun i v next _ hn => by simp only [eqUnion_self, Bool.not_true, cond_false]; exact hn _ trivial) (fun _ _ _ => rfl) _ _ _ trivial
theorem ok_laws_eqUnionS (x0 : List Union) (x1 : List Union) (hx : x0.length ≤ 1048576) : FnT Try.prog 67 [.ro false 4 x0.length (rowOf (cUnion false) x0), .ro false 4 x1.length (rowOf (cUnion false) x1)] (C67 (eqUnionS x0 x1)) := by
  have aux : ∀ R, eqUnionS x0 x1 = R → slim (C67 R) (A67 x0 x1) [] := by
    intro R hR
    refine rg trivial ?_
    refine rg trivial ?_
    revert hR; refine cd (fun hc1 hR => ?_) fun hc1 hR => ?_
    ·
      refine rg trivial ?_
      exact congrArg C67 hR
    ·
      refine rg trivial ?_
      revert hR; refine lN (fun i v => True) (by trivial) rfl fun i1 v1 F1 hn1 hI1 hR hK1 => ?_
      refine rg trivial ?_
      refine ⟨fun hc2 => ?_, fun hc2 => ?_⟩
      · have hii1 : i1 < x0.length := by have := of_decide_eq_true hc2; omega
        replace hR := loopN_step hR hii1
        refine rg ⟨by (intros; omega), by ((try clear hR hK1); intros; (try simp only [decide_eq_true_eq, decide_eq_false_iff_not, Bool.or_eq_true, Bool.and_eq_true, or_f_iff, not_f_iff, not_t_iff, Bool.not_eq_true', inR] at *); (repeat' apply And.intro) <;> (intros; omega)), trivial, trivial⟩ ?_
        revert hR; refine cd (fun hc3 hR => ?_) fun hc3 hR => ?_
        ·
          refine rg trivial ?_
          exact congrArg C67 hR
        ·
          refine rg ⟨by ( intros; simp only [inR]; omega), trivial⟩ ?_
          exact hK1 () hii1 (by trivial) hR
      · obtain rfl : i1 = x0.length := by have := of_decide_eq_false hc2; omega
        replace hR := loopN_end hR (Nat.lt_irrefl _)
        refine rg trivial ?_
        exact congrArg C67 hR
  exact Fn.go 27 Try.func67 (by kernel_rfl) (by kernel_rfl) (by simp [C67, Frs, FrsL]) (A67 x0 x1) (by kernel_rfl) (aux _ rfl)
def k67 (x0 : List Union) (x1 : List Union) : Cl := (hres (C67 (eqUnionS x0 x1)), k1 (ok_laws_eqUnionS x0 x1))
def C27 (R : Bool) : LV × List (Nat × BC) := (.bool R, [])
def eqFamily (x0 : Family) (x1 : Family) : Bool := bif (!(eqPersonS x0.people x1.people)) then false else (bif (!(eqUnionS x0.unions x1.unions)) then false else true)
def A27 (x0 : Family) (x1 : Family) : Ann := r0 1 [2, 3, 4] [2, 3] (.reg 1 [] [(4, k66 x0.people x1.people)] [2, 3, 4, 10] [2, 3] [] [] [] [0] (cn (!(eqPersonS x0.people x1.people)) (r0 1 [2, 3, 4] [2, 3] (rt [] (C27 false))) (.reg 1 [] [(4, k67 x0.unions x1.unions)] [4, 16] [] [] [] [] [0] (cn (!(eqUnionS x0.unions x1.unions)) (r0 1 [4] [] (rt [] (C27 false))) (r0 1 [4] [] (rt [] (C27 true)))))))
theorem eqFamily_self (x : Family) : eqFamily x x = true := by simp [eqFamily, eqPersonS_self, eqUnionS_self]
theorem ok_laws_eqFamily (x0 : Family) (x1 : Family) (hx : x0.people.length ≤ 1048576 ∧ x0.unions.length ≤ 1048576) : FnT Try.prog 27 [.agg (cFamily false x0), .agg (cFamily false x1)] (C27 (eqFamily x0 x1)) := by
  have aux : ∀ R, eqFamily x0 x1 = R → slim (C27 R) (A27 x0 x1) [] := by
    intro R hR
    refine rg trivial ?_
    refine rg ⟨by (intros; omega), trivial⟩ ?_
    revert hR; refine cd (fun hc1 hR => ?_) fun hc1 hR => ?_
    ·
      refine rg trivial ?_
      exact congrArg C27 hR
    ·
      refine rg ⟨by (intros; omega), trivial⟩ ?_
      revert hR; refine cd (fun hc2 hR => ?_) fun hc2 hR => ?_
      ·
        refine rg trivial ?_
        exact congrArg C27 hR
      ·
        refine rg trivial ?_
        exact congrArg C27 hR
  exact Fn.go 17 Try.func27 (by kernel_rfl) (by kernel_rfl) (by simp [C27, Frs, FrsL]) (A27 x0 x1) (by kernel_rfl) (aux _ rfl)
def k27 (x0 : Family) (x1 : Family) : Cl := (hres (C27 (eqFamily x0 x1)), k1 (ok_laws_eqFamily x0 x1))
end Go.Proofs.Ytepefimocflfkaa
