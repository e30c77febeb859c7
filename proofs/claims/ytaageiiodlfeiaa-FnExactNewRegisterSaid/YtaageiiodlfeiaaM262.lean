import Derived.Test.YtaageiiodlfeiaaRN3
set_option maxHeartbeats 4000000
set_option linter.unusedSimpArgs false
set_option linter.unusedVariables false
namespace Go.Proofs.Ytaageiiodlfeiaa
open Go Go.Lite Go.Proofs
def C25 (R : Terminology) : LV × List (Nat × BC) := (.agg [.own 0, .own 1], [(0, .arr 5 R.rules.length (rowOf (cRule true) R.rules)), (1, .arr 3 R.entries.length (rowOf (cEntry true) R.entries))])
def specSampT (x0 : List UInt8) : Terminology := jn (fun K1 => bif (x0 == [103, 101, 110, 101, 114, 97, 116, 105, 111, 110]) then (K1 16) else (bif (x0 == [109, 101, 114, 103, 105, 110, 103]) then (K1 28) else (bif (x0 == [115, 107, 101, 119, 105, 110, 103]) then (K1 24) else (K1 0)))) (fun (j1 : Int) => loopW (fun (v1 : Int × (List Entry)) next => bif (decide (v1.1 < j1)) then (next (v1.1 + 2, (v1.2 ++ [(Entry.mk ((specParType (([[70], [102, 97, 116, 104, 101, 114], [77], [109, 111, 116, 104, 101, 114], [66], [98, 114, 111, 116, 104, 101, 114], [90], [115, 105, 115, 116, 101, 114], [83], [115, 111, 110], [68], [100, 97, 117, 103, 104, 116, 101, 114], [72], [104, 117, 115, 98, 97, 110, 100], [87], [119, 105, 102, 101], [70, 90], [97, 117, 110, 116], [77, 66], [117, 110, 99, 108, 101], [70, 90, 83], [99, 111, 117, 115, 105, 110], [70, 90, 68], [99, 111, 117, 115, 105, 110], [77, 66, 83], [99, 111, 117, 115, 105, 110], [77, 66, 68], [99, 111, 117, 115, 105, 110]] : List (List UInt8)).getD v1.1.toNat default)).1) (([[70], [102, 97, 116, 104, 101, 114], [77], [109, 111, 116, 104, 101, 114], [66], [98, 114, 111, 116, 104, 101, 114], [90], [115, 105, 115, 116, 101, 114], [83], [115, 111, 110], [68], [100, 97, 117, 103, 104, 116, 101, 114], [72], [104, 117, 115, 98, 97, 110, 100], [87], [119, 105, 102, 101], [70, 90], [97, 117, 110, 116], [77, 66], [117, 110, 99, 108, 101], [70, 90, 83], [99, 111, 117, 115, 105, 110], [70, 90, 68], [99, 111, 117, 115, 105, 110], [77, 66, 83], [99, 111, 117, 115, 105, 110], [77, 66, 68], [99, 111, 117, 115, 105, 110]] : List (List UInt8)).getD ((v1.1 + 1).toNat) default))]))) else (Terminology.mk (specSampR x0) v1.2)) (((28 : Int) - 0).toNat + 1) (0, ([] : List Entry)))
def D25j1 (x0 : List UInt8) (j1 : Int) : Dl := ⟨[(5, .int .i64 j1)], []⟩
def D25b1 (x0 : List UInt8) (j1 : Int) (v1 : Int × (List Entry)) : Dl := ⟨[(6, .int .i64 v1.1)], [(30301, .arr 3 v1.2.length (rowOf (cEntry true) v1.2)), (3, .var [.own 1010, .own 30301])]⟩
def A25b1 (x0 : List UInt8) (j1 : Int) (v1 : Int × (List Entry)) : Ann := r0 1 [2, 3, 4, 5, 6, 22] [2, 3, 12, 1010, 30301] (cn (decide (v1.1 < j1)) (.reg 1 [] [(4, k62 (([[70], [102, 97, 116, 104, 101, 114], [77], [109, 111, 116, 104, 101, 114], [66], [98, 114, 111, 116, 104, 101, 114], [90], [115, 105, 115, 116, 101, 114], [83], [115, 111, 110], [68], [100, 97, 117, 103, 104, 116, 101, 114], [72], [104, 117, 115, 98, 97, 110, 100], [87], [119, 105, 102, 101], [70, 90], [97, 117, 110, 116], [77, 66], [117, 110, 99, 108, 101], [70, 90, 83], [99, 111, 117, 115, 105, 110], [70, 90, 68], [99, 111, 117, 115, 105, 110], [77, 66, 83], [99, 111, 117, 115, 105, 110], [77, 66, 68], [99, 111, 117, 115, 105, 110]] : List (List UInt8)).getD v1.1.toNat default))] [2, 3, 4, 5, 6, 7] [2, 3, 7, 12, 1010, 1030, 30301] [] [pf (0 ≤ (v1.1 : Int) ∧ (v1.1 : Int) < ((28 : Nat) : Int))] [] [0, 4] (.reg 1 [] [(9, bsC 42 (cEntry true) ([(Entry.mk ((specParType (([[70], [102, 97, 116, 104, 101, 114], [77], [109, 111, 116, 104, 101, 114], [66], [98, 114, 111, 116, 104, 101, 114], [90], [115, 105, 115, 116, 101, 114], [83], [115, 111, 110], [68], [100, 97, 117, 103, 104, 116, 101, 114], [72], [104, 117, 115, 98, 97, 110, 100], [87], [119, 105, 102, 101], [70, 90], [97, 117, 110, 116], [77, 66], [117, 110, 99, 108, 101], [70, 90, 83], [99, 111, 117, 115, 105, 110], [70, 90, 68], [99, 111, 117, 115, 105, 110], [77, 66, 83], [99, 111, 117, 115, 105, 110], [77, 66, 68], [99, 111, 117, 115, 105, 110]] : List (List UInt8)).getD v1.1.toNat default)).1) (([[70], [102, 97, 116, 104, 101, 114], [77], [109, 111, 116, 104, 101, 114], [66], [98, 114, 111, 116, 104, 101, 114], [90], [115, 105, 115, 116, 101, 114], [83], [115, 111, 110], [68], [100, 97, 117, 103, 104, 116, 101, 114], [72], [104, 117, 115, 98, 97, 110, 100], [87], [119, 105, 102, 101], [70, 90], [97, 117, 110, 116], [77, 66], [117, 110, 99, 108, 101], [70, 90, 83], [99, 111, 117, 115, 105, 110], [70, 90, 68], [99, 111, 117, 115, 105, 110], [77, 66, 83], [99, 111, 117, 115, 105, 110], [77, 66, 68], [99, 111, 117, 115, 105, 110]] : List (List UInt8)).getD ((v1.1 + 1).toNat) default))] : List Entry)), (10, ap1 43 (cEntry true) 48 v1.2 (Entry.mk ((specParType (([[70], [102, 97, 116, 104, 101, 114], [77], [109, 111, 116, 104, 101, 114], [66], [98, 114, 111, 116, 104, 101, 114], [90], [115, 105, 115, 116, 101, 114], [83], [115, 111, 110], [68], [100, 97, 117, 103, 104, 116, 101, 114], [72], [104, 117, 115, 98, 97, 110, 100], [87], [119, 105, 102, 101], [70, 90], [97, 117, 110, 116], [77, 66], [117, 110, 99, 108, 101], [70, 90, 83], [99, 111, 117, 115, 105, 110], [70, 90, 68], [99, 111, 117, 115, 105, 110], [77, 66, 83], [99, 111, 117, 115, 105, 110], [77, 66, 68], [99, 111, 117, 115, 105, 110]] : List (List UInt8)).getD v1.1.toNat default)).1) (([[70], [102, 97, 116, 104, 101, 114], [77], [109, 111, 116, 104, 101, 114], [66], [98, 114, 111, 116, 104, 101, 114], [90], [115, 105, 115, 116, 101, 114], [83], [115, 111, 110], [68], [100, 97, 117, 103, 104, 116, 101, 114], [72], [104, 117, 115, 98, 97, 110, 100], [87], [119, 105, 102, 101], [70, 90], [97, 117, 110, 116], [77, 66], [117, 110, 99, 108, 101], [70, 90, 83], [99, 111, 117, 115, 105, 110], [70, 90, 68], [99, 111, 117, 115, 105, 110], [77, 66, 83], [99, 111, 117, 115, 105, 110], [77, 66, 68], [99, 111, 117, 115, 105, 110]] : List (List UInt8)).getD ((v1.1 + 1).toNat) default)))] [2, 3, 4, 5, 6] [2, 3, 12, 43, 1010] [] [pf (inR .i64 (v1.1 + 1)), pf (0 ≤ (v1.1 + 1 : Int) ∧ (v1.1 + 1 : Int) < ((28 : Nat) : Int))] [] [0, 4, 8, 12] (r1 1 [2, 3, 4, 5, 6] [2, 3, 12, 43, 1010] [pf (inR .i64 (v1.1 + 2))] [0] (.next 0 [(30301, some 43)] (D25b1 x0 j1 (v1.1 + 2, (v1.2 ++ [(Entry.mk ((specParType (([[70], [102, 97, 116, 104, 101, 114], [77], [109, 111, 116, 104, 101, 114], [66], [98, 114, 111, 116, 104, 101, 114], [90], [115, 105, 115, 116, 101, 114], [83], [115, 111, 110], [68], [100, 97, 117, 103, 104, 116, 101, 114], [72], [104, 117, 115, 98, 97, 110, 100], [87], [119, 105, 102, 101], [70, 90], [97, 117, 110, 116], [77, 66], [117, 110, 99, 108, 101], [70, 90, 83], [99, 111, 117, 115, 105, 110], [70, 90, 68], [99, 111, 117, 115, 105, 110], [77, 66, 83], [99, 111, 117, 115, 105, 110], [77, 66, 68], [99, 111, 117, 115, 105, 110]] : List (List UInt8)).getD v1.1.toNat default)).1) (([[70], [102, 97, 116, 104, 101, 114], [77], [109, 111, 116, 104, 101, 114], [66], [98, 114, 111, 116, 104, 101, 114], [90], [115, 105, 115, 116, 101, 114], [83], [115, 111, 110], [68], [100, 97, 117, 103, 104, 116, 101, 114], [72], [104, 117, 115, 98, 97, 110, 100], [87], [119, 105, 102, 101], [70, 90], [97, 117, 110, 116], [77, 66], [117, 110, 99, 108, 101], [70, 90, 83], [99, 111, 117, 115, 105, 110], [70, 90, 68], [99, 111, 117, 115, 105, 110], [77, 66, 83], [99, 111, 117, 115, 105, 110], [77, 66, 68], [99, 111, 117, 115, 105, 110]] : List (List UInt8)).getD ((v1.1 + 1).toNat) default))]))))))) (r0 1 [2] [2, 1010, 30301] (rt [(0, some 1010), (1, some 30301)] (C25 (Terminology.mk (specSampR x0) v1.2)))))
def A25j1 (x0 : List UInt8) (j1 : Int) : Ann := r0 1 [2, 3, 4, 5, 6] [2, 3, 12, 1010] (.loop (Int × (List Entry)) (D25b1 x0 j1) [] [] [(30301, none)] (D25b1 x0 j1 (0, ([] : List Entry))) (A25b1 x0 j1))
def A25 (x0 : List UInt8) : Ann := .reg 4 [] [(1001, k61 x0), (2000, bsC 12 (cStr) (([[70], [102, 97, 116, 104, 101, 114], [77], [109, 111, 116, 104, 101, 114], [66], [98, 114, 111, 116, 104, 101, 114], [90], [115, 105, 115, 116, 101, 114], [83], [115, 111, 110], [68], [100, 97, 117, 103, 104, 116, 101, 114], [72], [104, 117, 115, 98, 97, 110, 100], [87], [119, 105, 102, 101], [70, 90], [97, 117, 110, 116], [77, 66], [117, 110, 99, 108, 101], [70, 90, 83], [99, 111, 117, 115, 105, 110], [70, 90, 68], [99, 111, 117, 115, 105, 110], [77, 66, 83], [99, 111, 117, 115, 105, 110], [77, 66, 68], [99, 111, 117, 115, 105, 110]] : List (List UInt8)) : List (List UInt8)))] [0, 2, 3, 4, 5] [2, 3, 12, 1010] [] [] [] [0, 4] (.join 0 Int (D25j1 x0) [2, 3, 4, 5] [2, 3, 1010, 12] (r0 1 [2, 3, 4, 5, 13] [2, 3, 12, 1010] (r0 1 [2, 3, 4, 5, 13, 14] [2, 3, 12, 1010] (cn (x0 == [103, 101, 110, 101, 114, 97, 116, 105, 111, 110]) (r0 1 [2, 3, 4, 5] [2, 3, 12, 1010] (.next 0 [] (D25j1 x0 16))) (r0 1 [2, 3, 4, 5, 13, 16] [2, 3, 12, 1010] (cn (x0 == [109, 101, 114, 103, 105, 110, 103]) (r0 1 [2, 3, 4, 5] [2, 3, 12, 1010] (.next 0 [] (D25j1 x0 28))) (r0 1 [2, 3, 4, 5, 18] [2, 3, 12, 1010] (cn (x0 == [115, 107, 101, 119, 105, 110, 103]) (r0 1 [2, 3, 4, 5] [2, 3, 12, 1010] (.next 0 [] (D25j1 x0 24))) (.next 0 [] (D25j1 x0 0))))))))) (A25j1 x0))
theorem ok_spec_SampleTerminology (x0 : List UInt8) (hx : x0.length ≤ 1000) : FnT Try.prog 25 [.str x0] (C25 (specSampT x0)) := by
  have aux : ∀ R, specSampT x0 = R → slim (C25 R) (A25 x0) [] := by
    intro R hR
    refine rg ⟨by with_reducible assumption, trivial, trivial⟩ ?_
    revert hR; refine jN (fun v => v = 0 ∨ v = 16 ∨ v = 24 ∨ v = 28) (fun F101 hR hJ101 => ?_) (fun j1 hR hJ1 => ?_)
    ·
      refine rg trivial ?_
      refine rg trivial ?_
      revert hR; refine cd (fun hc1 hR => ?_) fun hc1 hR => ?_
      ·
        refine rg trivial ?_
        exact hJ101 16 hR (by (intros; omega))
      ·
        refine rg trivial ?_
        revert hR; refine cd (fun hc2 hR => ?_) fun hc2 hR => ?_
        ·
          refine rg trivial ?_
          exact hJ101 28 hR (by (intros; omega))
        ·
          refine rg trivial ?_
          revert hR; refine cd (fun hc3 hR => ?_) fun hc3 hR => ?_
          ·
            refine rg trivial ?_
            exact hJ101 24 hR (by (intros; omega))
          ·
            exact hJ101 0 hR (by (intros; omega))
    ·
      refine rg trivial ?_
      revert hR; refine lW (fun v => (0 ≤ v.1 ∧ v.1 ≤ 28 ∧ v.1 % 2 = 0) ∧ ((v.2 : List Entry).length : Int) ≤ v.1) (fun v => ((28 : Int) - v.1).toNat) (by ((refine ⟨?_, ?_⟩ <;> ((try dsimp only); (try simp only [List.length_append, List.length_cons, List.length_nil]); omega)))) (Nat.lt_succ_self _) rfl fun m1 v1 F1 hI1 hM1 hR hK1 => ?_
      refine rg trivial ?_
      revert hR; refine cd (fun hc4 hR => ?_) fun hc4 hR => ?_
      ·
        refine rg ⟨by ((have h9 := of_decide_eq_true hc4; (try simp only [inR]); (try simp only [List.length_cons, List.length_nil]); omega)), by (exact Nat.le_trans (getD_short (n := 100) (by decide) _) (by decide)), trivial⟩ ?_
        refine rg ⟨by ((have h9 := of_decide_eq_true hc4; (try simp only [inR]); (try simp only [List.length_cons, List.length_nil]); omega)), by ((have h9 := of_decide_eq_true hc4; (try simp only [inR]); (try simp only [List.length_cons, List.length_nil]); omega)), trivial, by omega, trivial⟩ ?_
        refine rg ⟨by ((have h9 := of_decide_eq_true hc4; (try simp only [inR]); (try simp only [List.length_cons, List.length_nil]); omega)), trivial⟩ ?_
        exact hK1 (v1.1 + 2, (v1.2 ++ [(Entry.mk ((specParType (([[70], [102, 97, 116, 104, 101, 114], [77], [109, 111, 116, 104, 101, 114], [66], [98, 114, 111, 116, 104, 101, 114], [90], [115, 105, 115, 116, 101, 114], [83], [115, 111, 110], [68], [100, 97, 117, 103, 104, 116, 101, 114], [72], [104, 117, 115, 98, 97, 110, 100], [87], [119, 105, 102, 101], [70, 90], [97, 117, 110, 116], [77, 66], [117, 110, 99, 108, 101], [70, 90, 83], [99, 111, 117, 115, 105, 110], [70, 90, 68], [99, 111, 117, 115, 105, 110], [77, 66, 83], [99, 111, 117, 115, 105, 110], [77, 66, 68], [99, 111, 117, 115, 105, 110]] : List (List UInt8)).getD v1.1.toNat default)).1) (([[70], [102, 97, 116, 104, 101, 114], [77], [109, 111, 116, 104, 101, 114], [66], [98, 114, 111, 116, 104, 101, 114], [90], [115, 105, 115, 116, 101, 114], [83], [115, 111, 110], [68], [100, 97, 117, 103, 104, 116, 101, 114], [72], [104, 117, 115, 98, 97, 110, 100], [87], [119, 105, 102, 101], [70, 90], [97, 117, 110, 116], [77, 66], [117, 110, 99, 108, 101], [70, 90, 83], [99, 111, 117, 115, 105, 110], [70, 90, 68], [99, 111, 117, 115, 105, 110], [77, 66, 83], [99, 111, 117, 115, 105, 110], [77, 66, 68], [99, 111, 117, 115, 105, 110]] : List (List UInt8)).getD ((v1.1 + 1).toNat) default))])) (by ((have h9 := of_decide_eq_true hc4; refine ⟨?_, ?_⟩ <;> ((try dsimp only); (try simp only [List.length_append, List.length_cons, List.length_nil]); omega)))) (by ((have h9 := of_decide_eq_true hc4; (try simp only [inR]); (try simp only [List.length_cons, List.length_nil]); omega))) hR
      ·
        refine rg trivial ?_
        exact congrArg C25 hR
  exact Fn.go 46 Try.func25 (by kernel_rfl) (by kernel_rfl) (by simp [C25, Frs, FrsL, FrsB, rowOf, cInt, cBool, cStr, cSl, FrsL_app, cPerson, cUnion, cFamily, cStep, cKinType, cRule, cEntry, cTerminology, cLaw, cCustom, cRegister]) (A25 x0) (by kernel_rfl) (aux _ rfl)
def k25 (x0 : List UInt8) : Cl := (hres (C25 (specSampT x0)), k1 (ok_spec_SampleTerminology x0))
def C6 (R : Register) : LV × List (Nat × BC) := (.agg [.own 0, .own 1, .int .i64 R.law.degree, .int .i64 R.law.canon, .int .i64 R.law.affinity, .int .i64 R.law.age, .int .i64 R.law.wives, .int .i64 R.law.husbands, .bool R.law.patriline, .bool R.law.matriline, .own 2, .own 3, .int .i64 R.custom.prefer, .bool R.custom.youngest, .bool R.custom.represent], [(0, .arr 6 R.family.people.length (rowOf (cPerson true) R.family.people)), (1, .arr 4 R.family.unions.length (rowOf (cUnion true) R.family.unions)), (2, .arr 5 R.terms.rules.length (rowOf (cRule true) R.terms.rules)), (3, .arr 3 R.terms.entries.length (rowOf (cEntry true) R.terms.entries))])
def specNewReg  : Register := (Register.mk (Family.mk ([] : List Person) ([] : List Union)) (Law.mk 4 0 0 16 1 1 false false) (specSampT [109, 101, 114, 103, 105, 110, 103]) (Custom.mk 1 false true))
def A6  : Ann := .reg 2 [] [(1001, k25 [109, 101, 114, 103, 105, 110, 103])] [0] [0, 1002, 2002] [] [] [] [0] (rt [(0, none), (1, none), (2, some 1002), (3, some 2002)] (C6 (Register.mk (Family.mk ([] : List Person) ([] : List Union)) (Law.mk 4 0 0 16 1 1 false false) (specSampT [109, 101, 114, 103, 105, 110, 103]) (Custom.mk 1 false true))))
theorem ok_spec_NewRegister  : FnT Try.prog 6 [] (C6 specNewReg) := by
  have aux : ∀ R, specNewReg = R → slim (C6 R) (A6) [] := by
    intro R hR
    refine rg ⟨by (decide), trivial⟩ ?_
    exact congrArg C6 hR
  exact Fn.go 5 Try.func6 (by kernel_rfl) (by kernel_rfl) (by simp [C6, Frs, FrsL, FrsB, rowOf, cInt, cBool, cStr, cSl, FrsL_app, cPerson, cUnion, cFamily, cStep, cKinType, cRule, cEntry, cTerminology, cLaw, cCustom, cRegister]) (A6) (by kernel_rfl) (aux _ rfl)
def k6  : Cl := (hres (C6 specNewReg), k0 (ok_spec_NewRegister))
theorem args_strint {s : List UInt8} {k : IntKind} {n : Int} (w : World) (vs : List Value) (hl : vs.length = [LV.str s, LV.int k n].length) (h : ∀ (i : Nat) lv v, [LV.str s, LV.int k n][i]? = some lv → vs[i]? = some v → RepA w lv v) : vs = [.string ⟨s.toArray⟩, .int k n] := by
  match vs, hl with
  | [v, u], _ =>
    have h1 := h 0 _ v rfl rfl 0
    have h2 := h 1 _ u rfl rfl 0
    cases h1; cases h2; rfl
theorem fn_of_int {P : Program} {f : FuncId} {args : List LV} {k : IntKind} {n : Int} {vals : List Value} (ha : ∀ w vs, vs.length = args.length → (∀ (i : Nat) lv v, args[i]? = some lv → vs[i]? = some v → RepA w lv v) → vs = vals)
    (h : ∀ w, Calls P f vals.toArray w fun e w' => e = .returned (.int k n) ∧ w' = w) : Lite.Fn P f args (.int k n) [] :=
  Lite.Fn.of_calls ha fun w _ => (h w).mono fun e w' ⟨he, hw⟩ => ⟨_, he, by rw [hw]; exact .refl _ _, .val (fun _ => .int _ _) fun id hm => by cases hm⟩
theorem fn_of_cut {P : Program} {f : FuncId} {args : List LV} {a b : List UInt8} {c : Bool} {vals : List Value} (ha : ∀ w vs, vs.length = args.length → (∀ (i : Nat) lv v, args[i]? = some lv → vs[i]? = some v → RepA w lv v) → vs = vals)
    (h : ∀ w, GH w → Calls P f vals.toArray w fun e w' => e = .returned (.tuple #[.string ⟨a.toArray⟩, .string ⟨b.toArray⟩, .bool c]) ∧ RowKit.Below w.heap.size w w') : Lite.Fn P f args (.tup [.str a, .str b, .bool c]) [] :=
  Lite.Fn.of_calls ha fun w hg => (h w hg).mono fun e w' ⟨he, hb⟩ => ⟨_, he, hb, .val (fun X => .tup _ _ rfl fun i lv u hl hu => by
    match i, hl, hu with
    | 0, hl, hu => cases hl; cases hu; exact .str _
    | 1, hl, hu => cases hl; cases hu; exact .str _
    | 2, hl, hu => cases hl; cases hu; exact .bool _
    | i + 3, hl, _ => simp at hl) fun id hm => by
      cases hm with
      | tup _ lv _ hlv hm' =>
        simp only [List.mem_cons, List.not_mem_nil, or_false] at hlv
        rcases hlv with rfl | rfl | rfl <;> cases hm'⟩
end Go.Proofs.Ytaageiiodlfeiaa
