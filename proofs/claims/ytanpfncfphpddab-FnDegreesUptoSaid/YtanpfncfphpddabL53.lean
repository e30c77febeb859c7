/- The law FnDegrees of the program returns true on every draw within the bulk. -/
import Derived.Test.YtanpfncfphpddabRows
import Derived.Test.YtanpfncfphpddabM52
import Derived.Test.YtanpfncfphpddabLiteR
import Derived.WalkKit
import Derived.ProofKit
import Derived.OpenShut
import Derived.JoinedCond
set_option maxHeartbeats 4000000
set_option linter.unusedSimpArgs false
set_option linter.unusedVariables false
namespace Go.Proofs.Ytanpfncfphpddab
open Go Go.Lite Go.Proofs Go.ChangeShapes Go.WideShapes Go.ChangeAt Go.RowKit
def C8 (R : Bool) : LV × List (Nat × BC) := (.bool R, [])
def laws_FnDegrees_m (x0 : List Int) : Bool := bif (decide (1048576 < ((x0.length : Nat) : Int))) then true else (bif (!(((implCivil (crowd x0 16) (who x0 1 (crowd x0 16)) (who x0 2 (crowd x0 16))).2) == ((specCivil (crowd x0 16) (who x0 1 (crowd x0 16)) (who x0 2 (crowd x0 16))).2))) then false else (bif ((((((((((!(((implCivil (crowd x0 16) (who x0 1 (crowd x0 16)) (who x0 2 (crowd x0 16))).2) == ((implCanon (crowd x0 16) (who x0 1 (crowd x0 16)) (who x0 2 (crowd x0 16))).2))) || (!(((implCivil (crowd x0 16) (who x0 1 (crowd x0 16)) (who x0 2 (crowd x0 16))).2) == ((implCivil (crowd x0 16) (who x0 2 (crowd x0 16)) (who x0 1 (crowd x0 16))).2)))) || (!(((implCivil (crowd x0 16) (who x0 1 (crowd x0 16)) (who x0 2 (crowd x0 16))).2) == ((implCanon (crowd x0 16) (who x0 2 (crowd x0 16)) (who x0 1 (crowd x0 16))).2)))) || (!decide (((implCivil (crowd x0 16) (who x0 1 (crowd x0 16)) (who x0 2 (crowd x0 16))).1) = ((implCivil (crowd x0 16) (who x0 2 (crowd x0 16)) (who x0 1 (crowd x0 16))).1)))) || (!decide (((implCanon (crowd x0 16) (who x0 1 (crowd x0 16)) (who x0 2 (crowd x0 16))).1) = ((implCanon (crowd x0 16) (who x0 2 (crowd x0 16)) (who x0 1 (crowd x0 16))).1)))) || (!(((implCivil (crowd x0 16) (who x0 1 (crowd x0 16)) (who x0 2 (crowd x0 16))).2) == (decide (0 < (((implCommon (crowd x0 16) (who x0 1 (crowd x0 16)) (who x0 2 (crowd x0 16))).length : Nat) : Int)))))) || (!(((implCivil (crowd x0 16) (who x0 1 (crowd x0 16)) (who x0 2 (crowd x0 16))).2) == (decide (0 < (((implNearest (crowd x0 16) (who x0 1 (crowd x0 16)) (who x0 2 (crowd x0 16))).length : Nat) : Int)))))) || (decide (((implCivil (crowd x0 16) (who x0 1 (crowd x0 16)) (who x0 2 (crowd x0 16))).1) < ((implCanon (crowd x0 16) (who x0 1 (crowd x0 16)) (who x0 2 (crowd x0 16))).1)))) || (decide ((2 * ((implCanon (crowd x0 16) (who x0 1 (crowd x0 16)) (who x0 2 (crowd x0 16))).1)) < ((implCivil (crowd x0 16) (who x0 1 (crowd x0 16)) (who x0 2 (crowd x0 16))).1)))) || (!(lawSubset (implNearest (crowd x0 16) (who x0 1 (crowd x0 16)) (who x0 2 (crowd x0 16))) (implCommon (crowd x0 16) (who x0 1 (crowd x0 16)) (who x0 2 (crowd x0 16)))))) then false else (loopN (fun i1 (v1 : Unit) next => loopN (fun i2 (v2 : Bool) next => next (v2 || ((implStepsUp (crowd x0 16) ((implNearest (crowd x0 16) (who x0 1 (crowd x0 16)) (who x0 2 (crowd x0 16))).getD i2 default) ((implCommon (crowd x0 16) (who x0 1 (crowd x0 16)) (who x0 2 (crowd x0 16))).getD i1 default)).2))) (fun (v2 : Bool) => bif (!v2) then false else (next ())) ((implNearest (crowd x0 16) (who x0 1 (crowd x0 16)) (who x0 2 (crowd x0 16))).length) 0 false) (fun (v1 : Unit) => loopN (fun i3 (v3 : Unit) next => bif ((!((implCivil (crowd x0 16) (who x0 1 (crowd x0 16)) ((implParents (crowd x0 16) (who x0 1 (crowd x0 16))).getD i3 default)).2)) || (!decide (((implCivil (crowd x0 16) (who x0 1 (crowd x0 16)) ((implParents (crowd x0 16) (who x0 1 (crowd x0 16))).getD i3 default)).1) = 1))) then false else (next ())) (fun (v3 : Unit) => true) ((implParents (crowd x0 16) (who x0 1 (crowd x0 16))).length) 0 ()) ((implCommon (crowd x0 16) (who x0 1 (crowd x0 16)) (who x0 2 (crowd x0 16))).length) 0 ())))
def D8b1 (x0 : List Int) (i1 : Nat) (v1 : Unit) : Dl := ⟨[(142, .int .i64 ((i1 : Nat) : Int))], []⟩
def D8b2 (x0 : List Int) (i1 : Nat) (v1 : Unit) (i2 : Nat) (v2 : Bool) : Dl := ⟨[(148, .int .i64 ((i2 : Nat) : Int)), (20, .bool v2)], []⟩
def A8b2 (x0 : List Int) (i1 : Nat) (v1 : Unit) (i2 : Nat) (v2 : Bool) : Ann := r0 1 [2, 3, 4, 17, 19, 20, 140, 141, 142, 146, 147, 148, 149] [3, 1033, 1081, 1085, 2033] (cn (decide (((i2 : Nat) : Int) < (((implNearest (crowd x0 16) (who x0 1 (crowd x0 16)) (who x0 2 (crowd x0 16))).length : Nat) : Int))) (.reg 2 [] [(1003, k35 (crowd x0 16) ((implNearest (crowd x0 16) (who x0 1 (crowd x0 16)) (who x0 2 (crowd x0 16))).getD i2 default) ((implCommon (crowd x0 16) (who x0 1 (crowd x0 16)) (who x0 2 (crowd x0 16))).getD i1 default))] [2, 3, 4, 17, 19, 20, 24, 140, 141, 142, 146, 147, 148] [3, 1033, 1081, 1085, 2033] [] [pf (0 ≤ (((i2 : Nat) : Int) : Int) ∧ (((i2 : Nat) : Int) : Int) < (((implNearest (crowd x0 16) (who x0 1 (crowd x0 16)) (who x0 2 (crowd x0 16))).length : Nat) : Int))] [] [0, 4] (.reg 1 [] [] [2, 3, 4, 17, 19, 20, 140, 141, 142, 146, 147, 148] [3, 1033, 1081, 1085, 2033] [v2] [] [] [2] (r1 1 [2, 3, 4, 17, 19, 20, 140, 141, 142, 146, 147, 148] [3, 1033, 1081, 1085, 2033] [pf (inR .i64 (((i2 : Nat) : Int) + 1))] [0] (.next 0 [] (D8b2 x0 i1 v1 (i2 + 1) (v2 || ((implStepsUp (crowd x0 16) ((implNearest (crowd x0 16) (who x0 1 (crowd x0 16)) (who x0 2 (crowd x0 16))).getD i2 default) ((implCommon (crowd x0 16) (who x0 1 (crowd x0 16)) (who x0 2 (crowd x0 16))).getD i1 default)).2))))))) (r0 1 [2, 3, 4, 17, 140, 141, 142, 165] [3, 1033, 1081, 1085, 2033] (cn (!v2) (r0 1 [2, 3, 4, 17, 140, 141, 142] [3, 1033, 1081, 1085, 2033] (rt [] (C8 false))) (r1 1 [2, 3, 4, 17, 140, 141, 142] [3, 1033, 1081, 1085, 2033] [pf (inR .i64 (((i1 : Nat) : Int) + 1))] [0] (.next 1 [] (D8b1 x0 (i1 + 1) ()))))))
def D8b3 (x0 : List Int) (i1 : Nat) (v1 : Unit) (i3 : Nat) (v3 : Unit) : Dl := ⟨[(171, .int .i64 ((i3 : Nat) : Int))], []⟩
def A8b3 (x0 : List Int) (i1 : Nat) (v1 : Unit) (i3 : Nat) (v3 : Unit) : Ann := r0 1 [2, 3, 4, 169, 170, 171, 172] [3, 1033, 1169, 2033] (cn (decide (((i3 : Nat) : Int) < (((implParents (crowd x0 16) (who x0 1 (crowd x0 16))).length : Nat) : Int))) (.reg 3 [] [(1003, k31 (crowd x0 16) (who x0 1 (crowd x0 16)) ((implParents (crowd x0 16) (who x0 1 (crowd x0 16))).getD i3 default))] [2, 3, 4, 169, 170, 171, 187] [3, 1033, 1169, 2033] [!(!((implCivil (crowd x0 16) (who x0 1 (crowd x0 16)) ((implParents (crowd x0 16) (who x0 1 (crowd x0 16))).getD i3 default)).2)), !((implCivil (crowd x0 16) (who x0 1 (crowd x0 16)) ((implParents (crowd x0 16) (who x0 1 (crowd x0 16))).getD i3 default)).2)] [pf (0 ≤ (((i3 : Nat) : Int) : Int) ∧ (((i3 : Nat) : Int) : Int) < (((implParents (crowd x0 16) (who x0 1 (crowd x0 16))).length : Nat) : Int))] [] [0, 4, 1, 6] (cn ((!((implCivil (crowd x0 16) (who x0 1 (crowd x0 16)) ((implParents (crowd x0 16) (who x0 1 (crowd x0 16))).getD i3 default)).2)) || (!decide (((implCivil (crowd x0 16) (who x0 1 (crowd x0 16)) ((implParents (crowd x0 16) (who x0 1 (crowd x0 16))).getD i3 default)).1) = 1))) (r0 1 [2, 3, 4, 169, 170, 171] [3, 1033, 1169, 2033] (rt [] (C8 false))) (r1 1 [2, 3, 4, 169, 170, 171] [3, 1033, 1169, 2033] [pf (inR .i64 (((i3 : Nat) : Int) + 1))] [0] (.next 0 [] (D8b3 x0 i1 v1 (i3 + 1) ()))))) (r0 1 [2] [] (rt [] (C8 true))))
def A8b1 (x0 : List Int) (i1 : Nat) (v1 : Unit) : Ann := r0 1 [2, 3, 4, 17, 140, 141, 142, 143] [3, 1033, 1081, 1085, 2033] (cn (decide (((i1 : Nat) : Int) < (((implCommon (crowd x0 16) (who x0 1 (crowd x0 16)) (who x0 2 (crowd x0 16))).length : Nat) : Int))) (r1 2 [2, 3, 4, 17, 19, 20, 140, 141, 142] [3, 1033, 1081, 1085, 2033] [pf (0 ≤ (((i1 : Nat) : Int) : Int) ∧ (((i1 : Nat) : Int) : Int) < (((implCommon (crowd x0 16) (who x0 1 (crowd x0 16)) (who x0 2 (crowd x0 16))).length : Nat) : Int))] [0] (r0 1 [2, 3, 4, 17, 19, 20, 140, 141, 142, 146, 147, 148] [3, 1033, 1081, 1085, 2033] (lp (D8b2 x0 i1 v1) [] [] [] (D8b2 x0 i1 v1 0 false) (A8b2 x0 i1 v1)))) (.reg 1 [] [(2, k36 (crowd x0 16) (who x0 1 (crowd x0 16)))] [2, 3, 4, 169, 170, 171] [3, 1033, 1169, 2033] [] [] [] [0] (lp (D8b3 x0 i1 v1) [] [] [] (D8b3 x0 i1 v1 0 ()) (A8b3 x0 i1 v1))))
def A8 (x0 : List Int) : Ann := r0 1 [0, 2] [] (r0 1 [0, 2, 31] [] (cn (decide (1048576 < ((x0.length : Nat) : Int))) (r0 1 [0, 2] [] (rt [] (C8 true))) (.reg 5 [] [(1, k24 x0 16), (1002, k25 x0 1 (crowd x0 16)), (2002, k25 x0 2 (crowd x0 16)), (3003, k31 (crowd x0 16) (who x0 1 (crowd x0 16)) (who x0 2 (crowd x0 16))), (4003, k32 (crowd x0 16) (who x0 1 (crowd x0 16)) (who x0 2 (crowd x0 16)))] [2, 3, 4, 5, 6, 7, 9] [3, 1033, 2033] [] [] [] [0, 4, 8, 12, 16] (r0 1 [2, 3, 4, 5, 6, 7, 56] [3, 1033, 2033] (cn (!(((implCivil (crowd x0 16) (who x0 1 (crowd x0 16)) (who x0 2 (crowd x0 16))).2) == ((specCivil (crowd x0 16) (who x0 1 (crowd x0 16)) (who x0 2 (crowd x0 16))).2))) (r0 1 [2, 3, 4, 5, 6, 7] [3, 1033, 2033] (rt [] (C8 false))) (.reg 5 [] [(3, k33 (crowd x0 16) (who x0 1 (crowd x0 16)) (who x0 2 (crowd x0 16))), (1003, k31 (crowd x0 16) (who x0 2 (crowd x0 16)) (who x0 1 (crowd x0 16))), (2003, k33 (crowd x0 16) (who x0 2 (crowd x0 16)) (who x0 1 (crowd x0 16))), (3003, k21 (crowd x0 16) (who x0 1 (crowd x0 16)) (who x0 2 (crowd x0 16))), (4003, k23 (crowd x0 16) (who x0 1 (crowd x0 16)) (who x0 2 (crowd x0 16)))] [2, 3, 4, 6, 7, 10, 11, 12, 13, 14, 15, 16, 17] [3, 1033, 1081, 1085, 2033] [] [] [] [0, 4, 8, 12, 16] (.reg 1 [] [(51, cg (!(((((((((!(((implCivil (crowd x0 16) (who x0 1 (crowd x0 16)) (who x0 2 (crowd x0 16))).2) == ((implCanon (crowd x0 16) (who x0 1 (crowd x0 16)) (who x0 2 (crowd x0 16))).2))) || (!(((implCivil (crowd x0 16) (who x0 1 (crowd x0 16)) (who x0 2 (crowd x0 16))).2) == ((implCivil (crowd x0 16) (who x0 2 (crowd x0 16)) (who x0 1 (crowd x0 16))).2)))) || (!(((implCivil (crowd x0 16) (who x0 1 (crowd x0 16)) (who x0 2 (crowd x0 16))).2) == ((implCanon (crowd x0 16) (who x0 2 (crowd x0 16)) (who x0 1 (crowd x0 16))).2)))) || (!decide (((implCivil (crowd x0 16) (who x0 1 (crowd x0 16)) (who x0 2 (crowd x0 16))).1) = ((implCivil (crowd x0 16) (who x0 2 (crowd x0 16)) (who x0 1 (crowd x0 16))).1)))) || (!decide (((implCanon (crowd x0 16) (who x0 1 (crowd x0 16)) (who x0 2 (crowd x0 16))).1) = ((implCanon (crowd x0 16) (who x0 2 (crowd x0 16)) (who x0 1 (crowd x0 16))).1)))) || (!(((implCivil (crowd x0 16) (who x0 1 (crowd x0 16)) (who x0 2 (crowd x0 16))).2) == (decide (0 < (((implCommon (crowd x0 16) (who x0 1 (crowd x0 16)) (who x0 2 (crowd x0 16))).length : Nat) : Int)))))) || (!(((implCivil (crowd x0 16) (who x0 1 (crowd x0 16)) (who x0 2 (crowd x0 16))).2) == (decide (0 < (((implNearest (crowd x0 16) (who x0 1 (crowd x0 16)) (who x0 2 (crowd x0 16))).length : Nat) : Int)))))) || (decide (((implCivil (crowd x0 16) (who x0 1 (crowd x0 16)) (who x0 2 (crowd x0 16))).1) < ((implCanon (crowd x0 16) (who x0 1 (crowd x0 16)) (who x0 2 (crowd x0 16))).1)))) || (decide ((2 * ((implCanon (crowd x0 16) (who x0 1 (crowd x0 16)) (who x0 2 (crowd x0 16))).1)) < ((implCivil (crowd x0 16) (who x0 1 (crowd x0 16)) (who x0 2 (crowd x0 16))).1))))) (k34 (implNearest (crowd x0 16) (who x0 1 (crowd x0 16)) (who x0 2 (crowd x0 16))) (implCommon (crowd x0 16) (who x0 1 (crowd x0 16)) (who x0 2 (crowd x0 16)))))] [2, 3, 4, 16, 17, 139] [3, 1033, 1081, 1085, 2033] [!(!(((implCivil (crowd x0 16) (who x0 1 (crowd x0 16)) (who x0 2 (crowd x0 16))).2) == ((implCanon (crowd x0 16) (who x0 1 (crowd x0 16)) (who x0 2 (crowd x0 16))).2))), !(((implCivil (crowd x0 16) (who x0 1 (crowd x0 16)) (who x0 2 (crowd x0 16))).2) == ((implCanon (crowd x0 16) (who x0 1 (crowd x0 16)) (who x0 2 (crowd x0 16))).2)), !((!(((implCivil (crowd x0 16) (who x0 1 (crowd x0 16)) (who x0 2 (crowd x0 16))).2) == ((implCanon (crowd x0 16) (who x0 1 (crowd x0 16)) (who x0 2 (crowd x0 16))).2))) || (!(((implCivil (crowd x0 16) (who x0 1 (crowd x0 16)) (who x0 2 (crowd x0 16))).2) == ((implCivil (crowd x0 16) (who x0 2 (crowd x0 16)) (who x0 1 (crowd x0 16))).2)))), (!(((implCivil (crowd x0 16) (who x0 1 (crowd x0 16)) (who x0 2 (crowd x0 16))).2) == ((implCanon (crowd x0 16) (who x0 1 (crowd x0 16)) (who x0 2 (crowd x0 16))).2))) || (!(((implCivil (crowd x0 16) (who x0 1 (crowd x0 16)) (who x0 2 (crowd x0 16))).2) == ((implCivil (crowd x0 16) (who x0 2 (crowd x0 16)) (who x0 1 (crowd x0 16))).2))), !(((!(((implCivil (crowd x0 16) (who x0 1 (crowd x0 16)) (who x0 2 (crowd x0 16))).2) == ((implCanon (crowd x0 16) (who x0 1 (crowd x0 16)) (who x0 2 (crowd x0 16))).2))) || (!(((implCivil (crowd x0 16) (who x0 1 (crowd x0 16)) (who x0 2 (crowd x0 16))).2) == ((implCivil (crowd x0 16) (who x0 2 (crowd x0 16)) (who x0 1 (crowd x0 16))).2)))) || (!(((implCivil (crowd x0 16) (who x0 1 (crowd x0 16)) (who x0 2 (crowd x0 16))).2) == ((implCanon (crowd x0 16) (who x0 2 (crowd x0 16)) (who x0 1 (crowd x0 16))).2)))), ((!(((implCivil (crowd x0 16) (who x0 1 (crowd x0 16)) (who x0 2 (crowd x0 16))).2) == ((implCanon (crowd x0 16) (who x0 1 (crowd x0 16)) (who x0 2 (crowd x0 16))).2))) || (!(((implCivil (crowd x0 16) (who x0 1 (crowd x0 16)) (who x0 2 (crowd x0 16))).2) == ((implCivil (crowd x0 16) (who x0 2 (crowd x0 16)) (who x0 1 (crowd x0 16))).2)))) || (!(((implCivil (crowd x0 16) (who x0 1 (crowd x0 16)) (who x0 2 (crowd x0 16))).2) == ((implCanon (crowd x0 16) (who x0 2 (crowd x0 16)) (who x0 1 (crowd x0 16))).2))), !((((!(((implCivil (crowd x0 16) (who x0 1 (crowd x0 16)) (who x0 2 (crowd x0 16))).2) == ((implCanon (crowd x0 16) (who x0 1 (crowd x0 16)) (who x0 2 (crowd x0 16))).2))) || (!(((implCivil (crowd x0 16) (who x0 1 (crowd x0 16)) (who x0 2 (crowd x0 16))).2) == ((implCivil (crowd x0 16) (who x0 2 (crowd x0 16)) (who x0 1 (crowd x0 16))).2)))) || (!(((implCivil (crowd x0 16) (who x0 1 (crowd x0 16)) (who x0 2 (crowd x0 16))).2) == ((implCanon (crowd x0 16) (who x0 2 (crowd x0 16)) (who x0 1 (crowd x0 16))).2)))) || (!decide (((implCivil (crowd x0 16) (who x0 1 (crowd x0 16)) (who x0 2 (crowd x0 16))).1) = ((implCivil (crowd x0 16) (who x0 2 (crowd x0 16)) (who x0 1 (crowd x0 16))).1)))), (((!(((implCivil (crowd x0 16) (who x0 1 (crowd x0 16)) (who x0 2 (crowd x0 16))).2) == ((implCanon (crowd x0 16) (who x0 1 (crowd x0 16)) (who x0 2 (crowd x0 16))).2))) || (!(((implCivil (crowd x0 16) (who x0 1 (crowd x0 16)) (who x0 2 (crowd x0 16))).2) == ((implCivil (crowd x0 16) (who x0 2 (crowd x0 16)) (who x0 1 (crowd x0 16))).2)))) || (!(((implCivil (crowd x0 16) (who x0 1 (crowd x0 16)) (who x0 2 (crowd x0 16))).2) == ((implCanon (crowd x0 16) (who x0 2 (crowd x0 16)) (who x0 1 (crowd x0 16))).2)))) || (!decide (((implCivil (crowd x0 16) (who x0 1 (crowd x0 16)) (who x0 2 (crowd x0 16))).1) = ((implCivil (crowd x0 16) (who x0 2 (crowd x0 16)) (who x0 1 (crowd x0 16))).1))), !(((((!(((implCivil (crowd x0 16) (who x0 1 (crowd x0 16)) (who x0 2 (crowd x0 16))).2) == ((implCanon (crowd x0 16) (who x0 1 (crowd x0 16)) (who x0 2 (crowd x0 16))).2))) || (!(((implCivil (crowd x0 16) (who x0 1 (crowd x0 16)) (who x0 2 (crowd x0 16))).2) == ((implCivil (crowd x0 16) (who x0 2 (crowd x0 16)) (who x0 1 (crowd x0 16))).2)))) || (!(((implCivil (crowd x0 16) (who x0 1 (crowd x0 16)) (who x0 2 (crowd x0 16))).2) == ((implCanon (crowd x0 16) (who x0 2 (crowd x0 16)) (who x0 1 (crowd x0 16))).2)))) || (!decide (((implCivil (crowd x0 16) (who x0 1 (crowd x0 16)) (who x0 2 (crowd x0 16))).1) = ((implCivil (crowd x0 16) (who x0 2 (crowd x0 16)) (who x0 1 (crowd x0 16))).1)))) || (!decide (((implCanon (crowd x0 16) (who x0 1 (crowd x0 16)) (who x0 2 (crowd x0 16))).1) = ((implCanon (crowd x0 16) (who x0 2 (crowd x0 16)) (who x0 1 (crowd x0 16))).1)))), ((((!(((implCivil (crowd x0 16) (who x0 1 (crowd x0 16)) (who x0 2 (crowd x0 16))).2) == ((implCanon (crowd x0 16) (who x0 1 (crowd x0 16)) (who x0 2 (crowd x0 16))).2))) || (!(((implCivil (crowd x0 16) (who x0 1 (crowd x0 16)) (who x0 2 (crowd x0 16))).2) == ((implCivil (crowd x0 16) (who x0 2 (crowd x0 16)) (who x0 1 (crowd x0 16))).2)))) || (!(((implCivil (crowd x0 16) (who x0 1 (crowd x0 16)) (who x0 2 (crowd x0 16))).2) == ((implCanon (crowd x0 16) (who x0 2 (crowd x0 16)) (who x0 1 (crowd x0 16))).2)))) || (!decide (((implCivil (crowd x0 16) (who x0 1 (crowd x0 16)) (who x0 2 (crowd x0 16))).1) = ((implCivil (crowd x0 16) (who x0 2 (crowd x0 16)) (who x0 1 (crowd x0 16))).1)))) || (!decide (((implCanon (crowd x0 16) (who x0 1 (crowd x0 16)) (who x0 2 (crowd x0 16))).1) = ((implCanon (crowd x0 16) (who x0 2 (crowd x0 16)) (who x0 1 (crowd x0 16))).1))), !((((((!(((implCivil (crowd x0 16) (who x0 1 (crowd x0 16)) (who x0 2 (crowd x0 16))).2) == ((implCanon (crowd x0 16) (who x0 1 (crowd x0 16)) (who x0 2 (crowd x0 16))).2))) || (!(((implCivil (crowd x0 16) (who x0 1 (crowd x0 16)) (who x0 2 (crowd x0 16))).2) == ((implCivil (crowd x0 16) (who x0 2 (crowd x0 16)) (who x0 1 (crowd x0 16))).2)))) || (!(((implCivil (crowd x0 16) (who x0 1 (crowd x0 16)) (who x0 2 (crowd x0 16))).2) == ((implCanon (crowd x0 16) (who x0 2 (crowd x0 16)) (who x0 1 (crowd x0 16))).2)))) || (!decide (((implCivil (crowd x0 16) (who x0 1 (crowd x0 16)) (who x0 2 (crowd x0 16))).1) = ((implCivil (crowd x0 16) (who x0 2 (crowd x0 16)) (who x0 1 (crowd x0 16))).1)))) || (!decide (((implCanon (crowd x0 16) (who x0 1 (crowd x0 16)) (who x0 2 (crowd x0 16))).1) = ((implCanon (crowd x0 16) (who x0 2 (crowd x0 16)) (who x0 1 (crowd x0 16))).1)))) || (!(((implCivil (crowd x0 16) (who x0 1 (crowd x0 16)) (who x0 2 (crowd x0 16))).2) == (decide (0 < (((implCommon (crowd x0 16) (who x0 1 (crowd x0 16)) (who x0 2 (crowd x0 16))).length : Nat) : Int)))))), (((((!(((implCivil (crowd x0 16) (who x0 1 (crowd x0 16)) (who x0 2 (crowd x0 16))).2) == ((implCanon (crowd x0 16) (who x0 1 (crowd x0 16)) (who x0 2 (crowd x0 16))).2))) || (!(((implCivil (crowd x0 16) (who x0 1 (crowd x0 16)) (who x0 2 (crowd x0 16))).2) == ((implCivil (crowd x0 16) (who x0 2 (crowd x0 16)) (who x0 1 (crowd x0 16))).2)))) || (!(((implCivil (crowd x0 16) (who x0 1 (crowd x0 16)) (who x0 2 (crowd x0 16))).2) == ((implCanon (crowd x0 16) (who x0 2 (crowd x0 16)) (who x0 1 (crowd x0 16))).2)))) || (!decide (((implCivil (crowd x0 16) (who x0 1 (crowd x0 16)) (who x0 2 (crowd x0 16))).1) = ((implCivil (crowd x0 16) (who x0 2 (crowd x0 16)) (who x0 1 (crowd x0 16))).1)))) || (!decide (((implCanon (crowd x0 16) (who x0 1 (crowd x0 16)) (who x0 2 (crowd x0 16))).1) = ((implCanon (crowd x0 16) (who x0 2 (crowd x0 16)) (who x0 1 (crowd x0 16))).1)))) || (!(((implCivil (crowd x0 16) (who x0 1 (crowd x0 16)) (who x0 2 (crowd x0 16))).2) == (decide (0 < (((implCommon (crowd x0 16) (who x0 1 (crowd x0 16)) (who x0 2 (crowd x0 16))).length : Nat) : Int))))), !(((((((!(((implCivil (crowd x0 16) (who x0 1 (crowd x0 16)) (who x0 2 (crowd x0 16))).2) == ((implCanon (crowd x0 16) (who x0 1 (crowd x0 16)) (who x0 2 (crowd x0 16))).2))) || (!(((implCivil (crowd x0 16) (who x0 1 (crowd x0 16)) (who x0 2 (crowd x0 16))).2) == ((implCivil (crowd x0 16) (who x0 2 (crowd x0 16)) (who x0 1 (crowd x0 16))).2)))) || (!(((implCivil (crowd x0 16) (who x0 1 (crowd x0 16)) (who x0 2 (crowd x0 16))).2) == ((implCanon (crowd x0 16) (who x0 2 (crowd x0 16)) (who x0 1 (crowd x0 16))).2)))) || (!decide (((implCivil (crowd x0 16) (who x0 1 (crowd x0 16)) (who x0 2 (crowd x0 16))).1) = ((implCivil (crowd x0 16) (who x0 2 (crowd x0 16)) (who x0 1 (crowd x0 16))).1)))) || (!decide (((implCanon (crowd x0 16) (who x0 1 (crowd x0 16)) (who x0 2 (crowd x0 16))).1) = ((implCanon (crowd x0 16) (who x0 2 (crowd x0 16)) (who x0 1 (crowd x0 16))).1)))) || (!(((implCivil (crowd x0 16) (who x0 1 (crowd x0 16)) (who x0 2 (crowd x0 16))).2) == (decide (0 < (((implCommon (crowd x0 16) (who x0 1 (crowd x0 16)) (who x0 2 (crowd x0 16))).length : Nat) : Int)))))) || (!(((implCivil (crowd x0 16) (who x0 1 (crowd x0 16)) (who x0 2 (crowd x0 16))).2) == (decide (0 < (((implNearest (crowd x0 16) (who x0 1 (crowd x0 16)) (who x0 2 (crowd x0 16))).length : Nat) : Int)))))), ((((((!(((implCivil (crowd x0 16) (who x0 1 (crowd x0 16)) (who x0 2 (crowd x0 16))).2) == ((implCanon (crowd x0 16) (who x0 1 (crowd x0 16)) (who x0 2 (crowd x0 16))).2))) || (!(((implCivil (crowd x0 16) (who x0 1 (crowd x0 16)) (who x0 2 (crowd x0 16))).2) == ((implCivil (crowd x0 16) (who x0 2 (crowd x0 16)) (who x0 1 (crowd x0 16))).2)))) || (!(((implCivil (crowd x0 16) (who x0 1 (crowd x0 16)) (who x0 2 (crowd x0 16))).2) == ((implCanon (crowd x0 16) (who x0 2 (crowd x0 16)) (who x0 1 (crowd x0 16))).2)))) || (!decide (((implCivil (crowd x0 16) (who x0 1 (crowd x0 16)) (who x0 2 (crowd x0 16))).1) = ((implCivil (crowd x0 16) (who x0 2 (crowd x0 16)) (who x0 1 (crowd x0 16))).1)))) || (!decide (((implCanon (crowd x0 16) (who x0 1 (crowd x0 16)) (who x0 2 (crowd x0 16))).1) = ((implCanon (crowd x0 16) (who x0 2 (crowd x0 16)) (who x0 1 (crowd x0 16))).1)))) || (!(((implCivil (crowd x0 16) (who x0 1 (crowd x0 16)) (who x0 2 (crowd x0 16))).2) == (decide (0 < (((implCommon (crowd x0 16) (who x0 1 (crowd x0 16)) (who x0 2 (crowd x0 16))).length : Nat) : Int)))))) || (!(((implCivil (crowd x0 16) (who x0 1 (crowd x0 16)) (who x0 2 (crowd x0 16))).2) == (decide (0 < (((implNearest (crowd x0 16) (who x0 1 (crowd x0 16)) (who x0 2 (crowd x0 16))).length : Nat) : Int))))), !((((((((!(((implCivil (crowd x0 16) (who x0 1 (crowd x0 16)) (who x0 2 (crowd x0 16))).2) == ((implCanon (crowd x0 16) (who x0 1 (crowd x0 16)) (who x0 2 (crowd x0 16))).2))) || (!(((implCivil (crowd x0 16) (who x0 1 (crowd x0 16)) (who x0 2 (crowd x0 16))).2) == ((implCivil (crowd x0 16) (who x0 2 (crowd x0 16)) (who x0 1 (crowd x0 16))).2)))) || (!(((implCivil (crowd x0 16) (who x0 1 (crowd x0 16)) (who x0 2 (crowd x0 16))).2) == ((implCanon (crowd x0 16) (who x0 2 (crowd x0 16)) (who x0 1 (crowd x0 16))).2)))) || (!decide (((implCivil (crowd x0 16) (who x0 1 (crowd x0 16)) (who x0 2 (crowd x0 16))).1) = ((implCivil (crowd x0 16) (who x0 2 (crowd x0 16)) (who x0 1 (crowd x0 16))).1)))) || (!decide (((implCanon (crowd x0 16) (who x0 1 (crowd x0 16)) (who x0 2 (crowd x0 16))).1) = ((implCanon (crowd x0 16) (who x0 2 (crowd x0 16)) (who x0 1 (crowd x0 16))).1)))) || (!(((implCivil (crowd x0 16) (who x0 1 (crowd x0 16)) (who x0 2 (crowd x0 16))).2) == (decide (0 < (((implCommon (crowd x0 16) (who x0 1 (crowd x0 16)) (who x0 2 (crowd x0 16))).length : Nat) : Int)))))) || (!(((implCivil (crowd x0 16) (who x0 1 (crowd x0 16)) (who x0 2 (crowd x0 16))).2) == (decide (0 < (((implNearest (crowd x0 16) (who x0 1 (crowd x0 16)) (who x0 2 (crowd x0 16))).length : Nat) : Int)))))) || (decide (((implCivil (crowd x0 16) (who x0 1 (crowd x0 16)) (who x0 2 (crowd x0 16))).1) < ((implCanon (crowd x0 16) (who x0 1 (crowd x0 16)) (who x0 2 (crowd x0 16))).1)))), (((((((!(((implCivil (crowd x0 16) (who x0 1 (crowd x0 16)) (who x0 2 (crowd x0 16))).2) == ((implCanon (crowd x0 16) (who x0 1 (crowd x0 16)) (who x0 2 (crowd x0 16))).2))) || (!(((implCivil (crowd x0 16) (who x0 1 (crowd x0 16)) (who x0 2 (crowd x0 16))).2) == ((implCivil (crowd x0 16) (who x0 2 (crowd x0 16)) (who x0 1 (crowd x0 16))).2)))) || (!(((implCivil (crowd x0 16) (who x0 1 (crowd x0 16)) (who x0 2 (crowd x0 16))).2) == ((implCanon (crowd x0 16) (who x0 2 (crowd x0 16)) (who x0 1 (crowd x0 16))).2)))) || (!decide (((implCivil (crowd x0 16) (who x0 1 (crowd x0 16)) (who x0 2 (crowd x0 16))).1) = ((implCivil (crowd x0 16) (who x0 2 (crowd x0 16)) (who x0 1 (crowd x0 16))).1)))) || (!decide (((implCanon (crowd x0 16) (who x0 1 (crowd x0 16)) (who x0 2 (crowd x0 16))).1) = ((implCanon (crowd x0 16) (who x0 2 (crowd x0 16)) (who x0 1 (crowd x0 16))).1)))) || (!(((implCivil (crowd x0 16) (who x0 1 (crowd x0 16)) (who x0 2 (crowd x0 16))).2) == (decide (0 < (((implCommon (crowd x0 16) (who x0 1 (crowd x0 16)) (who x0 2 (crowd x0 16))).length : Nat) : Int)))))) || (!(((implCivil (crowd x0 16) (who x0 1 (crowd x0 16)) (who x0 2 (crowd x0 16))).2) == (decide (0 < (((implNearest (crowd x0 16) (who x0 1 (crowd x0 16)) (who x0 2 (crowd x0 16))).length : Nat) : Int)))))) || (decide (((implCivil (crowd x0 16) (who x0 1 (crowd x0 16)) (who x0 2 (crowd x0 16))).1) < ((implCanon (crowd x0 16) (who x0 1 (crowd x0 16)) (who x0 2 (crowd x0 16))).1))), !(((((((((!(((implCivil (crowd x0 16) (who x0 1 (crowd x0 16)) (who x0 2 (crowd x0 16))).2) == ((implCanon (crowd x0 16) (who x0 1 (crowd x0 16)) (who x0 2 (crowd x0 16))).2))) || (!(((implCivil (crowd x0 16) (who x0 1 (crowd x0 16)) (who x0 2 (crowd x0 16))).2) == ((implCivil (crowd x0 16) (who x0 2 (crowd x0 16)) (who x0 1 (crowd x0 16))).2)))) || (!(((implCivil (crowd x0 16) (who x0 1 (crowd x0 16)) (who x0 2 (crowd x0 16))).2) == ((implCanon (crowd x0 16) (who x0 2 (crowd x0 16)) (who x0 1 (crowd x0 16))).2)))) || (!decide (((implCivil (crowd x0 16) (who x0 1 (crowd x0 16)) (who x0 2 (crowd x0 16))).1) = ((implCivil (crowd x0 16) (who x0 2 (crowd x0 16)) (who x0 1 (crowd x0 16))).1)))) || (!decide (((implCanon (crowd x0 16) (who x0 1 (crowd x0 16)) (who x0 2 (crowd x0 16))).1) = ((implCanon (crowd x0 16) (who x0 2 (crowd x0 16)) (who x0 1 (crowd x0 16))).1)))) || (!(((implCivil (crowd x0 16) (who x0 1 (crowd x0 16)) (who x0 2 (crowd x0 16))).2) == (decide (0 < (((implCommon (crowd x0 16) (who x0 1 (crowd x0 16)) (who x0 2 (crowd x0 16))).length : Nat) : Int)))))) || (!(((implCivil (crowd x0 16) (who x0 1 (crowd x0 16)) (who x0 2 (crowd x0 16))).2) == (decide (0 < (((implNearest (crowd x0 16) (who x0 1 (crowd x0 16)) (who x0 2 (crowd x0 16))).length : Nat) : Int)))))) || (decide (((implCivil (crowd x0 16) (who x0 1 (crowd x0 16)) (who x0 2 (crowd x0 16))).1) < ((implCanon (crowd x0 16) (who x0 1 (crowd x0 16)) (who x0 2 (crowd x0 16))).1)))) || (decide ((2 * ((implCanon (crowd x0 16) (who x0 1 (crowd x0 16)) (who x0 2 (crowd x0 16))).1)) < ((implCivil (crowd x0 16) (who x0 1 (crowd x0 16)) (who x0 2 (crowd x0 16))).1)))), ((((((((!(((implCivil (crowd x0 16) (who x0 1 (crowd x0 16)) (who x0 2 (crowd x0 16))).2) == ((implCanon (crowd x0 16) (who x0 1 (crowd x0 16)) (who x0 2 (crowd x0 16))).2))) || (!(((implCivil (crowd x0 16) (who x0 1 (crowd x0 16)) (who x0 2 (crowd x0 16))).2) == ((implCivil (crowd x0 16) (who x0 2 (crowd x0 16)) (who x0 1 (crowd x0 16))).2)))) || (!(((implCivil (crowd x0 16) (who x0 1 (crowd x0 16)) (who x0 2 (crowd x0 16))).2) == ((implCanon (crowd x0 16) (who x0 2 (crowd x0 16)) (who x0 1 (crowd x0 16))).2)))) || (!decide (((implCivil (crowd x0 16) (who x0 1 (crowd x0 16)) (who x0 2 (crowd x0 16))).1) = ((implCivil (crowd x0 16) (who x0 2 (crowd x0 16)) (who x0 1 (crowd x0 16))).1)))) || (!decide (((implCanon (crowd x0 16) (who x0 1 (crowd x0 16)) (who x0 2 (crowd x0 16))).1) = ((implCanon (crowd x0 16) (who x0 2 (crowd x0 16)) (who x0 1 (crowd x0 16))).1)))) || (!(((implCivil (crowd x0 16) (who x0 1 (crowd x0 16)) (who x0 2 (crowd x0 16))).2) == (decide (0 < (((implCommon (crowd x0 16) (who x0 1 (crowd x0 16)) (who x0 2 (crowd x0 16))).length : Nat) : Int)))))) || (!(((implCivil (crowd x0 16) (who x0 1 (crowd x0 16)) (who x0 2 (crowd x0 16))).2) == (decide (0 < (((implNearest (crowd x0 16) (who x0 1 (crowd x0 16)) (who x0 2 (crowd x0 16))).length : Nat) : Int)))))) || (decide (((implCivil (crowd x0 16) (who x0 1 (crowd x0 16)) (who x0 2 (crowd x0 16))).1) < ((implCanon (crowd x0 16) (who x0 1 (crowd x0 16)) (who x0 2 (crowd x0 16))).1)))) || (decide ((2 * ((implCanon (crowd x0 16) (who x0 1 (crowd x0 16)) (who x0 2 (crowd x0 16))).1)) < ((implCivil (crowd x0 16) (who x0 1 (crowd x0 16)) (who x0 2 (crowd x0 16))).1)))] [gt (!((((((((!(((implCivil (crowd x0 16) (who x0 1 (crowd x0 16)) (who x0 2 (crowd x0 16))).2) == ((implCanon (crowd x0 16) (who x0 1 (crowd x0 16)) (who x0 2 (crowd x0 16))).2))) || (!(((implCivil (crowd x0 16) (who x0 1 (crowd x0 16)) (who x0 2 (crowd x0 16))).2) == ((implCivil (crowd x0 16) (who x0 2 (crowd x0 16)) (who x0 1 (crowd x0 16))).2)))) || (!(((implCivil (crowd x0 16) (who x0 1 (crowd x0 16)) (who x0 2 (crowd x0 16))).2) == ((implCanon (crowd x0 16) (who x0 2 (crowd x0 16)) (who x0 1 (crowd x0 16))).2)))) || (!decide (((implCivil (crowd x0 16) (who x0 1 (crowd x0 16)) (who x0 2 (crowd x0 16))).1) = ((implCivil (crowd x0 16) (who x0 2 (crowd x0 16)) (who x0 1 (crowd x0 16))).1)))) || (!decide (((implCanon (crowd x0 16) (who x0 1 (crowd x0 16)) (who x0 2 (crowd x0 16))).1) = ((implCanon (crowd x0 16) (who x0 2 (crowd x0 16)) (who x0 1 (crowd x0 16))).1)))) || (!(((implCivil (crowd x0 16) (who x0 1 (crowd x0 16)) (who x0 2 (crowd x0 16))).2) == (decide (0 < (((implCommon (crowd x0 16) (who x0 1 (crowd x0 16)) (who x0 2 (crowd x0 16))).length : Nat) : Int)))))) || (!(((implCivil (crowd x0 16) (who x0 1 (crowd x0 16)) (who x0 2 (crowd x0 16))).2) == (decide (0 < (((implNearest (crowd x0 16) (who x0 1 (crowd x0 16)) (who x0 2 (crowd x0 16))).length : Nat) : Int)))))) || (decide (((implCivil (crowd x0 16) (who x0 1 (crowd x0 16)) (who x0 2 (crowd x0 16))).1) < ((implCanon (crowd x0 16) (who x0 1 (crowd x0 16)) (who x0 2 (crowd x0 16))).1))))) (pf (inR .i64 (2 * ((implCanon (crowd x0 16) (who x0 1 (crowd x0 16)) (who x0 2 (crowd x0 16))).1))))] [] [1, 1, 6, 9, 9, 14, 17, 17, 22, 25, 25, 30, 33, 33, 33, 33, 38, 41, 41, 41, 41, 46, 49, 49, 54, 57, 0, 57, 57, 62, 65, 65, 4, 65, 70] (cn ((((((((((!(((implCivil (crowd x0 16) (who x0 1 (crowd x0 16)) (who x0 2 (crowd x0 16))).2) == ((implCanon (crowd x0 16) (who x0 1 (crowd x0 16)) (who x0 2 (crowd x0 16))).2))) || (!(((implCivil (crowd x0 16) (who x0 1 (crowd x0 16)) (who x0 2 (crowd x0 16))).2) == ((implCivil (crowd x0 16) (who x0 2 (crowd x0 16)) (who x0 1 (crowd x0 16))).2)))) || (!(((implCivil (crowd x0 16) (who x0 1 (crowd x0 16)) (who x0 2 (crowd x0 16))).2) == ((implCanon (crowd x0 16) (who x0 2 (crowd x0 16)) (who x0 1 (crowd x0 16))).2)))) || (!decide (((implCivil (crowd x0 16) (who x0 1 (crowd x0 16)) (who x0 2 (crowd x0 16))).1) = ((implCivil (crowd x0 16) (who x0 2 (crowd x0 16)) (who x0 1 (crowd x0 16))).1)))) || (!decide (((implCanon (crowd x0 16) (who x0 1 (crowd x0 16)) (who x0 2 (crowd x0 16))).1) = ((implCanon (crowd x0 16) (who x0 2 (crowd x0 16)) (who x0 1 (crowd x0 16))).1)))) || (!(((implCivil (crowd x0 16) (who x0 1 (crowd x0 16)) (who x0 2 (crowd x0 16))).2) == (decide (0 < (((implCommon (crowd x0 16) (who x0 1 (crowd x0 16)) (who x0 2 (crowd x0 16))).length : Nat) : Int)))))) || (!(((implCivil (crowd x0 16) (who x0 1 (crowd x0 16)) (who x0 2 (crowd x0 16))).2) == (decide (0 < (((implNearest (crowd x0 16) (who x0 1 (crowd x0 16)) (who x0 2 (crowd x0 16))).length : Nat) : Int)))))) || (decide (((implCivil (crowd x0 16) (who x0 1 (crowd x0 16)) (who x0 2 (crowd x0 16))).1) < ((implCanon (crowd x0 16) (who x0 1 (crowd x0 16)) (who x0 2 (crowd x0 16))).1)))) || (decide ((2 * ((implCanon (crowd x0 16) (who x0 1 (crowd x0 16)) (who x0 2 (crowd x0 16))).1)) < ((implCivil (crowd x0 16) (who x0 1 (crowd x0 16)) (who x0 2 (crowd x0 16))).1)))) || (!(lawSubset (implNearest (crowd x0 16) (who x0 1 (crowd x0 16)) (who x0 2 (crowd x0 16))) (implCommon (crowd x0 16) (who x0 1 (crowd x0 16)) (who x0 2 (crowd x0 16)))))) (r0 1 [2, 3, 4, 16, 17] [3, 1033, 1081, 1085, 2033] (rt [] (C8 false))) (r0 1 [2, 3, 4, 17, 140, 141, 142] [3, 1033, 1081, 1085, 2033] (lp (D8b1 x0) [] [] [] (D8b1 x0 0 ()) (A8b1 x0)))))))))))
theorem law_FnDegrees {x0 : List Int} (hx : x0.length ≤ 1048576 ∧ ∀ y ∈ x0, inR .u8 y) : laws_FnDegrees_m x0 = true := by
  have hc := crowd_bd hx 16
  have ha := who_rng (bytes_ok hx).2 (i := 1) (by omega) hc.2.1.1
  have hb := who_rng (bytes_ok hx).2 (i := 2) (by omega) hc.2.1.1
  have hf := hc.1
  unfold laws_FnDegrees_m
  rw [decide_eq_false (by have := hx.1; omega)]
  simp only [cond_false]
  clear hx hc
  revert ha hb hf
  generalize who x0 1 (crowd x0 16) = a
  generalize who x0 2 (crowd x0 16) = b
  generalize crowd x0 16 = x
  intro ha hb hf
  have hs : (specCivil x a b).2 = (implCivil x a b).2 := by unfold specCivil implCivil; rw [linkOf_eq]
  have hci := implLinkOf_civ hf ha hb
  have hca := implCanon_can hf ha hb
  rw [hs, ← hci.symm (implLinkOf_civ hf hb ha), ← hca.symm (implCanon_can hf hb ha)]
  have hcom : Com x a b (implCommon x a b) := fun q => by
    rw [implCommon_eq, specCommon_of hf ha hb]; exact l8Common_iff hf ha hb q
  have hne : (implCivil x a b).2 = true ↔ 0 < (implCommon x a b).length := by
    rw [hci.ok, List.length_pos_iff_exists_mem]
    exact exists_congr fun q => (hcom q).symm
  have hun := fun q hq => nearest_under hf ha hb hcom 100 q hq (by have h1 := fam_n hf; have h2 := ((hcom q).1 hq).1.rng hf ha; omega)
  have hnn : 0 < (implNearest x a b).length ↔ 0 < (implCommon x a b).length := by
    rw [List.length_pos_iff_exists_mem, List.length_pos_iff_exists_mem]
    constructor
    · rintro ⟨q, hq⟩; exact ⟨q, ((implNearest_iff x a b q).1 hq).1⟩
    · rintro ⟨q, hq⟩
      obtain ⟨r, g1, g2, _⟩ := hun q hq
      exact ⟨r, (implNearest_iff x a b r).2 ⟨g1, g2⟩⟩
  have hok : (implCivil x a b).2 = (implCanon x a b).2 := by rw [Bool.eq_iff_iff, hci.ok, hca.ok]
  have hst : ∀ q, Above x a q → Above x b q → 0 ≤ St x a q ∧ 0 ≤ St x b q := fun q h1 h2 => by
    have h3 := h1.rng hf ha
    exact ⟨(above_iff hf ha ⟨h3.1, h3.2.1⟩).2 h1, (above_iff hf hb ⟨h3.1, h3.2.1⟩).2 h2⟩
  have hmn : (implCanon x a b).1 ≤ (implCivil x a b).1 ∧ (implCivil x a b).1 ≤ 2 * (implCanon x a b).1 := by
    cases c : (implCivil x a b).2 with
    | false => rw [hci.no c, hca.no (hok ▸ c)]; omega
    | true =>
      have c2 : (implCanon x a b).2 = true := hok ▸ c
      obtain ⟨q, g1, g2, g3⟩ := hci.is c
      obtain ⟨r, k1, k2, k3⟩ := hca.is c2
      have h1 := hca.le c2 q g1 g2
      have h2 := hci.le c r k1 k2
      have h3 := hst q g1 g2
      have h4 := hst r k1 k2
      omega
  have e1 : decide (0 < (((implCommon x a b).length : Nat) : Int)) = (implCivil x a b).2 := by
    rw [Bool.eq_iff_iff, decide_eq_true_eq, hne]; omega
  have e2 : decide (0 < (((implNearest x a b).length : Nat) : Int)) = (implCivil x a b).2 := by
    rw [Bool.eq_iff_iff, decide_eq_true_eq, hne, ← hnn]; omega
  have e3 : lawSubset (implNearest x a b) (implCommon x a b) = true := (lawSubset_iff _ _).2 fun q hq => ((implNearest_iff x a b q).1 hq).1
  rw [e1, e2, e3, ← hok, decide_eq_false (show ¬ (implCivil x a b).1 < (implCanon x a b).1 by omega), decide_eq_false (show ¬ 2 * (implCanon x a b).1 < (implCivil x a b).1 by omega)]
  simp only [beq_self_eq_true, decide_true, Bool.not_true, Bool.or_false, cond_false]
  refine loopN_to (fun _ (_ : Unit) => True) (fun r => r = true) trivial (fun i v next hi _ hn => ?_) (fun v _ => ?_)
  · obtain ⟨r, g1, g2, g3⟩ := hun _ (getD_mem (d := default) hi)
    obtain ⟨k, hk, e⟩ := mem_getD (d := default) ((implNearest_iff x a b r).2 ⟨g1, g2⟩)
    refine loopN_to (fun j (w : Bool) => k < j → w = true) (fun r => r = true) (fun h => absurd h (Nat.not_lt_zero _)) (fun j w next2 hj hw hn2 => hn2 _ fun hkj => ?_) (fun w hw => by rw [hw hk]; exact hn _ trivial)
    rcases Nat.lt_or_ge k j with c | c
    · rw [hw c]; rfl
    · have ekj : k = j := by omega
      subst ekj
      have hr := ((hcom r).1 g1).1.rng hf ha
      have hq := ((hcom _).1 (getD_mem (d := (default : Int)) hi)).1.rng hf ha
      rw [e]
      have hsu : (implStepsUp x r ((implCommon x a b).getD i default)).2 = true := by
        unfold implStepsUp
        rw [(implHas2 x _ _).2 ⟨hf, ⟨hr.1, hr.2.1⟩, hq.1, hq.2.1⟩]
        simp only [Bool.not_true, cond_false]
        rw [stepsUp_eq x r (isFamily_par x hf) ⟨hr.1, hr.2.1⟩]
        exact decide_eq_true ((above_iff hf ⟨hr.1, hr.2.1⟩ ⟨hq.1, hq.2.1⟩).2 g3)
      rw [hsu]; simp
  · have hpa : implParents x a = l1Parents x a := by
      unfold implParents
      rw [(implHas1 x a).2 ⟨hf, ha⟩]
      simp only [Bool.not_true, cond_false, parentsOf_eq]
    rw [hpa, loopN_all]
    refine ⟨fun j hj => ?_, rfl⟩
    have hp := parent_lt (isFamily_par x hf) ha (getD_mem (d := (default : Int)) hj)
    have hm : (l1Parents x a).getD j default ∈ l1Parents x a := getD_mem hj
    revert hp hm
    generalize (l1Parents x a).getD j default = q
    intro hp hm
    have hq : 0 ≤ q ∧ q < x.people.length := by omega
    have hc2 := implLinkOf_civ hf ha hq
    have hab : Above x a q := Above.cons hm (Above.self x q)
    have hok2 : (implCivil x a q).2 = true := hc2.ok.2 ⟨q, hab, Above.self x q⟩
    have h1 : (implCivil x a q).1 ≤ 1 := by
      have h2 := hc2.le hok2 q hab (Above.self x q)
      rw [St.self hf hq] at h2
      have h3 := (St.up hf ha hq ((above_iff hf ha hq).2 hab)).2 1 (Up.cons hm .zero)
      omega
    obtain ⟨r, k1, k2, k3⟩ := hc2.is hok2
    have hr := k1.rng hf ha
    have h4 : 0 ≤ St x a r := (above_iff hf ha ⟨hr.1, hr.2.1⟩).2 k1
    have h5 : 0 ≤ St x q r := (above_iff hf hq ⟨hr.1, hr.2.1⟩).2 k2
    have h6 : (implCivil x a q).1 ≠ 0 := fun h => by
      have h7 := St.zero hf ha ⟨hr.1, hr.2.1⟩ (by omega)
      have h8 := St.zero hf hq ⟨hr.1, hr.2.1⟩ (by omega)
      omega
    rw [hok2, decide_eq_true (show (implCivil x a q).1 = 1 by omega)]
    rfl
theorem ok_laws_FnDegrees (x0 : List Int) (hx0 : x0.length ≤ 1048576 ∧ ∀ y ∈ x0, inR .u8 y) : FnT Try.prog 8 [.ro false 1 x0.length (rowOf (cInt .u8) x0)] (C8 true) := by
  have aux : ∀ R, laws_FnDegrees_m x0 = R → slim (C8 R) (A8 x0) [] := by
    intro R hR
    refine rg trivial ?_
    refine rg trivial ?_
    revert hR; refine cd (fun hc1 hR => ?_) fun hc1 hR => ?_
    ·
      refine rg trivial ?_
      exact congrArg C8 hR
    ·
      refine rg ⟨⟨by (intros; omega), by (with_reducible exact (bytes_ok hx0).2), by (intros; omega)⟩, ⟨by (intros; omega), by (with_reducible exact (bytes_ok hx0).2), by (intros; omega), by (have h9 := crowd_bd hx0 16; omega)⟩, ⟨by (intros; omega), by (with_reducible exact (bytes_ok hx0).2), by (intros; omega), by (have h9 := crowd_bd hx0 16; omega)⟩, ⟨by (have h9 := crowd_bd hx0 16; omega), by (have h9 := crowd_bd hx0 16; omega), by (with_reducible exact (crowd_bd hx0 16).2.2.2)⟩, ⟨by (have h9 := crowd_bd hx0 16; omega), by (have h9 := crowd_bd hx0 16; omega), by (with_reducible exact (crowd_bd hx0 16).2.2.2)⟩, trivial⟩ ?_
      refine rg trivial ?_
      revert hR; refine cd (fun hc2 hR => ?_) fun hc2 hR => ?_
      ·
        refine rg trivial ?_
        exact congrArg C8 hR
      ·
        refine rg ⟨⟨by (have h9 := crowd_bd hx0 16; omega), by (have h9 := crowd_bd hx0 16; omega), by (with_reducible exact (crowd_bd hx0 16).2.2.2)⟩, ⟨by (have h9 := crowd_bd hx0 16; omega), by (have h9 := crowd_bd hx0 16; omega), by (with_reducible exact (crowd_bd hx0 16).2.2.2)⟩, ⟨by (have h9 := crowd_bd hx0 16; omega), by (have h9 := crowd_bd hx0 16; omega), by (with_reducible exact (crowd_bd hx0 16).2.2.2)⟩, ⟨by (have h9 := crowd_bd hx0 16; omega), by (have h9 := crowd_bd hx0 16; omega), by (with_reducible exact (crowd_bd hx0 16).2.2.2)⟩, ⟨by (have h9 := crowd_bd hx0 16; omega), by (have h9 := crowd_bd hx0 16; omega), by (with_reducible exact (crowd_bd hx0 16).2.2.2)⟩, trivial⟩ ?_
        refine rg ⟨by (have h8 := crowd_bd hx0 16; have h9 := implCanon_bd (a := who x0 1 (crowd x0 16)) (b := who x0 2 (crowd x0 16)) h8.1 (who_rng (bytes_ok hx0).2 (i := 1) (by omega) h8.2.1.1) (who_rng (bytes_ok hx0).2 (i := 2) (by omega) h8.2.1.1); simp only [inR]; omega), fun hg0 => ⟨by (have h9 := implNearest_len (crowd x0 16) (who x0 1 (crowd x0 16)) (who x0 2 (crowd x0 16)); have h8 := crowd_bd hx0 16; (try simp only [inR]); omega), by (have h9 := implCommon_len (crowd x0 16) (who x0 1 (crowd x0 16)) (who x0 2 (crowd x0 16)); have h8 := crowd_bd hx0 16; (try simp only [inR]); omega)⟩, trivial⟩ ?_
        revert hR; refine cd (fun hc3 hR => ?_) fun hc3 hR => ?_
        ·
          refine rg trivial ?_
          exact congrArg C8 hR
        ·
          refine rg trivial ?_
          revert hR; refine lN (fun i v => True) (by exact True.intro) rfl fun i1 v1 F1 hn1 hI1 hR hK1 => ?_
          refine rg trivial ?_
          refine ⟨fun hc4 => ?_, fun hc4 => ?_⟩
          · have hii1 : i1 < (implCommon (crowd x0 16) (who x0 1 (crowd x0 16)) (who x0 2 (crowd x0 16))).length := by have := of_decide_eq_true hc4; omega
            replace hR := loopN_step hR hii1
            refine rg ⟨by (intros; omega), trivial⟩ ?_
            refine rg trivial ?_
            revert hR; refine lN (fun i v => True) (by exact True.intro) rfl fun i2 v2 F2 hn2 hI2 hR hK2 => ?_
            refine rg trivial ?_
            refine ⟨fun hc5 => ?_, fun hc5 => ?_⟩
            · have hii2 : i2 < (implNearest (crowd x0 16) (who x0 1 (crowd x0 16)) (who x0 2 (crowd x0 16))).length := by have := of_decide_eq_true hc5; omega
              replace hR := loopN_step hR hii2
              refine rg ⟨by (intros; omega), ⟨by (have h9 := crowd_bd hx0 16; omega), by (have h9 := crowd_bd hx0 16; omega), by (with_reducible exact (crowd_bd hx0 16).2.2.2)⟩, trivial⟩ ?_
              refine rg trivial ?_
              refine rg ⟨by (have h9 := implNearest_len (crowd x0 16) (who x0 1 (crowd x0 16)) (who x0 2 (crowd x0 16)); have h8 := crowd_bd hx0 16; (try simp only [inR]); omega), trivial⟩ ?_
              exact hK2 (v2 || ((implStepsUp (crowd x0 16) ((implNearest (crowd x0 16) (who x0 1 (crowd x0 16)) (who x0 2 (crowd x0 16))).getD i2 default) ((implCommon (crowd x0 16) (who x0 1 (crowd x0 16)) (who x0 2 (crowd x0 16))).getD i1 default)).2)) hii2 (by exact True.intro) hR
            · obtain rfl : i2 = (implNearest (crowd x0 16) (who x0 1 (crowd x0 16)) (who x0 2 (crowd x0 16))).length := by have := of_decide_eq_false hc5; omega
              replace hR := loopN_end hR (Nat.lt_irrefl _)
              refine rg trivial ?_
              revert hR; refine cd (fun hc6 hR => ?_) fun hc6 hR => ?_
              ·
                refine rg trivial ?_
                exact congrArg C8 hR
              ·
                refine rg ⟨by (have h9 := implCommon_len (crowd x0 16) (who x0 1 (crowd x0 16)) (who x0 2 (crowd x0 16)); have h8 := crowd_bd hx0 16; (try simp only [inR]); omega), trivial⟩ ?_
                exact hK1 () hii1 (by exact True.intro) hR
          · obtain rfl : i1 = (implCommon (crowd x0 16) (who x0 1 (crowd x0 16)) (who x0 2 (crowd x0 16))).length := by have := of_decide_eq_false hc4; omega
            replace hR := loopN_end hR (Nat.lt_irrefl _)
            refine rg ⟨⟨by (have h9 := crowd_bd hx0 16; omega), by (have h9 := crowd_bd hx0 16; omega), by (with_reducible exact (crowd_bd hx0 16).2.2.2)⟩, trivial⟩ ?_
            revert hR; refine lN (fun i v => True) (by exact True.intro) rfl fun i3 v3 F3 hn3 hI3 hR hK3 => ?_
            refine rg trivial ?_
            refine ⟨fun hc7 => ?_, fun hc7 => ?_⟩
            · have hii3 : i3 < (implParents (crowd x0 16) (who x0 1 (crowd x0 16))).length := by have := of_decide_eq_true hc7; omega
              replace hR := loopN_step hR hii3
              refine rg ⟨by (intros; omega), ⟨by (have h9 := crowd_bd hx0 16; omega), by (have h9 := crowd_bd hx0 16; omega), by (with_reducible exact (crowd_bd hx0 16).2.2.2)⟩, trivial⟩ ?_
              revert hR; refine cd (fun hc8 hR => ?_) fun hc8 hR => ?_
              ·
                refine rg trivial ?_
                exact congrArg C8 hR
              ·
                refine rg ⟨by (have h9 := implParents_len (crowd x0 16) (who x0 1 (crowd x0 16)); simp only [inR]; omega), trivial⟩ ?_
                exact hK3 () hii3 (by exact True.intro) hR
            · obtain rfl : i3 = (implParents (crowd x0 16) (who x0 1 (crowd x0 16))).length := by have := of_decide_eq_false hc7; omega
              replace hR := loopN_end hR (Nat.lt_irrefl _)
              refine rg trivial ?_
              exact congrArg C8 hR
  exact Fn.go 189 Try.func8 (by kernel_rfl) (by kernel_rfl) (by simp [C8, Frs, FrsL]) (A8 x0) (by kernel_rfl) (aux _ (law_FnDegrees hx0))
theorem bulk_pos {H : Type} (d : DataW H) : 1 ≤ Rows.uptoBulk d := by
  cases d with
  | lit l => cases l <;> simp [Rows.uptoBulk]
  | _ => simp [Rows.uptoBulk]
theorem bulkAll_len {H : Type} : ∀ l : List (DataW H), l.length ≤ Rows.uptoBulkAll l
  | [] => by simp
  | d :: l => by
    have := bulk_pos d
    have := bulkAll_len l
    simp only [Rows.uptoBulkAll, List.length_cons]
    omega
theorem bulkAll_mem {H : Type} : ∀ (l : List (DataW H)) (d : DataW H), d ∈ l → Rows.uptoBulk d ≤ Rows.uptoBulkAll l
  | [], d, h => by cases h
  | e :: l, d, h => by
    simp only [Rows.uptoBulkAll]
    rcases List.mem_cons.1 h with e | h
    · rw [e]; omega
    · have := bulkAll_mem l d h
      omega
theorem bulk {H : Type} : Bulk (Rows.uptoBulk (H := H)) where
  str := fun bs => by simp [Rows.uptoBulk]
  slen := fun es sp => by
    have := bulkAll_len es
    simp only [Rows.uptoBulk]
    omega
  sel := fun es sp e he => by
    have := bulkAll_mem es e he
    simp only [Rows.uptoBulk]
    omega
  agg := fun ps p hp => by
    have := bulkAll_mem ps p hp
    simp only [Rows.uptoBulk]
    omega
theorem own : ownKnob Try.prog.godebug = none := by kernel_rfl
theorem laidOut : laidOutB Try.prog = true := by kernel_rfl
set_option maxRecDepth 100000 in
theorem contract (H : Type) (enc : TypeId × Value → H) (W : World) (base : Nat) (args : Array Value) (ds gs : List (DataW H)) (before : List MemPlace)
    (hval : ∀ (j : Nat) t v, Try.f8.params[j]? = some t → args[j]? = some v → Value.okWide Try.prog W .any base t v)
    (hW : DataW.Whole enc Try.prog Try.f8.params.toList Rows.fnDegreesSpec.vars false W args.toList ds gs before) (hk : Rows.uptoSmall H (ds ++ gs) = true) :
    Calls Try.prog 8 args W fun e W' => ∃ v, e = .returned v ∧ Rows.fnDegreesSpec.post enc Try.prog Try.f8 false true false false W args v W' := by
  have hW' := hW
  obtain ⟨p, q, hA0, hV, hpq, hfz, hnd⟩ := hW
  have hA : DataW.TrodAll enc Try.prog W 0 (fun _ => true) true Try.f8.params.toList args.toList ds p := hA0
  clear hA0
  rw [Try.params8] at hA hval
  obtain ⟨v0, vs0, d0, ds0, p0, q0, hargs, rfl, rfl, h0, hA1⟩ := trodAll_cons hA
  obtain ⟨rfl, rfl, rfl⟩ := trodAll_nil hA1
  obtain rfl : args = #[v0] := by cases args; simp_all
  obtain ⟨rfl, rfl⟩ := trodVars_none hV
  obtain ⟨x0, k0, r0⟩ := top_slice (opens_slice bulk (mono_triv (p := fun (n : Int) => inR .u8 n)) Try.underlying41 (sz := 1) (by kernel_rfl) (by omega) (opens_int Try.underlying5)) Try.underlying41 (hval 0 41 v0 rfl rfl) h0
  have kk0 := ((mono_sl (mono_triv (p := fun (n : Int) => inR .u8 n)))) _ _ x0 (show Rows.uptoBulk d0 ≤ 1048576 from Nat.le_trans (bulkAll_mem _ d0 (by simp)) (of_decide_eq_true hk)) k0
  refine (Lite.Fn.true_of (ok_laws_FnDegrees x0 kk0) (by rfl) fun i lv v hl hv => ?_).mono fun e W' ⟨he, hb⟩ => ⟨_, he, row_post laidOut (by kernel_rfl) rfl Try.underlying4 rfl rfl hW' hb⟩
  match i, hl, hv with
  | 0, hl, hv => cases hl; cases hv; exact r0
  | _ + 1, hl, _ => simp at hl
set_option maxRecDepth 100000 in
theorem lifted (os : Os) (started : os.Started) (H : Type) (enc : TypeId × Value → H) (F : Stop.Interp) :
    ReturnsInHanded {} Try.checked os 8 .any ((Rows.OpenSpec.upto Rows.fnDegreesSpec).pre6 enc Try.prog Try.f8 Rows.fnDegreesUptoRow.domain false) (((Rows.OpenSpec.upto Rows.fnDegreesSpec).at F).post enc Try.prog Try.f8 false true false false) := by
  refine returnsInHanded_of_cond (C := Try.checked) (s := Rows.OpenSpec.upto Rows.fnDegreesSpec) (k := Rows.uptoSmall) rfl own started (by kernel_rfl) Try.func8
    (OpenSpec.witness (enc := enc) (C := Try.checked) (s := Rows.OpenSpec.upto Rows.fnDegreesSpec) (k := Rows.uptoSmall) rfl false ⟨#[], #[.slice none 0 0], []⟩ 12 (by kernel_rfl) (by kernel_rfl) (by kernel_rfl)
      (x := ([.nil], [], [])) (by kernel_rfl) rfl (by kernel_rfl)) ?_
  intro W base args ds gs before hval hW _ hk _
  exact contract H enc W base args ds gs before hval hW hk
theorem proved : Rows.FnDegreesUptoSaid :=
  OpenClaim.holds_of_cond 8 Try.f8 rfl rfl rfl rfl rfl rfl rfl ⟨rfl, rfl, rfl, rfl, rfl⟩ rfl rfl rfl rfl rfl (by kernel_rfl) Try.func8 (by kernel_rfl)
    (of_decide_eq_true (by kernel_rfl)) (by unfold Func.isWrapper; first | (rw [if_pos (by decide +kernel)]; kernel_rfl) | (rw [if_neg (by decide +kernel)]; exact ⟨rfl, rfl⟩))
    (fun os started H enc _ F => lifted os started H enc F)
end Go.Proofs.Ytanpfncfphpddab
