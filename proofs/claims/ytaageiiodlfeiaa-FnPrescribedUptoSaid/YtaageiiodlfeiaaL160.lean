/- In a family drawn from any text of at most 1048576 bytes, to whose people classes of one of three given systems are assigned, partners by class are partners both ways, and the relatives of a man by each of the types of up to three steps that the classes allow are among his partners. -/
import Derived.Test.YtaageiiodlfeiaaRows
import Derived.Test.YtaageiiodlfeiaaM289
import Derived.Test.YtaageiiodlfeiaaLiteR
import Derived.WalkKit
import Derived.ProofKit
import Derived.OpenShut
import Derived.JoinedCond
set_option maxHeartbeats 4000000
set_option linter.unusedSimpArgs false
set_option linter.unusedVariables false
namespace Go.Proofs.Ytaageiiodlfeiaa
open Go Go.Lite Go.Proofs Go.ChangeShapes Go.WideShapes Go.ChangeAt Go.RowKit
def C4 (R : Bool) : LV × List (Nat × BC):=(.bool R,[])
def laws_FnPrescribed_m (x0 : List Int) : Bool:=bif (decide (1048576 < ((x0.length : Nat) : Int))) then true else (loopN (fun i1 (v1 : (List Int)) next=>next (v1 ++ [(-1)])) (fun (v1 : (List Int))=>bif (!((assignC (crowd x0 14) (sampCls (([[107,97,114,105,101,114,97],[99,105,114,99,108,101],[109,111,105,101,116,105,101,115]] : List (List UInt8)).getD (((at1 x0 1).tmod 3).toNat) default)) v1).2)) then true else (bif (!decide ((((implClassPartners (crowd x0 14) (sampCls (([[107,97,114,105,101,114,97],[99,105,114,99,108,101],[109,111,105,101,116,105,101,115]] : List (List UInt8)).getD (((at1 x0 1).tmod 3).toNat) default)) ((assignC (crowd x0 14) (sampCls (([[107,97,114,105,101,114,97],[99,105,114,99,108,101],[109,111,105,101,116,105,101,115]] : List (List UInt8)).getD (((at1 x0 1).tmod 3).toNat) default)) v1).1) (who x0 2 (crowd x0 14))).length : Nat) : Int) = (((specClassPartners (crowd x0 14) (sampCls (([[107,97,114,105,101,114,97],[99,105,114,99,108,101],[109,111,105,101,116,105,101,115]] : List (List UInt8)).getD (((at1 x0 1).tmod 3).toNat) default)) ((assignC (crowd x0 14) (sampCls (([[107,97,114,105,101,114,97],[99,105,114,99,108,101],[109,111,105,101,116,105,101,115]] : List (List UInt8)).getD (((at1 x0 1).tmod 3).toNat) default)) v1).1) (who x0 2 (crowd x0 14))).length : Nat) : Int))) then false else (loopN (fun i2 (v2 : Unit) next=>bif (!(lawHas (implClassPartners (crowd x0 14) (sampCls (([[107,97,114,105,101,114,97],[99,105,114,99,108,101],[109,111,105,101,116,105,101,115]] : List (List UInt8)).getD (((at1 x0 1).tmod 3).toNat) default)) ((assignC (crowd x0 14) (sampCls (([[107,97,114,105,101,114,97],[99,105,114,99,108,101],[109,111,105,101,116,105,101,115]] : List (List UInt8)).getD (((at1 x0 1).tmod 3).toNat) default)) v1).1) ((implClassPartners (crowd x0 14) (sampCls (([[107,97,114,105,101,114,97],[99,105,114,99,108,101],[109,111,105,101,116,105,101,115]] : List (List UInt8)).getD (((at1 x0 1).tmod 3).toNat) default)) ((assignC (crowd x0 14) (sampCls (([[107,97,114,105,101,114,97],[99,105,114,99,108,101],[109,111,105,101,116,105,101,115]] : List (List UInt8)).getD (((at1 x0 1).tmod 3).toNat) default)) v1).1) (who x0 2 (crowd x0 14))).getD i2 default)) (who x0 2 (crowd x0 14)))) then false else (next ())) (fun (v2 : Unit)=>bif (!decide (((((crowd x0 14).people).getD ((who x0 2 (crowd x0 14)).toNat) default).sex) = 1)) then true else (loopN (fun i3 (v3 : Unit) next=>bif (!(lawSubset (relatives (crowd x0 14) (who x0 2 (crowd x0 14)) ((allowedTy (sampCls (([[107,97,114,105,101,114,97],[99,105,114,99,108,101],[109,111,105,101,116,105,101,115]] : List (List UInt8)).getD (((at1 x0 1).tmod 3).toNat) default)) 3).getD i3 default)) (implClassPartners (crowd x0 14) (sampCls (([[107,97,114,105,101,114,97],[99,105,114,99,108,101],[109,111,105,101,116,105,101,115]] : List (List UInt8)).getD (((at1 x0 1).tmod 3).toNat) default)) ((assignC (crowd x0 14) (sampCls (([[107,97,114,105,101,114,97],[99,105,114,99,108,101],[109,111,105,101,116,105,101,115]] : List (List UInt8)).getD (((at1 x0 1).tmod 3).toNat) default)) v1).1) (who x0 2 (crowd x0 14))))) then false else (next ())) (fun (v3 : Unit)=>true) ((allowedTy (sampCls (([[107,97,114,105,101,114,97],[99,105,114,99,108,101],[109,111,105,101,116,105,101,115]] : List (List UInt8)).getD (((at1 x0 1).tmod 3).toNat) default)) 3).length) 0 ())) ((implClassPartners (crowd x0 14) (sampCls (([[107,97,114,105,101,114,97],[99,105,114,99,108,101],[109,111,105,101,116,105,101,115]] : List (List UInt8)).getD (((at1 x0 1).tmod 3).toNat) default)) ((assignC (crowd x0 14) (sampCls (([[107,97,114,105,101,114,97],[99,105,114,99,108,101],[109,111,105,101,116,105,101,115]] : List (List UInt8)).getD (((at1 x0 1).tmod 3).toNat) default)) v1).1) (who x0 2 (crowd x0 14))).length) 0 ()))) (((crowd x0 14).people).length) 0 ([] : List Int))
def D4b1 (x0 : List Int) (i1 : Nat) (v1 : (List Int)) : Dl:=⟨[(30,.int .i64 ((i1 : Nat) : Int)),(5,.own 20005)],[(20005,.arr 1 v1.length (rowOf (cInt .i64) v1))]⟩
def D4b2 (x0 : List Int) (i1 : Nat) (v1 : (List Int)) (i2 : Nat) (v2 : Unit) : Dl:=⟨[(64,.int .i64 ((i2 : Nat) : Int))],[]⟩
def D4b3 (x0 : List Int) (i1 : Nat) (v1 : (List Int)) (i2 : Nat) (v2 : Unit) (i3 : Nat) (v3 : Unit) : Dl:=⟨[(87,.int .i64 ((i3 : Nat) : Int))],[]⟩
def A4b3 (x0 : List Int) (i1 : Nat) (v1 : (List Int)) (i2 : Nat) (v2 : Unit) (i3 : Nat) (v3 : Unit) : Ann:=r0 1 [2,3,8,9,85,86,87,88] [3,1018,1052,1085,2018] (cn (decide (((i3 : Nat) : Int) < (((allowedTy (sampCls (([[107,97,114,105,101,114,97],[99,105,114,99,108,101],[109,111,105,101,116,105,101,115]] : List (List UInt8)).getD (((at1 x0 1).tmod 3).toNat) default)) 3).length : Nat) : Int))) (.reg 2 [] [(1003,k21 (crowd x0 14) (who x0 2 (crowd x0 14)) ((allowedTy (sampCls (([[107,97,114,105,101,114,97],[99,105,114,99,108,101],[109,111,105,101,116,105,101,115]] : List (List UInt8)).getD (((at1 x0 1).tmod 3).toNat) default)) 3).getD i3 default)),(1005,k20 (relatives (crowd x0 14) (who x0 2 (crowd x0 14)) ((allowedTy (sampCls (([[107,97,114,105,101,114,97],[99,105,114,99,108,101],[109,111,105,101,116,105,101,115]] : List (List UInt8)).getD (((at1 x0 1).tmod 3).toNat) default)) 3).getD i3 default)) (implClassPartners (crowd x0 14) (sampCls (([[107,97,114,105,101,114,97],[99,105,114,99,108,101],[109,111,105,101,116,105,101,115]] : List (List UInt8)).getD (((at1 x0 1).tmod 3).toNat) default)) ((assignC (crowd x0 14) (sampCls (([[107,97,114,105,101,114,97],[99,105,114,99,108,101],[109,111,105,101,116,105,101,115]] : List (List UInt8)).getD (((at1 x0 1).tmod 3).toNat) default)) v1).1) (who x0 2 (crowd x0 14))))] [2,3,8,9,85,86,87,97] [3,1018,1052,1085,2018] [] [pf (0 ≤ (((i3 : Nat) : Int) : Int) ∧ (((i3 : Nat) : Int) : Int) < (((allowedTy (sampCls (([[107,97,114,105,101,114,97],[99,105,114,99,108,101],[109,111,105,101,116,105,101,115]] : List (List UInt8)).getD (((at1 x0 1).tmod 3).toNat) default)) 3).length : Nat) : Int))] [] [0,4,8] (cn (!(lawSubset (relatives (crowd x0 14) (who x0 2 (crowd x0 14)) ((allowedTy (sampCls (([[107,97,114,105,101,114,97],[99,105,114,99,108,101],[109,111,105,101,116,105,101,115]] : List (List UInt8)).getD (((at1 x0 1).tmod 3).toNat) default)) 3).getD i3 default)) (implClassPartners (crowd x0 14) (sampCls (([[107,97,114,105,101,114,97],[99,105,114,99,108,101],[109,111,105,101,116,105,101,115]] : List (List UInt8)).getD (((at1 x0 1).tmod 3).toNat) default)) ((assignC (crowd x0 14) (sampCls (([[107,97,114,105,101,114,97],[99,105,114,99,108,101],[109,111,105,101,116,105,101,115]] : List (List UInt8)).getD (((at1 x0 1).tmod 3).toNat) default)) v1).1) (who x0 2 (crowd x0 14))))) (r0 1 [2,3,8,9,85,86,87] [3,1018,1052,1085,2018] (rt [] (C4 false))) (r1 1 [2,3,8,9,85,86,87] [3,1018,1052,1085,2018] [pf (inR .i64 (((i3 : Nat) : Int) + 1))] [0] (.next 0 [] (D4b3 x0 i1 v1 i2 v2 (i3 + 1) ()))))) (r0 1 [2] [] (rt [] (C4 true))))
def A4b2 (x0 : List Int) (i1 : Nat) (v1 : (List Int)) (i2 : Nat) (v2 : Unit) : Ann:=r0 1 [2,3,4,6,8,9,62,63,64,65] [3,4,1018,1025,1040,1052,2018,2025] (cn (decide (((i2 : Nat) : Int) < (((implClassPartners (crowd x0 14) (sampCls (([[107,97,114,105,101,114,97],[99,105,114,99,108,101],[109,111,105,101,116,105,101,115]] : List (List UInt8)).getD (((at1 x0 1).tmod 3).toNat) default)) ((assignC (crowd x0 14) (sampCls (([[107,97,114,105,101,114,97],[99,105,114,99,108,101],[109,111,105,101,116,105,101,115]] : List (List UInt8)).getD (((at1 x0 1).tmod 3).toNat) default)) v1).1) (who x0 2 (crowd x0 14))).length : Nat) : Int))) (.reg 2 [] [(1004,k16 (crowd x0 14) (sampCls (([[107,97,114,105,101,114,97],[99,105,114,99,108,101],[109,111,105,101,116,105,101,115]] : List (List UInt8)).getD (((at1 x0 1).tmod 3).toNat) default)) ((assignC (crowd x0 14) (sampCls (([[107,97,114,105,101,114,97],[99,105,114,99,108,101],[109,111,105,101,116,105,101,115]] : List (List UInt8)).getD (((at1 x0 1).tmod 3).toNat) default)) v1).1) ((implClassPartners (crowd x0 14) (sampCls (([[107,97,114,105,101,114,97],[99,105,114,99,108,101],[109,111,105,101,116,105,101,115]] : List (List UInt8)).getD (((at1 x0 1).tmod 3).toNat) default)) ((assignC (crowd x0 14) (sampCls (([[107,97,114,105,101,114,97],[99,105,114,99,108,101],[109,111,105,101,116,105,101,115]] : List (List UInt8)).getD (((at1 x0 1).tmod 3).toNat) default)) v1).1) (who x0 2 (crowd x0 14))).getD i2 default)),(1006,k18 (implClassPartners (crowd x0 14) (sampCls (([[107,97,114,105,101,114,97],[99,105,114,99,108,101],[109,111,105,101,116,105,101,115]] : List (List UInt8)).getD (((at1 x0 1).tmod 3).toNat) default)) ((assignC (crowd x0 14) (sampCls (([[107,97,114,105,101,114,97],[99,105,114,99,108,101],[109,111,105,101,116,105,101,115]] : List (List UInt8)).getD (((at1 x0 1).tmod 3).toNat) default)) v1).1) ((implClassPartners (crowd x0 14) (sampCls (([[107,97,114,105,101,114,97],[99,105,114,99,108,101],[109,111,105,101,116,105,101,115]] : List (List UInt8)).getD (((at1 x0 1).tmod 3).toNat) default)) ((assignC (crowd x0 14) (sampCls (([[107,97,114,105,101,114,97],[99,105,114,99,108,101],[109,111,105,101,116,105,101,115]] : List (List UInt8)).getD (((at1 x0 1).tmod 3).toNat) default)) v1).1) (who x0 2 (crowd x0 14))).getD i2 default)) (who x0 2 (crowd x0 14)))] [2,3,4,6,8,9,62,63,64,75] [3,4,1018,1025,1040,1052,2018,2025] [] [pf (0 ≤ (((i2 : Nat) : Int) : Int) ∧ (((i2 : Nat) : Int) : Int) < (((implClassPartners (crowd x0 14) (sampCls (([[107,97,114,105,101,114,97],[99,105,114,99,108,101],[109,111,105,101,116,105,101,115]] : List (List UInt8)).getD (((at1 x0 1).tmod 3).toNat) default)) ((assignC (crowd x0 14) (sampCls (([[107,97,114,105,101,114,97],[99,105,114,99,108,101],[109,111,105,101,116,105,101,115]] : List (List UInt8)).getD (((at1 x0 1).tmod 3).toNat) default)) v1).1) (who x0 2 (crowd x0 14))).length : Nat) : Int))] [] [0,4,8] (cn (!(lawHas (implClassPartners (crowd x0 14) (sampCls (([[107,97,114,105,101,114,97],[99,105,114,99,108,101],[109,111,105,101,116,105,101,115]] : List (List UInt8)).getD (((at1 x0 1).tmod 3).toNat) default)) ((assignC (crowd x0 14) (sampCls (([[107,97,114,105,101,114,97],[99,105,114,99,108,101],[109,111,105,101,116,105,101,115]] : List (List UInt8)).getD (((at1 x0 1).tmod 3).toNat) default)) v1).1) ((implClassPartners (crowd x0 14) (sampCls (([[107,97,114,105,101,114,97],[99,105,114,99,108,101],[109,111,105,101,116,105,101,115]] : List (List UInt8)).getD (((at1 x0 1).tmod 3).toNat) default)) ((assignC (crowd x0 14) (sampCls (([[107,97,114,105,101,114,97],[99,105,114,99,108,101],[109,111,105,101,116,105,101,115]] : List (List UInt8)).getD (((at1 x0 1).tmod 3).toNat) default)) v1).1) (who x0 2 (crowd x0 14))).getD i2 default)) (who x0 2 (crowd x0 14)))) (r0 1 [2,3,4,6,8,9,62,63,64] [3,4,1018,1025,1040,1052,2018,2025] (rt [] (C4 false))) (r1 1 [2,3,4,6,8,9,62,63,64] [3,4,1018,1025,1040,1052,2018,2025] [pf (inR .i64 (((i2 : Nat) : Int) + 1))] [0] (.next 0 [] (D4b2 x0 i1 v1 (i2 + 1) ()))))) (r1 1 [2,3,4,8,9,83] [3,4,1018,1025,1052,2018,2025] [pf (0 ≤ (who x0 2 (crowd x0 14) : Int) ∧ (who x0 2 (crowd x0 14) : Int) < ((((crowd x0 14).people).length : Nat) : Int))] [0] (cn (!decide (((((crowd x0 14).people).getD ((who x0 2 (crowd x0 14)).toNat) default).sex) = 1)) (r0 1 [2,3,4,8,9] [3,4,1018,1025,1052,2018,2025] (rt [] (C4 true))) (.reg 1 [] [(1,k19 (sampCls (([[107,97,114,105,101,114,97],[99,105,114,99,108,101],[109,111,105,101,116,105,101,115]] : List (List UInt8)).getD (((at1 x0 1).tmod 3).toNat) default)) 3)] [2,3,8,9,85,86,87] [3,1018,1052,1085,2018] [] [] [] [0] (lp (D4b3 x0 i1 v1 i2 v2) [] [] [] (D4b3 x0 i1 v1 i2 v2 0 ()) (A4b3 x0 i1 v1 i2 v2))))))
def A4b1 (x0 : List Int) (i1 : Nat) (v1 : (List Int)) : Ann:=r0 1 [0,2,3,4,5,29,30,31] [3,4,1018,1025,2018,2025,20005] (cn (decide (((i1 : Nat) : Int) < ((((crowd x0 14).people).length : Nat) : Int))) (.reg 1 [] [(1,bsC 33 (cInt .i64) ([(-1)] : List Int)),(2,ap1 34 (cInt .i64) 8 v1 (-1))] [0,2,3,4,5,29,30] [3,4,34,1018,1025,2018,2025] [] [] [] [0,4] (r1 1 [0,2,3,4,5,29,30] [3,4,34,1018,1025,2018,2025] [pf (inR .i64 (((i1 : Nat) : Int) + 1))] [0] (.next 0 [(20005,some 34)] (D4b1 x0 (i1 + 1) (v1 ++ [(-1)]))))) (.reg 1 [] [(3,k14 (crowd x0 14) (sampCls (([[107,97,114,105,101,114,97],[99,105,114,99,108,101],[109,111,105,101,116,105,101,115]] : List (List UInt8)).getD (((at1 x0 1).tmod 3).toNat) default)) v1)] [0,2,3,4,6,7] [3,4,1018,1025,1040,2018,2025] [] [] [] [0] (r0 1 [0,2,3,4,6,44] [3,4,1018,1025,1040,2018,2025] (cn (!((assignC (crowd x0 14) (sampCls (([[107,97,114,105,101,114,97],[99,105,114,99,108,101],[109,111,105,101,116,105,101,115]] : List (List UInt8)).getD (((at1 x0 1).tmod 3).toNat) default)) v1).2)) (r0 1 [0,2,3,4,6] [3,4,1018,1025,1040,2018,2025] (rt [] (C4 true))) (.reg 2 [] [(2,k15 x0 2 (crowd x0 14)),(1004,k16 (crowd x0 14) (sampCls (([[107,97,114,105,101,114,97],[99,105,114,99,108,101],[109,111,105,101,116,105,101,115]] : List (List UInt8)).getD (((at1 x0 1).tmod 3).toNat) default)) ((assignC (crowd x0 14) (sampCls (([[107,97,114,105,101,114,97],[99,105,114,99,108,101],[109,111,105,101,116,105,101,115]] : List (List UInt8)).getD (((at1 x0 1).tmod 3).toNat) default)) v1).1) (who x0 2 (crowd x0 14)))] [2,3,4,6,8,9] [3,4,1018,1025,1040,1052,2018,2025] [] [] [] [0,4] (.reg 1 [] [(6,k17 (crowd x0 14) (sampCls (([[107,97,114,105,101,114,97],[99,105,114,99,108,101],[109,111,105,101,116,105,101,115]] : List (List UInt8)).getD (((at1 x0 1).tmod 3).toNat) default)) ((assignC (crowd x0 14) (sampCls (([[107,97,114,105,101,114,97],[99,105,114,99,108,101],[109,111,105,101,116,105,101,115]] : List (List UInt8)).getD (((at1 x0 1).tmod 3).toNat) default)) v1).1) (who x0 2 (crowd x0 14)))] [2,3,4,6,8,9,61] [3,4,1018,1025,1040,1052,2018,2025] [] [] [] [0] (cn (!decide ((((implClassPartners (crowd x0 14) (sampCls (([[107,97,114,105,101,114,97],[99,105,114,99,108,101],[109,111,105,101,116,105,101,115]] : List (List UInt8)).getD (((at1 x0 1).tmod 3).toNat) default)) ((assignC (crowd x0 14) (sampCls (([[107,97,114,105,101,114,97],[99,105,114,99,108,101],[109,111,105,101,116,105,101,115]] : List (List UInt8)).getD (((at1 x0 1).tmod 3).toNat) default)) v1).1) (who x0 2 (crowd x0 14))).length : Nat) : Int) = (((specClassPartners (crowd x0 14) (sampCls (([[107,97,114,105,101,114,97],[99,105,114,99,108,101],[109,111,105,101,116,105,101,115]] : List (List UInt8)).getD (((at1 x0 1).tmod 3).toNat) default)) ((assignC (crowd x0 14) (sampCls (([[107,97,114,105,101,114,97],[99,105,114,99,108,101],[109,111,105,101,116,105,101,115]] : List (List UInt8)).getD (((at1 x0 1).tmod 3).toNat) default)) v1).1) (who x0 2 (crowd x0 14))).length : Nat) : Int))) (r0 1 [2,3,4,6,8,9] [3,4,1018,1025,1040,1052,2018,2025] (rt [] (C4 false))) (r0 1 [2,3,4,6,8,9,62,63,64] [3,4,1018,1025,1040,1052,2018,2025] (lp (D4b2 x0 i1 v1) [] [] [] (D4b2 x0 i1 v1 0 ()) (A4b2 x0 i1 v1))))))))))
def A4 (x0 : List Int) : Ann:=r0 1 [0,2] [] (r0 1 [0,2,16] [] (cn (decide (1048576 < ((x0.length : Nat) : Int))) (r0 1 [0,2] [] (rt [] (C4 true))) (.reg 3 [] [(1,k11 x0 14),(1000,bsC 19 (cStr) (([[107,97,114,105,101,114,97],[99,105,114,99,108,101],[109,111,105,101,116,105,101,115]] : List (List UInt8)) : List (List UInt8))),(1002,k13 x0 1),(1006,k12 (([[107,97,114,105,101,114,97],[99,105,114,99,108,101],[109,111,105,101,116,105,101,115]] : List (List UInt8)).getD (((at1 x0 1).tmod 3).toNat) default)),(2000,bsC 26 (cInt .i64) ([] : List Int))] [0,2,3,4,5] [3,4,26,1018,1025,2018,2025] [] [pf ((3 : Int) ≠ 0),pf (0 ≤ ((at1 x0 1).tmod 3 : Int) ∧ ((at1 x0 1).tmod 3 : Int) < ((3 : Nat) : Int))] [] [8,12,16,0,4,20,24] (r0 1 [0,2,3,4,5,29,30] [3,4,26,1018,1025,2018,2025] (lp (D4b1 x0) [] [26] [(20005,some 26)] (D4b1 x0 0 ([] : List Int)) (A4b1 x0))))))
theorem law_FnPrescribed {x0 : List Int} (hx : x0.length ≤ 1048576 ∧ ∀ y ∈ x0, inR .u8 y) : laws_FnPrescribed_m x0 = true := by
  have hb:=crowd_bd hx 14
  have hp:=who_rng (bytes_ok hx).2 (i:=2) (by omega) hb.2.1.1
  have hs:=samp_at (at1_rng (bytes_ok hx).2 (i:=1) (by omega)).1
  unfold laws_FnPrescribed_m
  rw [decide_eq_false (by have:=hx.1;omega)]
  simp only [cond_false]
  clear hb hx
  revert hp hs
  generalize sampCls _ = c
  generalize who x0 2 (crowd x0 14) = a
  generalize crowd x0 14 = f
  intro hp hs
  refine loopN_to (fun _ _=>True) (fun (r : Bool)=>r = true) trivial (fun i v next _ _ hn=>hn _ trivial) (fun g _=>?_)
  refine cond_both (p:=fun (r : Bool)=>r = true) (fun _=>rfl) (fun c1=>?_)
  have hd:=assign_done hs (by simpa using c1)
  generalize (assignC f c g).1 = L at hd ⊢
  rw [← classPartners_eq,decide_eq_true rfl]
  simp only [Bool.not_true,cond_false]
  refine (loopN_all _ _ _).2 ⟨fun j hj=>?_,?_⟩
  · rw [not_f_iff,lawHas_iff]
    have hm:=(cpart_mem hd hp).1 (getD_mem (d:=default) hj)
    refine (cpart_mem hd hm.1).2 ⟨hp,?_⟩
    rcases hm.2 with ⟨h1,h2,h3⟩ | ⟨h1,h2,h3⟩
    · exact .inr ⟨h2,h1,h3.symm⟩
    · exact .inl ⟨h2,h1,h3.symm⟩
  · refine cond_both (p:=fun (r : Bool)=>r = true) (fun _=>rfl) (fun c2=>?_)
    have c2:=of_decide_eq_true (not_f_iff.1 c2)
    refine (loopN_all _ _ _).2 ⟨fun j hj=>?_,rfl⟩
    rw [not_f_iff,subset_mem]
    intro b hb
    have h:=allowed_rel hd (allowed_mem (getD_mem (d:=default) hj)) hp c2 hb
    exact (cpart_mem hd hp).2 ⟨h.1,.inl ⟨c2,h.2.2,h.2.1⟩⟩
theorem ok_laws_FnPrescribed (x0 : List Int) (hx0 : x0.length ≤ 1048576 ∧ ∀ y ∈ x0, inR .u8 y) : FnT Try.prog 4 [.ro false 1 x0.length (rowOf (cInt .u8) x0)] (C4 true) := by
  have aux : ∀ R, laws_FnPrescribed_m x0 = R → slim (C4 R) (A4 x0) [] := by
    intro R hR
    refine rg trivial ?_
    refine rg trivial ?_
    revert hR;refine cd (fun hc1 hR=>?_) fun hc1 hR=>?_
    ·
      refine rg trivial ?_
      exact congrArg C4 hR
    ·
      refine rg ⟨by (intros;omega),by ((have h9:=crowd_bd hx0 14;have h8:=at1_rng (bytes_ok hx0).2 (i:=1) (by omega);have h7:=samp_at h8.1;(rw [Int.tmod_eq_emod_of_nonneg h8.1];omega))),⟨by (intros;omega),by (with_reducible exact (bytes_ok hx0).2),by (intros;omega)⟩,trivial,⟨by (intros;omega),by (with_reducible exact (bytes_ok hx0).2),by (intros;omega)⟩,trivial,trivial,trivial⟩ ?_
      refine rg trivial ?_
      revert hR;refine lN (fun i v=>(v : List Int).length = i) (by (exact rfl)) rfl fun i1 v1 F1 hn1 hI1 hR hK1=>?_
      refine rg trivial ?_
      refine ⟨fun hc2=>?_,fun hc2=>?_⟩
      · have hii1 : i1 < ((crowd x0 14).people).length:=by have:=of_decide_eq_true hc2;omega
        replace hR:=loopN_step hR hii1
        refine rg ⟨trivial,by (have h9:=crowd_bd hx0 14;omega),trivial⟩ ?_
        refine rg ⟨by ((have h9:=crowd_bd hx0 14;have h8:=at1_rng (bytes_ok hx0).2 (i:=1) (by omega);have h7:=samp_at h8.1;(simp only [inR];omega))),trivial⟩ ?_
        exact hK1 (v1 ++ [(-1)]) hii1 (by ((simp only [List.length_append,List.length_cons,List.length_nil];omega))) hR
      · obtain rfl : i1 = ((crowd x0 14).people).length:=by have:=of_decide_eq_false hc2;omega
        replace hR:=loopN_end hR (Nat.lt_irrefl _)
        refine rg ⟨⟨by (have h9:=crowd_bd hx0 14;omega),by (have h9:=crowd_bd hx0 14;omega),by (with_reducible exact (crowd_bd hx0 14).2.2.2),by ((have h9:=crowd_bd hx0 14;have h8:=at1_rng (bytes_ok hx0).2 (i:=1) (by omega);have h7:=samp_at h8.1;exact h7)),by (have h9:=crowd_bd hx0 14;omega)⟩,trivial⟩ ?_
        refine rg trivial ?_
        revert hR;refine cd (fun hc3 hR=>?_) fun hc3 hR=>?_
        ·
          refine rg trivial ?_
          exact congrArg C4 hR
        ·
          refine rg ⟨⟨by (intros;omega),by (with_reducible exact (bytes_ok hx0).2),by (intros;omega),by (have h9:=crowd_bd hx0 14;omega)⟩,⟨by (have h9:=crowd_bd hx0 14;omega),by (have h9:=crowd_bd hx0 14;omega),by (with_reducible exact (crowd_bd hx0 14).2.2.2),by ((have h9:=crowd_bd hx0 14;have h8:=at1_rng (bytes_ok hx0).2 (i:=1) (by omega);have h7:=samp_at h8.1;exact samp_len h7)),by ((have h9:=crowd_bd hx0 14;have h8:=at1_rng (bytes_ok hx0).2 (i:=1) (by omega);have h7:=samp_at h8.1;(have h6:=assign_done h7 (not_f_iff.1 hc3);(have h5:=h6.k.l;omega))))⟩,trivial⟩ ?_
          refine rg ⟨⟨by (have h9:=crowd_bd hx0 14;omega),by (have h9:=crowd_bd hx0 14;omega),by (with_reducible exact (crowd_bd hx0 14).2.2.2),by ((have h9:=crowd_bd hx0 14;have h8:=at1_rng (bytes_ok hx0).2 (i:=1) (by omega);have h7:=samp_at h8.1;exact samp_len h7)),by ((have h9:=crowd_bd hx0 14;have h8:=at1_rng (bytes_ok hx0).2 (i:=1) (by omega);have h7:=samp_at h8.1;(have h6:=assign_done h7 (not_f_iff.1 hc3);(have h5:=h6.k.l;omega))))⟩,trivial⟩ ?_
          revert hR;refine cd (fun hc4 hR=>?_) fun hc4 hR=>?_
          ·
            refine rg trivial ?_
            exact congrArg C4 hR
          ·
            refine rg trivial ?_
            revert hR;refine lN (fun i v=>True) (by exact True.intro) rfl fun i2 v2 F2 hn2 hI2 hR hK2=>?_
            refine rg trivial ?_
            refine ⟨fun hc5=>?_,fun hc5=>?_⟩
            · have hii2 : i2 < (implClassPartners (crowd x0 14) (sampCls (([[107,97,114,105,101,114,97],[99,105,114,99,108,101],[109,111,105,101,116,105,101,115]] : List (List UInt8)).getD (((at1 x0 1).tmod 3).toNat) default)) ((assignC (crowd x0 14) (sampCls (([[107,97,114,105,101,114,97],[99,105,114,99,108,101],[109,111,105,101,116,105,101,115]] : List (List UInt8)).getD (((at1 x0 1).tmod 3).toNat) default)) v1).1) (who x0 2 (crowd x0 14))).length:=by have:=of_decide_eq_true hc5;omega
              replace hR:=loopN_step hR hii2
              refine rg ⟨by (intros;omega),⟨by (have h9:=crowd_bd hx0 14;omega),by (have h9:=crowd_bd hx0 14;omega),by (with_reducible exact (crowd_bd hx0 14).2.2.2),by ((have h9:=crowd_bd hx0 14;have h8:=at1_rng (bytes_ok hx0).2 (i:=1) (by omega);have h7:=samp_at h8.1;exact samp_len h7)),by ((have h9:=crowd_bd hx0 14;have h8:=at1_rng (bytes_ok hx0).2 (i:=1) (by omega);have h7:=samp_at h8.1;(have h6:=assign_done h7 (not_f_iff.1 hc3);(have h5:=h6.k.l;omega))))⟩,by ((have h9:=crowd_bd hx0 14;have h8:=at1_rng (bytes_ok hx0).2 (i:=1) (by omega);have h7:=samp_at h8.1;exact Nat.le_trans cpart_len (by omega))),trivial⟩ ?_
              revert hR;refine cd (fun hc6 hR=>?_) fun hc6 hR=>?_
              ·
                refine rg trivial ?_
                exact congrArg C4 hR
              ·
                refine rg ⟨by ((have h9:=crowd_bd hx0 14;have h8:=at1_rng (bytes_ok hx0).2 (i:=1) (by omega);have h7:=samp_at h8.1;(have h5:=Nat.lt_of_lt_of_le hii2 cpart_len;simp only [inR];omega))),trivial⟩ ?_
                exact hK2 () hii2 (by exact True.intro) hR
            · obtain rfl : i2 = (implClassPartners (crowd x0 14) (sampCls (([[107,97,114,105,101,114,97],[99,105,114,99,108,101],[109,111,105,101,116,105,101,115]] : List (List UInt8)).getD (((at1 x0 1).tmod 3).toNat) default)) ((assignC (crowd x0 14) (sampCls (([[107,97,114,105,101,114,97],[99,105,114,99,108,101],[109,111,105,101,116,105,101,115]] : List (List UInt8)).getD (((at1 x0 1).tmod 3).toNat) default)) v1).1) (who x0 2 (crowd x0 14))).length:=by have:=of_decide_eq_false hc5;omega
              replace hR:=loopN_end hR (Nat.lt_irrefl _)
              refine rg ⟨by ((have h9:=crowd_bd hx0 14;have h8:=at1_rng (bytes_ok hx0).2 (i:=1) (by omega);have h7:=samp_at h8.1;exact who_rng (bytes_ok hx0).2 (i:=2) (by omega) h9.2.1.1)),trivial⟩ ?_
              revert hR;refine cd (fun hc7 hR=>?_) fun hc7 hR=>?_
              ·
                refine rg trivial ?_
                exact congrArg C4 hR
              ·
                refine rg ⟨⟨by ((have h9:=crowd_bd hx0 14;have h8:=at1_rng (bytes_ok hx0).2 (i:=1) (by omega);have h7:=samp_at h8.1;exact samp_len h7)),by (intros;omega)⟩,trivial⟩ ?_
                revert hR;refine lN (fun i v=>True) (by exact True.intro) rfl fun i3 v3 F3 hn3 hI3 hR hK3=>?_
                refine rg trivial ?_
                refine ⟨fun hc8=>?_,fun hc8=>?_⟩
                · have hii3 : i3 < (allowedTy (sampCls (([[107,97,114,105,101,114,97],[99,105,114,99,108,101],[109,111,105,101,116,105,101,115]] : List (List UInt8)).getD (((at1 x0 1).tmod 3).toNat) default)) 3).length:=by have:=of_decide_eq_true hc8;omega
                  replace hR:=loopN_step hR hii3
                  refine rg ⟨by (intros;omega),⟨by (have h9:=crowd_bd hx0 14;omega),by (have h9:=crowd_bd hx0 14;omega),by (with_reducible exact (crowd_bd hx0 14).2.2.2),by ((have h9:=crowd_bd hx0 14;have h8:=at1_rng (bytes_ok hx0).2 (i:=1) (by omega);have h7:=samp_at h8.1;exact Nat.le_trans (allowed_le (getD_mem (d:=default) hii3)) (by decide)))⟩,⟨by ((have h9:=crowd_bd hx0 14;have h8:=at1_rng (bytes_ok hx0).2 (i:=1) (by omega);have h7:=samp_at h8.1;exact relatives_len _ _ _ (by omega))),by ((have h9:=crowd_bd hx0 14;have h8:=at1_rng (bytes_ok hx0).2 (i:=1) (by omega);have h7:=samp_at h8.1;exact Nat.le_trans cpart_len (by omega)))⟩,trivial⟩ ?_
                  revert hR;refine cd (fun hc9 hR=>?_) fun hc9 hR=>?_
                  ·
                    refine rg trivial ?_
                    exact congrArg C4 hR
                  ·
                    refine rg ⟨by ((have h9:=crowd_bd hx0 14;have h8:=at1_rng (bytes_ok hx0).2 (i:=1) (by omega);have h7:=samp_at h8.1;(have h5:=Nat.lt_of_lt_of_le hii3 allowedTy_len;simp only [inR];omega))),trivial⟩ ?_
                    exact hK3 () hii3 (by exact True.intro) hR
                · obtain rfl : i3 = (allowedTy (sampCls (([[107,97,114,105,101,114,97],[99,105,114,99,108,101],[109,111,105,101,116,105,101,115]] : List (List UInt8)).getD (((at1 x0 1).tmod 3).toNat) default)) 3).length:=by have:=of_decide_eq_false hc8;omega
                  replace hR:=loopN_end hR (Nat.lt_irrefl _)
                  refine rg trivial ?_
                  exact congrArg C4 hR
  exact Fn.go 99 Try.func4 (by kernel_rfl) (by kernel_rfl) (by simp [C4,Frs,FrsL]) (A4 x0) (by kernel_rfl) (aux _ (law_FnPrescribed hx0))
theorem bulk_pos {H : Type} (d : DataW H) : 1 ≤ Rows.uptoBulk d := by
  cases d with
  | lit l=>cases l <;> simp [Rows.uptoBulk]
  | _=>simp [Rows.uptoBulk]
theorem bulkAll_len {H : Type} : ∀ l : List (DataW H), l.length ≤ Rows.uptoBulkAll l
  | []=>by simp
  | d :: l => by
    have:=bulk_pos d
    have:=bulkAll_len l
    simp only [Rows.uptoBulkAll,List.length_cons]
    omega
theorem bulkAll_mem {H : Type} : ∀ (l : List (DataW H)) (d : DataW H), d ∈ l → Rows.uptoBulk d ≤ Rows.uptoBulkAll l
  | [],d,h=>by cases h
  | e :: l, d, h => by
    simp only [Rows.uptoBulkAll]
    rcases List.mem_cons.1 h with e | h
    · rw [e];omega
    · have:=bulkAll_mem l d h
      omega
theorem bulk {H : Type} : Bulk (Rows.uptoBulk (H := H)) where
  str:=fun bs=>by simp [Rows.uptoBulk]
  slen := fun es sp => by
    have:=bulkAll_len es
    simp only [Rows.uptoBulk]
    omega
  sel := fun es sp e he => by
    have:=bulkAll_mem es e he
    simp only [Rows.uptoBulk]
    omega
  agg := fun ps p hp => by
    have:=bulkAll_mem ps p hp
    simp only [Rows.uptoBulk]
    omega
theorem own : ownKnob Try.prog.godebug = none:=by kernel_rfl
theorem laidOut : laidOutB Try.prog = true:=by kernel_rfl
set_option maxRecDepth 100000 in
theorem contract (H : Type) (enc : TypeId × Value → H) (W : World) (base : Nat) (args : Array Value) (ds gs : List (DataW H)) (before : List MemPlace)
    (hval : ∀ (j : Nat) t v,Try.f4.params[j]? = some t → args[j]? = some v → Value.okWide Try.prog W .any base t v)
    (hW : DataW.Whole enc Try.prog Try.f4.params.toList Rows.fnPrescribedSpec.vars false W args.toList ds gs before) (hk : Rows.uptoSmall H (ds ++ gs) = true) :
    Calls Try.prog 4 args W fun e W'=>∃ v,e = .returned v ∧ Rows.fnPrescribedSpec.post enc Try.prog Try.f4 false true false false W args v W':=by
  have hW':=hW
  obtain ⟨p,q,hA0,hV,hpq,hfz,hnd⟩:=hW
  have hA : DataW.TrodAll enc Try.prog W 0 (fun _=>true) true Try.f4.params.toList args.toList ds p:=hA0
  clear hA0
  rw [Try.params4] at hA hval
  obtain ⟨v0,vs0,d0,ds0,p0,q0,hargs,rfl,rfl,h0,hA1⟩:=trodAll_cons hA
  obtain ⟨rfl,rfl,rfl⟩:=trodAll_nil hA1
  obtain rfl : args = #[v0]:=by cases args;simp_all
  obtain ⟨rfl,rfl⟩:=trodVars_none hV
  obtain ⟨x0,k0,r0⟩:=top_slice (opens_slice bulk (mono_triv (p:=fun (n : Int)=>inR .u8 n)) Try.underlying40 (sz:=1) (by kernel_rfl) (by omega) (opens_int Try.underlying5)) Try.underlying40 (hval 0 40 v0 rfl rfl) h0
  have kk0:=((mono_sl (mono_triv (p:=fun (n : Int)=>inR .u8 n)))) _ _ x0 (show Rows.uptoBulk d0 ≤ 1048576 from Nat.le_trans (bulkAll_mem _ d0 (by simp)) (of_decide_eq_true hk)) k0
  refine (Lite.Fn.true_of (ok_laws_FnPrescribed x0 kk0) trivial (by rfl) fun i lv v hl hv=>?_).mono fun e W' ⟨he,hb⟩=>⟨_,he,row_post laidOut (by kernel_rfl) rfl Try.underlying4 rfl rfl hW' hb⟩
  match i,hl,hv with
  | 0,hl,hv=>cases hl;cases hv;exact r0
  | _ + 1,hl,_=>simp at hl
set_option maxRecDepth 100000 in
theorem lifted (os : Os) (started : os.Started) (H : Type) (enc : TypeId × Value → H) (F : Stop.Interp) :
    ReturnsInHanded {} Try.checked os 4 .any ((Rows.OpenSpec.upto Rows.fnPrescribedSpec).pre6 enc Try.prog Try.f4 Rows.fnPrescribedUptoRow.domain false) (((Rows.OpenSpec.upto Rows.fnPrescribedSpec).at F).post enc Try.prog Try.f4 false true false false):=by
  refine returnsInHanded_of_cond (C := Try.checked) (s := Rows.OpenSpec.upto Rows.fnPrescribedSpec) (k := Rows.uptoSmall) rfl own started (by kernel_rfl) Try.func4
    (OpenSpec.witness (enc := enc) (C := Try.checked) (s := Rows.OpenSpec.upto Rows.fnPrescribedSpec) (k := Rows.uptoSmall) rfl false ⟨#[], #[.slice none 0 0], []⟩ 12 (by kernel_rfl) (by kernel_rfl) (by kernel_rfl)
      (x:=([.nil],[],[])) (by kernel_rfl) rfl (by kernel_rfl)) ?_
  intro W base args ds gs before hval hW _ hk _
  exact contract H enc W base args ds gs before hval hW hk
theorem proved : Rows.FnPrescribedUptoSaid :=
  OpenClaim.holds_of_cond 4 Try.f4 rfl rfl rfl rfl rfl rfl rfl ⟨rfl, rfl, rfl, rfl, rfl⟩ rfl rfl rfl rfl rfl (by kernel_rfl) Try.func4 (by kernel_rfl)
    (of_decide_eq_true (by kernel_rfl)) (by unfold Func.isWrapper;first | (rw [if_pos (by decide +kernel)];kernel_rfl) | (rw [if_neg (by decide +kernel)];exact ⟨rfl,rfl⟩))
    (fun os started H enc _ F=>lifted os started H enc F)
end Go.Proofs.Ytaageiiodlfeiaa
