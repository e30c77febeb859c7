/- Lines of descent lead from child to child; the shortest of them has as many steps as lead up, and there are some exactly from ancestors. -/
import Derived.Test.YtkkijpibajigfaaRows
import Derived.Test.YtkkijpibajigfaaM249
import Derived.Test.YtkkijpibajigfaaLiteR
import Derived.WalkKit
import Derived.ProofKit
import Derived.OpenShut
import Derived.JoinedCond
set_option maxHeartbeats 4000000
set_option linter.unusedSimpArgs false
set_option linter.unusedVariables false
namespace Go.Proofs.Ytkkijpibajigfaa
open Go Go.Lite Go.Proofs Go.ChangeShapes Go.WideShapes Go.ChangeAt Go.RowKit
def C8 (R:Bool):LV×List (Nat×BC):=(.bool R,[])
def laws_FnDescents_m (x0:List Int):Bool:=bif (decide (1048576<((x0.length:Nat):Int))) then true else (bif ((((!(((implDescent (crowd x0 14) (who x0 2 (crowd x0 14)) (who x0 1 (crowd x0 14))).2) == ((specDescent (crowd x0 14) (who x0 2 (crowd x0 14)) (who x0 1 (crowd x0 14))).2))) || (((implDescent (crowd x0 14) (who x0 2 (crowd x0 14)) (who x0 1 (crowd x0 14))).2) && (!(((implStepsUp (crowd x0 14) (who x0 1 (crowd x0 14)) (who x0 2 (crowd x0 14))).2) == (decide (0<((((implDescent (crowd x0 14) (who x0 2 (crowd x0 14)) (who x0 1 (crowd x0 14))).1).length:Nat):Int))))))) || (!(((implStepsUp (crowd x0 14) (who x0 1 (crowd x0 14)) (who x0 2 (crowd x0 14))).2) == ((decide ((who x0 1 (crowd x0 14))=(who x0 2 (crowd x0 14)))) || (lawHas (implAncestors (crowd x0 14) (who x0 1 (crowd x0 14))) (who x0 2 (crowd x0 14))))))) || (!((lawHas (implDescendants (crowd x0 14) (who x0 2 (crowd x0 14))) (who x0 1 (crowd x0 14))) == (((implStepsUp (crowd x0 14) (who x0 1 (crowd x0 14)) (who x0 2 (crowd x0 14))).2) && (!decide ((who x0 1 (crowd x0 14))=(who x0 2 (crowd x0 14)))))))) then false else (loopN (fun i1 (v1:Int) nx1=>bif (((decide ((((((implDescent (crowd x0 14) (who x0 2 (crowd x0 14)) (who x0 1 (crowd x0 14))).1).getD i1 default).length:Nat):Int)=0)) || (!decide (((((implDescent (crowd x0 14) (who x0 2 (crowd x0 14)) (who x0 1 (crowd x0 14))).1).getD i1 default).getD 0 default)=(who x0 2 (crowd x0 14))))) || (!decide (((((implDescent (crowd x0 14) (who x0 2 (crowd x0 14)) (who x0 1 (crowd x0 14))).1).getD i1 default).getD (((((((implDescent (crowd x0 14) (who x0 2 (crowd x0 14)) (who x0 1 (crowd x0 14))).1).getD i1 default).length:Nat):Int) - 1).toNat) default)=(who x0 1 (crowd x0 14))))) then false else (loopW (fun (v2:Int) next=>bif (decide (v2<(((((implDescent (crowd x0 14) (who x0 2 (crowd x0 14)) (who x0 1 (crowd x0 14))).1).getD i1 default).length:Nat):Int))) then (bif (!(lawHas (specParents (crowd x0 14) ((((implDescent (crowd x0 14) (who x0 2 (crowd x0 14)) (who x0 1 (crowd x0 14))).1).getD i1 default).getD v2.toNat default)) ((((implDescent (crowd x0 14) (who x0 2 (crowd x0 14)) (who x0 1 (crowd x0 14))).1).getD i1 default).getD ((v2 - 1).toNat) default))) then false else (next (v2+1))) else (bif ((decide (v1<0)) || (decide ((((((implDescent (crowd x0 14) (who x0 2 (crowd x0 14)) (who x0 1 (crowd x0 14))).1).getD i1 default).length:Nat):Int)<v1))) then (nx1 (((((implDescent (crowd x0 14) (who x0 2 (crowd x0 14)) (who x0 1 (crowd x0 14))).1).getD i1 default).length:Nat):Int)) else (nx1 v1))) (((1001:Int) - (1)).toNat+1) 1)) (fun (v1:Int)=>(decide (v1<0)) || (decide (v1=(((implStepsUp (crowd x0 14) (who x0 1 (crowd x0 14)) (who x0 2 (crowd x0 14))).1)+1)))) (((implDescent (crowd x0 14) (who x0 2 (crowd x0 14)) (who x0 1 (crowd x0 14))).1).length) 0 (-1)))
def D8b1 (x0:List Int) (i1:Nat) (v1:Int):Dl:=⟨[(91,.int .i64 ((i1:Nat):Int)),(12,.int .i64 v1)],[]⟩
def D8b2 (x0:List Int) (i1:Nat) (v1:Int) (v2:Int):Dl:=⟨[(15,.int .i64 v2)],[]⟩
def A8b2 (x0:List Int) (i1:Nat) (v1:Int) (v2:Int):Ann:=r0 1 [2,3,4,5,10,12,14,15,89,90,91,118] [3,1020,2020] (cn (decide (v2<(((((implDescent (crowd x0 14) (who x0 2 (crowd x0 14)) (who x0 1 (crowd x0 14))).1).getD i1 default).length:Nat):Int))) (.reg 1 [] [(5,k39 (crowd x0 14) ((((implDescent (crowd x0 14) (who x0 2 (crowd x0 14)) (who x0 1 (crowd x0 14))).1).getD i1 default).getD v2.toNat default)),(11,k26 (specParents (crowd x0 14) ((((implDescent (crowd x0 14) (who x0 2 (crowd x0 14)) (who x0 1 (crowd x0 14))).1).getD i1 default).getD v2.toNat default)) ((((implDescent (crowd x0 14) (who x0 2 (crowd x0 14)) (who x0 1 (crowd x0 14))).1).getD i1 default).getD ((v2 - 1).toNat) default))] [2,3,4,5,10,12,14,15,89,90,91,133] [3,1020,2020] [] [pf (0≤(v2:Int)∧(v2:Int)<(((((implDescent (crowd x0 14) (who x0 2 (crowd x0 14)) (who x0 1 (crowd x0 14))).1).getD i1 default).length:Nat):Int)),pf (inR .i64 (v2 - 1)),pf (0≤(v2 - 1:Int)∧(v2 - 1:Int)<(((((implDescent (crowd x0 14) (who x0 2 (crowd x0 14)) (who x0 1 (crowd x0 14))).1).getD i1 default).length:Nat):Int))] [] [0,12,4,8,16] (cn (!(lawHas (specParents (crowd x0 14) ((((implDescent (crowd x0 14) (who x0 2 (crowd x0 14)) (who x0 1 (crowd x0 14))).1).getD i1 default).getD v2.toNat default)) ((((implDescent (crowd x0 14) (who x0 2 (crowd x0 14)) (who x0 1 (crowd x0 14))).1).getD i1 default).getD ((v2 - 1).toNat) default))) (r0 1 [2,3,4,5,10,12,14,15,89,90,91] [3,1020,2020] (rt [] (C8 false))) (r1 1 [2,3,4,5,10,12,14,15,89,90,91] [3,1020,2020] [pf (inR .i64 (v2+1))] [0] (.next 0 [] (D8b2 x0 i1 v1 (v2+1)))))) (.reg 1 [] [] [2,3,4,5,10,12,14,89,90,91,141] [3,1020,2020] [!(decide (v1<0)),decide (v1<0)] [] [] [1,1,1,6] (cn ((decide (v1<0)) || (decide ((((((implDescent (crowd x0 14) (who x0 2 (crowd x0 14)) (who x0 1 (crowd x0 14))).1).getD i1 default).length:Nat):Int)<v1))) (r0 1 [2,3,4,5,10,12,89,90,91] [3,1020,2020] (r1 1 [2,3,4,5,10,12,89,90,91] [3,1020,2020] [pf (inR .i64 (((i1:Nat):Int)+1))] [0] (.next 1 [] (D8b1 x0 (i1+1) (((((implDescent (crowd x0 14) (who x0 2 (crowd x0 14)) (who x0 1 (crowd x0 14))).1).getD i1 default).length:Nat):Int))))) (r1 1 [2,3,4,5,10,12,89,90,91] [3,1020,2020] [pf (inR .i64 (((i1:Nat):Int)+1))] [0] (.next 1 [] (D8b1 x0 (i1+1) v1))))))
def A8b1 (x0:List Int) (i1:Nat) (v1:Int):Ann:=r0 1 [2,3,4,5,10,12,89,90,91,92] [3,1020,2020] (cn (decide (((i1:Nat):Int)<((((implDescent (crowd x0 14) (who x0 2 (crowd x0 14)) (who x0 1 (crowd x0 14))).1).length:Nat):Int))) (r1 1 [2,3,4,5,10,12,14,89,90,91] [3,1020,2020] [pf (0≤(((i1:Nat):Int):Int)∧(((i1:Nat):Int):Int)<((((implDescent (crowd x0 14) (who x0 2 (crowd x0 14)) (who x0 1 (crowd x0 14))).1).length:Nat):Int))] [0] (.reg 1 [] [] [2,3,4,5,10,12,14,89,90,91,114] [3,1020,2020] [!(decide ((((((implDescent (crowd x0 14) (who x0 2 (crowd x0 14)) (who x0 1 (crowd x0 14))).1).getD i1 default).length:Nat):Int)=0)),decide ((((((implDescent (crowd x0 14) (who x0 2 (crowd x0 14)) (who x0 1 (crowd x0 14))).1).getD i1 default).length:Nat):Int)=0),!((decide ((((((implDescent (crowd x0 14) (who x0 2 (crowd x0 14)) (who x0 1 (crowd x0 14))).1).getD i1 default).length:Nat):Int)=0)) || (!decide (((((implDescent (crowd x0 14) (who x0 2 (crowd x0 14)) (who x0 1 (crowd x0 14))).1).getD i1 default).getD 0 default)=(who x0 2 (crowd x0 14))))),(decide ((((((implDescent (crowd x0 14) (who x0 2 (crowd x0 14)) (who x0 1 (crowd x0 14))).1).getD i1 default).length:Nat):Int)=0)) || (!decide (((((implDescent (crowd x0 14) (who x0 2 (crowd x0 14)) (who x0 1 (crowd x0 14))).1).getD i1 default).getD 0 default)=(who x0 2 (crowd x0 14))))] [gt (!(decide ((((((implDescent (crowd x0 14) (who x0 2 (crowd x0 14)) (who x0 1 (crowd x0 14))).1).getD i1 default).length:Nat):Int)=0))) (pf (0≤(0:Int)∧(0:Int)<(((((implDescent (crowd x0 14) (who x0 2 (crowd x0 14)) (who x0 1 (crowd x0 14))).1).getD i1 default).length:Nat):Int))),gt (!((decide ((((((implDescent (crowd x0 14) (who x0 2 (crowd x0 14)) (who x0 1 (crowd x0 14))).1).getD i1 default).length:Nat):Int)=0)) || (!decide (((((implDescent (crowd x0 14) (who x0 2 (crowd x0 14)) (who x0 1 (crowd x0 14))).1).getD i1 default).getD 0 default)=(who x0 2 (crowd x0 14)))))) (pf (inR .i64 ((((((implDescent (crowd x0 14) (who x0 2 (crowd x0 14)) (who x0 1 (crowd x0 14))).1).getD i1 default).length:Nat):Int) - 1))),gt (!((decide ((((((implDescent (crowd x0 14) (who x0 2 (crowd x0 14)) (who x0 1 (crowd x0 14))).1).getD i1 default).length:Nat):Int)=0)) || (!decide (((((implDescent (crowd x0 14) (who x0 2 (crowd x0 14)) (who x0 1 (crowd x0 14))).1).getD i1 default).getD 0 default)=(who x0 2 (crowd x0 14)))))) (pf (0≤((((((implDescent (crowd x0 14) (who x0 2 (crowd x0 14)) (who x0 1 (crowd x0 14))).1).getD i1 default).length:Nat):Int) - 1:Int)∧((((((implDescent (crowd x0 14) (who x0 2 (crowd x0 14)) (who x0 1 (crowd x0 14))).1).getD i1 default).length:Nat):Int) - 1:Int)<(((((implDescent (crowd x0 14) (who x0 2 (crowd x0 14)) (who x0 1 (crowd x0 14))).1).getD i1 default).length:Nat):Int)))] [] [1,0,1,1,1,6,9,9,4,9,9,8,9,9,9,14] (cn (((decide ((((((implDescent (crowd x0 14) (who x0 2 (crowd x0 14)) (who x0 1 (crowd x0 14))).1).getD i1 default).length:Nat):Int)=0)) || (!decide (((((implDescent (crowd x0 14) (who x0 2 (crowd x0 14)) (who x0 1 (crowd x0 14))).1).getD i1 default).getD 0 default)=(who x0 2 (crowd x0 14))))) || (!decide (((((implDescent (crowd x0 14) (who x0 2 (crowd x0 14)) (who x0 1 (crowd x0 14))).1).getD i1 default).getD (((((((implDescent (crowd x0 14) (who x0 2 (crowd x0 14)) (who x0 1 (crowd x0 14))).1).getD i1 default).length:Nat):Int) - 1).toNat) default)=(who x0 1 (crowd x0 14))))) (r0 1 [2,3,4,5,10,12,14,89,90,91] [3,1020,2020] (rt [] (C8 false))) (r0 1 [2,3,4,5,10,12,14,15,89,90,91] [3,1020,2020] (.loop Int (D8b2 x0 i1 v1) [] [] [] (D8b2 x0 i1 v1 1) (A8b2 x0 i1 v1)))))) (.reg 1 [] [] [2] [] [!(decide (v1<0)),decide (v1<0)] [gt (!(decide (v1<0))) (pf (inR .i64 (((implStepsUp (crowd x0 14) (who x0 1 (crowd x0 14)) (who x0 2 (crowd x0 14))).1)+1)))] [] [1,0,1,1,6] (rt [] (C8 ((decide (v1<0)) || (decide (v1=(((implStepsUp (crowd x0 14) (who x0 1 (crowd x0 14)) (who x0 2 (crowd x0 14))).1)+1))))))))
def A8 (x0:List Int):Ann:=r0 1 [0,2] [] (r0 1 [0,2,18] [] (cn (decide (1048576<((x0.length:Nat):Int))) (r0 1 [0,2] [] (rt [] (C8 true))) (.reg 6 [] [(1,k15 x0 14),(1002,k19 x0 1 (crowd x0 14)),(2002,k19 x0 2 (crowd x0 14)),(3003,k28 (crowd x0 14) (who x0 2 (crowd x0 14)) (who x0 1 (crowd x0 14))),(4003,k27 (crowd x0 14) (who x0 2 (crowd x0 14)) (who x0 1 (crowd x0 14))),(5003,k36 (crowd x0 14) (who x0 1 (crowd x0 14)) (who x0 2 (crowd x0 14)))] [2,3,4,5,6,7,9,10,11] [3,1020,1031,2020] [] [] [] [0,4,8,12,16,20] (.reg 1 [] [(21,cg ((!((!(((implDescent (crowd x0 14) (who x0 2 (crowd x0 14)) (who x0 1 (crowd x0 14))).2) == ((specDescent (crowd x0 14) (who x0 2 (crowd x0 14)) (who x0 1 (crowd x0 14))).2))) || (((implDescent (crowd x0 14) (who x0 2 (crowd x0 14)) (who x0 1 (crowd x0 14))).2) && (!(((implStepsUp (crowd x0 14) (who x0 1 (crowd x0 14)) (who x0 2 (crowd x0 14))).2) == (decide (0<((((implDescent (crowd x0 14) (who x0 2 (crowd x0 14)) (who x0 1 (crowd x0 14))).1).length:Nat):Int)))))))) && (!(decide ((who x0 1 (crowd x0 14))=(who x0 2 (crowd x0 14)))))) (k37 (crowd x0 14) (who x0 1 (crowd x0 14)))),(23,cg ((!((!(((implDescent (crowd x0 14) (who x0 2 (crowd x0 14)) (who x0 1 (crowd x0 14))).2) == ((specDescent (crowd x0 14) (who x0 2 (crowd x0 14)) (who x0 1 (crowd x0 14))).2))) || (((implDescent (crowd x0 14) (who x0 2 (crowd x0 14)) (who x0 1 (crowd x0 14))).2) && (!(((implStepsUp (crowd x0 14) (who x0 1 (crowd x0 14)) (who x0 2 (crowd x0 14))).2) == (decide (0<((((implDescent (crowd x0 14) (who x0 2 (crowd x0 14)) (who x0 1 (crowd x0 14))).1).length:Nat):Int)))))))) && (!(decide ((who x0 1 (crowd x0 14))=(who x0 2 (crowd x0 14)))))) (k26 (implAncestors (crowd x0 14) (who x0 1 (crowd x0 14))) (who x0 2 (crowd x0 14)))),(30,cg (!(((!(((implDescent (crowd x0 14) (who x0 2 (crowd x0 14)) (who x0 1 (crowd x0 14))).2) == ((specDescent (crowd x0 14) (who x0 2 (crowd x0 14)) (who x0 1 (crowd x0 14))).2))) || (((implDescent (crowd x0 14) (who x0 2 (crowd x0 14)) (who x0 1 (crowd x0 14))).2) && (!(((implStepsUp (crowd x0 14) (who x0 1 (crowd x0 14)) (who x0 2 (crowd x0 14))).2) == (decide (0<((((implDescent (crowd x0 14) (who x0 2 (crowd x0 14)) (who x0 1 (crowd x0 14))).1).length:Nat):Int))))))) || (!(((implStepsUp (crowd x0 14) (who x0 1 (crowd x0 14)) (who x0 2 (crowd x0 14))).2) == ((decide ((who x0 1 (crowd x0 14))=(who x0 2 (crowd x0 14)))) || (lawHas (implAncestors (crowd x0 14) (who x0 1 (crowd x0 14))) (who x0 2 (crowd x0 14)))))))) (k38 (crowd x0 14) (who x0 2 (crowd x0 14)))),(32,cg (!(((!(((implDescent (crowd x0 14) (who x0 2 (crowd x0 14)) (who x0 1 (crowd x0 14))).2) == ((specDescent (crowd x0 14) (who x0 2 (crowd x0 14)) (who x0 1 (crowd x0 14))).2))) || (((implDescent (crowd x0 14) (who x0 2 (crowd x0 14)) (who x0 1 (crowd x0 14))).2) && (!(((implStepsUp (crowd x0 14) (who x0 1 (crowd x0 14)) (who x0 2 (crowd x0 14))).2) == (decide (0<((((implDescent (crowd x0 14) (who x0 2 (crowd x0 14)) (who x0 1 (crowd x0 14))).1).length:Nat):Int))))))) || (!(((implStepsUp (crowd x0 14) (who x0 1 (crowd x0 14)) (who x0 2 (crowd x0 14))).2) == ((decide ((who x0 1 (crowd x0 14))=(who x0 2 (crowd x0 14)))) || (lawHas (implAncestors (crowd x0 14) (who x0 1 (crowd x0 14))) (who x0 2 (crowd x0 14)))))))) (k26 (implDescendants (crowd x0 14) (who x0 2 (crowd x0 14))) (who x0 1 (crowd x0 14))))] [2,3,4,5,6,10,88] [3,1020,1031,2020] [!(!(((implDescent (crowd x0 14) (who x0 2 (crowd x0 14)) (who x0 1 (crowd x0 14))).2) == ((specDescent (crowd x0 14) (who x0 2 (crowd x0 14)) (who x0 1 (crowd x0 14))).2))),(!(!(((implDescent (crowd x0 14) (who x0 2 (crowd x0 14)) (who x0 1 (crowd x0 14))).2) == ((specDescent (crowd x0 14) (who x0 2 (crowd x0 14)) (who x0 1 (crowd x0 14))).2)))) && ((implDescent (crowd x0 14) (who x0 2 (crowd x0 14)) (who x0 1 (crowd x0 14))).2),!(((implDescent (crowd x0 14) (who x0 2 (crowd x0 14)) (who x0 1 (crowd x0 14))).2) == ((specDescent (crowd x0 14) (who x0 2 (crowd x0 14)) (who x0 1 (crowd x0 14))).2)),!((!(((implDescent (crowd x0 14) (who x0 2 (crowd x0 14)) (who x0 1 (crowd x0 14))).2) == ((specDescent (crowd x0 14) (who x0 2 (crowd x0 14)) (who x0 1 (crowd x0 14))).2))) || (((implDescent (crowd x0 14) (who x0 2 (crowd x0 14)) (who x0 1 (crowd x0 14))).2) && (!(((implStepsUp (crowd x0 14) (who x0 1 (crowd x0 14)) (who x0 2 (crowd x0 14))).2) == (decide (0<((((implDescent (crowd x0 14) (who x0 2 (crowd x0 14)) (who x0 1 (crowd x0 14))).1).length:Nat):Int))))))),(!((!(((implDescent (crowd x0 14) (who x0 2 (crowd x0 14)) (who x0 1 (crowd x0 14))).2) == ((specDescent (crowd x0 14) (who x0 2 (crowd x0 14)) (who x0 1 (crowd x0 14))).2))) || (((implDescent (crowd x0 14) (who x0 2 (crowd x0 14)) (who x0 1 (crowd x0 14))).2) && (!(((implStepsUp (crowd x0 14) (who x0 1 (crowd x0 14)) (who x0 2 (crowd x0 14))).2) == (decide (0<((((implDescent (crowd x0 14) (who x0 2 (crowd x0 14)) (who x0 1 (crowd x0 14))).1).length:Nat):Int)))))))) && (!(decide ((who x0 1 (crowd x0 14))=(who x0 2 (crowd x0 14))))),(!(((implDescent (crowd x0 14) (who x0 2 (crowd x0 14)) (who x0 1 (crowd x0 14))).2) == ((specDescent (crowd x0 14) (who x0 2 (crowd x0 14)) (who x0 1 (crowd x0 14))).2))) || (((implDescent (crowd x0 14) (who x0 2 (crowd x0 14)) (who x0 1 (crowd x0 14))).2) && (!(((implStepsUp (crowd x0 14) (who x0 1 (crowd x0 14)) (who x0 2 (crowd x0 14))).2) == (decide (0<((((implDescent (crowd x0 14) (who x0 2 (crowd x0 14)) (who x0 1 (crowd x0 14))).1).length:Nat):Int)))))),!(((!(((implDescent (crowd x0 14) (who x0 2 (crowd x0 14)) (who x0 1 (crowd x0 14))).2) == ((specDescent (crowd x0 14) (who x0 2 (crowd x0 14)) (who x0 1 (crowd x0 14))).2))) || (((implDescent (crowd x0 14) (who x0 2 (crowd x0 14)) (who x0 1 (crowd x0 14))).2) && (!(((implStepsUp (crowd x0 14) (who x0 1 (crowd x0 14)) (who x0 2 (crowd x0 14))).2) == (decide (0<((((implDescent (crowd x0 14) (who x0 2 (crowd x0 14)) (who x0 1 (crowd x0 14))).1).length:Nat):Int))))))) || (!(((implStepsUp (crowd x0 14) (who x0 1 (crowd x0 14)) (who x0 2 (crowd x0 14))).2) == ((decide ((who x0 1 (crowd x0 14))=(who x0 2 (crowd x0 14)))) || (lawHas (implAncestors (crowd x0 14) (who x0 1 (crowd x0 14))) (who x0 2 (crowd x0 14))))))),(!(((!(((implDescent (crowd x0 14) (who x0 2 (crowd x0 14)) (who x0 1 (crowd x0 14))).2) == ((specDescent (crowd x0 14) (who x0 2 (crowd x0 14)) (who x0 1 (crowd x0 14))).2))) || (((implDescent (crowd x0 14) (who x0 2 (crowd x0 14)) (who x0 1 (crowd x0 14))).2) && (!(((implStepsUp (crowd x0 14) (who x0 1 (crowd x0 14)) (who x0 2 (crowd x0 14))).2) == (decide (0<((((implDescent (crowd x0 14) (who x0 2 (crowd x0 14)) (who x0 1 (crowd x0 14))).1).length:Nat):Int))))))) || (!(((implStepsUp (crowd x0 14) (who x0 1 (crowd x0 14)) (who x0 2 (crowd x0 14))).2) == ((decide ((who x0 1 (crowd x0 14))=(who x0 2 (crowd x0 14)))) || (lawHas (implAncestors (crowd x0 14) (who x0 1 (crowd x0 14))) (who x0 2 (crowd x0 14)))))))) && ((implStepsUp (crowd x0 14) (who x0 1 (crowd x0 14)) (who x0 2 (crowd x0 14))).2),((!(((implDescent (crowd x0 14) (who x0 2 (crowd x0 14)) (who x0 1 (crowd x0 14))).2) == ((specDescent (crowd x0 14) (who x0 2 (crowd x0 14)) (who x0 1 (crowd x0 14))).2))) || (((implDescent (crowd x0 14) (who x0 2 (crowd x0 14)) (who x0 1 (crowd x0 14))).2) && (!(((implStepsUp (crowd x0 14) (who x0 1 (crowd x0 14)) (who x0 2 (crowd x0 14))).2) == (decide (0<((((implDescent (crowd x0 14) (who x0 2 (crowd x0 14)) (who x0 1 (crowd x0 14))).1).length:Nat):Int))))))) || (!(((implStepsUp (crowd x0 14) (who x0 1 (crowd x0 14)) (who x0 2 (crowd x0 14))).2) == ((decide ((who x0 1 (crowd x0 14))=(who x0 2 (crowd x0 14)))) || (lawHas (implAncestors (crowd x0 14) (who x0 1 (crowd x0 14))) (who x0 2 (crowd x0 14))))))] [gt (!(!(((implDescent (crowd x0 14) (who x0 2 (crowd x0 14)) (who x0 1 (crowd x0 14))).2) == ((specDescent (crowd x0 14) (who x0 2 (crowd x0 14)) (who x0 1 (crowd x0 14))).2)))) (gt ((implDescent (crowd x0 14) (who x0 2 (crowd x0 14)) (who x0 1 (crowd x0 14))).2) (pf (((!(!(((implDescent (crowd x0 14) (who x0 2 (crowd x0 14)) (who x0 1 (crowd x0 14))).2) == ((specDescent (crowd x0 14) (who x0 2 (crowd x0 14)) (who x0 1 (crowd x0 14))).2)))) && ((implDescent (crowd x0 14) (who x0 2 (crowd x0 14)) (who x0 1 (crowd x0 14))).2))=true))),gt (!((!(((implDescent (crowd x0 14) (who x0 2 (crowd x0 14)) (who x0 1 (crowd x0 14))).2) == ((specDescent (crowd x0 14) (who x0 2 (crowd x0 14)) (who x0 1 (crowd x0 14))).2))) || (((implDescent (crowd x0 14) (who x0 2 (crowd x0 14)) (who x0 1 (crowd x0 14))).2) && (!(((implStepsUp (crowd x0 14) (who x0 1 (crowd x0 14)) (who x0 2 (crowd x0 14))).2) == (decide (0<((((implDescent (crowd x0 14) (who x0 2 (crowd x0 14)) (who x0 1 (crowd x0 14))).1).length:Nat):Int)))))))) (gf (decide ((who x0 1 (crowd x0 14))=(who x0 2 (crowd x0 14)))) (pf (((!((!(((implDescent (crowd x0 14) (who x0 2 (crowd x0 14)) (who x0 1 (crowd x0 14))).2) == ((specDescent (crowd x0 14) (who x0 2 (crowd x0 14)) (who x0 1 (crowd x0 14))).2))) || (((implDescent (crowd x0 14) (who x0 2 (crowd x0 14)) (who x0 1 (crowd x0 14))).2) && (!(((implStepsUp (crowd x0 14) (who x0 1 (crowd x0 14)) (who x0 2 (crowd x0 14))).2) == (decide (0<((((implDescent (crowd x0 14) (who x0 2 (crowd x0 14)) (who x0 1 (crowd x0 14))).1).length:Nat):Int)))))))) && (!(decide ((who x0 1 (crowd x0 14))=(who x0 2 (crowd x0 14))))))=true))),gt (!(((!(((implDescent (crowd x0 14) (who x0 2 (crowd x0 14)) (who x0 1 (crowd x0 14))).2) == ((specDescent (crowd x0 14) (who x0 2 (crowd x0 14)) (who x0 1 (crowd x0 14))).2))) || (((implDescent (crowd x0 14) (who x0 2 (crowd x0 14)) (who x0 1 (crowd x0 14))).2) && (!(((implStepsUp (crowd x0 14) (who x0 1 (crowd x0 14)) (who x0 2 (crowd x0 14))).2) == (decide (0<((((implDescent (crowd x0 14) (who x0 2 (crowd x0 14)) (who x0 1 (crowd x0 14))).1).length:Nat):Int))))))) || (!(((implStepsUp (crowd x0 14) (who x0 1 (crowd x0 14)) (who x0 2 (crowd x0 14))).2) == ((decide ((who x0 1 (crowd x0 14))=(who x0 2 (crowd x0 14)))) || (lawHas (implAncestors (crowd x0 14) (who x0 1 (crowd x0 14))) (who x0 2 (crowd x0 14)))))))) (gt ((implStepsUp (crowd x0 14) (who x0 1 (crowd x0 14)) (who x0 2 (crowd x0 14))).2) (pf (((!(((!(((implDescent (crowd x0 14) (who x0 2 (crowd x0 14)) (who x0 1 (crowd x0 14))).2) == ((specDescent (crowd x0 14) (who x0 2 (crowd x0 14)) (who x0 1 (crowd x0 14))).2))) || (((implDescent (crowd x0 14) (who x0 2 (crowd x0 14)) (who x0 1 (crowd x0 14))).2) && (!(((implStepsUp (crowd x0 14) (who x0 1 (crowd x0 14)) (who x0 2 (crowd x0 14))).2) == (decide (0<((((implDescent (crowd x0 14) (who x0 2 (crowd x0 14)) (who x0 1 (crowd x0 14))).1).length:Nat):Int))))))) || (!(((implStepsUp (crowd x0 14) (who x0 1 (crowd x0 14)) (who x0 2 (crowd x0 14))).2) == ((decide ((who x0 1 (crowd x0 14))=(who x0 2 (crowd x0 14)))) || (lawHas (implAncestors (crowd x0 14) (who x0 1 (crowd x0 14))) (who x0 2 (crowd x0 14)))))))) && ((implStepsUp (crowd x0 14) (who x0 1 (crowd x0 14)) (who x0 2 (crowd x0 14))).2))=true)))] [] [1,5,5,5,5,1,0,10,13,13,13,17,17,12,17,17,16,13,4,13,13,22,25,25,20,25,25,24,25,29,29,25,8,25,25,34] (cn ((((!(((implDescent (crowd x0 14) (who x0 2 (crowd x0 14)) (who x0 1 (crowd x0 14))).2) == ((specDescent (crowd x0 14) (who x0 2 (crowd x0 14)) (who x0 1 (crowd x0 14))).2))) || (((implDescent (crowd x0 14) (who x0 2 (crowd x0 14)) (who x0 1 (crowd x0 14))).2) && (!(((implStepsUp (crowd x0 14) (who x0 1 (crowd x0 14)) (who x0 2 (crowd x0 14))).2) == (decide (0<((((implDescent (crowd x0 14) (who x0 2 (crowd x0 14)) (who x0 1 (crowd x0 14))).1).length:Nat):Int))))))) || (!(((implStepsUp (crowd x0 14) (who x0 1 (crowd x0 14)) (who x0 2 (crowd x0 14))).2) == ((decide ((who x0 1 (crowd x0 14))=(who x0 2 (crowd x0 14)))) || (lawHas (implAncestors (crowd x0 14) (who x0 1 (crowd x0 14))) (who x0 2 (crowd x0 14))))))) || (!((lawHas (implDescendants (crowd x0 14) (who x0 2 (crowd x0 14))) (who x0 1 (crowd x0 14))) == (((implStepsUp (crowd x0 14) (who x0 1 (crowd x0 14)) (who x0 2 (crowd x0 14))).2) && (!decide ((who x0 1 (crowd x0 14))=(who x0 2 (crowd x0 14)))))))) (r0 1 [2,3,4,5,6,10] [3,1020,1031,2020] (rt [] (C8 false))) (r0 1 [2,3,4,5,6,10,12] [3,1020,1031,2020] (r0 1 [2,3,4,5,10,12,89,90,91] [3,1020,1031,2020] (.fits [] [1031] [] ⟨[(89,.ro true 1 (((implDescent (crowd x0 14) (who x0 2 (crowd x0 14)) (who x0 1 (crowd x0 14))).1).length) (rowOf (cSl true 1 (cInt .i64)) ((implDescent (crowd x0 14) (who x0 2 (crowd x0 14)) (who x0 1 (crowd x0 14))).1)))],[]⟩ (lp (D8b1 x0) [] [] [] (D8b1 x0 0 (-1)) (A8b1 x0))))))))))
theorem law_FnDescents {x0:List Int} (hx:x0.length≤1048576∧∀ y ∈ x0,inR .u8 y):laws_FnDescents_m x0=true:=by
 have hc:=crowd_bd hx 14
 have hp:=who_rng (bytes_ok hx).2 (i:=1) (by omega) hc.2.1.1
 have hq:=who_rng (bytes_ok hx).2 (i:=2) (by omega) hc.2.1.1
 have hf:=hc.1
 unfold laws_FnDescents_m
 rw [decide_eq_false (by have:=hx.1;omega)]
 simp only [cond_false]
 clear hx hc
 revert hp hq hf
 generalize who x0 1 (crowd x0 14)=p
 generalize who x0 2 (crowd x0 14)=q
 generalize crowd x0 14=f
 intro hp hq hf
 rw [descent_eq,steps_val hf hq hp,anc_val hf hq hp,des_val hf hq hp]
 obtain ⟨f1,f2,f3,f4⟩:=far_no hf hq hp
 obtain ⟨d1,d2⟩:=dsc_mem hf hq hp
 have hb:=descent_bd f q p
 rw [descent_eq] at hb
 have e1:((specDescent f q p).2 == (specDescent f q p).2)=true:=beq_self_eq_true _
 have e2:((specDescent f q p).2 && !(decide (0≤far f p q) == decide (0<(((specDescent f q p).1.length:Nat):Int))))=false:=by
  cases c:(specDescent f q p).2 with
  | false=>rfl
  | true =>
   rw [Bool.true_and]
   have:decide (0≤far f p q)=decide (0<(((specDescent f q p).1.length:Nat):Int)):=by
    rw [Bool.eq_iff_iff,decide_eq_true_eq,decide_eq_true_eq,f1]
    constructor
    ·rintro ⟨l,hl⟩
     have:=List.length_pos_of_mem ((d1 c l).2 hl)
     omega
    ·intro h
     have hm:=getD_mem (d:=default) (l:=(specDescent f q p).1) (k:=0) (by omega)
     exact ⟨_,(d1 c _).1 hm⟩
   rw [this];simp
 have e3:decide (0≤far f p q)=(decide (p=q) || decide (0<far f p q)):=by
  rw [Bool.eq_iff_iff,Bool.or_eq_true,decide_eq_true_eq,decide_eq_true_eq,decide_eq_true_eq,← f4]
  omega
 have e4:decide (0<far f p q)=(decide (0≤far f p q) && !decide (p=q)):=by
  rw [Bool.eq_iff_iff,Bool.and_eq_true,decide_eq_true_eq,decide_eq_true_eq,Bool.not_eq_true',decide_eq_false_iff_not,← f4]
  omega
 dsimp only
 rw [e1,e2,← e3,← e4]
 simp only [beq_self_eq_true,Bool.not_true,Bool.or_false,cond_false]
 clear e1 e2 e3 e4
 have hL:∀ i,i<(specDescent f q p).1.length→Ln f p q ((specDescent f q p).1.getD i default):=fun i hi=>by
  have hm:=getD_mem (d:=default) hi
  cases c:(specDescent f q p).2 with
  | false=>rw [d2 c] at hi;exact absurd hi (Nat.not_lt_zero _)
  | true=>exact (d1 c _).1 hm
 refine loopN_to (fun i (v:Int)=>(i=0→v=-1)∧(0<i→(∃ j,j<i∧v=(((specDescent f q p).1.getD j default).length:Int))∧∀ j,j<i→v≤(((specDescent f q p).1.getD j default).length:Int))) (fun (r:Bool)=>r=true) ⟨fun _=>rfl,fun h=>absurd h (by omega)⟩ (fun i v nx hi hv hn=>?_) (fun v hv=>?_)
 ·have h:=hL i hi
  have hne:=h.up
  obtain ⟨t,ht⟩:=h.head
  have hend:=h.end0
  have hlk:=h.link hf hp
  have hstep:∀ w:Int,(w=v ∨ w=(((specDescent f q p).1.getD i default).length:Int))→(0<i→w≤v)→w≤(((specDescent f q p).1.getD i default).length:Int)→(i=0→w=(((specDescent f q p).1.getD i default).length:Int))→((i+1=0→w=-1)∧(0<i+1→(∃ j,j<i+1∧w=(((specDescent f q p).1.getD j default).length:Int))∧∀ j,j<i+1→w≤(((specDescent f q p).1.getD j default).length:Int))):=fun w h1 h2 h3 h4=>by
   refine ⟨fun h=>absurd h (by omega),fun _=>⟨?_,fun j hj=>?_⟩⟩
   ·rcases Nat.eq_zero_or_pos i with c | c
    ·exact ⟨i,by omega,h4 c⟩
    ·rcases h1 with h1 | h1
     ·obtain ⟨j,k1,k2⟩:=(hv.2 c).1
      exact ⟨j,by omega,h1.trans k2⟩
     ·exact ⟨i,by omega,h1⟩
   ·rcases Nat.lt_or_ge j i with c | c
    ·have:=(hv.2 (by omega)).2 j c
     have:=h2 (by omega)
     omega
    ·have e:j=i:=by omega
     subst e;exact h3
  have hv0:=hv.1
  have hv1:=fun h=>(hv.2 h).1
  generalize (specDescent f q p).1.getD i default=l at h hne ht hend hlk hstep
  have hl1:1≤l.length:=by obtain ⟨n,h1,_⟩:=hne;omega
  have g1:l.getD 0 default=q:=by rw [ht];rfl
  have g2:l.getD (((l.length:Nat):Int) - 1).toNat default=p:=by
   rw [List.getLast?_eq_getElem?] at hend
   rw [List.getD_eq_getElem?_getD,show (((l.length:Nat):Int) - 1).toNat=l.length - 1 by omega,hend];rfl
  rw [g1,g2,decide_eq_false (show ¬ ((l.length:Nat):Int)=0 by omega),decide_eq_true (rfl:q=q),decide_eq_true (rfl:p=p)]
  simp only [Bool.not_true,Bool.or_false,cond_false]
  refine loopW_to (fun (w:Int)=>1≤w∧w≤1001) (fun w=>((1001:Int) - w).toNat) (fun (r:Bool)=>r=true) (fun w nx2 hw hn2=>?_) _ _ (Nat.lt_succ_self _) (by omega)
  refine cond_both (p:=fun (r:Bool)=>r=true) (fun c=>?_) (fun c=>?_)
  ·have c:=of_decide_eq_true c
   have hll:l.length≤1000:=by
    have h5:=h.le_dd hf hp
    omega
   have k:=hlk (w - 1).toNat (by omega)
   rw [show (w - 1).toNat+1=w.toNat by omega] at k
   rw [par_has hf k.2 k.1]
   exact hn2 _ (by omega) (by omega)
  ·refine cond_both (p:=fun (r:Bool)=>r=true) (fun c=>hn _ ?_) (fun c=>hn _ ?_)
   ·simp only [Bool.or_eq_true,decide_eq_true_eq] at c
    refine hstep _ (.inr rfl) (fun h0=>?_) (Int.le_refl _) (fun _=>rfl)
    obtain ⟨j,_,k2⟩:=hv1 h0
    omega
   ·simp only [Bool.or_eq_false_iff,decide_eq_false_iff_not] at c
    exact hstep _ (.inl rfl) (fun _=>Int.le_refl _) (by omega) (fun h0=>by have:=hv0 h0;omega)
 ·rcases Nat.eq_zero_or_pos (specDescent f q p).1.length with c | c
  ·rw [hv.1 c];rfl
  ·obtain ⟨⟨j,k1,k2⟩,k3⟩:=hv.2 c
   have hm:=hL j k1
   have h2:=f2 _ hm
   have h0:0≤far f p q:=f1.2 ⟨_,hm⟩
   obtain ⟨l,hl,e⟩:=f3 h0
   have hok:(specDescent f q p).2=true:=by
    cases c2:(specDescent f q p).2 with
    | true=>rfl
    | false=>rw [d2 c2] at c;exact absurd c (Nat.not_lt_zero _)
   obtain ⟨i,i1,i2⟩:=mem_getD (d:=default) ((d1 hok l).2 hl)
   have h3:=k3 i i1
   rw [i2] at h3
   rw [Bool.or_eq_true,decide_eq_true_eq,decide_eq_true_eq]
   right
   omega

theorem ok_laws_FnDescents (x0:List Int) (hx0:x0.length≤1048576∧∀ y ∈ x0,inR .u8 y):FnT Try.prog 8 [.ro false 1 x0.length (rowOf (cInt .u8) x0)] (C8 true):=by
 have aux:∀ R,laws_FnDescents_m x0=R→slim (C8 R) (A8 x0) []:=by
  intro R hR
  refine rg trivial ?_
  refine rg trivial ?_
  revert hR;refine cd (fun hc1 hR=>?_) fun hc1 hR=>?_
  ·
    refine rg trivial ?_
    exact congrArg C8 hR
  ·
    refine rg ⟨⟨by (intros;omega),by (with_reducible exact (bytes_ok hx0).2),by (intros;omega)⟩,⟨by (intros;omega),by (with_reducible exact (bytes_ok hx0).2),by (intros;omega),by (have h9:=crowd_bd hx0 14;omega)⟩,⟨by (intros;omega),by (with_reducible exact (bytes_ok hx0).2),by (intros;omega),by (have h9:=crowd_bd hx0 14;omega)⟩,⟨by (have h9:=crowd_bd hx0 14;omega),by (have h9:=crowd_bd hx0 14;omega),by (with_reducible exact (crowd_bd hx0 14).2.2.2)⟩,⟨by (have h9:=crowd_bd hx0 14;omega),by (have h9:=crowd_bd hx0 14;omega),by (with_reducible exact (crowd_bd hx0 14).2.2.2)⟩,⟨by (have h9:=crowd_bd hx0 14;omega),by (have h9:=crowd_bd hx0 14;omega),by (with_reducible exact (crowd_bd hx0 14).2.2.2)⟩,trivial⟩ ?_
    refine rg ⟨by (intro h9 h8;rw [h9,h8];rfl),by (intro h9 h8;rw [h9,h8];rfl),by (intro h9 h8;rw [h9,h8];rfl),fun hg0=>⟨by (have h9:=crowd_bd hx0 14;omega),by (have h9:=crowd_bd hx0 14;omega),by (with_reducible exact (crowd_bd hx0 14).2.2.2)⟩,fun hg0=>by (have h9:=crowd_bd hx0 14;have h8:=who_rng (bytes_ok hx0).2 (i:=1) (by omega) h9.2.1.1;have h7:=who_rng (bytes_ok hx0).2 (i:=2) (by omega) h9.2.1.1;have h6:=anc_len (crowd x0 14) (who x0 1 (crowd x0 14)) h9.1 h8;omega),fun hg0=>⟨by (have h9:=crowd_bd hx0 14;omega),by (have h9:=crowd_bd hx0 14;omega),by (with_reducible exact (crowd_bd hx0 14).2.2.2)⟩,fun hg0=>by (have h9:=crowd_bd hx0 14;have h7:=implDescendants_len (crowd x0 14) (who x0 2 (crowd x0 14));omega),trivial⟩ ?_
    revert hR;refine cd (fun hc2 hR=>?_) fun hc2 hR=>?_
    ·
      refine rg trivial ?_
      exact congrArg C8 hR
    ·
      refine rg trivial ?_
      refine rg trivial ?_
      refine ft ?_
      revert hR;refine lN (fun i v=>-1≤v∧v≤1000) (by (intros;omega)) rfl fun i1 v1 F1 hn1 hI1 hR hK1=>?_
      refine rg trivial ?_
      refine ⟨fun hc3=>?_,fun hc3=>?_⟩
      · have hii1:i1<((implDescent (crowd x0 14) (who x0 2 (crowd x0 14)) (who x0 1 (crowd x0 14))).1).length:=by have:=of_decide_eq_true hc3;omega
        replace hR:=loopN_step hR hii1
        refine rg ⟨by (intros;omega),trivial⟩ ?_
        refine rg ⟨by ((try clear hR hK1);intros;(try simp only [decide_eq_true_eq,decide_eq_false_iff_not,Bool.or_eq_true,Bool.and_eq_true,or_f_iff,not_f_iff,not_t_iff,Bool.not_eq_true',inR] at *);(repeat' apply And.intro) <;> (intros;omega)),by (have h9:=dlen_bd hii1;(try simp only [inR]);omega),by ((try clear hR hK1);intros;(try simp only [decide_eq_true_eq,decide_eq_false_iff_not,Bool.or_eq_true,Bool.and_eq_true,or_f_iff,not_f_iff,not_t_iff,Bool.not_eq_true',inR] at *);(repeat' apply And.intro) <;> (intros;omega)),trivial⟩ ?_
        revert hR;refine cd (fun hc4 hR=>?_) fun hc4 hR=>?_
        ·
          refine rg trivial ?_
          exact congrArg C8 hR
        ·
          refine rg trivial ?_
          revert hR;refine lW (fun v=>1≤v∧v≤1001) (fun v=>((1001:Int) - (v)).toNat) (by (intros;omega)) (Nat.lt_succ_self _) rfl fun m2 v2 F2 hI2 hM2 hR hK2=>?_
          refine rg trivial ?_
          revert hR;refine cd (fun hc5 hR=>?_) fun hc5 hR=>?_
          ·
            refine rg ⟨by ((try clear hR hK1 hK2);intros;(try simp only [decide_eq_true_eq,decide_eq_false_iff_not,Bool.or_eq_true,Bool.and_eq_true,or_f_iff,not_f_iff,not_t_iff,Bool.not_eq_true',inR] at *);(repeat' apply And.intro) <;> (intros;omega)),by (have h9:=(descent_bd (crowd x0 14) (who x0 2 (crowd x0 14)) (who x0 1 (crowd x0 14))).1;(try simp only [inR]);omega),by ((try clear hR hK1 hK2);intros;(try simp only [decide_eq_true_eq,decide_eq_false_iff_not,Bool.or_eq_true,Bool.and_eq_true,or_f_iff,not_f_iff,not_t_iff,Bool.not_eq_true',inR] at *);(repeat' apply And.intro) <;> (intros;omega)),⟨by (have h9:=crowd_bd hx0 14;omega),by (have h9:=crowd_bd hx0 14;omega),by (with_reducible exact (crowd_bd hx0 14).2.2.2)⟩,by (have h9:=specParents_len (crowd x0 14) (((implDescent (crowd x0 14) (who x0 2 (crowd x0 14)) (who x0 1 (crowd x0 14))).1.getD i1 default).getD v2.toNat default);omega),trivial⟩ ?_
            revert hR;refine cd (fun hc6 hR=>?_) fun hc6 hR=>?_
            ·
              refine rg trivial ?_
              exact congrArg C8 hR
            ·
              refine rg ⟨by (have h9:=(descent_bd (crowd x0 14) (who x0 2 (crowd x0 14)) (who x0 1 (crowd x0 14))).1;(try simp only [inR]);omega),trivial⟩ ?_
              exact hK2 (v2+1) (by ((try clear hR hK1 hK2);intros;(try simp only [decide_eq_true_eq,decide_eq_false_iff_not,Bool.or_eq_true,Bool.and_eq_true,or_f_iff,not_f_iff,not_t_iff,Bool.not_eq_true',inR] at *);(repeat' apply And.intro) <;> (first | (intros;omega) | (have h9:=dlen_bd hii1;(try simp only [inR]);omega)))) (by ((try clear hR hK1 hK2);intros;(try simp only [decide_eq_true_eq,decide_eq_false_iff_not,Bool.or_eq_true,Bool.and_eq_true,or_f_iff,not_f_iff,not_t_iff,Bool.not_eq_true',inR] at *);(repeat' apply And.intro) <;> (have h9:=dlen_bd hii1;(try simp only [inR]);omega))) hR
          ·
            refine rg trivial ?_
            revert hR;refine cd (fun hc7 hR=>?_) fun hc7 hR=>?_
            ·
              refine rg trivial ?_
              refine rg ⟨by (have h9:=(descent_bd (crowd x0 14) (who x0 2 (crowd x0 14)) (who x0 1 (crowd x0 14))).1;(try simp only [inR]);omega),trivial⟩ ?_
              exact hK1 (((((implDescent (crowd x0 14) (who x0 2 (crowd x0 14)) (who x0 1 (crowd x0 14))).1).getD i1 default).length:Nat):Int) hii1 (by (have h9:=dlen_bd hii1;(try simp only [inR]);omega)) hR
            ·
              refine rg ⟨by (have h9:=(descent_bd (crowd x0 14) (who x0 2 (crowd x0 14)) (who x0 1 (crowd x0 14))).1;(try simp only [inR]);omega),trivial⟩ ?_
              exact hK1 v1 hii1 (by with_reducible assumption) hR
      · obtain rfl:i1=((implDescent (crowd x0 14) (who x0 2 (crowd x0 14)) (who x0 1 (crowd x0 14))).1).length:=by have:=of_decide_eq_false hc3;omega
        replace hR:=loopN_end hR (Nat.lt_irrefl _)
        refine rg ⟨by (have h9:=crowd_bd hx0 14;have h8:=who_rng (bytes_ok hx0).2 (i:=1) (by omega) h9.2.1.1;have h7:=who_rng (bytes_ok hx0).2 (i:=2) (by omega) h9.2.1.1;have h6:=steps_bd h9.1 h7 h8;(try simp only [inR]);omega),trivial⟩ ?_
        exact congrArg C8 hR
 exact Fn.go 153 Try.func8 (by kernel_rfl) (by kernel_rfl) (by simp [C8,Frs,FrsL]) (A8 x0) (by kernel_rfl) (aux _ (law_FnDescents hx0))
theorem bulk_pos {H:Type} (d:DataW H):1≤Rows.uptoBulk d:=by
 cases d with
 | lit l=>cases l <;> simp [Rows.uptoBulk]
 | _=>simp [Rows.uptoBulk]
theorem bulkAll_len {H : Type} : ∀ l : List (DataW H), l.length ≤ Rows.uptoBulkAll l
  | []=>by simp
  | d :: l=>by
    have:=bulk_pos d
    have:=bulkAll_len l
    simp only [Rows.uptoBulkAll,List.length_cons]
    omega
theorem bulkAll_mem {H : Type} : ∀ (l : List (DataW H)) (d : DataW H), d ∈ l → Rows.uptoBulk d ≤ Rows.uptoBulkAll l
  | [],d,h=>by cases h
  | e :: l,d,h=>by
    simp only [Rows.uptoBulkAll]
    rcases List.mem_cons.1 h with e | h
    · rw [e];omega
    · have:=bulkAll_mem l d h
      omega
theorem bulk {H:Type}:Bulk (Rows.uptoBulk (H:=H)) where
 str:=fun bs=>by simp [Rows.uptoBulk]
 slen:=fun es sp=>by
  have:=bulkAll_len es
  simp only [Rows.uptoBulk]
  omega
 sel:=fun es sp e he=>by
  have:=bulkAll_mem es e he
  simp only [Rows.uptoBulk]
  omega
 agg:=fun ps p hp=>by
  have:=bulkAll_mem ps p hp
  simp only [Rows.uptoBulk]
  omega
theorem own:ownKnob Try.prog.godebug=none:=by kernel_rfl
theorem laidOut:laidOutB Try.prog=true:=by kernel_rfl
set_option maxRecDepth 100000 in
theorem contract (H : Type) (enc : TypeId × Value → H) (W : World) (base : Nat) (args : Array Value) (ds gs : List (DataW H)) (before : List MemPlace)
    (hval:∀ (j:Nat) t v,Try.f8.params[j]?=some t→args[j]?=some v→Value.okWide Try.prog W .any base t v)
    (hW:DataW.Whole enc Try.prog Try.f8.params.toList Rows.fnDescentsSpec.vars false W args.toList ds gs before) (hk:Rows.uptoSmall H (ds++gs)=true) :
    Calls Try.prog 8 args W fun e W'=>∃ v,e=.returned v∧Rows.fnDescentsSpec.post enc Try.prog Try.f8 false true false false W args v W':=by
 have hW':=hW
 obtain ⟨p,q,hA0,hV,hpq,hfz,hnd⟩:=hW
 have hA:DataW.TrodAll enc Try.prog W 0 (fun _=>true) true Try.f8.params.toList args.toList ds p:=hA0
 clear hA0
 rw [Try.params8] at hA hval
 obtain ⟨v0,vs0,d0,ds0,p0,q0,hargs,rfl,rfl,h0,hA1⟩:=trodAll_cons hA
 obtain ⟨rfl,rfl,rfl⟩:=trodAll_nil hA1
 obtain rfl:args=#[v0]:=by cases args;simp_all
 obtain ⟨rfl,rfl⟩:=trodVars_none hV
 obtain ⟨x0,k0,r0⟩:=top_slice (opens_slice bulk (mono_triv (p:=fun (n:Int)=>inR .u8 n)) Try.underlying39 (sz:=1) (by kernel_rfl) (by omega) (opens_int Try.underlying5)) Try.underlying39 (hval 0 39 v0 rfl rfl) h0
 have kk0:=((mono_sl (mono_triv (p:=fun (n:Int)=>inR .u8 n)))) _ _ x0 (show Rows.uptoBulk d0≤1048576 from Nat.le_trans (bulkAll_mem _ d0 (by simp)) (of_decide_eq_true hk)) k0
 refine (Lite.Fn.true_of (ok_laws_FnDescents x0 kk0) trivial (by rfl) fun i lv v hl hv=>?_).mono fun e W' ⟨he,hb⟩=>⟨_,he,row_post laidOut (by kernel_rfl) rfl Try.underlying4 rfl rfl hW' hb⟩
 match i,hl,hv with
 | 0,hl,hv=>cases hl;cases hv;exact r0
 | _+1,hl,_=>simp at hl
set_option maxRecDepth 100000 in
theorem lifted (os : Os) (started : os.Started) (H : Type) (enc : TypeId × Value → H) (F : Stop.Interp) :
    ReturnsInHanded {} Try.checked os 8 .any ((Rows.OpenSpec.upto Rows.fnDescentsSpec).pre6 enc Try.prog Try.f8 Rows.fnDescentsUptoRow.domain false) (((Rows.OpenSpec.upto Rows.fnDescentsSpec).at F).post enc Try.prog Try.f8 false true false false):=by
 refine returnsInHanded_of_cond (C := Try.checked) (s := Rows.OpenSpec.upto Rows.fnDescentsSpec) (k := Rows.uptoSmall) rfl own started (by kernel_rfl) Try.func8
   (OpenSpec.witness (enc := enc) (C := Try.checked) (s := Rows.OpenSpec.upto Rows.fnDescentsSpec) (k := Rows.uptoSmall) rfl false ⟨#[], #[.slice none 0 0], []⟩ 12 (by kernel_rfl) (by kernel_rfl) (by kernel_rfl)
     (x:=([.nil],[],[])) (by kernel_rfl) rfl (by kernel_rfl)) ?_
 intro W base args ds gs before hval hW _ hk _
 exact contract H enc W base args ds gs before hval hW hk
theorem proved:Rows.FnDescentsUptoSaid :=
 OpenClaim.holds_of_cond 8 Try.f8 rfl rfl rfl rfl rfl rfl rfl ⟨rfl, rfl, rfl, rfl, rfl⟩ rfl rfl rfl rfl rfl (by kernel_rfl) Try.func8 (by kernel_rfl)
   (of_decide_eq_true (by kernel_rfl)) (by unfold Func.isWrapper;first | (rw [if_pos (by decide +kernel)];kernel_rfl) | (rw [if_neg (by decide +kernel)];exact ⟨rfl,rfl⟩))
   (fun os started H enc _ F=>lifted os started H enc F)
end Go.Proofs.Ytkkijpibajigfaa
