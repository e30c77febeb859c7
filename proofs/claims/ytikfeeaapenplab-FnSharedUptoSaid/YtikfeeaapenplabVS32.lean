import Derived.Test.YtikfeeaapenplabM154
set_option maxHeartbeats 4000000
set_option linter.unusedSimpArgs false
set_option linter.unusedVariables false
namespace Go.Proofs.Ytikfeeaapenplab
open Go Go.Lite Go.Proofs
structure Share where
  person:Int
  num:Int
  den:Int
  deriving Inhabited
def cShare (fr:Bool) (x:Share):List LV:=cInt .i64 x.person++cInt .i64 x.num++cInt .i64 x.den

def C18 (R:(List Share)):LV×List (Nat×BC):=(.own 0,[(0,.arr 3 R.length (rowOf (cShare true) R))])
def implShares (x0:Family) (x1:Int) (x2:Int):(List Share):=bif (!(implHas x0 [x1])) then ([]:List Share) else (loopN (fun i1 (v1:(List Int)) next=>next (v1.set i1 1)) (fun (v1:(List Int))=>jn (fun K1=>K1 ((takePart (estate.mk x0 x1 x2 ([]:List Bool) (List.replicate x0.people.length (default:Int)) v1)).1,(takePart (estate.mk x0 x1 x2 ([]:List Bool) (List.replicate x0.people.length (default:Int)) v1)).2.1,(takePart (estate.mk x0 x1 x2 ([]:List Bool) (List.replicate x0.people.length (default:Int)) v1)).2.2)) (fun (j1:(List Bool)×(List Int)×(List Int))=>jn (fun K2=>K2 ((taking (estate.mk x0 x1 x2 j1.1 j1.2.1 j1.2.2) (implKids x0 x1)).1,(taking (estate.mk x0 x1 x2 j1.1 j1.2.1 j1.2.2) (implKids x0 x1)).2.1,(taking (estate.mk x0 x1 x2 j1.1 j1.2.1 j1.2.2) (implKids x0 x1)).2.2.1,(taking (estate.mk x0 x1 x2 j1.1 j1.2.1 j1.2.2) (implKids x0 x1)).2.2.2)) (fun (j2:(List Int)×(List Bool)×(List Int)×(List Int))=>loopW (fun (v2:(List Int)×(List Int)×(List Bool)×(List Int)×(List Int)) nx2=>bif ((decide (((v2.1.length:Nat):Int)=0)) && (decide (0<((v2.2.1.length:Nat):Int)))) then (loopN (fun i3 (v3:(List Int)) nx3=>loopN (fun i4 (v4:Unit) next=>bif (implParent x0 ((i3:Nat):Int) (v2.2.1.getD i4 default)) then (nx3 (v3++[((i3:Nat):Int)])) else (next ())) (fun (v4:Unit)=>nx3 v3) v2.2.1.length 0 ()) (fun (v3:(List Int))=>nx2 ((taking (estate.mk x0 x1 x2 v2.2.2.1 v2.2.2.2.1 v2.2.2.2.2) v3).1,v3,(taking (estate.mk x0 x1 x2 v2.2.2.1 v2.2.2.2.1 v2.2.2.2.2) v3).2.1,(taking (estate.mk x0 x1 x2 v2.2.2.1 v2.2.2.2.1 v2.2.2.2.2) v3).2.2.1,(taking (estate.mk x0 x1 x2 v2.2.2.1 v2.2.2.2.1 v2.2.2.2.2) v3).2.2.2)) x0.people.length 0 ([]:List Int)) else (bif (decide (0<((v2.1.length:Nat):Int))) then (loopN (fun i5 (v5:(List Share)) next=>bif (decide (0<(((divide (estate.mk x0 x1 x2 v2.2.2.1 v2.2.2.2.1 v2.2.2.2.2) v2.1 1 1).2.1).getD i5 default))) then (next (v5++[(Share.mk ((i5:Nat):Int) (((divide (estate.mk x0 x1 x2 v2.2.2.1 v2.2.2.2.1 v2.2.2.2.2) v2.1 1 1).2.1).getD i5 default) (((divide (estate.mk x0 x1 x2 v2.2.2.1 v2.2.2.2.1 v2.2.2.2.2) v2.1 1 1).2.2).getD i5 default))])) else (next v5)) (fun (v5:(List Share))=>v5) (((divide (estate.mk x0 x1 x2 v2.2.2.1 v2.2.2.2.1 v2.2.2.2.2) v2.1 1 1).2.1).length) 0 ([]:List Share)) else (loopN (fun i6 (v6:(List Share)) next=>bif (decide (0<(v2.2.2.2.1.getD i6 default))) then (next (v6++[(Share.mk ((i6:Nat):Int) (v2.2.2.2.1.getD i6 default) (v2.2.2.2.2.getD i6 default))])) else (next v6)) (fun (v6:(List Share))=>v6) v2.2.2.2.1.length 0 ([]:List Share)))) (gmu [x1]+1) (j2.1,[x1],j2.2.1,j2.2.2.1,j2.2.2.2)))) x0.people.length 0 (List.replicate x0.people.length (default:Int)))
def D18b1 (x0:Family) (x1:Int) (x2:Int) (i1:Nat) (v1:(List Int)):Dl:=⟨[(38,.int .i64 ((i1:Nat):Int))],[(30706,.arr 1 x0.people.length (rowOf (cInt .i64) v1)),(7,.var [.ro false 6 x0.people.length (rowOf (cPerson false) x0.people),.ro false 4 x0.unions.length (rowOf (cUnion false) x0.unions),.int .i64 x1,.int .i64 x2,.nilS,.own 29,.own 30706])]⟩
def D18j1 (x0:Family) (x1:Int) (x2:Int) (i1:Nat) (v1:(List Int)) (j1:(List Bool)×(List Int)×(List Int)):Dl:=⟨[],[(30704,.arr 1 j1.1.length (rowOf (cBool) j1.1)),(30705,.arr 1 j1.2.1.length (rowOf (cInt .i64) j1.2.1)),(40706,.arr 1 j1.2.2.length (rowOf (cInt .i64) j1.2.2)),(7,.var [.ro false 6 x0.people.length (rowOf (cPerson false) x0.people),.ro false 4 x0.unions.length (rowOf (cUnion false) x0.unions),.int .i64 x1,.int .i64 x2,.own 30704,.own 30705,.own 40706])]⟩
def D18j2 (x0:Family) (x1:Int) (x2:Int) (i1:Nat) (v1:(List Int)) (j1:(List Bool)×(List Int)×(List Int)) (j2:(List Int)×(List Bool)×(List Int)×(List Int)):Dl:=⟨[(9,.own 20009)],[(20009,.arr 1 j2.1.length (rowOf (cInt .i64) j2.1)),(40704,.arr 1 j2.2.1.length (rowOf (cBool) j2.2.1)),(40705,.arr 1 j2.2.2.1.length (rowOf (cInt .i64) j2.2.2.1)),(30706,.arr 1 j2.2.2.2.length (rowOf (cInt .i64) j2.2.2.2)),(7,.var [.ro false 6 x0.people.length (rowOf (cPerson false) x0.people),.ro false 4 x0.unions.length (rowOf (cUnion false) x0.unions),.int .i64 x1,.int .i64 x2,.own 40704,.own 40705,.own 30706])]⟩
def D18b2 (x0:Family) (x1:Int) (x2:Int) (i1:Nat) (v1:(List Int)) (j1:(List Bool)×(List Int)×(List Int)) (j2:(List Int)×(List Bool)×(List Int)×(List Int)) (v2:(List Int)×(List Int)×(List Bool)×(List Int)×(List Int)):Dl:=⟨[(9,.own 30009),(10,.own 20010)],[(30009,.arr 1 v2.1.length (rowOf (cInt .i64) v2.1)),(20010,.arr 1 v2.2.1.length (rowOf (cInt .i64) v2.2.1)),(30704,.arr 1 v2.2.2.1.length (rowOf (cBool) v2.2.2.1)),(30705,.arr 1 v2.2.2.2.1.length (rowOf (cInt .i64) v2.2.2.2.1)),(40706,.arr 1 v2.2.2.2.2.length (rowOf (cInt .i64) v2.2.2.2.2)),(7,.var [.ro false 6 x0.people.length (rowOf (cPerson false) x0.people),.ro false 4 x0.unions.length (rowOf (cUnion false) x0.unions),.int .i64 x1,.int .i64 x2,.own 30704,.own 30705,.own 40706])]⟩
def D18b3 (x0:Family) (x1:Int) (x2:Int) (i1:Nat) (v1:(List Int)) (j1:(List Bool)×(List Int)×(List Int)) (j2:(List Int)×(List Bool)×(List Int)×(List Int)) (v2:(List Int)×(List Int)×(List Bool)×(List Int)×(List Int)) (i3:Nat) (v3:(List Int)):Dl:=⟨[(64,.int .i64 ((i3:Nat):Int)),(11,.own 20011)],[(20011,.arr 1 v3.length (rowOf (cInt .i64) v3))]⟩
def D18b4 (x0:Family) (x1:Int) (x2:Int) (i1:Nat) (v1:(List Int)) (j1:(List Bool)×(List Int)×(List Int)) (j2:(List Int)×(List Bool)×(List Int)×(List Int)) (v2:(List Int)×(List Int)×(List Bool)×(List Int)×(List Int)) (i3:Nat) (v3:(List Int)) (i4:Nat) (v4:Unit):Dl:=⟨[(69,.int .i64 ((i4:Nat):Int))],[]⟩
def A18b4 (x0:Family) (x1:Int) (x2:Int) (i1:Nat) (v1:(List Int)) (j1:(List Bool)×(List Int)×(List Int)) (j2:(List Int)×(List Bool)×(List Int)×(List Int)) (v2:(List Int)×(List Int)×(List Bool)×(List Int)×(List Int)) (i3:Nat) (v3:(List Int)) (i4:Nat) (v4:Unit):Ann:=r0 1 [3,6,7,9,10,11,12,63,64,67,68,69,70] [3,7,20010,20011,30009,30704,30705,40706] (cn (decide (((i4:Nat):Int)<((v2.2.1.length:Nat):Int))) (.reg 2 [] [(1003,k49 x0 ((i3:Nat):Int) (v2.2.1.getD i4 default))] [3,6,7,9,10,11,12,63,64,67,68,69,76] [3,7,20010,20011,30009,30704,30705,40706] [] [pf (0≤(((i4:Nat):Int):Int)∧(((i4:Nat):Int):Int)<((v2.2.1.length:Nat):Int))] [] [0,4] (cn (implParent x0 ((i3:Nat):Int) (v2.2.1.getD i4 default)) (.reg 1 [] [(2,bsC 79 (cInt .i64) ([((i3:Nat):Int)]:List Int)),(3,ap1 80 (cInt .i64) 8 v3 ((i3:Nat):Int))] [3,6,7,9,10,11,12,63,64,67,68,69] [3,7,80,20010,30009,30704,30705,40706] [] [] [] [0,4] (r1 1 [3,6,7,9,10,11,63,64] [3,7,80,20010,30009,30704,30705,40706] [pf (inR .i64 (((i3:Nat):Int)+1))] [0] (.next 1 [(20011,some 80)] (D18b3 x0 x1 x2 i1 v1 j1 j2 v2 (i3+1) (v3++[((i3:Nat):Int)]))))) (r1 1 [3,6,7,9,10,11,12,63,64,67,68,69] [3,7,20010,20011,30009,30704,30705,40706] [pf (inR .i64 (((i4:Nat):Int)+1))] [0] (.next 0 [] (D18b4 x0 x1 x2 i1 v1 j1 j2 v2 i3 v3 (i4+1) ()))))) (r1 1 [3,6,7,9,10,11,63,64] [3,7,20010,20011,30009,30704,30705,40706] [pf (inR .i64 (((i3:Nat):Int)+1))] [0] (.next 1 [(20011,some 20011)] (D18b3 x0 x1 x2 i1 v1 j1 j2 v2 (i3+1) v3))))
def A18b3 (x0:Family) (x1:Int) (x2:Int) (i1:Nat) (v1:(List Int)) (j1:(List Bool)×(List Int)×(List Int)) (j2:(List Int)×(List Bool)×(List Int)×(List Int)) (v2:(List Int)×(List Int)×(List Bool)×(List Int)×(List Int)) (i3:Nat) (v3:(List Int)):Ann:=r0 1 [3,6,7,9,10,11,63,64,65] [3,7,20010,20011,30009,30704,30705,40706] (cn (decide (((i3:Nat):Int)<((x0.people.length:Nat):Int))) (r0 2 [3,6,7,9,10,11,12,63,64,67,68,69] [3,7,20010,20011,30009,30704,30705,40706] (lp (D18b4 x0 x1 x2 i1 v1 j1 j2 v2 i3 v3) [] [] [] (D18b4 x0 x1 x2 i1 v1 j1 j2 v2 i3 v3 0 ()) (A18b4 x0 x1 x2 i1 v1 j1 j2 v2 i3 v3))) (r0 1 [3,6,7,9,10,11] [3,7,20011,30009,30704,30705,40706] (.reg 1 [] [(1,k47 85 [7,30704,30705,40706,20011] (estate.mk x0 x1 x2 v2.2.2.1 v2.2.2.2.1 v2.2.2.2.2) v3)] [3,6,7,9,10] [3,7,1085,2085,3085,4085,20011] [] [] [] [0] (.next 1 [(30009,some 1085),(20010,some 20011),(30704,some 2085),(30705,some 3085),(40706,some 4085)] (D18b2 x0 x1 x2 i1 v1 j1 j2 ((taking (estate.mk x0 x1 x2 v2.2.2.1 v2.2.2.2.1 v2.2.2.2.2) v3).1,v3,(taking (estate.mk x0 x1 x2 v2.2.2.1 v2.2.2.2.1 v2.2.2.2.2) v3).2.1,(taking (estate.mk x0 x1 x2 v2.2.2.1 v2.2.2.2.1 v2.2.2.2.2) v3).2.2.1,(taking (estate.mk x0 x1 x2 v2.2.2.1 v2.2.2.2.1 v2.2.2.2.2) v3).2.2.2))))))
def D18b5 (x0:Family) (x1:Int) (x2:Int) (i1:Nat) (v1:(List Int)) (j1:(List Bool)×(List Int)×(List Int)) (j2:(List Int)×(List Bool)×(List Int)×(List Int)) (v2:(List Int)×(List Int)×(List Bool)×(List Int)×(List Int)) (i5:Nat) (v5:(List Share)):Dl:=⟨[(94,.int .i64 ((i5:Nat):Int)),(15,.own 20015)],[(20015,.arr 3 v5.length (rowOf (cShare true) v5))]⟩
def A18b5 (x0:Family) (x1:Int) (x2:Int) (i1:Nat) (v1:(List Int)) (j1:(List Bool)×(List Int)×(List Int)) (j2:(List Int)×(List Bool)×(List Int)×(List Int)) (v2:(List Int)×(List Int)×(List Bool)×(List Int)×(List Int)) (i5:Nat) (v5:(List Share)):Ann:=r0 1 [6,7,15,92,93,94,95] [7,1090,2090,3090,20015] (cn (decide (((i5:Nat):Int)<((((divide (estate.mk x0 x1 x2 v2.2.2.1 v2.2.2.2.1 v2.2.2.2.2) v2.1 1 1).2.1).length:Nat):Int))) (r1 2 [6,7,15,16,17,92,93,94,100] [7,1090,2090,3090,20015] [pf (0≤(((i5:Nat):Int):Int)∧(((i5:Nat):Int):Int)<((((divide (estate.mk x0 x1 x2 v2.2.2.1 v2.2.2.2.1 v2.2.2.2.2) v2.1 1 1).2.1).length:Nat):Int))] [0] (cn (decide (0<(((divide (estate.mk x0 x1 x2 v2.2.2.1 v2.2.2.2.1 v2.2.2.2.2) v2.1 1 1).2.1).getD i5 default))) (.reg 1 [] [(9,bsC 110 (cShare true) ([(Share.mk ((i5:Nat):Int) (((divide (estate.mk x0 x1 x2 v2.2.2.1 v2.2.2.2.1 v2.2.2.2.2) v2.1 1 1).2.1).getD i5 default) (((divide (estate.mk x0 x1 x2 v2.2.2.1 v2.2.2.2.1 v2.2.2.2.2) v2.1 1 1).2.2).getD i5 default))]:List Share)),(10,ap1 111 (cShare true) 24 v5 (Share.mk ((i5:Nat):Int) (((divide (estate.mk x0 x1 x2 v2.2.2.1 v2.2.2.2.1 v2.2.2.2.2) v2.1 1 1).2.1).getD i5 default) (((divide (estate.mk x0 x1 x2 v2.2.2.1 v2.2.2.2.1 v2.2.2.2.2) v2.1 1 1).2.2).getD i5 default)))] [6,7,15,92,93,94] [7,111,1090,2090,3090] [] [pf (0≤(((i5:Nat):Int):Int)∧(((i5:Nat):Int):Int)<((((divide (estate.mk x0 x1 x2 v2.2.2.1 v2.2.2.2.1 v2.2.2.2.2) v2.1 1 1).2.2).length:Nat):Int))] [] [0,4,8] (r1 1 [6,7,15,92,93,94] [7,111,1090,2090,3090] [pf (inR .i64 (((i5:Nat):Int)+1))] [0] (.next 0 [(20015,some 111)] (D18b5 x0 x1 x2 i1 v1 j1 j2 v2 (i5+1) (v5++[(Share.mk ((i5:Nat):Int) (((divide (estate.mk x0 x1 x2 v2.2.2.1 v2.2.2.2.1 v2.2.2.2.2) v2.1 1 1).2.1).getD i5 default) (((divide (estate.mk x0 x1 x2 v2.2.2.1 v2.2.2.2.1 v2.2.2.2.2) v2.1 1 1).2.2).getD i5 default))]))))) (r1 1 [6,7,15,92,93,94] [7,1090,2090,3090,20015] [pf (inR .i64 (((i5:Nat):Int)+1))] [0] (.next 0 [(20015,some 20015)] (D18b5 x0 x1 x2 i1 v1 j1 j2 v2 (i5+1) v5))))) (r0 1 [6] [20015] (rt [(0,some 20015)] (C18 v5))))
def D18b6 (x0:Family) (x1:Int) (x2:Int) (i1:Nat) (v1:(List Int)) (j1:(List Bool)×(List Int)×(List Int)) (j2:(List Int)×(List Bool)×(List Int)×(List Int)) (v2:(List Int)×(List Int)×(List Bool)×(List Int)×(List Int)) (i6:Nat) (v6:(List Share)):Dl:=⟨[(94,.int .i64 ((i6:Nat):Int)),(15,.own 20015)],[(20015,.arr 3 v6.length (rowOf (cShare true) v6))]⟩
def A18b6 (x0:Family) (x1:Int) (x2:Int) (i1:Nat) (v1:(List Int)) (j1:(List Bool)×(List Int)×(List Int)) (j2:(List Int)×(List Bool)×(List Int)×(List Int)) (v2:(List Int)×(List Int)×(List Bool)×(List Int)×(List Int)) (i6:Nat) (v6:(List Share)):Ann:=r0 1 [6,7,15,92,93,94,95] [7,20015,30704,30705,40706] (cn (decide (((i6:Nat):Int)<((v2.2.2.2.1.length:Nat):Int))) (r1 2 [6,7,15,16,17,92,93,94,100] [7,20015,30704,30705,40706] [pf (0≤(((i6:Nat):Int):Int)∧(((i6:Nat):Int):Int)<((v2.2.2.2.1.length:Nat):Int))] [0] (cn (decide (0<(v2.2.2.2.1.getD i6 default))) (.reg 1 [] [(9,bsC 110 (cShare true) ([(Share.mk ((i6:Nat):Int) (v2.2.2.2.1.getD i6 default) (v2.2.2.2.2.getD i6 default))]:List Share)),(10,ap1 111 (cShare true) 24 v6 (Share.mk ((i6:Nat):Int) (v2.2.2.2.1.getD i6 default) (v2.2.2.2.2.getD i6 default)))] [6,7,15,92,93,94] [7,111,30704,30705,40706] [] [pf (0≤(((i6:Nat):Int):Int)∧(((i6:Nat):Int):Int)<((v2.2.2.2.2.length:Nat):Int))] [] [0,4,8] (r1 1 [6,7,15,92,93,94] [7,111,30704,30705,40706] [pf (inR .i64 (((i6:Nat):Int)+1))] [0] (.next 0 [(20015,some 111)] (D18b6 x0 x1 x2 i1 v1 j1 j2 v2 (i6+1) (v6++[(Share.mk ((i6:Nat):Int) (v2.2.2.2.1.getD i6 default) (v2.2.2.2.2.getD i6 default))]))))) (r1 1 [6,7,15,92,93,94] [7,20015,30704,30705,40706] [pf (inR .i64 (((i6:Nat):Int)+1))] [0] (.next 0 [(20015,some 20015)] (D18b6 x0 x1 x2 i1 v1 j1 j2 v2 (i6+1) v6))))) (r0 1 [6] [20015] (rt [(0,some 20015)] (C18 v6))))
def A18b2 (x0:Family) (x1:Int) (x2:Int) (i1:Nat) (v1:(List Int)) (j1:(List Bool)×(List Int)×(List Int)) (j2:(List Int)×(List Bool)×(List Int)×(List Int)) (v2:(List Int)×(List Int)×(List Bool)×(List Int)×(List Int)):Ann:=.reg 1 [] [] [3,6,7,9,10,60] [3,7,20010,30009,30704,30705,40706] [decide (((v2.1.length:Nat):Int)=0)] [] [] [1,1,1] (cn ((decide (((v2.1.length:Nat):Int)=0)) && (decide (0<((v2.2.1.length:Nat):Int)))) (r0 1 [3,6,7,9,10,11] [3,7,20010,30009,30704,30705,40706] (r0 1 [3,6,7,9,10,11,63,64] [3,7,20010,30009,30704,30705,40706] (lp (D18b3 x0 x1 x2 i1 v1 j1 j2 v2) [] [] [(20011,none)] (D18b3 x0 x1 x2 i1 v1 j1 j2 v2 0 ([]:List Int)) (A18b3 x0 x1 x2 i1 v1 j1 j2 v2)))) (r0 1 [6,7,9,88] [7,30009,30704,30705,40706] (cn (decide (0<((v2.1.length:Nat):Int))) (.reg 1 [] [(1,k50 90 [7,30704,30705,40706,30009] (estate.mk x0 x1 x2 v2.2.2.1 v2.2.2.2.1 v2.2.2.2.2) v2.1 1 1)] [6,7] [7,1090,2090,3090] [] [] [] [0] (r0 1 [6,7,15] [7,1090,2090,3090] (r0 1 [6,7,15,92,93,94] [7,1090,2090,3090] (lp (D18b5 x0 x1 x2 i1 v1 j1 j2 v2) [] [] [(20015,none)] (D18b5 x0 x1 x2 i1 v1 j1 j2 v2 0 ([]:List Share)) (A18b5 x0 x1 x2 i1 v1 j1 j2 v2))))) (r0 1 [6,7,15] [7,30704,30705,40706] (r0 1 [6,7,15,92,93,94] [7,30704,30705,40706] (lp (D18b6 x0 x1 x2 i1 v1 j1 j2 v2) [] [] [(20015,none)] (D18b6 x0 x1 x2 i1 v1 j1 j2 v2 0 ([]:List Share)) (A18b6 x0 x1 x2 i1 v1 j1 j2 v2)))))))
def A18j2 (x0:Family) (x1:Int) (x2:Int) (i1:Nat) (v1:(List Int)) (j1:(List Bool)×(List Int)×(List Int)) (j2:(List Int)×(List Bool)×(List Int)×(List Int)):Ann:=.reg 1 [] [(1,bsC 52 (cInt .i64) ([x1]:List Int))] [3,6,7,9,10] [3,7,52,20009,30706,40704,40705] [] [] [] [0] (.loop ((List Int)×(List Int)×(List Bool)×(List Int)×(List Int)) (D18b2 x0 x1 x2 i1 v1 j1 j2) [] [20009,52,40704,40705,30706] [(30009,some 20009),(20010,some 52),(30704,some 40704),(30705,some 40705),(40706,some 30706)] (D18b2 x0 x1 x2 i1 v1 j1 j2 (j2.1,[x1],j2.2.1,j2.2.2.1,j2.2.2.2)) (A18b2 x0 x1 x2 i1 v1 j1 j2))
def A18j1 (x0:Family) (x1:Int) (x2:Int) (i1:Nat) (v1:(List Int)) (j1:(List Bool)×(List Int)×(List Int)):Ann:=.join 0 ((List Int)×(List Bool)×(List Int)×(List Int)) (D18j2 x0 x1 x2 i1 v1 j1) [1,3,6,7] [3,7] (.reg 1 [] [(2,k48 x0 x1),(3,k47 50 [7,30704,30705,40706,1049] (estate.mk x0 x1 x2 j1.1 j1.2.1 j1.2.2) (implKids x0 x1))] [1,3,6,7,9] [3,7,1050,2050,3050,4050] [] [] [] [0,4] (.next 0 [(20009,some 1050),(40704,some 2050),(40705,some 3050),(30706,some 4050)] (D18j2 x0 x1 x2 i1 v1 j1 ((taking (estate.mk x0 x1 x2 j1.1 j1.2.1 j1.2.2) (implKids x0 x1)).1,(taking (estate.mk x0 x1 x2 j1.1 j1.2.1 j1.2.2) (implKids x0 x1)).2.1,(taking (estate.mk x0 x1 x2 j1.1 j1.2.1 j1.2.2) (implKids x0 x1)).2.2.1,(taking (estate.mk x0 x1 x2 j1.1 j1.2.1 j1.2.2) (implKids x0 x1)).2.2.2)))) (A18j2 x0 x1 x2 i1 v1 j1)
def A18b1 (x0:Family) (x1:Int) (x2:Int) (i1:Nat) (v1:(List Int)):Ann:=r0 1 [1,3,6,7,37,38,39] [3,7,29,30706] (cn (decide (((i1:Nat):Int)<((x0.people.length:Nat):Int))) (r0 1 [1,3,6,7,8,37,38] [3,7,29,30706] (.reg 1 [] [(4,stC 30706 (cInt .i64) x0.people.length v1 i1 1)] [1,3,6,7,37,38] [3,7,29,30706] [] [pf (0≤(((i1:Nat):Int):Int)∧(((i1:Nat):Int):Int)<((x0.people.length:Nat):Int))] [] [0,4] (r1 1 [1,3,6,7,37,38] [3,7,29,30706] [pf (inR .i64 (((i1:Nat):Int)+1))] [0] (.next 0 [(30706,some 30706)] (D18b1 x0 x1 x2 (i1+1) (v1.set i1 1)))))) (.join 0 ((List Bool)×(List Int)×(List Int)) (D18j1 x0 x1 x2 i1 v1) [1,3,6,7] [3,7] (.fits [] [] [(40704,none)] ⟨[],[(40704,.arr 1 (([]:List Bool).length) (rowOf (cBool) ([]:List Bool))),(7,.var [.ro false 6 x0.people.length (rowOf (cPerson false) x0.people),.ro false 4 x0.unions.length (rowOf (cUnion false) x0.unions),.int .i64 x1,.int .i64 x2,.own 40704,.own 29,.own 30706])]⟩ (.co false 29 ((List.replicate x0.people.length (default:Int)).length) (rowOf (cInt .i64) (List.replicate x0.people.length (default:Int))) [lnP (rowOf (cInt .i64) (List.replicate x0.people.length (default:Int))) x0.people.length ((List.replicate x0.people.length (default:Int)).length)] [] 0 (.co false 30706 v1.length (rowOf (cInt .i64) v1) [lnP (rowOf (cInt .i64) v1) x0.people.length v1.length] [] 0 (.reg 1 [] [(0,k46 46 [7,40704,29,30706] (estate.mk x0 x1 x2 ([]:List Bool) (List.replicate x0.people.length (default:Int)) v1))] [1,3,6,7] [3,7,1046,2046,3046] [] [] [] [0] (.next 0 [(30704,some 1046),(30705,some 2046),(40706,some 3046)] (D18j1 x0 x1 x2 i1 v1 ((takePart (estate.mk x0 x1 x2 ([]:List Bool) (List.replicate x0.people.length (default:Int)) v1)).1,(takePart (estate.mk x0 x1 x2 ([]:List Bool) (List.replicate x0.people.length (default:Int)) v1)).2.1,(takePart (estate.mk x0 x1 x2 ([]:List Bool) (List.replicate x0.people.length (default:Int)) v1)).2.2))))))) (A18j1 x0 x1 x2 i1 v1)))
def A18 (x0:Family) (x1:Int) (x2:Int):Ann:=r0 1 [1,2,3,6] [3] (.reg 1 [] [(2,bsC 20 (cInt .i64) ([x1]:List Int)),(3,k39 x0 [x1])] [1,2,3,6,22] [3] [] [] [] [0,4] (cn (!(implHas x0 [x1])) (r0 1 [1,2,3,6] [3] (rt [(0,none)] (C18 ([]:List Share)))) (.reg 1 [] [(6,msC 29 (cInt .i64) 8 ((x0.people.length:Nat):Int) ((x0.people.length:Nat):Int) x0.people.length (default:Int) (rfl)),(10,msC 33 (cInt .i64) 8 ((x0.people.length:Nat):Int) ((x0.people.length:Nat):Int) x0.people.length (default:Int) (rfl))] [1,3,6,7] [3,7,29,33] [] [] [] [0,4] (r0 1 [1,3,6,7,37,38] [3,7,29,33] (lp (D18b1 x0 x1 x2) [] [33] [(30706,some 33)] (D18b1 x0 x1 x2 0 (List.replicate x0.people.length (default:Int))) (A18b1 x0 x1 x2))))))
theorem ok_impl_SharesOf (x0 : Family) (x1 : Int) (x2 : Int) (hx : x0.people.length ≤ 1048576) (hu : x0.unions.length ≤ 1048576) (hn : ∀ p ∈ x0.people, p.name.length ≤ 1048576) : FnT Try.prog 18 [.agg (cFamily false x0), .int .i64 x1, .int .i64 x2] (C18 (implShares x0 x1 x2)) := by
  have aux : ∀ R, implShares x0 x1 x2 = R → slim (C18 R) (A18 x0 x1 x2) [] := by
    intro R hR
    refine rg trivial ?_
    refine rg ⟨trivial,⟨by with_reducible assumption,by with_reducible assumption,by with_reducible assumption,by (simp only [List.length_singleton];omega)⟩,trivial⟩ ?_
    revert hR;refine cd (fun hc1 hR=>?_) fun hc1 hR=>?_
    ·
      refine rg trivial ?_
      exact congrArg C18 hR
    ·
      refine rg ⟨by (intros;omega),by (intros;omega),trivial⟩ ?_
      refine rg trivial ?_
      revert hR;refine lN (fun i v=>v.length=x0.people.length∧∀ k:Nat,k<i→v.getD k default=1) (by (exact ⟨by simp,fun k hk=>absurd hk (Nat.not_lt_zero _)⟩)) rfl fun i1 v1 F1 hn1 hI1 hR hK1=>?_
      refine rg trivial ?_
      refine ⟨fun hc2=>?_,fun hc2=>?_⟩
      · have hii1 : i1 < x0.people.length := by have := of_decide_eq_true hc2; omega
        replace hR:=loopN_step hR hii1
        refine rg trivial ?_
        refine rg ⟨by (intros;omega),by (intros;omega),trivial⟩ ?_
        refine rg ⟨by (have h9:=(implHas1 x0 x1).1 (by simpa using hc1);have h8:=fam_n h9.1;(try simp only [inR]);omega),trivial⟩ ?_
        exact hK1 (v1.set i1 1) hii1 (by (with_reducible exact ones_step hI1 hii1)) hR
      · obtain rfl : i1 = x0.people.length := by have := of_decide_eq_false hc2; omega
        replace hR:=loopN_end hR (Nat.lt_irrefl _)
        revert hR;refine jN (fun v=>ShJ x0 x1 x2 v.1 v.2.1 v.2.2) (fun F101 hR hJ101=>?_) (fun j1 hR hJ1=>?_)
        ·
          refine ft ?_
          refine og (by (simp;done)) ?_
          refine og (by (intros;omega)) ?_
          refine rg ⟨by (have h9:=(implHas1 x0 x1).1 (by simpa using hc1);with_reducible exact h9.1),trivial⟩ ?_
          exact hJ101 ((takePart (estate.mk x0 x1 x2 ([]:List Bool) (List.replicate x0.people.length (default:Int)) v1)).1,(takePart (estate.mk x0 x1 x2 ([]:List Bool) (List.replicate x0.people.length (default:Int)) v1)).2.1,(takePart (estate.mk x0 x1 x2 ([]:List Bool) (List.replicate x0.people.length (default:Int)) v1)).2.2) hR (by (have h9:=(implHas1 x0 x1).1 (by simpa using hc1);dsimp only;with_reducible exact ShJ.start h9.1 x1 x2 hI1 rfl))
        ·
          revert hR;refine jN (fun v=>ShJ x0 x1 x2 v.2.1 v.2.2.1 v.2.2.2∧v.1=kidsT x0 v.2.1 x1) (fun F102 hR hJ102=>?_) (fun j2 hR hJ2=>?_)
          ·
            refine rg ⟨by (have h9:=(implHas1 x0 x1).1 (by simpa using hc1);have h8:=fam_n h9.1;omega),⟨by (have h9:=(implHas1 x0 x1).1 (by simpa using hc1);have h8:=ShJ.lens hJ1;have h7:=(fam_n h9.1).1;dsimp only;omega),by (have h9:=(implHas1 x0 x1).1 (by simpa using hc1);have h8:=implKids_ok x0 x1 (fam_n h9.1).1;have h7:=(fam_n h9.1).1;omega),by (have h9:=(implHas1 x0 x1).1 (by simpa using hc1);have h8:=(implKids_ok x0 x1 (fam_n h9.1).1).1;have h7:=ShJ.lens hJ1;dsimp only;rw [h7.1];with_reducible exact h8)⟩,trivial⟩ ?_
            exact hJ102 ((taking (estate.mk x0 x1 x2 j1.1 j1.2.1 j1.2.2) (implKids x0 x1)).1,(taking (estate.mk x0 x1 x2 j1.1 j1.2.1 j1.2.2) (implKids x0 x1)).2.1,(taking (estate.mk x0 x1 x2 j1.1 j1.2.1 j1.2.2) (implKids x0 x1)).2.2.1,(taking (estate.mk x0 x1 x2 j1.1 j1.2.1 j1.2.2) (implKids x0 x1)).2.2.2) hR (by (have h9:=(implHas1 x0 x1).1 (by simpa using hc1);dsimp only;with_reducible exact ShJ.kids h9.1 hJ1))
          ·
            refine rg ⟨trivial,trivial⟩ ?_
            revert hR;refine lW (fun v=>ShI x0 x1 x2 v.1 v.2.1 v.2.2.1 v.2.2.2.1 v.2.2.2.2) (fun v=>gmu v.2.1) (by (have h9:=(implHas1 x0 x1).1 (by simpa using hc1);dsimp only;with_reducible exact ShI.start h9.1 h9.2 hJ2.1 hJ2.2)) (Nat.lt_succ_self _) rfl fun m2 v2 F2 hI2 hM2 hR hK2=>?_
            refine rg trivial ?_
            revert hR;refine cd (fun hc3 hR=>?_) fun hc3 hR=>?_
            ·
              refine rg trivial ?_
              refine rg trivial ?_
              revert hR;refine lN (fun i v=>NextI x0 v2.2.1 i v) (by (with_reducible exact NextI.nil _ _)) rfl fun i3 v3 F3 hn3 hI3 hR hK3=>?_
              refine rg trivial ?_
              refine ⟨fun hc4=>?_,fun hc4=>?_⟩
              · have hii3 : i3 < x0.people.length := by have := of_decide_eq_true hc4; omega
                replace hR:=loopN_step hR hii3
                refine rg trivial ?_
                revert hR;refine lN (fun i v=>True) (by exact True.intro) rfl fun i4 v4 F4 hn4 hI4 hR hK4=>?_
                refine rg trivial ?_
                refine ⟨fun hc5=>?_,fun hc5=>?_⟩
                · have hii4 : i4 < v2.2.1.length := by have := of_decide_eq_true hc5; omega
                  replace hR:=loopN_step hR hii4
                  refine rg ⟨by (intros;omega),by (exact ShI.gr hI2 _ (getD_mem hii4)),trivial⟩ ?_
                  revert hR;refine cd (fun hc6 hR=>?_) fun hc6 hR=>?_
                  ·
                    refine rg ⟨trivial,by (have h9:=(implHas1 x0 x1).1 (by simpa using hc1);have h8:=hI3.2.2;have h7:=(fam_n h9.1).1;omega),trivial⟩ ?_
                    refine rg ⟨by (have h9:=(implHas1 x0 x1).1 (by simpa using hc1);have h8:=fam_n h9.1;(try simp only [inR]);omega),trivial⟩ ?_
                    exact hK3 (v3++[((i3:Nat):Int)]) hii3 (by (with_reducible exact NextI.snoc hI3 hii4 (by assumption))) hR
                  ·
                    refine rg ⟨by (have h9:=(implHas1 x0 x1).1 (by simpa using hc1);have h8:=Nat.lt_of_lt_of_le hii4 (ShI.gl hI2);simp only [inR];omega),trivial⟩ ?_
                    exact hK4 () hii4 (by exact True.intro) hR
                · obtain rfl : i4 = v2.2.1.length := by have := of_decide_eq_false hc5; omega
                  replace hR:=loopN_end hR (Nat.lt_irrefl _)
                  refine rg ⟨by (have h9:=(implHas1 x0 x1).1 (by simpa using hc1);have h8:=fam_n h9.1;(try simp only [inR]);omega),trivial⟩ ?_
                  exact hK3 v3 hii3 (by (with_reducible exact NextI.skip hI3)) hR
              · obtain rfl : i3 = x0.people.length := by have := of_decide_eq_false hc4; omega
                replace hR:=loopN_end hR (Nat.lt_irrefl _)
                refine rg trivial ?_
                refine rg ⟨⟨by (have h9:=(implHas1 x0 x1).1 (by simpa using hc1);have h8:=ShJ.lens hI2.1;have h7:=(fam_n h9.1).1;(try simp only [inR]);omega),by (have h9:=(implHas1 x0 x1).1 (by simpa using hc1);have h8:=hI3.2.2;have h7:=(fam_n h9.1).1;omega),by (have h9:=(implHas1 x0 x1).1 (by simpa using hc1);have h8:=ShJ.lens hI2.1;dsimp only;rw [h8.1];exact fun c hc=>(hI3.2.1 c hc).1)⟩,trivial⟩ ?_
                exact hK2 ((taking (estate.mk x0 x1 x2 v2.2.2.1 v2.2.2.2.1 v2.2.2.2.2) v3).1,v3,(taking (estate.mk x0 x1 x2 v2.2.2.1 v2.2.2.2.1 v2.2.2.2.2) v3).2.1,(taking (estate.mk x0 x1 x2 v2.2.2.1 v2.2.2.2.1 v2.2.2.2.2) v3).2.2.1,(taking (estate.mk x0 x1 x2 v2.2.2.1 v2.2.2.2.1 v2.2.2.2.2) v3).2.2.2) (by (have h9:=(implHas1 x0 x1).1 (by simpa using hc1);dsimp only;with_reducible exact ShI.next h9.1 hI2 (who_nil (by assumption)) hI3)) (by (have h9:=(implHas1 x0 x1).1 (by simpa using hc1);have h8:=NextI.dec h9.1 (ShI.gr hI2) (gen_pos (by assumption)) hI3;dsimp only;omega)) hR
            ·
              refine rg trivial ?_
              revert hR;refine cd (fun hc7 hR=>?_) fun hc7 hR=>?_
              ·
                refine rg ⟨by (have h9:=(implHas1 x0 x1).1 (by simpa using hc1);with_reducible exact ShI.div h9.1 hI2 (who_pos (by assumption))),trivial⟩ ?_
                refine rg trivial ?_
                refine rg trivial ?_
                revert hR;refine lN (fun i v=>v.length≤i) (by (exact Nat.le_refl _)) rfl fun i5 v5 F5 hn5 hI5 hR hK5=>?_
                refine rg trivial ?_
                refine ⟨fun hc8=>?_,fun hc8=>?_⟩
                · have hii5 : i5 < ((divide (estate.mk x0 x1 x2 v2.2.2.1 v2.2.2.2.1 v2.2.2.2.2) v2.1 1 1).2.1).length := by have := of_decide_eq_true hc8; omega
                  replace hR:=loopN_step hR hii5
                  refine rg ⟨by (intros;omega),trivial⟩ ?_
                  revert hR;refine cd (fun hc9 hR=>?_) fun hc9 hR=>?_
                  ·
                    refine rg ⟨by (have h9:=(implHas1 x0 x1).1 (by simpa using hc1);have h8:=div_lens (ShI.div h9.1 hI2 (who_pos (by assumption)));dsimp only at h8;have h7:=(fam_n h9.1).1;(try simp only [inR]);omega),trivial,by (have h9:=(implHas1 x0 x1).1 (by simpa using hc1);have h8:=div_lens (ShI.div h9.1 hI2 (who_pos (by assumption)));dsimp only at h8;have h7:=(fam_n h9.1).1;(try simp only [inR]);omega),trivial⟩ ?_
                    refine rg ⟨by (have h9:=(implHas1 x0 x1).1 (by simpa using hc1);have h8:=div_lens (ShI.div h9.1 hI2 (who_pos (by assumption)));dsimp only at h8;have h7:=(fam_n h9.1).1;(try simp only [inR]);omega),trivial⟩ ?_
                    exact hK5 (v5++[(Share.mk ((i5:Nat):Int) (((divide (estate.mk x0 x1 x2 v2.2.2.1 v2.2.2.2.1 v2.2.2.2.2) v2.1 1 1).2.1).getD i5 default) (((divide (estate.mk x0 x1 x2 v2.2.2.1 v2.2.2.2.1 v2.2.2.2.2) v2.1 1 1).2.2).getD i5 default))]) hii5 (by (simp only [List.length_append,List.length_singleton,List.length_replicate];omega)) hR
                  ·
                    refine rg ⟨by (have h9:=(implHas1 x0 x1).1 (by simpa using hc1);have h8:=div_lens (ShI.div h9.1 hI2 (who_pos (by assumption)));dsimp only at h8;have h7:=(fam_n h9.1).1;(try simp only [inR]);omega),trivial⟩ ?_
                    exact hK5 v5 hii5 (by (intros;omega)) hR
                · obtain rfl : i5 = ((divide (estate.mk x0 x1 x2 v2.2.2.1 v2.2.2.2.1 v2.2.2.2.2) v2.1 1 1).2.1).length := by have := of_decide_eq_false hc8; omega
                  replace hR:=loopN_end hR (Nat.lt_irrefl _)
                  refine rg trivial ?_
                  exact congrArg C18 hR
              ·
                refine rg trivial ?_
                refine rg trivial ?_
                revert hR;refine lN (fun i v=>v.length≤i) (by (exact Nat.le_refl _)) rfl fun i6 v6 F6 hn6 hI6 hR hK6=>?_
                refine rg trivial ?_
                refine ⟨fun hc10=>?_,fun hc10=>?_⟩
                · have hii6 : i6 < v2.2.2.2.1.length := by have := of_decide_eq_true hc10; omega
                  replace hR:=loopN_step hR hii6
                  refine rg ⟨by (intros;omega),trivial⟩ ?_
                  revert hR;refine cd (fun hc11 hR=>?_) fun hc11 hR=>?_
                  ·
                    refine rg ⟨by (have h9:=(implHas1 x0 x1).1 (by simpa using hc1);have h8:=ShJ.lens hI2.1;have h7:=(fam_n h9.1).1;(try simp only [inR]);omega),trivial,by (have h9:=(implHas1 x0 x1).1 (by simpa using hc1);have h8:=ShJ.lens hI2.1;have h7:=(fam_n h9.1).1;(try simp only [inR]);omega),trivial⟩ ?_
                    refine rg ⟨by (have h9:=(implHas1 x0 x1).1 (by simpa using hc1);have h8:=ShJ.lens hI2.1;have h7:=(fam_n h9.1).1;(try simp only [inR]);omega),trivial⟩ ?_
                    exact hK6 (v6++[(Share.mk ((i6:Nat):Int) (v2.2.2.2.1.getD i6 default) (v2.2.2.2.2.getD i6 default))]) hii6 (by (simp only [List.length_append,List.length_singleton,List.length_replicate];omega)) hR
                  ·
                    refine rg ⟨by (have h9:=(implHas1 x0 x1).1 (by simpa using hc1);have h8:=ShJ.lens hI2.1;have h7:=(fam_n h9.1).1;(try simp only [inR]);omega),trivial⟩ ?_
                    exact hK6 v6 hii6 (by (intros;omega)) hR
                · obtain rfl : i6 = v2.2.2.2.1.length := by have := of_decide_eq_false hc10; omega
                  replace hR:=loopN_end hR (Nat.lt_irrefl _)
                  refine rg trivial ?_
                  exact congrArg C18 hR
  exact Fn.go 114 Try.func18 (by kernel_rfl) (by kernel_rfl) (by simp [C18,Frs,FrsL,FrsB,rowOf,cInt,cBool,cStr,cSl,FrsL_app,cPerson,cUnion,cFamily,cDyad,cl01Cur,cCustom,cestate,cShare]) (A18 x0 x1 x2) (by kernel_rfl) (aux _ rfl)
def k18 (x0:Family) (x1:Int) (x2:Int):Cl:=(hres (C18 (implShares x0 x1 x2)),k3 (ok_impl_SharesOf x0 x1 x2))
end Go.Proofs.Ytikfeeaapenplab
