import Derived.Test.YtlinnkjieghmhaaGreatDoorM47
set_option maxHeartbeats 4000000
set_option linter.unusedSimpArgs false
set_option linter.unusedVariables false
namespace Go.Proofs.YtlinnkjieghmhaaGreatDoor
open Go Go.Lite Go.Proofs
open _root_.Max renaming max→Yl
open _root_.List renaming length_cons→yv, length_nil→yx
open _root_.Nat renaming lt_irrefl→yM
open _root_.Inhabited renaming default→w9
def z2i (x0:yc) (x1:Int):Cl:=(hres (C35 (zb4 x0 x1)),k2 (P:=FnT Tryz.prog 35 ([.agg (zcf false x0),.int .i64 x1].modify 0 (nzA 1)) (C35 (zb4 x0 x1))) fun h0 h1=>(FnT.nz (zl0 x0 x1 h0 h1) 0 1))
def C13 (x0:ye) (x1:Int) (R:yc×Int×Int):LV×List (Nat×BC):=(.agg [.own 0,.own 1],[(900000,.var [.ro false 1 x0.b.length (rowOf (cInt .u8) x0.b),.int .i64 R.2.1,.int .i64 R.2.2]),(0,.arr 6 R.1.people.length (rowOf (zbg true) R.1.people)),(1,.arr 4 R.1.unions.length (rowOf (zbi true) R.1.unions))])
def zhl (x0:ye) (x1:Int):yc×Int×Int:=jn (fun K1=>K1 ((zb5 x0 [1,7,20,25]).1,(zb5 x0 [1,7,20,25]).2.1,(zb5 x0 [1,7,20,25]).2.2)) (fun (j1:Int×Int×Int)=>jn (fun K2=>K2 ((zb5 (ye.mk x0.b j1.2.1 j1.2.2) [3,5,9]).1,(zb5 (ye.mk x0.b j1.2.1 j1.2.2) [3,5,9]).2.1,(zb5 (ye.mk x0.b j1.2.1 j1.2.2) [3,5,9]).2.2)) (fun (j2:Int×Int×Int)=>jn (fun K3=>jn (fun K4=>K4 ((zbf (ye.mk x0.b j2.2.1 j2.2.2) (x1+1)).1,(zbf (ye.mk x0.b j2.2.1 j2.2.2) (x1+1)).2.1,(zbf (ye.mk x0.b j2.2.1 j2.2.2) (x1+1)).2.2)) (fun (j4:Int×Int×Int)=>loopW (fun (v1:Int×(List ya)×(List ya)×(List yb)×Int×Int) nx1=>bif (decide (0<v1.1)) then (jn (fun K5=>jn (fun K6=>K6 (!((zce (ye.mk x0.b ((zbf (ye.mk x0.b v1.2.2.2.2.1 v1.2.2.2.2.2) 2).2.1) ((zbf (ye.mk x0.b v1.2.2.2.2.1 v1.2.2.2.2.2) 2).2.2)) j2.1).1),(zce (ye.mk x0.b ((zbf (ye.mk x0.b v1.2.2.2.2.1 v1.2.2.2.2.2) 2).2.1) ((zbf (ye.mk x0.b v1.2.2.2.2.1 v1.2.2.2.2.2) 2).2.2)) j2.1).2.1,(zce (ye.mk x0.b ((zbf (ye.mk x0.b v1.2.2.2.2.1 v1.2.2.2.2.2) 2).2.1) ((zbf (ye.mk x0.b v1.2.2.2.2.1 v1.2.2.2.2.2) 2).2.2)) j2.1).2.2)) (fun (j6:Bool×Int×Int)=>bif j6.1 then (K5 ((zcq (ye.mk x0.b j6.2.1 j6.2.2) (yc.mk v1.2.2.1 v1.2.2.2.1) (zbj (yc.mk v1.2.2.1 v1.2.2.2.1)) 1).2.1,(zcq (ye.mk x0.b j6.2.1 j6.2.2) (yc.mk v1.2.2.1 v1.2.2.2.1) (zbj (yc.mk v1.2.2.1 v1.2.2.2.1)) 1).2.2,(zcq (ye.mk x0.b j6.2.1 j6.2.2) (yc.mk v1.2.2.1 v1.2.2.2.1) (zbj (yc.mk v1.2.2.1 v1.2.2.2.1)) 1).1)) else (K5 (j6.2.1,j6.2.2,(-1))))) (fun (j5:Int×Int×Int)=>jn (fun K7=>jn (fun K8=>K8 (!((zce (ye.mk x0.b j5.1 j5.2.1) j2.1).1),(zce (ye.mk x0.b j5.1 j5.2.1) j2.1).2.1,(zce (ye.mk x0.b j5.1 j5.2.1) j2.1).2.2)) (fun (j8:Bool×Int×Int)=>bif j8.1 then (K7 ((zcq (ye.mk x0.b j8.2.1 j8.2.2) (yc.mk v1.2.2.1 v1.2.2.2.1) (zbj (yc.mk v1.2.2.1 v1.2.2.2.1)) 2).2.1,(zcq (ye.mk x0.b j8.2.1 j8.2.2) (yc.mk v1.2.2.1 v1.2.2.2.1) (zbj (yc.mk v1.2.2.1 v1.2.2.2.1)) 2).2.2,(zcq (ye.mk x0.b j8.2.1 j8.2.2) (yc.mk v1.2.2.1 v1.2.2.2.1) (zbj (yc.mk v1.2.2.1 v1.2.2.2.1)) 2).1)) else (K7 (j8.2.1,j8.2.2,(-1))))) (fun (j7:Int×Int×Int)=>jn (fun K9=>K9 ((zbf (ye.mk x0.b j7.1 j7.2.1) 12).2.1,(zbf (ye.mk x0.b j7.1 j7.2.1) 12).2.2,(zbf (ye.mk x0.b j7.1 j7.2.1) 12).1)) (fun (j9:Int×Int×Int)=>loopN (fun i2 (v2:Int×Int×Int) next=>next (Yl v2.1 ((((v1.2.2.1.getD (((zb4 (yc.mk [(ya.mk (zcb ((v1.2.2.1.length:Nat):Int)) (1+((zbf (ye.mk x0.b v1.2.2.2.2.1 v1.2.2.2.2.2) 2).1)) j5.2.2 j7.2.2 j9.2.2 (-1))] ([]:List yb)) 0).getD i2 w9).toNat) w9).born)+j1.1)+((zbf (ye.mk x0.b v2.2.1 v2.2.2) 6).1)),(zbf (ye.mk x0.b v2.2.1 v2.2.2) 6).2.1,(zbf (ye.mk x0.b v2.2.1 v2.2.2) 6).2.2)) (fun (v2:Int×Int×Int)=>nx1 (v1.1 - 1,v1.2.1,(v1.2.2.1++[(ya.mk (zcb ((v1.2.2.1.length:Nat):Int)) (1+((zbf (ye.mk x0.b v1.2.2.2.2.1 v1.2.2.2.2.2) 2).1)) j5.2.2 j7.2.2 v2.1 (-1))]),v1.2.2.2.1,v2.2.1,v2.2.2)) ((zb4 (yc.mk [(ya.mk (zcb ((v1.2.2.1.length:Nat):Int)) (1+((zbf (ye.mk x0.b v1.2.2.2.2.1 v1.2.2.2.2.2) 2).1)) j5.2.2 j7.2.2 j9.2.2 (-1))] ([]:List yb)) 0).length) 0 (j9.2.2,j9.1,j9.2.1))))) else (K3 (v1.2.2.2.2.1,v1.2.2.2.2.2,v1.2.1,v1.2.2.1,v1.2.2.2.1))) (Int.toNat (j4.1)+1) (j4.1,([]:List ya),([]:List ya),([]:List yb),j4.2.1,j4.2.2))) (fun (j3:Int×Int×(List ya)×(List ya)×(List yb))=>loopN (fun i3 (v3:(List ya)×Int×Int) nx3=>jn (fun K10=>K10 ((zce (ye.mk x0.b v3.2.1 v3.2.2) 3).1,(zce (ye.mk x0.b v3.2.1 v3.2.2) 3).2.1,(zce (ye.mk x0.b v3.2.1 v3.2.2) 3).2.2)) (fun (j10:Bool×Int×Int)=>bif j10.1 then (loopN (fun i4 (v4:Int) next=>next (Yl v4 ((v3.1.getD (((zch (yc.mk v3.1 j3.2.2.2.2) ((i3:Nat):Int)).getD i4 w9).toNat) w9).born))) (fun (v4:Int)=>nx3 ((v3.1.set i3 (ya.mk ((v3.1.getD i3 w9).name) ((v3.1.getD i3 w9).sex) ((v3.1.getD i3 w9).father) ((v3.1.getD i3 w9).mother) ((v3.1.getD i3 w9).born) (v4+((zb5 (ye.mk x0.b j10.2.1 j10.2.2) [0,1,5,30,60]).1)))),(zb5 (ye.mk x0.b j10.2.1 j10.2.2) [0,1,5,30,60]).2.1,(zb5 (ye.mk x0.b j10.2.1 j10.2.2) [0,1,5,30,60]).2.2)) ((zch (yc.mk v3.1 j3.2.2.2.2) ((i3:Nat):Int)).length) 0 ((v3.1.getD i3 w9).born)) else (nx3 (v3.1,j10.2.1,j10.2.2)))) (fun (v3:(List ya)×Int×Int)=>jn (fun K11=>K11 (((l1Wed (ye.mk x0.b v3.2.1 v3.2.2) (yc.mk v3.1 j3.2.2.2.2)).1).people,((l1Wed (ye.mk x0.b v3.2.1 v3.2.2) (yc.mk v3.1 j3.2.2.2.2)).1).unions,(l1Wed (ye.mk x0.b v3.2.1 v3.2.2) (yc.mk v3.1 j3.2.2.2.2)).2.1,(l1Wed (ye.mk x0.b v3.2.1 v3.2.2) (yc.mk v3.1 j3.2.2.2.2)).2.2)) (fun (j11:(List ya)×(List yb)×Int×Int)=>((yc.mk j11.1 j11.2.1),j11.2.2.1,j11.2.2.2))) j3.2.2.2.1.length 0 (j3.2.2.2.1,j3.1,j3.2.1))))
def D13j1 (x0:ye) (x1:Int) (j1:Int×Int×Int):Dl:=⟨[(6,.int .i64 j1.1)],[(900000,.var [.ro false 1 x0.b.length (rowOf (cInt .u8) x0.b),.int .i64 j1.2.1,.int .i64 j1.2.2])]⟩
def D13j2 (x0:ye) (x1:Int) (j1:Int×Int×Int) (j2:Int×Int×Int):Dl:=⟨[(7,.int .i64 j2.1)],[(900000,.var [.ro false 1 x0.b.length (rowOf (cInt .u8) x0.b),.int .i64 j2.2.1,.int .i64 j2.2.2])]⟩
def D13j3 (x0:ye) (x1:Int) (j1:Int×Int×Int) (j2:Int×Int×Int) (j3:Int×Int×(List ya)×(List ya)×(List yb)):Dl:=⟨[],[(30400,.arr 6 j3.2.2.1.length (rowOf (zbg true) j3.2.2.1)),(30500,.arr 6 j3.2.2.2.1.length (rowOf (zbg true) j3.2.2.2.1)),(30501,.arr 4 j3.2.2.2.2.length (rowOf (zbi true) j3.2.2.2.2)),(900000,.var [.ro false 1 x0.b.length (rowOf (cInt .u8) x0.b),.int .i64 j3.1,.int .i64 j3.2.1]),(4,.var [.own 30400,.nilS]),(5,.var [.own 30500,.own 30501])]⟩
def D13j4 (x0:ye) (x1:Int) (j1:Int×Int×Int) (j2:Int×Int×Int) (j4:Int×Int×Int):Dl:=⟨[(8,.int .i64 j4.1)],[(900000,.var [.ro false 1 x0.b.length (rowOf (cInt .u8) x0.b),.int .i64 j4.2.1,.int .i64 j4.2.2])]⟩
def D13b1 (x0:ye) (x1:Int) (j1:Int×Int×Int) (j2:Int×Int×Int) (j4:Int×Int×Int) (v1:Int×(List ya)×(List ya)×(List yb)×Int×Int):Dl:=⟨[(8,.int .i64 v1.1)],[(30400,.arr 6 v1.2.1.length (rowOf (zbg true) v1.2.1)),(30500,.arr 6 v1.2.2.1.length (rowOf (zbg true) v1.2.2.1)),(30501,.arr 4 v1.2.2.2.1.length (rowOf (zbi true) v1.2.2.2.1)),(4,.var [.own 30400,.nilS]),(5,.var [.own 30500,.own 30501]),(900000,.var [.ro false 1 x0.b.length (rowOf (cInt .u8) x0.b),.int .i64 v1.2.2.2.2.1,.int .i64 v1.2.2.2.2.2])]⟩
def D13j5 (x0:ye) (x1:Int) (j1:Int×Int×Int) (j2:Int×Int×Int) (j4:Int×Int×Int) (v1:Int×(List ya)×(List ya)×(List yb)×Int×Int) (j5:Int×Int×Int):Dl:=⟨[],[(900000,.var [.ro false 1 x0.b.length (rowOf (cInt .u8) x0.b),.int .i64 j5.1,.int .i64 j5.2.1]),(10,.var [.str (zcb ((v1.2.2.1.length:Nat):Int)),.int .i64 (1+((zbf (ye.mk x0.b v1.2.2.2.2.1 v1.2.2.2.2.2) 2).1)),.int .i64 j5.2.2,.int .i64 (-1),.int .i64 0,.int .i64 (-1)])]⟩
def D13j6 (x0:ye) (x1:Int) (j1:Int×Int×Int) (j2:Int×Int×Int) (j4:Int×Int×Int) (v1:Int×(List ya)×(List ya)×(List yb)×Int×Int) (j6:Bool×Int×Int):Dl:=⟨[(45,.bool j6.1)],[(900000,.var [.ro false 1 x0.b.length (rowOf (cInt .u8) x0.b),.int .i64 j6.2.1,.int .i64 j6.2.2])]⟩
def A13j6 (x0:ye) (x1:Int) (j1:Int×Int×Int) (j2:Int×Int×Int) (j4:Int×Int×Int) (v1:Int×(List ya)×(List ya)×(List yb)×Int×Int) (j6:Bool×Int×Int):Ann:=let q2:=yc.mk v1.2.2.1 v1.2.2.2.1;let q1:=zcq (ye.mk x0.b j6.2.1 j6.2.2) q2 (zbj q2) 1;cn j6.1 (.reg 1 [] [(3,k34 49 [900000,30500,30501,1033] (ye.mk x0.b j6.2.1 j6.2.2) q2 (zbj q2) 1)] [0,4,5,6,7,8,9,10] [4,5,10,1033,30400,30500,30501,900000] [] [] [] [0] (.next 0 [] (D13j5 x0 x1 j1 j2 j4 v1 (q1.2.1,q1.2.2,q1.1)))) (.next 0 [] (D13j5 x0 x1 j1 j2 j4 v1 (j6.2.1,j6.2.2,(-1))))
def D13j7 (x0:ye) (x1:Int) (j1:Int×Int×Int) (j2:Int×Int×Int) (j4:Int×Int×Int) (v1:Int×(List ya)×(List ya)×(List yb)×Int×Int) (j5:Int×Int×Int) (j7:Int×Int×Int):Dl:=⟨[],[(900000,.var [.ro false 1 x0.b.length (rowOf (cInt .u8) x0.b),.int .i64 j7.1,.int .i64 j7.2.1]),(10,.var [.str (zcb ((v1.2.2.1.length:Nat):Int)),.int .i64 (1+((zbf (ye.mk x0.b v1.2.2.2.2.1 v1.2.2.2.2.2) 2).1)),.int .i64 j5.2.2,.int .i64 j7.2.2,.int .i64 0,.int .i64 (-1)])]⟩
def D13j8 (x0:ye) (x1:Int) (j1:Int×Int×Int) (j2:Int×Int×Int) (j4:Int×Int×Int) (v1:Int×(List ya)×(List ya)×(List yb)×Int×Int) (j5:Int×Int×Int) (j8:Bool×Int×Int):Dl:=⟨[(54,.bool j8.1)],[(900000,.var [.ro false 1 x0.b.length (rowOf (cInt .u8) x0.b),.int .i64 j8.2.1,.int .i64 j8.2.2])]⟩
def A13j8 (x0:ye) (x1:Int) (j1:Int×Int×Int) (j2:Int×Int×Int) (j4:Int×Int×Int) (v1:Int×(List ya)×(List ya)×(List yb)×Int×Int) (j5:Int×Int×Int) (j8:Bool×Int×Int):Ann:=let q2:=yc.mk v1.2.2.1 v1.2.2.2.1;let q1:=zcq (ye.mk x0.b j8.2.1 j8.2.2) q2 (zbj q2) 2;cn j8.1 (.reg 1 [] [(3,k34 58 [900000,30500,30501,1033] (ye.mk x0.b j8.2.1 j8.2.2) q2 (zbj q2) 2)] [0,4,5,6,7,8,10] [4,5,10,30400,30500,30501,900000] [] [] [] [0] (.next 0 [] (D13j7 x0 x1 j1 j2 j4 v1 j5 (q1.2.1,q1.2.2,q1.1)))) (.next 0 [] (D13j7 x0 x1 j1 j2 j4 v1 j5 (j8.2.1,j8.2.2,(-1))))
def D13j9 (x0:ye) (x1:Int) (j1:Int×Int×Int) (j2:Int×Int×Int) (j4:Int×Int×Int) (v1:Int×(List ya)×(List ya)×(List yb)×Int×Int) (j5:Int×Int×Int) (j7:Int×Int×Int) (j9:Int×Int×Int):Dl:=⟨[],[(900000,.var [.ro false 1 x0.b.length (rowOf (cInt .u8) x0.b),.int .i64 j9.1,.int .i64 j9.2.1]),(10,.var [.str (zcb ((v1.2.2.1.length:Nat):Int)),.int .i64 (1+((zbf (ye.mk x0.b v1.2.2.2.2.1 v1.2.2.2.2.2) 2).1)),.int .i64 j5.2.2,.int .i64 j7.2.2,.int .i64 j9.2.2,.int .i64 (-1)])]⟩
def D13b2 (x0:ye) (x1:Int) (j1:Int×Int×Int) (j2:Int×Int×Int) (j4:Int×Int×Int) (v1:Int×(List ya)×(List ya)×(List yb)×Int×Int) (j5:Int×Int×Int) (j7:Int×Int×Int) (j9:Int×Int×Int) (i2:Nat) (v2:Int×Int×Int):Dl:=⟨[(68,.int .i64 ((i2:Nat):Int))],[(10,.var [.str (zcb ((v1.2.2.1.length:Nat):Int)),.int .i64 (1+((zbf (ye.mk x0.b v1.2.2.2.2.1 v1.2.2.2.2.2) 2).1)),.int .i64 j5.2.2,.int .i64 j7.2.2,.int .i64 v2.1,.int .i64 (-1)]),(900000,.var [.ro false 1 x0.b.length (rowOf (cInt .u8) x0.b),.int .i64 v2.2.1,.int .i64 v2.2.2])]⟩
def A13b2 (x0:ye) (x1:Int) (j1:Int×Int×Int) (j2:Int×Int×Int) (j4:Int×Int×Int) (v1:Int×(List ya)×(List ya)×(List yb)×Int×Int) (j5:Int×Int×Int) (j7:Int×Int×Int) (j9:Int×Int×Int) (i2:Nat) (v2:Int×Int×Int):Ann:=let q5:=((i2:Nat):Int);let q4:=zbf (ye.mk x0.b v2.2.1 v2.2.2) 6;let q2:=(ya.mk (zcb ((v1.2.2.1.length:Nat):Int)) (1+((zbf (ye.mk x0.b v1.2.2.2.2.1 v1.2.2.2.2.2) 2).1)) j5.2.2 j7.2.2 v2.1 (-1));let q1:=(zb4 (yc.mk [(ya.mk (zcb ((v1.2.2.1.length:Nat):Int)) (1+((zbf (ye.mk x0.b v1.2.2.2.2.1 v1.2.2.2.2.2) 2).1)) j5.2.2 j7.2.2 j9.2.2 (-1))] ([]:List yb)) 0);let q7:=((q1.length:Nat):Int);let q6:=((q1.getD i2 w9):Int);let q3:=((v1.2.2.1.getD ((q1.getD i2 w9).toNat) w9).born)+j1.1;r0 1 [0,4,5,6,7,8,10,66,67,68,69] [4,5,10,1066,30400,30500,30501,900000] (cn (decide (q5<q7)) (r1 1 [0,4,5,6,7,8,10,12,66,67,68] [4,5,10,1066,30400,30500,30501,900000] [pf (0≤(q5:Int)∧(q5:Int)<q7)] [0] (.reg 1 [] [(11,k30 83 [900000] (ye.mk x0.b v2.2.1 v2.2.2) 6)] [0,4,5,6,7,8,10,66,67,68] [4,5,10,1066,30400,30500,30501,900000] [] [pf (0≤q6∧q6<((v1.2.2.1.length:Nat):Int)),pf (inR .i64 q3),pf (inR .i64 (q3+(q4.1)))] [] [0,4,12,8] (r1 1 [0,4,5,6,7,8,10,66,67,68] [4,5,10,1066,30400,30500,30501,900000] [pf (inR .i64 (q5+1))] [0] (.next 0 [] (D13b2 x0 x1 j1 j2 j4 v1 j5 j7 j9 (i2+1) (Yl v2.1 (q3+(q4.1)),q4.2.1,q4.2.2)))))) (.reg 1 [] [(3,bsC 91 (zbg true) ([q2]:List ya)),(4,ap1 92 (zbg true) 56 v1.2.2.1 q2)] [0,4,5,6,7,8] [4,5,92,30400,30501,900000] [] [] [] [0,4] (r1 1 [0,4,5,6,7,8] [4,5,92,30400,30501,900000] [pf (inR .i64 (v1.1 - 1))] [0] (.next 1 [(30400,some 30400),(30500,some 92),(30501,some 30501)] (D13b1 x0 x1 j1 j2 j4 (v1.1 - 1,v1.2.1,(v1.2.2.1++[q2]),v1.2.2.2.1,v2.2.1,v2.2.2))))))
def A13j9 (x0:ye) (x1:Int) (j1:Int×Int×Int) (j2:Int×Int×Int) (j4:Int×Int×Int) (v1:Int×(List ya)×(List ya)×(List yb)×Int×Int) (j5:Int×Int×Int) (j7:Int×Int×Int) (j9:Int×Int×Int):Ann:=let q1:=(ya.mk (zcb ((v1.2.2.1.length:Nat):Int)) (1+((zbf (ye.mk x0.b v1.2.2.2.2.1 v1.2.2.2.2.2) 2).1)) j5.2.2 j7.2.2 j9.2.2 (-1));.reg 1 [] [(1,bsC 64 (zbg true) ([q1]:List ya)),(3,z2i (yc.mk [q1] ([]:List yb)) 0)] [0,4,5,6,7,8,10,66,67,68] [4,5,10,1066,30400,30500,30501,900000] [] [] [] [0,4] (lp (D13b2 x0 x1 j1 j2 j4 v1 j5 j7 j9) [] [] [] (D13b2 x0 x1 j1 j2 j4 v1 j5 j7 j9 0 (j9.2.2,j9.1,j9.2.1)) (A13b2 x0 x1 j1 j2 j4 v1 j5 j7 j9))
def A13j7 (x0:ye) (x1:Int) (j1:Int×Int×Int) (j2:Int×Int×Int) (j4:Int×Int×Int) (v1:Int×(List ya)×(List ya)×(List yb)×Int×Int) (j5:Int×Int×Int) (j7:Int×Int×Int):Ann:=let q1:=zbf (ye.mk x0.b j7.1 j7.2.1) 12;.join 0 (Int×Int×Int) (D13j9 x0 x1 j1 j2 j4 v1 j5 j7) [0,4,5,6,7,8,10] [900000,4,30400,5,30500,30501,10] (.reg 1 [] [(1,k30 61 [900000] (ye.mk x0.b j7.1 j7.2.1) 12)] [0,4,5,6,7,8,10] [4,5,10,30400,30500,30501,900000] [] [] [] [0] (.next 0 [] (D13j9 x0 x1 j1 j2 j4 v1 j5 j7 (q1.2.1,q1.2.2,q1.1)))) (A13j9 x0 x1 j1 j2 j4 v1 j5 j7)
def A13j5 (x0:ye) (x1:Int) (j1:Int×Int×Int) (j2:Int×Int×Int) (j4:Int×Int×Int) (v1:Int×(List ya)×(List ya)×(List yb)×Int×Int) (j5:Int×Int×Int):Ann:=let q1:=zce (ye.mk x0.b j5.1 j5.2.1) j2.1;.join 0 (Int×Int×Int) (D13j7 x0 x1 j1 j2 j4 v1 j5) [0,4,5,6,7,8,10] [900000,4,30400,5,30500,30501,10] (.join 0 (Bool×Int×Int) (D13j8 x0 x1 j1 j2 j4 v1 j5) [0,4,5,6,7,8,9,10] [900000,4,30400,5,30500,30501,1033,10] (.reg 1 [] [(2,k33 53 [900000] (ye.mk x0.b j5.1 j5.2.1) j2.1)] [0,4,5,6,7,8,9,10,54] [4,5,10,1033,30400,30500,30501,900000] [] [] [] [0] (.next 0 [] (D13j8 x0 x1 j1 j2 j4 v1 j5 (!(q1.1),q1.2.1,q1.2.2)))) (A13j8 x0 x1 j1 j2 j4 v1 j5)) (A13j7 x0 x1 j1 j2 j4 v1 j5)
def A13b1 (x0:ye) (x1:Int) (j1:Int×Int×Int) (j2:Int×Int×Int) (j4:Int×Int×Int) (v1:Int×(List ya)×(List ya)×(List yb)×Int×Int):Ann:=let q1:=zbf (ye.mk x0.b v1.2.2.2.2.1 v1.2.2.2.2.2) 2;let q2:=ye.mk x0.b (q1.2.1) (q1.2.2);let q3:=zce q2 j2.1;r0 1 [0,4,5,6,7,8,29] [4,5,30400,30500,30501,900000] (cn (decide (0<v1.1)) (.reg 1 [] [(1,k31 (yc.mk v1.2.2.1 v1.2.2.2.1))] [0,4,5,6,7,8,9] [4,5,1033,30400,30500,30501,900000] [] [] [] [0] (.reg 1 [] [(3,k32 ((v1.2.2.1.length:Nat):Int)),(5,k30 39 [900000] (ye.mk x0.b v1.2.2.2.2.1 v1.2.2.2.2.2) 2)] [0,4,5,6,7,8,9,10] [4,5,10,1033,30400,30500,30501,900000] [] [pf (inR .i64 (1+(q1.1)))] [] [4,8,0] (.join 0 (Int×Int×Int) (D13j5 x0 x1 j1 j2 j4 v1) [0,4,5,6,7,8,9,10] [900000,4,30400,5,30500,30501,1033,10] (.join 0 (Bool×Int×Int) (D13j6 x0 x1 j1 j2 j4 v1) [0,4,5,6,7,8,9,10] [900000,4,30400,5,30500,30501,1033,10] (.reg 1 [] [(2,k33 44 [900000] q2 j2.1)] [0,4,5,6,7,8,9,10,45] [4,5,10,1033,30400,30500,30501,900000] [] [] [] [0] (.next 0 [] (D13j6 x0 x1 j1 j2 j4 v1 (!(q3.1),q3.2.1,q3.2.2)))) (A13j6 x0 x1 j1 j2 j4 v1)) (A13j5 x0 x1 j1 j2 j4 v1)))) (.next 1 [(30400,some 30400),(30500,some 30500),(30501,some 30501)] (D13j3 x0 x1 j1 j2 (v1.2.2.2.2.1,v1.2.2.2.2.2,v1.2.1,v1.2.2.1,v1.2.2.2.1))))
def A13j4 (x0:ye) (x1:Int) (j1:Int×Int×Int) (j2:Int×Int×Int) (j4:Int×Int×Int):Ann:=.loop (Int×(List ya)×(List ya)×(List yb)×Int×Int) (D13b1 x0 x1 j1 j2 j4) [] [] [(30400,none),(30500,none),(30501,none)] (D13b1 x0 x1 j1 j2 j4 (j4.1,([]:List ya),([]:List ya),([]:List yb),j4.2.1,j4.2.2)) (A13b1 x0 x1 j1 j2 j4)
def D13b3 (x0:ye) (x1:Int) (j1:Int×Int×Int) (j2:Int×Int×Int) (j3:Int×Int×(List ya)×(List ya)×(List yb)) (i3:Nat) (v3:(List ya)×Int×Int):Dl:=⟨[(97,.int .i64 ((i3:Nat):Int))],[(40500,.arr 6 v3.1.length (rowOf (zbg true) v3.1)),(5,.var [.own 40500,.own 30501]),(900000,.var [.ro false 1 x0.b.length (rowOf (cInt .u8) x0.b),.int .i64 v3.2.1,.int .i64 v3.2.2])]⟩
def z4q (x0:ye) (x1:Int) (j1:Int×Int×Int) (j2:Int×Int×Int) (j3:Int×Int×(List ya)×(List ya)×(List yb)) (i3:Nat) (v3:(List ya)×Int×Int) (j10:Bool×Int×Int):Dl:=⟨[(101,.bool j10.1)],[(900000,.var [.ro false 1 x0.b.length (rowOf (cInt .u8) x0.b),.int .i64 j10.2.1,.int .i64 j10.2.2])]⟩
def D13b4 (x0:ye) (x1:Int) (j1:Int×Int×Int) (j2:Int×Int×Int) (j3:Int×Int×(List ya)×(List ya)×(List yb)) (i3:Nat) (v3:(List ya)×Int×Int) (j10:Bool×Int×Int) (i4:Nat) (v4:Int):Dl:=⟨[(112,.int .i64 ((i4:Nat):Int)),(14,.int .i64 v4)],[]⟩
def A13b4 (x0:ye) (x1:Int) (j1:Int×Int×Int) (j2:Int×Int×Int) (j3:Int×Int×(List ya)×(List ya)×(List yb)) (i3:Nat) (v3:(List ya)×Int×Int) (j10:Bool×Int×Int) (i4:Nat) (v4:Int):Ann:=let q5:=((i4:Nat):Int);let q7:=((i3:Nat):Int);let q8:=((v3.1.length:Nat):Int);let q2:=zch (yc.mk v3.1 j3.2.2.2.2) q7;let q3:=(zb5 (ye.mk x0.b j10.2.1 j10.2.2) [0,1,5,30,60]);let q6:=q2.getD i4 w9;let q9:=((q2.length:Nat):Int);let q1:=ya.mk ((v3.1.getD i3 w9).name) ((v3.1.getD i3 w9).sex) ((v3.1.getD i3 w9).father) ((v3.1.getD i3 w9).mother) ((v3.1.getD i3 w9).born) (v4+(q3.1));let q4:=v3.1.set i3 q1;let q10:=rowOf (zbg true) q4;r0 1 [0,4,5,13,14,96,97,110,111,112,113] [4,5,1110,30400,30501,40500,900000] (cn (decide (q5<q9)) (r1 1 [0,4,5,13,14,16,96,97,110,111,112] [4,5,1110,30400,30501,40500,900000] [pf (0≤(q5:Int)∧(q5:Int)<q9)] [0] (r1 1 [0,4,5,13,14,96,97,110,111,112] [4,5,1110,30400,30501,40500,900000] [pf (0≤(q6:Int)∧(q6:Int)<q8)] [0] (r1 1 [0,4,5,13,14,96,97,110,111,112] [4,5,1110,30400,30501,40500,900000] [pf (inR .i64 (q5+1))] [0] (.next 0 [] (D13b4 x0 x1 j1 j2 j3 i3 v3 j10 (i4+1) (Yl v4 ((v3.1.getD (q6.toNat) w9).born))))))) (.reg 1 [] [(5,bsC 130 (cInt .i64) ([0,1,5,30,60]:List Int)),(6,k29 131 [900000,130] (ye.mk x0.b j10.2.1 j10.2.2) [0,1,5,30,60]),(10,stP 40500 (zbg true) v3.1.length v3.1 v3.1 i3 5 [.int .i64 (v4+(q3.1))] q1 (v3.1.getD i3 w9) (.inr ⟨rfl,rfl⟩) rfl)] [0,4,5,96,97] [4,5,30400,30501,40500,900000] [] [pf (inR .i64 (v4+(q3.1))),pf (0≤(q7:Int)∧(q7:Int)<q8)] [] [8,12,0,4,16] (r1 1 [0,4,5,96,97] [4,5,30400,30501,40500,900000] [pf (inR .i64 (q7+1))] [0] (.co false 40500 (q4.length) q10 [lnP q10 v3.1.length (q4.length)] [] 0 (.next 1 [(40500,some 40500)] (D13b3 x0 x1 j1 j2 j3 (i3+1) (q4,q3.2.1,q3.2.2)))))))
def A13j10 (x0:ye) (x1:Int) (j1:Int×Int×Int) (j2:Int×Int×Int) (j3:Int×Int×(List ya)×(List ya)×(List yb)) (i3:Nat) (v3:(List ya)×Int×Int) (j10:Bool×Int×Int):Ann:=let q1:=((i3:Nat):Int);cn j10.1 (r1 1 [0,4,5,13,14,96,97] [4,5,30400,30501,40500,900000] [pf (0≤(q1:Int)∧(q1:Int)<((v3.1.length:Nat):Int))] [0] (.reg 1 [] [(2,k36 (yc.mk v3.1 j3.2.2.2.2) q1)] [0,4,5,13,14,96,97,110,111,112] [4,5,1110,30400,30501,40500,900000] [] [] [] [0] (lp (D13b4 x0 x1 j1 j2 j3 i3 v3 j10) [] [] [] (D13b4 x0 x1 j1 j2 j3 i3 v3 j10 0 ((v3.1.getD i3 w9).born)) (A13b4 x0 x1 j1 j2 j3 i3 v3 j10)))) (r1 1 [0,4,5,96,97] [4,5,30400,30501,40500,900000] [pf (inR .i64 (q1+1))] [0] (.next 0 [(40500,some 40500)] (D13b3 x0 x1 j1 j2 j3 (i3+1) (v3.1,j10.2.1,j10.2.2))))
def z4p (x0:ye) (x1:Int) (j1:Int×Int×Int) (j2:Int×Int×Int) (j3:Int×Int×(List ya)×(List ya)×(List yb)) (i3:Nat) (v3:(List ya)×Int×Int) (j11:(List ya)×(List yb)×Int×Int):Dl:=⟨[],[(40400,.arr 6 j11.1.length (rowOf (zbg true) j11.1)),(30401,.arr 4 j11.2.1.length (rowOf (zbi true) j11.2.1)),(4,.var [.own 40400,.own 30401]),(900000,.var [.ro false 1 x0.b.length (rowOf (cInt .u8) x0.b),.int .i64 j11.2.2.1,.int .i64 j11.2.2.2])]⟩
def A13j11 (x0:ye) (x1:Int) (j1:Int×Int×Int) (j2:Int×Int×Int) (j3:Int×Int×(List ya)×(List ya)×(List yb)) (i3:Nat) (v3:(List ya)×Int×Int) (j11:(List ya)×(List yb)×Int×Int):Ann:=rt [(900000,some 900000),(0,some 40400),(1,some 30401)] (C13 x0 x1 ((yc.mk j11.1 j11.2.1),j11.2.2.1,j11.2.2.2))
def A13b3 (x0:ye) (x1:Int) (j1:Int×Int×Int) (j2:Int×Int×Int) (j3:Int×Int×(List ya)×(List ya)×(List yb)) (i3:Nat) (v3:(List ya)×Int×Int):Ann:=let q1:=ye.mk x0.b v3.2.1 v3.2.2;let q3:=zce q1 3;let q2:=l1Wed q1 (yc.mk v3.1 j3.2.2.2.2);r0 1 [0,4,5,96,97,98] [4,5,30400,30501,40500,900000] (cn (decide (((i3:Nat):Int)<((j3.2.2.2.1.length:Nat):Int))) (r0 1 [0,4,5,13,96,97] [4,5,30400,30501,40500,900000] (.join 0 (Bool×Int×Int) (z4q x0 x1 j1 j2 j3 i3 v3) [0,4,5,13,96,97] [900000,4,30400,5,40500,30501] (.reg 1 [] [(1,k33 101 [900000] q1 3)] [0,4,5,13,96,97,101] [4,5,30400,30501,40500,900000] [] [] [] [0] (.next 0 [] (z4q x0 x1 j1 j2 j3 i3 v3 (q3.1,q3.2.1,q3.2.2)))) (A13j10 x0 x1 j1 j2 j3 i3 v3))) (.join 0 ((List ya)×(List yb)×Int×Int) (z4p x0 x1 j1 j2 j3 i3 v3) [4] [4,900000] (.reg 1 [] [(2,k37 138 [900000,40500,30501] q1 (yc.mk v3.1 j3.2.2.2.2))] [4] [4,1138,2138,900000] [] [] [] [0] (.next 0 [(40400,some 1138),(30401,some 2138)] (z4p x0 x1 j1 j2 j3 i3 v3 ((q2.1).people,(q2.1).unions,q2.2.1,q2.2.2)))) (A13j11 x0 x1 j1 j2 j3 i3 v3)))
def A13j3 (x0:ye) (x1:Int) (j1:Int×Int×Int) (j2:Int×Int×Int) (j3:Int×Int×(List ya)×(List ya)×(List yb)):Ann:=r0 1 [0,4,5,96,97] [4,5,30400,30500,30501,900000] (lp (D13b3 x0 x1 j1 j2 j3) [] [30500] [(40500,some 30500)] (D13b3 x0 x1 j1 j2 j3 0 (j3.2.2.2.1,j3.1,j3.2.1)) (A13b3 x0 x1 j1 j2 j3))
def A13j2 (x0:ye) (x1:Int) (j1:Int×Int×Int) (j2:Int×Int×Int):Ann:=let q1:=zbf (ye.mk x0.b j2.2.1 j2.2.2) (x1+1);.join 0 (Int×Int×(List ya)×(List ya)×(List yb)) (D13j3 x0 x1 j1 j2) [0,4,5] [900000,4,5] (.join 0 (Int×Int×Int) (D13j4 x0 x1 j1 j2) [0,4,5,6,7] [900000,4,5] (.reg 1 [] [(3,k30 27 [900000] (ye.mk x0.b j2.2.1 j2.2.2) (x1+1))] [0,4,5,6,7,8] [4,5,900000] [] [pf (inR .i64 (x1+1))] [] [0,4] (.next 0 [] (D13j4 x0 x1 j1 j2 (q1.1,q1.2.1,q1.2.2)))) (A13j4 x0 x1 j1 j2)) (A13j3 x0 x1 j1 j2)
def A13j1 (x0:ye) (x1:Int) (j1:Int×Int×Int):Ann:=let q1:=(zb5 (ye.mk x0.b j1.2.1 j1.2.2) [3,5,9]);.join 0 (Int×Int×Int) (D13j2 x0 x1 j1) [0,1,4,5,6] [900000,4,5] (.reg 1 [] [(1,bsC 22 (cInt .i64) ([3,5,9]:List Int)),(2,k29 23 [900000,22] (ye.mk x0.b j1.2.1 j1.2.2) [3,5,9])] [0,1,4,5,6,7] [4,5,900000] [] [] [] [0,4] (.next 0 [] (D13j2 x0 x1 j1 (q1.1,q1.2.1,q1.2.2)))) (A13j2 x0 x1 j1)
def A13 (x0:ye) (x1:Int):Ann:=let q1:=(zb5 x0 [1,7,20,25]);r0 2 [0,1,4,5] [4,5,900000] (.join 0 (Int×Int×Int) (D13j1 x0 x1) [0,1,4,5] [900000,4,5] (.reg 1 [] [(1,bsC 19 (cInt .i64) ([1,7,20,25]:List Int)),(2,k29 20 [900000,19] x0 [1,7,20,25])] [0,1,4,5,6] [4,5,900000] [] [] [] [0,4] (.next 0 [] (D13j1 x0 x1 (q1.1,q1.2.1,q1.2.2)))) (A13j1 x0 x1))
theorem zm2 (x0:ye) (x1:Int) (hc:CurOk x0) (hm:0≤x1∧x1≤40):FnMT Tryz.prog 13 [.vp 900000 0,.int .i64 x1] [.var [.ro false 1 x0.b.length (rowOf (cInt .u8) x0.b),.int .i64 x0.i,.int .i64 x0.h]] (C13 x0 x1 (zhl x0 x1)):=by
 have aux:∀ R,zhl x0 x1=R→slim (C13 x0 x1 R) (A13 x0 x1) []:=by
  intro R hR
  refine rg trivial ?_
  revert hR;refine jN (fun v=>(1≤v.1∧v.1≤25)∧CurOk ⟨x0.b,v.2.1,v.2.2⟩) (fun F101 hR hJ101=>?_) (fun j1 hR hJ1=>?_)
  ·
    refine rg ⟨trivial,⟨by with_reducible assumption,by (simp only [yv,yx];omega)⟩,trivial⟩ ?_
    exact hJ101 _ hR (by (with_reducible exact ⟨mem4 (zcm hc zas).1,(zcm hc zas).2⟩))
  ·
    revert hR;refine jN (fun v=>(1≤v.1∧v.1≤9)∧CurOk ⟨x0.b,v.2.1,v.2.2⟩) (fun F102 hR hJ102=>?_) (fun j2 hR hJ2=>?_)
    ·
      refine rg ⟨trivial,⟨by (with_reducible exact hJ1.2),by (simp only [yv,yx];omega)⟩,trivial⟩ ?_
      exact hJ102 _ hR (by (with_reducible exact ⟨mem3b (zcm hJ1.2 zas).1,(zcm hJ1.2 zas).2⟩))
    ·
      revert hR;refine jN (fun v=>CurOk ⟨x0.b,v.1,v.2.1⟩∧Mk v.2.2.2.1∧v.2.2.2.2=[]) (fun F103 hR hJ103=>?_) (fun j3 hR hJ3=>?_)
      ·
        revert hR;refine jN (fun v=>(0≤v.1∧v.1≤40)∧CurOk ⟨x0.b,v.2.1,v.2.2⟩) (fun F104 hR hJ104=>?_) (fun j4 hR hJ4=>?_)
        ·
          refine rg ⟨by (simp only [inR];omega),⟨by (with_reducible exact hJ2.2),by (intros;omega)⟩,trivial⟩ ?_
          exact hJ104 _ hR (by (have h9:=zb2 hJ2.2 (n:=x1+1) om;with_reducible exact ⟨⟨h9.1.1,by have:=h9.1.2.2 om;dsimp only;omega⟩,h9.2⟩))
        ·
          revert hR;refine lW (fun v=>((v.2.2.1.length:Int)+v.1≤40∧Mk v.2.2.1∧MkB v.2.2.1)∧v.2.2.2.1=[]∧CurOk ⟨x0.b,v.2.2.2.2.1,v.2.2.2.2.2⟩) (fun v=>Int.toNat (v.1)) (by (with_reducible exact ⟨⟨by simp only [yx];omega,Mk.nil,MkB.nil⟩,rfl,hJ4.2⟩)) (Nat.lt_succ_self _) rfl fun m1 v1 F1 hI1 hM1 hR hK1=>?_
          refine rg trivial ?_
          revert hR;refine cd (fun hc1 hR=>?_) fun hc1 hR=>?_
          ·
            refine rg ⟨⟨by (have h9:=hI1.1.2.1.len;dsimp only at h9 ⊢;omega),by (with_reducible exact hI1.1.2.1.par _)⟩,trivial⟩ ?_
            have hp1:=zey (yc.mk v1.2.2.1 v1.2.2.2.1)
            refine rg ⟨by (have h9:=zb2 hI1.2.2 (n:=2) om;simp only [inR];omega),by (have h9:=hI1.1.2.1.len;omega),⟨by (with_reducible exact hI1.2.2),by (intros;omega)⟩,trivial⟩ ?_
            revert hR;refine jN (fun v=>CurOk ⟨x0.b,v.1,v.2.1⟩∧PaDp v1.2.2.1 v.2.2 1) (fun F105 hR hJ105=>?_) (fun j5 hR hJ5=>?_)
            ·
              revert hR;refine jN (fun v=>CurOk ⟨x0.b,v.2.1,v.2.2⟩) (fun F106 hR hJ106=>?_) (fun j6 hR hJ6=>?_)
              ·
                refine rg ⟨⟨by (with_reducible exact (zb2 hI1.2.2 (n:=2) om).2),by (intros;omega)⟩,trivial⟩ ?_
                exact hJ106 _ hR (by (with_reducible exact zej (zb2 hI1.2.2 (n:=2) om).2 (by have h9:=hJ2.1;omega)))
              ·
                revert hR;refine cd (fun hc2 hR=>?_) fun hc2 hR=>?_
                ·
                  refine rg ⟨⟨by with_reducible assumption,by (have h9:=hI1.1.2.1.len;omega),by with_reducible assumption⟩,trivial⟩ ?_
                  exact hJ105 _ hR (by (with_reducible exact zrk hJ6 hI1.1.2.1 _ 1))
                ·
                  exact hJ105 _ hR (by (with_reducible exact ⟨hJ6,zrv _ _⟩))
            ·
              revert hR;refine jN (fun v=>CurOk ⟨x0.b,v.1,v.2.1⟩∧PaDp v1.2.2.1 v.2.2 2) (fun F107 hR hJ107=>?_) (fun j7 hR hJ7=>?_)
              ·
                revert hR;refine jN (fun v=>CurOk ⟨x0.b,v.2.1,v.2.2⟩) (fun F108 hR hJ108=>?_) (fun j8 hR hJ8=>?_)
                ·
                  refine rg ⟨⟨by (with_reducible exact hJ5.1),by (intros;omega)⟩,trivial⟩ ?_
                  exact hJ108 _ hR (by (with_reducible exact zej hJ5.1 (by have h9:=hJ2.1;omega)))
                ·
                  revert hR;refine cd (fun hc3 hR=>?_) fun hc3 hR=>?_
                  ·
                    refine rg ⟨⟨by with_reducible assumption,by (have h9:=hI1.1.2.1.len;omega),by with_reducible assumption⟩,trivial⟩ ?_
                    exact hJ107 _ hR (by (with_reducible exact zrk hJ8 hI1.1.2.1 _ 2))
                  ·
                    exact hJ107 _ hR (by (with_reducible exact ⟨hJ8,zrv _ _⟩))
              ·
                revert hR;refine jN (fun v=>CurOk ⟨x0.b,v.1,v.2.1⟩∧0≤v.2.2∧v.2.2≤11) (fun F109 hR hJ109=>?_) (fun j9 hR hJ9=>?_)
                ·
                  refine rg ⟨⟨by (with_reducible exact hJ7.1),by (intros;omega)⟩,trivial⟩ ?_
                  exact hJ109 _ hR (by (have h9:=zb2 hJ7.1 (n:=12) om;refine ⟨h9.2,h9.1.1,?_⟩;have h8:=h9.1.2.2 om;dsimp only;omega))
                ·
                  refine rg ⟨trivial,⟨by (simp only [yv,yx];omega),by (simp only [yv,yx];omega)⟩,trivial⟩ ?_
                  have hp2:=zk6 (yc.mk [(ya.mk (zcb ((v1.2.2.1.length:Nat):Int)) (1+((zbf (ye.mk x0.b v1.2.2.2.2.1 v1.2.2.2.2.2) 2).1)) j5.2.2 j7.2.2 j9.2.2 (-1))] ([]:List yb)) 0
                  revert hR;refine lN (fun i v=>CurOk ⟨x0.b,v.2.1,v.2.2⟩∧Born v1.2.2.1 (zb4 (yc.mk [(ya.mk (zcb ((v1.2.2.1.length:Nat):Int)) (1+((zbf (ye.mk x0.b v1.2.2.2.2.1 v1.2.2.2.2.2) 2).1)) j5.2.2 j7.2.2 j9.2.2 (-1))] ([]:List yb)) 0) i v.1) (by (with_reducible exact ⟨hJ9.1,born0 hJ9.2⟩)) rfl fun i2 v2 F2 hn2 hI2 hR hK2=>?_
                  refine rg trivial ?_
                  refine ⟨fun hc4=>?_,fun hc4=>?_⟩
                  · have hii2:i2<(zb4 (yc.mk [(ya.mk (zcb ((v1.2.2.1.length:Nat):Int)) (1+((zbf (ye.mk x0.b v1.2.2.2.2.1 v1.2.2.2.2.2) 2).1)) j5.2.2 j7.2.2 j9.2.2 (-1))] ([]:List yb)) 0).length:=by have:=of_decide_eq_true hc4;omega
                    replace hR:=zbq hR hii2
                    refine rg ⟨by (intros;omega),trivial⟩ ?_
                    refine rg ⟨by (with_reducible exact zzm hJ5.2 hJ7.2 hii2),by (have h9:=zv2 (s:=(1+((zbf (ye.mk x0.b v1.2.2.2.2.1 v1.2.2.2.2.2) 2).1))) hI1.1.2.1 hJ5.2 hJ7.2 hii2;have h8:=hJ1.1;simp only [inR];omega),by (have h9:=zv2 hI1.1.2.1 hJ5.2 hJ7.2 hii2;have h8:=hJ1.1;have h7:=zb2 hI2.1 (n:=6) om;have h6:=h7.1.2.2 om;simp only [inR];omega),⟨by (with_reducible exact hI2.1),by (intros;omega)⟩,trivial⟩ ?_
                    refine rg ⟨by (have h9:=zb2 hI1.2.2 (n:=2) om;simp only [inR];omega),trivial⟩ ?_
                    exact hK2 (Yl v2.1 ((((v1.2.2.1.getD (((zb4 (yc.mk [(ya.mk (zcb ((v1.2.2.1.length:Nat):Int)) (1+((zbf (ye.mk x0.b v1.2.2.2.2.1 v1.2.2.2.2.2) 2).1)) j5.2.2 j7.2.2 j9.2.2 (-1))] ([]:List yb)) 0).getD i2 w9).toNat) w9).born)+j1.1)+((zbf (ye.mk x0.b v2.2.1 v2.2.2) 6).1)),(zbf (ye.mk x0.b v2.2.1 v2.2.2) 6).2.1,(zbf (ye.mk x0.b v2.2.1 v2.2.2) 6).2.2) hii2 (by (have h7:=zb2 hI2.1 (n:=6) om;with_reducible exact ⟨h7.2,zt8 hI2.2 hii2 hJ1.1 ⟨h7.1.1,h7.1.2.2 om⟩⟩)) hR
                  · obtain rfl:i2=(zb4 (yc.mk [(ya.mk (zcb ((v1.2.2.1.length:Nat):Int)) (1+((zbf (ye.mk x0.b v1.2.2.2.2.1 v1.2.2.2.2.2) 2).1)) j5.2.2 j7.2.2 j9.2.2 (-1))] ([]:List yb)) 0).length:=by have:=of_decide_eq_false hc4;omega
                    replace hR:=zbu hR (yM _)
                    refine rg ⟨trivial,by (have h9:=hI1.1.2.1.len;omega),trivial⟩ ?_
                    refine rg ⟨by (have h9:=of_decide_eq_true hc1;have h8:=hI1.1.1;simp only [inR];omega),trivial⟩ ?_
                    exact hK1 (v1.1 - 1,v1.2.1,(v1.2.2.1++[(ya.mk (zcb ((v1.2.2.1.length:Nat):Int)) (1+((zbf (ye.mk x0.b v1.2.2.2.2.1 v1.2.2.2.2.2) 2).1)) j5.2.2 j7.2.2 v2.1 (-1))]),v1.2.2.2.1,v2.2.1,v2.2.2) (by (have h9:=of_decide_eq_true hc1;have h8:=hI1.1.1;have h6:=zb2 hI1.2.2 (n:=2) om;have h5:=h6.1.2.2 om;have h7:=hI1.1.2.1.grow hI1.1.2.2 om (s:=(1+((zbf (ye.mk x0.b v1.2.2.2.2.1 v1.2.2.2.2.2) 2).1))) om hJ5.2.1 hJ7.2.1 hJ5.2.2 hJ7.2.2 hI2.2.1 hI2.2.2.1 (zwz hI2.2);with_reducible exact ⟨⟨by simp only [List.length_append,List.length_singleton];omega,h7.1,h7.2⟩,hI1.2.1,hI2.1⟩)) (by (have h9:=of_decide_eq_true hc1;have h8:=hI1.1.1;simp only [inR];omega)) hR
          ·
            exact hJ103 _ hR (by (with_reducible exact ⟨hI1.2.2,hI1.1.2.1,hI1.2.1⟩))
      ·
        refine rg trivial ?_
        revert hR;refine lN (fun i v=>CurOk ⟨x0.b,v.2.1,v.2.2⟩∧Dying j3.2.2.2.1 v.1) (by (with_reducible exact ⟨hJ3.1,Dying.refl hJ3.2.1⟩)) rfl fun i3 v3 F3 hn3 hI3 hR hK3=>?_
        refine rg trivial ?_
        refine ⟨fun hc5=>?_,fun hc5=>?_⟩
        · have hii3:i3<j3.2.2.2.1.length:=by have:=of_decide_eq_true hc5;omega
          replace hR:=zbq hR hii3
          refine rg trivial ?_
          revert hR;refine jN (fun v=>CurOk ⟨x0.b,v.2.1,v.2.2⟩) (fun F110 hR hJ110=>?_) (fun j10 hR hJ10=>?_)
          ·
            refine rg ⟨⟨by (with_reducible exact hI3.1),by (intros;omega)⟩,trivial⟩ ?_
            exact hJ110 _ hR (by (with_reducible exact zej hI3.1 om))
          ·
            revert hR;refine cd (fun hc6 hR=>?_) fun hc6 hR=>?_
            ·
              refine rg ⟨by (have h9:=hI3.2.len;omega),trivial⟩ ?_
              refine rg ⟨by (have h9:=hI3.2.len;have h8:=hJ3.2.1.len;dsimp only at h9 ⊢;omega),trivial⟩ ?_
              revert hR;refine lN (fun i v=>Last v3.1 (zch (yc.mk v3.1 j3.2.2.2.2) ((i3:Nat):Int)) i3 i v) (by (with_reducible exact last0 hJ3.2.1 hI3.2 hii3)) rfl fun i4 v4 F4 hn4 hI4 hR hK4=>?_
              refine rg trivial ?_
              refine ⟨fun hc7=>?_,fun hc7=>?_⟩
              · have hii4:i4<(zch (yc.mk v3.1 j3.2.2.2.2) ((i3:Nat):Int)).length:=by have:=of_decide_eq_true hc7;omega
                replace hR:=zbq hR hii4
                refine rg ⟨by (intros;omega),trivial⟩ ?_
                refine rg ⟨by (with_reducible exact zgt hii4),trivial⟩ ?_
                refine rg ⟨by (have h9:=hJ3.2.1.len;have h8:=hI3.2.len;have h7:=zgu (yc.mk v3.1 j3.2.2.2.2) ((i3:Nat):Int);dsimp only at h7;simp only [inR];omega),trivial⟩ ?_
                exact hK4 (Yl v4 ((v3.1.getD (((zch (yc.mk v3.1 j3.2.2.2.2) ((i3:Nat):Int)).getD i4 w9).toNat) w9).born)) hii4 (by (with_reducible exact ztn hI4 (zve hJ3.2.1 hI3.2 (by have h9:=zgt hii4;dsimp only at h9;omega)).2)) hR
              · obtain rfl:i4=(zch (yc.mk v3.1 j3.2.2.2.2) ((i3:Nat):Int)).length:=by have:=of_decide_eq_false hc7;omega
                replace hR:=zbu hR (yM _)
                refine rg ⟨by (have h9:=mem5b (zcm hJ10 (l:=[0,1,5,30,60]) zas).1;have h8:=zz2 hJ3.2.1 hI3.2 hii3 hI4;simp only [inR];omega),by (have h9:=hI3.2.len;omega),trivial,⟨by with_reducible assumption,by (simp only [yv,yx];omega)⟩,by (have h9:=hI3.2.len;omega),trivial⟩ ?_
                refine rg ⟨by (have h9:=hJ3.2.1.len;have h8:=hI3.2.len;have h7:=zgu (yc.mk v3.1 j3.2.2.2.2) ((i3:Nat):Int);dsimp only at h7;simp only [inR];omega),trivial⟩ ?_
                refine og (by (simp;done)) ?_
                exact hK3 ((v3.1.set i3 (ya.mk ((v3.1.getD i3 w9).name) ((v3.1.getD i3 w9).sex) ((v3.1.getD i3 w9).father) ((v3.1.getD i3 w9).mother) ((v3.1.getD i3 w9).born) (v4+((zb5 (ye.mk x0.b j10.2.1 j10.2.2) [0,1,5,30,60]).1)))),(zb5 (ye.mk x0.b j10.2.1 j10.2.2) [0,1,5,30,60]).2.1,(zb5 (ye.mk x0.b j10.2.1 j10.2.2) [0,1,5,30,60]).2.2) hii3 (by (with_reducible exact ⟨(zcm hJ10 zas).2,z3q hJ3.2.1 hI3.2 hii3 hI4 (mem5b (zcm hJ10 zas).1)⟩)) hR
            ·
              refine rg ⟨by (have h9:=hJ3.2.1.len;have h8:=hI3.2.len;have h7:=zgu (yc.mk v3.1 j3.2.2.2.2) ((i3:Nat):Int);dsimp only at h7;simp only [inR];omega),trivial⟩ ?_
              exact hK3 (v3.1,j10.2.1,j10.2.2) hii3 (by (with_reducible exact ⟨hJ10,hI3.2⟩)) hR
        · obtain rfl:i3=j3.2.2.2.1.length:=by have:=of_decide_eq_false hc5;omega
          replace hR:=zbu hR (yM _)
          revert hR;refine jN (fun v=>True) (fun F111 hR hJ111=>?_) (fun j11 hR hJ11=>?_)
          ·
            refine rg ⟨⟨by (with_reducible exact hI3.1),by (rw [hJ3.2.2];exact hI3.2.valid hJ3.2.1),by (with_reducible exact hI3.2.names hJ3.2.1)⟩,trivial⟩ ?_
            exact hJ111 _ hR za3
          ·
            exact congrArg (C13 x0 x1) hR
 exact FnM.go 139 Tryz.func13 (by kernel_rfl) (by kernel_rfl) (A13 x0 x1) (by kernel_rfl) (aux _ rfl)
def k13 (d:Nat) (ids:List Nat) (x0:ye) (x1:Int):Cl:=(hresM d ids (C13 x0 x1 (zhl x0 x1)),k2 (zm2 x0 x1))
end Go.Proofs.YtlinnkjieghmhaaGreatDoor
