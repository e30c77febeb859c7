import Derived.Test.YtepefimocflfkaaVS81
set_option maxHeartbeats 4000000
set_option linter.unusedSimpArgs false
set_option linter.unusedVariables false
namespace Go.Proofs.Ytepefimocflfkaa
open Go Go.Lite Go.Proofs
def C196U (x0:SrtU) (x1:Int) (x2:Int) (x3:Int) (R:(List Union)):LV×List (Nat×BC):=(.tup [],[(900000,.arr 4 R.length (rowOf (cUnion true) R)),(900001,.var [.own 900002,.own 900000]),(900002,.arr 6 x0.c0.length (rowOf (cPerson true) x0.c0))])
def symMergeU_r : Nat → SrtU → Int → Int → Int → (List Union)
  | 0,_,_,_,_=>default
  | m+1,x0,x1,x2,x3=>bif (decide ((x2 - x1)=1)) then (jn (fun K1=>loopW (fun (v1:Int×Int) next=>bif (decide (v1.1<v1.2)) then (bif (lessFrom ((v1.1+v1.2) / 2 ^ 1) x1 (Family.mk x0.c0 x0.l)) then (next (((v1.1+v1.2) / 2 ^ 1)+1,v1.2)) else (next (v1.1,(v1.1+v1.2) / 2 ^ 1))) else (K1 v1.1)) ((x3 - (x2)).toNat+1) (x2,x3)) (fun (j1:Int)=>loopW (fun (v2:Int×(List Union)) next=>bif (decide (v2.1<(j1 - 1))) then (next (v2.1+1,(swp v2.2 v2.1 (v2.1+1)))) else v2.2) ((j1 - (x1)).toNat+1) (x1,x0.l))) else (bif (decide ((x3 - x2)=1)) then (jn (fun K2=>loopW (fun (v3:Int×Int) next=>bif (decide (v3.1<v3.2)) then (bif (!(lessFrom x2 ((v3.1+v3.2) / 2 ^ 1) (Family.mk x0.c0 x0.l))) then (next (((v3.1+v3.2) / 2 ^ 1)+1,v3.2)) else (next (v3.1,(v3.1+v3.2) / 2 ^ 1))) else (K2 v3.1)) ((x2 - (x1)).toNat+1) (x1,x2)) (fun (j2:Int)=>loopW (fun (v4:Int×(List Union)) next=>bif (decide (j2<v4.1)) then (next (v4.1 - 1,(swp v4.2 v4.1 (v4.1 - 1)))) else v4.2) ((x2 - (j2)).toNat+1) (x2,x0.l))) else (jn (fun K3=>bif (decide (((x1+x3) / 2 ^ 1)<x2)) then (K3 ((((x1+x3) / 2 ^ 1)+x2) - x3,(x1+x3) / 2 ^ 1)) else (K3 (x1,x2))) (fun (j3:Int×Int)=>jn (fun K4=>loopW (fun (v5:Int×Int) next=>bif (decide (v5.1<v5.2)) then (bif (!(lessFrom (((((x1+x3) / 2 ^ 1)+x2) - 1) - ((v5.1+v5.2) / 2 ^ 1)) ((v5.1+v5.2) / 2 ^ 1) (Family.mk x0.c0 x0.l))) then (next (((v5.1+v5.2) / 2 ^ 1)+1,v5.2)) else (next (v5.1,(v5.1+v5.2) / 2 ^ 1))) else (K4 v5.1)) ((j3.2 - (j3.1)).toNat+1) (j3.1,j3.2)) (fun (j4:Int)=>jn (fun K5=>bif ((decide (j4<x2))&&(decide (x2<((((x1+x3) / 2 ^ 1)+x2) - j4)))) then (K5 (rotateU x0 j4 x2 ((((x1+x3) / 2 ^ 1)+x2) - j4))) else (K5 x0.l)) (fun (j5:(List Union))=>jn (fun K6=>bif ((decide (x1<j4))&&(decide (j4<((x1+x3) / 2 ^ 1)))) then (K6 (symMergeU_r m (SrtU.mk x0.c0 j5) x1 j4 ((x1+x3) / 2 ^ 1))) else (K6 j5)) (fun (j6:(List Union))=>bif ((decide (((x1+x3) / 2 ^ 1)<((((x1+x3) / 2 ^ 1)+x2) - j4)))&&(decide (((((x1+x3) / 2 ^ 1)+x2) - j4)<x3))) then (symMergeU_r m (SrtU.mk x0.c0 j6) ((x1+x3) / 2 ^ 1) ((((x1+x3) / 2 ^ 1)+x2) - j4) x3) else j6))))))
def symMergeU (x0:SrtU) (x1:Int) (x2:Int) (x3:Int):(List Union):=symMergeU_r 256 x0 x1 x2 x3
def kr196U (m d:Nat) (ids:List Nat) (x0:SrtU) (x1:Int) (x2:Int) (x3:Int):Cl:=(hresM d ids (C196U x0 x1 x2 x3 (symMergeU_r m x0 x1 x2 x3)),pf (FnMT Try.prog 196 [.agg [.clo 121 [.vp 900001 0],.clo 194 [.own 900000,.k Try.prog.globals.size 94]],.int .i64 x1,.int .i64 x2,.int .i64 x3] [.arr 4 x0.l.length (rowOf (cUnion true) x0.l),.var [.own 900002,.own 900000],.arr 6 x0.c0.length (rowOf (cPerson true) x0.c0)] (C196U x0 x1 x2 x3 (symMergeU_r m x0 x1 x2 x3))))
def D196Uj1 (m:Nat) (x0:SrtU) (x1:Int) (x2:Int) (x3:Int) (j1:Int):Dl:=⟨[(8,.int .i64 j1)],[]⟩
def D196Ub1 (m:Nat) (x0:SrtU) (x1:Int) (x2:Int) (x3:Int) (v1:Int×Int):Dl:=⟨[(8,.int .i64 v1.1),(9,.int .i64 v1.2)],[]⟩
def A196Ub1 (m:Nat) (x0:SrtU) (x1:Int) (x2:Int) (x3:Int) (v1:Int×Int):Ann:=r0 1 [1,2,3,4,8,9,31] [4,900000,900001,900002] (cn (decide (v1.1<v1.2)) (.reg 2 [] [(1004,k121 ((v1.1+v1.2) / 2 ^ 1) x1 (Family.mk x0.c0 x0.l))] [1,2,3,4,8,9,10,42] [4,900000,900001,900002] [] [pf (inR .i64 (v1.1+v1.2)),pf (inR .u64 (v1.1+v1.2)),pf (0≤(1:Int)∧1≤(IntKind.bits .u64:Int)),pf (inR .i64 ((v1.1+v1.2) / 2 ^ 1))] [] [0,4,8,12,16] (cn (lessFrom ((v1.1+v1.2) / 2 ^ 1) x1 (Family.mk x0.c0 x0.l)) (r1 1 [1,2,3,4,8,9] [4,900000,900001,900002] [pf (inR .i64 (((v1.1+v1.2) / 2 ^ 1)+1))] [0] (.next 0 [] (D196Ub1 m x0 x1 x2 x3 (((v1.1+v1.2) / 2 ^ 1)+1,v1.2)))) (r0 1 [1,2,3,4,8,9] [4,900000,900001,900002] (.next 0 [] (D196Ub1 m x0 x1 x2 x3 (v1.1,(v1.1+v1.2) / 2 ^ 1)))))) (.next 1 [] (D196Uj1 m x0 x1 x2 x3 v1.1)))
def D196Ub2 (m:Nat) (x0:SrtU) (x1:Int) (x2:Int) (x3:Int) (j1:Int) (v2:Int×(List Union)):Dl:=⟨[(11,.int .i64 v2.1)],[(900000,.arr 4 v2.2.length (rowOf (cUnion true) v2.2))]⟩
def A196Ub2 (m:Nat) (x0:SrtU) (x1:Int) (x2:Int) (x3:Int) (j1:Int) (v2:Int×(List Union)):Ann:=r1 1 [1,2,3,4,8,11,50] [4,900000,900001,900002] [pf (inR .i64 (j1 - 1))] [0] (cn (decide (v2.1<(j1 - 1))) (.reg 1 [] [(5,kswU 504 [900000] v2.2 v2.1 (v2.1+1))] [1,2,3,4,8,11] [4,900000,900001,900002] [] [pf (inR .i64 (v2.1+1))] [] [0,4] (r1 1 [1,2,3,4,8,11] [4,900000,900001,900002] [pf (inR .i64 (v2.1+1))] [0] (.next 0 [(900000,some 900000)] (D196Ub2 m x0 x1 x2 x3 j1 (v2.1+1,(swp v2.2 v2.1 (v2.1+1))))))) (rt [(900000,some 900000),(900001,some 900001),(900002,some 900002)] (C196U x0 x1 x2 x3 v2.2)))
def A196Uj1 (m:Nat) (x0:SrtU) (x1:Int) (x2:Int) (x3:Int) (j1:Int):Ann:=r0 1 [1,2,3,4,8,11] [4,900000,900001,900002] (.loop (Int×(List Union)) (D196Ub2 m x0 x1 x2 x3 j1) [] [] [(900000,some 900000)] (D196Ub2 m x0 x1 x2 x3 j1 (x1,x0.l)) (A196Ub2 m x0 x1 x2 x3 j1))
def D196Uj2 (m:Nat) (x0:SrtU) (x1:Int) (x2:Int) (x3:Int) (j2:Int):Dl:=⟨[(12,.int .i64 j2)],[]⟩
def D196Ub3 (m:Nat) (x0:SrtU) (x1:Int) (x2:Int) (x3:Int) (v3:Int×Int):Dl:=⟨[(12,.int .i64 v3.1),(13,.int .i64 v3.2)],[]⟩
def A196Ub3 (m:Nat) (x0:SrtU) (x1:Int) (x2:Int) (x3:Int) (v3:Int×Int):Ann:=r0 1 [1,2,3,4,12,13,67] [4,900000,900001,900002] (cn (decide (v3.1<v3.2)) (.reg 2 [] [(1004,k121 x2 ((v3.1+v3.2) / 2 ^ 1) (Family.mk x0.c0 x0.l))] [1,2,3,4,12,13,14,79] [4,900000,900001,900002] [] [pf (inR .i64 (v3.1+v3.2)),pf (inR .u64 (v3.1+v3.2)),pf (0≤(1:Int)∧1≤(IntKind.bits .u64:Int)),pf (inR .i64 ((v3.1+v3.2) / 2 ^ 1))] [] [0,4,8,12,16] (cn (!(lessFrom x2 ((v3.1+v3.2) / 2 ^ 1) (Family.mk x0.c0 x0.l))) (r1 1 [1,2,3,4,12,13] [4,900000,900001,900002] [pf (inR .i64 (((v3.1+v3.2) / 2 ^ 1)+1))] [0] (.next 0 [] (D196Ub3 m x0 x1 x2 x3 (((v3.1+v3.2) / 2 ^ 1)+1,v3.2)))) (r0 1 [1,2,3,4,12,13] [4,900000,900001,900002] (.next 0 [] (D196Ub3 m x0 x1 x2 x3 (v3.1,(v3.1+v3.2) / 2 ^ 1)))))) (.next 1 [] (D196Uj2 m x0 x1 x2 x3 v3.1)))
def D196Ub4 (m:Nat) (x0:SrtU) (x1:Int) (x2:Int) (x3:Int) (j2:Int) (v4:Int×(List Union)):Dl:=⟨[(15,.int .i64 v4.1)],[(900000,.arr 4 v4.2.length (rowOf (cUnion true) v4.2))]⟩
def A196Ub4 (m:Nat) (x0:SrtU) (x1:Int) (x2:Int) (x3:Int) (j2:Int) (v4:Int×(List Union)):Ann:=r0 1 [1,2,3,4,12,15,86] [4,900000,900001,900002] (cn (decide (j2<v4.1)) (.reg 1 [] [(5,kswU 504 [900000] v4.2 v4.1 (v4.1 - 1))] [1,2,3,4,12,15] [4,900000,900001,900002] [] [pf (inR .i64 (v4.1 - 1))] [] [0,4] (r1 1 [1,2,3,4,12,15] [4,900000,900001,900002] [pf (inR .i64 (v4.1 - 1))] [0] (.next 0 [(900000,some 900000)] (D196Ub4 m x0 x1 x2 x3 j2 (v4.1 - 1,(swp v4.2 v4.1 (v4.1 - 1))))))) (rt [(900000,some 900000),(900001,some 900001),(900002,some 900002)] (C196U x0 x1 x2 x3 v4.2)))
def A196Uj2 (m:Nat) (x0:SrtU) (x1:Int) (x2:Int) (x3:Int) (j2:Int):Ann:=r0 1 [1,2,3,4,12,15] [4,900000,900001,900002] (.loop (Int×(List Union)) (D196Ub4 m x0 x1 x2 x3 j2) [] [] [(900000,some 900000)] (D196Ub4 m x0 x1 x2 x3 j2 (x2,x0.l)) (A196Ub4 m x0 x1 x2 x3 j2))
def D196Uj3 (m:Nat) (x0:SrtU) (x1:Int) (x2:Int) (x3:Int) (j3:Int×Int):Dl:=⟨[(18,.int .i64 j3.1),(19,.int .i64 j3.2)],[]⟩
def D196Uj4 (m:Nat) (x0:SrtU) (x1:Int) (x2:Int) (x3:Int) (j3:Int×Int) (j4:Int):Dl:=⟨[(18,.int .i64 j4)],[]⟩
def D196Ub5 (m:Nat) (x0:SrtU) (x1:Int) (x2:Int) (x3:Int) (j3:Int×Int) (v5:Int×Int):Dl:=⟨[(18,.int .i64 v5.1),(19,.int .i64 v5.2)],[]⟩
def A196Ub5 (m:Nat) (x0:SrtU) (x1:Int) (x2:Int) (x3:Int) (j3:Int×Int) (v5:Int×Int):Ann:=r0 1 [1,2,3,4,16,17,18,19,20,117] [4,900000,900001,900002] (cn (decide (v5.1<v5.2)) (.reg 2 [] [(1006,k121 (((((x1+x3) / 2 ^ 1)+x2) - 1) - ((v5.1+v5.2) / 2 ^ 1)) ((v5.1+v5.2) / 2 ^ 1) (Family.mk x0.c0 x0.l))] [1,2,3,4,16,17,18,19,20,21,131] [4,900000,900001,900002] [] [pf (inR .i64 (v5.1+v5.2)),pf (inR .u64 (v5.1+v5.2)),pf (0≤(1:Int)∧1≤(IntKind.bits .u64:Int)),pf (inR .i64 ((v5.1+v5.2) / 2 ^ 1)),pf (inR .i64 (((((x1+x3) / 2 ^ 1)+x2) - 1) - ((v5.1+v5.2) / 2 ^ 1)))] [] [0,4,8,12,16,20] (cn (!(lessFrom (((((x1+x3) / 2 ^ 1)+x2) - 1) - ((v5.1+v5.2) / 2 ^ 1)) ((v5.1+v5.2) / 2 ^ 1) (Family.mk x0.c0 x0.l))) (r1 1 [1,2,3,4,16,17,18,19,20] [4,900000,900001,900002] [pf (inR .i64 (((v5.1+v5.2) / 2 ^ 1)+1))] [0] (.next 0 [] (D196Ub5 m x0 x1 x2 x3 j3 (((v5.1+v5.2) / 2 ^ 1)+1,v5.2)))) (r0 1 [1,2,3,4,16,17,18,19,20] [4,900000,900001,900002] (.next 0 [] (D196Ub5 m x0 x1 x2 x3 j3 (v5.1,(v5.1+v5.2) / 2 ^ 1)))))) (.next 1 [] (D196Uj4 m x0 x1 x2 x3 j3 v5.1)))
def D196Uj5 (m:Nat) (x0:SrtU) (x1:Int) (x2:Int) (x3:Int) (j3:Int×Int) (j4:Int) (j5:(List Union)):Dl:=⟨[],[(900000,.arr 4 j5.length (rowOf (cUnion true) j5))]⟩
def D196Uj6 (m:Nat) (x0:SrtU) (x1:Int) (x2:Int) (x3:Int) (j3:Int×Int) (j4:Int) (j5:(List Union)) (j6:(List Union)):Dl:=⟨[],[(900000,.arr 4 j6.length (rowOf (cUnion true) j6))]⟩
def A196Uj6 (m:Nat) (x0:SrtU) (x1:Int) (x2:Int) (x3:Int) (j3:Int×Int) (j4:Int) (j5:(List Union)) (j6:(List Union)):Ann:=.reg 1 [] [] [3,4,16,22,171] [4,900000,900001,900002] [decide (((x1+x3) / 2 ^ 1)<((((x1+x3) / 2 ^ 1)+x2) - j4))] [] [] [1,1,1] (cn ((decide (((x1+x3) / 2 ^ 1)<((((x1+x3) / 2 ^ 1)+x2) - j4)))&&(decide (((((x1+x3) / 2 ^ 1)+x2) - j4)<x3))) (.reg 1 [] [(4,kr196U m 176 [900000,900001,900002] (SrtU.mk x0.c0 j6) ((x1+x3) / 2 ^ 1) ((((x1+x3) / 2 ^ 1)+x2) - j4) x3)] [] [900000,900001,900002] [] [] [] [0] (rt [(900000,some 900000),(900001,some 900001),(900002,some 900002)] (C196U x0 x1 x2 x3 (symMergeU_r m (SrtU.mk x0.c0 j6) ((x1+x3) / 2 ^ 1) ((((x1+x3) / 2 ^ 1)+x2) - j4) x3)))) (rt [(900000,some 900000),(900001,some 900001),(900002,some 900002)] (C196U x0 x1 x2 x3 j6)))
def A196Uj5 (m:Nat) (x0:SrtU) (x1:Int) (x2:Int) (x3:Int) (j3:Int×Int) (j4:Int) (j5:(List Union)):Ann:=.join 0 (List Union) (D196Uj6 m x0 x1 x2 x3 j3 j4 j5) [3,4,16,22] [4,900001,900002,900000] (.reg 1 [] [] [1,3,4,16,18,22,158] [4,900000,900001,900002] [decide (x1<j4)] [] [] [1,1,1] (cn ((decide (x1<j4))&&(decide (j4<((x1+x3) / 2 ^ 1)))) (.reg 1 [] [(4,kr196U m 163 [900000,900001,900002] (SrtU.mk x0.c0 j5) x1 j4 ((x1+x3) / 2 ^ 1))] [3,4,16,22] [4,900000,900001,900002] [] [] [] [0] (.next 0 [(900000,some 900000)] (D196Uj6 m x0 x1 x2 x3 j3 j4 j5 (symMergeU_r m (SrtU.mk x0.c0 j5) x1 j4 ((x1+x3) / 2 ^ 1))))) (.next 0 [(900000,some 900000)] (D196Uj6 m x0 x1 x2 x3 j3 j4 j5 j5)))) (A196Uj6 m x0 x1 x2 x3 j3 j4 j5)
def A196Uj4 (m:Nat) (x0:SrtU) (x1:Int) (x2:Int) (x3:Int) (j3:Int×Int) (j4:Int):Ann:=r1 1 [1,2,3,4,16,18,22] [4,900000,900001,900002] [pf (inR .i64 ((((x1+x3) / 2 ^ 1)+x2) - j4))] [0] (.join 0 (List Union) (D196Uj5 m x0 x1 x2 x3 j3 j4) [1,3,4,16,18,22] [4,900001,900002,900000] (.reg 1 [] [] [1,2,3,4,16,18,22,145] [4,900000,900001,900002] [decide (j4<x2)] [] [] [1,1,1] (cn ((decide (j4<x2))&&(decide (x2<((((x1+x3) / 2 ^ 1)+x2) - j4)))) (.reg 1 [] [(4,k215U 150 [900000,900001,900002] x0 j4 x2 ((((x1+x3) / 2 ^ 1)+x2) - j4))] [1,3,4,16,18,22] [4,900000,900001,900002] [] [] [] [0] (.next 0 [(900000,some 900000)] (D196Uj5 m x0 x1 x2 x3 j3 j4 (rotateU x0 j4 x2 ((((x1+x3) / 2 ^ 1)+x2) - j4))))) (.next 0 [(900000,some 900000)] (D196Uj5 m x0 x1 x2 x3 j3 j4 x0.l)))) (A196Uj5 m x0 x1 x2 x3 j3 j4))
def A196Uj3 (m:Nat) (x0:SrtU) (x1:Int) (x2:Int) (x3:Int) (j3:Int×Int):Ann:=r1 1 [1,2,3,4,16,17,18,19,20] [4,900000,900001,900002] [pf (inR .i64 ((((x1+x3) / 2 ^ 1)+x2) - 1))] [0] (.join 0 Int (D196Uj4 m x0 x1 x2 x3 j3) [1,2,3,4,16,17,18] [4,900001,900002,900000] (.loop (Int×Int) (D196Ub5 m x0 x1 x2 x3 j3) [] [] [] (D196Ub5 m x0 x1 x2 x3 j3 (j3.1,j3.2)) (A196Ub5 m x0 x1 x2 x3 j3)) (A196Uj4 m x0 x1 x2 x3 j3))
def A196U (m:Nat) (x0:SrtU) (x1:Int) (x2:Int) (x3:Int):Ann:=r0 1 [1,2,3,4] [4,900000,900001,900002] (r1 1 [1,2,3,4,26] [4,900000,900001,900002] [pf (inR .i64 (x2 - x1))] [0] (cn (decide ((x2 - x1)=1)) (r0 2 [1,2,3,4,8,9] [4,900000,900001,900002] (.join 0 Int (D196Uj1 m x0 x1 x2 x3) [1,2,3,4,8] [4,900001,900002,900000] (.loop (Int×Int) (D196Ub1 m x0 x1 x2 x3) [] [] [] (D196Ub1 m x0 x1 x2 x3 (x2,x3)) (A196Ub1 m x0 x1 x2 x3)) (A196Uj1 m x0 x1 x2 x3))) (r1 1 [1,2,3,4,62] [4,900000,900001,900002] [pf (inR .i64 (x3 - x2))] [0] (cn (decide ((x3 - x2)=1)) (r0 2 [1,2,3,4,12,13] [4,900000,900001,900002] (.join 0 Int (D196Uj2 m x0 x1 x2 x3) [1,2,3,4,12] [4,900001,900002,900000] (.loop (Int×Int) (D196Ub3 m x0 x1 x2 x3) [] [] [] (D196Ub3 m x0 x1 x2 x3 (x1,x2)) (A196Ub3 m x0 x1 x2 x3)) (A196Uj2 m x0 x1 x2 x3))) (r1 3 [1,2,3,4,16,17] [4,900000,900001,900002] [pf (inR .i64 (x1+x3)),pf (inR .u64 (x1+x3)),pf (0≤(1:Int)∧1≤(IntKind.bits .u64:Int)),pf (inR .i64 ((x1+x3) / 2 ^ 1)),pf (inR .i64 (((x1+x3) / 2 ^ 1)+x2))] [0,4,8,12,16] (.join 0 (Int×Int) (D196Uj3 m x0 x1 x2 x3) [1,2,3,4,16,17] [4,900001,900002,900000] (r0 1 [1,2,3,4,16,17,106] [4,900000,900001,900002] (cn (decide (((x1+x3) / 2 ^ 1)<x2)) (r1 1 [1,2,3,4,16,17,18] [4,900000,900001,900002] [pf (inR .i64 ((((x1+x3) / 2 ^ 1)+x2) - x3))] [0] (r0 1 [1,2,3,4,16,17,18,19] [4,900000,900001,900002] (.next 0 [] (D196Uj3 m x0 x1 x2 x3 ((((x1+x3) / 2 ^ 1)+x2) - x3,(x1+x3) / 2 ^ 1))))) (r0 1 [1,2,3,4,16,17,18] [4,900000,900001,900002] (r0 1 [1,2,3,4,16,17,18,19] [4,900000,900001,900002] (.next 0 [] (D196Uj3 m x0 x1 x2 x3 (x1,x2))))))) (A196Uj3 m x0 x1 x2 x3)))))))
theorem symMergeU_eq : ∀ (m : Nat) (x : SrtU) (a d b : Int), symMergeU_r m x a d b = gSym (RU x) m x.l a d b
  | 0,_,_,_,_=>rfl
  | m+1,x,a,d,b=>by
    rw [symMergeU_r,gSym]
    simp only [symMergeU_eq m,rotateU_eq]
    rfl
theorem symMergeU_lk (m:Nat) {x:SrtU} (hk:LkU x x.l) {a d b:Int} (h:(b - a).toNat<m∧0≤a∧a<d∧d<b∧b≤x.l.length):LkU x (symMergeU_r m x a d b):=by
 rw [symMergeU_eq]
 exact hk.pm (gSym_pm (RU x) m h.1 h.2)

theorem ok_sort_symMerge_func_U (x0:SrtU) (x1:Int) (x2:Int) (x3:Int) (hx:x0.l.length≤255) (hk:LkU x0 x0.l) (hab:0≤x1∧x1<x2∧x2<x3∧x3≤x0.l.length):FnMT Try.prog 196 [.agg [.clo 121 [.vp 900001 0],.clo 194 [.own 900000,.k Try.prog.globals.size 94]],.int .i64 x1,.int .i64 x2,.int .i64 x3] [.arr 4 x0.l.length (rowOf (cUnion true) x0.l),.var [.own 900002,.own 900000],.arr 6 x0.c0.length (rowOf (cPerson true) x0.c0)] (C196U x0 x1 x2 x3 (symMergeU x0 x1 x2 x3)):=by
 have all:∀ (m:Nat) (x0:SrtU) (x1:Int) (x2:Int) (x3:Int) (hx:x0.l.length≤255) (hk:LkU x0 x0.l) (hab:0≤x1∧x1<x2∧x2<x3∧x3≤x0.l.length) (hm:(x3 - x1).toNat<m),FnMT Try.prog 196 [.agg [.clo 121 [.vp 900001 0],.clo 194 [.own 900000,.k Try.prog.globals.size 94]],.int .i64 x1,.int .i64 x2,.int .i64 x3] [.arr 4 x0.l.length (rowOf (cUnion true) x0.l),.var [.own 900002,.own 900000],.arr 6 x0.c0.length (rowOf (cPerson true) x0.c0)] (C196U x0 x1 x2 x3 (symMergeU_r m x0 x1 x2 x3)):=by
  intro m;induction m
  ·intros;exact absurd (by assumption) (Nat.not_lt_zero _)
  rename_i m ih
  intro x0 x1 x2 x3 hx hk hab hm
  have aux:∀ R,symMergeU_r (m+1) x0 x1 x2 x3=R→slim (C196U x0 x1 x2 x3 R) (A196U m x0 x1 x2 x3) []:=by
   intro R hR
   rw [symMergeU_r] at hR
   refine rg trivial ?_
   refine rg ⟨by (have h9:=(hk).2;intros;(try simp only [decide_eq_true_eq,decide_eq_false_iff_not,Bool.and_eq_true,Bool.not_eq_true',swp_len,inR] at *);first | done | omega),trivial⟩ ?_
   revert hR;refine cd (fun hc1 hR=>?_) fun hc1 hR=>?_
   ·
     refine rg trivial ?_
     revert hR;refine jN (fun v=>x2≤v∧v≤x3) (fun F101 hR hJ101=>?_) (fun j1 hR hJ1=>?_)
     ·
       revert hR;refine lW (fun v=>x2≤v.1∧v.1≤v.2∧v.2≤x3) (fun v=>(v.2 - (v.1)).toNat) (by (intros;omega)) (Nat.lt_succ_self _) rfl fun m1 v1 F1 hI1 hM1 hR hK1=>?_
       refine rg trivial ?_
       revert hR;refine cd (fun hc2 hR=>?_) fun hc2 hR=>?_
       ·
         refine rg ⟨by (have h9:=(hk).2;intros;(try simp only [decide_eq_true_eq,decide_eq_false_iff_not,Bool.and_eq_true,Bool.not_eq_true',swp_len,inR] at *);first | done | omega),by (have h9:=(hk).2;intros;(try simp only [decide_eq_true_eq,decide_eq_false_iff_not,Bool.and_eq_true,Bool.not_eq_true',swp_len,inR] at *);first | done | omega),by ((simp only [IntKind.bits];omega)),by (have h9:=(hk).2;intros;(try simp only [decide_eq_true_eq,decide_eq_false_iff_not,Bool.and_eq_true,Bool.not_eq_true',swp_len,inR] at *);first | done | omega),⟨by (have h9:=(hk).2;intros;(try simp only [decide_eq_true_eq,decide_eq_false_iff_not,Bool.and_eq_true,Bool.not_eq_true',swp_len,inR] at *);first | done | omega),by (have h9:=(hk).2;intros;(try simp only [decide_eq_true_eq,decide_eq_false_iff_not,Bool.and_eq_true,Bool.not_eq_true',swp_len,inR] at *);first | done | omega)⟩,trivial⟩ ?_
         revert hR;refine cd (fun hc3 hR=>?_) fun hc3 hR=>?_
         ·
           refine rg ⟨by (have h9:=(hk).2;intros;(try simp only [decide_eq_true_eq,decide_eq_false_iff_not,Bool.and_eq_true,Bool.not_eq_true',swp_len,inR] at *);first | done | omega),trivial⟩ ?_
           exact hK1 (((v1.1+v1.2) / 2 ^ 1)+1,v1.2) (by (have h9:=(hk).2;intros;(try simp only [decide_eq_true_eq,decide_eq_false_iff_not,Bool.and_eq_true,Bool.not_eq_true',swp_len,inR] at *);first | done | omega)) (by (have h9:=(hk).2;intros;(try simp only [decide_eq_true_eq,decide_eq_false_iff_not,Bool.and_eq_true,Bool.not_eq_true',swp_len,inR] at *);first | done | omega)) hR
         ·
           refine rg trivial ?_
           exact hK1 (v1.1,(v1.1+v1.2) / 2 ^ 1) (by (intros;omega)) (by (have h9:=(hk).2;intros;(try simp only [decide_eq_true_eq,decide_eq_false_iff_not,Bool.and_eq_true,Bool.not_eq_true',swp_len,inR] at *);first | done | omega)) hR
       ·
         exact hJ101 v1.1 hR (by (intros;omega))
     ·
       refine rg trivial ?_
       revert hR;refine lW (fun v=>x1≤v.1∧LkU x0 v.2) (fun v=>(j1 - (v.1)).toNat) (by (have h9:=(hk).2;refine ⟨by ((try dsimp only);intros;(try simp only [decide_eq_true_eq,decide_eq_false_iff_not,Bool.and_eq_true,Bool.not_eq_true',swp_len,inR] at *);first | done | omega),hk⟩)) (Nat.lt_succ_self _) rfl fun m2 v2 F2 hI2 hM2 hR hK2=>?_
       refine rg ⟨by (have h9:=(hk).2;intros;(try simp only [decide_eq_true_eq,decide_eq_false_iff_not,Bool.and_eq_true,Bool.not_eq_true',swp_len,inR] at *);first | done | omega),trivial⟩ ?_
       revert hR;refine cd (fun hc4 hR=>?_) fun hc4 hR=>?_
       ·
         refine rg ⟨by (have h9:=(hk).2;intros;(try simp only [decide_eq_true_eq,decide_eq_false_iff_not,Bool.and_eq_true,Bool.not_eq_true',swp_len,inR] at *);first | done | omega),⟨by (have h9:=(hI2.2).2;intros;(try simp only [decide_eq_true_eq,decide_eq_false_iff_not,Bool.and_eq_true,Bool.not_eq_true',swp_len,inR] at *);first | done | omega),by (have h9:=(hI2.2).2;intros;(try simp only [decide_eq_true_eq,decide_eq_false_iff_not,Bool.and_eq_true,Bool.not_eq_true',swp_len,inR] at *);first | done | omega)⟩,trivial⟩ ?_
         refine rg ⟨by (have h9:=(hk).2;intros;(try simp only [decide_eq_true_eq,decide_eq_false_iff_not,Bool.and_eq_true,Bool.not_eq_true',swp_len,inR] at *);first | done | omega),trivial⟩ ?_
         exact hK2 (v2.1+1,(swp v2.2 v2.1 (v2.1+1))) (by (have h9:=(hI2.2).2;intros;(try simp only [decide_eq_true_eq,decide_eq_false_iff_not,Bool.and_eq_true,Bool.not_eq_true',swp_len,inR] at *);refine ⟨by ((try dsimp only);omega),(hI2.2).swp ⟨by omega,by omega⟩ ⟨by omega,by omega⟩⟩)) (by (have h9:=(hk).2;intros;(try simp only [decide_eq_true_eq,decide_eq_false_iff_not,Bool.and_eq_true,Bool.not_eq_true',swp_len,inR] at *);first | done | omega)) hR
       ·
         exact congrArg (C196U x0 x1 x2 x3) hR
   ·
     refine rg ⟨by (have h9:=(hk).2;intros;(try simp only [decide_eq_true_eq,decide_eq_false_iff_not,Bool.and_eq_true,Bool.not_eq_true',swp_len,inR] at *);first | done | omega),trivial⟩ ?_
     revert hR;refine cd (fun hc5 hR=>?_) fun hc5 hR=>?_
     ·
       refine rg trivial ?_
       revert hR;refine jN (fun v=>x1≤v∧v≤x2) (fun F102 hR hJ102=>?_) (fun j2 hR hJ2=>?_)
       ·
         revert hR;refine lW (fun v=>x1≤v.1∧v.1≤v.2∧v.2≤x2) (fun v=>(v.2 - (v.1)).toNat) (by (intros;omega)) (Nat.lt_succ_self _) rfl fun m3 v3 F3 hI3 hM3 hR hK3=>?_
         refine rg trivial ?_
         revert hR;refine cd (fun hc6 hR=>?_) fun hc6 hR=>?_
         ·
           refine rg ⟨by (have h9:=(hk).2;intros;(try simp only [decide_eq_true_eq,decide_eq_false_iff_not,Bool.and_eq_true,Bool.not_eq_true',swp_len,inR] at *);first | done | omega),by (have h9:=(hk).2;intros;(try simp only [decide_eq_true_eq,decide_eq_false_iff_not,Bool.and_eq_true,Bool.not_eq_true',swp_len,inR] at *);first | done | omega),by ((simp only [IntKind.bits];omega)),by (have h9:=(hk).2;intros;(try simp only [decide_eq_true_eq,decide_eq_false_iff_not,Bool.and_eq_true,Bool.not_eq_true',swp_len,inR] at *);first | done | omega),⟨by (have h9:=(hk).2;intros;(try simp only [decide_eq_true_eq,decide_eq_false_iff_not,Bool.and_eq_true,Bool.not_eq_true',swp_len,inR] at *);first | done | omega),by (have h9:=(hk).2;intros;(try simp only [decide_eq_true_eq,decide_eq_false_iff_not,Bool.and_eq_true,Bool.not_eq_true',swp_len,inR] at *);first | done | omega)⟩,trivial⟩ ?_
           revert hR;refine cd (fun hc7 hR=>?_) fun hc7 hR=>?_
           ·
             refine rg ⟨by (have h9:=(hk).2;intros;(try simp only [decide_eq_true_eq,decide_eq_false_iff_not,Bool.and_eq_true,Bool.not_eq_true',swp_len,inR] at *);first | done | omega),trivial⟩ ?_
             exact hK3 (((v3.1+v3.2) / 2 ^ 1)+1,v3.2) (by (have h9:=(hk).2;intros;(try simp only [decide_eq_true_eq,decide_eq_false_iff_not,Bool.and_eq_true,Bool.not_eq_true',swp_len,inR] at *);first | done | omega)) (by (have h9:=(hk).2;intros;(try simp only [decide_eq_true_eq,decide_eq_false_iff_not,Bool.and_eq_true,Bool.not_eq_true',swp_len,inR] at *);first | done | omega)) hR
           ·
             refine rg trivial ?_
             exact hK3 (v3.1,(v3.1+v3.2) / 2 ^ 1) (by (intros;omega)) (by (have h9:=(hk).2;intros;(try simp only [decide_eq_true_eq,decide_eq_false_iff_not,Bool.and_eq_true,Bool.not_eq_true',swp_len,inR] at *);first | done | omega)) hR
         ·
           exact hJ102 v3.1 hR (by (intros;omega))
       ·
         refine rg trivial ?_
         revert hR;refine lW (fun v=>v.1≤x2∧LkU x0 v.2) (fun v=>(v.1 - (j2)).toNat) (by (have h9:=(hk).2;refine ⟨by ((try dsimp only);intros;(try simp only [decide_eq_true_eq,decide_eq_false_iff_not,Bool.and_eq_true,Bool.not_eq_true',swp_len,inR] at *);first | done | omega),hk⟩)) (Nat.lt_succ_self _) rfl fun m4 v4 F4 hI4 hM4 hR hK4=>?_
         refine rg trivial ?_
         revert hR;refine cd (fun hc8 hR=>?_) fun hc8 hR=>?_
         ·
           refine rg ⟨by (have h9:=(hk).2;intros;(try simp only [decide_eq_true_eq,decide_eq_false_iff_not,Bool.and_eq_true,Bool.not_eq_true',swp_len,inR] at *);first | done | omega),⟨by (have h9:=(hI4.2).2;intros;(try simp only [decide_eq_true_eq,decide_eq_false_iff_not,Bool.and_eq_true,Bool.not_eq_true',swp_len,inR] at *);first | done | omega),by (have h9:=(hI4.2).2;intros;(try simp only [decide_eq_true_eq,decide_eq_false_iff_not,Bool.and_eq_true,Bool.not_eq_true',swp_len,inR] at *);first | done | omega)⟩,trivial⟩ ?_
           refine rg ⟨by (have h9:=(hk).2;intros;(try simp only [decide_eq_true_eq,decide_eq_false_iff_not,Bool.and_eq_true,Bool.not_eq_true',swp_len,inR] at *);first | done | omega),trivial⟩ ?_
           exact hK4 (v4.1 - 1,(swp v4.2 v4.1 (v4.1 - 1))) (by (have h9:=(hI4.2).2;intros;(try simp only [decide_eq_true_eq,decide_eq_false_iff_not,Bool.and_eq_true,Bool.not_eq_true',swp_len,inR] at *);refine ⟨by ((try dsimp only);omega),(hI4.2).swp ⟨by omega,by omega⟩ ⟨by omega,by omega⟩⟩)) (by (have h9:=(hk).2;intros;(try simp only [decide_eq_true_eq,decide_eq_false_iff_not,Bool.and_eq_true,Bool.not_eq_true',swp_len,inR] at *);first | done | omega)) hR
         ·
           exact congrArg (C196U x0 x1 x2 x3) hR
     ·
       refine rg ⟨by (have h9:=(hk).2;intros;(try simp only [decide_eq_true_eq,decide_eq_false_iff_not,Bool.and_eq_true,Bool.not_eq_true',swp_len,inR] at *);first | done | omega),by (have h9:=(hk).2;intros;(try simp only [decide_eq_true_eq,decide_eq_false_iff_not,Bool.and_eq_true,Bool.not_eq_true',swp_len,inR] at *);first | done | omega),by ((simp only [IntKind.bits];omega)),by (have h9:=(hk).2;intros;(try simp only [decide_eq_true_eq,decide_eq_false_iff_not,Bool.and_eq_true,Bool.not_eq_true',swp_len,inR] at *);first | done | omega),by (have h9:=(hk).2;intros;(try simp only [decide_eq_true_eq,decide_eq_false_iff_not,Bool.and_eq_true,Bool.not_eq_true',swp_len,inR] at *);first | done | omega),trivial⟩ ?_
       revert hR;refine jN (fun v=>(x1≤v.1∧v.1≤v.2∧v.2≤x2)∧v.2≤((x1+x3) / 2 ^ 1)∧((x1+x3) / 2 ^ 1)+x2 - v.1≤x3) (fun F103 hR hJ103=>?_) (fun j3 hR hJ3=>?_)
       ·
         refine rg trivial ?_
         revert hR;refine cd (fun hc9 hR=>?_) fun hc9 hR=>?_
         ·
           refine rg ⟨by (have h9:=(hk).2;intros;(try simp only [decide_eq_true_eq,decide_eq_false_iff_not,Bool.and_eq_true,Bool.not_eq_true',swp_len,inR] at *);first | done | omega),trivial⟩ ?_
           refine rg trivial ?_
           exact hJ103 ((((x1+x3) / 2 ^ 1)+x2) - x3,(x1+x3) / 2 ^ 1) hR (by (have h9:=(hk).2;intros;(try simp only [decide_eq_true_eq,decide_eq_false_iff_not,Bool.and_eq_true,Bool.not_eq_true',swp_len,inR] at *);first | done | omega))
         ·
           refine rg trivial ?_
           refine rg trivial ?_
           exact hJ103 (x1,x2) hR (by (have h9:=(hk).2;intros;(try simp only [decide_eq_true_eq,decide_eq_false_iff_not,Bool.and_eq_true,Bool.not_eq_true',swp_len,inR] at *);first | done | omega))
       ·
         refine rg ⟨by (have h9:=(hk).2;intros;(try simp only [decide_eq_true_eq,decide_eq_false_iff_not,Bool.and_eq_true,Bool.not_eq_true',swp_len,inR] at *);first | done | omega),trivial⟩ ?_
         revert hR;refine jN (fun v=>j3.1≤v∧v≤j3.2) (fun F104 hR hJ104=>?_) (fun j4 hR hJ4=>?_)
         ·
           revert hR;refine lW (fun v=>j3.1≤v.1∧v.1≤v.2∧v.2≤j3.2) (fun v=>(v.2 - (v.1)).toNat) (by (intros;omega)) (Nat.lt_succ_self _) rfl fun m5 v5 F5 hI5 hM5 hR hK5=>?_
           refine rg trivial ?_
           revert hR;refine cd (fun hc10 hR=>?_) fun hc10 hR=>?_
           ·
             refine rg ⟨by (have h9:=(hk).2;intros;(try simp only [decide_eq_true_eq,decide_eq_false_iff_not,Bool.and_eq_true,Bool.not_eq_true',swp_len,inR] at *);first | done | omega),by (have h9:=(hk).2;intros;(try simp only [decide_eq_true_eq,decide_eq_false_iff_not,Bool.and_eq_true,Bool.not_eq_true',swp_len,inR] at *);first | done | omega),by ((simp only [IntKind.bits];omega)),by (have h9:=(hk).2;intros;(try simp only [decide_eq_true_eq,decide_eq_false_iff_not,Bool.and_eq_true,Bool.not_eq_true',swp_len,inR] at *);first | done | omega),by (have h9:=(hk).2;intros;(try simp only [decide_eq_true_eq,decide_eq_false_iff_not,Bool.and_eq_true,Bool.not_eq_true',swp_len,inR] at *);first | done | omega),⟨by (have h9:=(hk).2;intros;(try simp only [decide_eq_true_eq,decide_eq_false_iff_not,Bool.and_eq_true,Bool.not_eq_true',swp_len,inR] at *);first | done | omega),by (have h9:=(hk).2;intros;(try simp only [decide_eq_true_eq,decide_eq_false_iff_not,Bool.and_eq_true,Bool.not_eq_true',swp_len,inR] at *);first | done | omega)⟩,trivial⟩ ?_
             revert hR;refine cd (fun hc11 hR=>?_) fun hc11 hR=>?_
             ·
               refine rg ⟨by (have h9:=(hk).2;intros;(try simp only [decide_eq_true_eq,decide_eq_false_iff_not,Bool.and_eq_true,Bool.not_eq_true',swp_len,inR] at *);first | done | omega),trivial⟩ ?_
               exact hK5 (((v5.1+v5.2) / 2 ^ 1)+1,v5.2) (by (have h9:=(hk).2;intros;(try simp only [decide_eq_true_eq,decide_eq_false_iff_not,Bool.and_eq_true,Bool.not_eq_true',swp_len,inR] at *);first | done | omega)) (by (have h9:=(hk).2;intros;(try simp only [decide_eq_true_eq,decide_eq_false_iff_not,Bool.and_eq_true,Bool.not_eq_true',swp_len,inR] at *);first | done | omega)) hR
             ·
               refine rg trivial ?_
               exact hK5 (v5.1,(v5.1+v5.2) / 2 ^ 1) (by (intros;omega)) (by (have h9:=(hk).2;intros;(try simp only [decide_eq_true_eq,decide_eq_false_iff_not,Bool.and_eq_true,Bool.not_eq_true',swp_len,inR] at *);first | done | omega)) hR
           ·
             exact hJ104 v5.1 hR (by (intros;omega))
         ·
           refine rg ⟨by (have h9:=(hk).2;intros;(try simp only [decide_eq_true_eq,decide_eq_false_iff_not,Bool.and_eq_true,Bool.not_eq_true',swp_len,inR] at *);first | done | omega),trivial⟩ ?_
           revert hR;refine jN (fun v=>LkU x0 v) (fun F105 hR hJ105=>?_) (fun j5 hR hJ5=>?_)
           ·
             refine rg trivial ?_
             revert hR;refine cd (fun hc12 hR=>?_) fun hc12 hR=>?_
             ·
               refine rg ⟨⟨by with_reducible assumption,by with_reducible assumption,by (have h9:=(hk).2;intros;(try simp only [decide_eq_true_eq,decide_eq_false_iff_not,Bool.and_eq_true,Bool.not_eq_true',swp_len,inR] at *);first | done | omega)⟩,trivial⟩ ?_
               exact hJ105 (rotateU x0 j4 x2 ((((x1+x3) / 2 ^ 1)+x2) - j4)) hR (by (have h9:=hk.2;intros;(try simp only [decide_eq_true_eq,decide_eq_false_iff_not,Bool.and_eq_true,Bool.not_eq_true',swp_len,inR] at *);exact rotateU_lk hk ⟨by omega,by omega,by omega,by omega⟩))
             ·
               exact hJ105 x0.l hR (by with_reducible assumption)
           ·
             revert hR;refine jN (fun v=>LkU x0 v) (fun F106 hR hJ106=>?_) (fun j6 hR hJ6=>?_)
             ·
               refine rg trivial ?_
               revert hR;refine cd (fun hc13 hR=>?_) fun hc13 hR=>?_
               ·
                 refine rg ⟨ih (SrtU.mk x0.c0 j5) x1 j4 ((x1+x3) / 2 ^ 1) (by (have h9:=(hJ5).2;intros;(try simp only [decide_eq_true_eq,decide_eq_false_iff_not,Bool.and_eq_true,Bool.not_eq_true',swp_len,inR] at *);first | done | omega)) (by (exact (hJ5).me)) (by (have h9:=(hJ5).2;intros;(try simp only [decide_eq_true_eq,decide_eq_false_iff_not,Bool.and_eq_true,Bool.not_eq_true',swp_len,inR] at *);first | done | omega)) (by (intros;omega)),trivial⟩ ?_
                 exact hJ106 (symMergeU_r m (SrtU.mk x0.c0 j5) x1 j4 ((x1+x3) / 2 ^ 1)) hR (by (have h9:=(hJ5).2;intros;(try simp only [decide_eq_true_eq,decide_eq_false_iff_not,Bool.and_eq_true,Bool.not_eq_true',swp_len,inR] at *);exact (hJ5).of (symMergeU_lk _ (hJ5).me (by ((try dsimp only);omega)))))
               ·
                 exact hJ106 j5 hR (by with_reducible assumption)
             ·
               refine rg trivial ?_
               revert hR;refine cd (fun hc14 hR=>?_) fun hc14 hR=>?_
               ·
                 refine rg ⟨ih (SrtU.mk x0.c0 j6) ((x1+x3) / 2 ^ 1) ((((x1+x3) / 2 ^ 1)+x2) - j4) x3 (by (have h9:=(hJ6).2;intros;(try simp only [decide_eq_true_eq,decide_eq_false_iff_not,Bool.and_eq_true,Bool.not_eq_true',swp_len,inR] at *);first | done | omega)) (by (exact (hJ6).me)) (by (have h9:=(hJ6).2;intros;(try simp only [decide_eq_true_eq,decide_eq_false_iff_not,Bool.and_eq_true,Bool.not_eq_true',swp_len,inR] at *);first | done | omega)) (by (intros;omega)),trivial⟩ ?_
                 exact congrArg (C196U x0 x1 x2 x3) hR
               ·
                 exact congrArg (C196U x0 x1 x2 x3) hR
  exact FnM.go 177 Try.func196 (by kernel_rfl) (by kernel_rfl) (A196U m x0 x1 x2 x3) (by kernel_rfl) (aux _ rfl)
 exact all 256 x0 x1 x2 x3 hx hk hab (by omega)
def k196U (d:Nat) (ids:List Nat) (x0:SrtU) (x1:Int) (x2:Int) (x3:Int):Cl:=(hresM d ids (C196U x0 x1 x2 x3 (symMergeU x0 x1 x2 x3)),k3 (ok_sort_symMerge_func_U x0 x1 x2 x3))
end Go.Proofs.Ytepefimocflfkaa
