import Derived.Test.YtlinnkjieghmhaaGreatDoorVS71
set_option maxHeartbeats 4000000
set_option linter.unusedSimpArgs false
set_option linter.unusedVariables false
namespace Go.Proofs.YtlinnkjieghmhaaGreatDoor
open Go Go.Lite Go.Proofs
def C92P (x0:yf) (x1:Int) (x2:Int) (x3:Int) (R:(List Int)):LV×List (Nat×BC):=(.tup [],[(900000,.arr 1 R.length (rowOf (cInt .i64) R)),(900001,.var [.ro false 6 x0.c0.people.length (rowOf (zbg false) x0.c0.people),.ro false 4 x0.c0.unions.length (rowOf (zbi false) x0.c0.unions)]),(900002,.var [.own 900000])])
def zcx : Nat → yf → Int → Int → Int → (List Int)
  | 0,_,_,_,_=>default
  | m+1,x0,x1,x2,x3=>bif (decide ((x2 - x1)=1)) then (jn (fun K1=>loopW (fun (v1:Int×Int) next=>bif (decide (v1.1<v1.2)) then (bif (ze8 ((v1.1+v1.2) / 2 ^ 1) x1 x0.c0 x0.l) then (next (((v1.1+v1.2) / 2 ^ 1)+1,v1.2)) else (next (v1.1,(v1.1+v1.2) / 2 ^ 1))) else (K1 v1.1)) ((x3 - (x2)).toNat+1) (x2,x3)) (fun (j1:Int)=>loopW (fun (v2:Int×(List Int)) next=>bif (decide (v2.1<(j1 - 1))) then (next (v2.1+1,(swp v2.2 v2.1 (v2.1+1)))) else v2.2) ((j1 - (x1)).toNat+1) (x1,x0.l))) else (bif (decide ((x3 - x2)=1)) then (jn (fun K2=>loopW (fun (v3:Int×Int) next=>bif (decide (v3.1<v3.2)) then (bif (!(ze8 x2 ((v3.1+v3.2) / 2 ^ 1) x0.c0 x0.l)) then (next (((v3.1+v3.2) / 2 ^ 1)+1,v3.2)) else (next (v3.1,(v3.1+v3.2) / 2 ^ 1))) else (K2 v3.1)) ((x2 - (x1)).toNat+1) (x1,x2)) (fun (j2:Int)=>loopW (fun (v4:Int×(List Int)) next=>bif (decide (j2<v4.1)) then (next (v4.1 - 1,(swp v4.2 v4.1 (v4.1 - 1)))) else v4.2) ((x2 - (j2)).toNat+1) (x2,x0.l))) else (jn (fun K3=>bif (decide (((x1+x3) / 2 ^ 1)<x2)) then (K3 ((((x1+x3) / 2 ^ 1)+x2) - x3,(x1+x3) / 2 ^ 1)) else (K3 (x1,x2))) (fun (j3:Int×Int)=>jn (fun K4=>loopW (fun (v5:Int×Int) next=>bif (decide (v5.1<v5.2)) then (bif (!(ze8 (((((x1+x3) / 2 ^ 1)+x2) - 1) - ((v5.1+v5.2) / 2 ^ 1)) ((v5.1+v5.2) / 2 ^ 1) x0.c0 x0.l)) then (next (((v5.1+v5.2) / 2 ^ 1)+1,v5.2)) else (next (v5.1,(v5.1+v5.2) / 2 ^ 1))) else (K4 v5.1)) ((j3.2 - (j3.1)).toNat+1) (j3.1,j3.2)) (fun (j4:Int)=>jn (fun K5=>bif ((decide (j4<x2))&&(decide (x2<((((x1+x3) / 2 ^ 1)+x2) - j4)))) then (K5 (zh6 x0 j4 x2 ((((x1+x3) / 2 ^ 1)+x2) - j4))) else (K5 x0.l)) (fun (j5:(List Int))=>jn (fun K6=>bif ((decide (x1<j4))&&(decide (j4<((x1+x3) / 2 ^ 1)))) then (K6 (zcx m (yf.mk x0.c0 j5) x1 j4 ((x1+x3) / 2 ^ 1))) else (K6 j5)) (fun (j6:(List Int))=>bif ((decide (((x1+x3) / 2 ^ 1)<((((x1+x3) / 2 ^ 1)+x2) - j4)))&&(decide (((((x1+x3) / 2 ^ 1)+x2) - j4)<x3))) then (zcx m (yf.mk x0.c0 j6) ((x1+x3) / 2 ^ 1) ((((x1+x3) / 2 ^ 1)+x2) - j4) x3) else j6))))))
def ze4 (x0:yf) (x1:Int) (x2:Int) (x3:Int):(List Int):=zcx 256 x0 x1 x2 x3
def kr92P (m d:Nat) (ids:List Nat) (x0:yf) (x1:Int) (x2:Int) (x3:Int):Cl:=(hresM d ids (C92P x0 x1 x2 x3 (zcx m x0 x1 x2 x3)),pf (FnMT Tryz.prog 92 [.agg [.clo 56 [.vp 900001 0,.vp 900002 0],.clo 86 [.own 900000,.k Tryz.prog.globals.size 3]],.int .i64 x1,.int .i64 x2,.int .i64 x3] [.arr 1 x0.l.length (rowOf (cInt .i64) x0.l),.var [.ro false 6 x0.c0.people.length (rowOf (zbg false) x0.c0.people),.ro false 4 x0.c0.unions.length (rowOf (zbi false) x0.c0.unions)],.var [.own 900000]] (C92P x0 x1 x2 x3 (zcx m x0 x1 x2 x3))))
def z32 (j1:Int):Dl:=⟨[(8,.int .i64 j1)],[]⟩
def zw7 (v1:Int×Int):Dl:=⟨[(8,.int .i64 v1.1),(9,.int .i64 v1.2)],[]⟩
def A92Pb1 (x0:yf) (x1:Int) (v1:Int×Int):Ann:=let q2:=v1.1+v1.2;let q1:=q2 / 2 ^ 1;r0 1 [1,2,3,4,8,9,31] [4,900000,900001,900002] (cn (decide (v1.1<v1.2)) (.reg 2 [] [(1004,k56 q1 x1 x0.c0 x0.l)] [1,2,3,4,8,9,10,42] [4,900000,900001,900002] [] [pf (inR .i64 q2),pf (inR .u64 q2),pf (0≤(1:Int)∧1≤(IntKind.bits .u64:Int)),pf (inR .i64 q1)] [] [0,4,8,12,16] (cn (ze8 q1 x1 x0.c0 x0.l) (r1 1 [1,2,3,4,8,9] [4,900000,900001,900002] [pf (inR .i64 (q1+1))] [0] (.next 0 [] (zw7 (q1+1,v1.2)))) (r0 1 [1,2,3,4,8,9] [4,900000,900001,900002] (.next 0 [] (zw7 (v1.1,q2 / 2 ^ 1)))))) (.next 1 [] (z32 v1.1)))
def z1j (v2:Int×(List Int)):Dl:=⟨[(11,.int .i64 v2.1)],[(900000,.arr 1 v2.2.length (rowOf (cInt .i64) v2.2))]⟩
def A92Pb2 (x0:yf) (x1:Int) (x2:Int) (x3:Int) (j1:Int) (v2:Int×(List Int)):Ann:=let q1:=v2.1+1;r1 1 [1,2,3,4,8,11,50] [4,900000,900001,900002] [pf (inR .i64 (j1 - 1))] [0] (cn (decide (v2.1<(j1 - 1))) (.reg 1 [] [(5,kswP 504 [900000] v2.2 v2.1 q1)] [1,2,3,4,8,11] [4,900000,900001,900002] [] [pf (inR .i64 q1)] [] [0,4] (r1 1 [1,2,3,4,8,11] [4,900000,900001,900002] [pf (inR .i64 q1)] [0] (.next 0 [(900000,some 900000)] (z1j (v2.1+1,(swp v2.2 v2.1 q1)))))) (rt [(900000,some 900000),(900001,some 900001),(900002,some 900002)] (C92P x0 x1 x2 x3 v2.2)))
def A92Pj1 (x0:yf) (x1:Int) (x2:Int) (x3:Int) (j1:Int):Ann:=r0 1 [1,2,3,4,8,11] [4,900000,900001,900002] (.loop (Int×(List Int)) (z1j) [] [] [(900000,some 900000)] (z1j (x1,x0.l)) (A92Pb2 x0 x1 x2 x3 j1))
def z30 (j2:Int):Dl:=⟨[(12,.int .i64 j2)],[]⟩
def zw6 (v3:Int×Int):Dl:=⟨[(12,.int .i64 v3.1),(13,.int .i64 v3.2)],[]⟩
def A92Pb3 (x0:yf) (x2:Int) (v3:Int×Int):Ann:=let q2:=v3.1+v3.2;let q1:=q2 / 2 ^ 1;r0 1 [1,2,3,4,12,13,67] [4,900000,900001,900002] (cn (decide (v3.1<v3.2)) (.reg 2 [] [(1004,k56 x2 q1 x0.c0 x0.l)] [1,2,3,4,12,13,14,79] [4,900000,900001,900002] [] [pf (inR .i64 q2),pf (inR .u64 q2),pf (0≤(1:Int)∧1≤(IntKind.bits .u64:Int)),pf (inR .i64 q1)] [] [0,4,8,12,16] (cn (!(ze8 x2 q1 x0.c0 x0.l)) (r1 1 [1,2,3,4,12,13] [4,900000,900001,900002] [pf (inR .i64 (q1+1))] [0] (.next 0 [] (zw6 (q1+1,v3.2)))) (r0 1 [1,2,3,4,12,13] [4,900000,900001,900002] (.next 0 [] (zw6 (v3.1,q2 / 2 ^ 1)))))) (.next 1 [] (z30 v3.1)))
def z1i (v4:Int×(List Int)):Dl:=⟨[(15,.int .i64 v4.1)],[(900000,.arr 1 v4.2.length (rowOf (cInt .i64) v4.2))]⟩
def A92Pb4 (x0:yf) (x1:Int) (x2:Int) (x3:Int) (j2:Int) (v4:Int×(List Int)):Ann:=let q1:=v4.1 - 1;r0 1 [1,2,3,4,12,15,86] [4,900000,900001,900002] (cn (decide (j2<v4.1)) (.reg 1 [] [(5,kswP 504 [900000] v4.2 v4.1 q1)] [1,2,3,4,12,15] [4,900000,900001,900002] [] [pf (inR .i64 q1)] [] [0,4] (r1 1 [1,2,3,4,12,15] [4,900000,900001,900002] [pf (inR .i64 q1)] [0] (.next 0 [(900000,some 900000)] (z1i (v4.1 - 1,(swp v4.2 v4.1 q1)))))) (rt [(900000,some 900000),(900001,some 900001),(900002,some 900002)] (C92P x0 x1 x2 x3 v4.2)))
def A92Pj2 (x0:yf) (x1:Int) (x2:Int) (x3:Int) (j2:Int):Ann:=r0 1 [1,2,3,4,12,15] [4,900000,900001,900002] (.loop (Int×(List Int)) (z1i) [] [] [(900000,some 900000)] (z1i (x2,x0.l)) (A92Pb4 x0 x1 x2 x3 j2))
def z1h (j3:Int×Int):Dl:=⟨[(18,.int .i64 j3.1),(19,.int .i64 j3.2)],[]⟩
def z3z (j4:Int):Dl:=⟨[(18,.int .i64 j4)],[]⟩
def zw5 (v5:Int×Int):Dl:=⟨[(18,.int .i64 v5.1),(19,.int .i64 v5.2)],[]⟩
def A92Pb5 (x0:yf) (x1:Int) (x2:Int) (x3:Int) (v5:Int×Int):Ann:=let q3:=v5.1+v5.2;let q1:=q3 / 2 ^ 1;let q2:=((((x1+x3) / 2 ^ 1)+x2) - 1) - q1;r0 1 [1,2,3,4,16,17,18,19,20,117] [4,900000,900001,900002] (cn (decide (v5.1<v5.2)) (.reg 2 [] [(1006,k56 q2 q1 x0.c0 x0.l)] [1,2,3,4,16,17,18,19,20,21,131] [4,900000,900001,900002] [] [pf (inR .i64 q3),pf (inR .u64 q3),pf (0≤(1:Int)∧1≤(IntKind.bits .u64:Int)),pf (inR .i64 q1),pf (inR .i64 q2)] [] [0,4,8,12,16,20] (cn (!(ze8 q2 q1 x0.c0 x0.l)) (r1 1 [1,2,3,4,16,17,18,19,20] [4,900000,900001,900002] [pf (inR .i64 (q1+1))] [0] (.next 0 [] (zw5 (q1+1,v5.2)))) (r0 1 [1,2,3,4,16,17,18,19,20] [4,900000,900001,900002] (.next 0 [] (zw5 (v5.1,q3 / 2 ^ 1)))))) (.next 1 [] (z3z v5.1)))
def z1g (j5:(List Int)):Dl:=⟨[],[(900000,.arr 1 j5.length (rowOf (cInt .i64) j5))]⟩
def z1f (j6:(List Int)):Dl:=⟨[],[(900000,.arr 1 j6.length (rowOf (cInt .i64) j6))]⟩
def A92Pj6 (m:Nat) (x0:yf) (x1:Int) (x2:Int) (x3:Int) (j4:Int) (j6:(List Int)):Ann:=let q1:=(x1+x3) / 2 ^ 1;let q2:=(q1+x2) - j4;.reg 1 [] [] [3,4,16,22,171] [4,900000,900001,900002] [decide (q1<q2)] [] [] [1,1,1] (cn ((decide (q1<q2))&&(decide (q2<x3))) (.reg 1 [] [(4,kr92P m 176 [900000,900001,900002] (yf.mk x0.c0 j6) q1 q2 x3)] [] [900000,900001,900002] [] [] [] [0] (rt [(900000,some 900000),(900001,some 900001),(900002,some 900002)] (C92P x0 x1 x2 x3 (zcx m (yf.mk x0.c0 j6) q1 q2 x3)))) (rt [(900000,some 900000),(900001,some 900001),(900002,some 900002)] (C92P x0 x1 x2 x3 j6)))
def A92Pj5 (m:Nat) (x0:yf) (x1:Int) (x2:Int) (x3:Int) (j4:Int) (j5:(List Int)):Ann:=let q1:=(x1+x3) / 2 ^ 1;.join 0 (List Int) (z1f) [3,4,16,22] [4,900001,900002,900000] (.reg 1 [] [] [1,3,4,16,18,22,158] [4,900000,900001,900002] [decide (x1<j4)] [] [] [1,1,1] (cn ((decide (x1<j4))&&(decide (j4<q1))) (.reg 1 [] [(4,kr92P m 163 [900000,900001,900002] (yf.mk x0.c0 j5) x1 j4 q1)] [3,4,16,22] [4,900000,900001,900002] [] [] [] [0] (.next 0 [(900000,some 900000)] (z1f (zcx m (yf.mk x0.c0 j5) x1 j4 q1)))) (.next 0 [(900000,some 900000)] (z1f j5)))) (A92Pj6 m x0 x1 x2 x3 j4)
def A92Pj4 (m:Nat) (x0:yf) (x1:Int) (x2:Int) (x3:Int) (j4:Int):Ann:=let q1:=(((x1+x3) / 2 ^ 1)+x2) - j4;r1 1 [1,2,3,4,16,18,22] [4,900000,900001,900002] [pf (inR .i64 q1)] [0] (.join 0 (List Int) (z1g) [1,3,4,16,18,22] [4,900001,900002,900000] (.reg 1 [] [] [1,2,3,4,16,18,22,145] [4,900000,900001,900002] [decide (j4<x2)] [] [] [1,1,1] (cn ((decide (j4<x2))&&(decide (x2<q1))) (.reg 1 [] [(4,k109P 150 [900000,900001,900002] x0 j4 x2 q1)] [1,3,4,16,18,22] [4,900000,900001,900002] [] [] [] [0] (.next 0 [(900000,some 900000)] (z1g (zh6 x0 j4 x2 q1)))) (.next 0 [(900000,some 900000)] (z1g x0.l)))) (A92Pj5 m x0 x1 x2 x3 j4))
def A92Pj3 (m:Nat) (x0:yf) (x1:Int) (x2:Int) (x3:Int) (j3:Int×Int):Ann:=r1 1 [1,2,3,4,16,17,18,19,20] [4,900000,900001,900002] [pf (inR .i64 ((((x1+x3) / 2 ^ 1)+x2) - 1))] [0] (.join 0 Int (z3z) [1,2,3,4,16,17,18] [4,900001,900002,900000] (.loop (Int×Int) (zw5) [] [] [] (zw5 (j3.1,j3.2)) (A92Pb5 x0 x1 x2 x3)) (A92Pj4 m x0 x1 x2 x3))
def A92P (m:Nat) (x0:yf) (x1:Int) (x2:Int) (x3:Int):Ann:=let q1:=(x1+x3) / 2 ^ 1;r0 1 [1,2,3,4] [4,900000,900001,900002] (r1 1 [1,2,3,4,26] [4,900000,900001,900002] [pf (inR .i64 (x2 - x1))] [0] (cn (decide ((x2 - x1)=1)) (r0 2 [1,2,3,4,8,9] [4,900000,900001,900002] (.join 0 Int (z32) [1,2,3,4,8] [4,900001,900002,900000] (.loop (Int×Int) (zw7) [] [] [] (zw7 (x2,x3)) (A92Pb1 x0 x1)) (A92Pj1 x0 x1 x2 x3))) (r1 1 [1,2,3,4,62] [4,900000,900001,900002] [pf (inR .i64 (x3 - x2))] [0] (cn (decide ((x3 - x2)=1)) (r0 2 [1,2,3,4,12,13] [4,900000,900001,900002] (.join 0 Int (z30) [1,2,3,4,12] [4,900001,900002,900000] (.loop (Int×Int) (zw6) [] [] [] (zw6 (x1,x2)) (A92Pb3 x0 x2)) (A92Pj2 x0 x1 x2 x3))) (r1 3 [1,2,3,4,16,17] [4,900000,900001,900002] [pf (inR .i64 (x1+x3)),pf (inR .u64 (x1+x3)),pf (0≤(1:Int)∧1≤(IntKind.bits .u64:Int)),pf (inR .i64 q1),pf (inR .i64 (q1+x2))] [0,4,8,12,16] (.join 0 (Int×Int) (z1h) [1,2,3,4,16,17] [4,900001,900002,900000] (r0 1 [1,2,3,4,16,17,106] [4,900000,900001,900002] (cn (decide (q1<x2)) (r1 1 [1,2,3,4,16,17,18] [4,900000,900001,900002] [pf (inR .i64 ((q1+x2) - x3))] [0] (r0 1 [1,2,3,4,16,17,18,19] [4,900000,900001,900002] (.next 0 [] (z1h ((q1+x2) - x3,(x1+x3) / 2 ^ 1))))) (r0 1 [1,2,3,4,16,17,18] [4,900000,900001,900002] (r0 1 [1,2,3,4,16,17,18,19] [4,900000,900001,900002] (.next 0 [] (z1h (x1,x2))))))) (A92Pj3 m x0 x1 x2 x3)))))))
theorem zh2 : ∀ (m : Nat) (x : yf) (a d b : Int), zcx m x a d b = gSym (RP x) m x.l a d b
  | 0,_,_,_,_=>rfl
  | m+1,x,a,d,b=>by
    rw [zcx,gSym]
    simp only [zh2 m,zxp]
    rfl
theorem zh1 (m:Nat) {x:yf} (hk:LkP x x.l) {a d b:Int} (h:(b - a).toNat<m∧0≤a∧a<d∧d<b∧b≤x.l.length):LkP x (zcx m x a d b):=by
 rw [zh2]
 exact hk.pm (zpf (RP x) m h.1 h.2)

theorem zhh (x0:yf) (x1:Int) (x2:Int) (x3:Int) (hx:x0.l.length≤255) (hk:LkP x0 x0.l) (hab:0≤x1∧x1<x2∧x2<x3∧x3≤x0.l.length):FnMT Tryz.prog 92 [.agg [.clo 56 [.vp 900001 0,.vp 900002 0],.clo 86 [.own 900000,.k Tryz.prog.globals.size 3]],.int .i64 x1,.int .i64 x2,.int .i64 x3] [.arr 1 x0.l.length (rowOf (cInt .i64) x0.l),.var [.ro false 6 x0.c0.people.length (rowOf (zbg false) x0.c0.people),.ro false 4 x0.c0.unions.length (rowOf (zbi false) x0.c0.unions)],.var [.own 900000]] (C92P x0 x1 x2 x3 (ze4 x0 x1 x2 x3)):=by
 have all:∀ (m:Nat) (x0:yf) (x1:Int) (x2:Int) (x3:Int) (hx:x0.l.length≤255) (hk:LkP x0 x0.l) (hab:0≤x1∧x1<x2∧x2<x3∧x3≤x0.l.length) (hm:(x3 - x1).toNat<m),FnMT Tryz.prog 92 [.agg [.clo 56 [.vp 900001 0,.vp 900002 0],.clo 86 [.own 900000,.k Tryz.prog.globals.size 3]],.int .i64 x1,.int .i64 x2,.int .i64 x3] [.arr 1 x0.l.length (rowOf (cInt .i64) x0.l),.var [.ro false 6 x0.c0.people.length (rowOf (zbg false) x0.c0.people),.ro false 4 x0.c0.unions.length (rowOf (zbi false) x0.c0.unions)],.var [.own 900000]] (C92P x0 x1 x2 x3 (zcx m x0 x1 x2 x3)):=by
  intro m;induction m
  ·intros;exact absurd za5 (Nat.not_lt_zero _)
  rename_i m ih
  intro x0 x1 x2 x3 hx hk hab hm
  have aux:∀ R,zcx (m+1) x0 x1 x2 x3=R→slim (C92P x0 x1 x2 x3 R) (A92P m x0 x1 x2 x3) []:=by
   intro R hR
   rw [zcx] at hR
   refine rg trivial ?_
   refine rg ⟨by (have h9:=(hk).2;intros;(try simp only [decide_eq_true_eq,decide_eq_false_iff_not,Bool.and_eq_true,Bool.not_eq_true',zba,inR] at *);first | done | omega),trivial⟩ ?_
   revert hR;refine cd (fun hc1 hR=>?_) fun hc1 hR=>?_
   ·
     refine rg trivial ?_
     revert hR;refine jN (fun v=>x2≤v∧v≤x3) (fun F101 hR hJ101=>?_) (fun j1 hR hJ1=>?_)
     ·
       revert hR;refine lW (fun v=>x2≤v.1∧v.1≤v.2∧v.2≤x3) (fun v=>(v.2 - (v.1)).toNat) zar (Nat.lt_succ_self _) rfl fun m1 v1 F1 hI1 hM1 hR hK1=>?_
       refine rg trivial ?_
       revert hR;refine cd (fun hc2 hR=>?_) fun hc2 hR=>?_
       ·
         refine rg ⟨by (have h9:=(hk).2;intros;(try simp only [decide_eq_true_eq,decide_eq_false_iff_not,Bool.and_eq_true,Bool.not_eq_true',zba,inR] at *);first | done | omega),by (have h9:=(hk).2;intros;(try simp only [decide_eq_true_eq,decide_eq_false_iff_not,Bool.and_eq_true,Bool.not_eq_true',zba,inR] at *);first | done | omega),by ((simp only [IntKind.bits];omega)),by (have h9:=(hk).2;intros;(try simp only [decide_eq_true_eq,decide_eq_false_iff_not,Bool.and_eq_true,Bool.not_eq_true',zba,inR] at *);first | done | omega),⟨by (have h9:=(hk).2;intros;(try simp only [decide_eq_true_eq,decide_eq_false_iff_not,Bool.and_eq_true,Bool.not_eq_true',zba,inR] at *);first | done | omega),by (intros;omega),by (exact (hk).1)⟩,trivial⟩ ?_
         revert hR;refine cd (fun hc3 hR=>?_) fun hc3 hR=>?_
         ·
           refine rg ⟨by (have h9:=(hk).2;intros;(try simp only [decide_eq_true_eq,decide_eq_false_iff_not,Bool.and_eq_true,Bool.not_eq_true',zba,inR] at *);first | done | omega),trivial⟩ ?_
           exact hK1 (((v1.1+v1.2) / 2 ^ 1)+1,v1.2) zan zan hR
         ·
           refine rg trivial ?_
           exact hK1 (v1.1,(v1.1+v1.2) / 2 ^ 1) zar zan hR
       ·
         exact hJ101 v1.1 hR zar
     ·
       refine rg trivial ?_
       revert hR;refine lW (fun v=>x1≤v.1∧LkP x0 v.2) (fun v=>(j1 - (v.1)).toNat) zak (Nat.lt_succ_self _) rfl fun m2 v2 F2 hI2 hM2 hR hK2=>?_
       refine rg ⟨by (have h9:=(hk).2;intros;(try simp only [decide_eq_true_eq,decide_eq_false_iff_not,Bool.and_eq_true,Bool.not_eq_true',zba,inR] at *);first | done | omega),trivial⟩ ?_
       revert hR;refine cd (fun hc4 hR=>?_) fun hc4 hR=>?_
       ·
         refine rg ⟨by (have h9:=(hk).2;intros;(try simp only [decide_eq_true_eq,decide_eq_false_iff_not,Bool.and_eq_true,Bool.not_eq_true',zba,inR] at *);first | done | omega),⟨by (have h9:=(hI2.2).2;intros;(try simp only [decide_eq_true_eq,decide_eq_false_iff_not,Bool.and_eq_true,Bool.not_eq_true',zba,inR] at *);first | done | omega),by (have h9:=(hI2.2).2;intros;(try simp only [decide_eq_true_eq,decide_eq_false_iff_not,Bool.and_eq_true,Bool.not_eq_true',zba,inR] at *);first | done | omega)⟩,trivial⟩ ?_
         refine rg ⟨by (have h9:=(hk).2;intros;(try simp only [decide_eq_true_eq,decide_eq_false_iff_not,Bool.and_eq_true,Bool.not_eq_true',zba,inR] at *);first | done | omega),trivial⟩ ?_
         exact hK2 (v2.1+1,(swp v2.2 v2.1 (v2.1+1))) zab zan hR
       ·
         exact congrArg (C92P x0 x1 x2 x3) hR
   ·
     refine rg ⟨by (have h9:=(hk).2;intros;(try simp only [decide_eq_true_eq,decide_eq_false_iff_not,Bool.and_eq_true,Bool.not_eq_true',zba,inR] at *);first | done | omega),trivial⟩ ?_
     revert hR;refine cd (fun hc5 hR=>?_) fun hc5 hR=>?_
     ·
       refine rg trivial ?_
       revert hR;refine jN (fun v=>x1≤v∧v≤x2) (fun F102 hR hJ102=>?_) (fun j2 hR hJ2=>?_)
       ·
         revert hR;refine lW (fun v=>x1≤v.1∧v.1≤v.2∧v.2≤x2) (fun v=>(v.2 - (v.1)).toNat) zar (Nat.lt_succ_self _) rfl fun m3 v3 F3 hI3 hM3 hR hK3=>?_
         refine rg trivial ?_
         revert hR;refine cd (fun hc6 hR=>?_) fun hc6 hR=>?_
         ·
           refine rg ⟨by (have h9:=(hk).2;intros;(try simp only [decide_eq_true_eq,decide_eq_false_iff_not,Bool.and_eq_true,Bool.not_eq_true',zba,inR] at *);first | done | omega),by (have h9:=(hk).2;intros;(try simp only [decide_eq_true_eq,decide_eq_false_iff_not,Bool.and_eq_true,Bool.not_eq_true',zba,inR] at *);first | done | omega),by ((simp only [IntKind.bits];omega)),by (have h9:=(hk).2;intros;(try simp only [decide_eq_true_eq,decide_eq_false_iff_not,Bool.and_eq_true,Bool.not_eq_true',zba,inR] at *);first | done | omega),⟨by (intros;omega),by (intros;omega),by (exact (hk).1)⟩,trivial⟩ ?_
           revert hR;refine cd (fun hc7 hR=>?_) fun hc7 hR=>?_
           ·
             refine rg ⟨by (have h9:=(hk).2;intros;(try simp only [decide_eq_true_eq,decide_eq_false_iff_not,Bool.and_eq_true,Bool.not_eq_true',zba,inR] at *);first | done | omega),trivial⟩ ?_
             exact hK3 (((v3.1+v3.2) / 2 ^ 1)+1,v3.2) zan zan hR
           ·
             refine rg trivial ?_
             exact hK3 (v3.1,(v3.1+v3.2) / 2 ^ 1) zar zan hR
         ·
           exact hJ102 v3.1 hR zar
       ·
         refine rg trivial ?_
         revert hR;refine lW (fun v=>v.1≤x2∧LkP x0 v.2) (fun v=>(v.1 - (j2)).toNat) zak (Nat.lt_succ_self _) rfl fun m4 v4 F4 hI4 hM4 hR hK4=>?_
         refine rg trivial ?_
         revert hR;refine cd (fun hc8 hR=>?_) fun hc8 hR=>?_
         ·
           refine rg ⟨by (have h9:=(hk).2;intros;(try simp only [decide_eq_true_eq,decide_eq_false_iff_not,Bool.and_eq_true,Bool.not_eq_true',zba,inR] at *);first | done | omega),⟨by (have h9:=(hI4.2).2;intros;(try simp only [decide_eq_true_eq,decide_eq_false_iff_not,Bool.and_eq_true,Bool.not_eq_true',zba,inR] at *);first | done | omega),by (have h9:=(hI4.2).2;intros;(try simp only [decide_eq_true_eq,decide_eq_false_iff_not,Bool.and_eq_true,Bool.not_eq_true',zba,inR] at *);first | done | omega)⟩,trivial⟩ ?_
           refine rg ⟨by (have h9:=(hk).2;intros;(try simp only [decide_eq_true_eq,decide_eq_false_iff_not,Bool.and_eq_true,Bool.not_eq_true',zba,inR] at *);first | done | omega),trivial⟩ ?_
           exact hK4 (v4.1 - 1,(swp v4.2 v4.1 (v4.1 - 1))) zac zan hR
         ·
           exact congrArg (C92P x0 x1 x2 x3) hR
     ·
       refine rg ⟨by (have h9:=(hk).2;intros;(try simp only [decide_eq_true_eq,decide_eq_false_iff_not,Bool.and_eq_true,Bool.not_eq_true',zba,inR] at *);first | done | omega),by (have h9:=(hk).2;intros;(try simp only [decide_eq_true_eq,decide_eq_false_iff_not,Bool.and_eq_true,Bool.not_eq_true',zba,inR] at *);first | done | omega),by ((simp only [IntKind.bits];omega)),by (have h9:=(hk).2;intros;(try simp only [decide_eq_true_eq,decide_eq_false_iff_not,Bool.and_eq_true,Bool.not_eq_true',zba,inR] at *);first | done | omega),by (have h9:=(hk).2;intros;(try simp only [decide_eq_true_eq,decide_eq_false_iff_not,Bool.and_eq_true,Bool.not_eq_true',zba,inR] at *);first | done | omega),trivial⟩ ?_
       revert hR;refine jN (fun v=>(x1≤v.1∧v.1≤v.2∧v.2≤x2)∧v.2≤((x1+x3) / 2 ^ 1)∧((x1+x3) / 2 ^ 1)+x2 - v.1≤x3) (fun F103 hR hJ103=>?_) (fun j3 hR hJ3=>?_)
       ·
         refine rg trivial ?_
         revert hR;refine cd (fun hc9 hR=>?_) fun hc9 hR=>?_
         ·
           refine rg ⟨by (have h9:=(hk).2;intros;(try simp only [decide_eq_true_eq,decide_eq_false_iff_not,Bool.and_eq_true,Bool.not_eq_true',zba,inR] at *);first | done | omega),trivial⟩ ?_
           refine rg trivial ?_
           exact hJ103 _ hR zan
         ·
           refine rg trivial ?_
           refine rg trivial ?_
           exact hJ103 _ hR zan
       ·
         refine rg ⟨by (have h9:=(hk).2;intros;(try simp only [decide_eq_true_eq,decide_eq_false_iff_not,Bool.and_eq_true,Bool.not_eq_true',zba,inR] at *);first | done | omega),trivial⟩ ?_
         revert hR;refine jN (fun v=>j3.1≤v∧v≤j3.2) (fun F104 hR hJ104=>?_) (fun j4 hR hJ4=>?_)
         ·
           revert hR;refine lW (fun v=>j3.1≤v.1∧v.1≤v.2∧v.2≤j3.2) (fun v=>(v.2 - (v.1)).toNat) zar (Nat.lt_succ_self _) rfl fun m5 v5 F5 hI5 hM5 hR hK5=>?_
           refine rg trivial ?_
           revert hR;refine cd (fun hc10 hR=>?_) fun hc10 hR=>?_
           ·
             refine rg ⟨by (have h9:=(hk).2;intros;(try simp only [decide_eq_true_eq,decide_eq_false_iff_not,Bool.and_eq_true,Bool.not_eq_true',zba,inR] at *);first | done | omega),by (have h9:=(hk).2;intros;(try simp only [decide_eq_true_eq,decide_eq_false_iff_not,Bool.and_eq_true,Bool.not_eq_true',zba,inR] at *);first | done | omega),by ((simp only [IntKind.bits];omega)),by (have h9:=(hk).2;intros;(try simp only [decide_eq_true_eq,decide_eq_false_iff_not,Bool.and_eq_true,Bool.not_eq_true',zba,inR] at *);first | done | omega),by (have h9:=(hk).2;intros;(try simp only [decide_eq_true_eq,decide_eq_false_iff_not,Bool.and_eq_true,Bool.not_eq_true',zba,inR] at *);first | done | omega),⟨by (intros;omega),by (intros;omega),by (exact (hk).1)⟩,trivial⟩ ?_
             revert hR;refine cd (fun hc11 hR=>?_) fun hc11 hR=>?_
             ·
               refine rg ⟨by (have h9:=(hk).2;intros;(try simp only [decide_eq_true_eq,decide_eq_false_iff_not,Bool.and_eq_true,Bool.not_eq_true',zba,inR] at *);first | done | omega),trivial⟩ ?_
               exact hK5 (((v5.1+v5.2) / 2 ^ 1)+1,v5.2) zan zan hR
             ·
               refine rg trivial ?_
               exact hK5 (v5.1,(v5.1+v5.2) / 2 ^ 1) zar zan hR
           ·
             exact hJ104 v5.1 hR zar
         ·
           refine rg ⟨by (have h9:=(hk).2;intros;(try simp only [decide_eq_true_eq,decide_eq_false_iff_not,Bool.and_eq_true,Bool.not_eq_true',zba,inR] at *);first | done | omega),trivial⟩ ?_
           revert hR;refine jN (fun v=>LkP x0 v) (fun F105 hR hJ105=>?_) (fun j5 hR hJ5=>?_)
           ·
             refine rg trivial ?_
             revert hR;refine cd (fun hc12 hR=>?_) fun hc12 hR=>?_
             ·
               refine rg ⟨⟨by with_reducible assumption,by with_reducible assumption,by (have h9:=(hk).2;intros;(try simp only [decide_eq_true_eq,decide_eq_false_iff_not,Bool.and_eq_true,Bool.not_eq_true',zba,inR] at *);first | done | omega)⟩,trivial⟩ ?_
               exact hJ105 _ hR (by (have h9:=hk.2;intros;(try simp only [decide_eq_true_eq,decide_eq_false_iff_not,Bool.and_eq_true,Bool.not_eq_true',zba,inR] at *);exact zxo hk ⟨om,om,om,om⟩))
             ·
               exact hJ105 x0.l hR za1
           ·
             revert hR;refine jN (fun v=>LkP x0 v) (fun F106 hR hJ106=>?_) (fun j6 hR hJ6=>?_)
             ·
               refine rg trivial ?_
               revert hR;refine cd (fun hc13 hR=>?_) fun hc13 hR=>?_
               ·
                 refine rg ⟨ih (yf.mk x0.c0 j5) x1 j4 ((x1+x3) / 2 ^ 1) zal (by (exact (hJ5).me)) zal zar,trivial⟩ ?_
                 exact hJ106 _ hR (by (have h9:=(hJ5).2;intros;(try simp only [decide_eq_true_eq,decide_eq_false_iff_not,Bool.and_eq_true,Bool.not_eq_true',zba,inR] at *);exact (hJ5).of (zh1 _ (hJ5).me zap)))
               ·
                 exact hJ106 j5 hR za1
             ·
               refine rg trivial ?_
               revert hR;refine cd (fun hc14 hR=>?_) fun hc14 hR=>?_
               ·
                 refine rg ⟨ih (yf.mk x0.c0 j6) ((x1+x3) / 2 ^ 1) ((((x1+x3) / 2 ^ 1)+x2) - j4) x3 zam (by (exact (hJ6).me)) zam zar,trivial⟩ ?_
                 exact congrArg (C92P x0 x1 x2 x3) hR
               ·
                 exact congrArg (C92P x0 x1 x2 x3) hR
  exact FnM.go 177 Tryz.func92 (by kernel_rfl) (by kernel_rfl) (A92P m x0 x1 x2 x3) (by kernel_rfl) (aux _ rfl)
 exact all 256 x0 x1 x2 x3 hx hk hab om
def k92P (d:Nat) (ids:List Nat) (x0:yf) (x1:Int) (x2:Int) (x3:Int):Cl:=(hresM d ids (C92P x0 x1 x2 x3 (ze4 x0 x1 x2 x3)),k3 (zhh x0 x1 x2 x3))
end Go.Proofs.YtlinnkjieghmhaaGreatDoor
