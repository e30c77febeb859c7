import Derived.Test.YtlinnkjieghmhaaGreatDoorVS91
set_option maxHeartbeats 4000000
set_option linter.unusedSimpArgs false
set_option linter.unusedVariables false
namespace Go.Proofs.YtlinnkjieghmhaaGreatDoor
open Go Go.Lite Go.Proofs
def C92W (x0:yj) (x1:Int) (x2:Int) (x3:Int) (R:(List yd)):LV×List (Nat×BC):=(.tup [],[(900000,.arr 6 R.length (rowOf (zbt true) R)),(900001,.var [.own 900000])])
def zcv : Nat → yj → Int → Int → Int → (List yd)
  | 0,_,_,_,_=>default
  | m+1,x0,x1,x2,x3=>bif (decide ((x2 - x1)=1)) then (jn (fun K1=>loopW (fun (v1:Int×Int) next=>bif (decide (v1.1<v1.2)) then (bif (zed ((v1.1+v1.2) / 2 ^ 1) x1 x0.l) then (next (((v1.1+v1.2) / 2 ^ 1)+1,v1.2)) else (next (v1.1,(v1.1+v1.2) / 2 ^ 1))) else (K1 v1.1)) ((x3 - (x2)).toNat+1) (x2,x3)) (fun (j1:Int)=>loopW (fun (v2:Int×(List yd)) next=>bif (decide (v2.1<(j1 - 1))) then (next (v2.1+1,(swp v2.2 v2.1 (v2.1+1)))) else v2.2) ((j1 - (x1)).toNat+1) (x1,x0.l))) else (bif (decide ((x3 - x2)=1)) then (jn (fun K2=>loopW (fun (v3:Int×Int) next=>bif (decide (v3.1<v3.2)) then (bif (!(zed x2 ((v3.1+v3.2) / 2 ^ 1) x0.l)) then (next (((v3.1+v3.2) / 2 ^ 1)+1,v3.2)) else (next (v3.1,(v3.1+v3.2) / 2 ^ 1))) else (K2 v3.1)) ((x2 - (x1)).toNat+1) (x1,x2)) (fun (j2:Int)=>loopW (fun (v4:Int×(List yd)) next=>bif (decide (j2<v4.1)) then (next (v4.1 - 1,(swp v4.2 v4.1 (v4.1 - 1)))) else v4.2) ((x2 - (j2)).toNat+1) (x2,x0.l))) else (jn (fun K3=>bif (decide (((x1+x3) / 2 ^ 1)<x2)) then (K3 ((((x1+x3) / 2 ^ 1)+x2) - x3,(x1+x3) / 2 ^ 1)) else (K3 (x1,x2))) (fun (j3:Int×Int)=>jn (fun K4=>loopW (fun (v5:Int×Int) next=>bif (decide (v5.1<v5.2)) then (bif (!(zed (((((x1+x3) / 2 ^ 1)+x2) - 1) - ((v5.1+v5.2) / 2 ^ 1)) ((v5.1+v5.2) / 2 ^ 1) x0.l)) then (next (((v5.1+v5.2) / 2 ^ 1)+1,v5.2)) else (next (v5.1,(v5.1+v5.2) / 2 ^ 1))) else (K4 v5.1)) ((j3.2 - (j3.1)).toNat+1) (j3.1,j3.2)) (fun (j4:Int)=>jn (fun K5=>bif ((decide (j4<x2))&&(decide (x2<((((x1+x3) / 2 ^ 1)+x2) - j4)))) then (K5 (zh4 x0 j4 x2 ((((x1+x3) / 2 ^ 1)+x2) - j4))) else (K5 x0.l)) (fun (j5:(List yd))=>jn (fun K6=>bif ((decide (x1<j4))&&(decide (j4<((x1+x3) / 2 ^ 1)))) then (K6 (zcv m (yj.mk j5) x1 j4 ((x1+x3) / 2 ^ 1))) else (K6 j5)) (fun (j6:(List yd))=>bif ((decide (((x1+x3) / 2 ^ 1)<((((x1+x3) / 2 ^ 1)+x2) - j4)))&&(decide (((((x1+x3) / 2 ^ 1)+x2) - j4)<x3))) then (zcv m (yj.mk j6) ((x1+x3) / 2 ^ 1) ((((x1+x3) / 2 ^ 1)+x2) - j4) x3) else j6))))))
def ze2 (x0:yj) (x1:Int) (x2:Int) (x3:Int):(List yd):=zcv 256 x0 x1 x2 x3
def kr92W (m d:Nat) (ids:List Nat) (x0:yj) (x1:Int) (x2:Int) (x3:Int):Cl:=(hresM d ids (C92W x0 x1 x2 x3 (zcv m x0 x1 x2 x3)),pf (FnMT Tryz.prog 92 [.agg [.clo 52 [.vp 900001 0],.clo 90 [.own 900000,.k Tryz.prog.globals.size 65]],.int .i64 x1,.int .i64 x2,.int .i64 x3] [.arr 6 x0.l.length (rowOf (zbt true) x0.l),.var [.own 900000]] (C92W x0 x1 x2 x3 (zcv m x0 x1 x2 x3))))
def z3v (j1:Int):Dl:=⟨[(8,.int .i64 j1)],[]⟩
def zw1 (v1:Int×Int):Dl:=⟨[(8,.int .i64 v1.1),(9,.int .i64 v1.2)],[]⟩
def A92Wb1 (x0:yj) (x1:Int) (v1:Int×Int):Ann:=let q2:=v1.1+v1.2;let q1:=q2 / 2 ^ 1;r0 1 [1,2,3,4,8,9,31] [4,900000,900001] (cn (decide (v1.1<v1.2)) (.reg 2 [] [(1004,k52 q1 x1 x0.l)] [1,2,3,4,8,9,10,42] [4,900000,900001] [] [pf (inR .i64 q2),pf (inR .u64 q2),pf (0≤(1:Int)∧1≤(IntKind.bits .u64:Int)),pf (inR .i64 q1)] [] [0,4,8,12,16] (cn (zed q1 x1 x0.l) (r1 1 [1,2,3,4,8,9] [4,900000,900001] [pf (inR .i64 (q1+1))] [0] (.next 0 [] (zw1 (q1+1,v1.2)))) (r0 1 [1,2,3,4,8,9] [4,900000,900001] (.next 0 [] (zw1 (v1.1,q2 / 2 ^ 1)))))) (.next 1 [] (z3v v1.1)))
def z09 (v2:Int×(List yd)):Dl:=⟨[(11,.int .i64 v2.1)],[(900000,.arr 6 v2.2.length (rowOf (zbt true) v2.2))]⟩
def A92Wb2 (x0:yj) (x1:Int) (x2:Int) (x3:Int) (j1:Int) (v2:Int×(List yd)):Ann:=let q1:=v2.1+1;r1 1 [1,2,3,4,8,11,50] [4,900000,900001] [pf (inR .i64 (j1 - 1))] [0] (cn (decide (v2.1<(j1 - 1))) (.reg 1 [] [(5,kswW 503 [900000] v2.2 v2.1 q1)] [1,2,3,4,8,11] [4,900000,900001] [] [pf (inR .i64 q1)] [] [0,4] (r1 1 [1,2,3,4,8,11] [4,900000,900001] [pf (inR .i64 q1)] [0] (.next 0 [(900000,some 900000)] (z09 (v2.1+1,(swp v2.2 v2.1 q1)))))) (rt [(900000,some 900000),(900001,some 900001)] (C92W x0 x1 x2 x3 v2.2)))
def A92Wj1 (x0:yj) (x1:Int) (x2:Int) (x3:Int) (j1:Int):Ann:=r0 1 [1,2,3,4,8,11] [4,900000,900001] (.loop (Int×(List yd)) (z09) [] [] [(900000,some 900000)] (z09 (x1,x0.l)) (A92Wb2 x0 x1 x2 x3 j1))
def z3u (j2:Int):Dl:=⟨[(12,.int .i64 j2)],[]⟩
def zw0 (v3:Int×Int):Dl:=⟨[(12,.int .i64 v3.1),(13,.int .i64 v3.2)],[]⟩
def A92Wb3 (x0:yj) (x2:Int) (v3:Int×Int):Ann:=let q2:=v3.1+v3.2;let q1:=q2 / 2 ^ 1;r0 1 [1,2,3,4,12,13,67] [4,900000,900001] (cn (decide (v3.1<v3.2)) (.reg 2 [] [(1004,k52 x2 q1 x0.l)] [1,2,3,4,12,13,14,79] [4,900000,900001] [] [pf (inR .i64 q2),pf (inR .u64 q2),pf (0≤(1:Int)∧1≤(IntKind.bits .u64:Int)),pf (inR .i64 q1)] [] [0,4,8,12,16] (cn (!(zed x2 q1 x0.l)) (r1 1 [1,2,3,4,12,13] [4,900000,900001] [pf (inR .i64 (q1+1))] [0] (.next 0 [] (zw0 (q1+1,v3.2)))) (r0 1 [1,2,3,4,12,13] [4,900000,900001] (.next 0 [] (zw0 (v3.1,q2 / 2 ^ 1)))))) (.next 1 [] (z3u v3.1)))
def z08 (v4:Int×(List yd)):Dl:=⟨[(15,.int .i64 v4.1)],[(900000,.arr 6 v4.2.length (rowOf (zbt true) v4.2))]⟩
def A92Wb4 (x0:yj) (x1:Int) (x2:Int) (x3:Int) (j2:Int) (v4:Int×(List yd)):Ann:=let q1:=v4.1 - 1;r0 1 [1,2,3,4,12,15,86] [4,900000,900001] (cn (decide (j2<v4.1)) (.reg 1 [] [(5,kswW 503 [900000] v4.2 v4.1 q1)] [1,2,3,4,12,15] [4,900000,900001] [] [pf (inR .i64 q1)] [] [0,4] (r1 1 [1,2,3,4,12,15] [4,900000,900001] [pf (inR .i64 q1)] [0] (.next 0 [(900000,some 900000)] (z08 (v4.1 - 1,(swp v4.2 v4.1 q1)))))) (rt [(900000,some 900000),(900001,some 900001)] (C92W x0 x1 x2 x3 v4.2)))
def A92Wj2 (x0:yj) (x1:Int) (x2:Int) (x3:Int) (j2:Int):Ann:=r0 1 [1,2,3,4,12,15] [4,900000,900001] (.loop (Int×(List yd)) (z08) [] [] [(900000,some 900000)] (z08 (x2,x0.l)) (A92Wb4 x0 x1 x2 x3 j2))
def z07 (j3:Int×Int):Dl:=⟨[(18,.int .i64 j3.1),(19,.int .i64 j3.2)],[]⟩
def z3t (j4:Int):Dl:=⟨[(18,.int .i64 j4)],[]⟩
def zwz (v5:Int×Int):Dl:=⟨[(18,.int .i64 v5.1),(19,.int .i64 v5.2)],[]⟩
def A92Wb5 (x0:yj) (x1:Int) (x2:Int) (x3:Int) (v5:Int×Int):Ann:=let q3:=v5.1+v5.2;let q1:=q3 / 2 ^ 1;let q2:=((((x1+x3) / 2 ^ 1)+x2) - 1) - q1;r0 1 [1,2,3,4,16,17,18,19,20,117] [4,900000,900001] (cn (decide (v5.1<v5.2)) (.reg 2 [] [(1006,k52 q2 q1 x0.l)] [1,2,3,4,16,17,18,19,20,21,131] [4,900000,900001] [] [pf (inR .i64 q3),pf (inR .u64 q3),pf (0≤(1:Int)∧1≤(IntKind.bits .u64:Int)),pf (inR .i64 q1),pf (inR .i64 q2)] [] [0,4,8,12,16,20] (cn (!(zed q2 q1 x0.l)) (r1 1 [1,2,3,4,16,17,18,19,20] [4,900000,900001] [pf (inR .i64 (q1+1))] [0] (.next 0 [] (zwz (q1+1,v5.2)))) (r0 1 [1,2,3,4,16,17,18,19,20] [4,900000,900001] (.next 0 [] (zwz (v5.1,q3 / 2 ^ 1)))))) (.next 1 [] (z3t v5.1)))
def z06 (j5:(List yd)):Dl:=⟨[],[(900000,.arr 6 j5.length (rowOf (zbt true) j5))]⟩
def z05 (j6:(List yd)):Dl:=⟨[],[(900000,.arr 6 j6.length (rowOf (zbt true) j6))]⟩
def A92Wj6 (m:Nat) (x0:yj) (x1:Int) (x2:Int) (x3:Int) (j4:Int) (j6:(List yd)):Ann:=let q1:=(x1+x3) / 2 ^ 1;let q2:=(q1+x2) - j4;.reg 1 [] [] [3,4,16,22,171] [4,900000,900001] [decide (q1<q2)] [] [] [1,1,1] (cn ((decide (q1<q2))&&(decide (q2<x3))) (.reg 1 [] [(4,kr92W m 176 [900000,900001] (yj.mk j6) q1 q2 x3)] [] [900000,900001] [] [] [] [0] (rt [(900000,some 900000),(900001,some 900001)] (C92W x0 x1 x2 x3 (zcv m (yj.mk j6) q1 q2 x3)))) (rt [(900000,some 900000),(900001,some 900001)] (C92W x0 x1 x2 x3 j6)))
def A92Wj5 (m:Nat) (x0:yj) (x1:Int) (x2:Int) (x3:Int) (j4:Int) (j5:(List yd)):Ann:=let q1:=(x1+x3) / 2 ^ 1;.join 0 (List yd) (z05) [3,4,16,22] [4,900001,900000] (.reg 1 [] [] [1,3,4,16,18,22,158] [4,900000,900001] [decide (x1<j4)] [] [] [1,1,1] (cn ((decide (x1<j4))&&(decide (j4<q1))) (.reg 1 [] [(4,kr92W m 163 [900000,900001] (yj.mk j5) x1 j4 q1)] [3,4,16,22] [4,900000,900001] [] [] [] [0] (.next 0 [(900000,some 900000)] (z05 (zcv m (yj.mk j5) x1 j4 q1)))) (.next 0 [(900000,some 900000)] (z05 j5)))) (A92Wj6 m x0 x1 x2 x3 j4)
def A92Wj4 (m:Nat) (x0:yj) (x1:Int) (x2:Int) (x3:Int) (j4:Int):Ann:=let q1:=(((x1+x3) / 2 ^ 1)+x2) - j4;r1 1 [1,2,3,4,16,18,22] [4,900000,900001] [pf (inR .i64 q1)] [0] (.join 0 (List yd) (z06) [1,3,4,16,18,22] [4,900001,900000] (.reg 1 [] [] [1,2,3,4,16,18,22,145] [4,900000,900001] [decide (j4<x2)] [] [] [1,1,1] (cn ((decide (j4<x2))&&(decide (x2<q1))) (.reg 1 [] [(4,k109W 150 [900000,900001] x0 j4 x2 q1)] [1,3,4,16,18,22] [4,900000,900001] [] [] [] [0] (.next 0 [(900000,some 900000)] (z06 (zh4 x0 j4 x2 q1)))) (.next 0 [(900000,some 900000)] (z06 x0.l)))) (A92Wj5 m x0 x1 x2 x3 j4))
def A92Wj3 (m:Nat) (x0:yj) (x1:Int) (x2:Int) (x3:Int) (j3:Int×Int):Ann:=r1 1 [1,2,3,4,16,17,18,19,20] [4,900000,900001] [pf (inR .i64 ((((x1+x3) / 2 ^ 1)+x2) - 1))] [0] (.join 0 Int (z3t) [1,2,3,4,16,17,18] [4,900001,900000] (.loop (Int×Int) (zwz) [] [] [] (zwz (j3.1,j3.2)) (A92Wb5 x0 x1 x2 x3)) (A92Wj4 m x0 x1 x2 x3))
def A92W (m:Nat) (x0:yj) (x1:Int) (x2:Int) (x3:Int):Ann:=let q1:=(x1+x3) / 2 ^ 1;r0 1 [1,2,3,4] [4,900000,900001] (r1 1 [1,2,3,4,26] [4,900000,900001] [pf (inR .i64 (x2 - x1))] [0] (cn (decide ((x2 - x1)=1)) (r0 2 [1,2,3,4,8,9] [4,900000,900001] (.join 0 Int (z3v) [1,2,3,4,8] [4,900001,900000] (.loop (Int×Int) (zw1) [] [] [] (zw1 (x2,x3)) (A92Wb1 x0 x1)) (A92Wj1 x0 x1 x2 x3))) (r1 1 [1,2,3,4,62] [4,900000,900001] [pf (inR .i64 (x3 - x2))] [0] (cn (decide ((x3 - x2)=1)) (r0 2 [1,2,3,4,12,13] [4,900000,900001] (.join 0 Int (z3u) [1,2,3,4,12] [4,900001,900000] (.loop (Int×Int) (zw0) [] [] [] (zw0 (x1,x2)) (A92Wb3 x0 x2)) (A92Wj2 x0 x1 x2 x3))) (r1 3 [1,2,3,4,16,17] [4,900000,900001] [pf (inR .i64 (x1+x3)),pf (inR .u64 (x1+x3)),pf (0≤(1:Int)∧1≤(IntKind.bits .u64:Int)),pf (inR .i64 q1),pf (inR .i64 (q1+x2))] [0,4,8,12,16] (.join 0 (Int×Int) (z07) [1,2,3,4,16,17] [4,900001,900000] (r0 1 [1,2,3,4,16,17,106] [4,900000,900001] (cn (decide (q1<x2)) (r1 1 [1,2,3,4,16,17,18] [4,900000,900001] [pf (inR .i64 ((q1+x2) - x3))] [0] (r0 1 [1,2,3,4,16,17,18,19] [4,900000,900001] (.next 0 [] (z07 ((q1+x2) - x3,(x1+x3) / 2 ^ 1))))) (r0 1 [1,2,3,4,16,17,18] [4,900000,900001] (r0 1 [1,2,3,4,16,17,18,19] [4,900000,900001] (.next 0 [] (z07 (x1,x2))))))) (A92Wj3 m x0 x1 x2 x3)))))))
theorem zhy : ∀ (m : Nat) (x : yj) (a d b : Int), zcv m x a d b = gSym (RW x) m x.l a d b
  | 0,_,_,_,_=>rfl
  | m+1,x,a,d,b=>by
    rw [zcv,gSym]
    simp only [zhy m,zxl]
    rfl
theorem zhx (m:Nat) {x:yj} (hk:LkW x x.l) {a d b:Int} (h:(b - a).toNat<m∧0≤a∧a<d∧d<b∧b≤x.l.length):LkW x (zcv m x a d b):=by
 rw [zhy]
 exact hk.pm (zpf (RW x) m h.1 h.2)

theorem zhf (x0:yj) (x1:Int) (x2:Int) (x3:Int) (hx:x0.l.length≤255) (hk:LkW x0 x0.l) (hab:0≤x1∧x1<x2∧x2<x3∧x3≤x0.l.length):FnMT Tryz.prog 92 [.agg [.clo 52 [.vp 900001 0],.clo 90 [.own 900000,.k Tryz.prog.globals.size 65]],.int .i64 x1,.int .i64 x2,.int .i64 x3] [.arr 6 x0.l.length (rowOf (zbt true) x0.l),.var [.own 900000]] (C92W x0 x1 x2 x3 (ze2 x0 x1 x2 x3)):=by
 have all:∀ (m:Nat) (x0:yj) (x1:Int) (x2:Int) (x3:Int) (hx:x0.l.length≤255) (hk:LkW x0 x0.l) (hab:0≤x1∧x1<x2∧x2<x3∧x3≤x0.l.length) (hm:(x3 - x1).toNat<m),FnMT Tryz.prog 92 [.agg [.clo 52 [.vp 900001 0],.clo 90 [.own 900000,.k Tryz.prog.globals.size 65]],.int .i64 x1,.int .i64 x2,.int .i64 x3] [.arr 6 x0.l.length (rowOf (zbt true) x0.l),.var [.own 900000]] (C92W x0 x1 x2 x3 (zcv m x0 x1 x2 x3)):=by
  intro m;induction m
  ·intros;exact absurd za5 (Nat.not_lt_zero _)
  rename_i m ih
  intro x0 x1 x2 x3 hx hk hab hm
  have aux:∀ R,zcv (m+1) x0 x1 x2 x3=R→slim (C92W x0 x1 x2 x3 R) (A92W m x0 x1 x2 x3) []:=by
   intro R hR
   rw [zcv] at hR
   refine rg trivial ?_
   refine rg ⟨by (have h9:=(hk).2;intros;(try simp only [decide_eq_true_eq,decide_eq_false_iff_not,Bool.and_eq_true,Bool.not_eq_true',zba,inR] at *);first | done | omega),trivial⟩ ?_
   revert hR;refine cd (fun hc1 hR=>?_) fun hc1 hR=>?_
   ·
     refine rg trivial ?_
     revert hR;refine jN (fun v=>x2≤v∧v≤x3) (fun F101 hR hJ101=>?_) (fun j1 hR hJ1=>?_)
     ·
       revert hR;refine lW (fun v=>x2≤v.1∧v.1≤v.2∧v.2≤x3) (fun v=>(v.2 - (v.1)).toNat) zar (Nat.lt_succ_self _) rfl fun m1 v1 F1 hI1 hM1 hR hK1=>?_
       refine rg trivial ?_
       revert hR;refine cd (fun hc2 hR=>?_) fun hc2 hR=>?_
       ·
         refine rg ⟨by (have h9:=(hk).2;intros;(try simp only [decide_eq_true_eq,decide_eq_false_iff_not,Bool.and_eq_true,Bool.not_eq_true',zba,inR] at *);first | done | omega),by (have h9:=(hk).2;intros;(try simp only [decide_eq_true_eq,decide_eq_false_iff_not,Bool.and_eq_true,Bool.not_eq_true',zba,inR] at *);first | done | omega),by ((simp only [IntKind.bits];omega)),by (have h9:=(hk).2;intros;(try simp only [decide_eq_true_eq,decide_eq_false_iff_not,Bool.and_eq_true,Bool.not_eq_true',zba,inR] at *);first | done | omega),⟨by (have h9:=(hk).2;intros;(try simp only [decide_eq_true_eq,decide_eq_false_iff_not,Bool.and_eq_true,Bool.not_eq_true',zba,inR] at *);first | done | omega),by (intros;omega)⟩,trivial⟩ ?_
         revert hR;refine cd (fun hc3 hR=>?_) fun hc3 hR=>?_
         ·
           refine rg ⟨by (have h9:=(hk).2;intros;(try simp only [decide_eq_true_eq,decide_eq_false_iff_not,Bool.and_eq_true,Bool.not_eq_true',zba,inR] at *);first | done | omega),trivial⟩ ?_
           exact hK1 (((v1.1+v1.2) / 2 ^ 1)+1,v1.2) zan zan hR
         ·
           refine rg trivial ?_
           exact hK1 (v1.1,(v1.1+v1.2) / 2 ^ 1) zar zan hR
       ·
         exact hJ101 v1.1 hR zar
     ·
       refine rg trivial ?_
       revert hR;refine lW (fun v=>x1≤v.1∧LkW x0 v.2) (fun v=>(j1 - (v.1)).toNat) zak (Nat.lt_succ_self _) rfl fun m2 v2 F2 hI2 hM2 hR hK2=>?_
       refine rg ⟨by (have h9:=(hk).2;intros;(try simp only [decide_eq_true_eq,decide_eq_false_iff_not,Bool.and_eq_true,Bool.not_eq_true',zba,inR] at *);first | done | omega),trivial⟩ ?_
       revert hR;refine cd (fun hc4 hR=>?_) fun hc4 hR=>?_
       ·
         refine rg ⟨by (have h9:=(hk).2;intros;(try simp only [decide_eq_true_eq,decide_eq_false_iff_not,Bool.and_eq_true,Bool.not_eq_true',zba,inR] at *);first | done | omega),⟨by (have h9:=(hI2.2).2;intros;(try simp only [decide_eq_true_eq,decide_eq_false_iff_not,Bool.and_eq_true,Bool.not_eq_true',zba,inR] at *);first | done | omega),by (have h9:=(hI2.2).2;intros;(try simp only [decide_eq_true_eq,decide_eq_false_iff_not,Bool.and_eq_true,Bool.not_eq_true',zba,inR] at *);first | done | omega)⟩,trivial⟩ ?_
         refine rg ⟨by (have h9:=(hk).2;intros;(try simp only [decide_eq_true_eq,decide_eq_false_iff_not,Bool.and_eq_true,Bool.not_eq_true',zba,inR] at *);first | done | omega),trivial⟩ ?_
         exact hK2 (v2.1+1,(swp v2.2 v2.1 (v2.1+1))) zab zan hR
       ·
         exact congrArg (C92W x0 x1 x2 x3) hR
   ·
     refine rg ⟨by (have h9:=(hk).2;intros;(try simp only [decide_eq_true_eq,decide_eq_false_iff_not,Bool.and_eq_true,Bool.not_eq_true',zba,inR] at *);first | done | omega),trivial⟩ ?_
     revert hR;refine cd (fun hc5 hR=>?_) fun hc5 hR=>?_
     ·
       refine rg trivial ?_
       revert hR;refine jN (fun v=>x1≤v∧v≤x2) (fun F102 hR hJ102=>?_) (fun j2 hR hJ2=>?_)
       ·
         revert hR;refine lW (fun v=>x1≤v.1∧v.1≤v.2∧v.2≤x2) (fun v=>(v.2 - (v.1)).toNat) zar (Nat.lt_succ_self _) rfl fun m3 v3 F3 hI3 hM3 hR hK3=>?_
         refine rg trivial ?_
         revert hR;refine cd (fun hc6 hR=>?_) fun hc6 hR=>?_
         ·
           refine rg ⟨by (have h9:=(hk).2;intros;(try simp only [decide_eq_true_eq,decide_eq_false_iff_not,Bool.and_eq_true,Bool.not_eq_true',zba,inR] at *);first | done | omega),by (have h9:=(hk).2;intros;(try simp only [decide_eq_true_eq,decide_eq_false_iff_not,Bool.and_eq_true,Bool.not_eq_true',zba,inR] at *);first | done | omega),by ((simp only [IntKind.bits];omega)),by (have h9:=(hk).2;intros;(try simp only [decide_eq_true_eq,decide_eq_false_iff_not,Bool.and_eq_true,Bool.not_eq_true',zba,inR] at *);first | done | omega),⟨by (intros;omega),by (intros;omega)⟩,trivial⟩ ?_
           revert hR;refine cd (fun hc7 hR=>?_) fun hc7 hR=>?_
           ·
             refine rg ⟨by (have h9:=(hk).2;intros;(try simp only [decide_eq_true_eq,decide_eq_false_iff_not,Bool.and_eq_true,Bool.not_eq_true',zba,inR] at *);first | done | omega),trivial⟩ ?_
             exact hK3 (((v3.1+v3.2) / 2 ^ 1)+1,v3.2) zan zan hR
           ·
             refine rg trivial ?_
             exact hK3 (v3.1,(v3.1+v3.2) / 2 ^ 1) zar zan hR
         ·
           exact hJ102 v3.1 hR zar
       ·
         refine rg trivial ?_
         revert hR;refine lW (fun v=>v.1≤x2∧LkW x0 v.2) (fun v=>(v.1 - (j2)).toNat) zak (Nat.lt_succ_self _) rfl fun m4 v4 F4 hI4 hM4 hR hK4=>?_
         refine rg trivial ?_
         revert hR;refine cd (fun hc8 hR=>?_) fun hc8 hR=>?_
         ·
           refine rg ⟨by (have h9:=(hk).2;intros;(try simp only [decide_eq_true_eq,decide_eq_false_iff_not,Bool.and_eq_true,Bool.not_eq_true',zba,inR] at *);first | done | omega),⟨by (have h9:=(hI4.2).2;intros;(try simp only [decide_eq_true_eq,decide_eq_false_iff_not,Bool.and_eq_true,Bool.not_eq_true',zba,inR] at *);first | done | omega),by (have h9:=(hI4.2).2;intros;(try simp only [decide_eq_true_eq,decide_eq_false_iff_not,Bool.and_eq_true,Bool.not_eq_true',zba,inR] at *);first | done | omega)⟩,trivial⟩ ?_
           refine rg ⟨by (have h9:=(hk).2;intros;(try simp only [decide_eq_true_eq,decide_eq_false_iff_not,Bool.and_eq_true,Bool.not_eq_true',zba,inR] at *);first | done | omega),trivial⟩ ?_
           exact hK4 (v4.1 - 1,(swp v4.2 v4.1 (v4.1 - 1))) zac zan hR
         ·
           exact congrArg (C92W x0 x1 x2 x3) hR
     ·
       refine rg ⟨by (have h9:=(hk).2;intros;(try simp only [decide_eq_true_eq,decide_eq_false_iff_not,Bool.and_eq_true,Bool.not_eq_true',zba,inR] at *);first | done | omega),by (have h9:=(hk).2;intros;(try simp only [decide_eq_true_eq,decide_eq_false_iff_not,Bool.and_eq_true,Bool.not_eq_true',zba,inR] at *);first | done | omega),by ((simp only [IntKind.bits];omega)),by (have h9:=(hk).2;intros;(try simp only [decide_eq_true_eq,decide_eq_false_iff_not,Bool.and_eq_true,Bool.not_eq_true',zba,inR] at *);first | done | omega),by (have h9:=(hk).2;intros;(try simp only [decide_eq_true_eq,decide_eq_false_iff_not,Bool.and_eq_true,Bool.not_eq_true',zba,inR] at *);first | done | omega),trivial⟩ ?_
       revert hR;refine jN (fun v=>(x1≤v.1∧v.1≤v.2∧v.2≤x2)∧v.2≤((x1+x3) / 2 ^ 1)∧((x1+x3) / 2 ^ 1)+x2 - v.1≤x3) (fun F103 hR hJ103=>?_) (fun j3 hR hJ3=>?_)
       ·
         refine rg trivial ?_
         revert hR;refine cd (fun hc9 hR=>?_) fun hc9 hR=>?_
         ·
           refine rg ⟨by (have h9:=(hk).2;intros;(try simp only [decide_eq_true_eq,decide_eq_false_iff_not,Bool.and_eq_true,Bool.not_eq_true',zba,inR] at *);first | done | omega),trivial⟩ ?_
           refine rg trivial ?_
           exact hJ103 _ hR zan
         ·
           refine rg trivial ?_
           refine rg trivial ?_
           exact hJ103 _ hR zan
       ·
         refine rg ⟨by (have h9:=(hk).2;intros;(try simp only [decide_eq_true_eq,decide_eq_false_iff_not,Bool.and_eq_true,Bool.not_eq_true',zba,inR] at *);first | done | omega),trivial⟩ ?_
         revert hR;refine jN (fun v=>j3.1≤v∧v≤j3.2) (fun F104 hR hJ104=>?_) (fun j4 hR hJ4=>?_)
         ·
           revert hR;refine lW (fun v=>j3.1≤v.1∧v.1≤v.2∧v.2≤j3.2) (fun v=>(v.2 - (v.1)).toNat) zar (Nat.lt_succ_self _) rfl fun m5 v5 F5 hI5 hM5 hR hK5=>?_
           refine rg trivial ?_
           revert hR;refine cd (fun hc10 hR=>?_) fun hc10 hR=>?_
           ·
             refine rg ⟨by (have h9:=(hk).2;intros;(try simp only [decide_eq_true_eq,decide_eq_false_iff_not,Bool.and_eq_true,Bool.not_eq_true',zba,inR] at *);first | done | omega),by (have h9:=(hk).2;intros;(try simp only [decide_eq_true_eq,decide_eq_false_iff_not,Bool.and_eq_true,Bool.not_eq_true',zba,inR] at *);first | done | omega),by ((simp only [IntKind.bits];omega)),by (have h9:=(hk).2;intros;(try simp only [decide_eq_true_eq,decide_eq_false_iff_not,Bool.and_eq_true,Bool.not_eq_true',zba,inR] at *);first | done | omega),by (have h9:=(hk).2;intros;(try simp only [decide_eq_true_eq,decide_eq_false_iff_not,Bool.and_eq_true,Bool.not_eq_true',zba,inR] at *);first | done | omega),⟨by (intros;omega),by (intros;omega)⟩,trivial⟩ ?_
             revert hR;refine cd (fun hc11 hR=>?_) fun hc11 hR=>?_
             ·
               refine rg ⟨by (have h9:=(hk).2;intros;(try simp only [decide_eq_true_eq,decide_eq_false_iff_not,Bool.and_eq_true,Bool.not_eq_true',zba,inR] at *);first | done | omega),trivial⟩ ?_
               exact hK5 (((v5.1+v5.2) / 2 ^ 1)+1,v5.2) zan zan hR
             ·
               refine rg trivial ?_
               exact hK5 (v5.1,(v5.1+v5.2) / 2 ^ 1) zar zan hR
           ·
             exact hJ104 v5.1 hR zar
         ·
           refine rg ⟨by (have h9:=(hk).2;intros;(try simp only [decide_eq_true_eq,decide_eq_false_iff_not,Bool.and_eq_true,Bool.not_eq_true',zba,inR] at *);first | done | omega),trivial⟩ ?_
           revert hR;refine jN (fun v=>LkW x0 v) (fun F105 hR hJ105=>?_) (fun j5 hR hJ5=>?_)
           ·
             refine rg trivial ?_
             revert hR;refine cd (fun hc12 hR=>?_) fun hc12 hR=>?_
             ·
               refine rg ⟨⟨by with_reducible assumption,by with_reducible assumption,by (have h9:=(hk).2;intros;(try simp only [decide_eq_true_eq,decide_eq_false_iff_not,Bool.and_eq_true,Bool.not_eq_true',zba,inR] at *);first | done | omega)⟩,trivial⟩ ?_
               exact hJ105 _ hR (by (have h9:=hk.2;intros;(try simp only [decide_eq_true_eq,decide_eq_false_iff_not,Bool.and_eq_true,Bool.not_eq_true',zba,inR] at *);exact zxk hk ⟨om,om,om,om⟩))
             ·
               exact hJ105 x0.l hR za1
           ·
             revert hR;refine jN (fun v=>LkW x0 v) (fun F106 hR hJ106=>?_) (fun j6 hR hJ6=>?_)
             ·
               refine rg trivial ?_
               revert hR;refine cd (fun hc13 hR=>?_) fun hc13 hR=>?_
               ·
                 refine rg ⟨ih (yj.mk j5) x1 j4 ((x1+x3) / 2 ^ 1) zal (by (exact (hJ5).me)) zal zar,trivial⟩ ?_
                 exact hJ106 _ hR (by (have h9:=(hJ5).2;intros;(try simp only [decide_eq_true_eq,decide_eq_false_iff_not,Bool.and_eq_true,Bool.not_eq_true',zba,inR] at *);exact (hJ5).of (zhx _ (hJ5).me zap)))
               ·
                 exact hJ106 j5 hR za1
             ·
               refine rg trivial ?_
               revert hR;refine cd (fun hc14 hR=>?_) fun hc14 hR=>?_
               ·
                 refine rg ⟨ih (yj.mk j6) ((x1+x3) / 2 ^ 1) ((((x1+x3) / 2 ^ 1)+x2) - j4) x3 zam (by (exact (hJ6).me)) zam zar,trivial⟩ ?_
                 exact congrArg (C92W x0 x1 x2 x3) hR
               ·
                 exact congrArg (C92W x0 x1 x2 x3) hR
  exact FnM.go 177 Tryz.func92 (by kernel_rfl) (by kernel_rfl) (A92W m x0 x1 x2 x3) (by kernel_rfl) (aux _ rfl)
 exact all 256 x0 x1 x2 x3 hx hk hab om
def k92W (d:Nat) (ids:List Nat) (x0:yj) (x1:Int) (x2:Int) (x3:Int):Cl:=(hresM d ids (C92W x0 x1 x2 x3 (ze2 x0 x1 x2 x3)),k3 (zhf x0 x1 x2 x3))
end Go.Proofs.YtlinnkjieghmhaaGreatDoor
