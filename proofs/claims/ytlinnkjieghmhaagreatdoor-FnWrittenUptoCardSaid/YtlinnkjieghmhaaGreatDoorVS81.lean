import Derived.Test.YtlinnkjieghmhaaGreatDoorVS75
set_option maxHeartbeats 4000000
set_option linter.unusedSimpArgs false
set_option linter.unusedVariables false
namespace Go.Proofs.YtlinnkjieghmhaaGreatDoor
open Go Go.Lite Go.Proofs
def C58 (R:Bool):LV×List (Nat×BC):=(.bool R,[])
def ze7 (x0:Int) (x1:Int) (x2:yc):Bool:=decide (((x2.unions.getD x0.toNat default).from0)<((x2.unions.getD x1.toNat default).from0))
def A58 (x0:Int) (x1:Int) (x2:yc):Ann:=let q1:=((x2.unions.length:Nat):Int);r1 2 [5] [] [pf (0≤(x0:Int)∧(x0:Int)<q1),pf (0≤(x1:Int)∧(x1:Int)<q1)] [0,4] (rt [] (C58 (decide (((x2.unions.getD x0.toNat default).from0)<((x2.unions.getD x1.toNat default).from0)))))
theorem zhi (x0:Int) (x1:Int) (x2:yc) (h0:0≤x0∧x0<x2.unions.length) (h1:0≤x1∧x1<x2.unions.length):FnT Tryz.prog 58 [.int .i64 x0,.int .i64 x1,.ep [.ro false 6 x2.people.length (rowOf (zbg false) x2.people),.ro false 4 x2.unions.length (rowOf (zbi false) x2.unions)] 0] (C58 (ze7 x0 x1 x2)):=by
 have aux:∀ R,ze7 x0 x1 x2=R→slim (C58 R) (A58 x0 x1 x2) []:=by
  intro R hR
  refine rg ⟨by trivial,by trivial,trivial⟩ ?_
  exact congrArg C58 hR
 exact Fn.go 19 Tryz.func58 (by kernel_rfl) (by kernel_rfl) (by simp [C58,Frs,FrsL]) (A58 x0 x1 x2) (by kernel_rfl) (aux _ rfl)
def k58 (x0:Int) (x1:Int) (x2:yc):Cl:=(hres (C58 (ze7 x0 x1 x2)),k2 (zhi x0 x1 x2))
structure yh where
 c0:List ya
 l:List yb
 deriving Inhabited
def kswU (d : Nat) (ids : List Nat) (l : List yb) (i j : Int) : Cl := (.resM d ids [(900000, .arr 4 (swp l i j).length (rowOf (zbi true) (swp l i j)))] (.tup []), k2 (P := FnX Tryz.prog 90 [.int .i64 i, .int .i64 j, .own 900000, .k Tryz.prog.globals.size 62] [.arr 4 l.length (rowOf (zbi true) l)] (.tup []) [(900000, .arr 4 (swp l i j).length (rowOf (zbi true) (swp l i j)))])
  fun hi hj=>FnX.swap (b:=false) (ag:=true) Tryz.func90 (by kernel_rfl) (by kernel_rfl) (by kernel_rfl) za8 (by kernel_rfl) (by kernel_rfl) (by kernel_rfl) (by intro h;cases h) hi hj)
def LkU (x:yh) (l:List yb):Prop:=(True)∧l.length=x.l.length
theorem LkU.swp {x:yh} {l:List yb} (h:LkU x l) {i j:Int} (hi:0≤i∧i<x.l.length) (hj:0≤j∧j<x.l.length):LkU x (swp l i j):=⟨trivial,by rw [zba];exact h.2⟩
def RU (x:yh):yb→yb→Bool:=fun u v=>decide (u.from0<v.from0)
theorem LkU.pm {x:yh} {l l':List yb} (h:LkU x l) (hp:Pm l l'):LkU x l':=⟨trivial,hp.1.trans h.2⟩
theorem LkU.me {x:yh} {l:List yb} (h:LkU x l):LkU (yh.mk x.c0 l) l:=⟨h.1,rfl⟩
theorem LkU.of {x:yh} {l l':List yb} (h:LkU x l) (h':LkU (yh.mk x.c0 l) l'):LkU x l':=⟨h'.1,h'.2.trans h.2⟩

def C91U (x0:yh) (x1:Int) (x2:Int) (R:(List yb)):LV×List (Nat×BC):=(.tup [],[(900000,.arr 4 R.length (rowOf (zbi true) R)),(900001,.var [.own 900002,.own 900000]),(900002,.arr 6 x0.c0.length (rowOf (zbg true) x0.c0))])
def zfa (x0:yh) (x1:Int) (x2:Int):(List yb):=loopW (fun (v1:Int×(List yb)) nx1=>bif (decide (v1.1<x2)) then (loopW (fun (v2:Int×(List yb)) next=>bif ((decide (x1<v2.1))&&(ze7 v2.1 (v2.1 - 1) (yc.mk x0.c0 v2.2))) then (next (v2.1 - 1,(swp v2.2 v2.1 (v2.1 - 1)))) else (nx1 (v1.1+1,v2.2))) ((v1.1).toNat+1) (v1.1,v1.2)) else v1.2) ((x2 - (x1+1)).toNat+1) (x1+1,x0.l)
def z1n (v1:Int×(List yb)):Dl:=⟨[(6,.int .i64 v1.1)],[(900000,.arr 4 v1.2.length (rowOf (zbi true) v1.2))]⟩
def z1m (v2:Int×(List yb)):Dl:=⟨[(7,.int .i64 v2.1)],[(900000,.arr 4 v2.2.length (rowOf (zbi true) v2.2))]⟩
def A91Ub2 (x0:yh) (x1:Int) (v1:Int×(List yb)) (v2:Int×(List yb)):Ann:=let q1:=v2.1 - 1;let q2:=decide (x1<v2.1);let q3:=inR .i64 q1;.reg 1 [] [(9,cg q2 (k58 v2.1 q1 (yc.mk x0.c0 v2.2)))] [1,2,3,6,7,26] [3,900000,900001,900002] [decide (x1<v2.1)] [gt q2 (pf q3)] [] [1,1,0,1,1,1,4,1] (cn (q2&&(ze7 v2.1 q1 (yc.mk x0.c0 v2.2))) (.reg 1 [] [(5,kswU 504 [900000] v2.2 v2.1 q1)] [1,2,3,6,7] [3,900000,900001,900002] [] [pf q3] [] [0,4] (r1 1 [1,2,3,6,7] [3,900000,900001,900002] [pf q3] [0] (.next 0 [(900000,some 900000)] (z1m (v2.1 - 1,(swp v2.2 v2.1 q1)))))) (r1 1 [1,2,3,6] [3,900000,900001,900002] [pf (inR .i64 (v1.1+1))] [0] (.next 1 [(900000,some 900000)] (z1n (v1.1+1,v2.2)))))
def A91Ub1 (x0:yh) (x1:Int) (x2:Int) (v1:Int×(List yb)):Ann:=r0 1 [1,2,3,6,12] [3,900000,900001,900002] (cn (decide (v1.1<x2)) (r0 1 [1,2,3,6,7] [3,900000,900001,900002] (.loop (Int×(List yb)) (z1m) [] [] [(900000,some 900000)] (z1m (v1.1,v1.2)) (A91Ub2 x0 x1 v1))) (rt [(900000,some 900000),(900001,some 900001),(900002,some 900002)] (C91U x0 x1 x2 v1.2)))
def A91U (x0:yh) (x1:Int) (x2:Int):Ann:=r1 2 [1,2,3,6] [3,900000,900001,900002] [pf (inR .i64 (x1+1))] [0] (.loop (Int×(List yb)) (z1n) [] [] [(900000,some 900000)] (z1n (x1+1,x0.l)) (A91Ub1 x0 x1 x2))
theorem zu1 (x:yh) (a b:Int):zfa x a b=gIns (RU x) x.l a b:=rfl
theorem zpb {x:yh} (hk:LkU x x.l) {a b:Int} (h:0≤a∧a≤b∧b≤x.l.length):LkU x (zfa x a b):=hk.pm (zu5 (RU x) h)

theorem zfy (x0:yh) (x1:Int) (x2:Int) (hx:x0.l.length≤255) (hk:LkU x0 x0.l) (hab:0≤x1∧x1≤x2∧x2≤x0.l.length):FnMT Tryz.prog 91 [.agg [.clo 58 [.vp 900001 0],.clo 90 [.own 900000,.k Tryz.prog.globals.size 62]],.int .i64 x1,.int .i64 x2] [.arr 4 x0.l.length (rowOf (zbi true) x0.l),.var [.own 900002,.own 900000],.arr 6 x0.c0.length (rowOf (zbg true) x0.c0)] (C91U x0 x1 x2 (zfa x0 x1 x2)):=by
 have aux:∀ R,zfa x0 x1 x2=R→slim (C91U x0 x1 x2 R) (A91U x0 x1 x2) []:=by
  intro R hR
  refine rg ⟨by (have h9:=(hk).2;intros;(try simp only [decide_eq_true_eq,decide_eq_false_iff_not,Bool.and_eq_true,Bool.not_eq_true',zba,inR] at *);first | done | omega),trivial⟩ ?_
  revert hR;refine lW (fun v=>x1+1≤v.1∧LkU x0 v.2) (fun v=>(x2 - (v.1)).toNat) zak (Nat.lt_succ_self _) rfl fun m1 v1 F1 hI1 hM1 hR hK1=>?_
  refine rg trivial ?_
  revert hR;refine cd (fun hc1 hR=>?_) fun hc1 hR=>?_
  ·
    refine rg trivial ?_
    revert hR;refine lW (fun v=>(x1≤v.1∧v.1≤v1.1)∧LkU x0 v.2) (fun v=>(v.1).toNat) zae (Nat.lt_succ_self _) rfl fun m2 v2 F2 hI2 hM2 hR hK2=>?_
    refine rg ⟨by (have h9:=(hk).2;intros;(try simp only [decide_eq_true_eq,decide_eq_false_iff_not,Bool.and_eq_true,Bool.not_eq_true',zba,inR] at *);first | done | omega),fun hg0=>⟨by (have h9:=(hI2.2).2;intros;(try simp only [decide_eq_true_eq,decide_eq_false_iff_not,Bool.and_eq_true,Bool.not_eq_true',zba,inR] at *);first | done | omega),by (have h9:=(hI2.2).2;intros;(try simp only [decide_eq_true_eq,decide_eq_false_iff_not,Bool.and_eq_true,Bool.not_eq_true',zba,inR] at *);first | done | omega)⟩,trivial⟩ ?_
    revert hR;refine cd (fun hc2 hR=>?_) fun hc2 hR=>?_
    ·
      refine rg ⟨by (have h9:=(hk).2;intros;(try simp only [decide_eq_true_eq,decide_eq_false_iff_not,Bool.and_eq_true,Bool.not_eq_true',zba,inR] at *);first | done | omega),⟨by (have h9:=(hI2.2).2;intros;(try simp only [decide_eq_true_eq,decide_eq_false_iff_not,Bool.and_eq_true,Bool.not_eq_true',zba,inR] at *);first | done | omega),by (have h9:=(hI2.2).2;intros;(try simp only [decide_eq_true_eq,decide_eq_false_iff_not,Bool.and_eq_true,Bool.not_eq_true',zba,inR] at *);first | done | omega)⟩,trivial⟩ ?_
      refine rg ⟨by (have h9:=(hk).2;intros;(try simp only [decide_eq_true_eq,decide_eq_false_iff_not,Bool.and_eq_true,Bool.not_eq_true',zba,inR] at *);first | done | omega),trivial⟩ ?_
      exact hK2 (v2.1 - 1,(swp v2.2 v2.1 (v2.1 - 1))) zab zan hR
    ·
      refine rg ⟨by (have h9:=(hk).2;intros;(try simp only [decide_eq_true_eq,decide_eq_false_iff_not,Bool.and_eq_true,Bool.not_eq_true',zba,inR] at *);first | done | omega),trivial⟩ ?_
      exact hK1 (v1.1+1,v2.2) zaf zan hR
  ·
    exact congrArg (C91U x0 x1 x2) hR
 exact FnM.go 35 Tryz.func91 (by kernel_rfl) (by kernel_rfl) (A91U x0 x1 x2) (by kernel_rfl) (aux _ rfl)
def k91U (d:Nat) (ids:List Nat) (x0:yh) (x1:Int) (x2:Int):Cl:=(hresM d ids (C91U x0 x1 x2 (zfa x0 x1 x2)),k3 (zfy x0 x1 x2))
def C123U (x0:yh) (x1:Int) (x2:Int) (x3:Int) (R:(List yb)):LV×List (Nat×BC):=(.tup [],[(900000,.arr 4 R.length (rowOf (zbi true) R)),(900001,.var [.own 900002,.own 900000]),(900002,.arr 6 x0.c0.length (rowOf (zbg true) x0.c0))])
def zdp (x0:yh) (x1:Int) (x2:Int) (x3:Int):(List yb):=loopN (fun i1 (v1:(List yb)) next=>next (swp v1 (x1+((i1:Nat):Int)) (x2+((i1:Nat):Int)))) (fun (v1:(List yb))=>v1) x3.toNat 0 x0.l
def zvo (i1:Nat) (v1:(List yb)):Dl:=⟨[(8,.int .i64 ((i1:Nat):Int))],[(900000,.arr 4 v1.length (rowOf (zbi true) v1))]⟩
def z5h (x0:yh) (x1:Int) (x2:Int) (x3:Int) (i1:Nat) (v1:(List yb)):Ann:=let q1:=((i1:Nat):Int);r0 1 [1,2,3,4,8,11] [4,900000,900001,900002] (cn (decide (q1<x3)) (.reg 1 [] [(8,kswU 504 [900000] v1 (x1+q1) (x2+q1))] [1,2,3,4,8] [4,900000,900001,900002] [] [pf (inR .i64 (x1+q1)),pf (inR .i64 (x2+q1))] [] [0,4,8] (r1 1 [1,2,3,4,8] [4,900000,900001,900002] [pf (inR .i64 (q1+1))] [0] (.next 0 [(900000,some 900000)] (zvo (i1+1) (swp v1 (x1+q1) (x2+q1)))))) (rt [(900000,some 900000),(900001,some 900001),(900002,some 900002)] (C123U x0 x1 x2 x3 v1)))
def A123U (x0:yh) (x1:Int) (x2:Int) (x3:Int):Ann:=r0 2 [1,2,3,4,8] [4,900000,900001,900002] (lp (zvo) [] [] [(900000,some 900000)] (zvo 0 x0.l) (z5h x0 x1 x2 x3))
theorem zkl {x:yh} (hk:LkU x x.l) {a b n:Int} (h:(0≤a∧0≤b∧0≤n)∧a+n≤x.l.length∧b+n≤x.l.length):LkU x (zdp x a b n):=hk.pm (zme h)

theorem zg0 (x0:yh) (x1:Int) (x2:Int) (x3:Int) (hx:x0.l.length≤255) (hk:LkU x0 x0.l) (hab:(0≤x1∧0≤x2∧0≤x3)∧x1+x3≤x0.l.length∧x2+x3≤x0.l.length):FnMT Tryz.prog 123 [.agg [.clo 58 [.vp 900001 0],.clo 90 [.own 900000,.k Tryz.prog.globals.size 62]],.int .i64 x1,.int .i64 x2,.int .i64 x3] [.arr 4 x0.l.length (rowOf (zbi true) x0.l),.var [.own 900002,.own 900000],.arr 6 x0.c0.length (rowOf (zbg true) x0.c0)] (C123U x0 x1 x2 x3 (zdp x0 x1 x2 x3)):=by
 have aux:∀ R,zdp x0 x1 x2 x3=R→slim (C123U x0 x1 x2 x3 R) (A123U x0 x1 x2 x3) []:=by
  intro R hR
  refine rg trivial ?_
  revert hR;refine lN (fun i v=>LkU x0 v) za1 rfl fun i1 v1 F1 hn1 hI1 hR hK1=>?_
  refine rg trivial ?_
  refine ⟨fun hc1=>?_,fun hc1=>?_⟩
  ·have hii1:i1<x3.toNat:=by have:=of_decide_eq_true hc1;omega
   replace hR:=zbq hR hii1
   refine rg ⟨by (have h9:=(hk).2;intros;(try simp only [decide_eq_true_eq,decide_eq_false_iff_not,Bool.and_eq_true,Bool.not_eq_true',zba,inR] at *);first | done | omega),by (have h9:=(hk).2;intros;(try simp only [decide_eq_true_eq,decide_eq_false_iff_not,Bool.and_eq_true,Bool.not_eq_true',zba,inR] at *);first | done | omega),⟨by (have h9:=(hI1).2;intros;(try simp only [decide_eq_true_eq,decide_eq_false_iff_not,Bool.and_eq_true,Bool.not_eq_true',zba,inR] at *);first | done | omega),by (have h9:=(hI1).2;intros;(try simp only [decide_eq_true_eq,decide_eq_false_iff_not,Bool.and_eq_true,Bool.not_eq_true',zba,inR] at *);first | done | omega)⟩,trivial⟩ ?_
   refine rg ⟨by (have h9:=(hk).2;intros;(try simp only [decide_eq_true_eq,decide_eq_false_iff_not,Bool.and_eq_true,Bool.not_eq_true',zba,inR] at *);first | done | omega),trivial⟩ ?_
   exact hK1 (swp v1 (x1+((i1:Nat):Int)) (x2+((i1:Nat):Int))) hii1 zai hR
  ·obtain rfl:i1=x3.toNat:=by have:=of_decide_eq_false hc1;omega
   replace hR:=zbu hR (Nat.lt_irrefl _)
   exact congrArg (C123U x0 x1 x2 x3) hR
 exact FnM.go 23 Tryz.func123 (by kernel_rfl) (by kernel_rfl) (A123U x0 x1 x2 x3) (by kernel_rfl) (aux _ rfl)
def k123U (d:Nat) (ids:List Nat) (x0:yh) (x1:Int) (x2:Int) (x3:Int):Cl:=(hresM d ids (C123U x0 x1 x2 x3 (zdp x0 x1 x2 x3)),k3 (zg0 x0 x1 x2 x3))
def C109U (x0:yh) (x1:Int) (x2:Int) (x3:Int) (R:(List yb)):LV×List (Nat×BC):=(.tup [],[(900000,.arr 4 R.length (rowOf (zbi true) R)),(900001,.var [.own 900002,.own 900000]),(900002,.arr 6 x0.c0.length (rowOf (zbg true) x0.c0))])
def zh5 (x0:yh) (x1:Int) (x2:Int) (x3:Int):(List yb):=loopW (fun (v1:Int×Int×(List yb)) next=>bif (!decide (v1.1=v1.2.1)) then (bif (decide (v1.2.1<v1.1)) then (next (v1.1 - v1.2.1,v1.2.1,zdp (yh.mk x0.c0 v1.2.2) (x2 - v1.1) x2 v1.2.1)) else (next (v1.1,v1.2.1 - v1.1,zdp (yh.mk x0.c0 v1.2.2) (x2 - v1.1) ((x2+v1.2.1) - v1.1) v1.1))) else (zdp (yh.mk x0.c0 v1.2.2) (x2 - v1.1) x2 v1.1)) ((x2 - x1+(x3 - x2)).toNat+1) (x2 - x1,x3 - x2,x0.l)
def zsh (v1:Int×Int×(List yb)):Dl:=⟨[(8,.int .i64 v1.1),(9,.int .i64 v1.2.1)],[(900000,.arr 4 v1.2.2.length (rowOf (zbi true) v1.2.2))]⟩
def z5k (x0:yh) (x1:Int) (x2:Int) (x3:Int) (v1:Int×Int×(List yb)):Ann:=let q2:=x2 - v1.1;let q1:=yh.mk x0.c0 v1.2.2;let q3:=(x2+v1.2.1) - v1.1;let q4:=inR .i64 q2;r0 1 [2,4,8,9,18] [4,900000,900001,900002] (cn (!decide (v1.1=v1.2.1)) (r0 1 [2,4,8,9,21] [4,900000,900001,900002] (cn (decide (v1.2.1<v1.1)) (.reg 1 [] [(6,k123U 28 [900000,900001,900002] q1 q2 x2 v1.2.1)] [2,4,8,9] [4,900000,900001,900002] [] [pf q4] [] [0,4] (r1 1 [2,4,8,9] [4,900000,900001,900002] [pf (inR .i64 (v1.1 - v1.2.1))] [0] (.next 0 [(900000,some 900000)] (zsh (v1.1 - v1.2.1,v1.2.1,zdp q1 q2 x2 v1.2.1))))) (.reg 1 [] [(10,k123U 42 [900000,900001,900002] q1 q2 q3 v1.1)] [2,4,8,9] [4,900000,900001,900002] [] [pf q4,pf (inR .i64 (x2+v1.2.1)),pf (inR .i64 q3)] [] [0,4,8,12] (r1 1 [2,4,8,9] [4,900000,900001,900002] [pf (inR .i64 (v1.2.1 - v1.1))] [0] (.next 0 [(900000,some 900000)] (zsh (v1.1,v1.2.1 - v1.1,zdp q1 q2 q3 v1.1))))))) (.reg 1 [] [(6,k123U 52 [900000,900001,900002] q1 q2 x2 v1.1)] [] [900000,900001,900002] [] [pf q4] [] [0,4] (rt [(900000,some 900000),(900001,some 900001),(900002,some 900002)] (C109U x0 x1 x2 x3 (zdp q1 q2 x2 v1.1)))))
def A109U (x0:yh) (x1:Int) (x2:Int) (x3:Int):Ann:=r1 3 [2,4,8,9] [4,900000,900001,900002] [pf (inR .i64 (x2 - x1)),pf (inR .i64 (x3 - x2))] [0,4] (.loop (Int×Int×(List yb)) (zsh) [] [] [(900000,some 900000)] (zsh (x2 - x1,x3 - x2,x0.l)) (z5k x0 x1 x2 x3))
theorem zxn (x:yh) (a m b:Int):zh5 x a m b=gRot x.l a m b:=rfl
theorem zxm {x:yh} (hk:LkU x x.l) {a m b:Int} (h:0≤a∧a<m∧m<b∧b≤x.l.length):LkU x (zh5 x a m b):=hk.pm (zr3 h)

theorem zig (x0:yh) (x1:Int) (x2:Int) (x3:Int) (hx:x0.l.length≤255) (hk:LkU x0 x0.l) (hab:0≤x1∧x1<x2∧x2<x3∧x3≤x0.l.length):FnMT Tryz.prog 109 [.agg [.clo 58 [.vp 900001 0],.clo 90 [.own 900000,.k Tryz.prog.globals.size 62]],.int .i64 x1,.int .i64 x2,.int .i64 x3] [.arr 4 x0.l.length (rowOf (zbi true) x0.l),.var [.own 900002,.own 900000],.arr 6 x0.c0.length (rowOf (zbg true) x0.c0)] (C109U x0 x1 x2 x3 (zh5 x0 x1 x2 x3)):=by
 have aux:∀ R,zh5 x0 x1 x2 x3=R→slim (C109U x0 x1 x2 x3 R) (A109U x0 x1 x2 x3) []:=by
  intro R hR
  refine rg ⟨by (have h9:=(hk).2;intros;(try simp only [decide_eq_true_eq,decide_eq_false_iff_not,Bool.and_eq_true,Bool.not_eq_true',zba,inR] at *);first | done | omega),by (have h9:=(hk).2;intros;(try simp only [decide_eq_true_eq,decide_eq_false_iff_not,Bool.and_eq_true,Bool.not_eq_true',zba,inR] at *);first | done | omega),trivial⟩ ?_
  revert hR;refine lW (fun v=>(1≤v.1∧1≤v.2.1∧v.1≤x2 - x1∧v.2.1≤x3 - x2)∧LkU x0 v.2.2) (fun v=>(v.1+(v.2.1)).toNat) zak (Nat.lt_succ_self _) rfl fun m1 v1 F1 hI1 hM1 hR hK1=>?_
  refine rg trivial ?_
  revert hR;refine cd (fun hc1 hR=>?_) fun hc1 hR=>?_
  ·
    refine rg trivial ?_
    revert hR;refine cd (fun hc2 hR=>?_) fun hc2 hR=>?_
    ·
      refine rg ⟨by (have h9:=(hk).2;intros;(try simp only [decide_eq_true_eq,decide_eq_false_iff_not,Bool.and_eq_true,Bool.not_eq_true',zba,inR] at *);first | done | omega),⟨by (have h9:=(hI1.2).2;intros;(try simp only [decide_eq_true_eq,decide_eq_false_iff_not,Bool.and_eq_true,Bool.not_eq_true',zba,inR] at *);first | done | omega),by (exact (hI1.2).me),by (have h9:=(hI1.2).2;intros;(try simp only [decide_eq_true_eq,decide_eq_false_iff_not,Bool.and_eq_true,Bool.not_eq_true',zba,inR] at *);first | done | omega)⟩,trivial⟩ ?_
      refine rg ⟨by (have h9:=(hk).2;intros;(try simp only [decide_eq_true_eq,decide_eq_false_iff_not,Bool.and_eq_true,Bool.not_eq_true',zba,inR] at *);first | done | omega),trivial⟩ ?_
      exact hK1 (v1.1 - v1.2.1,v1.2.1,zdp (yh.mk x0.c0 v1.2.2) (x2 - v1.1) x2 v1.2.1) (by (have h9:=(hI1.2).2;intros;(try simp only [decide_eq_true_eq,decide_eq_false_iff_not,Bool.and_eq_true,Bool.not_eq_true',zba,inR] at *);refine ⟨by ((try dsimp only);omega),(hI1.2).of (zkl (hI1.2).me zap)⟩)) zan hR
    ·
      refine rg ⟨by (have h9:=(hk).2;intros;(try simp only [decide_eq_true_eq,decide_eq_false_iff_not,Bool.and_eq_true,Bool.not_eq_true',zba,inR] at *);first | done | omega),by (have h9:=(hk).2;intros;(try simp only [decide_eq_true_eq,decide_eq_false_iff_not,Bool.and_eq_true,Bool.not_eq_true',zba,inR] at *);first | done | omega),by (have h9:=(hk).2;intros;(try simp only [decide_eq_true_eq,decide_eq_false_iff_not,Bool.and_eq_true,Bool.not_eq_true',zba,inR] at *);first | done | omega),⟨by (have h9:=(hI1.2).2;intros;(try simp only [decide_eq_true_eq,decide_eq_false_iff_not,Bool.and_eq_true,Bool.not_eq_true',zba,inR] at *);first | done | omega),by (exact (hI1.2).me),by (have h9:=(hI1.2).2;intros;(try simp only [decide_eq_true_eq,decide_eq_false_iff_not,Bool.and_eq_true,Bool.not_eq_true',zba,inR] at *);first | done | omega)⟩,trivial⟩ ?_
      refine rg ⟨by (have h9:=(hk).2;intros;(try simp only [decide_eq_true_eq,decide_eq_false_iff_not,Bool.and_eq_true,Bool.not_eq_true',zba,inR] at *);first | done | omega),trivial⟩ ?_
      exact hK1 (v1.1,v1.2.1 - v1.1,zdp (yh.mk x0.c0 v1.2.2) (x2 - v1.1) ((x2+v1.2.1) - v1.1) v1.1) (by (have h9:=(hI1.2).2;intros;(try simp only [decide_eq_true_eq,decide_eq_false_iff_not,Bool.and_eq_true,Bool.not_eq_true',zba,inR] at *);refine ⟨by ((try dsimp only);omega),(hI1.2).of (zkl (hI1.2).me zap)⟩)) zan hR
  ·
    refine rg ⟨by (have h9:=(hk).2;intros;(try simp only [decide_eq_true_eq,decide_eq_false_iff_not,Bool.and_eq_true,Bool.not_eq_true',zba,inR] at *);first | done | omega),⟨by (have h9:=(hI1.2).2;intros;(try simp only [decide_eq_true_eq,decide_eq_false_iff_not,Bool.and_eq_true,Bool.not_eq_true',zba,inR] at *);first | done | omega),by (exact (hI1.2).me),by ((try clear hR hK1);intros;(try simp only [decide_eq_true_eq,decide_eq_false_iff_not,Bool.or_eq_true,Bool.and_eq_true,zbd,zbb,zbc,Bool.not_eq_true',inR] at *);(repeat' apply And.intro)<;>(first | (intros;omega) | (have h9:=(hI1.2).2;intros;(try simp only [decide_eq_true_eq,decide_eq_false_iff_not,Bool.and_eq_true,Bool.not_eq_true',zba,inR] at *);first | done | omega)))⟩,trivial⟩ ?_
    exact congrArg (C109U x0 x1 x2 x3) hR
 exact FnM.go 53 Tryz.func109 (by kernel_rfl) (by kernel_rfl) (A109U x0 x1 x2 x3) (by kernel_rfl) (aux _ rfl)
def k109U (d:Nat) (ids:List Nat) (x0:yh) (x1:Int) (x2:Int) (x3:Int):Cl:=(hresM d ids (C109U x0 x1 x2 x3 (zh5 x0 x1 x2 x3)),k3 (zig x0 x1 x2 x3))
end Go.Proofs.YtlinnkjieghmhaaGreatDoor
