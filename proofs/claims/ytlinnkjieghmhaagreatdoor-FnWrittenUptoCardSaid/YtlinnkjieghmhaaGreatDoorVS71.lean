import Derived.Test.YtlinnkjieghmhaaGreatDoorM190
set_option maxHeartbeats 4000000
set_option linter.unusedSimpArgs false
set_option linter.unusedVariables false
namespace Go.Proofs.YtlinnkjieghmhaaGreatDoor
open Go Go.Lite Go.Proofs
def OkL (f:yc) (l:List Int):Prop:=∀ c∈l,0≤c∧c<f.people.length
theorem OkL.at {f:yc} {l:List Int} (h:OkL f l) {i:Int} (hi:0≤i∧i<l.length):0≤l.getD i.toNat default∧l.getD i.toNat default<f.people.length:=by
 have e:l.getD i.toNat default=l[i.toNat]' om:=by rw [List.getD_eq_getElem?_getD,List.getElem?_eq_getElem om];rfl
 rw [e]
 exact h _ (List.getElem_mem _)

def C56 (R:Bool):LV×List (Nat×BC):=(.bool R,[])
def ze8 (x0:Int) (x1:Int) (x2:yc) (x3:List Int):Bool:=decide (((x2.people.getD ((x3.getD x0.toNat default).toNat) default).born)<((x2.people.getD ((x3.getD x1.toNat default).toNat) default).born))
def A56 (x0:Int) (x1:Int) (x2:yc) (x3:List Int):Ann:=let q4:=((x3.length:Nat):Int);let q1:=x3.getD x0.toNat default;let q2:=x3.getD x1.toNat default;let q3:=((x2.people.length:Nat):Int);r1 2 [6] [] [pf (0≤(x0:Int)∧(x0:Int)<q4),pf (0≤(q1:Int)∧(q1:Int)<q3),pf (0≤(x1:Int)∧(x1:Int)<q4),pf (0≤(q2:Int)∧(q2:Int)<q3)] [0,4,8,12] (rt [] (C56 (decide (((x2.people.getD (q1.toNat) default).born)<((x2.people.getD (q2.toNat) default).born)))))
theorem zhj (x0:Int) (x1:Int) (x2:yc) (x3:List Int) (h0:0≤x0∧x0<x3.length) (h1:0≤x1∧x1<x3.length) (hok:OkL x2 x3):FnT Tryz.prog 56 [.int .i64 x0,.int .i64 x1,.ep [.ro false 6 x2.people.length (rowOf (zbg false) x2.people),.ro false 4 x2.unions.length (rowOf (zbi false) x2.unions)] 0,.ep [.ro false 1 x3.length (rowOf (cInt .i64) x3)] 0] (C56 (ze8 x0 x1 x2 x3)):=by
 have aux:∀ R,ze8 x0 x1 x2 x3=R→slim (C56 R) (A56 x0 x1 x2 x3) []:=by
  intro R hR
  refine rg ⟨by trivial,by (have h8:=hok.at h0;have h9:=hok.at h1;omega),by trivial,by (have h8:=hok.at h0;have h9:=hok.at h1;omega),trivial⟩ ?_
  exact congrArg C56 hR
 exact Fn.go 26 Tryz.func56 (by kernel_rfl) (by kernel_rfl) (by simp [C56,Frs,FrsL]) (A56 x0 x1 x2 x3) (by kernel_rfl) (aux _ rfl)
def k56 (x0:Int) (x1:Int) (x2:yc) (x3:List Int):Cl:=(hres (C56 (ze8 x0 x1 x2 x3)),k3 (zhj x0 x1 x2 x3))
structure yf where
 c0:yc
 l:List Int
 deriving Inhabited
def kswP (d : Nat) (ids : List Nat) (l : List Int) (i j : Int) : Cl := (.resM d ids [(900000, .arr 1 (swp l i j).length (rowOf (cInt .i64) (swp l i j)))] (.tup []), k2 (P := FnX Tryz.prog 86 [.int .i64 i, .int .i64 j, .own 900000, .k Tryz.prog.globals.size 3] [.arr 1 l.length (rowOf (cInt .i64) l)] (.tup []) [(900000, .arr 1 (swp l i j).length (rowOf (cInt .i64) (swp l i j)))])
  fun hi hj=>FnX.swap (b:=true) (ag:=false) Tryz.func86 (by kernel_rfl) (by kernel_rfl) (by kernel_rfl) za8 (by kernel_rfl) (by kernel_rfl) (by kernel_rfl) (by intro _;rfl) hi hj)
def LkP (x:yf) (l:List Int):Prop:=(OkL x.c0 l)∧l.length=x.l.length
theorem LkP.swp {x:yf} {l:List Int} (h:LkP x l) {i j:Int} (hi:0≤i∧i<x.l.length) (hj:0≤j∧j<x.l.length):LkP x (swp l i j):=⟨fun c hc=>h.1 c (zyu (by rw [h.2];exact hi) (by rw [h.2];exact hj) hc),by rw [zba];exact h.2⟩
def RP (x:yf):Int→Int→Bool:=fun u v=>decide (((x.c0.people.getD u.toNat default).born)<((x.c0.people.getD v.toNat default).born))
theorem LkP.pm {x:yf} {l l':List Int} (h:LkP x l) (hp:Pm l l'):LkP x l':=⟨fun c hc=>h.1 c (hp.2 c hc),hp.1.trans h.2⟩
theorem LkP.me {x:yf} {l:List Int} (h:LkP x l):LkP (yf.mk x.c0 l) l:=⟨h.1,rfl⟩
theorem LkP.of {x:yf} {l l':List Int} (h:LkP x l) (h':LkP (yf.mk x.c0 l) l'):LkP x l':=⟨h'.1,h'.2.trans h.2⟩

def C91P (x0:yf) (x1:Int) (x2:Int) (R:(List Int)):LV×List (Nat×BC):=(.tup [],[(900000,.arr 1 R.length (rowOf (cInt .i64) R)),(900001,.var [.ro false 6 x0.c0.people.length (rowOf (zbg false) x0.c0.people),.ro false 4 x0.c0.unions.length (rowOf (zbi false) x0.c0.unions)]),(900002,.var [.own 900000])])
def zfb (x0:yf) (x1:Int) (x2:Int):(List Int):=loopW (fun (v1:Int×(List Int)) nx1=>bif (decide (v1.1<x2)) then (loopW (fun (v2:Int×(List Int)) next=>bif ((decide (x1<v2.1))&&(ze8 v2.1 (v2.1 - 1) x0.c0 v2.2)) then (next (v2.1 - 1,(swp v2.2 v2.1 (v2.1 - 1)))) else (nx1 (v1.1+1,v2.2))) ((v1.1).toNat+1) (v1.1,v1.2)) else v1.2) ((x2 - (x1+1)).toNat+1) (x1+1,x0.l)
def z1p (v1:Int×(List Int)):Dl:=⟨[(6,.int .i64 v1.1)],[(900000,.arr 1 v1.2.length (rowOf (cInt .i64) v1.2))]⟩
def z1o (v2:Int×(List Int)):Dl:=⟨[(7,.int .i64 v2.1)],[(900000,.arr 1 v2.2.length (rowOf (cInt .i64) v2.2))]⟩
def A91Pb2 (x0:yf) (x1:Int) (v1:Int×(List Int)) (v2:Int×(List Int)):Ann:=let q1:=v2.1 - 1;let q2:=decide (x1<v2.1);let q3:=inR .i64 q1;.reg 1 [] [(9,cg q2 (k56 v2.1 q1 x0.c0 v2.2))] [1,2,3,6,7,26] [3,900000,900001,900002] [decide (x1<v2.1)] [gt q2 (pf q3)] [] [1,1,0,1,1,1,4,1] (cn (q2&&(ze8 v2.1 q1 x0.c0 v2.2)) (.reg 1 [] [(5,kswP 504 [900000] v2.2 v2.1 q1)] [1,2,3,6,7] [3,900000,900001,900002] [] [pf q3] [] [0,4] (r1 1 [1,2,3,6,7] [3,900000,900001,900002] [pf q3] [0] (.next 0 [(900000,some 900000)] (z1o (v2.1 - 1,(swp v2.2 v2.1 q1)))))) (r1 1 [1,2,3,6] [3,900000,900001,900002] [pf (inR .i64 (v1.1+1))] [0] (.next 1 [(900000,some 900000)] (z1p (v1.1+1,v2.2)))))
def A91Pb1 (x0:yf) (x1:Int) (x2:Int) (v1:Int×(List Int)):Ann:=r0 1 [1,2,3,6,12] [3,900000,900001,900002] (cn (decide (v1.1<x2)) (r0 1 [1,2,3,6,7] [3,900000,900001,900002] (.loop (Int×(List Int)) (z1o) [] [] [(900000,some 900000)] (z1o (v1.1,v1.2)) (A91Pb2 x0 x1 v1))) (rt [(900000,some 900000),(900001,some 900001),(900002,some 900002)] (C91P x0 x1 x2 v1.2)))
def A91P (x0:yf) (x1:Int) (x2:Int):Ann:=r1 2 [1,2,3,6] [3,900000,900001,900002] [pf (inR .i64 (x1+1))] [0] (.loop (Int×(List Int)) (z1p) [] [] [(900000,some 900000)] (z1p (x1+1,x0.l)) (A91Pb1 x0 x1 x2))
theorem zu2 (x:yf) (a b:Int):zfb x a b=gIns (RP x) x.l a b:=rfl
theorem zpc {x:yf} (hk:LkP x x.l) {a b:Int} (h:0≤a∧a≤b∧b≤x.l.length):LkP x (zfb x a b):=hk.pm (zu5 (RP x) h)

theorem zf0 (x0:yf) (x1:Int) (x2:Int) (hx:x0.l.length≤255) (hk:LkP x0 x0.l) (hab:0≤x1∧x1≤x2∧x2≤x0.l.length):FnMT Tryz.prog 91 [.agg [.clo 56 [.vp 900001 0,.vp 900002 0],.clo 86 [.own 900000,.k Tryz.prog.globals.size 3]],.int .i64 x1,.int .i64 x2] [.arr 1 x0.l.length (rowOf (cInt .i64) x0.l),.var [.ro false 6 x0.c0.people.length (rowOf (zbg false) x0.c0.people),.ro false 4 x0.c0.unions.length (rowOf (zbi false) x0.c0.unions)],.var [.own 900000]] (C91P x0 x1 x2 (zfb x0 x1 x2)):=by
 have aux:∀ R,zfb x0 x1 x2=R→slim (C91P x0 x1 x2 R) (A91P x0 x1 x2) []:=by
  intro R hR
  refine rg ⟨by (have h9:=(hk).2;intros;(try simp only [decide_eq_true_eq,decide_eq_false_iff_not,Bool.and_eq_true,Bool.not_eq_true',zba,inR] at *);first | done | omega),trivial⟩ ?_
  revert hR;refine lW (fun v=>x1+1≤v.1∧LkP x0 v.2) (fun v=>(x2 - (v.1)).toNat) zak (Nat.lt_succ_self _) rfl fun m1 v1 F1 hI1 hM1 hR hK1=>?_
  refine rg trivial ?_
  revert hR;refine cd (fun hc1 hR=>?_) fun hc1 hR=>?_
  ·
    refine rg trivial ?_
    revert hR;refine lW (fun v=>(x1≤v.1∧v.1≤v1.1)∧LkP x0 v.2) (fun v=>(v.1).toNat) zae (Nat.lt_succ_self _) rfl fun m2 v2 F2 hI2 hM2 hR hK2=>?_
    refine rg ⟨by (have h9:=(hk).2;intros;(try simp only [decide_eq_true_eq,decide_eq_false_iff_not,Bool.and_eq_true,Bool.not_eq_true',zba,inR] at *);first | done | omega),fun hg0=>⟨by (have h9:=(hI2.2).2;intros;(try simp only [decide_eq_true_eq,decide_eq_false_iff_not,Bool.and_eq_true,Bool.not_eq_true',zba,inR] at *);first | done | omega),by (have h9:=(hI2.2).2;intros;(try simp only [decide_eq_true_eq,decide_eq_false_iff_not,Bool.and_eq_true,Bool.not_eq_true',zba,inR] at *);first | done | omega),by (exact (hI2.2).1)⟩,trivial⟩ ?_
    revert hR;refine cd (fun hc2 hR=>?_) fun hc2 hR=>?_
    ·
      refine rg ⟨by (have h9:=(hk).2;intros;(try simp only [decide_eq_true_eq,decide_eq_false_iff_not,Bool.and_eq_true,Bool.not_eq_true',zba,inR] at *);first | done | omega),⟨by (have h9:=(hI2.2).2;intros;(try simp only [decide_eq_true_eq,decide_eq_false_iff_not,Bool.and_eq_true,Bool.not_eq_true',zba,inR] at *);first | done | omega),by (have h9:=(hI2.2).2;intros;(try simp only [decide_eq_true_eq,decide_eq_false_iff_not,Bool.and_eq_true,Bool.not_eq_true',zba,inR] at *);first | done | omega)⟩,trivial⟩ ?_
      refine rg ⟨by (have h9:=(hk).2;intros;(try simp only [decide_eq_true_eq,decide_eq_false_iff_not,Bool.and_eq_true,Bool.not_eq_true',zba,inR] at *);first | done | omega),trivial⟩ ?_
      exact hK2 (v2.1 - 1,(swp v2.2 v2.1 (v2.1 - 1))) zab zan hR
    ·
      refine rg ⟨by (have h9:=(hk).2;intros;(try simp only [decide_eq_true_eq,decide_eq_false_iff_not,Bool.and_eq_true,Bool.not_eq_true',zba,inR] at *);first | done | omega),trivial⟩ ?_
      exact hK1 (v1.1+1,v2.2) zaf zan hR
  ·
    exact congrArg (C91P x0 x1 x2) hR
 exact FnM.go 35 Tryz.func91 (by kernel_rfl) (by kernel_rfl) (A91P x0 x1 x2) (by kernel_rfl) (aux _ rfl)
def k91P (d:Nat) (ids:List Nat) (x0:yf) (x1:Int) (x2:Int):Cl:=(hresM d ids (C91P x0 x1 x2 (zfb x0 x1 x2)),k3 (zf0 x0 x1 x2))
def C123P (x0:yf) (x1:Int) (x2:Int) (x3:Int) (R:(List Int)):LV×List (Nat×BC):=(.tup [],[(900000,.arr 1 R.length (rowOf (cInt .i64) R)),(900001,.var [.ro false 6 x0.c0.people.length (rowOf (zbg false) x0.c0.people),.ro false 4 x0.c0.unions.length (rowOf (zbi false) x0.c0.unions)]),(900002,.var [.own 900000])])
def zdq (x0:yf) (x1:Int) (x2:Int) (x3:Int):(List Int):=loopN (fun i1 (v1:(List Int)) next=>next (swp v1 (x1+((i1:Nat):Int)) (x2+((i1:Nat):Int)))) (fun (v1:(List Int))=>v1) x3.toNat 0 x0.l
def zvp (i1:Nat) (v1:(List Int)):Dl:=⟨[(8,.int .i64 ((i1:Nat):Int))],[(900000,.arr 1 v1.length (rowOf (cInt .i64) v1))]⟩
def z5i (x0:yf) (x1:Int) (x2:Int) (x3:Int) (i1:Nat) (v1:(List Int)):Ann:=let q1:=((i1:Nat):Int);r0 1 [1,2,3,4,8,11] [4,900000,900001,900002] (cn (decide (q1<x3)) (.reg 1 [] [(8,kswP 504 [900000] v1 (x1+q1) (x2+q1))] [1,2,3,4,8] [4,900000,900001,900002] [] [pf (inR .i64 (x1+q1)),pf (inR .i64 (x2+q1))] [] [0,4,8] (r1 1 [1,2,3,4,8] [4,900000,900001,900002] [pf (inR .i64 (q1+1))] [0] (.next 0 [(900000,some 900000)] (zvp (i1+1) (swp v1 (x1+q1) (x2+q1)))))) (rt [(900000,some 900000),(900001,some 900001),(900002,some 900002)] (C123P x0 x1 x2 x3 v1)))
def A123P (x0:yf) (x1:Int) (x2:Int) (x3:Int):Ann:=r0 2 [1,2,3,4,8] [4,900000,900001,900002] (lp (zvp) [] [] [(900000,some 900000)] (zvp 0 x0.l) (z5i x0 x1 x2 x3))
theorem zkm {x:yf} (hk:LkP x x.l) {a b n:Int} (h:(0≤a∧0≤b∧0≤n)∧a+n≤x.l.length∧b+n≤x.l.length):LkP x (zdq x a b n):=hk.pm (zme h)

theorem zg1 (x0:yf) (x1:Int) (x2:Int) (x3:Int) (hx:x0.l.length≤255) (hk:LkP x0 x0.l) (hab:(0≤x1∧0≤x2∧0≤x3)∧x1+x3≤x0.l.length∧x2+x3≤x0.l.length):FnMT Tryz.prog 123 [.agg [.clo 56 [.vp 900001 0,.vp 900002 0],.clo 86 [.own 900000,.k Tryz.prog.globals.size 3]],.int .i64 x1,.int .i64 x2,.int .i64 x3] [.arr 1 x0.l.length (rowOf (cInt .i64) x0.l),.var [.ro false 6 x0.c0.people.length (rowOf (zbg false) x0.c0.people),.ro false 4 x0.c0.unions.length (rowOf (zbi false) x0.c0.unions)],.var [.own 900000]] (C123P x0 x1 x2 x3 (zdq x0 x1 x2 x3)):=by
 have aux:∀ R,zdq x0 x1 x2 x3=R→slim (C123P x0 x1 x2 x3 R) (A123P x0 x1 x2 x3) []:=by
  intro R hR
  refine rg trivial ?_
  revert hR;refine lN (fun i v=>LkP x0 v) za1 rfl fun i1 v1 F1 hn1 hI1 hR hK1=>?_
  refine rg trivial ?_
  refine ⟨fun hc1=>?_,fun hc1=>?_⟩
  ·have hii1:i1<x3.toNat:=by have:=of_decide_eq_true hc1;omega
   replace hR:=zbq hR hii1
   refine rg ⟨by (have h9:=(hk).2;intros;(try simp only [decide_eq_true_eq,decide_eq_false_iff_not,Bool.and_eq_true,Bool.not_eq_true',zba,inR] at *);first | done | omega),by (have h9:=(hk).2;intros;(try simp only [decide_eq_true_eq,decide_eq_false_iff_not,Bool.and_eq_true,Bool.not_eq_true',zba,inR] at *);first | done | omega),⟨by (have h9:=(hI1).2;intros;(try simp only [decide_eq_true_eq,decide_eq_false_iff_not,Bool.and_eq_true,Bool.not_eq_true',zba,inR] at *);first | done | omega),by (have h9:=(hI1).2;intros;(try simp only [decide_eq_true_eq,decide_eq_false_iff_not,Bool.and_eq_true,Bool.not_eq_true',zba,inR] at *);first | done | omega)⟩,trivial⟩ ?_
   refine rg ⟨by (have h9:=(hk).2;intros;(try simp only [decide_eq_true_eq,decide_eq_false_iff_not,Bool.and_eq_true,Bool.not_eq_true',zba,inR] at *);first | done | omega),trivial⟩ ?_
   exact hK1 (swp v1 (x1+((i1:Nat):Int)) (x2+((i1:Nat):Int))) hii1 zai hR
  ·obtain rfl:i1=x3.toNat:=by have:=of_decide_eq_false hc1;omega
   replace hR:=zbu hR (Nat.lt_irrefl _)
   exact congrArg (C123P x0 x1 x2 x3) hR
 exact FnM.go 23 Tryz.func123 (by kernel_rfl) (by kernel_rfl) (A123P x0 x1 x2 x3) (by kernel_rfl) (aux _ rfl)
def k123P (d:Nat) (ids:List Nat) (x0:yf) (x1:Int) (x2:Int) (x3:Int):Cl:=(hresM d ids (C123P x0 x1 x2 x3 (zdq x0 x1 x2 x3)),k3 (zg1 x0 x1 x2 x3))
def C109P (x0:yf) (x1:Int) (x2:Int) (x3:Int) (R:(List Int)):LV×List (Nat×BC):=(.tup [],[(900000,.arr 1 R.length (rowOf (cInt .i64) R)),(900001,.var [.ro false 6 x0.c0.people.length (rowOf (zbg false) x0.c0.people),.ro false 4 x0.c0.unions.length (rowOf (zbi false) x0.c0.unions)]),(900002,.var [.own 900000])])
def zh6 (x0:yf) (x1:Int) (x2:Int) (x3:Int):(List Int):=loopW (fun (v1:Int×Int×(List Int)) next=>bif (!decide (v1.1=v1.2.1)) then (bif (decide (v1.2.1<v1.1)) then (next (v1.1 - v1.2.1,v1.2.1,zdq (yf.mk x0.c0 v1.2.2) (x2 - v1.1) x2 v1.2.1)) else (next (v1.1,v1.2.1 - v1.1,zdq (yf.mk x0.c0 v1.2.2) (x2 - v1.1) ((x2+v1.2.1) - v1.1) v1.1))) else (zdq (yf.mk x0.c0 v1.2.2) (x2 - v1.1) x2 v1.1)) ((x2 - x1+(x3 - x2)).toNat+1) (x2 - x1,x3 - x2,x0.l)
def zsi (v1:Int×Int×(List Int)):Dl:=⟨[(8,.int .i64 v1.1),(9,.int .i64 v1.2.1)],[(900000,.arr 1 v1.2.2.length (rowOf (cInt .i64) v1.2.2))]⟩
def z5l (x0:yf) (x1:Int) (x2:Int) (x3:Int) (v1:Int×Int×(List Int)):Ann:=let q2:=x2 - v1.1;let q1:=yf.mk x0.c0 v1.2.2;let q3:=(x2+v1.2.1) - v1.1;let q4:=inR .i64 q2;r0 1 [2,4,8,9,18] [4,900000,900001,900002] (cn (!decide (v1.1=v1.2.1)) (r0 1 [2,4,8,9,21] [4,900000,900001,900002] (cn (decide (v1.2.1<v1.1)) (.reg 1 [] [(6,k123P 28 [900000,900001,900002] q1 q2 x2 v1.2.1)] [2,4,8,9] [4,900000,900001,900002] [] [pf q4] [] [0,4] (r1 1 [2,4,8,9] [4,900000,900001,900002] [pf (inR .i64 (v1.1 - v1.2.1))] [0] (.next 0 [(900000,some 900000)] (zsi (v1.1 - v1.2.1,v1.2.1,zdq q1 q2 x2 v1.2.1))))) (.reg 1 [] [(10,k123P 42 [900000,900001,900002] q1 q2 q3 v1.1)] [2,4,8,9] [4,900000,900001,900002] [] [pf q4,pf (inR .i64 (x2+v1.2.1)),pf (inR .i64 q3)] [] [0,4,8,12] (r1 1 [2,4,8,9] [4,900000,900001,900002] [pf (inR .i64 (v1.2.1 - v1.1))] [0] (.next 0 [(900000,some 900000)] (zsi (v1.1,v1.2.1 - v1.1,zdq q1 q2 q3 v1.1))))))) (.reg 1 [] [(6,k123P 52 [900000,900001,900002] q1 q2 x2 v1.1)] [] [900000,900001,900002] [] [pf q4] [] [0,4] (rt [(900000,some 900000),(900001,some 900001),(900002,some 900002)] (C109P x0 x1 x2 x3 (zdq q1 q2 x2 v1.1)))))
def A109P (x0:yf) (x1:Int) (x2:Int) (x3:Int):Ann:=r1 3 [2,4,8,9] [4,900000,900001,900002] [pf (inR .i64 (x2 - x1)),pf (inR .i64 (x3 - x2))] [0,4] (.loop (Int×Int×(List Int)) (zsi) [] [] [(900000,some 900000)] (zsi (x2 - x1,x3 - x2,x0.l)) (z5l x0 x1 x2 x3))
theorem zxp (x:yf) (a m b:Int):zh6 x a m b=gRot x.l a m b:=rfl
theorem zxo {x:yf} (hk:LkP x x.l) {a m b:Int} (h:0≤a∧a<m∧m<b∧b≤x.l.length):LkP x (zh6 x a m b):=hk.pm (zr3 h)

theorem zih (x0:yf) (x1:Int) (x2:Int) (x3:Int) (hx:x0.l.length≤255) (hk:LkP x0 x0.l) (hab:0≤x1∧x1<x2∧x2<x3∧x3≤x0.l.length):FnMT Tryz.prog 109 [.agg [.clo 56 [.vp 900001 0,.vp 900002 0],.clo 86 [.own 900000,.k Tryz.prog.globals.size 3]],.int .i64 x1,.int .i64 x2,.int .i64 x3] [.arr 1 x0.l.length (rowOf (cInt .i64) x0.l),.var [.ro false 6 x0.c0.people.length (rowOf (zbg false) x0.c0.people),.ro false 4 x0.c0.unions.length (rowOf (zbi false) x0.c0.unions)],.var [.own 900000]] (C109P x0 x1 x2 x3 (zh6 x0 x1 x2 x3)):=by
 have aux:∀ R,zh6 x0 x1 x2 x3=R→slim (C109P x0 x1 x2 x3 R) (A109P x0 x1 x2 x3) []:=by
  intro R hR
  refine rg ⟨by (have h9:=(hk).2;intros;(try simp only [decide_eq_true_eq,decide_eq_false_iff_not,Bool.and_eq_true,Bool.not_eq_true',zba,inR] at *);first | done | omega),by (have h9:=(hk).2;intros;(try simp only [decide_eq_true_eq,decide_eq_false_iff_not,Bool.and_eq_true,Bool.not_eq_true',zba,inR] at *);first | done | omega),trivial⟩ ?_
  revert hR;refine lW (fun v=>(1≤v.1∧1≤v.2.1∧v.1≤x2 - x1∧v.2.1≤x3 - x2)∧LkP x0 v.2.2) (fun v=>(v.1+(v.2.1)).toNat) zak (Nat.lt_succ_self _) rfl fun m1 v1 F1 hI1 hM1 hR hK1=>?_
  refine rg trivial ?_
  revert hR;refine cd (fun hc1 hR=>?_) fun hc1 hR=>?_
  ·
    refine rg trivial ?_
    revert hR;refine cd (fun hc2 hR=>?_) fun hc2 hR=>?_
    ·
      refine rg ⟨by (have h9:=(hk).2;intros;(try simp only [decide_eq_true_eq,decide_eq_false_iff_not,Bool.and_eq_true,Bool.not_eq_true',zba,inR] at *);first | done | omega),⟨by (have h9:=(hI1.2).2;intros;(try simp only [decide_eq_true_eq,decide_eq_false_iff_not,Bool.and_eq_true,Bool.not_eq_true',zba,inR] at *);first | done | omega),by (exact (hI1.2).me),by (have h9:=(hI1.2).2;intros;(try simp only [decide_eq_true_eq,decide_eq_false_iff_not,Bool.and_eq_true,Bool.not_eq_true',zba,inR] at *);first | done | omega)⟩,trivial⟩ ?_
      refine rg ⟨by (have h9:=(hk).2;intros;(try simp only [decide_eq_true_eq,decide_eq_false_iff_not,Bool.and_eq_true,Bool.not_eq_true',zba,inR] at *);first | done | omega),trivial⟩ ?_
      exact hK1 (v1.1 - v1.2.1,v1.2.1,zdq (yf.mk x0.c0 v1.2.2) (x2 - v1.1) x2 v1.2.1) (by (have h9:=(hI1.2).2;intros;(try simp only [decide_eq_true_eq,decide_eq_false_iff_not,Bool.and_eq_true,Bool.not_eq_true',zba,inR] at *);refine ⟨by ((try dsimp only);omega),(hI1.2).of (zkm (hI1.2).me zap)⟩)) zan hR
    ·
      refine rg ⟨by (have h9:=(hk).2;intros;(try simp only [decide_eq_true_eq,decide_eq_false_iff_not,Bool.and_eq_true,Bool.not_eq_true',zba,inR] at *);first | done | omega),by (have h9:=(hk).2;intros;(try simp only [decide_eq_true_eq,decide_eq_false_iff_not,Bool.and_eq_true,Bool.not_eq_true',zba,inR] at *);first | done | omega),by (have h9:=(hk).2;intros;(try simp only [decide_eq_true_eq,decide_eq_false_iff_not,Bool.and_eq_true,Bool.not_eq_true',zba,inR] at *);first | done | omega),⟨by (have h9:=(hI1.2).2;intros;(try simp only [decide_eq_true_eq,decide_eq_false_iff_not,Bool.and_eq_true,Bool.not_eq_true',zba,inR] at *);first | done | omega),by (exact (hI1.2).me),by (have h9:=(hI1.2).2;intros;(try simp only [decide_eq_true_eq,decide_eq_false_iff_not,Bool.and_eq_true,Bool.not_eq_true',zba,inR] at *);first | done | omega)⟩,trivial⟩ ?_
      refine rg ⟨by (have h9:=(hk).2;intros;(try simp only [decide_eq_true_eq,decide_eq_false_iff_not,Bool.and_eq_true,Bool.not_eq_true',zba,inR] at *);first | done | omega),trivial⟩ ?_
      exact hK1 (v1.1,v1.2.1 - v1.1,zdq (yf.mk x0.c0 v1.2.2) (x2 - v1.1) ((x2+v1.2.1) - v1.1) v1.1) (by (have h9:=(hI1.2).2;intros;(try simp only [decide_eq_true_eq,decide_eq_false_iff_not,Bool.and_eq_true,Bool.not_eq_true',zba,inR] at *);refine ⟨by ((try dsimp only);omega),(hI1.2).of (zkm (hI1.2).me zap)⟩)) zan hR
  ·
    refine rg ⟨by (have h9:=(hk).2;intros;(try simp only [decide_eq_true_eq,decide_eq_false_iff_not,Bool.and_eq_true,Bool.not_eq_true',zba,inR] at *);first | done | omega),⟨by (have h9:=(hI1.2).2;intros;(try simp only [decide_eq_true_eq,decide_eq_false_iff_not,Bool.and_eq_true,Bool.not_eq_true',zba,inR] at *);first | done | omega),by (exact (hI1.2).me),by ((try clear hR hK1);intros;(try simp only [decide_eq_true_eq,decide_eq_false_iff_not,Bool.or_eq_true,Bool.and_eq_true,zbd,zbb,zbc,Bool.not_eq_true',inR] at *);(repeat' apply And.intro)<;>(first | (intros;omega) | (have h9:=(hI1.2).2;intros;(try simp only [decide_eq_true_eq,decide_eq_false_iff_not,Bool.and_eq_true,Bool.not_eq_true',zba,inR] at *);first | done | omega)))⟩,trivial⟩ ?_
    exact congrArg (C109P x0 x1 x2 x3) hR
 exact FnM.go 53 Tryz.func109 (by kernel_rfl) (by kernel_rfl) (A109P x0 x1 x2 x3) (by kernel_rfl) (aux _ rfl)
def k109P (d:Nat) (ids:List Nat) (x0:yf) (x1:Int) (x2:Int) (x3:Int):Cl:=(hresM d ids (C109P x0 x1 x2 x3 (zh6 x0 x1 x2 x3)),k3 (zih x0 x1 x2 x3))
end Go.Proofs.YtlinnkjieghmhaaGreatDoor
