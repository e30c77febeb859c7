import Derived.Test.YtepefimocflfkaaVS75
set_option maxHeartbeats 4000000
set_option linter.unusedSimpArgs false
set_option linter.unusedVariables false
namespace Go.Proofs.Ytepefimocflfkaa
open Go Go.Lite Go.Proofs
def C121 (R:Bool):LV×List (Nat×BC):=(.bool R,[])
def lessFrom (x0:Int) (x1:Int) (x2:Family):Bool:=decide (((x2.unions.getD x0.toNat default).from0)<((x2.unions.getD x1.toNat default).from0))
def A121 (x0:Int) (x1:Int) (x2:Family):Ann:=r1 2 [5] [] [pf (0≤(x0:Int)∧(x0:Int)<((x2.unions.length:Nat):Int)),pf (0≤(x1:Int)∧(x1:Int)<((x2.unions.length:Nat):Int))] [0,4] (rt [] (C121 (decide (((x2.unions.getD x0.toNat default).from0)<((x2.unions.getD x1.toNat default).from0)))))
theorem ok_impl_chronological_2 (x0:Int) (x1:Int) (x2:Family) (h0:0≤x0∧x0<x2.unions.length) (h1:0≤x1∧x1<x2.unions.length):FnT Try.prog 121 [.int .i64 x0,.int .i64 x1,.ep [.ro false 6 x2.people.length (rowOf (cPerson false) x2.people),.ro false 4 x2.unions.length (rowOf (cUnion false) x2.unions)] 0] (C121 (lessFrom x0 x1 x2)):=by
 have aux:∀ R,lessFrom x0 x1 x2=R→slim (C121 R) (A121 x0 x1 x2) []:=by
  intro R hR
  refine rg ⟨by trivial,by trivial,trivial⟩ ?_
  exact congrArg C121 hR
 exact Fn.go 19 Try.func121 (by kernel_rfl) (by kernel_rfl) (by simp [C121,Frs,FrsL]) (A121 x0 x1 x2) (by kernel_rfl) (aux _ rfl)
def k121 (x0:Int) (x1:Int) (x2:Family):Cl:=(hres (C121 (lessFrom x0 x1 x2)),k2 (ok_impl_chronological_2 x0 x1 x2))
structure SrtU where
 c0:List Person
 l:List Union
 deriving Inhabited
def kswU (d : Nat) (ids : List Nat) (l : List Union) (i j : Int) : Cl := (.resM d ids [(900000, .arr 4 (swp l i j).length (rowOf (cUnion true) (swp l i j)))] (.tup []), k2 (P := FnX Try.prog 194 [.int .i64 i, .int .i64 j, .own 900000, .k Try.prog.globals.size 94] [.arr 4 l.length (rowOf (cUnion true) l)] (.tup []) [(900000, .arr 4 (swp l i j).length (rowOf (cUnion true) (swp l i j)))])
  fun hi hj=>FnX.swap (b:=false) (ag:=true) Try.func194 (by kernel_rfl) (by kernel_rfl) (by kernel_rfl) (by rfl) (by kernel_rfl) (by kernel_rfl) (by kernel_rfl) (by intro h;cases h) hi hj)
def LkU (x:SrtU) (l:List Union):Prop:=(True)∧l.length=x.l.length
theorem LkU.swp {x:SrtU} {l:List Union} (h:LkU x l) {i j:Int} (hi:0≤i∧i<x.l.length) (hj:0≤j∧j<x.l.length):LkU x (swp l i j):=⟨trivial,by rw [swp_len];exact h.2⟩
def RU (x:SrtU):Union→Union→Bool:=fun u v=>decide (u.from0<v.from0)
theorem LkU.pm {x:SrtU} {l l':List Union} (h:LkU x l) (hp:Pm l l'):LkU x l':=⟨trivial,hp.1.trans h.2⟩
theorem LkU.me {x:SrtU} {l:List Union} (h:LkU x l):LkU (SrtU.mk x.c0 l) l:=⟨h.1,rfl⟩
theorem LkU.of {x:SrtU} {l l':List Union} (h:LkU x l) (h':LkU (SrtU.mk x.c0 l) l'):LkU x l':=⟨h'.1,h'.2.trans h.2⟩

def C195U (x0:SrtU) (x1:Int) (x2:Int) (R:(List Union)):LV×List (Nat×BC):=(.tup [],[(900000,.arr 4 R.length (rowOf (cUnion true) R)),(900001,.var [.own 900002,.own 900000]),(900002,.arr 6 x0.c0.length (rowOf (cPerson true) x0.c0))])
def insSortU (x0:SrtU) (x1:Int) (x2:Int):(List Union):=loopW (fun (v1:Int×(List Union)) nx1=>bif (decide (v1.1<x2)) then (loopW (fun (v2:Int×(List Union)) next=>bif ((decide (x1<v2.1))&&(lessFrom v2.1 (v2.1 - 1) (Family.mk x0.c0 v2.2))) then (next (v2.1 - 1,(swp v2.2 v2.1 (v2.1 - 1)))) else (nx1 (v1.1+1,v2.2))) ((v1.1).toNat+1) (v1.1,v1.2)) else v1.2) ((x2 - (x1+1)).toNat+1) (x1+1,x0.l)
def D195Ub1 (x0:SrtU) (x1:Int) (x2:Int) (v1:Int×(List Union)):Dl:=⟨[(6,.int .i64 v1.1)],[(900000,.arr 4 v1.2.length (rowOf (cUnion true) v1.2))]⟩
def D195Ub2 (x0:SrtU) (x1:Int) (x2:Int) (v1:Int×(List Union)) (v2:Int×(List Union)):Dl:=⟨[(7,.int .i64 v2.1)],[(900000,.arr 4 v2.2.length (rowOf (cUnion true) v2.2))]⟩
def A195Ub2 (x0:SrtU) (x1:Int) (x2:Int) (v1:Int×(List Union)) (v2:Int×(List Union)):Ann:=.reg 1 [] [(9,cg (decide (x1<v2.1)) (k121 v2.1 (v2.1 - 1) (Family.mk x0.c0 v2.2)))] [1,2,3,6,7,26] [3,900000,900001,900002] [decide (x1<v2.1)] [gt (decide (x1<v2.1)) (pf (inR .i64 (v2.1 - 1)))] [] [1,1,0,1,1,1,4,1] (cn ((decide (x1<v2.1))&&(lessFrom v2.1 (v2.1 - 1) (Family.mk x0.c0 v2.2))) (.reg 1 [] [(5,kswU 504 [900000] v2.2 v2.1 (v2.1 - 1))] [1,2,3,6,7] [3,900000,900001,900002] [] [pf (inR .i64 (v2.1 - 1))] [] [0,4] (r1 1 [1,2,3,6,7] [3,900000,900001,900002] [pf (inR .i64 (v2.1 - 1))] [0] (.next 0 [(900000,some 900000)] (D195Ub2 x0 x1 x2 v1 (v2.1 - 1,(swp v2.2 v2.1 (v2.1 - 1))))))) (r1 1 [1,2,3,6] [3,900000,900001,900002] [pf (inR .i64 (v1.1+1))] [0] (.next 1 [(900000,some 900000)] (D195Ub1 x0 x1 x2 (v1.1+1,v2.2)))))
def A195Ub1 (x0:SrtU) (x1:Int) (x2:Int) (v1:Int×(List Union)):Ann:=r0 1 [1,2,3,6,12] [3,900000,900001,900002] (cn (decide (v1.1<x2)) (r0 1 [1,2,3,6,7] [3,900000,900001,900002] (.loop (Int×(List Union)) (D195Ub2 x0 x1 x2 v1) [] [] [(900000,some 900000)] (D195Ub2 x0 x1 x2 v1 (v1.1,v1.2)) (A195Ub2 x0 x1 x2 v1))) (rt [(900000,some 900000),(900001,some 900001),(900002,some 900002)] (C195U x0 x1 x2 v1.2)))
def A195U (x0:SrtU) (x1:Int) (x2:Int):Ann:=r1 2 [1,2,3,6] [3,900000,900001,900002] [pf (inR .i64 (x1+1))] [0] (.loop (Int×(List Union)) (D195Ub1 x0 x1 x2) [] [] [(900000,some 900000)] (D195Ub1 x0 x1 x2 (x1+1,x0.l)) (A195Ub1 x0 x1 x2))
theorem insSortU_eq (x:SrtU) (a b:Int):insSortU x a b=gIns (RU x) x.l a b:=rfl
theorem insSortU_lk {x:SrtU} (hk:LkU x x.l) {a b:Int} (h:0≤a∧a≤b∧b≤x.l.length):LkU x (insSortU x a b):=hk.pm (gIns_pm (RU x) h)

theorem ok_sort_insertionSort_func_U (x0:SrtU) (x1:Int) (x2:Int) (hx:x0.l.length≤255) (hk:LkU x0 x0.l) (hab:0≤x1∧x1≤x2∧x2≤x0.l.length):FnMT Try.prog 195 [.agg [.clo 121 [.vp 900001 0],.clo 194 [.own 900000,.k Try.prog.globals.size 94]],.int .i64 x1,.int .i64 x2] [.arr 4 x0.l.length (rowOf (cUnion true) x0.l),.var [.own 900002,.own 900000],.arr 6 x0.c0.length (rowOf (cPerson true) x0.c0)] (C195U x0 x1 x2 (insSortU x0 x1 x2)):=by
 have aux:∀ R,insSortU x0 x1 x2=R→slim (C195U x0 x1 x2 R) (A195U x0 x1 x2) []:=by
  intro R hR
  refine rg ⟨by (have h9:=(hk).2;intros;(try simp only [decide_eq_true_eq,decide_eq_false_iff_not,Bool.and_eq_true,Bool.not_eq_true',swp_len,inR] at *);first | done | omega),trivial⟩ ?_
  revert hR;refine lW (fun v=>x1+1≤v.1∧LkU x0 v.2) (fun v=>(x2 - (v.1)).toNat) (by (have h9:=(hk).2;refine ⟨by ((try dsimp only);intros;(try simp only [decide_eq_true_eq,decide_eq_false_iff_not,Bool.and_eq_true,Bool.not_eq_true',swp_len,inR] at *);first | done | omega),hk⟩)) (Nat.lt_succ_self _) rfl fun m1 v1 F1 hI1 hM1 hR hK1=>?_
  refine rg trivial ?_
  revert hR;refine cd (fun hc1 hR=>?_) fun hc1 hR=>?_
  ·
    refine rg trivial ?_
    revert hR;refine lW (fun v=>(x1≤v.1∧v.1≤v1.1)∧LkU x0 v.2) (fun v=>(v.1).toNat) (by (have h9:=(hI1.2).2;refine ⟨by ((try dsimp only);intros;(try simp only [decide_eq_true_eq,decide_eq_false_iff_not,Bool.and_eq_true,Bool.not_eq_true',swp_len,inR] at *);first | done | omega),hI1.2⟩)) (Nat.lt_succ_self _) rfl fun m2 v2 F2 hI2 hM2 hR hK2=>?_
    refine rg ⟨by (have h9:=(hk).2;intros;(try simp only [decide_eq_true_eq,decide_eq_false_iff_not,Bool.and_eq_true,Bool.not_eq_true',swp_len,inR] at *);first | done | omega),fun hg0=>⟨by (have h9:=(hI2.2).2;intros;(try simp only [decide_eq_true_eq,decide_eq_false_iff_not,Bool.and_eq_true,Bool.not_eq_true',swp_len,inR] at *);first | done | omega),by (have h9:=(hI2.2).2;intros;(try simp only [decide_eq_true_eq,decide_eq_false_iff_not,Bool.and_eq_true,Bool.not_eq_true',swp_len,inR] at *);first | done | omega)⟩,trivial⟩ ?_
    revert hR;refine cd (fun hc2 hR=>?_) fun hc2 hR=>?_
    ·
      refine rg ⟨by (have h9:=(hk).2;intros;(try simp only [decide_eq_true_eq,decide_eq_false_iff_not,Bool.and_eq_true,Bool.not_eq_true',swp_len,inR] at *);first | done | omega),⟨by (have h9:=(hI2.2).2;intros;(try simp only [decide_eq_true_eq,decide_eq_false_iff_not,Bool.and_eq_true,Bool.not_eq_true',swp_len,inR] at *);first | done | omega),by (have h9:=(hI2.2).2;intros;(try simp only [decide_eq_true_eq,decide_eq_false_iff_not,Bool.and_eq_true,Bool.not_eq_true',swp_len,inR] at *);first | done | omega)⟩,trivial⟩ ?_
      refine rg ⟨by (have h9:=(hk).2;intros;(try simp only [decide_eq_true_eq,decide_eq_false_iff_not,Bool.and_eq_true,Bool.not_eq_true',swp_len,inR] at *);first | done | omega),trivial⟩ ?_
      exact hK2 (v2.1 - 1,(swp v2.2 v2.1 (v2.1 - 1))) (by (have h9:=(hI2.2).2;intros;(try simp only [decide_eq_true_eq,decide_eq_false_iff_not,Bool.and_eq_true,Bool.not_eq_true',swp_len,inR] at *);refine ⟨by ((try dsimp only);omega),(hI2.2).swp ⟨by omega,by omega⟩ ⟨by omega,by omega⟩⟩)) (by (have h9:=(hk).2;intros;(try simp only [decide_eq_true_eq,decide_eq_false_iff_not,Bool.and_eq_true,Bool.not_eq_true',swp_len,inR] at *);first | done | omega)) hR
    ·
      refine rg ⟨by (have h9:=(hk).2;intros;(try simp only [decide_eq_true_eq,decide_eq_false_iff_not,Bool.and_eq_true,Bool.not_eq_true',swp_len,inR] at *);first | done | omega),trivial⟩ ?_
      exact hK1 (v1.1+1,v2.2) (by (have h9:=(hI2.2).2;refine ⟨by ((try dsimp only);intros;(try simp only [decide_eq_true_eq,decide_eq_false_iff_not,Bool.and_eq_true,Bool.not_eq_true',swp_len,inR] at *);first | done | omega),hI2.2⟩)) (by (have h9:=(hk).2;intros;(try simp only [decide_eq_true_eq,decide_eq_false_iff_not,Bool.and_eq_true,Bool.not_eq_true',swp_len,inR] at *);first | done | omega)) hR
  ·
    exact congrArg (C195U x0 x1 x2) hR
 exact FnM.go 35 Try.func195 (by kernel_rfl) (by kernel_rfl) (A195U x0 x1 x2) (by kernel_rfl) (aux _ rfl)
def k195U (d:Nat) (ids:List Nat) (x0:SrtU) (x1:Int) (x2:Int):Cl:=(hresM d ids (C195U x0 x1 x2 (insSortU x0 x1 x2)),k3 (ok_sort_insertionSort_func_U x0 x1 x2))
def C224U (x0:SrtU) (x1:Int) (x2:Int) (x3:Int) (R:(List Union)):LV×List (Nat×BC):=(.tup [],[(900000,.arr 4 R.length (rowOf (cUnion true) R)),(900001,.var [.own 900002,.own 900000]),(900002,.arr 6 x0.c0.length (rowOf (cPerson true) x0.c0))])
def swapRangeU (x0:SrtU) (x1:Int) (x2:Int) (x3:Int):(List Union):=loopN (fun i1 (v1:(List Union)) next=>next (swp v1 (x1+((i1:Nat):Int)) (x2+((i1:Nat):Int)))) (fun (v1:(List Union))=>v1) x3.toNat 0 x0.l
def D224Ub1 (x0:SrtU) (x1:Int) (x2:Int) (x3:Int) (i1:Nat) (v1:(List Union)):Dl:=⟨[(8,.int .i64 ((i1:Nat):Int))],[(900000,.arr 4 v1.length (rowOf (cUnion true) v1))]⟩
def A224Ub1 (x0:SrtU) (x1:Int) (x2:Int) (x3:Int) (i1:Nat) (v1:(List Union)):Ann:=r0 1 [1,2,3,4,8,11] [4,900000,900001,900002] (cn (decide (((i1:Nat):Int)<x3)) (.reg 1 [] [(8,kswU 504 [900000] v1 (x1+((i1:Nat):Int)) (x2+((i1:Nat):Int)))] [1,2,3,4,8] [4,900000,900001,900002] [] [pf (inR .i64 (x1+((i1:Nat):Int))),pf (inR .i64 (x2+((i1:Nat):Int)))] [] [0,4,8] (r1 1 [1,2,3,4,8] [4,900000,900001,900002] [pf (inR .i64 (((i1:Nat):Int)+1))] [0] (.next 0 [(900000,some 900000)] (D224Ub1 x0 x1 x2 x3 (i1+1) (swp v1 (x1+((i1:Nat):Int)) (x2+((i1:Nat):Int))))))) (rt [(900000,some 900000),(900001,some 900001),(900002,some 900002)] (C224U x0 x1 x2 x3 v1)))
def A224U (x0:SrtU) (x1:Int) (x2:Int) (x3:Int):Ann:=r0 2 [1,2,3,4,8] [4,900000,900001,900002] (lp (D224Ub1 x0 x1 x2 x3) [] [] [(900000,some 900000)] (D224Ub1 x0 x1 x2 x3 0 x0.l) (A224Ub1 x0 x1 x2 x3))
theorem swapRangeU_lk {x:SrtU} (hk:LkU x x.l) {a b n:Int} (h:(0≤a∧0≤b∧0≤n)∧a+n≤x.l.length∧b+n≤x.l.length):LkU x (swapRangeU x a b n):=hk.pm (gSwp_pm h)

theorem ok_sort_swapRange_func_U (x0:SrtU) (x1:Int) (x2:Int) (x3:Int) (hx:x0.l.length≤255) (hk:LkU x0 x0.l) (hab:(0≤x1∧0≤x2∧0≤x3)∧x1+x3≤x0.l.length∧x2+x3≤x0.l.length):FnMT Try.prog 224 [.agg [.clo 121 [.vp 900001 0],.clo 194 [.own 900000,.k Try.prog.globals.size 94]],.int .i64 x1,.int .i64 x2,.int .i64 x3] [.arr 4 x0.l.length (rowOf (cUnion true) x0.l),.var [.own 900002,.own 900000],.arr 6 x0.c0.length (rowOf (cPerson true) x0.c0)] (C224U x0 x1 x2 x3 (swapRangeU x0 x1 x2 x3)):=by
 have aux:∀ R,swapRangeU x0 x1 x2 x3=R→slim (C224U x0 x1 x2 x3 R) (A224U x0 x1 x2 x3) []:=by
  intro R hR
  refine rg trivial ?_
  revert hR;refine lN (fun i v=>LkU x0 v) (by with_reducible assumption) rfl fun i1 v1 F1 hn1 hI1 hR hK1=>?_
  refine rg trivial ?_
  refine ⟨fun hc1=>?_,fun hc1=>?_⟩
  ·have hii1:i1<x3.toNat:=by have:=of_decide_eq_true hc1;omega
   replace hR:=loopN_step hR hii1
   refine rg ⟨by (have h9:=(hk).2;intros;(try simp only [decide_eq_true_eq,decide_eq_false_iff_not,Bool.and_eq_true,Bool.not_eq_true',swp_len,inR] at *);first | done | omega),by (have h9:=(hk).2;intros;(try simp only [decide_eq_true_eq,decide_eq_false_iff_not,Bool.and_eq_true,Bool.not_eq_true',swp_len,inR] at *);first | done | omega),⟨by (have h9:=(hI1).2;intros;(try simp only [decide_eq_true_eq,decide_eq_false_iff_not,Bool.and_eq_true,Bool.not_eq_true',swp_len,inR] at *);first | done | omega),by (have h9:=(hI1).2;intros;(try simp only [decide_eq_true_eq,decide_eq_false_iff_not,Bool.and_eq_true,Bool.not_eq_true',swp_len,inR] at *);first | done | omega)⟩,trivial⟩ ?_
   refine rg ⟨by (have h9:=(hk).2;intros;(try simp only [decide_eq_true_eq,decide_eq_false_iff_not,Bool.and_eq_true,Bool.not_eq_true',swp_len,inR] at *);first | done | omega),trivial⟩ ?_
   exact hK1 (swp v1 (x1+((i1:Nat):Int)) (x2+((i1:Nat):Int))) hii1 (by (have h9:=(hI1).2;intros;(try simp only [decide_eq_true_eq,decide_eq_false_iff_not,Bool.and_eq_true,Bool.not_eq_true',swp_len,inR] at *);exact (hI1).swp ⟨by omega,by omega⟩ ⟨by omega,by omega⟩)) hR
  ·obtain rfl:i1=x3.toNat:=by have:=of_decide_eq_false hc1;omega
   replace hR:=loopN_end hR (Nat.lt_irrefl _)
   exact congrArg (C224U x0 x1 x2 x3) hR
 exact FnM.go 23 Try.func224 (by kernel_rfl) (by kernel_rfl) (A224U x0 x1 x2 x3) (by kernel_rfl) (aux _ rfl)
def k224U (d:Nat) (ids:List Nat) (x0:SrtU) (x1:Int) (x2:Int) (x3:Int):Cl:=(hresM d ids (C224U x0 x1 x2 x3 (swapRangeU x0 x1 x2 x3)),k3 (ok_sort_swapRange_func_U x0 x1 x2 x3))
def C215U (x0:SrtU) (x1:Int) (x2:Int) (x3:Int) (R:(List Union)):LV×List (Nat×BC):=(.tup [],[(900000,.arr 4 R.length (rowOf (cUnion true) R)),(900001,.var [.own 900002,.own 900000]),(900002,.arr 6 x0.c0.length (rowOf (cPerson true) x0.c0))])
def rotateU (x0:SrtU) (x1:Int) (x2:Int) (x3:Int):(List Union):=loopW (fun (v1:Int×Int×(List Union)) next=>bif (!decide (v1.1=v1.2.1)) then (bif (decide (v1.2.1<v1.1)) then (next (v1.1 - v1.2.1,v1.2.1,swapRangeU (SrtU.mk x0.c0 v1.2.2) (x2 - v1.1) x2 v1.2.1)) else (next (v1.1,v1.2.1 - v1.1,swapRangeU (SrtU.mk x0.c0 v1.2.2) (x2 - v1.1) ((x2+v1.2.1) - v1.1) v1.1))) else (swapRangeU (SrtU.mk x0.c0 v1.2.2) (x2 - v1.1) x2 v1.1)) ((x2 - x1+(x3 - x2)).toNat+1) (x2 - x1,x3 - x2,x0.l)
def D215Ub1 (x0:SrtU) (x1:Int) (x2:Int) (x3:Int) (v1:Int×Int×(List Union)):Dl:=⟨[(8,.int .i64 v1.1),(9,.int .i64 v1.2.1)],[(900000,.arr 4 v1.2.2.length (rowOf (cUnion true) v1.2.2))]⟩
def A215Ub1 (x0:SrtU) (x1:Int) (x2:Int) (x3:Int) (v1:Int×Int×(List Union)):Ann:=r0 1 [2,4,8,9,18] [4,900000,900001,900002] (cn (!decide (v1.1=v1.2.1)) (r0 1 [2,4,8,9,21] [4,900000,900001,900002] (cn (decide (v1.2.1<v1.1)) (.reg 1 [] [(6,k224U 28 [900000,900001,900002] (SrtU.mk x0.c0 v1.2.2) (x2 - v1.1) x2 v1.2.1)] [2,4,8,9] [4,900000,900001,900002] [] [pf (inR .i64 (x2 - v1.1))] [] [0,4] (r1 1 [2,4,8,9] [4,900000,900001,900002] [pf (inR .i64 (v1.1 - v1.2.1))] [0] (.next 0 [(900000,some 900000)] (D215Ub1 x0 x1 x2 x3 (v1.1 - v1.2.1,v1.2.1,swapRangeU (SrtU.mk x0.c0 v1.2.2) (x2 - v1.1) x2 v1.2.1))))) (.reg 1 [] [(10,k224U 42 [900000,900001,900002] (SrtU.mk x0.c0 v1.2.2) (x2 - v1.1) ((x2+v1.2.1) - v1.1) v1.1)] [2,4,8,9] [4,900000,900001,900002] [] [pf (inR .i64 (x2 - v1.1)),pf (inR .i64 (x2+v1.2.1)),pf (inR .i64 ((x2+v1.2.1) - v1.1))] [] [0,4,8,12] (r1 1 [2,4,8,9] [4,900000,900001,900002] [pf (inR .i64 (v1.2.1 - v1.1))] [0] (.next 0 [(900000,some 900000)] (D215Ub1 x0 x1 x2 x3 (v1.1,v1.2.1 - v1.1,swapRangeU (SrtU.mk x0.c0 v1.2.2) (x2 - v1.1) ((x2+v1.2.1) - v1.1) v1.1))))))) (.reg 1 [] [(6,k224U 52 [900000,900001,900002] (SrtU.mk x0.c0 v1.2.2) (x2 - v1.1) x2 v1.1)] [] [900000,900001,900002] [] [pf (inR .i64 (x2 - v1.1))] [] [0,4] (rt [(900000,some 900000),(900001,some 900001),(900002,some 900002)] (C215U x0 x1 x2 x3 (swapRangeU (SrtU.mk x0.c0 v1.2.2) (x2 - v1.1) x2 v1.1)))))
def A215U (x0:SrtU) (x1:Int) (x2:Int) (x3:Int):Ann:=r1 3 [2,4,8,9] [4,900000,900001,900002] [pf (inR .i64 (x2 - x1)),pf (inR .i64 (x3 - x2))] [0,4] (.loop (Int×Int×(List Union)) (D215Ub1 x0 x1 x2 x3) [] [] [(900000,some 900000)] (D215Ub1 x0 x1 x2 x3 (x2 - x1,x3 - x2,x0.l)) (A215Ub1 x0 x1 x2 x3))
theorem rotateU_eq (x:SrtU) (a m b:Int):rotateU x a m b=gRot x.l a m b:=rfl
theorem rotateU_lk {x:SrtU} (hk:LkU x x.l) {a m b:Int} (h:0≤a∧a<m∧m<b∧b≤x.l.length):LkU x (rotateU x a m b):=hk.pm (gRot_pm h)

theorem ok_sort_rotate_func_U (x0:SrtU) (x1:Int) (x2:Int) (x3:Int) (hx:x0.l.length≤255) (hk:LkU x0 x0.l) (hab:0≤x1∧x1<x2∧x2<x3∧x3≤x0.l.length):FnMT Try.prog 215 [.agg [.clo 121 [.vp 900001 0],.clo 194 [.own 900000,.k Try.prog.globals.size 94]],.int .i64 x1,.int .i64 x2,.int .i64 x3] [.arr 4 x0.l.length (rowOf (cUnion true) x0.l),.var [.own 900002,.own 900000],.arr 6 x0.c0.length (rowOf (cPerson true) x0.c0)] (C215U x0 x1 x2 x3 (rotateU x0 x1 x2 x3)):=by
 have aux:∀ R,rotateU x0 x1 x2 x3=R→slim (C215U x0 x1 x2 x3 R) (A215U x0 x1 x2 x3) []:=by
  intro R hR
  refine rg ⟨by (have h9:=(hk).2;intros;(try simp only [decide_eq_true_eq,decide_eq_false_iff_not,Bool.and_eq_true,Bool.not_eq_true',swp_len,inR] at *);first | done | omega),by (have h9:=(hk).2;intros;(try simp only [decide_eq_true_eq,decide_eq_false_iff_not,Bool.and_eq_true,Bool.not_eq_true',swp_len,inR] at *);first | done | omega),trivial⟩ ?_
  revert hR;refine lW (fun v=>(1≤v.1∧1≤v.2.1∧v.1≤x2 - x1∧v.2.1≤x3 - x2)∧LkU x0 v.2.2) (fun v=>(v.1+(v.2.1)).toNat) (by (have h9:=(hk).2;refine ⟨by ((try dsimp only);intros;(try simp only [decide_eq_true_eq,decide_eq_false_iff_not,Bool.and_eq_true,Bool.not_eq_true',swp_len,inR] at *);first | done | omega),hk⟩)) (Nat.lt_succ_self _) rfl fun m1 v1 F1 hI1 hM1 hR hK1=>?_
  refine rg trivial ?_
  revert hR;refine cd (fun hc1 hR=>?_) fun hc1 hR=>?_
  ·
    refine rg trivial ?_
    revert hR;refine cd (fun hc2 hR=>?_) fun hc2 hR=>?_
    ·
      refine rg ⟨by (have h9:=(hk).2;intros;(try simp only [decide_eq_true_eq,decide_eq_false_iff_not,Bool.and_eq_true,Bool.not_eq_true',swp_len,inR] at *);first | done | omega),⟨by (have h9:=(hI1.2).2;intros;(try simp only [decide_eq_true_eq,decide_eq_false_iff_not,Bool.and_eq_true,Bool.not_eq_true',swp_len,inR] at *);first | done | omega),by (exact (hI1.2).me),by (have h9:=(hI1.2).2;intros;(try simp only [decide_eq_true_eq,decide_eq_false_iff_not,Bool.and_eq_true,Bool.not_eq_true',swp_len,inR] at *);first | done | omega)⟩,trivial⟩ ?_
      refine rg ⟨by (have h9:=(hk).2;intros;(try simp only [decide_eq_true_eq,decide_eq_false_iff_not,Bool.and_eq_true,Bool.not_eq_true',swp_len,inR] at *);first | done | omega),trivial⟩ ?_
      exact hK1 (v1.1 - v1.2.1,v1.2.1,swapRangeU (SrtU.mk x0.c0 v1.2.2) (x2 - v1.1) x2 v1.2.1) (by (have h9:=(hI1.2).2;intros;(try simp only [decide_eq_true_eq,decide_eq_false_iff_not,Bool.and_eq_true,Bool.not_eq_true',swp_len,inR] at *);refine ⟨by ((try dsimp only);omega),(hI1.2).of (swapRangeU_lk (hI1.2).me (by ((try dsimp only);omega)))⟩)) (by (have h9:=(hk).2;intros;(try simp only [decide_eq_true_eq,decide_eq_false_iff_not,Bool.and_eq_true,Bool.not_eq_true',swp_len,inR] at *);first | done | omega)) hR
    ·
      refine rg ⟨by (have h9:=(hk).2;intros;(try simp only [decide_eq_true_eq,decide_eq_false_iff_not,Bool.and_eq_true,Bool.not_eq_true',swp_len,inR] at *);first | done | omega),by (have h9:=(hk).2;intros;(try simp only [decide_eq_true_eq,decide_eq_false_iff_not,Bool.and_eq_true,Bool.not_eq_true',swp_len,inR] at *);first | done | omega),by (have h9:=(hk).2;intros;(try simp only [decide_eq_true_eq,decide_eq_false_iff_not,Bool.and_eq_true,Bool.not_eq_true',swp_len,inR] at *);first | done | omega),⟨by (have h9:=(hI1.2).2;intros;(try simp only [decide_eq_true_eq,decide_eq_false_iff_not,Bool.and_eq_true,Bool.not_eq_true',swp_len,inR] at *);first | done | omega),by (exact (hI1.2).me),by (have h9:=(hI1.2).2;intros;(try simp only [decide_eq_true_eq,decide_eq_false_iff_not,Bool.and_eq_true,Bool.not_eq_true',swp_len,inR] at *);first | done | omega)⟩,trivial⟩ ?_
      refine rg ⟨by (have h9:=(hk).2;intros;(try simp only [decide_eq_true_eq,decide_eq_false_iff_not,Bool.and_eq_true,Bool.not_eq_true',swp_len,inR] at *);first | done | omega),trivial⟩ ?_
      exact hK1 (v1.1,v1.2.1 - v1.1,swapRangeU (SrtU.mk x0.c0 v1.2.2) (x2 - v1.1) ((x2+v1.2.1) - v1.1) v1.1) (by (have h9:=(hI1.2).2;intros;(try simp only [decide_eq_true_eq,decide_eq_false_iff_not,Bool.and_eq_true,Bool.not_eq_true',swp_len,inR] at *);refine ⟨by ((try dsimp only);omega),(hI1.2).of (swapRangeU_lk (hI1.2).me (by ((try dsimp only);omega)))⟩)) (by (have h9:=(hk).2;intros;(try simp only [decide_eq_true_eq,decide_eq_false_iff_not,Bool.and_eq_true,Bool.not_eq_true',swp_len,inR] at *);first | done | omega)) hR
  ·
    refine rg ⟨by (have h9:=(hk).2;intros;(try simp only [decide_eq_true_eq,decide_eq_false_iff_not,Bool.and_eq_true,Bool.not_eq_true',swp_len,inR] at *);first | done | omega),⟨by (have h9:=(hI1.2).2;intros;(try simp only [decide_eq_true_eq,decide_eq_false_iff_not,Bool.and_eq_true,Bool.not_eq_true',swp_len,inR] at *);first | done | omega),by (exact (hI1.2).me),by ((try clear hR hK1);intros;(try simp only [decide_eq_true_eq,decide_eq_false_iff_not,Bool.or_eq_true,Bool.and_eq_true,or_f_iff,not_f_iff,not_t_iff,Bool.not_eq_true',inR] at *);(repeat' apply And.intro)<;>(first | (intros;omega) | (have h9:=(hI1.2).2;intros;(try simp only [decide_eq_true_eq,decide_eq_false_iff_not,Bool.and_eq_true,Bool.not_eq_true',swp_len,inR] at *);first | done | omega)))⟩,trivial⟩ ?_
    exact congrArg (C215U x0 x1 x2 x3) hR
 exact FnM.go 53 Try.func215 (by kernel_rfl) (by kernel_rfl) (A215U x0 x1 x2 x3) (by kernel_rfl) (aux _ rfl)
def k215U (d:Nat) (ids:List Nat) (x0:SrtU) (x1:Int) (x2:Int) (x3:Int):Cl:=(hresM d ids (C215U x0 x1 x2 x3 (rotateU x0 x1 x2 x3)),k3 (ok_sort_rotate_func_U x0 x1 x2 x3))
end Go.Proofs.Ytepefimocflfkaa
