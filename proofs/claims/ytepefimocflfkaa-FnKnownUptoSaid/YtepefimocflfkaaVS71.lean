import Derived.Test.YtepefimocflfkaaM190
set_option maxHeartbeats 4000000
set_option linter.unusedSimpArgs false
set_option linter.unusedVariables false
namespace Go.Proofs.Ytepefimocflfkaa
open Go Go.Lite Go.Proofs
def OkL (f:Family) (l:List Int):Prop:=∀ c∈l,0≤c∧c<f.people.length
theorem OkL.at {f:Family} {l:List Int} (h:OkL f l) {i:Int} (hi:0≤i∧i<l.length):0≤l.getD i.toNat default∧l.getD i.toNat default<f.people.length:=by
 have e:l.getD i.toNat default=l[i.toNat]'(by omega):=by rw [List.getD_eq_getElem?_getD,List.getElem?_eq_getElem (by omega)];rfl
 rw [e]
 exact h _ (List.getElem_mem _)

def C119 (R:Bool):LV×List (Nat×BC):=(.bool R,[])
def lessBorn (x0:Int) (x1:Int) (x2:Family) (x3:List Int):Bool:=decide (((x2.people.getD ((x3.getD x0.toNat default).toNat) default).born)<((x2.people.getD ((x3.getD x1.toNat default).toNat) default).born))
def A119 (x0:Int) (x1:Int) (x2:Family) (x3:List Int):Ann:=r1 2 [6] [] [pf (0≤(x0:Int)∧(x0:Int)<((x3.length:Nat):Int)),pf (0≤((x3.getD x0.toNat default):Int)∧((x3.getD x0.toNat default):Int)<((x2.people.length:Nat):Int)),pf (0≤(x1:Int)∧(x1:Int)<((x3.length:Nat):Int)),pf (0≤((x3.getD x1.toNat default):Int)∧((x3.getD x1.toNat default):Int)<((x2.people.length:Nat):Int))] [0,4,8,12] (rt [] (C119 (decide (((x2.people.getD ((x3.getD x0.toNat default).toNat) default).born)<((x2.people.getD ((x3.getD x1.toNat default).toNat) default).born)))))
theorem ok_impl_chronological_1 (x0:Int) (x1:Int) (x2:Family) (x3:List Int) (h0:0≤x0∧x0<x3.length) (h1:0≤x1∧x1<x3.length) (hok:OkL x2 x3):FnT Try.prog 119 [.int .i64 x0,.int .i64 x1,.ep [.ro false 6 x2.people.length (rowOf (cPerson false) x2.people),.ro false 4 x2.unions.length (rowOf (cUnion false) x2.unions)] 0,.ep [.ro false 1 x3.length (rowOf (cInt .i64) x3)] 0] (C119 (lessBorn x0 x1 x2 x3)):=by
 have aux:∀ R,lessBorn x0 x1 x2 x3=R→slim (C119 R) (A119 x0 x1 x2 x3) []:=by
  intro R hR
  refine rg ⟨by trivial,by (have h8:=hok.at h0;have h9:=hok.at h1;omega),by trivial,by (have h8:=hok.at h0;have h9:=hok.at h1;omega),trivial⟩ ?_
  exact congrArg C119 hR
 exact Fn.go 26 Try.func119 (by kernel_rfl) (by kernel_rfl) (by simp [C119,Frs,FrsL]) (A119 x0 x1 x2 x3) (by kernel_rfl) (aux _ rfl)
def k119 (x0:Int) (x1:Int) (x2:Family) (x3:List Int):Cl:=(hres (C119 (lessBorn x0 x1 x2 x3)),k3 (ok_impl_chronological_1 x0 x1 x2 x3))
structure SrtP where
 c0:Family
 l:List Int
 deriving Inhabited
def kswP (d : Nat) (ids : List Nat) (l : List Int) (i j : Int) : Cl := (.resM d ids [(900000, .arr 1 (swp l i j).length (rowOf (cInt .i64) (swp l i j)))] (.tup []), k2 (P := FnX Try.prog 190 [.int .i64 i, .int .i64 j, .own 900000, .k Try.prog.globals.size 3] [.arr 1 l.length (rowOf (cInt .i64) l)] (.tup []) [(900000, .arr 1 (swp l i j).length (rowOf (cInt .i64) (swp l i j)))])
  fun hi hj=>FnX.swap (b:=true) (ag:=false) Try.func190 (by kernel_rfl) (by kernel_rfl) (by kernel_rfl) (by rfl) (by kernel_rfl) (by kernel_rfl) (by kernel_rfl) (by intro _;rfl) hi hj)
def LkP (x:SrtP) (l:List Int):Prop:=(OkL x.c0 l)∧l.length=x.l.length
theorem LkP.swp {x:SrtP} {l:List Int} (h:LkP x l) {i j:Int} (hi:0≤i∧i<x.l.length) (hj:0≤j∧j<x.l.length):LkP x (swp l i j):=⟨fun c hc=>h.1 c (swp_mem (by rw [h.2];exact hi) (by rw [h.2];exact hj) hc),by rw [swp_len];exact h.2⟩
def RP (x:SrtP):Int→Int→Bool:=fun u v=>decide (((x.c0.people.getD u.toNat default).born)<((x.c0.people.getD v.toNat default).born))
theorem LkP.pm {x:SrtP} {l l':List Int} (h:LkP x l) (hp:Pm l l'):LkP x l':=⟨fun c hc=>h.1 c (hp.2 c hc),hp.1.trans h.2⟩
theorem LkP.me {x:SrtP} {l:List Int} (h:LkP x l):LkP (SrtP.mk x.c0 l) l:=⟨h.1,rfl⟩
theorem LkP.of {x:SrtP} {l l':List Int} (h:LkP x l) (h':LkP (SrtP.mk x.c0 l) l'):LkP x l':=⟨h'.1,h'.2.trans h.2⟩

def C195P (x0:SrtP) (x1:Int) (x2:Int) (R:(List Int)):LV×List (Nat×BC):=(.tup [],[(900000,.arr 1 R.length (rowOf (cInt .i64) R)),(900001,.var [.ro false 6 x0.c0.people.length (rowOf (cPerson false) x0.c0.people),.ro false 4 x0.c0.unions.length (rowOf (cUnion false) x0.c0.unions)]),(900002,.var [.own 900000])])
def insSortP (x0:SrtP) (x1:Int) (x2:Int):(List Int):=loopW (fun (v1:Int×(List Int)) nx1=>bif (decide (v1.1<x2)) then (loopW (fun (v2:Int×(List Int)) next=>bif ((decide (x1<v2.1))&&(lessBorn v2.1 (v2.1 - 1) x0.c0 v2.2)) then (next (v2.1 - 1,(swp v2.2 v2.1 (v2.1 - 1)))) else (nx1 (v1.1+1,v2.2))) ((v1.1).toNat+1) (v1.1,v1.2)) else v1.2) ((x2 - (x1+1)).toNat+1) (x1+1,x0.l)
def D195Pb1 (x0:SrtP) (x1:Int) (x2:Int) (v1:Int×(List Int)):Dl:=⟨[(6,.int .i64 v1.1)],[(900000,.arr 1 v1.2.length (rowOf (cInt .i64) v1.2))]⟩
def D195Pb2 (x0:SrtP) (x1:Int) (x2:Int) (v1:Int×(List Int)) (v2:Int×(List Int)):Dl:=⟨[(7,.int .i64 v2.1)],[(900000,.arr 1 v2.2.length (rowOf (cInt .i64) v2.2))]⟩
def A195Pb2 (x0:SrtP) (x1:Int) (x2:Int) (v1:Int×(List Int)) (v2:Int×(List Int)):Ann:=.reg 1 [] [(9,cg (decide (x1<v2.1)) (k119 v2.1 (v2.1 - 1) x0.c0 v2.2))] [1,2,3,6,7,26] [3,900000,900001,900002] [decide (x1<v2.1)] [gt (decide (x1<v2.1)) (pf (inR .i64 (v2.1 - 1)))] [] [1,1,0,1,1,1,4,1] (cn ((decide (x1<v2.1))&&(lessBorn v2.1 (v2.1 - 1) x0.c0 v2.2)) (.reg 1 [] [(5,kswP 504 [900000] v2.2 v2.1 (v2.1 - 1))] [1,2,3,6,7] [3,900000,900001,900002] [] [pf (inR .i64 (v2.1 - 1))] [] [0,4] (r1 1 [1,2,3,6,7] [3,900000,900001,900002] [pf (inR .i64 (v2.1 - 1))] [0] (.next 0 [(900000,some 900000)] (D195Pb2 x0 x1 x2 v1 (v2.1 - 1,(swp v2.2 v2.1 (v2.1 - 1))))))) (r1 1 [1,2,3,6] [3,900000,900001,900002] [pf (inR .i64 (v1.1+1))] [0] (.next 1 [(900000,some 900000)] (D195Pb1 x0 x1 x2 (v1.1+1,v2.2)))))
def A195Pb1 (x0:SrtP) (x1:Int) (x2:Int) (v1:Int×(List Int)):Ann:=r0 1 [1,2,3,6,12] [3,900000,900001,900002] (cn (decide (v1.1<x2)) (r0 1 [1,2,3,6,7] [3,900000,900001,900002] (.loop (Int×(List Int)) (D195Pb2 x0 x1 x2 v1) [] [] [(900000,some 900000)] (D195Pb2 x0 x1 x2 v1 (v1.1,v1.2)) (A195Pb2 x0 x1 x2 v1))) (rt [(900000,some 900000),(900001,some 900001),(900002,some 900002)] (C195P x0 x1 x2 v1.2)))
def A195P (x0:SrtP) (x1:Int) (x2:Int):Ann:=r1 2 [1,2,3,6] [3,900000,900001,900002] [pf (inR .i64 (x1+1))] [0] (.loop (Int×(List Int)) (D195Pb1 x0 x1 x2) [] [] [(900000,some 900000)] (D195Pb1 x0 x1 x2 (x1+1,x0.l)) (A195Pb1 x0 x1 x2))
theorem insSortP_eq (x:SrtP) (a b:Int):insSortP x a b=gIns (RP x) x.l a b:=rfl
theorem insSortP_lk {x:SrtP} (hk:LkP x x.l) {a b:Int} (h:0≤a∧a≤b∧b≤x.l.length):LkP x (insSortP x a b):=hk.pm (gIns_pm (RP x) h)

theorem ok_sort_insertionSort_func_P (x0:SrtP) (x1:Int) (x2:Int) (hx:x0.l.length≤255) (hk:LkP x0 x0.l) (hab:0≤x1∧x1≤x2∧x2≤x0.l.length):FnMT Try.prog 195 [.agg [.clo 119 [.vp 900001 0,.vp 900002 0],.clo 190 [.own 900000,.k Try.prog.globals.size 3]],.int .i64 x1,.int .i64 x2] [.arr 1 x0.l.length (rowOf (cInt .i64) x0.l),.var [.ro false 6 x0.c0.people.length (rowOf (cPerson false) x0.c0.people),.ro false 4 x0.c0.unions.length (rowOf (cUnion false) x0.c0.unions)],.var [.own 900000]] (C195P x0 x1 x2 (insSortP x0 x1 x2)):=by
 have aux:∀ R,insSortP x0 x1 x2=R→slim (C195P x0 x1 x2 R) (A195P x0 x1 x2) []:=by
  intro R hR
  refine rg ⟨by (have h9:=(hk).2;intros;(try simp only [decide_eq_true_eq,decide_eq_false_iff_not,Bool.and_eq_true,Bool.not_eq_true',swp_len,inR] at *);first | done | omega),trivial⟩ ?_
  revert hR;refine lW (fun v=>x1+1≤v.1∧LkP x0 v.2) (fun v=>(x2 - (v.1)).toNat) (by (have h9:=(hk).2;refine ⟨by ((try dsimp only);intros;(try simp only [decide_eq_true_eq,decide_eq_false_iff_not,Bool.and_eq_true,Bool.not_eq_true',swp_len,inR] at *);first | done | omega),hk⟩)) (Nat.lt_succ_self _) rfl fun m1 v1 F1 hI1 hM1 hR hK1=>?_
  refine rg trivial ?_
  revert hR;refine cd (fun hc1 hR=>?_) fun hc1 hR=>?_
  ·
    refine rg trivial ?_
    revert hR;refine lW (fun v=>(x1≤v.1∧v.1≤v1.1)∧LkP x0 v.2) (fun v=>(v.1).toNat) (by (have h9:=(hI1.2).2;refine ⟨by ((try dsimp only);intros;(try simp only [decide_eq_true_eq,decide_eq_false_iff_not,Bool.and_eq_true,Bool.not_eq_true',swp_len,inR] at *);first | done | omega),hI1.2⟩)) (Nat.lt_succ_self _) rfl fun m2 v2 F2 hI2 hM2 hR hK2=>?_
    refine rg ⟨by (have h9:=(hk).2;intros;(try simp only [decide_eq_true_eq,decide_eq_false_iff_not,Bool.and_eq_true,Bool.not_eq_true',swp_len,inR] at *);first | done | omega),fun hg0=>⟨by (have h9:=(hI2.2).2;intros;(try simp only [decide_eq_true_eq,decide_eq_false_iff_not,Bool.and_eq_true,Bool.not_eq_true',swp_len,inR] at *);first | done | omega),by (have h9:=(hI2.2).2;intros;(try simp only [decide_eq_true_eq,decide_eq_false_iff_not,Bool.and_eq_true,Bool.not_eq_true',swp_len,inR] at *);first | done | omega),by (exact (hI2.2).1)⟩,trivial⟩ ?_
    revert hR;refine cd (fun hc2 hR=>?_) fun hc2 hR=>?_
    ·
      refine rg ⟨by (have h9:=(hk).2;intros;(try simp only [decide_eq_true_eq,decide_eq_false_iff_not,Bool.and_eq_true,Bool.not_eq_true',swp_len,inR] at *);first | done | omega),⟨by (have h9:=(hI2.2).2;intros;(try simp only [decide_eq_true_eq,decide_eq_false_iff_not,Bool.and_eq_true,Bool.not_eq_true',swp_len,inR] at *);first | done | omega),by (have h9:=(hI2.2).2;intros;(try simp only [decide_eq_true_eq,decide_eq_false_iff_not,Bool.and_eq_true,Bool.not_eq_true',swp_len,inR] at *);first | done | omega)⟩,trivial⟩ ?_
      refine rg ⟨by (have h9:=(hk).2;intros;(try simp only [decide_eq_true_eq,decide_eq_false_iff_not,Bool.and_eq_true,Bool.not_eq_true',swp_len,inR] at *);first | done | omega),trivial⟩ ?_
      exact hK2 (v2.1 - 1,(swp v2.2 v2.1 (v2.1 - 1))) (by (have h9:=(hI2.2).2;intros;(try simp only [decide_eq_true_eq,decide_eq_false_iff_not,Bool.and_eq_true,Bool.not_eq_true',swp_len,inR] at *);refine ⟨by ((try dsimp only);omega),(hI2.2).swp ⟨by omega,by omega⟩ ⟨by omega,by omega⟩⟩)) (by (have h9:=(hk).2;intros;(try simp only [decide_eq_true_eq,decide_eq_false_iff_not,Bool.and_eq_true,Bool.not_eq_true',swp_len,inR] at *);first | done | omega)) hR
    ·
      refine rg ⟨by (have h9:=(hk).2;intros;(try simp only [decide_eq_true_eq,decide_eq_false_iff_not,Bool.and_eq_true,Bool.not_eq_true',swp_len,inR] at *);first | done | omega),trivial⟩ ?_
      exact hK1 (v1.1+1,v2.2) (by (have h9:=(hI2.2).2;refine ⟨by ((try dsimp only);intros;(try simp only [decide_eq_true_eq,decide_eq_false_iff_not,Bool.and_eq_true,Bool.not_eq_true',swp_len,inR] at *);first | done | omega),hI2.2⟩)) (by (have h9:=(hk).2;intros;(try simp only [decide_eq_true_eq,decide_eq_false_iff_not,Bool.and_eq_true,Bool.not_eq_true',swp_len,inR] at *);first | done | omega)) hR
  ·
    exact congrArg (C195P x0 x1 x2) hR
 exact FnM.go 35 Try.func195 (by kernel_rfl) (by kernel_rfl) (A195P x0 x1 x2) (by kernel_rfl) (aux _ rfl)
def k195P (d:Nat) (ids:List Nat) (x0:SrtP) (x1:Int) (x2:Int):Cl:=(hresM d ids (C195P x0 x1 x2 (insSortP x0 x1 x2)),k3 (ok_sort_insertionSort_func_P x0 x1 x2))
def C224P (x0:SrtP) (x1:Int) (x2:Int) (x3:Int) (R:(List Int)):LV×List (Nat×BC):=(.tup [],[(900000,.arr 1 R.length (rowOf (cInt .i64) R)),(900001,.var [.ro false 6 x0.c0.people.length (rowOf (cPerson false) x0.c0.people),.ro false 4 x0.c0.unions.length (rowOf (cUnion false) x0.c0.unions)]),(900002,.var [.own 900000])])
def swapRangeP (x0:SrtP) (x1:Int) (x2:Int) (x3:Int):(List Int):=loopN (fun i1 (v1:(List Int)) next=>next (swp v1 (x1+((i1:Nat):Int)) (x2+((i1:Nat):Int)))) (fun (v1:(List Int))=>v1) x3.toNat 0 x0.l
def D224Pb1 (x0:SrtP) (x1:Int) (x2:Int) (x3:Int) (i1:Nat) (v1:(List Int)):Dl:=⟨[(8,.int .i64 ((i1:Nat):Int))],[(900000,.arr 1 v1.length (rowOf (cInt .i64) v1))]⟩
def A224Pb1 (x0:SrtP) (x1:Int) (x2:Int) (x3:Int) (i1:Nat) (v1:(List Int)):Ann:=r0 1 [1,2,3,4,8,11] [4,900000,900001,900002] (cn (decide (((i1:Nat):Int)<x3)) (.reg 1 [] [(8,kswP 504 [900000] v1 (x1+((i1:Nat):Int)) (x2+((i1:Nat):Int)))] [1,2,3,4,8] [4,900000,900001,900002] [] [pf (inR .i64 (x1+((i1:Nat):Int))),pf (inR .i64 (x2+((i1:Nat):Int)))] [] [0,4,8] (r1 1 [1,2,3,4,8] [4,900000,900001,900002] [pf (inR .i64 (((i1:Nat):Int)+1))] [0] (.next 0 [(900000,some 900000)] (D224Pb1 x0 x1 x2 x3 (i1+1) (swp v1 (x1+((i1:Nat):Int)) (x2+((i1:Nat):Int))))))) (rt [(900000,some 900000),(900001,some 900001),(900002,some 900002)] (C224P x0 x1 x2 x3 v1)))
def A224P (x0:SrtP) (x1:Int) (x2:Int) (x3:Int):Ann:=r0 2 [1,2,3,4,8] [4,900000,900001,900002] (lp (D224Pb1 x0 x1 x2 x3) [] [] [(900000,some 900000)] (D224Pb1 x0 x1 x2 x3 0 x0.l) (A224Pb1 x0 x1 x2 x3))
theorem swapRangeP_lk {x:SrtP} (hk:LkP x x.l) {a b n:Int} (h:(0≤a∧0≤b∧0≤n)∧a+n≤x.l.length∧b+n≤x.l.length):LkP x (swapRangeP x a b n):=hk.pm (gSwp_pm h)

theorem ok_sort_swapRange_func_P (x0:SrtP) (x1:Int) (x2:Int) (x3:Int) (hx:x0.l.length≤255) (hk:LkP x0 x0.l) (hab:(0≤x1∧0≤x2∧0≤x3)∧x1+x3≤x0.l.length∧x2+x3≤x0.l.length):FnMT Try.prog 224 [.agg [.clo 119 [.vp 900001 0,.vp 900002 0],.clo 190 [.own 900000,.k Try.prog.globals.size 3]],.int .i64 x1,.int .i64 x2,.int .i64 x3] [.arr 1 x0.l.length (rowOf (cInt .i64) x0.l),.var [.ro false 6 x0.c0.people.length (rowOf (cPerson false) x0.c0.people),.ro false 4 x0.c0.unions.length (rowOf (cUnion false) x0.c0.unions)],.var [.own 900000]] (C224P x0 x1 x2 x3 (swapRangeP x0 x1 x2 x3)):=by
 have aux:∀ R,swapRangeP x0 x1 x2 x3=R→slim (C224P x0 x1 x2 x3 R) (A224P x0 x1 x2 x3) []:=by
  intro R hR
  refine rg trivial ?_
  revert hR;refine lN (fun i v=>LkP x0 v) (by with_reducible assumption) rfl fun i1 v1 F1 hn1 hI1 hR hK1=>?_
  refine rg trivial ?_
  refine ⟨fun hc1=>?_,fun hc1=>?_⟩
  ·have hii1:i1<x3.toNat:=by have:=of_decide_eq_true hc1;omega
   replace hR:=loopN_step hR hii1
   refine rg ⟨by (have h9:=(hk).2;intros;(try simp only [decide_eq_true_eq,decide_eq_false_iff_not,Bool.and_eq_true,Bool.not_eq_true',swp_len,inR] at *);first | done | omega),by (have h9:=(hk).2;intros;(try simp only [decide_eq_true_eq,decide_eq_false_iff_not,Bool.and_eq_true,Bool.not_eq_true',swp_len,inR] at *);first | done | omega),⟨by (have h9:=(hI1).2;intros;(try simp only [decide_eq_true_eq,decide_eq_false_iff_not,Bool.and_eq_true,Bool.not_eq_true',swp_len,inR] at *);first | done | omega),by (have h9:=(hI1).2;intros;(try simp only [decide_eq_true_eq,decide_eq_false_iff_not,Bool.and_eq_true,Bool.not_eq_true',swp_len,inR] at *);first | done | omega)⟩,trivial⟩ ?_
   refine rg ⟨by (have h9:=(hk).2;intros;(try simp only [decide_eq_true_eq,decide_eq_false_iff_not,Bool.and_eq_true,Bool.not_eq_true',swp_len,inR] at *);first | done | omega),trivial⟩ ?_
   exact hK1 (swp v1 (x1+((i1:Nat):Int)) (x2+((i1:Nat):Int))) hii1 (by (have h9:=(hI1).2;intros;(try simp only [decide_eq_true_eq,decide_eq_false_iff_not,Bool.and_eq_true,Bool.not_eq_true',swp_len,inR] at *);exact (hI1).swp ⟨by omega,by omega⟩ ⟨by omega,by omega⟩)) hR
  ·obtain rfl:i1=x3.toNat:=by have:=of_decide_eq_false hc1;omega
   replace hR:=loopN_end hR (Nat.lt_irrefl _)
   exact congrArg (C224P x0 x1 x2 x3) hR
 exact FnM.go 23 Try.func224 (by kernel_rfl) (by kernel_rfl) (A224P x0 x1 x2 x3) (by kernel_rfl) (aux _ rfl)
def k224P (d:Nat) (ids:List Nat) (x0:SrtP) (x1:Int) (x2:Int) (x3:Int):Cl:=(hresM d ids (C224P x0 x1 x2 x3 (swapRangeP x0 x1 x2 x3)),k3 (ok_sort_swapRange_func_P x0 x1 x2 x3))
def C215P (x0:SrtP) (x1:Int) (x2:Int) (x3:Int) (R:(List Int)):LV×List (Nat×BC):=(.tup [],[(900000,.arr 1 R.length (rowOf (cInt .i64) R)),(900001,.var [.ro false 6 x0.c0.people.length (rowOf (cPerson false) x0.c0.people),.ro false 4 x0.c0.unions.length (rowOf (cUnion false) x0.c0.unions)]),(900002,.var [.own 900000])])
def rotateP (x0:SrtP) (x1:Int) (x2:Int) (x3:Int):(List Int):=loopW (fun (v1:Int×Int×(List Int)) next=>bif (!decide (v1.1=v1.2.1)) then (bif (decide (v1.2.1<v1.1)) then (next (v1.1 - v1.2.1,v1.2.1,swapRangeP (SrtP.mk x0.c0 v1.2.2) (x2 - v1.1) x2 v1.2.1)) else (next (v1.1,v1.2.1 - v1.1,swapRangeP (SrtP.mk x0.c0 v1.2.2) (x2 - v1.1) ((x2+v1.2.1) - v1.1) v1.1))) else (swapRangeP (SrtP.mk x0.c0 v1.2.2) (x2 - v1.1) x2 v1.1)) ((x2 - x1+(x3 - x2)).toNat+1) (x2 - x1,x3 - x2,x0.l)
def D215Pb1 (x0:SrtP) (x1:Int) (x2:Int) (x3:Int) (v1:Int×Int×(List Int)):Dl:=⟨[(8,.int .i64 v1.1),(9,.int .i64 v1.2.1)],[(900000,.arr 1 v1.2.2.length (rowOf (cInt .i64) v1.2.2))]⟩
def A215Pb1 (x0:SrtP) (x1:Int) (x2:Int) (x3:Int) (v1:Int×Int×(List Int)):Ann:=r0 1 [2,4,8,9,18] [4,900000,900001,900002] (cn (!decide (v1.1=v1.2.1)) (r0 1 [2,4,8,9,21] [4,900000,900001,900002] (cn (decide (v1.2.1<v1.1)) (.reg 1 [] [(6,k224P 28 [900000,900001,900002] (SrtP.mk x0.c0 v1.2.2) (x2 - v1.1) x2 v1.2.1)] [2,4,8,9] [4,900000,900001,900002] [] [pf (inR .i64 (x2 - v1.1))] [] [0,4] (r1 1 [2,4,8,9] [4,900000,900001,900002] [pf (inR .i64 (v1.1 - v1.2.1))] [0] (.next 0 [(900000,some 900000)] (D215Pb1 x0 x1 x2 x3 (v1.1 - v1.2.1,v1.2.1,swapRangeP (SrtP.mk x0.c0 v1.2.2) (x2 - v1.1) x2 v1.2.1))))) (.reg 1 [] [(10,k224P 42 [900000,900001,900002] (SrtP.mk x0.c0 v1.2.2) (x2 - v1.1) ((x2+v1.2.1) - v1.1) v1.1)] [2,4,8,9] [4,900000,900001,900002] [] [pf (inR .i64 (x2 - v1.1)),pf (inR .i64 (x2+v1.2.1)),pf (inR .i64 ((x2+v1.2.1) - v1.1))] [] [0,4,8,12] (r1 1 [2,4,8,9] [4,900000,900001,900002] [pf (inR .i64 (v1.2.1 - v1.1))] [0] (.next 0 [(900000,some 900000)] (D215Pb1 x0 x1 x2 x3 (v1.1,v1.2.1 - v1.1,swapRangeP (SrtP.mk x0.c0 v1.2.2) (x2 - v1.1) ((x2+v1.2.1) - v1.1) v1.1))))))) (.reg 1 [] [(6,k224P 52 [900000,900001,900002] (SrtP.mk x0.c0 v1.2.2) (x2 - v1.1) x2 v1.1)] [] [900000,900001,900002] [] [pf (inR .i64 (x2 - v1.1))] [] [0,4] (rt [(900000,some 900000),(900001,some 900001),(900002,some 900002)] (C215P x0 x1 x2 x3 (swapRangeP (SrtP.mk x0.c0 v1.2.2) (x2 - v1.1) x2 v1.1)))))
def A215P (x0:SrtP) (x1:Int) (x2:Int) (x3:Int):Ann:=r1 3 [2,4,8,9] [4,900000,900001,900002] [pf (inR .i64 (x2 - x1)),pf (inR .i64 (x3 - x2))] [0,4] (.loop (Int×Int×(List Int)) (D215Pb1 x0 x1 x2 x3) [] [] [(900000,some 900000)] (D215Pb1 x0 x1 x2 x3 (x2 - x1,x3 - x2,x0.l)) (A215Pb1 x0 x1 x2 x3))
theorem rotateP_eq (x:SrtP) (a m b:Int):rotateP x a m b=gRot x.l a m b:=rfl
theorem rotateP_lk {x:SrtP} (hk:LkP x x.l) {a m b:Int} (h:0≤a∧a<m∧m<b∧b≤x.l.length):LkP x (rotateP x a m b):=hk.pm (gRot_pm h)

theorem ok_sort_rotate_func_P (x0:SrtP) (x1:Int) (x2:Int) (x3:Int) (hx:x0.l.length≤255) (hk:LkP x0 x0.l) (hab:0≤x1∧x1<x2∧x2<x3∧x3≤x0.l.length):FnMT Try.prog 215 [.agg [.clo 119 [.vp 900001 0,.vp 900002 0],.clo 190 [.own 900000,.k Try.prog.globals.size 3]],.int .i64 x1,.int .i64 x2,.int .i64 x3] [.arr 1 x0.l.length (rowOf (cInt .i64) x0.l),.var [.ro false 6 x0.c0.people.length (rowOf (cPerson false) x0.c0.people),.ro false 4 x0.c0.unions.length (rowOf (cUnion false) x0.c0.unions)],.var [.own 900000]] (C215P x0 x1 x2 x3 (rotateP x0 x1 x2 x3)):=by
 have aux:∀ R,rotateP x0 x1 x2 x3=R→slim (C215P x0 x1 x2 x3 R) (A215P x0 x1 x2 x3) []:=by
  intro R hR
  refine rg ⟨by (have h9:=(hk).2;intros;(try simp only [decide_eq_true_eq,decide_eq_false_iff_not,Bool.and_eq_true,Bool.not_eq_true',swp_len,inR] at *);first | done | omega),by (have h9:=(hk).2;intros;(try simp only [decide_eq_true_eq,decide_eq_false_iff_not,Bool.and_eq_true,Bool.not_eq_true',swp_len,inR] at *);first | done | omega),trivial⟩ ?_
  revert hR;refine lW (fun v=>(1≤v.1∧1≤v.2.1∧v.1≤x2 - x1∧v.2.1≤x3 - x2)∧LkP x0 v.2.2) (fun v=>(v.1+(v.2.1)).toNat) (by (have h9:=(hk).2;refine ⟨by ((try dsimp only);intros;(try simp only [decide_eq_true_eq,decide_eq_false_iff_not,Bool.and_eq_true,Bool.not_eq_true',swp_len,inR] at *);first | done | omega),hk⟩)) (Nat.lt_succ_self _) rfl fun m1 v1 F1 hI1 hM1 hR hK1=>?_
  refine rg trivial ?_
  revert hR;refine cd (fun hc1 hR=>?_) fun hc1 hR=>?_
  ·
    refine rg trivial ?_
    revert hR;refine cd (fun hc2 hR=>?_) fun hc2 hR=>?_
    ·
      refine rg ⟨by (have h9:=(hk).2;intros;(try simp only [decide_eq_true_eq,decide_eq_false_iff_not,Bool.and_eq_true,Bool.not_eq_true',swp_len,inR] at *);first | done | omega),⟨by (have h9:=(hI1.2).2;intros;(try simp only [decide_eq_true_eq,decide_eq_false_iff_not,Bool.and_eq_true,Bool.not_eq_true',swp_len,inR] at *);first | done | omega),by (exact (hI1.2).me),by (have h9:=(hI1.2).2;intros;(try simp only [decide_eq_true_eq,decide_eq_false_iff_not,Bool.and_eq_true,Bool.not_eq_true',swp_len,inR] at *);first | done | omega)⟩,trivial⟩ ?_
      refine rg ⟨by (have h9:=(hk).2;intros;(try simp only [decide_eq_true_eq,decide_eq_false_iff_not,Bool.and_eq_true,Bool.not_eq_true',swp_len,inR] at *);first | done | omega),trivial⟩ ?_
      exact hK1 (v1.1 - v1.2.1,v1.2.1,swapRangeP (SrtP.mk x0.c0 v1.2.2) (x2 - v1.1) x2 v1.2.1) (by (have h9:=(hI1.2).2;intros;(try simp only [decide_eq_true_eq,decide_eq_false_iff_not,Bool.and_eq_true,Bool.not_eq_true',swp_len,inR] at *);refine ⟨by ((try dsimp only);omega),(hI1.2).of (swapRangeP_lk (hI1.2).me (by ((try dsimp only);omega)))⟩)) (by (have h9:=(hk).2;intros;(try simp only [decide_eq_true_eq,decide_eq_false_iff_not,Bool.and_eq_true,Bool.not_eq_true',swp_len,inR] at *);first | done | omega)) hR
    ·
      refine rg ⟨by (have h9:=(hk).2;intros;(try simp only [decide_eq_true_eq,decide_eq_false_iff_not,Bool.and_eq_true,Bool.not_eq_true',swp_len,inR] at *);first | done | omega),by (have h9:=(hk).2;intros;(try simp only [decide_eq_true_eq,decide_eq_false_iff_not,Bool.and_eq_true,Bool.not_eq_true',swp_len,inR] at *);first | done | omega),by (have h9:=(hk).2;intros;(try simp only [decide_eq_true_eq,decide_eq_false_iff_not,Bool.and_eq_true,Bool.not_eq_true',swp_len,inR] at *);first | done | omega),⟨by (have h9:=(hI1.2).2;intros;(try simp only [decide_eq_true_eq,decide_eq_false_iff_not,Bool.and_eq_true,Bool.not_eq_true',swp_len,inR] at *);first | done | omega),by (exact (hI1.2).me),by (have h9:=(hI1.2).2;intros;(try simp only [decide_eq_true_eq,decide_eq_false_iff_not,Bool.and_eq_true,Bool.not_eq_true',swp_len,inR] at *);first | done | omega)⟩,trivial⟩ ?_
      refine rg ⟨by (have h9:=(hk).2;intros;(try simp only [decide_eq_true_eq,decide_eq_false_iff_not,Bool.and_eq_true,Bool.not_eq_true',swp_len,inR] at *);first | done | omega),trivial⟩ ?_
      exact hK1 (v1.1,v1.2.1 - v1.1,swapRangeP (SrtP.mk x0.c0 v1.2.2) (x2 - v1.1) ((x2+v1.2.1) - v1.1) v1.1) (by (have h9:=(hI1.2).2;intros;(try simp only [decide_eq_true_eq,decide_eq_false_iff_not,Bool.and_eq_true,Bool.not_eq_true',swp_len,inR] at *);refine ⟨by ((try dsimp only);omega),(hI1.2).of (swapRangeP_lk (hI1.2).me (by ((try dsimp only);omega)))⟩)) (by (have h9:=(hk).2;intros;(try simp only [decide_eq_true_eq,decide_eq_false_iff_not,Bool.and_eq_true,Bool.not_eq_true',swp_len,inR] at *);first | done | omega)) hR
  ·
    refine rg ⟨by (have h9:=(hk).2;intros;(try simp only [decide_eq_true_eq,decide_eq_false_iff_not,Bool.and_eq_true,Bool.not_eq_true',swp_len,inR] at *);first | done | omega),⟨by (have h9:=(hI1.2).2;intros;(try simp only [decide_eq_true_eq,decide_eq_false_iff_not,Bool.and_eq_true,Bool.not_eq_true',swp_len,inR] at *);first | done | omega),by (exact (hI1.2).me),by ((try clear hR hK1);intros;(try simp only [decide_eq_true_eq,decide_eq_false_iff_not,Bool.or_eq_true,Bool.and_eq_true,or_f_iff,not_f_iff,not_t_iff,Bool.not_eq_true',inR] at *);(repeat' apply And.intro)<;>(first | (intros;omega) | (have h9:=(hI1.2).2;intros;(try simp only [decide_eq_true_eq,decide_eq_false_iff_not,Bool.and_eq_true,Bool.not_eq_true',swp_len,inR] at *);first | done | omega)))⟩,trivial⟩ ?_
    exact congrArg (C215P x0 x1 x2 x3) hR
 exact FnM.go 53 Try.func215 (by kernel_rfl) (by kernel_rfl) (A215P x0 x1 x2 x3) (by kernel_rfl) (aux _ rfl)
def k215P (d:Nat) (ids:List Nat) (x0:SrtP) (x1:Int) (x2:Int) (x3:Int):Cl:=(hresM d ids (C215P x0 x1 x2 x3 (rotateP x0 x1 x2 x3)),k3 (ok_sort_rotate_func_P x0 x1 x2 x3))
end Go.Proofs.Ytepefimocflfkaa
