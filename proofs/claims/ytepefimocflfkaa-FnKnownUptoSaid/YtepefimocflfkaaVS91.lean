import Derived.Test.YtepefimocflfkaaVS85
set_option maxHeartbeats 4000000
set_option linter.unusedSimpArgs false
set_option linter.unusedVariables false
namespace Go.Proofs.Ytepefimocflfkaa
open Go Go.Lite Go.Proofs
def C113 (R:Bool):LV×List (Nat×BC):=(.bool R,[])
def lessEvent (x0:Int) (x1:Int) (x2:List Event):Bool:=(decide (((x2.getD x0.toNat default).year)<((x2.getD x1.toNat default).year)))||((decide (((x2.getD x0.toNat default).year)=((x2.getD x1.toNat default).year)))&&(decide (((x2.getD x0.toNat default).kind)<((x2.getD x1.toNat default).kind))))
def A113 (x0:Int) (x1:Int) (x2:List Event):Ann:=.reg 3 [] [] [5] [] [!(decide (((x2.getD x0.toNat default).year)<((x2.getD x1.toNat default).year))),(!(decide (((x2.getD x0.toNat default).year)<((x2.getD x1.toNat default).year))))&&(decide (((x2.getD x0.toNat default).year)=((x2.getD x1.toNat default).year))),decide (((x2.getD x0.toNat default).year)<((x2.getD x1.toNat default).year))] [pf (0≤(x0:Int)∧(x0:Int)<((x2.length:Nat):Int)),pf (0≤(x1:Int)∧(x1:Int)<((x2.length:Nat):Int)),gt (!(decide (((x2.getD x0.toNat default).year)<((x2.getD x1.toNat default).year)))) (gt (decide (((x2.getD x0.toNat default).year)=((x2.getD x1.toNat default).year))) (pf (((!(decide (((x2.getD x0.toNat default).year)<((x2.getD x1.toNat default).year))))&&(decide (((x2.getD x0.toNat default).year)=((x2.getD x1.toNat default).year))))=true)))] [] [0,4,1,1,1,1,1,5,5,5,5,1,8,10] (rt [] (C113 ((decide (((x2.getD x0.toNat default).year)<((x2.getD x1.toNat default).year)))||((decide (((x2.getD x0.toNat default).year)=((x2.getD x1.toNat default).year)))&&(decide (((x2.getD x0.toNat default).kind)<((x2.getD x1.toNat default).kind)))))))
theorem ok_impl_eventsOf_1 (x0:Int) (x1:Int) (x2:List Event) (h0:0≤x0∧x0<x2.length) (h1:0≤x1∧x1<x2.length):FnT Try.prog 113 [.int .i64 x0,.int .i64 x1,.ep [.ro false 6 x2.length (rowOf (cEvent false) x2)] 0] (C113 (lessEvent x0 x1 x2)):=by
 have aux:∀ R,lessEvent x0 x1 x2=R→slim (C113 R) (A113 x0 x1 x2) []:=by
  intro R hR
  refine rg ⟨by trivial,by trivial,by ((try clear hR);intros;(try simp only [decide_eq_true_eq,decide_eq_false_iff_not,Bool.or_eq_true,Bool.and_eq_true,or_f_iff,not_f_iff,not_t_iff,Bool.not_eq_true',inR] at *);(repeat' apply And.intro)<;>(intros;omega)),trivial⟩ ?_
  exact congrArg C113 hR
 exact Fn.go 35 Try.func113 (by kernel_rfl) (by kernel_rfl) (by simp [C113,Frs,FrsL]) (A113 x0 x1 x2) (by kernel_rfl) (aux _ rfl)
def k113 (x0:Int) (x1:Int) (x2:List Event):Cl:=(hres (C113 (lessEvent x0 x1 x2)),k2 (ok_impl_eventsOf_1 x0 x1 x2))
structure SrtW where

  l:List Event
  deriving Inhabited
def kswW (d : Nat) (ids : List Nat) (l : List Event) (i j : Int) : Cl := (.resM d ids [(900000, .arr 6 (swp l i j).length (rowOf (cEvent true) (swp l i j)))] (.tup []), k2 (P := FnX Try.prog 194 [.int .i64 i, .int .i64 j, .own 900000, .k Try.prog.globals.size 49] [.arr 6 l.length (rowOf (cEvent true) l)] (.tup []) [(900000, .arr 6 (swp l i j).length (rowOf (cEvent true) (swp l i j)))])
  fun hi hj=>FnX.swap (b:=false) (ag:=true) Try.func194 (by kernel_rfl) (by kernel_rfl) (by kernel_rfl) (by rfl) (by kernel_rfl) (by kernel_rfl) (by kernel_rfl) (by intro h;cases h) hi hj)
def LkW (x:SrtW) (l:List Event):Prop:=(True)∧l.length=x.l.length
theorem LkW.swp {x:SrtW} {l:List Event} (h:LkW x l) {i j:Int} (hi:0≤i∧i<x.l.length) (hj:0≤j∧j<x.l.length):LkW x (swp l i j):=⟨trivial,by rw [swp_len];exact h.2⟩
def RW (x:SrtW):Event→Event→Bool:=fun u v=>(decide (u.year<v.year))||((decide (u.year=v.year))&&(decide (u.kind<v.kind)))
theorem LkW.pm {x:SrtW} {l l':List Event} (h:LkW x l) (hp:Pm l l'):LkW x l':=⟨trivial,hp.1.trans h.2⟩
theorem LkW.me {x:SrtW} {l:List Event} (h:LkW x l):LkW (SrtW.mk l) l:=⟨h.1,rfl⟩
theorem LkW.of {x:SrtW} {l l':List Event} (h:LkW x l) (h':LkW (SrtW.mk l) l'):LkW x l':=⟨h'.1,h'.2.trans h.2⟩

def C195W (x0:SrtW) (x1:Int) (x2:Int) (R:(List Event)):LV×List (Nat×BC):=(.tup [],[(900000,.arr 6 R.length (rowOf (cEvent true) R)),(900001,.var [.own 900000])])
def insSortW (x0:SrtW) (x1:Int) (x2:Int):(List Event):=loopW (fun (v1:Int×(List Event)) nx1=>bif (decide (v1.1<x2)) then (loopW (fun (v2:Int×(List Event)) next=>bif ((decide (x1<v2.1))&&(lessEvent v2.1 (v2.1 - 1) v2.2)) then (next (v2.1 - 1,(swp v2.2 v2.1 (v2.1 - 1)))) else (nx1 (v1.1+1,v2.2))) ((v1.1).toNat+1) (v1.1,v1.2)) else v1.2) ((x2 - (x1+1)).toNat+1) (x1+1,x0.l)
def D195Wb1 (x0:SrtW) (x1:Int) (x2:Int) (v1:Int×(List Event)):Dl:=⟨[(6,.int .i64 v1.1)],[(900000,.arr 6 v1.2.length (rowOf (cEvent true) v1.2))]⟩
def D195Wb2 (x0:SrtW) (x1:Int) (x2:Int) (v1:Int×(List Event)) (v2:Int×(List Event)):Dl:=⟨[(7,.int .i64 v2.1)],[(900000,.arr 6 v2.2.length (rowOf (cEvent true) v2.2))]⟩
def A195Wb2 (x0:SrtW) (x1:Int) (x2:Int) (v1:Int×(List Event)) (v2:Int×(List Event)):Ann:=.reg 1 [] [(9,cg (decide (x1<v2.1)) (k113 v2.1 (v2.1 - 1) v2.2))] [1,2,3,6,7,26] [3,900000,900001] [decide (x1<v2.1)] [gt (decide (x1<v2.1)) (pf (inR .i64 (v2.1 - 1)))] [] [1,1,0,1,1,1,4,1] (cn ((decide (x1<v2.1))&&(lessEvent v2.1 (v2.1 - 1) v2.2)) (.reg 1 [] [(5,kswW 503 [900000] v2.2 v2.1 (v2.1 - 1))] [1,2,3,6,7] [3,900000,900001] [] [pf (inR .i64 (v2.1 - 1))] [] [0,4] (r1 1 [1,2,3,6,7] [3,900000,900001] [pf (inR .i64 (v2.1 - 1))] [0] (.next 0 [(900000,some 900000)] (D195Wb2 x0 x1 x2 v1 (v2.1 - 1,(swp v2.2 v2.1 (v2.1 - 1))))))) (r1 1 [1,2,3,6] [3,900000,900001] [pf (inR .i64 (v1.1+1))] [0] (.next 1 [(900000,some 900000)] (D195Wb1 x0 x1 x2 (v1.1+1,v2.2)))))
def A195Wb1 (x0:SrtW) (x1:Int) (x2:Int) (v1:Int×(List Event)):Ann:=r0 1 [1,2,3,6,12] [3,900000,900001] (cn (decide (v1.1<x2)) (r0 1 [1,2,3,6,7] [3,900000,900001] (.loop (Int×(List Event)) (D195Wb2 x0 x1 x2 v1) [] [] [(900000,some 900000)] (D195Wb2 x0 x1 x2 v1 (v1.1,v1.2)) (A195Wb2 x0 x1 x2 v1))) (rt [(900000,some 900000),(900001,some 900001)] (C195W x0 x1 x2 v1.2)))
def A195W (x0:SrtW) (x1:Int) (x2:Int):Ann:=r1 2 [1,2,3,6] [3,900000,900001] [pf (inR .i64 (x1+1))] [0] (.loop (Int×(List Event)) (D195Wb1 x0 x1 x2) [] [] [(900000,some 900000)] (D195Wb1 x0 x1 x2 (x1+1,x0.l)) (A195Wb1 x0 x1 x2))
theorem insSortW_eq (x:SrtW) (a b:Int):insSortW x a b=gIns (RW x) x.l a b:=rfl
theorem insSortW_lk {x:SrtW} (hk:LkW x x.l) {a b:Int} (h:0≤a∧a≤b∧b≤x.l.length):LkW x (insSortW x a b):=hk.pm (gIns_pm (RW x) h)

theorem ok_sort_insertionSort_func_W (x0:SrtW) (x1:Int) (x2:Int) (hx:x0.l.length≤255) (hk:LkW x0 x0.l) (hab:0≤x1∧x1≤x2∧x2≤x0.l.length):FnMT Try.prog 195 [.agg [.clo 113 [.vp 900001 0],.clo 194 [.own 900000,.k Try.prog.globals.size 49]],.int .i64 x1,.int .i64 x2] [.arr 6 x0.l.length (rowOf (cEvent true) x0.l),.var [.own 900000]] (C195W x0 x1 x2 (insSortW x0 x1 x2)):=by
 have aux:∀ R,insSortW x0 x1 x2=R→slim (C195W x0 x1 x2 R) (A195W x0 x1 x2) []:=by
  intro R hR
  refine rg ⟨by (have h9:=(hk).2;intros;(try simp only [decide_eq_true_eq,decide_eq_false_iff_not,Bool.and_eq_true,Bool.not_eq_true',swp_len,inR] at *);first | done | omega),trivial⟩ ?_
  revert hR;refine lW (fun v=>x1+1≤v.1∧LkW x0 v.2) (fun v=>(x2 - (v.1)).toNat) (by (have h9:=(hk).2;refine ⟨by ((try dsimp only);intros;(try simp only [decide_eq_true_eq,decide_eq_false_iff_not,Bool.and_eq_true,Bool.not_eq_true',swp_len,inR] at *);first | done | omega),hk⟩)) (Nat.lt_succ_self _) rfl fun m1 v1 F1 hI1 hM1 hR hK1=>?_
  refine rg trivial ?_
  revert hR;refine cd (fun hc1 hR=>?_) fun hc1 hR=>?_
  ·
    refine rg trivial ?_
    revert hR;refine lW (fun v=>(x1≤v.1∧v.1≤v1.1)∧LkW x0 v.2) (fun v=>(v.1).toNat) (by (have h9:=(hI1.2).2;refine ⟨by ((try dsimp only);intros;(try simp only [decide_eq_true_eq,decide_eq_false_iff_not,Bool.and_eq_true,Bool.not_eq_true',swp_len,inR] at *);first | done | omega),hI1.2⟩)) (Nat.lt_succ_self _) rfl fun m2 v2 F2 hI2 hM2 hR hK2=>?_
    refine rg ⟨by (have h9:=(hk).2;intros;(try simp only [decide_eq_true_eq,decide_eq_false_iff_not,Bool.and_eq_true,Bool.not_eq_true',swp_len,inR] at *);first | done | omega),fun hg0=>⟨by (have h9:=(hI2.2).2;intros;(try simp only [decide_eq_true_eq,decide_eq_false_iff_not,Bool.and_eq_true,Bool.not_eq_true',swp_len,inR] at *);first | done | omega),by (have h9:=(hI2.2).2;intros;(try simp only [decide_eq_true_eq,decide_eq_false_iff_not,Bool.and_eq_true,Bool.not_eq_true',swp_len,inR] at *);first | done | omega)⟩,trivial⟩ ?_
    revert hR;refine cd (fun hc2 hR=>?_) fun hc2 hR=>?_
    ·
      refine rg ⟨by (have h9:=(hk).2;intros;(try simp only [decide_eq_true_eq,decide_eq_false_iff_not,Bool.and_eq_true,Bool.not_eq_true',swp_len,inR] at *);first | done | omega),⟨by (have h9:=(hI2.2).2;intros;(try simp only [decide_eq_true_eq,decide_eq_false_iff_not,Bool.and_eq_true,Bool.not_eq_true',swp_len,inR] at *);first | done | omega),by (have h9:=(hI2.2).2;intros;(try simp only [decide_eq_true_eq,decide_eq_false_iff_not,Bool.and_eq_true,Bool.not_eq_true',swp_len,inR] at *);first | done | omega)⟩,trivial⟩ ?_
      refine rg ⟨by (have h9:=(hk).2;intros;(try simp only [decide_eq_true_eq,decide_eq_false_iff_not,Bool.and_eq_true,Bool.not_eq_true',swp_len,inR] at *);first | done | omega),trivial⟩ ?_
      exact hK2 (v2.1 - 1,(swp v2.2 v2.1 (v2.1 - 1))) (by (have h9:=(hI2.2).2;intros;(try simp only [decide_eq_true_eq,decide_eq_false_iff_not,Bool.and_eq_true,Bool.not_eq_true',swp_len,inR] at *);refine ⟨by ((try dsimp only);omega),(hI2.2).swp ⟨by omega,by omega⟩ ⟨by omega,by omega⟩⟩)) (by (have h9:=(hk).2;intros;(try simp only [decide_eq_true_eq,decide_eq_false_iff_not,Bool.and_eq_true,Bool.not_eq_true',swp_len,inR] at *);first | done | omega)) hR
    ·
      refine rg ⟨by (have h9:=(hk).2;intros;(try simp only [decide_eq_true_eq,decide_eq_false_iff_not,Bool.and_eq_true,Bool.not_eq_true',swp_len,inR] at *);first | done | omega),trivial⟩ ?_
      exact hK1 (v1.1+1,v2.2) (by (have h9:=(hI2.2).2;refine ⟨by ((try dsimp only);intros;(try simp only [decide_eq_true_eq,decide_eq_false_iff_not,Bool.and_eq_true,Bool.not_eq_true',swp_len,inR] at *);first | done | omega),hI2.2⟩)) (by (have h9:=(hk).2;intros;(try simp only [decide_eq_true_eq,decide_eq_false_iff_not,Bool.and_eq_true,Bool.not_eq_true',swp_len,inR] at *);first | done | omega)) hR
  ·
    exact congrArg (C195W x0 x1 x2) hR
 exact FnM.go 35 Try.func195 (by kernel_rfl) (by kernel_rfl) (A195W x0 x1 x2) (by kernel_rfl) (aux _ rfl)
def k195W (d:Nat) (ids:List Nat) (x0:SrtW) (x1:Int) (x2:Int):Cl:=(hresM d ids (C195W x0 x1 x2 (insSortW x0 x1 x2)),k3 (ok_sort_insertionSort_func_W x0 x1 x2))
def C224W (x0:SrtW) (x1:Int) (x2:Int) (x3:Int) (R:(List Event)):LV×List (Nat×BC):=(.tup [],[(900000,.arr 6 R.length (rowOf (cEvent true) R)),(900001,.var [.own 900000])])
def swapRangeW (x0:SrtW) (x1:Int) (x2:Int) (x3:Int):(List Event):=loopN (fun i1 (v1:(List Event)) next=>next (swp v1 (x1+((i1:Nat):Int)) (x2+((i1:Nat):Int)))) (fun (v1:(List Event))=>v1) x3.toNat 0 x0.l
def D224Wb1 (x0:SrtW) (x1:Int) (x2:Int) (x3:Int) (i1:Nat) (v1:(List Event)):Dl:=⟨[(8,.int .i64 ((i1:Nat):Int))],[(900000,.arr 6 v1.length (rowOf (cEvent true) v1))]⟩
def A224Wb1 (x0:SrtW) (x1:Int) (x2:Int) (x3:Int) (i1:Nat) (v1:(List Event)):Ann:=r0 1 [1,2,3,4,8,11] [4,900000,900001] (cn (decide (((i1:Nat):Int)<x3)) (.reg 1 [] [(8,kswW 503 [900000] v1 (x1+((i1:Nat):Int)) (x2+((i1:Nat):Int)))] [1,2,3,4,8] [4,900000,900001] [] [pf (inR .i64 (x1+((i1:Nat):Int))),pf (inR .i64 (x2+((i1:Nat):Int)))] [] [0,4,8] (r1 1 [1,2,3,4,8] [4,900000,900001] [pf (inR .i64 (((i1:Nat):Int)+1))] [0] (.next 0 [(900000,some 900000)] (D224Wb1 x0 x1 x2 x3 (i1+1) (swp v1 (x1+((i1:Nat):Int)) (x2+((i1:Nat):Int))))))) (rt [(900000,some 900000),(900001,some 900001)] (C224W x0 x1 x2 x3 v1)))
def A224W (x0:SrtW) (x1:Int) (x2:Int) (x3:Int):Ann:=r0 2 [1,2,3,4,8] [4,900000,900001] (lp (D224Wb1 x0 x1 x2 x3) [] [] [(900000,some 900000)] (D224Wb1 x0 x1 x2 x3 0 x0.l) (A224Wb1 x0 x1 x2 x3))
theorem swapRangeW_lk {x:SrtW} (hk:LkW x x.l) {a b n:Int} (h:(0≤a∧0≤b∧0≤n)∧a+n≤x.l.length∧b+n≤x.l.length):LkW x (swapRangeW x a b n):=hk.pm (gSwp_pm h)

theorem ok_sort_swapRange_func_W (x0:SrtW) (x1:Int) (x2:Int) (x3:Int) (hx:x0.l.length≤255) (hk:LkW x0 x0.l) (hab:(0≤x1∧0≤x2∧0≤x3)∧x1+x3≤x0.l.length∧x2+x3≤x0.l.length):FnMT Try.prog 224 [.agg [.clo 113 [.vp 900001 0],.clo 194 [.own 900000,.k Try.prog.globals.size 49]],.int .i64 x1,.int .i64 x2,.int .i64 x3] [.arr 6 x0.l.length (rowOf (cEvent true) x0.l),.var [.own 900000]] (C224W x0 x1 x2 x3 (swapRangeW x0 x1 x2 x3)):=by
 have aux:∀ R,swapRangeW x0 x1 x2 x3=R→slim (C224W x0 x1 x2 x3 R) (A224W x0 x1 x2 x3) []:=by
  intro R hR
  refine rg trivial ?_
  revert hR;refine lN (fun i v=>LkW x0 v) (by with_reducible assumption) rfl fun i1 v1 F1 hn1 hI1 hR hK1=>?_
  refine rg trivial ?_
  refine ⟨fun hc1=>?_,fun hc1=>?_⟩
  ·have hii1:i1<x3.toNat:=by have:=of_decide_eq_true hc1;omega
   replace hR:=loopN_step hR hii1
   refine rg ⟨by (have h9:=(hk).2;intros;(try simp only [decide_eq_true_eq,decide_eq_false_iff_not,Bool.and_eq_true,Bool.not_eq_true',swp_len,inR] at *);first | done | omega),by (have h9:=(hk).2;intros;(try simp only [decide_eq_true_eq,decide_eq_false_iff_not,Bool.and_eq_true,Bool.not_eq_true',swp_len,inR] at *);first | done | omega),⟨by (have h9:=(hI1).2;intros;(try simp only [decide_eq_true_eq,decide_eq_false_iff_not,Bool.and_eq_true,Bool.not_eq_true',swp_len,inR] at *);first | done | omega),by (have h9:=(hI1).2;intros;(try simp only [decide_eq_true_eq,decide_eq_false_iff_not,Bool.and_eq_true,Bool.not_eq_true',swp_len,inR] at *);first | done | omega)⟩,trivial⟩ ?_
   refine rg ⟨by (have h9:=(hk).2;intros;(try simp only [decide_eq_true_eq,decide_eq_false_iff_not,Bool.and_eq_true,Bool.not_eq_true',swp_len,inR] at *);first | done | omega),trivial⟩ ?_
   exact hK1 (swp v1 (x1+((i1:Nat):Int)) (x2+((i1:Nat):Int))) hii1 (by (have h9:=(hI1).2;intros;(try simp only [decide_eq_true_eq,decide_eq_false_iff_not,Bool.and_eq_true,Bool.not_eq_true',swp_len,inR] at *);exact (hI1).swp ⟨by omega,by omega⟩ ⟨by omega,by omega⟩)) hR
  ·obtain rfl:i1=x3.toNat:=by have:=of_decide_eq_false hc1;omega
   replace hR:=loopN_end hR (Nat.lt_irrefl _)
   exact congrArg (C224W x0 x1 x2 x3) hR
 exact FnM.go 23 Try.func224 (by kernel_rfl) (by kernel_rfl) (A224W x0 x1 x2 x3) (by kernel_rfl) (aux _ rfl)
def k224W (d:Nat) (ids:List Nat) (x0:SrtW) (x1:Int) (x2:Int) (x3:Int):Cl:=(hresM d ids (C224W x0 x1 x2 x3 (swapRangeW x0 x1 x2 x3)),k3 (ok_sort_swapRange_func_W x0 x1 x2 x3))
def C215W (x0:SrtW) (x1:Int) (x2:Int) (x3:Int) (R:(List Event)):LV×List (Nat×BC):=(.tup [],[(900000,.arr 6 R.length (rowOf (cEvent true) R)),(900001,.var [.own 900000])])
def rotateW (x0:SrtW) (x1:Int) (x2:Int) (x3:Int):(List Event):=loopW (fun (v1:Int×Int×(List Event)) next=>bif (!decide (v1.1=v1.2.1)) then (bif (decide (v1.2.1<v1.1)) then (next (v1.1 - v1.2.1,v1.2.1,swapRangeW (SrtW.mk v1.2.2) (x2 - v1.1) x2 v1.2.1)) else (next (v1.1,v1.2.1 - v1.1,swapRangeW (SrtW.mk v1.2.2) (x2 - v1.1) ((x2+v1.2.1) - v1.1) v1.1))) else (swapRangeW (SrtW.mk v1.2.2) (x2 - v1.1) x2 v1.1)) ((x2 - x1+(x3 - x2)).toNat+1) (x2 - x1,x3 - x2,x0.l)
def D215Wb1 (x0:SrtW) (x1:Int) (x2:Int) (x3:Int) (v1:Int×Int×(List Event)):Dl:=⟨[(8,.int .i64 v1.1),(9,.int .i64 v1.2.1)],[(900000,.arr 6 v1.2.2.length (rowOf (cEvent true) v1.2.2))]⟩
def A215Wb1 (x0:SrtW) (x1:Int) (x2:Int) (x3:Int) (v1:Int×Int×(List Event)):Ann:=r0 1 [2,4,8,9,18] [4,900000,900001] (cn (!decide (v1.1=v1.2.1)) (r0 1 [2,4,8,9,21] [4,900000,900001] (cn (decide (v1.2.1<v1.1)) (.reg 1 [] [(6,k224W 28 [900000,900001] (SrtW.mk v1.2.2) (x2 - v1.1) x2 v1.2.1)] [2,4,8,9] [4,900000,900001] [] [pf (inR .i64 (x2 - v1.1))] [] [0,4] (r1 1 [2,4,8,9] [4,900000,900001] [pf (inR .i64 (v1.1 - v1.2.1))] [0] (.next 0 [(900000,some 900000)] (D215Wb1 x0 x1 x2 x3 (v1.1 - v1.2.1,v1.2.1,swapRangeW (SrtW.mk v1.2.2) (x2 - v1.1) x2 v1.2.1))))) (.reg 1 [] [(10,k224W 42 [900000,900001] (SrtW.mk v1.2.2) (x2 - v1.1) ((x2+v1.2.1) - v1.1) v1.1)] [2,4,8,9] [4,900000,900001] [] [pf (inR .i64 (x2 - v1.1)),pf (inR .i64 (x2+v1.2.1)),pf (inR .i64 ((x2+v1.2.1) - v1.1))] [] [0,4,8,12] (r1 1 [2,4,8,9] [4,900000,900001] [pf (inR .i64 (v1.2.1 - v1.1))] [0] (.next 0 [(900000,some 900000)] (D215Wb1 x0 x1 x2 x3 (v1.1,v1.2.1 - v1.1,swapRangeW (SrtW.mk v1.2.2) (x2 - v1.1) ((x2+v1.2.1) - v1.1) v1.1))))))) (.reg 1 [] [(6,k224W 52 [900000,900001] (SrtW.mk v1.2.2) (x2 - v1.1) x2 v1.1)] [] [900000,900001] [] [pf (inR .i64 (x2 - v1.1))] [] [0,4] (rt [(900000,some 900000),(900001,some 900001)] (C215W x0 x1 x2 x3 (swapRangeW (SrtW.mk v1.2.2) (x2 - v1.1) x2 v1.1)))))
def A215W (x0:SrtW) (x1:Int) (x2:Int) (x3:Int):Ann:=r1 3 [2,4,8,9] [4,900000,900001] [pf (inR .i64 (x2 - x1)),pf (inR .i64 (x3 - x2))] [0,4] (.loop (Int×Int×(List Event)) (D215Wb1 x0 x1 x2 x3) [] [] [(900000,some 900000)] (D215Wb1 x0 x1 x2 x3 (x2 - x1,x3 - x2,x0.l)) (A215Wb1 x0 x1 x2 x3))
theorem rotateW_eq (x:SrtW) (a m b:Int):rotateW x a m b=gRot x.l a m b:=rfl
theorem rotateW_lk {x:SrtW} (hk:LkW x x.l) {a m b:Int} (h:0≤a∧a<m∧m<b∧b≤x.l.length):LkW x (rotateW x a m b):=hk.pm (gRot_pm h)

theorem ok_sort_rotate_func_W (x0:SrtW) (x1:Int) (x2:Int) (x3:Int) (hx:x0.l.length≤255) (hk:LkW x0 x0.l) (hab:0≤x1∧x1<x2∧x2<x3∧x3≤x0.l.length):FnMT Try.prog 215 [.agg [.clo 113 [.vp 900001 0],.clo 194 [.own 900000,.k Try.prog.globals.size 49]],.int .i64 x1,.int .i64 x2,.int .i64 x3] [.arr 6 x0.l.length (rowOf (cEvent true) x0.l),.var [.own 900000]] (C215W x0 x1 x2 x3 (rotateW x0 x1 x2 x3)):=by
 have aux:∀ R,rotateW x0 x1 x2 x3=R→slim (C215W x0 x1 x2 x3 R) (A215W x0 x1 x2 x3) []:=by
  intro R hR
  refine rg ⟨by (have h9:=(hk).2;intros;(try simp only [decide_eq_true_eq,decide_eq_false_iff_not,Bool.and_eq_true,Bool.not_eq_true',swp_len,inR] at *);first | done | omega),by (have h9:=(hk).2;intros;(try simp only [decide_eq_true_eq,decide_eq_false_iff_not,Bool.and_eq_true,Bool.not_eq_true',swp_len,inR] at *);first | done | omega),trivial⟩ ?_
  revert hR;refine lW (fun v=>(1≤v.1∧1≤v.2.1∧v.1≤x2 - x1∧v.2.1≤x3 - x2)∧LkW x0 v.2.2) (fun v=>(v.1+(v.2.1)).toNat) (by (have h9:=(hk).2;refine ⟨by ((try dsimp only);intros;(try simp only [decide_eq_true_eq,decide_eq_false_iff_not,Bool.and_eq_true,Bool.not_eq_true',swp_len,inR] at *);first | done | omega),hk⟩)) (Nat.lt_succ_self _) rfl fun m1 v1 F1 hI1 hM1 hR hK1=>?_
  refine rg trivial ?_
  revert hR;refine cd (fun hc1 hR=>?_) fun hc1 hR=>?_
  ·
    refine rg trivial ?_
    revert hR;refine cd (fun hc2 hR=>?_) fun hc2 hR=>?_
    ·
      refine rg ⟨by (have h9:=(hk).2;intros;(try simp only [decide_eq_true_eq,decide_eq_false_iff_not,Bool.and_eq_true,Bool.not_eq_true',swp_len,inR] at *);first | done | omega),⟨by (have h9:=(hI1.2).2;intros;(try simp only [decide_eq_true_eq,decide_eq_false_iff_not,Bool.and_eq_true,Bool.not_eq_true',swp_len,inR] at *);first | done | omega),by (exact (hI1.2).me),by (have h9:=(hI1.2).2;intros;(try simp only [decide_eq_true_eq,decide_eq_false_iff_not,Bool.and_eq_true,Bool.not_eq_true',swp_len,inR] at *);first | done | omega)⟩,trivial⟩ ?_
      refine rg ⟨by (have h9:=(hk).2;intros;(try simp only [decide_eq_true_eq,decide_eq_false_iff_not,Bool.and_eq_true,Bool.not_eq_true',swp_len,inR] at *);first | done | omega),trivial⟩ ?_
      exact hK1 (v1.1 - v1.2.1,v1.2.1,swapRangeW (SrtW.mk v1.2.2) (x2 - v1.1) x2 v1.2.1) (by (have h9:=(hI1.2).2;intros;(try simp only [decide_eq_true_eq,decide_eq_false_iff_not,Bool.and_eq_true,Bool.not_eq_true',swp_len,inR] at *);refine ⟨by ((try dsimp only);omega),(hI1.2).of (swapRangeW_lk (hI1.2).me (by ((try dsimp only);omega)))⟩)) (by (have h9:=(hk).2;intros;(try simp only [decide_eq_true_eq,decide_eq_false_iff_not,Bool.and_eq_true,Bool.not_eq_true',swp_len,inR] at *);first | done | omega)) hR
    ·
      refine rg ⟨by (have h9:=(hk).2;intros;(try simp only [decide_eq_true_eq,decide_eq_false_iff_not,Bool.and_eq_true,Bool.not_eq_true',swp_len,inR] at *);first | done | omega),by (have h9:=(hk).2;intros;(try simp only [decide_eq_true_eq,decide_eq_false_iff_not,Bool.and_eq_true,Bool.not_eq_true',swp_len,inR] at *);first | done | omega),by (have h9:=(hk).2;intros;(try simp only [decide_eq_true_eq,decide_eq_false_iff_not,Bool.and_eq_true,Bool.not_eq_true',swp_len,inR] at *);first | done | omega),⟨by (have h9:=(hI1.2).2;intros;(try simp only [decide_eq_true_eq,decide_eq_false_iff_not,Bool.and_eq_true,Bool.not_eq_true',swp_len,inR] at *);first | done | omega),by (exact (hI1.2).me),by (have h9:=(hI1.2).2;intros;(try simp only [decide_eq_true_eq,decide_eq_false_iff_not,Bool.and_eq_true,Bool.not_eq_true',swp_len,inR] at *);first | done | omega)⟩,trivial⟩ ?_
      refine rg ⟨by (have h9:=(hk).2;intros;(try simp only [decide_eq_true_eq,decide_eq_false_iff_not,Bool.and_eq_true,Bool.not_eq_true',swp_len,inR] at *);first | done | omega),trivial⟩ ?_
      exact hK1 (v1.1,v1.2.1 - v1.1,swapRangeW (SrtW.mk v1.2.2) (x2 - v1.1) ((x2+v1.2.1) - v1.1) v1.1) (by (have h9:=(hI1.2).2;intros;(try simp only [decide_eq_true_eq,decide_eq_false_iff_not,Bool.and_eq_true,Bool.not_eq_true',swp_len,inR] at *);refine ⟨by ((try dsimp only);omega),(hI1.2).of (swapRangeW_lk (hI1.2).me (by ((try dsimp only);omega)))⟩)) (by (have h9:=(hk).2;intros;(try simp only [decide_eq_true_eq,decide_eq_false_iff_not,Bool.and_eq_true,Bool.not_eq_true',swp_len,inR] at *);first | done | omega)) hR
  ·
    refine rg ⟨by (have h9:=(hk).2;intros;(try simp only [decide_eq_true_eq,decide_eq_false_iff_not,Bool.and_eq_true,Bool.not_eq_true',swp_len,inR] at *);first | done | omega),⟨by (have h9:=(hI1.2).2;intros;(try simp only [decide_eq_true_eq,decide_eq_false_iff_not,Bool.and_eq_true,Bool.not_eq_true',swp_len,inR] at *);first | done | omega),by (exact (hI1.2).me),by ((try clear hR hK1);intros;(try simp only [decide_eq_true_eq,decide_eq_false_iff_not,Bool.or_eq_true,Bool.and_eq_true,or_f_iff,not_f_iff,not_t_iff,Bool.not_eq_true',inR] at *);(repeat' apply And.intro)<;>(first | (intros;omega) | (have h9:=(hI1.2).2;intros;(try simp only [decide_eq_true_eq,decide_eq_false_iff_not,Bool.and_eq_true,Bool.not_eq_true',swp_len,inR] at *);first | done | omega)))⟩,trivial⟩ ?_
    exact congrArg (C215W x0 x1 x2 x3) hR
 exact FnM.go 53 Try.func215 (by kernel_rfl) (by kernel_rfl) (A215W x0 x1 x2 x3) (by kernel_rfl) (aux _ rfl)
def k215W (d:Nat) (ids:List Nat) (x0:SrtW) (x1:Int) (x2:Int) (x3:Int):Cl:=(hresM d ids (C215W x0 x1 x2 x3 (rotateW x0 x1 x2 x3)),k3 (ok_sort_rotate_func_W x0 x1 x2 x3))
end Go.Proofs.Ytepefimocflfkaa
