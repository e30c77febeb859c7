import Derived.Test.YtepefimocflfkaaVS72
set_option maxHeartbeats 4000000
set_option linter.unusedSimpArgs false
set_option linter.unusedVariables false
namespace Go.Proofs.Ytepefimocflfkaa
open Go Go.Lite Go.Proofs
def C154P (x0:SrtP) (x1:Int) (R:(List Int)):LV×List (Nat×BC):=(.tup [],[(900000,.arr 1 R.length (rowOf (cInt .i64) R)),(900001,.var [.ro false 6 x0.c0.people.length (rowOf (cPerson false) x0.c0.people),.ro false 4 x0.c0.unions.length (rowOf (cUnion false) x0.c0.unions)]),(900002,.var [.own 900000])])
def stableP (x0:SrtP) (x1:Int):(List Int):=loopW (fun (v1:Int×Int×(List Int)) next=>bif (decide (v1.2.1≤x1)) then (jn (fun K1=>K1 (insSortP (SrtP.mk x0.c0 v1.2.2) v1.1 v1.2.1)) (fun (j1:(List Int))=>next (v1.2.1,v1.2.1+20,j1))) else (jn (fun K2=>K2 (insSortP (SrtP.mk x0.c0 v1.2.2) v1.1 x1)) (fun (j2:(List Int))=>loopW (fun (v2:Int×(List Int)) nx2=>bif (decide (v2.1<x1)) then (loopW (fun (v3:Int×Int×(List Int)) next=>bif (decide (v3.2.1≤x1)) then (jn (fun K3=>K3 (symMergeP (SrtP.mk x0.c0 v3.2.2) v3.1 (v3.1+v2.1) v3.2.1)) (fun (j3:(List Int))=>next (v3.2.1,v3.2.1+(2 * v2.1),j3))) else (bif (decide ((v3.1+v2.1)<x1)) then (nx2 (v2.1 * 2,symMergeP (SrtP.mk x0.c0 v3.2.2) v3.1 (v3.1+v2.1) x1)) else (nx2 (v2.1 * 2,v3.2.2)))) ((x1+1000 - (2 * v2.1)).toNat+1) (0,2 * v2.1,v2.2)) else v2.2) ((x1+20 - (20)).toNat+1) (20,j2)))) ((x1+20 - (20)).toNat+1) (0,20,x0.l)
def D154Pb1 (x0:SrtP) (x1:Int) (v1:Int×Int×(List Int)):Dl:=⟨[(5,.int .i64 v1.1),(6,.int .i64 v1.2.1)],[(900000,.arr 1 v1.2.2.length (rowOf (cInt .i64) v1.2.2))]⟩
def D154Pj1 (x0:SrtP) (x1:Int) (v1:Int×Int×(List Int)) (j1:(List Int)):Dl:=⟨[],[(900000,.arr 1 j1.length (rowOf (cInt .i64) j1))]⟩
def A154Pj1 (x0:SrtP) (x1:Int) (v1:Int×Int×(List Int)) (j1:(List Int)):Ann:=r0 1 [1,2,4,5,6] [2,900000,900001,900002] (r1 1 [1,2,4,5,6] [2,900000,900001,900002] [pf (inR .i64 (v1.2.1+20))] [0] (.next 0 [(900000,some 900000)] (D154Pb1 x0 x1 (v1.2.1,v1.2.1+20,j1))))
def D154Pj2 (x0:SrtP) (x1:Int) (v1:Int×Int×(List Int)) (j2:(List Int)):Dl:=⟨[],[(900000,.arr 1 j2.length (rowOf (cInt .i64) j2))]⟩
def D154Pb2 (x0:SrtP) (x1:Int) (v1:Int×Int×(List Int)) (j2:(List Int)) (v2:Int×(List Int)):Dl:=⟨[(4,.int .i64 v2.1)],[(900000,.arr 1 v2.2.length (rowOf (cInt .i64) v2.2))]⟩
def D154Pb3 (x0:SrtP) (x1:Int) (v1:Int×Int×(List Int)) (j2:(List Int)) (v2:Int×(List Int)) (v3:Int×Int×(List Int)):Dl:=⟨[(5,.int .i64 v3.1),(6,.int .i64 v3.2.1)],[(900000,.arr 1 v3.2.2.length (rowOf (cInt .i64) v3.2.2))]⟩
def D154Pj3 (x0:SrtP) (x1:Int) (v1:Int×Int×(List Int)) (j2:(List Int)) (v2:Int×(List Int)) (v3:Int×Int×(List Int)) (j3:(List Int)):Dl:=⟨[],[(900000,.arr 1 j3.length (rowOf (cInt .i64) j3))]⟩
def A154Pj3 (x0:SrtP) (x1:Int) (v1:Int×Int×(List Int)) (j2:(List Int)) (v2:Int×(List Int)) (v3:Int×Int×(List Int)) (j3:(List Int)):Ann:=r0 1 [1,2,4,5,6] [2,900000,900001,900002] (r1 1 [1,2,4,5,6] [2,900000,900001,900002] [pf (inR .i64 (2 * v2.1)),pf (inR .i64 (v3.2.1+(2 * v2.1)))] [0,4] (.next 0 [(900000,some 900000)] (D154Pb3 x0 x1 v1 j2 v2 (v3.2.1,v3.2.1+(2 * v2.1),j3))))
def A154Pb3 (x0:SrtP) (x1:Int) (v1:Int×Int×(List Int)) (j2:(List Int)) (v2:Int×(List Int)) (v3:Int×Int×(List Int)):Ann:=r0 1 [1,2,4,5,6,31] [2,900000,900001,900002] (cn (decide (v3.2.1≤x1)) (.join 0 (List Int) (D154Pj3 x0 x1 v1 j2 v2 v3) [1,2,4,5,6] [2,900001,900002,900000] (.reg 1 [] [(6,k196P 38 [900000,900001,900002] (SrtP.mk x0.c0 v3.2.2) v3.1 (v3.1+v2.1) v3.2.1)] [1,2,4,5,6] [2,900000,900001,900002] [] [pf (inR .i64 (v3.1+v2.1))] [] [0,4] (.next 0 [(900000,some 900000)] (D154Pj3 x0 x1 v1 j2 v2 v3 (symMergeP (SrtP.mk x0.c0 v3.2.2) v3.1 (v3.1+v2.1) v3.2.1)))) (A154Pj3 x0 x1 v1 j2 v2 v3)) (r1 2 [1,2,4,5,7,49] [2,900000,900001,900002] [pf (inR .i64 (v3.1+v2.1))] [0] (cn (decide ((v3.1+v2.1)<x1)) (.reg 1 [] [(4,k196P 54 [900000,900001,900002] (SrtP.mk x0.c0 v3.2.2) v3.1 (v3.1+v2.1) x1)] [1,2,4] [2,900000,900001,900002] [] [] [] [0] (r1 1 [1,2,4] [2,900000,900001,900002] [pf (inR .i64 (v2.1 * 2))] [0] (.next 1 [(900000,some 900000)] (D154Pb2 x0 x1 v1 j2 (v2.1 * 2,symMergeP (SrtP.mk x0.c0 v3.2.2) v3.1 (v3.1+v2.1) x1))))) (r1 1 [1,2,4] [2,900000,900001,900002] [pf (inR .i64 (v2.1 * 2))] [0] (.next 1 [(900000,some 900000)] (D154Pb2 x0 x1 v1 j2 (v2.1 * 2,v3.2.2)))))))
def A154Pb2 (x0:SrtP) (x1:Int) (v1:Int×Int×(List Int)) (j2:(List Int)) (v2:Int×(List Int)):Ann:=r0 1 [1,2,4,26] [2,900000,900001,900002] (cn (decide (v2.1<x1)) (r1 1 [1,2,4,5,6] [2,900000,900001,900002] [pf (inR .i64 (2 * v2.1))] [0] (.loop (Int×Int×(List Int)) (D154Pb3 x0 x1 v1 j2 v2) [] [] [(900000,some 900000)] (D154Pb3 x0 x1 v1 j2 v2 (0,2 * v2.1,v2.2)) (A154Pb3 x0 x1 v1 j2 v2))) (rt [(900000,some 900000),(900001,some 900001),(900002,some 900002)] (C154P x0 x1 v2.2)))
def A154Pj2 (x0:SrtP) (x1:Int) (v1:Int×Int×(List Int)) (j2:(List Int)):Ann:=.loop (Int×(List Int)) (D154Pb2 x0 x1 v1 j2) [] [] [(900000,some 900000)] (D154Pb2 x0 x1 v1 j2 (20,j2)) (A154Pb2 x0 x1 v1 j2)
def A154Pb1 (x0:SrtP) (x1:Int) (v1:Int×Int×(List Int)):Ann:=r0 1 [1,2,4,5,6,11] [2,900000,900001,900002] (cn (decide (v1.2.1≤x1)) (.join 0 (List Int) (D154Pj1 x0 x1 v1) [1,2,4,5,6] [2,900001,900002,900000] (.reg 1 [] [(3,k195P 15 [900000,900001,900002] (SrtP.mk x0.c0 v1.2.2) v1.1 v1.2.1)] [1,2,4,5,6] [2,900000,900001,900002] [] [] [] [0] (.next 0 [(900000,some 900000)] (D154Pj1 x0 x1 v1 (insSortP (SrtP.mk x0.c0 v1.2.2) v1.1 v1.2.1)))) (A154Pj1 x0 x1 v1)) (.join 0 (List Int) (D154Pj2 x0 x1 v1) [1,2,4] [2,900001,900002,900000] (.reg 1 [] [(3,k195P 23 [900000,900001,900002] (SrtP.mk x0.c0 v1.2.2) v1.1 x1)] [1,2,4] [2,900000,900001,900002] [] [] [] [0] (.next 0 [(900000,some 900000)] (D154Pj2 x0 x1 v1 (insSortP (SrtP.mk x0.c0 v1.2.2) v1.1 x1)))) (A154Pj2 x0 x1 v1)))
def A154P (x0:SrtP) (x1:Int):Ann:=r0 3 [1,2,4,5,6] [2,900000,900001,900002] (.loop (Int×Int×(List Int)) (D154Pb1 x0 x1) [] [] [(900000,some 900000)] (D154Pb1 x0 x1 (0,20,x0.l)) (A154Pb1 x0 x1))
theorem stableP_eq (x:SrtP) (n:Int):stableP x n=gStb (RP x) x.l n:=by
 unfold stableP gStb symMergeP
 simp only [symMergeP_eq,insSortP_eq]
 rfl

theorem ok_sort_stable_func_P (x0:SrtP) (x1:Int) (hx:x0.l.length≤255) (hk:LkP x0 x0.l) (hn:x1=x0.l.length):FnMT Try.prog 154 [.agg [.clo 119 [.vp 900001 0,.vp 900002 0],.clo 190 [.own 900000,.k Try.prog.globals.size 3]],.int .i64 x1] [.arr 1 x0.l.length (rowOf (cInt .i64) x0.l),.var [.ro false 6 x0.c0.people.length (rowOf (cPerson false) x0.c0.people),.ro false 4 x0.c0.unions.length (rowOf (cUnion false) x0.c0.unions)],.var [.own 900000]] (C154P x0 x1 (stableP x0 x1)):=by
 have aux:∀ R,stableP x0 x1=R→slim (C154P x0 x1 R) (A154P x0 x1) []:=by
  intro R hR
  refine rg trivial ?_
  revert hR;refine lW (fun v=>(0≤v.1∧v.1≤x1∧v.2.1=v.1+20)∧LkP x0 v.2.2) (fun v=>(x1+20 - (v.2.1)).toNat) (by (have h9:=(hk).2;refine ⟨by ((try dsimp only);intros;(try simp only [decide_eq_true_eq,decide_eq_false_iff_not,Bool.and_eq_true,Bool.not_eq_true',swp_len,inR] at *);first | done | omega),hk⟩)) (Nat.lt_succ_self _) rfl fun m1 v1 F1 hI1 hM1 hR hK1=>?_
  refine rg trivial ?_
  revert hR;refine cd (fun hc1 hR=>?_) fun hc1 hR=>?_
  ·
    revert hR;refine jN (fun v=>LkP x0 v) (fun F101 hR hJ101=>?_) (fun j1 hR hJ1=>?_)
    ·
      refine rg ⟨⟨by (have h9:=(hI1.2).2;intros;(try simp only [decide_eq_true_eq,decide_eq_false_iff_not,Bool.and_eq_true,Bool.not_eq_true',swp_len,inR] at *);first | done | omega),by (exact (hI1.2).me),by (have h9:=(hI1.2).2;intros;(try simp only [decide_eq_true_eq,decide_eq_false_iff_not,Bool.and_eq_true,Bool.not_eq_true',swp_len,inR] at *);first | done | omega)⟩,trivial⟩ ?_
      exact hJ101 (insSortP (SrtP.mk x0.c0 v1.2.2) v1.1 v1.2.1) hR (by (have h9:=(hI1.2).2;intros;(try simp only [decide_eq_true_eq,decide_eq_false_iff_not,Bool.and_eq_true,Bool.not_eq_true',swp_len,inR] at *);exact (hI1.2).of (insSortP_lk (hI1.2).me (by ((try dsimp only);omega)))))
    ·
      refine rg trivial ?_
      refine rg ⟨by (have h9:=(hk).2;intros;(try simp only [decide_eq_true_eq,decide_eq_false_iff_not,Bool.and_eq_true,Bool.not_eq_true',swp_len,inR] at *);first | done | omega),trivial⟩ ?_
      exact hK1 (v1.2.1,v1.2.1+20,j1) (by ((try clear hR hK1);intros;(try simp only [decide_eq_true_eq,decide_eq_false_iff_not,Bool.or_eq_true,Bool.and_eq_true,or_f_iff,not_f_iff,not_t_iff,Bool.not_eq_true',inR] at *);(repeat' apply And.intro)<;>(first | (intros;omega) | (have h9:=(hk).2;intros;(try simp only [decide_eq_true_eq,decide_eq_false_iff_not,Bool.and_eq_true,Bool.not_eq_true',swp_len,inR] at *);first | done | omega) | (exact (hJ1).1) | (have h9:=(hJ1).2;intros;(try simp only [decide_eq_true_eq,decide_eq_false_iff_not,Bool.and_eq_true,Bool.not_eq_true',swp_len,inR] at *);first | done | omega)))) (by (have h9:=(hk).2;intros;(try simp only [decide_eq_true_eq,decide_eq_false_iff_not,Bool.and_eq_true,Bool.not_eq_true',swp_len,inR] at *);first | done | omega)) hR
  ·
    revert hR;refine jN (fun v=>LkP x0 v) (fun F102 hR hJ102=>?_) (fun j2 hR hJ2=>?_)
    ·
      refine rg ⟨⟨by (have h9:=(hI1.2).2;intros;(try simp only [decide_eq_true_eq,decide_eq_false_iff_not,Bool.and_eq_true,Bool.not_eq_true',swp_len,inR] at *);first | done | omega),by (exact (hI1.2).me),by (have h9:=(hI1.2).2;intros;(try simp only [decide_eq_true_eq,decide_eq_false_iff_not,Bool.and_eq_true,Bool.not_eq_true',swp_len,inR] at *);first | done | omega)⟩,trivial⟩ ?_
      exact hJ102 (insSortP (SrtP.mk x0.c0 v1.2.2) v1.1 x1) hR (by (have h9:=(hI1.2).2;intros;(try simp only [decide_eq_true_eq,decide_eq_false_iff_not,Bool.and_eq_true,Bool.not_eq_true',swp_len,inR] at *);exact (hI1.2).of (insSortP_lk (hI1.2).me (by ((try dsimp only);omega)))))
    ·
      revert hR;refine lW (fun v=>(20≤v.1∧v.1≤600)∧LkP x0 v.2) (fun v=>(x1+20 - (v.1)).toNat) (by (have h9:=(hJ2).2;refine ⟨by ((try dsimp only);intros;(try simp only [decide_eq_true_eq,decide_eq_false_iff_not,Bool.and_eq_true,Bool.not_eq_true',swp_len,inR] at *);first | done | omega),hJ2⟩)) (Nat.lt_succ_self _) rfl fun m2 v2 F2 hI2 hM2 hR hK2=>?_
      refine rg trivial ?_
      revert hR;refine cd (fun hc2 hR=>?_) fun hc2 hR=>?_
      ·
        refine rg ⟨by (have h9:=(hk).2;intros;(try simp only [decide_eq_true_eq,decide_eq_false_iff_not,Bool.and_eq_true,Bool.not_eq_true',swp_len,inR] at *);first | done | omega),trivial⟩ ?_
        revert hR;refine lW (fun v=>(0≤v.1∧v.1≤x1∧v.2.1=v.1+2 * v2.1)∧LkP x0 v.2.2) (fun v=>(x1+1000 - (v.2.1)).toNat) (by (have h9:=(hI2.2).2;refine ⟨by ((try dsimp only);intros;(try simp only [decide_eq_true_eq,decide_eq_false_iff_not,Bool.and_eq_true,Bool.not_eq_true',swp_len,inR] at *);first | done | omega),hI2.2⟩)) (Nat.lt_succ_self _) rfl fun m3 v3 F3 hI3 hM3 hR hK3=>?_
        refine rg trivial ?_
        revert hR;refine cd (fun hc3 hR=>?_) fun hc3 hR=>?_
        ·
          revert hR;refine jN (fun v=>LkP x0 v) (fun F103 hR hJ103=>?_) (fun j3 hR hJ3=>?_)
          ·
            refine rg ⟨by (have h9:=(hk).2;intros;(try simp only [decide_eq_true_eq,decide_eq_false_iff_not,Bool.and_eq_true,Bool.not_eq_true',swp_len,inR] at *);first | done | omega),⟨by (have h9:=(hI3.2).2;intros;(try simp only [decide_eq_true_eq,decide_eq_false_iff_not,Bool.and_eq_true,Bool.not_eq_true',swp_len,inR] at *);first | done | omega),by (exact (hI3.2).me),by (have h9:=(hI3.2).2;intros;(try simp only [decide_eq_true_eq,decide_eq_false_iff_not,Bool.and_eq_true,Bool.not_eq_true',swp_len,inR] at *);first | done | omega)⟩,trivial⟩ ?_
            exact hJ103 (symMergeP (SrtP.mk x0.c0 v3.2.2) v3.1 (v3.1+v2.1) v3.2.1) hR (by (have h9:=(hI3.2).2;intros;(try simp only [decide_eq_true_eq,decide_eq_false_iff_not,Bool.and_eq_true,Bool.not_eq_true',swp_len,inR] at *);exact (hI3.2).of (symMergeP_lk _ (hI3.2).me (by ((try dsimp only);omega)))))
          ·
            refine rg trivial ?_
            refine rg ⟨by (have h9:=(hk).2;intros;(try simp only [decide_eq_true_eq,decide_eq_false_iff_not,Bool.and_eq_true,Bool.not_eq_true',swp_len,inR] at *);first | done | omega),by (have h9:=(hk).2;intros;(try simp only [decide_eq_true_eq,decide_eq_false_iff_not,Bool.and_eq_true,Bool.not_eq_true',swp_len,inR] at *);first | done | omega),trivial⟩ ?_
            exact hK3 (v3.2.1,v3.2.1+(2 * v2.1),j3) (by ((try clear hR hK1 hK2 hK3);intros;(try simp only [decide_eq_true_eq,decide_eq_false_iff_not,Bool.or_eq_true,Bool.and_eq_true,or_f_iff,not_f_iff,not_t_iff,Bool.not_eq_true',inR] at *);(repeat' apply And.intro)<;>(first | (intros;omega) | (have h9:=(hk).2;intros;(try simp only [decide_eq_true_eq,decide_eq_false_iff_not,Bool.and_eq_true,Bool.not_eq_true',swp_len,inR] at *);first | done | omega) | (exact (hJ3).1) | (have h9:=(hJ3).2;intros;(try simp only [decide_eq_true_eq,decide_eq_false_iff_not,Bool.and_eq_true,Bool.not_eq_true',swp_len,inR] at *);first | done | omega)))) (by (have h9:=(hk).2;intros;(try simp only [decide_eq_true_eq,decide_eq_false_iff_not,Bool.and_eq_true,Bool.not_eq_true',swp_len,inR] at *);first | done | omega)) hR
        ·
          refine rg ⟨by (have h9:=(hk).2;intros;(try simp only [decide_eq_true_eq,decide_eq_false_iff_not,Bool.and_eq_true,Bool.not_eq_true',swp_len,inR] at *);first | done | omega),trivial⟩ ?_
          revert hR;refine cd (fun hc4 hR=>?_) fun hc4 hR=>?_
          ·
            refine rg ⟨⟨by (have h9:=(hI3.2).2;intros;(try simp only [decide_eq_true_eq,decide_eq_false_iff_not,Bool.and_eq_true,Bool.not_eq_true',swp_len,inR] at *);first | done | omega),by (exact (hI3.2).me),by (have h9:=(hI3.2).2;intros;(try simp only [decide_eq_true_eq,decide_eq_false_iff_not,Bool.and_eq_true,Bool.not_eq_true',swp_len,inR] at *);first | done | omega)⟩,trivial⟩ ?_
            refine rg ⟨by (have h9:=(hk).2;intros;(try simp only [decide_eq_true_eq,decide_eq_false_iff_not,Bool.and_eq_true,Bool.not_eq_true',swp_len,inR] at *);first | done | omega),trivial⟩ ?_
            exact hK2 (v2.1 * 2,symMergeP (SrtP.mk x0.c0 v3.2.2) v3.1 (v3.1+v2.1) x1) (by (have h9:=(hI3.2).2;intros;(try simp only [decide_eq_true_eq,decide_eq_false_iff_not,Bool.and_eq_true,Bool.not_eq_true',swp_len,inR] at *);refine ⟨by ((try dsimp only);omega),(hI3.2).of (symMergeP_lk _ (hI3.2).me (by ((try dsimp only);omega)))⟩)) (by (have h9:=(hk).2;intros;(try simp only [decide_eq_true_eq,decide_eq_false_iff_not,Bool.and_eq_true,Bool.not_eq_true',swp_len,inR] at *);first | done | omega)) hR
          ·
            refine rg ⟨by (have h9:=(hk).2;intros;(try simp only [decide_eq_true_eq,decide_eq_false_iff_not,Bool.and_eq_true,Bool.not_eq_true',swp_len,inR] at *);first | done | omega),trivial⟩ ?_
            exact hK2 (v2.1 * 2,v3.2.2) (by (have h9:=(hI3.2).2;refine ⟨by ((try dsimp only);intros;(try simp only [decide_eq_true_eq,decide_eq_false_iff_not,Bool.and_eq_true,Bool.not_eq_true',swp_len,inR] at *);first | done | omega),hI3.2⟩)) (by (have h9:=(hk).2;intros;(try simp only [decide_eq_true_eq,decide_eq_false_iff_not,Bool.and_eq_true,Bool.not_eq_true',swp_len,inR] at *);first | done | omega)) hR
      ·
        exact congrArg (C154P x0 x1) hR
 exact FnM.go 57 Try.func154 (by kernel_rfl) (by kernel_rfl) (A154P x0 x1) (by kernel_rfl) (aux _ rfl)
def k154P (d:Nat) (ids:List Nat) (x0:SrtP) (x1:Int):Cl:=(hresM d ids (C154P x0 x1 (stableP x0 x1)),k3 (ok_sort_stable_func_P x0 x1))
def eqc {α:Type} (R:α→α→Bool) (x y:α):Bool:=!R x y&&!R y x
def StEq {α:Type} (R:α→α→Bool) (l m:List α):Prop:=∀ x,m.filter (eqc R x)=l.filter (eqc R x)
theorem StEq.refl {α:Type} (R:α→α→Bool) (l:List α):StEq R l l:=fun _=>rfl
theorem StEq.trans {α:Type} {R:α→α→Bool} {l m n:List α} (h:StEq R l m) (h2:StEq R m n):StEq R l n:=fun x=>(h2 x).trans (h x)
theorem StEq.mid {α:Type} {R:α→α→Bool} {u v X Y:List α} (h:StEq R u v):StEq R (X++u++Y) (X++v++Y):=fun x=>by
 simp only [List.filter_append,h x]
theorem StEq.swap {α:Type} {R:α→α→Bool} (hR:SWO R) {u v:List α} (h:∀ y∈u,∀ z∈v,R z y=true):StEq R (u++v) (v++u):=fun x=>by
 rw [List.filter_append,List.filter_append]
 by_cases hu:u.filter (eqc R x)=[]
 ·rw [hu];simp
 ·have hv:v.filter (eqc R x)=[]:=by
   obtain ⟨y,hy⟩:=List.exists_mem_of_ne_nil _ hu
   obtain ⟨hy1,hy2⟩:=List.mem_filter.1 hy
   rw [List.filter_eq_nil_iff]
   intro z hz hc
   simp only [eqc,Bool.and_eq_true,Bool.not_eq_true'] at hy2 hc
   have h1:=h y hy1 z hz
   rw [hR.ntr z x y hc.2 hy2.1] at h1
   cases h1
  rw [hv];simp
theorem ext_gi {α:Type} [Inhabited α] {l m:List α} (h:l.length=m.length) (hk:∀ k:Int,0≤k→k<l.length→gi l k=gi m k):l=m:=by
 apply List.ext_getElem h
 intro k h1 h2
 have:=hk k (by omega) (by omega)
 rw [gi_get l k (by omega) (by omega),gi_get m k (by omega) (by omega)] at this
 simpa using this
def seg {α:Type} (l:List α) (a b:Int):List α:=(l.drop a.toNat).take (b - a).toNat
theorem seg_len {α:Type} {l:List α} {a b:Int} (h:0≤a∧a≤b∧b≤l.length):(seg l a b).length=(b - a).toNat:=by
 unfold seg;rw [List.length_take,List.length_drop];omega
theorem seg_gi {α:Type} [Inhabited α] {l:List α} {a b:Int} (h:0≤a∧a≤b∧b≤l.length) {k:Int} (hk:0≤k∧k<b - a):gi (seg l a b) k=gi l (a+k):=by
 unfold gi seg
 rw [List.getD_eq_getElem?_getD,List.getD_eq_getElem?_getD,List.getElem?_take,if_pos (by omega),List.getElem?_drop,show a.toNat+k.toNat=(a+k).toNat by omega]
theorem seg_mem {α:Type} [Inhabited α] {l:List α} {a b:Int} (h:0≤a∧a≤b∧b≤l.length) {y:α} (hy:y∈seg l a b):∃ k,a≤k∧k<b∧y=gi l k:=by
 obtain ⟨k,hk,e⟩:=mem_getD (d:=default) hy
 rw [seg_len h] at hk
 refine ⟨a+k,by omega,by omega,?_⟩
 rw [← seg_gi h (k:=k) (by omega),← e]
 unfold gi;rw [Int.toNat_natCast]
theorem gi_app {α:Type} [Inhabited α] (X Y:List α) {k:Int} (hk:0≤k):gi (X++Y) k=if k<X.length then gi X k else gi Y (k - X.length):=by
 unfold gi
 rw [List.getD_eq_getElem?_getD,List.getD_eq_getElem?_getD,List.getD_eq_getElem?_getD,List.getElem?_append]
 by_cases c:k<X.length
 ·rw [if_pos (by omega),if_pos c]
 ·rw [if_neg (by omega),if_neg c,show k.toNat - X.length=(k - X.length).toNat by omega]
theorem parts {α : Type} [Inhabited α] {l : List α} {a b : Int} {M : List α} (h : 0 ≤ a ∧ a ≤ b ∧ b ≤ l.length) (hM : (M.length : Int) = b - a) {l' : List α} (hl : l'.length = l.length) (ho : ∀ k, 0 ≤ k → k < a ∨ b ≤ k → gi l' k = gi l k)
    (hm:∀ k,0≤k→k<b - a→gi l' (a+k)=gi M k):l'=seg l 0 a++M++seg l b l.length:=by
 have l1:=seg_len (l:=l) (a:=0) (b:=a) (by omega)
 have l2:=seg_len (l:=l) (a:=b) (b:=l.length) (by omega)
 refine ext_gi (by rw [List.length_append,List.length_append,l1,l2];omega) fun k h0 h1=>?_
 rw [gi_app _ _ h0,List.length_append,l1]
 by_cases c1:k<b
 ·rw [if_pos (by omega),gi_app _ _ h0,l1]
  by_cases c2:k<a
  ·rw [if_pos (by omega),seg_gi (by omega) (by omega),ho k h0 (.inl c2),Int.zero_add]
  ·rw [if_neg (by omega),← hm _ (by omega) (by omega)]
   congr 1;omega
 ·rw [if_neg (by omega),seg_gi (by omega) (by omega),ho k h0 (.inr (by omega))]
  congr 1;omega
structure MrgOk {α:Type} [Inhabited α] (R:α→α→Bool) (a b:Int) (l l':List α):Prop where
 len:l'.length=l.length
 out:∀ k,0≤k→k<a∨b≤k→gi l' k=gi l k
 inn:∀ k,a≤k→k<b→∃ k',a≤k'∧k'<b∧gi l' k=gi l k'
 st:StEq R l l'
theorem MrgOk.refl {α:Type} [Inhabited α] (R:α→α→Bool) (a b:Int) (l:List α):MrgOk R a b l l:=⟨rfl,fun _ _ _=>rfl,fun k h1 h2=>⟨k,h1,h2,rfl⟩,.refl R l⟩
theorem MrgOk.trans {α:Type} [Inhabited α] {R:α→α→Bool} {a b:Int} {l m n:List α} (h:MrgOk R a b l m) (h2:MrgOk R a b m n):MrgOk R a b l n :=
 ⟨h2.len.trans h.len,fun k h0 h1=>(h2.out k h0 h1).trans (h.out k h0 h1),fun k h0 h1=>by
  obtain ⟨k1,a1,a2,e1⟩:=h2.inn k h0 h1
  obtain ⟨k2,b1,b2,e2⟩:=h.inn k1 a1 a2
  exact ⟨k2,b1,b2,e1.trans e2⟩,h.st.trans h2.st⟩
theorem MrgOk.mono {α:Type} [Inhabited α] {R:α→α→Bool} {a b c d:Int} {l m:List α} (h:MrgOk R a b l m) (h0:0≤c) (h1:c≤a) (h2:b≤d):MrgOk R c d l m :=
 ⟨h.len,fun k g0 g1=>h.out k g0 (by omega),fun k g0 g1=>by
  by_cases q:a≤k∧k<b
  ·obtain ⟨k',a1,a2,e⟩:=h.inn k q.1 q.2
   exact ⟨k',by omega,by omega,e⟩
  ·exact ⟨k,g0,g1,h.out k (by omega) (by omega)⟩,h.st⟩
theorem swp_adj {α:Type} [Inhabited α] {R:α→α→Bool} (hR:SWO R) {l:List α} {a:Int} (h:0≤a∧a+1<l.length) (hr:R (gi l (a+1)) (gi l a)=true) {l':List α} (hl:l'.length=l.length) (ho:∀ k,0≤k→k≠a→k≠a+1→gi l' k=gi l k) (h1:gi l' a=gi l (a+1)) (h2:gi l' (a+1)=gi l a):StEq R l l':=by
 have e1:l=seg l 0 a++([gi l a]++[gi l (a+1)])++seg l (a+2) l.length:=parts (by omega) (by simp;omega) rfl (fun _ _ _=>rfl) (fun k g0 g1=>by
  have:k=0∨k=1:=by omega
  rcases this with rfl | rfl
  ·rw [Int.add_zero];rfl
  ·rfl)
 have e2:l'=seg l 0 a++([gi l (a+1)]++[gi l a])++seg l (a+2) l.length:=parts (by omega) (by simp;omega) hl (fun k g0 g1=>ho k g0 (by omega) (by omega)) (fun k g0 g1=>by
  have:k=0∨k=1:=by omega
  rcases this with rfl | rfl
  ·rw [Int.add_zero,h1];rfl
  ·rw [h2];rfl)
 have hs:StEq R (seg l 0 a++([gi l a]++[gi l (a+1)])++seg l (a+2) l.length) (seg l 0 a++([gi l (a+1)]++[gi l a])++seg l (a+2) l.length) :=
  (StEq.swap hR (u:=[gi l a]) (v:=[gi l (a+1)]) (fun y hy z hz=>by rw [List.mem_singleton.1 hy,List.mem_singleton.1 hz];exact hr)).mid
 rw [← e1,← e2] at hs
 exact hs
theorem mrg_adj {α:Type} [Inhabited α] {R:α→α→Bool} (hR:SWO R) {l:List α} {a b k i j:Int} (h:0≤a∧a≤k∧k+1<b∧b≤l.length) (hr:R (gi l (k+1)) (gi l k)=true) (hij:(i=k∧j=k+1)∨(i=k+1∧j=k)):MrgOk R a b l (swp l i j):=by
 have g:=fun q (h0:0≤q)=>gi_swp l i j q (by omega) (by omega) h0
 refine ⟨swp_len _ _ _,fun q h0 h1=>?_,fun q h0 h1=>?_,swp_adj hR (a:=k) (by omega) hr (swp_len _ _ _) (fun q h0 h1 h2=>?_) ?_ ?_⟩
 ·rw [g q h0,if_neg (by omega),if_neg (by omega)]
 ·rw [g q (by omega)]
  split
  ·exact ⟨i,by omega,by omega,rfl⟩
  ·split
   ·exact ⟨j,by omega,by omega,rfl⟩
   ·exact ⟨q,by omega,by omega,rfl⟩
 ·rw [g q h0,if_neg (by omega),if_neg (by omega)]
 ·rw [g k (by omega)]
  rcases hij with ⟨rfl,rfl⟩ | ⟨rfl,rfl⟩
  ·rw [if_neg (by omega),if_pos rfl]
  ·rw [if_pos rfl]
 ·rw [g (k+1) (by omega)]
  rcases hij with ⟨rfl,rfl⟩ | ⟨rfl,rfl⟩
  ·rw [if_pos rfl]
  ·rw [if_neg (by omega),if_pos rfl]
theorem gSwp_gi {α:Type} [Inhabited α] {l:List α} {a b n:Int} (h:0≤a∧0≤n∧a+n≤b∧b+n≤l.length):(gSwp l a b n).length=l.length∧∀ k,0≤k→gi (gSwp l a b n) k=if a≤k∧k<a+n then gi l (k - a+b) else if b≤k∧k<b+n then gi l (k - b+a) else gi l k:=by
 suffices key:(fun r:List α=>r.length=l.length∧∀ k,0≤k→gi r k=if a≤k∧k<a+n then gi l (k - a+b) else if b≤k∧k<b+n then gi l (k - b+a) else gi l k) (gSwp l a b n) from key
 unfold gSwp
 refine loopN_to (fun i (v : List α) => v.length = l.length ∧ ∀ k, 0 ≤ k → gi v k = if a ≤ k ∧ k < a + ((i : Nat) : Int) then gi l (k - a + b) else if b ≤ k ∧ k < b + ((i : Nat) : Int) then gi l (k - b + a) else gi l k) (fun r : List α => r.length = l.length ∧ ∀ k, 0 ≤ k → gi r k = if a ≤ k ∧ k < a + n then gi l (k - a + b) else if b ≤ k ∧ k < b + n then gi l (k - b + a) else gi l k)
   ⟨rfl,fun k hk=>by rw [if_neg (by omega),if_neg (by omega)]⟩ (fun i v next hi hv hn=>hn _ ⟨by rw [swp_len];exact hv.1,fun k hk=>?_⟩) (fun v hv=>by rw [show ((n.toNat:Nat):Int)=n by omega] at hv;exact hv)
 obtain ⟨hl,hg⟩:=hv
 rw [gi_swp v _ _ k (by omega) (by omega) hk]
 by_cases c1:k=b+((i:Nat):Int)
 ·rw [if_pos c1,hg _ (by omega),if_neg (by omega),if_neg (by omega),if_neg (by omega),if_pos (by omega)]
  congr 1;omega
 ·rw [if_neg c1]
  by_cases c2:k=a+((i:Nat):Int)
  ·rw [if_pos c2,hg _ (by omega),if_neg (by omega),if_neg (by omega),if_pos (by omega)]
   congr 1;omega
  ·rw [if_neg c2,hg k hk]
   by_cases c3:a≤k∧k<a+((i:Nat):Int)
   ·rw [if_pos c3,if_pos (by omega)]
   ·by_cases c4:b≤k∧k<b+((i:Nat):Int)
    ·rw [if_neg c3,if_pos c4,if_neg (by omega),if_pos (by omega)]
    ·rw [if_neg c3,if_neg c4,if_neg (by omega),if_neg (by omega)]
def rotAt {α:Type} [Inhabited α] (l:List α) (a m b k:Int):α:=if a≤k∧k<a+(b - m) then gi l (k+(m - a)) else if a+(b - m)≤k∧k<b then gi l (k - (b - m)) else gi l k
theorem gRot_gi {α:Type} [Inhabited α] {l:List α} {a m b:Int} (h:0≤a∧a<m∧m<b∧b≤l.length):(gRot l a m b).length=l.length∧∀ k,0≤k→gi (gRot l a m b) k=rotAt l a m b k:=by
 suffices key:(fun r:List α=>r.length=l.length∧∀ k,0≤k→gi r k=rotAt l a m b k) (gRot l a m b) from key
 unfold gRot
 refine loopW_to (fun v => (1 ≤ v.1 ∧ 1 ≤ v.2.1 ∧ v.1 ≤ m - a ∧ v.2.1 ≤ b - m) ∧ v.2.2.length = l.length ∧ ∀ k, 0 ≤ k → rotAt v.2.2 (m - v.1) m (m + v.2.1) k = rotAt l a m b k) (fun v => (v.1 + v.2.1).toNat) (fun r : List α => r.length = l.length ∧ ∀ k, 0 ≤ k → gi r k = rotAt l a m b k) (fun v next hv hn => ?_) _ _ (by dsimp only; omega)
   ⟨by dsimp only;omega,rfl,fun k hk=>by dsimp only;rw [show m - (m - a)=a by omega,show m+(b - m)=b by omega]⟩
 obtain ⟨i,j,v⟩:=v
 dsimp only at hv hn ⊢
 obtain ⟨hb,hl,hr⟩:=hv
 by_cases c:i=j
 ·rw [decide_eq_true c]
  simp only [Bool.not_true,cond_false]
  have g:=gSwp_gi (l:=v) (a:=m - i) (b:=m) (n:=i) (by omega)
  refine ⟨g.1.trans hl,fun k hk=>?_⟩
  rw [← hr k hk,g.2 k hk]
  unfold rotAt
  by_cases c1:m - i≤k∧k<m
  ·rw [if_pos (by omega),if_pos (by omega)];congr 1;omega
  ·by_cases c2:m≤k∧k<m+i
   ·rw [if_neg (by omega),if_pos c2,if_neg (by omega),if_pos (by omega)];congr 1;omega
   ·rw [if_neg (by omega),if_neg c2,if_neg (by omega),if_neg (by omega)]
 ·rw [decide_eq_false c]
  simp only [Bool.not_false,cond_true]
  by_cases d:j<i
  ·rw [decide_eq_true d]
   simp only [cond_true]
   have g:=gSwp_gi (l:=v) (a:=m - i) (b:=m) (n:=j) (by omega)
   refine hn _ ⟨by dsimp only;omega,g.1.trans hl,fun k hk=>?_⟩ (by dsimp only;omega)
   dsimp only
   rw [← hr k hk]
   unfold rotAt
   by_cases c1:m - i≤k∧k<m - i+j
   ·rw [if_neg (by omega),if_neg (by omega),g.2 k hk,if_pos c1,if_pos (by omega)];congr 1;omega
   ·by_cases c2:m - i+j≤k∧k<m+j
    ·rw [if_neg (show ¬ (m - i≤k∧k<m - i+(m+j - m)) by omega),if_pos (show m - i+(m+j - m)≤k∧k<m+j by omega)]
     by_cases c3:k<m - (i - j)+j
     ·rw [if_pos (by omega),g.2 _ (by omega),if_neg (by omega),if_pos (by omega)];congr 1;omega
     ·rw [if_neg (by omega),if_pos (by omega),g.2 _ (by omega),if_neg (by omega),if_neg (by omega)]
    ·rw [if_neg (by omega),if_neg (by omega),if_neg (by omega),if_neg (by omega),g.2 k hk,if_neg (by omega),if_neg (by omega)]
  ·rw [decide_eq_false d]
   simp only [cond_false]
   have g:=gSwp_gi (l:=v) (a:=m - i) (b:=m+j - i) (n:=i) (by omega)
   refine hn _ ⟨by dsimp only;omega,g.1.trans hl,fun k hk=>?_⟩ (by dsimp only;omega)
   dsimp only
   rw [← hr k hk]
   unfold rotAt
   by_cases c1:m+j - i≤k∧k<m+j
   ·rw [if_neg (by omega),if_neg (by omega),g.2 k hk,if_neg (by omega),if_pos (by omega),if_neg (by omega),if_pos (by omega)];congr 1;omega
   ·by_cases c2:m - i≤k∧k<m+j - i
    ·by_cases c3:k<m - i+(j - i)
     ·rw [if_pos (by omega),if_pos (by omega),g.2 _ (by omega),if_neg (by omega),if_neg (by omega)]
     ·rw [if_neg (by omega),if_pos (by omega),g.2 _ (by omega),if_pos (by omega)]
      by_cases c4:k<m - i+j
      ·rw [if_pos (by omega)];congr 1;omega
      ·rw [if_neg (by omega),if_pos (by omega)];congr 1;omega
    ·rw [if_neg (by omega),if_neg (by omega),if_neg (by omega),if_neg (by omega),g.2 k hk,if_neg (by omega),if_neg (by omega)]
theorem gRot_ok {α:Type} [Inhabited α] {R:α→α→Bool} (hR:SWO R) {l:List α} {a m b:Int} (h:0≤a∧a<m∧m<b∧b≤l.length) (hr:∀ i j,a≤i→i<m→m≤j→j<b→R (gi l j) (gi l i)=true):MrgOk R a b l (gRot l a m b):=by
 obtain ⟨hl,hg⟩:=gRot_gi h
 refine ⟨hl,fun k h0 h1=>?_,fun k h0 h1=>?_,?_⟩
 ·rw [hg k h0];unfold rotAt;rw [if_neg (by omega),if_neg (by omega)]
 ·rw [hg k (by omega)]
  unfold rotAt
  by_cases c:k<a+(b - m)
  ·rw [if_pos (by omega)];exact ⟨_,by omega,by omega,rfl⟩
  ·rw [if_neg (by omega),if_pos (by omega)];exact ⟨_,by omega,by omega,rfl⟩
 ·have s1:=seg_len (l:=l) (a:=a) (b:=m) (by omega)
  have s2:=seg_len (l:=l) (a:=m) (b:=b) (by omega)
  have e1:l=seg l 0 a++(seg l a m++seg l m b)++seg l b l.length:=parts (by omega) (by rw [List.length_append,s1,s2];omega) rfl (fun _ _ _=>rfl) (fun k g0 g1=>by
   rw [gi_app _ _ g0,s1]
   by_cases c:k<m - a
   ·rw [if_pos (by omega),seg_gi (by omega) (by omega)]
   ·rw [if_neg (by omega),seg_gi (by omega) (by omega)];congr 1;omega)
  have e2:gRot l a m b=seg l 0 a++(seg l m b++seg l a m)++seg l b l.length:=parts (by omega) (by rw [List.length_append,s1,s2];omega) hl (fun k g0 g1=>by rw [hg k g0];unfold rotAt;rw [if_neg (by omega),if_neg (by omega)]) (fun k g0 g1=>by
   rw [gi_app _ _ g0,s2,hg _ (by omega)]
   unfold rotAt
   by_cases c:k<b - m
   ·rw [if_pos (by omega),if_pos (by omega),seg_gi (by omega) (by omega)];congr 1;omega
   ·rw [if_neg (by omega),if_pos (by omega),if_neg (by omega),seg_gi (by omega) (by omega)];congr 1;omega)
  have hs:StEq R (seg l 0 a++(seg l a m++seg l m b)++seg l b l.length) (seg l 0 a++(seg l m b++seg l a m)++seg l b l.length) :=
   (StEq.swap hR (u:=seg l a m) (v:=seg l m b) (fun y hy z hz=>by
    obtain ⟨i,i1,i2,rfl⟩:=seg_mem (by omega) hy
    obtain ⟨j,j1,j2,rfl⟩:=seg_mem (by omega) hz
    exact hr i j i1 i2 j1 j2)).mid
  rw [← e1,← e2] at hs
  exact hs
end Go.Proofs.Ytepefimocflfkaa
