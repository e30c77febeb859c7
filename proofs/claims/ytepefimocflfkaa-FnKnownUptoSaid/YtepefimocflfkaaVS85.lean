import Derived.Test.YtepefimocflfkaaVS82
set_option maxHeartbeats 4000000
set_option linter.unusedSimpArgs false
set_option linter.unusedVariables false
namespace Go.Proofs.Ytepefimocflfkaa
open Go Go.Lite Go.Proofs
def C154U (x0:SrtU) (x1:Int) (R:(List Union)):LV×List (Nat×BC):=(.tup [],[(900000,.arr 4 R.length (rowOf (cUnion true) R)),(900001,.var [.own 900002,.own 900000]),(900002,.arr 6 x0.c0.length (rowOf (cPerson true) x0.c0))])
def stableU (x0:SrtU) (x1:Int):(List Union):=loopW (fun (v1:Int×Int×(List Union)) next=>bif (decide (v1.2.1≤x1)) then (jn (fun K1=>K1 (insSortU (SrtU.mk x0.c0 v1.2.2) v1.1 v1.2.1)) (fun (j1:(List Union))=>next (v1.2.1,v1.2.1+20,j1))) else (jn (fun K2=>K2 (insSortU (SrtU.mk x0.c0 v1.2.2) v1.1 x1)) (fun (j2:(List Union))=>loopW (fun (v2:Int×(List Union)) nx2=>bif (decide (v2.1<x1)) then (loopW (fun (v3:Int×Int×(List Union)) next=>bif (decide (v3.2.1≤x1)) then (jn (fun K3=>K3 (symMergeU (SrtU.mk x0.c0 v3.2.2) v3.1 (v3.1+v2.1) v3.2.1)) (fun (j3:(List Union))=>next (v3.2.1,v3.2.1+(2 * v2.1),j3))) else (bif (decide ((v3.1+v2.1)<x1)) then (nx2 (v2.1 * 2,symMergeU (SrtU.mk x0.c0 v3.2.2) v3.1 (v3.1+v2.1) x1)) else (nx2 (v2.1 * 2,v3.2.2)))) ((x1+1000 - (2 * v2.1)).toNat+1) (0,2 * v2.1,v2.2)) else v2.2) ((x1+20 - (20)).toNat+1) (20,j2)))) ((x1+20 - (20)).toNat+1) (0,20,x0.l)
def D154Ub1 (x0:SrtU) (x1:Int) (v1:Int×Int×(List Union)):Dl:=⟨[(5,.int .i64 v1.1),(6,.int .i64 v1.2.1)],[(900000,.arr 4 v1.2.2.length (rowOf (cUnion true) v1.2.2))]⟩
def D154Uj1 (x0:SrtU) (x1:Int) (v1:Int×Int×(List Union)) (j1:(List Union)):Dl:=⟨[],[(900000,.arr 4 j1.length (rowOf (cUnion true) j1))]⟩
def A154Uj1 (x0:SrtU) (x1:Int) (v1:Int×Int×(List Union)) (j1:(List Union)):Ann:=r0 1 [1,2,4,5,6] [2,900000,900001,900002] (r1 1 [1,2,4,5,6] [2,900000,900001,900002] [pf (inR .i64 (v1.2.1+20))] [0] (.next 0 [(900000,some 900000)] (D154Ub1 x0 x1 (v1.2.1,v1.2.1+20,j1))))
def D154Uj2 (x0:SrtU) (x1:Int) (v1:Int×Int×(List Union)) (j2:(List Union)):Dl:=⟨[],[(900000,.arr 4 j2.length (rowOf (cUnion true) j2))]⟩
def D154Ub2 (x0:SrtU) (x1:Int) (v1:Int×Int×(List Union)) (j2:(List Union)) (v2:Int×(List Union)):Dl:=⟨[(4,.int .i64 v2.1)],[(900000,.arr 4 v2.2.length (rowOf (cUnion true) v2.2))]⟩
def D154Ub3 (x0:SrtU) (x1:Int) (v1:Int×Int×(List Union)) (j2:(List Union)) (v2:Int×(List Union)) (v3:Int×Int×(List Union)):Dl:=⟨[(5,.int .i64 v3.1),(6,.int .i64 v3.2.1)],[(900000,.arr 4 v3.2.2.length (rowOf (cUnion true) v3.2.2))]⟩
def D154Uj3 (x0:SrtU) (x1:Int) (v1:Int×Int×(List Union)) (j2:(List Union)) (v2:Int×(List Union)) (v3:Int×Int×(List Union)) (j3:(List Union)):Dl:=⟨[],[(900000,.arr 4 j3.length (rowOf (cUnion true) j3))]⟩
def A154Uj3 (x0:SrtU) (x1:Int) (v1:Int×Int×(List Union)) (j2:(List Union)) (v2:Int×(List Union)) (v3:Int×Int×(List Union)) (j3:(List Union)):Ann:=r0 1 [1,2,4,5,6] [2,900000,900001,900002] (r1 1 [1,2,4,5,6] [2,900000,900001,900002] [pf (inR .i64 (2 * v2.1)),pf (inR .i64 (v3.2.1+(2 * v2.1)))] [0,4] (.next 0 [(900000,some 900000)] (D154Ub3 x0 x1 v1 j2 v2 (v3.2.1,v3.2.1+(2 * v2.1),j3))))
def A154Ub3 (x0:SrtU) (x1:Int) (v1:Int×Int×(List Union)) (j2:(List Union)) (v2:Int×(List Union)) (v3:Int×Int×(List Union)):Ann:=r0 1 [1,2,4,5,6,31] [2,900000,900001,900002] (cn (decide (v3.2.1≤x1)) (.join 0 (List Union) (D154Uj3 x0 x1 v1 j2 v2 v3) [1,2,4,5,6] [2,900001,900002,900000] (.reg 1 [] [(6,k196U 38 [900000,900001,900002] (SrtU.mk x0.c0 v3.2.2) v3.1 (v3.1+v2.1) v3.2.1)] [1,2,4,5,6] [2,900000,900001,900002] [] [pf (inR .i64 (v3.1+v2.1))] [] [0,4] (.next 0 [(900000,some 900000)] (D154Uj3 x0 x1 v1 j2 v2 v3 (symMergeU (SrtU.mk x0.c0 v3.2.2) v3.1 (v3.1+v2.1) v3.2.1)))) (A154Uj3 x0 x1 v1 j2 v2 v3)) (r1 2 [1,2,4,5,7,49] [2,900000,900001,900002] [pf (inR .i64 (v3.1+v2.1))] [0] (cn (decide ((v3.1+v2.1)<x1)) (.reg 1 [] [(4,k196U 54 [900000,900001,900002] (SrtU.mk x0.c0 v3.2.2) v3.1 (v3.1+v2.1) x1)] [1,2,4] [2,900000,900001,900002] [] [] [] [0] (r1 1 [1,2,4] [2,900000,900001,900002] [pf (inR .i64 (v2.1 * 2))] [0] (.next 1 [(900000,some 900000)] (D154Ub2 x0 x1 v1 j2 (v2.1 * 2,symMergeU (SrtU.mk x0.c0 v3.2.2) v3.1 (v3.1+v2.1) x1))))) (r1 1 [1,2,4] [2,900000,900001,900002] [pf (inR .i64 (v2.1 * 2))] [0] (.next 1 [(900000,some 900000)] (D154Ub2 x0 x1 v1 j2 (v2.1 * 2,v3.2.2)))))))
def A154Ub2 (x0:SrtU) (x1:Int) (v1:Int×Int×(List Union)) (j2:(List Union)) (v2:Int×(List Union)):Ann:=r0 1 [1,2,4,26] [2,900000,900001,900002] (cn (decide (v2.1<x1)) (r1 1 [1,2,4,5,6] [2,900000,900001,900002] [pf (inR .i64 (2 * v2.1))] [0] (.loop (Int×Int×(List Union)) (D154Ub3 x0 x1 v1 j2 v2) [] [] [(900000,some 900000)] (D154Ub3 x0 x1 v1 j2 v2 (0,2 * v2.1,v2.2)) (A154Ub3 x0 x1 v1 j2 v2))) (rt [(900000,some 900000),(900001,some 900001),(900002,some 900002)] (C154U x0 x1 v2.2)))
def A154Uj2 (x0:SrtU) (x1:Int) (v1:Int×Int×(List Union)) (j2:(List Union)):Ann:=.loop (Int×(List Union)) (D154Ub2 x0 x1 v1 j2) [] [] [(900000,some 900000)] (D154Ub2 x0 x1 v1 j2 (20,j2)) (A154Ub2 x0 x1 v1 j2)
def A154Ub1 (x0:SrtU) (x1:Int) (v1:Int×Int×(List Union)):Ann:=r0 1 [1,2,4,5,6,11] [2,900000,900001,900002] (cn (decide (v1.2.1≤x1)) (.join 0 (List Union) (D154Uj1 x0 x1 v1) [1,2,4,5,6] [2,900001,900002,900000] (.reg 1 [] [(3,k195U 15 [900000,900001,900002] (SrtU.mk x0.c0 v1.2.2) v1.1 v1.2.1)] [1,2,4,5,6] [2,900000,900001,900002] [] [] [] [0] (.next 0 [(900000,some 900000)] (D154Uj1 x0 x1 v1 (insSortU (SrtU.mk x0.c0 v1.2.2) v1.1 v1.2.1)))) (A154Uj1 x0 x1 v1)) (.join 0 (List Union) (D154Uj2 x0 x1 v1) [1,2,4] [2,900001,900002,900000] (.reg 1 [] [(3,k195U 23 [900000,900001,900002] (SrtU.mk x0.c0 v1.2.2) v1.1 x1)] [1,2,4] [2,900000,900001,900002] [] [] [] [0] (.next 0 [(900000,some 900000)] (D154Uj2 x0 x1 v1 (insSortU (SrtU.mk x0.c0 v1.2.2) v1.1 x1)))) (A154Uj2 x0 x1 v1)))
def A154U (x0:SrtU) (x1:Int):Ann:=r0 3 [1,2,4,5,6] [2,900000,900001,900002] (.loop (Int×Int×(List Union)) (D154Ub1 x0 x1) [] [] [(900000,some 900000)] (D154Ub1 x0 x1 (0,20,x0.l)) (A154Ub1 x0 x1))
theorem stableU_eq (x:SrtU) (n:Int):stableU x n=gStb (RU x) x.l n:=by
 unfold stableU gStb symMergeU
 simp only [symMergeU_eq,insSortU_eq]
 rfl

theorem ok_sort_stable_func_U (x0:SrtU) (x1:Int) (hx:x0.l.length≤255) (hk:LkU x0 x0.l) (hn:x1=x0.l.length):FnMT Try.prog 154 [.agg [.clo 121 [.vp 900001 0],.clo 194 [.own 900000,.k Try.prog.globals.size 94]],.int .i64 x1] [.arr 4 x0.l.length (rowOf (cUnion true) x0.l),.var [.own 900002,.own 900000],.arr 6 x0.c0.length (rowOf (cPerson true) x0.c0)] (C154U x0 x1 (stableU x0 x1)):=by
 have aux:∀ R,stableU x0 x1=R→slim (C154U x0 x1 R) (A154U x0 x1) []:=by
  intro R hR
  refine rg trivial ?_
  revert hR;refine lW (fun v=>(0≤v.1∧v.1≤x1∧v.2.1=v.1+20)∧LkU x0 v.2.2) (fun v=>(x1+20 - (v.2.1)).toNat) (by (have h9:=(hk).2;refine ⟨by ((try dsimp only);intros;(try simp only [decide_eq_true_eq,decide_eq_false_iff_not,Bool.and_eq_true,Bool.not_eq_true',swp_len,inR] at *);first | done | omega),hk⟩)) (Nat.lt_succ_self _) rfl fun m1 v1 F1 hI1 hM1 hR hK1=>?_
  refine rg trivial ?_
  revert hR;refine cd (fun hc1 hR=>?_) fun hc1 hR=>?_
  ·
    revert hR;refine jN (fun v=>LkU x0 v) (fun F101 hR hJ101=>?_) (fun j1 hR hJ1=>?_)
    ·
      refine rg ⟨⟨by (have h9:=(hI1.2).2;intros;(try simp only [decide_eq_true_eq,decide_eq_false_iff_not,Bool.and_eq_true,Bool.not_eq_true',swp_len,inR] at *);first | done | omega),by (exact (hI1.2).me),by (have h9:=(hI1.2).2;intros;(try simp only [decide_eq_true_eq,decide_eq_false_iff_not,Bool.and_eq_true,Bool.not_eq_true',swp_len,inR] at *);first | done | omega)⟩,trivial⟩ ?_
      exact hJ101 (insSortU (SrtU.mk x0.c0 v1.2.2) v1.1 v1.2.1) hR (by (have h9:=(hI1.2).2;intros;(try simp only [decide_eq_true_eq,decide_eq_false_iff_not,Bool.and_eq_true,Bool.not_eq_true',swp_len,inR] at *);exact (hI1.2).of (insSortU_lk (hI1.2).me (by ((try dsimp only);omega)))))
    ·
      refine rg trivial ?_
      refine rg ⟨by (have h9:=(hk).2;intros;(try simp only [decide_eq_true_eq,decide_eq_false_iff_not,Bool.and_eq_true,Bool.not_eq_true',swp_len,inR] at *);first | done | omega),trivial⟩ ?_
      exact hK1 (v1.2.1,v1.2.1+20,j1) (by ((try clear hR hK1);intros;(try simp only [decide_eq_true_eq,decide_eq_false_iff_not,Bool.or_eq_true,Bool.and_eq_true,or_f_iff,not_f_iff,not_t_iff,Bool.not_eq_true',inR] at *);(repeat' apply And.intro)<;>(first | (intros;omega) | (exact (hk).1) | (have h9:=(hJ1).2;intros;(try simp only [decide_eq_true_eq,decide_eq_false_iff_not,Bool.and_eq_true,Bool.not_eq_true',swp_len,inR] at *);first | done | omega)))) (by (have h9:=(hk).2;intros;(try simp only [decide_eq_true_eq,decide_eq_false_iff_not,Bool.and_eq_true,Bool.not_eq_true',swp_len,inR] at *);first | done | omega)) hR
  ·
    revert hR;refine jN (fun v=>LkU x0 v) (fun F102 hR hJ102=>?_) (fun j2 hR hJ2=>?_)
    ·
      refine rg ⟨⟨by (have h9:=(hI1.2).2;intros;(try simp only [decide_eq_true_eq,decide_eq_false_iff_not,Bool.and_eq_true,Bool.not_eq_true',swp_len,inR] at *);first | done | omega),by (exact (hI1.2).me),by (have h9:=(hI1.2).2;intros;(try simp only [decide_eq_true_eq,decide_eq_false_iff_not,Bool.and_eq_true,Bool.not_eq_true',swp_len,inR] at *);first | done | omega)⟩,trivial⟩ ?_
      exact hJ102 (insSortU (SrtU.mk x0.c0 v1.2.2) v1.1 x1) hR (by (have h9:=(hI1.2).2;intros;(try simp only [decide_eq_true_eq,decide_eq_false_iff_not,Bool.and_eq_true,Bool.not_eq_true',swp_len,inR] at *);exact (hI1.2).of (insSortU_lk (hI1.2).me (by ((try dsimp only);omega)))))
    ·
      revert hR;refine lW (fun v=>(20≤v.1∧v.1≤600)∧LkU x0 v.2) (fun v=>(x1+20 - (v.1)).toNat) (by (have h9:=(hJ2).2;refine ⟨by ((try dsimp only);intros;(try simp only [decide_eq_true_eq,decide_eq_false_iff_not,Bool.and_eq_true,Bool.not_eq_true',swp_len,inR] at *);first | done | omega),hJ2⟩)) (Nat.lt_succ_self _) rfl fun m2 v2 F2 hI2 hM2 hR hK2=>?_
      refine rg trivial ?_
      revert hR;refine cd (fun hc2 hR=>?_) fun hc2 hR=>?_
      ·
        refine rg ⟨by (have h9:=(hk).2;intros;(try simp only [decide_eq_true_eq,decide_eq_false_iff_not,Bool.and_eq_true,Bool.not_eq_true',swp_len,inR] at *);first | done | omega),trivial⟩ ?_
        revert hR;refine lW (fun v=>(0≤v.1∧v.1≤x1∧v.2.1=v.1+2 * v2.1)∧LkU x0 v.2.2) (fun v=>(x1+1000 - (v.2.1)).toNat) (by (have h9:=(hI2.2).2;refine ⟨by ((try dsimp only);intros;(try simp only [decide_eq_true_eq,decide_eq_false_iff_not,Bool.and_eq_true,Bool.not_eq_true',swp_len,inR] at *);first | done | omega),hI2.2⟩)) (Nat.lt_succ_self _) rfl fun m3 v3 F3 hI3 hM3 hR hK3=>?_
        refine rg trivial ?_
        revert hR;refine cd (fun hc3 hR=>?_) fun hc3 hR=>?_
        ·
          revert hR;refine jN (fun v=>LkU x0 v) (fun F103 hR hJ103=>?_) (fun j3 hR hJ3=>?_)
          ·
            refine rg ⟨by (have h9:=(hk).2;intros;(try simp only [decide_eq_true_eq,decide_eq_false_iff_not,Bool.and_eq_true,Bool.not_eq_true',swp_len,inR] at *);first | done | omega),⟨by (have h9:=(hI3.2).2;intros;(try simp only [decide_eq_true_eq,decide_eq_false_iff_not,Bool.and_eq_true,Bool.not_eq_true',swp_len,inR] at *);first | done | omega),by (exact (hI3.2).me),by (have h9:=(hI3.2).2;intros;(try simp only [decide_eq_true_eq,decide_eq_false_iff_not,Bool.and_eq_true,Bool.not_eq_true',swp_len,inR] at *);first | done | omega)⟩,trivial⟩ ?_
            exact hJ103 (symMergeU (SrtU.mk x0.c0 v3.2.2) v3.1 (v3.1+v2.1) v3.2.1) hR (by (have h9:=(hI3.2).2;intros;(try simp only [decide_eq_true_eq,decide_eq_false_iff_not,Bool.and_eq_true,Bool.not_eq_true',swp_len,inR] at *);exact (hI3.2).of (symMergeU_lk _ (hI3.2).me (by ((try dsimp only);omega)))))
          ·
            refine rg trivial ?_
            refine rg ⟨by (have h9:=(hk).2;intros;(try simp only [decide_eq_true_eq,decide_eq_false_iff_not,Bool.and_eq_true,Bool.not_eq_true',swp_len,inR] at *);first | done | omega),by (have h9:=(hk).2;intros;(try simp only [decide_eq_true_eq,decide_eq_false_iff_not,Bool.and_eq_true,Bool.not_eq_true',swp_len,inR] at *);first | done | omega),trivial⟩ ?_
            exact hK3 (v3.2.1,v3.2.1+(2 * v2.1),j3) (by ((try clear hR hK1 hK2 hK3);intros;(try simp only [decide_eq_true_eq,decide_eq_false_iff_not,Bool.or_eq_true,Bool.and_eq_true,or_f_iff,not_f_iff,not_t_iff,Bool.not_eq_true',inR] at *);(repeat' apply And.intro)<;>(first | (intros;omega) | (exact (hk).1) | (have h9:=(hJ3).2;intros;(try simp only [decide_eq_true_eq,decide_eq_false_iff_not,Bool.and_eq_true,Bool.not_eq_true',swp_len,inR] at *);first | done | omega)))) (by (have h9:=(hk).2;intros;(try simp only [decide_eq_true_eq,decide_eq_false_iff_not,Bool.and_eq_true,Bool.not_eq_true',swp_len,inR] at *);first | done | omega)) hR
        ·
          refine rg ⟨by (have h9:=(hk).2;intros;(try simp only [decide_eq_true_eq,decide_eq_false_iff_not,Bool.and_eq_true,Bool.not_eq_true',swp_len,inR] at *);first | done | omega),trivial⟩ ?_
          revert hR;refine cd (fun hc4 hR=>?_) fun hc4 hR=>?_
          ·
            refine rg ⟨⟨by (have h9:=(hI3.2).2;intros;(try simp only [decide_eq_true_eq,decide_eq_false_iff_not,Bool.and_eq_true,Bool.not_eq_true',swp_len,inR] at *);first | done | omega),by (exact (hI3.2).me),by (have h9:=(hI3.2).2;intros;(try simp only [decide_eq_true_eq,decide_eq_false_iff_not,Bool.and_eq_true,Bool.not_eq_true',swp_len,inR] at *);first | done | omega)⟩,trivial⟩ ?_
            refine rg ⟨by (have h9:=(hk).2;intros;(try simp only [decide_eq_true_eq,decide_eq_false_iff_not,Bool.and_eq_true,Bool.not_eq_true',swp_len,inR] at *);first | done | omega),trivial⟩ ?_
            exact hK2 (v2.1 * 2,symMergeU (SrtU.mk x0.c0 v3.2.2) v3.1 (v3.1+v2.1) x1) (by (have h9:=(hI3.2).2;intros;(try simp only [decide_eq_true_eq,decide_eq_false_iff_not,Bool.and_eq_true,Bool.not_eq_true',swp_len,inR] at *);refine ⟨by ((try dsimp only);omega),(hI3.2).of (symMergeU_lk _ (hI3.2).me (by ((try dsimp only);omega)))⟩)) (by (have h9:=(hk).2;intros;(try simp only [decide_eq_true_eq,decide_eq_false_iff_not,Bool.and_eq_true,Bool.not_eq_true',swp_len,inR] at *);first | done | omega)) hR
          ·
            refine rg ⟨by (have h9:=(hk).2;intros;(try simp only [decide_eq_true_eq,decide_eq_false_iff_not,Bool.and_eq_true,Bool.not_eq_true',swp_len,inR] at *);first | done | omega),trivial⟩ ?_
            exact hK2 (v2.1 * 2,v3.2.2) (by (have h9:=(hI3.2).2;refine ⟨by ((try dsimp only);intros;(try simp only [decide_eq_true_eq,decide_eq_false_iff_not,Bool.and_eq_true,Bool.not_eq_true',swp_len,inR] at *);first | done | omega),hI3.2⟩)) (by (have h9:=(hk).2;intros;(try simp only [decide_eq_true_eq,decide_eq_false_iff_not,Bool.and_eq_true,Bool.not_eq_true',swp_len,inR] at *);first | done | omega)) hR
      ·
        exact congrArg (C154U x0 x1) hR
 exact FnM.go 57 Try.func154 (by kernel_rfl) (by kernel_rfl) (A154U x0 x1) (by kernel_rfl) (aux _ rfl)
def k154U (d:Nat) (ids:List Nat) (x0:SrtU) (x1:Int):Cl:=(hresM d ids (C154U x0 x1 (stableU x0 x1)),k3 (ok_sort_stable_func_U x0 x1))
noncomputable def kvoU (d:Nat) (ids:List Nat) (l:List Union):Cl:=(.resM d ids [(900000,.arr 4 l.length (rowOf (cUnion true) l)),(0,.var [.own 900000])] (.agg [.k Try.prog.globals.size 24,.vp 0 0,.int .u64 151]),k0 (P:=FnX Try.prog 152 [.ifc 24 (.own 900000)] [.arr 4 l.length (rowOf (cUnion true) l)] (.agg [.k Try.prog.globals.size 24,.vp 0 0,.int .u64 151]) [(900000,.arr 4 l.length (rowOf (cUnion true) l)),(0,.var [.own 900000])]) (FnX.valueOf (t:=24) (e:=94) (ti:=Try.t24) Try.func152 (by kernel_rfl) (by kernel_rfl) (by kernel_rfl) (by rfl) (by kernel_rfl) (by kernel_rfl)))
noncomputable def klnU (d:Nat) (ids:List Nat) (l:List Union):Cl:=(.resM d ids (enumB [.arr 4 l.length (rowOf (cUnion true) l),.var [.own 900000]] 900000) (.int .i64 l.length),k0 (P:=FnX Try.prog 155 [.agg [.k Try.prog.globals.size 24,.vp 900001 0,.int .u64 151]] [.arr 4 l.length (rowOf (cUnion true) l),.var [.own 900000]] (.int .i64 l.length) (enumB [.arr 4 l.length (rowOf (cUnion true) l),.var [.own 900000]] 900000)) (FnX.valLen (t:=24) (e:=94) (ti:=Try.t24) Try.func155 (by kernel_rfl) (by kernel_rfl) (by kernel_rfl) (by rfl) (by kernel_rfl) (by kernel_rfl) (by kernel_rfl) (by kernel_rfl)))
noncomputable def kspU (d:Nat) (ids:List Nat) (l:List Union):Cl:=(.resM d ids (enumB [.arr 4 l.length (rowOf (cUnion true) l)] 900000) (.clo 194 [.own 900000,.k Try.prog.globals.size 94]),k1 (P:=FnX Try.prog 153 [.ifc 24 (.own 900000)] [.arr 4 l.length (rowOf (cUnion true) l)] (.clo 194 [.own 900000,.k Try.prog.globals.size 94]) (enumB [.arr 4 l.length (rowOf (cUnion true) l)] 900000)) fun hn=>FnX.swapper (t:=24) (e:=94) (ti:=Try.t24) (ie:=Try.t94) (ke:=25) hn Try.func153 (by kernel_rfl) (by kernel_rfl) (by kernel_rfl) (by rfl) (by kernel_rfl) (by kernel_rfl) (by kernel_rfl) (fun w=>by kernel_rfl) (fun m=>⟨rfl,by decide⟩) (by kernel_rfl))

def C112U (x0:SrtU) (x1:Unit) (R:(List Union)):LV×List (Nat×BC):=(.tup [],[(900000,.arr 4 R.length (rowOf (cUnion true) R)),(900001,.var [.own 900002,.own 900000]),(900002,.arr 6 x0.c0.length (rowOf (cPerson true) x0.c0))])
def sliceU (x0:SrtU) (x1:Unit):(List Union):=stableU x0 (x0.l.length:Int)
noncomputable def A112U (x0:SrtU) (x1:Unit):Ann:=.reg 2 [] [(1,kvoU 7 [900000] x0.l),(1001,kspU 9 [900000] x0.l)] [1,4,5] [4,1007,900000,900001,900002] [] [] [] [0,4] (.reg 1 [] [(4,klnU 14 [900000,1007] x0.l),(5,k154U 15 [900000,900001,900002] x0 (x0.l.length:Int))] [] [900000,900001,900002] [] [] [] [0,4] (rt [(900000,some 900000),(900001,some 900001),(900002,some 900002)] (C112U x0 x1 (stableU x0 (x0.l.length:Int)))))
theorem sliceU_eq (x:SrtU):sliceU x ()=gStb (RU x) x.l x.l.length:=stableU_eq x _

theorem ok_sort_SliceStable_U (x0:SrtU) (x1:Unit) (hx:x0.l.length≤255) (hk:LkU x0 x0.l) (h2:2≤x0.l.length):FnMT Try.prog 112 [.ifc 24 (.own 900000),.clo 121 [.vp 900001 0]] [.arr 4 x0.l.length (rowOf (cUnion true) x0.l),.var [.own 900002,.own 900000],.arr 6 x0.c0.length (rowOf (cPerson true) x0.c0)] (C112U x0 x1 (sliceU x0 x1)):=by
 have aux:∀ R,sliceU x0 x1=R→slim (C112U x0 x1 R) (A112U x0 x1) []:=by
  intro R hR
  refine rg ⟨trivial,by with_reducible assumption,trivial⟩ ?_
  refine rg ⟨trivial,⟨by with_reducible assumption,by with_reducible assumption,by (intros;omega)⟩,trivial⟩ ?_
  exact congrArg (C112U x0 x1) hR
 exact FnM.go 16 Try.func112 (by kernel_rfl) (by kernel_rfl) (A112U x0 x1) (by kernel_rfl) (aux _ rfl)
def k112U (d:Nat) (ids:List Nat) (x0:SrtU) (x1:Unit):Cl:=(hresM d ids (C112U x0 x1 (sliceU x0 x1)),k3 (ok_sort_SliceStable_U x0 x1))
structure SrtV where
 c0:List Person
 l:List Union
 deriving Inhabited

def C195V (x0:SrtV) (x1:Int) (x2:Int) (R:(List Union)):LV×List (Nat×BC):=(.tup [],[(900000,.arr 4 R.length (rowOf (cUnion true) R)),(900001,.var [.own 900002,.own 900000]),(900002,.arr 6 x0.c0.length (rowOf (cPerson true) x0.c0))])
def insSortV (x0:SrtV) (x1:Int) (x2:Int):(List Union):=loopW (fun (v1:Int) next=>x0.l) (0+1) (x1+1)
def D195Vb1 (x0:SrtV) (x1:Int) (x2:Int) (v1:Int):Dl:=⟨[(6,.int .i64 v1)],[]⟩
def A195Vb1 (x0:SrtV) (x1:Int) (x2:Int) (v1:Int):Ann:=r0 1 [1,2,3,6,12] [3,900000,900001,900002] (cn (decide (v1<x2)) (.next 99 [] ⟨[],[]⟩) (rt [(900000,some 900000),(900001,some 900001),(900002,some 900002)] (C195V x0 x1 x2 x0.l)))
def A195V (x0:SrtV) (x1:Int) (x2:Int):Ann:=r1 2 [1,2,3,6] [3,900000,900001,900002] [pf (inR .i64 (x1+1))] [0] (.loop Int (D195Vb1 x0 x1 x2) [] [] [] (D195Vb1 x0 x1 x2 (x1+1)) (A195Vb1 x0 x1 x2))
theorem ok_sort_insertionSort_func_V (x0:SrtV) (x1:Int) (x2:Int) (hx:x0.l.length≤1) (hab:x1=0∧x2=x0.l.length):FnMT Try.prog 195 [.agg [.clo 121 [.vp 900001 0],.fv],.int .i64 x1,.int .i64 x2] [.arr 4 x0.l.length (rowOf (cUnion true) x0.l),.var [.own 900002,.own 900000],.arr 6 x0.c0.length (rowOf (cPerson true) x0.c0)] (C195V x0 x1 x2 (insSortV x0 x1 x2)):=by
 have aux:∀ R,insSortV x0 x1 x2=R→slim (C195V x0 x1 x2 R) (A195V x0 x1 x2) []:=by
  intro R hR
  refine rg ⟨by (simp only [decide_eq_true_eq,decide_eq_false_iff_not,inR] at *;omega),trivial⟩ ?_
  revert hR;refine lW (fun v=>x1+1≤v) (fun v=>0) (by (intros;omega)) (Nat.lt_succ_self _) rfl fun m1 v1 F1 hI1 hM1 hR hK1=>?_
  refine rg trivial ?_
  refine ⟨fun hq=>absurd hq (by simp only [decide_eq_true_eq,decide_eq_false_iff_not,Bool.not_eq_true,Bool.not_eq_false];omega),fun hc1=>?_⟩
  exact congrArg (C195V x0 x1 x2) hR
 exact FnM.go 35 Try.func195 (by kernel_rfl) (by kernel_rfl) (A195V x0 x1 x2) (by kernel_rfl) (aux _ rfl)
def k195V (d:Nat) (ids:List Nat) (x0:SrtV) (x1:Int) (x2:Int):Cl:=(hresM d ids (C195V x0 x1 x2 (insSortV x0 x1 x2)),k2 (ok_sort_insertionSort_func_V x0 x1 x2))
def C154V (x0:SrtV) (x1:Int) (R:(List Union)):LV×List (Nat×BC):=(.tup [],[(900000,.arr 4 R.length (rowOf (cUnion true) R)),(900001,.var [.own 900002,.own 900000]),(900002,.arr 6 x0.c0.length (rowOf (cPerson true) x0.c0))])
def stableV (x0:SrtV) (x1:Int):(List Union):=loopW (fun (v1:Int×Int) next=>loopW (fun (v2:Int) next=>insSortV x0 v1.1 x1) (0+1) 20) (0+1) (0,20)
def D154Vb1 (x0:SrtV) (x1:Int) (v1:Int×Int):Dl:=⟨[(5,.int .i64 v1.1),(6,.int .i64 v1.2)],[]⟩
def D154Vb2 (x0:SrtV) (x1:Int) (v1:Int×Int) (v2:Int):Dl:=⟨[(4,.int .i64 v2)],[]⟩
def A154Vb2 (x0:SrtV) (x1:Int) (v1:Int×Int) (v2:Int):Ann:=r0 1 [1,2,4,26] [2,900000,900001,900002] (cn (decide (v2<x1)) (.next 99 [] ⟨[],[]⟩) (rt [(900000,some 900000),(900001,some 900001),(900002,some 900002)] (C154V x0 x1 (insSortV x0 v1.1 x1))))
def A154Vb1 (x0:SrtV) (x1:Int) (v1:Int×Int):Ann:=r0 1 [1,2,4,5,6,11] [2,900000,900001,900002] (cn (decide (v1.2≤x1)) (.next 99 [] ⟨[],[]⟩) (.reg 1 [] [(3,k195V 23 [900000,900001,900002] x0 v1.1 x1)] [1,2,4] [2,900000,900001,900002] [] [] [] [0] (.loop Int (D154Vb2 x0 x1 v1) [] [] [] (D154Vb2 x0 x1 v1 20) (A154Vb2 x0 x1 v1))))
def A154V (x0:SrtV) (x1:Int):Ann:=r0 3 [1,2,4,5,6] [2,900000,900001,900002] (.loop (Int×Int) (D154Vb1 x0 x1) [] [] [] (D154Vb1 x0 x1 (0,20)) (A154Vb1 x0 x1))
theorem ok_sort_stable_func_V (x0:SrtV) (x1:Int) (hx:x0.l.length≤1) (hn:x1=x0.l.length):FnMT Try.prog 154 [.agg [.clo 121 [.vp 900001 0],.fv],.int .i64 x1] [.arr 4 x0.l.length (rowOf (cUnion true) x0.l),.var [.own 900002,.own 900000],.arr 6 x0.c0.length (rowOf (cPerson true) x0.c0)] (C154V x0 x1 (stableV x0 x1)):=by
 have aux:∀ R,stableV x0 x1=R→slim (C154V x0 x1 R) (A154V x0 x1) []:=by
  intro R hR
  refine rg trivial ?_
  revert hR;refine lW (fun v=>v.1=0∧v.2=20) (fun v=>0) (by (intros;omega)) (Nat.lt_succ_self _) rfl fun m1 v1 F1 hI1 hM1 hR hK1=>?_
  refine rg trivial ?_
  refine ⟨fun hq=>absurd hq (by simp only [decide_eq_true_eq,decide_eq_false_iff_not,Bool.not_eq_true,Bool.not_eq_false];omega),fun hc1=>?_⟩
  refine rg ⟨⟨by with_reducible assumption,by (intros;omega)⟩,trivial⟩ ?_
  revert hR;refine lW (fun v=>v=20) (fun v=>0) (by (intros;omega)) (Nat.lt_succ_self _) rfl fun m2 v2 F2 hI2 hM2 hR hK2=>?_
  refine rg trivial ?_
  refine ⟨fun hq=>absurd hq (by simp only [decide_eq_true_eq,decide_eq_false_iff_not,Bool.not_eq_true,Bool.not_eq_false];omega),fun hc2=>?_⟩
  exact congrArg (C154V x0 x1) hR
 exact FnM.go 57 Try.func154 (by kernel_rfl) (by kernel_rfl) (A154V x0 x1) (by kernel_rfl) (aux _ rfl)
def k154V (d:Nat) (ids:List Nat) (x0:SrtV) (x1:Int):Cl:=(hresM d ids (C154V x0 x1 (stableV x0 x1)),k2 (ok_sort_stable_func_V x0 x1))
noncomputable def kvoV (d:Nat) (ids:List Nat) (l:List Union):Cl:=(.resM d ids [(900000,.arr 4 l.length (rowOf (cUnion true) l)),(0,.var [.own 900000])] (.agg [.k Try.prog.globals.size 24,.vp 0 0,.int .u64 151]),k0 (P:=FnX Try.prog 152 [.ifc 24 (.own 900000)] [.arr 4 l.length (rowOf (cUnion true) l)] (.agg [.k Try.prog.globals.size 24,.vp 0 0,.int .u64 151]) [(900000,.arr 4 l.length (rowOf (cUnion true) l)),(0,.var [.own 900000])]) (FnX.valueOf (t:=24) (e:=94) (ti:=Try.t24) Try.func152 (by kernel_rfl) (by kernel_rfl) (by kernel_rfl) (by rfl) (by kernel_rfl) (by kernel_rfl)))
noncomputable def klnV (d:Nat) (ids:List Nat) (l:List Union):Cl:=(.resM d ids (enumB [.arr 4 l.length (rowOf (cUnion true) l),.var [.own 900000]] 900000) (.int .i64 l.length),k0 (P:=FnX Try.prog 155 [.agg [.k Try.prog.globals.size 24,.vp 900001 0,.int .u64 151]] [.arr 4 l.length (rowOf (cUnion true) l),.var [.own 900000]] (.int .i64 l.length) (enumB [.arr 4 l.length (rowOf (cUnion true) l),.var [.own 900000]] 900000)) (FnX.valLen (t:=24) (e:=94) (ti:=Try.t24) Try.func155 (by kernel_rfl) (by kernel_rfl) (by kernel_rfl) (by rfl) (by kernel_rfl) (by kernel_rfl) (by kernel_rfl) (by kernel_rfl)))
noncomputable def kspV (d:Nat) (ids:List Nat) (l:List Union):Cl:=(.resM d ids (enumB [.arr 4 l.length (rowOf (cUnion true) l)] 900000) .fv,k1 (P:=FnX Try.prog 153 [.ifc 24 (.own 900000)] [.arr 4 l.length (rowOf (cUnion true) l)] .fv (enumB [.arr 4 l.length (rowOf (cUnion true) l)] 900000)) fun hn=>FnX.swapper0 (t:=24) (e:=94) (ti:=Try.t24) (ie:=Try.t94) (ke:=25) (g0:=186) (g1:=187) hn Try.func153 (by kernel_rfl) (by kernel_rfl) (by kernel_rfl) (by rfl) (by kernel_rfl) (by kernel_rfl) (by kernel_rfl) (fun w=>by kernel_rfl) (by kernel_rfl) (by kernel_rfl))

def C112V (x0:SrtV) (x1:Unit) (R:(List Union)):LV×List (Nat×BC):=(.tup [],[(900000,.arr 4 R.length (rowOf (cUnion true) R)),(900001,.var [.own 900002,.own 900000]),(900002,.arr 6 x0.c0.length (rowOf (cPerson true) x0.c0))])
def sliceV (x0:SrtV) (x1:Unit):(List Union):=stableV x0 (x0.l.length:Int)
noncomputable def A112V (x0:SrtV) (x1:Unit):Ann:=.reg 2 [] [(1,kvoV 7 [900000] x0.l),(1001,kspV 9 [900000] x0.l)] [1,4,5] [4,1007,900000,900001,900002] [] [] [] [0,4] (.reg 1 [] [(4,klnV 14 [900000,1007] x0.l),(5,k154V 15 [900000,900001,900002] x0 (x0.l.length:Int))] [] [900000,900001,900002] [] [] [] [0,4] (rt [(900000,some 900000),(900001,some 900001),(900002,some 900002)] (C112V x0 x1 (stableV x0 (x0.l.length:Int)))))
theorem sliceV_eq (x:SrtV):sliceV x ()=x.l:=rfl

theorem ok_sort_SliceStable_V (x0:SrtV) (x1:Unit) (hx:x0.l.length≤1):FnMT Try.prog 112 [.ifc 24 (.own 900000),.clo 121 [.vp 900001 0]] [.arr 4 x0.l.length (rowOf (cUnion true) x0.l),.var [.own 900002,.own 900000],.arr 6 x0.c0.length (rowOf (cPerson true) x0.c0)] (C112V x0 x1 (sliceV x0 x1)):=by
 have aux:∀ R,sliceV x0 x1=R→slim (C112V x0 x1 R) (A112V x0 x1) []:=by
  intro R hR
  refine rg ⟨trivial,by with_reducible assumption,trivial⟩ ?_
  refine rg ⟨trivial,⟨by with_reducible assumption,by (intros;omega)⟩,trivial⟩ ?_
  exact congrArg (C112V x0 x1) hR
 exact FnM.go 16 Try.func112 (by kernel_rfl) (by kernel_rfl) (A112V x0 x1) (by kernel_rfl) (aux _ rfl)
def k112V (d:Nat) (ids:List Nat) (x0:SrtV) (x1:Unit):Cl:=(hresM d ids (C112V x0 x1 (sliceV x0 x1)),k1 (ok_sort_SliceStable_V x0 x1))
end Go.Proofs.Ytepefimocflfkaa
