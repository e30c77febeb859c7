import Derived.Test.YtepefimocflfkaaVS92
set_option maxHeartbeats 4000000
set_option linter.unusedSimpArgs false
set_option linter.unusedVariables false
namespace Go.Proofs.Ytepefimocflfkaa
open Go Go.Lite Go.Proofs
def C154W (x0:SrtW) (x1:Int) (R:(List Event)):LV×List (Nat×BC):=(.tup [],[(900000,.arr 6 R.length (rowOf (cEvent true) R)),(900001,.var [.own 900000])])
def stableW (x0:SrtW) (x1:Int):(List Event):=loopW (fun (v1:Int×Int×(List Event)) next=>bif (decide (v1.2.1≤x1)) then (jn (fun K1=>K1 (insSortW (SrtW.mk v1.2.2) v1.1 v1.2.1)) (fun (j1:(List Event))=>next (v1.2.1,v1.2.1+20,j1))) else (jn (fun K2=>K2 (insSortW (SrtW.mk v1.2.2) v1.1 x1)) (fun (j2:(List Event))=>loopW (fun (v2:Int×(List Event)) nx2=>bif (decide (v2.1<x1)) then (loopW (fun (v3:Int×Int×(List Event)) next=>bif (decide (v3.2.1≤x1)) then (jn (fun K3=>K3 (symMergeW (SrtW.mk v3.2.2) v3.1 (v3.1+v2.1) v3.2.1)) (fun (j3:(List Event))=>next (v3.2.1,v3.2.1+(2 * v2.1),j3))) else (bif (decide ((v3.1+v2.1)<x1)) then (nx2 (v2.1 * 2,symMergeW (SrtW.mk v3.2.2) v3.1 (v3.1+v2.1) x1)) else (nx2 (v2.1 * 2,v3.2.2)))) ((x1+1000 - (2 * v2.1)).toNat+1) (0,2 * v2.1,v2.2)) else v2.2) ((x1+20 - (20)).toNat+1) (20,j2)))) ((x1+20 - (20)).toNat+1) (0,20,x0.l)
def D154Wb1 (x0:SrtW) (x1:Int) (v1:Int×Int×(List Event)):Dl:=⟨[(5,.int .i64 v1.1),(6,.int .i64 v1.2.1)],[(900000,.arr 6 v1.2.2.length (rowOf (cEvent true) v1.2.2))]⟩
def D154Wj1 (x0:SrtW) (x1:Int) (v1:Int×Int×(List Event)) (j1:(List Event)):Dl:=⟨[],[(900000,.arr 6 j1.length (rowOf (cEvent true) j1))]⟩
def A154Wj1 (x0:SrtW) (x1:Int) (v1:Int×Int×(List Event)) (j1:(List Event)):Ann:=r0 1 [1,2,4,5,6] [2,900000,900001] (r1 1 [1,2,4,5,6] [2,900000,900001] [pf (inR .i64 (v1.2.1+20))] [0] (.next 0 [(900000,some 900000)] (D154Wb1 x0 x1 (v1.2.1,v1.2.1+20,j1))))
def D154Wj2 (x0:SrtW) (x1:Int) (v1:Int×Int×(List Event)) (j2:(List Event)):Dl:=⟨[],[(900000,.arr 6 j2.length (rowOf (cEvent true) j2))]⟩
def D154Wb2 (x0:SrtW) (x1:Int) (v1:Int×Int×(List Event)) (j2:(List Event)) (v2:Int×(List Event)):Dl:=⟨[(4,.int .i64 v2.1)],[(900000,.arr 6 v2.2.length (rowOf (cEvent true) v2.2))]⟩
def D154Wb3 (x0:SrtW) (x1:Int) (v1:Int×Int×(List Event)) (j2:(List Event)) (v2:Int×(List Event)) (v3:Int×Int×(List Event)):Dl:=⟨[(5,.int .i64 v3.1),(6,.int .i64 v3.2.1)],[(900000,.arr 6 v3.2.2.length (rowOf (cEvent true) v3.2.2))]⟩
def D154Wj3 (x0:SrtW) (x1:Int) (v1:Int×Int×(List Event)) (j2:(List Event)) (v2:Int×(List Event)) (v3:Int×Int×(List Event)) (j3:(List Event)):Dl:=⟨[],[(900000,.arr 6 j3.length (rowOf (cEvent true) j3))]⟩
def A154Wj3 (x0:SrtW) (x1:Int) (v1:Int×Int×(List Event)) (j2:(List Event)) (v2:Int×(List Event)) (v3:Int×Int×(List Event)) (j3:(List Event)):Ann:=r0 1 [1,2,4,5,6] [2,900000,900001] (r1 1 [1,2,4,5,6] [2,900000,900001] [pf (inR .i64 (2 * v2.1)),pf (inR .i64 (v3.2.1+(2 * v2.1)))] [0,4] (.next 0 [(900000,some 900000)] (D154Wb3 x0 x1 v1 j2 v2 (v3.2.1,v3.2.1+(2 * v2.1),j3))))
def A154Wb3 (x0:SrtW) (x1:Int) (v1:Int×Int×(List Event)) (j2:(List Event)) (v2:Int×(List Event)) (v3:Int×Int×(List Event)):Ann:=r0 1 [1,2,4,5,6,31] [2,900000,900001] (cn (decide (v3.2.1≤x1)) (.join 0 (List Event) (D154Wj3 x0 x1 v1 j2 v2 v3) [1,2,4,5,6] [2,900001,900000] (.reg 1 [] [(6,k196W 38 [900000,900001] (SrtW.mk v3.2.2) v3.1 (v3.1+v2.1) v3.2.1)] [1,2,4,5,6] [2,900000,900001] [] [pf (inR .i64 (v3.1+v2.1))] [] [0,4] (.next 0 [(900000,some 900000)] (D154Wj3 x0 x1 v1 j2 v2 v3 (symMergeW (SrtW.mk v3.2.2) v3.1 (v3.1+v2.1) v3.2.1)))) (A154Wj3 x0 x1 v1 j2 v2 v3)) (r1 2 [1,2,4,5,7,49] [2,900000,900001] [pf (inR .i64 (v3.1+v2.1))] [0] (cn (decide ((v3.1+v2.1)<x1)) (.reg 1 [] [(4,k196W 54 [900000,900001] (SrtW.mk v3.2.2) v3.1 (v3.1+v2.1) x1)] [1,2,4] [2,900000,900001] [] [] [] [0] (r1 1 [1,2,4] [2,900000,900001] [pf (inR .i64 (v2.1 * 2))] [0] (.next 1 [(900000,some 900000)] (D154Wb2 x0 x1 v1 j2 (v2.1 * 2,symMergeW (SrtW.mk v3.2.2) v3.1 (v3.1+v2.1) x1))))) (r1 1 [1,2,4] [2,900000,900001] [pf (inR .i64 (v2.1 * 2))] [0] (.next 1 [(900000,some 900000)] (D154Wb2 x0 x1 v1 j2 (v2.1 * 2,v3.2.2)))))))
def A154Wb2 (x0:SrtW) (x1:Int) (v1:Int×Int×(List Event)) (j2:(List Event)) (v2:Int×(List Event)):Ann:=r0 1 [1,2,4,26] [2,900000,900001] (cn (decide (v2.1<x1)) (r1 1 [1,2,4,5,6] [2,900000,900001] [pf (inR .i64 (2 * v2.1))] [0] (.loop (Int×Int×(List Event)) (D154Wb3 x0 x1 v1 j2 v2) [] [] [(900000,some 900000)] (D154Wb3 x0 x1 v1 j2 v2 (0,2 * v2.1,v2.2)) (A154Wb3 x0 x1 v1 j2 v2))) (rt [(900000,some 900000),(900001,some 900001)] (C154W x0 x1 v2.2)))
def A154Wj2 (x0:SrtW) (x1:Int) (v1:Int×Int×(List Event)) (j2:(List Event)):Ann:=.loop (Int×(List Event)) (D154Wb2 x0 x1 v1 j2) [] [] [(900000,some 900000)] (D154Wb2 x0 x1 v1 j2 (20,j2)) (A154Wb2 x0 x1 v1 j2)
def A154Wb1 (x0:SrtW) (x1:Int) (v1:Int×Int×(List Event)):Ann:=r0 1 [1,2,4,5,6,11] [2,900000,900001] (cn (decide (v1.2.1≤x1)) (.join 0 (List Event) (D154Wj1 x0 x1 v1) [1,2,4,5,6] [2,900001,900000] (.reg 1 [] [(3,k195W 15 [900000,900001] (SrtW.mk v1.2.2) v1.1 v1.2.1)] [1,2,4,5,6] [2,900000,900001] [] [] [] [0] (.next 0 [(900000,some 900000)] (D154Wj1 x0 x1 v1 (insSortW (SrtW.mk v1.2.2) v1.1 v1.2.1)))) (A154Wj1 x0 x1 v1)) (.join 0 (List Event) (D154Wj2 x0 x1 v1) [1,2,4] [2,900001,900000] (.reg 1 [] [(3,k195W 23 [900000,900001] (SrtW.mk v1.2.2) v1.1 x1)] [1,2,4] [2,900000,900001] [] [] [] [0] (.next 0 [(900000,some 900000)] (D154Wj2 x0 x1 v1 (insSortW (SrtW.mk v1.2.2) v1.1 x1)))) (A154Wj2 x0 x1 v1)))
def A154W (x0:SrtW) (x1:Int):Ann:=r0 3 [1,2,4,5,6] [2,900000,900001] (.loop (Int×Int×(List Event)) (D154Wb1 x0 x1) [] [] [(900000,some 900000)] (D154Wb1 x0 x1 (0,20,x0.l)) (A154Wb1 x0 x1))
theorem stableW_eq (x:SrtW) (n:Int):stableW x n=gStb (RW x) x.l n:=by
 unfold stableW gStb symMergeW
 simp only [symMergeW_eq,insSortW_eq]
 rfl

theorem ok_sort_stable_func_W (x0:SrtW) (x1:Int) (hx:x0.l.length≤255) (hk:LkW x0 x0.l) (hn:x1=x0.l.length):FnMT Try.prog 154 [.agg [.clo 113 [.vp 900001 0],.clo 194 [.own 900000,.k Try.prog.globals.size 49]],.int .i64 x1] [.arr 6 x0.l.length (rowOf (cEvent true) x0.l),.var [.own 900000]] (C154W x0 x1 (stableW x0 x1)):=by
 have aux:∀ R,stableW x0 x1=R→slim (C154W x0 x1 R) (A154W x0 x1) []:=by
  intro R hR
  refine rg trivial ?_
  revert hR;refine lW (fun v=>(0≤v.1∧v.1≤x1∧v.2.1=v.1+20)∧LkW x0 v.2.2) (fun v=>(x1+20 - (v.2.1)).toNat) (by (have h9:=(hk).2;refine ⟨by ((try dsimp only);intros;(try simp only [decide_eq_true_eq,decide_eq_false_iff_not,Bool.and_eq_true,Bool.not_eq_true',swp_len,inR] at *);first | done | omega),hk⟩)) (Nat.lt_succ_self _) rfl fun m1 v1 F1 hI1 hM1 hR hK1=>?_
  refine rg trivial ?_
  revert hR;refine cd (fun hc1 hR=>?_) fun hc1 hR=>?_
  ·
    revert hR;refine jN (fun v=>LkW x0 v) (fun F101 hR hJ101=>?_) (fun j1 hR hJ1=>?_)
    ·
      refine rg ⟨⟨by (have h9:=(hI1.2).2;intros;(try simp only [decide_eq_true_eq,decide_eq_false_iff_not,Bool.and_eq_true,Bool.not_eq_true',swp_len,inR] at *);first | done | omega),by (exact (hI1.2).me),by (have h9:=(hI1.2).2;intros;(try simp only [decide_eq_true_eq,decide_eq_false_iff_not,Bool.and_eq_true,Bool.not_eq_true',swp_len,inR] at *);first | done | omega)⟩,trivial⟩ ?_
      exact hJ101 (insSortW (SrtW.mk v1.2.2) v1.1 v1.2.1) hR (by (have h9:=(hI1.2).2;intros;(try simp only [decide_eq_true_eq,decide_eq_false_iff_not,Bool.and_eq_true,Bool.not_eq_true',swp_len,inR] at *);exact (hI1.2).of (insSortW_lk (hI1.2).me (by ((try dsimp only);omega)))))
    ·
      refine rg trivial ?_
      refine rg ⟨by (have h9:=(hk).2;intros;(try simp only [decide_eq_true_eq,decide_eq_false_iff_not,Bool.and_eq_true,Bool.not_eq_true',swp_len,inR] at *);first | done | omega),trivial⟩ ?_
      exact hK1 (v1.2.1,v1.2.1+20,j1) (by ((try clear hR hK1);intros;(try simp only [decide_eq_true_eq,decide_eq_false_iff_not,Bool.or_eq_true,Bool.and_eq_true,or_f_iff,not_f_iff,not_t_iff,Bool.not_eq_true',inR] at *);(repeat' apply And.intro)<;>(first | (intros;omega) | (exact (hk).1) | (have h9:=(hJ1).2;intros;(try simp only [decide_eq_true_eq,decide_eq_false_iff_not,Bool.and_eq_true,Bool.not_eq_true',swp_len,inR] at *);first | done | omega)))) (by (have h9:=(hk).2;intros;(try simp only [decide_eq_true_eq,decide_eq_false_iff_not,Bool.and_eq_true,Bool.not_eq_true',swp_len,inR] at *);first | done | omega)) hR
  ·
    revert hR;refine jN (fun v=>LkW x0 v) (fun F102 hR hJ102=>?_) (fun j2 hR hJ2=>?_)
    ·
      refine rg ⟨⟨by (have h9:=(hI1.2).2;intros;(try simp only [decide_eq_true_eq,decide_eq_false_iff_not,Bool.and_eq_true,Bool.not_eq_true',swp_len,inR] at *);first | done | omega),by (exact (hI1.2).me),by (have h9:=(hI1.2).2;intros;(try simp only [decide_eq_true_eq,decide_eq_false_iff_not,Bool.and_eq_true,Bool.not_eq_true',swp_len,inR] at *);first | done | omega)⟩,trivial⟩ ?_
      exact hJ102 (insSortW (SrtW.mk v1.2.2) v1.1 x1) hR (by (have h9:=(hI1.2).2;intros;(try simp only [decide_eq_true_eq,decide_eq_false_iff_not,Bool.and_eq_true,Bool.not_eq_true',swp_len,inR] at *);exact (hI1.2).of (insSortW_lk (hI1.2).me (by ((try dsimp only);omega)))))
    ·
      revert hR;refine lW (fun v=>(20≤v.1∧v.1≤600)∧LkW x0 v.2) (fun v=>(x1+20 - (v.1)).toNat) (by (have h9:=(hJ2).2;refine ⟨by ((try dsimp only);intros;(try simp only [decide_eq_true_eq,decide_eq_false_iff_not,Bool.and_eq_true,Bool.not_eq_true',swp_len,inR] at *);first | done | omega),hJ2⟩)) (Nat.lt_succ_self _) rfl fun m2 v2 F2 hI2 hM2 hR hK2=>?_
      refine rg trivial ?_
      revert hR;refine cd (fun hc2 hR=>?_) fun hc2 hR=>?_
      ·
        refine rg ⟨by (have h9:=(hk).2;intros;(try simp only [decide_eq_true_eq,decide_eq_false_iff_not,Bool.and_eq_true,Bool.not_eq_true',swp_len,inR] at *);first | done | omega),trivial⟩ ?_
        revert hR;refine lW (fun v=>(0≤v.1∧v.1≤x1∧v.2.1=v.1+2 * v2.1)∧LkW x0 v.2.2) (fun v=>(x1+1000 - (v.2.1)).toNat) (by (have h9:=(hI2.2).2;refine ⟨by ((try dsimp only);intros;(try simp only [decide_eq_true_eq,decide_eq_false_iff_not,Bool.and_eq_true,Bool.not_eq_true',swp_len,inR] at *);first | done | omega),hI2.2⟩)) (Nat.lt_succ_self _) rfl fun m3 v3 F3 hI3 hM3 hR hK3=>?_
        refine rg trivial ?_
        revert hR;refine cd (fun hc3 hR=>?_) fun hc3 hR=>?_
        ·
          revert hR;refine jN (fun v=>LkW x0 v) (fun F103 hR hJ103=>?_) (fun j3 hR hJ3=>?_)
          ·
            refine rg ⟨by (have h9:=(hk).2;intros;(try simp only [decide_eq_true_eq,decide_eq_false_iff_not,Bool.and_eq_true,Bool.not_eq_true',swp_len,inR] at *);first | done | omega),⟨by (have h9:=(hI3.2).2;intros;(try simp only [decide_eq_true_eq,decide_eq_false_iff_not,Bool.and_eq_true,Bool.not_eq_true',swp_len,inR] at *);first | done | omega),by (exact (hI3.2).me),by (have h9:=(hI3.2).2;intros;(try simp only [decide_eq_true_eq,decide_eq_false_iff_not,Bool.and_eq_true,Bool.not_eq_true',swp_len,inR] at *);first | done | omega)⟩,trivial⟩ ?_
            exact hJ103 (symMergeW (SrtW.mk v3.2.2) v3.1 (v3.1+v2.1) v3.2.1) hR (by (have h9:=(hI3.2).2;intros;(try simp only [decide_eq_true_eq,decide_eq_false_iff_not,Bool.and_eq_true,Bool.not_eq_true',swp_len,inR] at *);exact (hI3.2).of (symMergeW_lk _ (hI3.2).me (by ((try dsimp only);omega)))))
          ·
            refine rg trivial ?_
            refine rg ⟨by (have h9:=(hk).2;intros;(try simp only [decide_eq_true_eq,decide_eq_false_iff_not,Bool.and_eq_true,Bool.not_eq_true',swp_len,inR] at *);first | done | omega),by (have h9:=(hk).2;intros;(try simp only [decide_eq_true_eq,decide_eq_false_iff_not,Bool.and_eq_true,Bool.not_eq_true',swp_len,inR] at *);first | done | omega),trivial⟩ ?_
            exact hK3 (v3.2.1,v3.2.1+(2 * v2.1),j3) (by ((try clear hR hK1 hK2 hK3);intros;(try simp only [decide_eq_true_eq,decide_eq_false_iff_not,Bool.or_eq_true,Bool.and_eq_true,or_f_iff,not_f_iff,not_t_iff,Bool.not_eq_true',inR] at *);(repeat' apply And.intro)<;>(first | (intros;omega) | (exact (hk).1) | (have h9:=(hJ3).2;intros;(try simp only [decide_eq_true_eq,decide_eq_false_iff_not,Bool.and_eq_true,Bool.not_eq_true',swp_len,inR] at *);first | done | omega)))) (by (have h9:=(hk).2;intros;(try simp only [decide_eq_true_eq,decide_eq_false_iff_not,Bool.and_eq_true,Bool.not_eq_true',swp_len,inR] at *);first | done | omega)) hR
        ·
          refine rg ⟨by (have h9:=(hk).2;intros;(try simp only [decide_eq_true_eq,decide_eq_false_iff_not,Bool.and_eq_true,Bool.not_eq_true',swp_len,inR] at *);first | done | omega),trivial⟩ ?_
          revert hR;refine cd (fun hc4 hR=>?_) fun hc4 hR=>?_
          ·
            refine rg ⟨⟨by (have h9:=(hI3.2).2;intros;(try simp only [decide_eq_true_eq,decide_eq_false_iff_not,Bool.and_eq_true,Bool.not_eq_true',swp_len,inR] at *);first | done | omega),by (exact (hI3.2).me),by (have h9:=(hI3.2).2;intros;(try simp only [decide_eq_true_eq,decide_eq_false_iff_not,Bool.and_eq_true,Bool.not_eq_true',swp_len,inR] at *);first | done | omega)⟩,trivial⟩ ?_
            refine rg ⟨by (have h9:=(hk).2;intros;(try simp only [decide_eq_true_eq,decide_eq_false_iff_not,Bool.and_eq_true,Bool.not_eq_true',swp_len,inR] at *);first | done | omega),trivial⟩ ?_
            exact hK2 (v2.1 * 2,symMergeW (SrtW.mk v3.2.2) v3.1 (v3.1+v2.1) x1) (by (have h9:=(hI3.2).2;intros;(try simp only [decide_eq_true_eq,decide_eq_false_iff_not,Bool.and_eq_true,Bool.not_eq_true',swp_len,inR] at *);refine ⟨by ((try dsimp only);omega),(hI3.2).of (symMergeW_lk _ (hI3.2).me (by ((try dsimp only);omega)))⟩)) (by (have h9:=(hk).2;intros;(try simp only [decide_eq_true_eq,decide_eq_false_iff_not,Bool.and_eq_true,Bool.not_eq_true',swp_len,inR] at *);first | done | omega)) hR
          ·
            refine rg ⟨by (have h9:=(hk).2;intros;(try simp only [decide_eq_true_eq,decide_eq_false_iff_not,Bool.and_eq_true,Bool.not_eq_true',swp_len,inR] at *);first | done | omega),trivial⟩ ?_
            exact hK2 (v2.1 * 2,v3.2.2) (by (have h9:=(hI3.2).2;refine ⟨by ((try dsimp only);intros;(try simp only [decide_eq_true_eq,decide_eq_false_iff_not,Bool.and_eq_true,Bool.not_eq_true',swp_len,inR] at *);first | done | omega),hI3.2⟩)) (by (have h9:=(hk).2;intros;(try simp only [decide_eq_true_eq,decide_eq_false_iff_not,Bool.and_eq_true,Bool.not_eq_true',swp_len,inR] at *);first | done | omega)) hR
      ·
        exact congrArg (C154W x0 x1) hR
 exact FnM.go 57 Try.func154 (by kernel_rfl) (by kernel_rfl) (A154W x0 x1) (by kernel_rfl) (aux _ rfl)
def k154W (d:Nat) (ids:List Nat) (x0:SrtW) (x1:Int):Cl:=(hresM d ids (C154W x0 x1 (stableW x0 x1)),k3 (ok_sort_stable_func_W x0 x1))
noncomputable def kvoW (d:Nat) (ids:List Nat) (l:List Event):Cl:=(.resM d ids [(900000,.arr 6 l.length (rowOf (cEvent true) l)),(0,.var [.own 900000])] (.agg [.k Try.prog.globals.size 46,.vp 0 0,.int .u64 151]),k0 (P:=FnX Try.prog 152 [.ifc 46 (.own 900000)] [.arr 6 l.length (rowOf (cEvent true) l)] (.agg [.k Try.prog.globals.size 46,.vp 0 0,.int .u64 151]) [(900000,.arr 6 l.length (rowOf (cEvent true) l)),(0,.var [.own 900000])]) (FnX.valueOf (t:=46) (e:=49) (ti:=Try.t46) Try.func152 (by kernel_rfl) (by kernel_rfl) (by kernel_rfl) (by rfl) (by kernel_rfl) (by kernel_rfl)))
noncomputable def klnW (d:Nat) (ids:List Nat) (l:List Event):Cl:=(.resM d ids (enumB [.arr 6 l.length (rowOf (cEvent true) l),.var [.own 900000]] 900000) (.int .i64 l.length),k0 (P:=FnX Try.prog 155 [.agg [.k Try.prog.globals.size 46,.vp 900001 0,.int .u64 151]] [.arr 6 l.length (rowOf (cEvent true) l),.var [.own 900000]] (.int .i64 l.length) (enumB [.arr 6 l.length (rowOf (cEvent true) l),.var [.own 900000]] 900000)) (FnX.valLen (t:=46) (e:=49) (ti:=Try.t46) Try.func155 (by kernel_rfl) (by kernel_rfl) (by kernel_rfl) (by rfl) (by kernel_rfl) (by kernel_rfl) (by kernel_rfl) (by kernel_rfl)))
noncomputable def kspW (d:Nat) (ids:List Nat) (l:List Event):Cl:=(.resM d ids (enumB [.arr 6 l.length (rowOf (cEvent true) l)] 900000) (.clo 194 [.own 900000,.k Try.prog.globals.size 49]),k1 (P:=FnX Try.prog 153 [.ifc 46 (.own 900000)] [.arr 6 l.length (rowOf (cEvent true) l)] (.clo 194 [.own 900000,.k Try.prog.globals.size 49]) (enumB [.arr 6 l.length (rowOf (cEvent true) l)] 900000)) fun hn=>FnX.swapper (t:=46) (e:=49) (ti:=Try.t46) (ie:=Try.t49) (ke:=25) hn Try.func153 (by kernel_rfl) (by kernel_rfl) (by kernel_rfl) (by rfl) (by kernel_rfl) (by kernel_rfl) (by kernel_rfl) (fun w=>by kernel_rfl) (fun m=>⟨rfl,by decide⟩) (by kernel_rfl))

def C112W (x0:SrtW) (x1:Unit) (R:(List Event)):LV×List (Nat×BC):=(.tup [],[(900000,.arr 6 R.length (rowOf (cEvent true) R)),(900001,.var [.own 900000])])
def sliceW (x0:SrtW) (x1:Unit):(List Event):=stableW x0 (x0.l.length:Int)
noncomputable def A112W (x0:SrtW) (x1:Unit):Ann:=.reg 2 [] [(1,kvoW 7 [900000] x0.l),(1001,kspW 9 [900000] x0.l)] [1,4,5] [4,1007,900000,900001] [] [] [] [0,4] (.reg 1 [] [(4,klnW 14 [900000,1007] x0.l),(5,k154W 15 [900000,900001] x0 (x0.l.length:Int))] [] [900000,900001] [] [] [] [0,4] (rt [(900000,some 900000),(900001,some 900001)] (C112W x0 x1 (stableW x0 (x0.l.length:Int)))))
theorem sliceW_eq (x:SrtW):sliceW x ()=gStb (RW x) x.l x.l.length:=stableW_eq x _

theorem ok_sort_SliceStable_W (x0:SrtW) (x1:Unit) (hx:x0.l.length≤255) (hk:LkW x0 x0.l) (h2:2≤x0.l.length):FnMT Try.prog 112 [.ifc 46 (.own 900000),.clo 113 [.vp 900001 0]] [.arr 6 x0.l.length (rowOf (cEvent true) x0.l),.var [.own 900000]] (C112W x0 x1 (sliceW x0 x1)):=by
 have aux:∀ R,sliceW x0 x1=R→slim (C112W x0 x1 R) (A112W x0 x1) []:=by
  intro R hR
  refine rg ⟨trivial,by with_reducible assumption,trivial⟩ ?_
  refine rg ⟨trivial,⟨by with_reducible assumption,by with_reducible assumption,by (intros;omega)⟩,trivial⟩ ?_
  exact congrArg (C112W x0 x1) hR
 exact FnM.go 16 Try.func112 (by kernel_rfl) (by kernel_rfl) (A112W x0 x1) (by kernel_rfl) (aux _ rfl)
def k112W (d:Nat) (ids:List Nat) (x0:SrtW) (x1:Unit):Cl:=(hresM d ids (C112W x0 x1 (sliceW x0 x1)),k3 (ok_sort_SliceStable_W x0 x1))
structure SrtX where

  l:List Event
  deriving Inhabited

def C195X (x0:SrtX) (x1:Int) (x2:Int) (R:(List Event)):LV×List (Nat×BC):=(.tup [],[(900000,.arr 6 R.length (rowOf (cEvent true) R)),(900001,.var [.own 900000])])
def insSortX (x0:SrtX) (x1:Int) (x2:Int):(List Event):=loopW (fun (v1:Int) next=>x0.l) (0+1) (x1+1)
def D195Xb1 (x0:SrtX) (x1:Int) (x2:Int) (v1:Int):Dl:=⟨[(6,.int .i64 v1)],[]⟩
def A195Xb1 (x0:SrtX) (x1:Int) (x2:Int) (v1:Int):Ann:=r0 1 [1,2,3,6,12] [3,900000,900001] (cn (decide (v1<x2)) (.next 99 [] ⟨[],[]⟩) (rt [(900000,some 900000),(900001,some 900001)] (C195X x0 x1 x2 x0.l)))
def A195X (x0:SrtX) (x1:Int) (x2:Int):Ann:=r1 2 [1,2,3,6] [3,900000,900001] [pf (inR .i64 (x1+1))] [0] (.loop Int (D195Xb1 x0 x1 x2) [] [] [] (D195Xb1 x0 x1 x2 (x1+1)) (A195Xb1 x0 x1 x2))
theorem ok_sort_insertionSort_func_X (x0:SrtX) (x1:Int) (x2:Int) (hx:x0.l.length≤1) (hab:x1=0∧x2=x0.l.length):FnMT Try.prog 195 [.agg [.clo 113 [.vp 900001 0],.fv],.int .i64 x1,.int .i64 x2] [.arr 6 x0.l.length (rowOf (cEvent true) x0.l),.var [.own 900000]] (C195X x0 x1 x2 (insSortX x0 x1 x2)):=by
 have aux:∀ R,insSortX x0 x1 x2=R→slim (C195X x0 x1 x2 R) (A195X x0 x1 x2) []:=by
  intro R hR
  refine rg ⟨by (simp only [decide_eq_true_eq,decide_eq_false_iff_not,inR] at *;omega),trivial⟩ ?_
  revert hR;refine lW (fun v=>x1+1≤v) (fun v=>0) (by (intros;omega)) (Nat.lt_succ_self _) rfl fun m1 v1 F1 hI1 hM1 hR hK1=>?_
  refine rg trivial ?_
  refine ⟨fun hq=>absurd hq (by simp only [decide_eq_true_eq,decide_eq_false_iff_not,Bool.not_eq_true,Bool.not_eq_false];omega),fun hc1=>?_⟩
  exact congrArg (C195X x0 x1 x2) hR
 exact FnM.go 35 Try.func195 (by kernel_rfl) (by kernel_rfl) (A195X x0 x1 x2) (by kernel_rfl) (aux _ rfl)
def k195X (d:Nat) (ids:List Nat) (x0:SrtX) (x1:Int) (x2:Int):Cl:=(hresM d ids (C195X x0 x1 x2 (insSortX x0 x1 x2)),k2 (ok_sort_insertionSort_func_X x0 x1 x2))
def C154X (x0:SrtX) (x1:Int) (R:(List Event)):LV×List (Nat×BC):=(.tup [],[(900000,.arr 6 R.length (rowOf (cEvent true) R)),(900001,.var [.own 900000])])
def stableX (x0:SrtX) (x1:Int):(List Event):=loopW (fun (v1:Int×Int) next=>loopW (fun (v2:Int) next=>insSortX x0 v1.1 x1) (0+1) 20) (0+1) (0,20)
def D154Xb1 (x0:SrtX) (x1:Int) (v1:Int×Int):Dl:=⟨[(5,.int .i64 v1.1),(6,.int .i64 v1.2)],[]⟩
def D154Xb2 (x0:SrtX) (x1:Int) (v1:Int×Int) (v2:Int):Dl:=⟨[(4,.int .i64 v2)],[]⟩
def A154Xb2 (x0:SrtX) (x1:Int) (v1:Int×Int) (v2:Int):Ann:=r0 1 [1,2,4,26] [2,900000,900001] (cn (decide (v2<x1)) (.next 99 [] ⟨[],[]⟩) (rt [(900000,some 900000),(900001,some 900001)] (C154X x0 x1 (insSortX x0 v1.1 x1))))
def A154Xb1 (x0:SrtX) (x1:Int) (v1:Int×Int):Ann:=r0 1 [1,2,4,5,6,11] [2,900000,900001] (cn (decide (v1.2≤x1)) (.next 99 [] ⟨[],[]⟩) (.reg 1 [] [(3,k195X 23 [900000,900001] x0 v1.1 x1)] [1,2,4] [2,900000,900001] [] [] [] [0] (.loop Int (D154Xb2 x0 x1 v1) [] [] [] (D154Xb2 x0 x1 v1 20) (A154Xb2 x0 x1 v1))))
def A154X (x0:SrtX) (x1:Int):Ann:=r0 3 [1,2,4,5,6] [2,900000,900001] (.loop (Int×Int) (D154Xb1 x0 x1) [] [] [] (D154Xb1 x0 x1 (0,20)) (A154Xb1 x0 x1))
theorem ok_sort_stable_func_X (x0:SrtX) (x1:Int) (hx:x0.l.length≤1) (hn:x1=x0.l.length):FnMT Try.prog 154 [.agg [.clo 113 [.vp 900001 0],.fv],.int .i64 x1] [.arr 6 x0.l.length (rowOf (cEvent true) x0.l),.var [.own 900000]] (C154X x0 x1 (stableX x0 x1)):=by
 have aux:∀ R,stableX x0 x1=R→slim (C154X x0 x1 R) (A154X x0 x1) []:=by
  intro R hR
  refine rg trivial ?_
  revert hR;refine lW (fun v=>v.1=0∧v.2=20) (fun v=>0) (by (intros;omega)) (Nat.lt_succ_self _) rfl fun m1 v1 F1 hI1 hM1 hR hK1=>?_
  refine rg trivial ?_
  refine ⟨fun hq=>absurd hq (by simp only [decide_eq_true_eq,decide_eq_false_iff_not,Bool.not_eq_true,Bool.not_eq_false];omega),fun hc1=>?_⟩
  refine rg ⟨⟨by with_reducible assumption,by (intros;omega)⟩,trivial⟩ ?_
  revert hR;refine lW (fun v=>v=20) (fun v=>0) (by (intros;omega)) (Nat.lt_succ_self _) rfl fun m2 v2 F2 hI2 hM2 hR hK2=>?_
  refine rg trivial ?_
  refine ⟨fun hq=>absurd hq (by simp only [decide_eq_true_eq,decide_eq_false_iff_not,Bool.not_eq_true,Bool.not_eq_false];omega),fun hc2=>?_⟩
  exact congrArg (C154X x0 x1) hR
 exact FnM.go 57 Try.func154 (by kernel_rfl) (by kernel_rfl) (A154X x0 x1) (by kernel_rfl) (aux _ rfl)
def k154X (d:Nat) (ids:List Nat) (x0:SrtX) (x1:Int):Cl:=(hresM d ids (C154X x0 x1 (stableX x0 x1)),k2 (ok_sort_stable_func_X x0 x1))
noncomputable def kvoX (d:Nat) (ids:List Nat) (l:List Event):Cl:=(.resM d ids [(900000,.arr 6 l.length (rowOf (cEvent true) l)),(0,.var [.own 900000])] (.agg [.k Try.prog.globals.size 46,.vp 0 0,.int .u64 151]),k0 (P:=FnX Try.prog 152 [.ifc 46 (.own 900000)] [.arr 6 l.length (rowOf (cEvent true) l)] (.agg [.k Try.prog.globals.size 46,.vp 0 0,.int .u64 151]) [(900000,.arr 6 l.length (rowOf (cEvent true) l)),(0,.var [.own 900000])]) (FnX.valueOf (t:=46) (e:=49) (ti:=Try.t46) Try.func152 (by kernel_rfl) (by kernel_rfl) (by kernel_rfl) (by rfl) (by kernel_rfl) (by kernel_rfl)))
noncomputable def klnX (d:Nat) (ids:List Nat) (l:List Event):Cl:=(.resM d ids (enumB [.arr 6 l.length (rowOf (cEvent true) l),.var [.own 900000]] 900000) (.int .i64 l.length),k0 (P:=FnX Try.prog 155 [.agg [.k Try.prog.globals.size 46,.vp 900001 0,.int .u64 151]] [.arr 6 l.length (rowOf (cEvent true) l),.var [.own 900000]] (.int .i64 l.length) (enumB [.arr 6 l.length (rowOf (cEvent true) l),.var [.own 900000]] 900000)) (FnX.valLen (t:=46) (e:=49) (ti:=Try.t46) Try.func155 (by kernel_rfl) (by kernel_rfl) (by kernel_rfl) (by rfl) (by kernel_rfl) (by kernel_rfl) (by kernel_rfl) (by kernel_rfl)))
noncomputable def kspX (d:Nat) (ids:List Nat) (l:List Event):Cl:=(.resM d ids (enumB [.arr 6 l.length (rowOf (cEvent true) l)] 900000) .fv,k1 (P:=FnX Try.prog 153 [.ifc 46 (.own 900000)] [.arr 6 l.length (rowOf (cEvent true) l)] .fv (enumB [.arr 6 l.length (rowOf (cEvent true) l)] 900000)) fun hn=>FnX.swapper0 (t:=46) (e:=49) (ti:=Try.t46) (ie:=Try.t49) (ke:=25) (g0:=186) (g1:=187) hn Try.func153 (by kernel_rfl) (by kernel_rfl) (by kernel_rfl) (by rfl) (by kernel_rfl) (by kernel_rfl) (by kernel_rfl) (fun w=>by kernel_rfl) (by kernel_rfl) (by kernel_rfl))

def C112X (x0:SrtX) (x1:Unit) (R:(List Event)):LV×List (Nat×BC):=(.tup [],[(900000,.arr 6 R.length (rowOf (cEvent true) R)),(900001,.var [.own 900000])])
def sliceX (x0:SrtX) (x1:Unit):(List Event):=stableX x0 (x0.l.length:Int)
noncomputable def A112X (x0:SrtX) (x1:Unit):Ann:=.reg 2 [] [(1,kvoX 7 [900000] x0.l),(1001,kspX 9 [900000] x0.l)] [1,4,5] [4,1007,900000,900001] [] [] [] [0,4] (.reg 1 [] [(4,klnX 14 [900000,1007] x0.l),(5,k154X 15 [900000,900001] x0 (x0.l.length:Int))] [] [900000,900001] [] [] [] [0,4] (rt [(900000,some 900000),(900001,some 900001)] (C112X x0 x1 (stableX x0 (x0.l.length:Int)))))
theorem sliceX_eq (x:SrtX):sliceX x ()=x.l:=rfl

theorem ok_sort_SliceStable_X (x0:SrtX) (x1:Unit) (hx:x0.l.length≤1):FnMT Try.prog 112 [.ifc 46 (.own 900000),.clo 113 [.vp 900001 0]] [.arr 6 x0.l.length (rowOf (cEvent true) x0.l),.var [.own 900000]] (C112X x0 x1 (sliceX x0 x1)):=by
 have aux:∀ R,sliceX x0 x1=R→slim (C112X x0 x1 R) (A112X x0 x1) []:=by
  intro R hR
  refine rg ⟨trivial,by with_reducible assumption,trivial⟩ ?_
  refine rg ⟨trivial,⟨by with_reducible assumption,by (intros;omega)⟩,trivial⟩ ?_
  exact congrArg (C112X x0 x1) hR
 exact FnM.go 16 Try.func112 (by kernel_rfl) (by kernel_rfl) (A112X x0 x1) (by kernel_rfl) (aux _ rfl)
def k112X (d:Nat) (ids:List Nat) (x0:SrtX) (x1:Unit):Cl:=(hresM d ids (C112X x0 x1 (sliceX x0 x1)),k1 (ok_sort_SliceStable_X x0 x1))
end Go.Proofs.Ytepefimocflfkaa
