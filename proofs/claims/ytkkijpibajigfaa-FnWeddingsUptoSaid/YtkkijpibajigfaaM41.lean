import Derived.Test.YtkkijpibajigfaaM103
set_option maxHeartbeats 4000000
set_option linter.unusedSimpArgs false
set_option linter.unusedVariables false
namespace Go.Proofs.Ytkkijpibajigfaa
open Go Go.Lite Go.Proofs
def C45 (R : Bool) : LV × List (Nat × BC):=(.bool R,[])
def specMay (x0 : Family) (x1 : Law) (x2 : Int) (x3 : Int) (x4 : Int) : Bool:=(((specIsLaw x1) && (l1Has x0 x2)) && (l1Has x0 x3)) && (decide ((((specImp x0 x1 x2 x3 x4).length : Nat) : Int) = 0))
def A45 (x0 : Family) (x1 : Law) (x2 : Int) (x3 : Int) (x4 : Int) : Ann:=.reg 2 [] [(1001,k42 x1),(1005,cg (specIsLaw x1) (k60 x0 x2)),(1010,cg ((specIsLaw x1) && (l1Has x0 x2)) (k60 x0 x3)),(1018,cg (((specIsLaw x1) && (l1Has x0 x2)) && (l1Has x0 x3)) (k86 x0 x1 x2 x3 x4))] [10] [] [specIsLaw x1,(specIsLaw x1) && (l1Has x0 x2),((specIsLaw x1) && (l1Has x0 x2)) && (l1Has x0 x3)] [] [] [0,1,1,4,1,5,5,8,5,9,9,9,9,9,12,9,9,9] (rt [] (C45 ((((specIsLaw x1) && (l1Has x0 x2)) && (l1Has x0 x3)) && (decide ((((specImp x0 x1 x2 x3 x4).length : Nat) : Int) = 0)))))
theorem ok_spec_MayMarry (x0 : Family) (x1 : Law) (x2 : Int) (x3 : Int) (x4 : Int) (hx : x0.people.length ≤ 1048576) (hu : x0.unions.length ≤ 1048576) (hn : ∀ p ∈ x0.people, p.name.length ≤ 1048576) : FnT Try.prog 45 [.agg (cFamily false x0), .agg (cLaw false x1), .int .i64 x2, .int .i64 x3, .int .i64 x4] (C45 (specMay x0 x1 x2 x3 x4)) := by
  have aux : ∀ R, specMay x0 x1 x2 x3 x4 = R → slim (C45 R) (A45 x0 x1 x2 x3 x4) [] := by
    intro R hR
    refine rg ⟨trivial,fun hg0=>⟨by trivial,by trivial,by trivial⟩,fun hg0=>⟨by trivial,by trivial,by trivial⟩,fun hg0=>⟨by trivial,by trivial,by trivial⟩,trivial⟩ ?_
    exact congrArg C45 hR
  exact Fn.go 33 Try.func45 (by kernel_rfl) (by kernel_rfl) (by simp [C45,Frs,FrsL]) (A45 x0 x1 x2 x3 x4) (by kernel_rfl) (aux _ rfl)
def k45 (x0 : Family) (x1 : Law) (x2 : Int) (x3 : Int) (x4 : Int) : Cl:=(hres (C45 (specMay x0 x1 x2 x3 x4)),k3 (ok_spec_MayMarry x0 x1 x2 x3 x4))
def C25 (R : (List Int)) : LV × List (Nat × BC):=(.own 0,[(0,.arr 1 R.length (rowOf (cInt .i64) R))])
def specPartners (x0 : Family) (x1 : Law) (x2 : Int) (x3 : Int) : (List Int):=bif ((!(specIsLaw x1)) || (!(l1Has x0 x2))) then ([] : List Int) else (loopN (fun i1 (v1 : (List Int)) next=>bif (((decide (((x0.people.getD x2.toNat default).sex) = 1)) && (specMay x0 x1 x2 ((i1 : Nat) : Int) x3)) || ((decide (((x0.people.getD x2.toNat default).sex) = 2)) && (specMay x0 x1 ((i1 : Nat) : Int) x2 x3))) then (next (v1 ++ [((i1 : Nat) : Int)])) else (next v1)) (fun (v1 : (List Int))=>v1) x0.people.length 0 ([] : List Int))
def D25b1 (x0 : Family) (x1 : Law) (x2 : Int) (x3 : Int) (i1 : Nat) (v1 : (List Int)) : Dl:=⟨[(24,.int .i64 ((i1 : Nat) : Int)),(9,.own 20009)],[(20009,.arr 1 v1.length (rowOf (cInt .i64) v1))]⟩
def A25b1 (x0 : Family) (x1 : Law) (x2 : Int) (x3 : Int) (i1 : Nat) (v1 : (List Int)) : Ann:=r0 1 [2,3,4,5,8,9,23,24,25] [4,5,20009] (cn (decide (((i1 : Nat) : Int) < ((x0.people.length : Nat) : Int))) (.reg 2 [] [(1013,cg (decide (((x0.people.getD x2.toNat default).sex) = 1)) (k45 x0 x1 x2 ((i1 : Nat) : Int) x3)),(1029,cg ((!((decide (((x0.people.getD x2.toNat default).sex) = 1)) && (specMay x0 x1 x2 ((i1 : Nat) : Int) x3))) && (decide (((x0.people.getD x2.toNat default).sex) = 2))) (k45 x0 x1 ((i1 : Nat) : Int) x2 x3))] [2,3,4,5,8,9,10,23,24,58] [4,5,20009] [decide (((x0.people.getD x2.toNat default).sex) = 1),!((decide (((x0.people.getD x2.toNat default).sex) = 1)) && (specMay x0 x1 x2 ((i1 : Nat) : Int) x3)),(!((decide (((x0.people.getD x2.toNat default).sex) = 1)) && (specMay x0 x1 x2 ((i1 : Nat) : Int) x3))) && (decide (((x0.people.getD x2.toNat default).sex) = 2)),(decide (((x0.people.getD x2.toNat default).sex) = 1)) && (specMay x0 x1 x2 ((i1 : Nat) : Int) x3)] [pf (0 ≤ (x2 : Int) ∧ (x2 : Int) < ((x0.people.length : Nat) : Int)),gt (!((decide (((x0.people.getD x2.toNat default).sex) = 1)) && (specMay x0 x1 x2 ((i1 : Nat) : Int) x3))) (pf (0 ≤ (x2 : Int) ∧ (x2 : Int) < ((x0.people.length : Nat) : Int))),gt (!((decide (((x0.people.getD x2.toNat default).sex) = 1)) && (specMay x0 x1 x2 ((i1 : Nat) : Int) x3))) (gt (decide (((x0.people.getD x2.toNat default).sex) = 2)) (pf (((!((decide (((x0.people.getD x2.toNat default).sex) = 1)) && (specMay x0 x1 x2 ((i1 : Nat) : Int) x3))) && (decide (((x0.people.getD x2.toNat default).sex) = 2))) = true)))] [] [0,1,1,1,1,1,12,1,5,5,5,4,5,5,5,5,9,9,9,9,9,16,5,8,14] (cn (((decide (((x0.people.getD x2.toNat default).sex) = 1)) && (specMay x0 x1 x2 ((i1 : Nat) : Int) x3)) || ((decide (((x0.people.getD x2.toNat default).sex) = 2)) && (specMay x0 x1 ((i1 : Nat) : Int) x2 x3))) (.reg 1 [] [(2,bsC 61 (cInt .i64) ([((i1 : Nat) : Int)] : List Int)),(3,ap1 62 (cInt .i64) 8 v1 ((i1 : Nat) : Int))] [2,3,4,5,8,9,23,24] [4,5,62] [] [] [] [0,4] (r1 1 [2,3,4,5,8,9,23,24] [4,5,62] [pf (inR .i64 (((i1 : Nat) : Int) + 1))] [0] (.next 0 [(20009,some 62)] (D25b1 x0 x1 x2 x3 (i1 + 1) (v1 ++ [((i1 : Nat) : Int)]))))) (r1 1 [2,3,4,5,8,9,23,24] [4,5,20009] [pf (inR .i64 (((i1 : Nat) : Int) + 1))] [0] (.next 0 [(20009,some 20009)] (D25b1 x0 x1 x2 x3 (i1 + 1) v1))))) (r0 1 [8] [20009] (rt [(0,some 20009)] (C25 v1))))
def A25 (x0 : Family) (x1 : Law) (x2 : Int) (x3 : Int) : Ann:=r0 1 [2,3,4,5,8] [4,5] (.reg 1 [] [(1,k42 x1),(6,cg (!(!(specIsLaw x1))) (k60 x0 x2))] [2,3,4,5,8,19] [4,5] [!(!(specIsLaw x1)),!(specIsLaw x1)] [] [] [0,1,1,4,1,6] (cn ((!(specIsLaw x1)) || (!(l1Has x0 x2))) (r0 1 [2,3,4,5,8] [4,5] (rt [(0,none)] (C25 ([] : List Int)))) (.reg 1 [] [(0,bsC 20 (cInt .i64) ([] : List Int))] [2,3,4,5,8,9] [4,5,20] [] [] [] [0] (r0 1 [2,3,4,5,8,9,23,24] [4,5,20] (lp (D25b1 x0 x1 x2 x3) [] [20] [(20009,some 20)] (D25b1 x0 x1 x2 x3 0 ([] : List Int)) (A25b1 x0 x1 x2 x3))))))
theorem ok_spec_PartnersAllowed (x0 : Family) (x1 : Law) (x2 : Int) (x3 : Int) (hx : x0.people.length ≤ 1048576) (hu : x0.unions.length ≤ 1048576) (hn : ∀ p ∈ x0.people, p.name.length ≤ 1048576) : FnT Try.prog 25 [.agg (cFamily false x0), .agg (cLaw false x1), .int .i64 x2, .int .i64 x3] (C25 (specPartners x0 x1 x2 x3)) := by
  have aux : ∀ R, specPartners x0 x1 x2 x3 = R → slim (C25 R) (A25 x0 x1 x2 x3) [] := by
    intro R hR
    refine rg trivial ?_
    refine rg ⟨trivial,fun hg0=>⟨by trivial,by trivial,by trivial⟩,trivial⟩ ?_
    revert hR;refine cd (fun hc1 hR=>?_) fun hc1 hR=>?_
    ·
      refine rg trivial ?_
      exact congrArg C25 hR
    ·
      refine rg ⟨trivial,trivial⟩ ?_
      refine rg trivial ?_
      revert hR;refine lN (fun i v=>v.length ≤ i) (by trivial) rfl fun i1 v1 F1 hn1 hI1 hR hK1=>?_
      refine rg trivial ?_
      refine ⟨fun hc2=>?_,fun hc2=>?_⟩
      · have hii1 : i1 < x0.people.length:=by have:=of_decide_eq_true hc2;omega
        replace hR:=loopN_step hR hii1
        refine rg ⟨by (have h9:=par_pre hc1;first | exact h9.1 | exact h9.2.1 | exact h9.2.2.1 | exact h9.2.2.2 | omega),by (have h9:=par_pre hc1;first | exact h9.1 | exact h9.2.1 | exact h9.2.2.1 | exact h9.2.2.2 | omega),by ((try clear hR hK1);intros;(try simp only [decide_eq_true_eq,decide_eq_false_iff_not,Bool.or_eq_true,Bool.and_eq_true,or_f_iff,not_f_iff,not_t_iff,Bool.not_eq_true',inR] at *);(repeat' apply And.intro) <;> (intros;omega)),fun hg0=>⟨by trivial,by trivial,by trivial⟩,fun hg0=>⟨by trivial,by trivial,by trivial⟩,trivial⟩ ?_
        revert hR;refine cd (fun hc3 hR=>?_) fun hc3 hR=>?_
        ·
          refine rg ⟨trivial,by omega,trivial⟩ ?_
          refine rg ⟨by ( intros;simp only [inR];omega),trivial⟩ ?_
          exact hK1 (v1 ++ [((i1 : Nat) : Int)]) hii1 (by ((try simp only [decide_eq_true_eq,decide_eq_false_iff_not,List.length_append,List.length_set,List.length_cons,List.length_nil,List.length_replicate] at *);omega)) hR
        ·
          refine rg ⟨by ( intros;simp only [inR];omega),trivial⟩ ?_
          exact hK1 v1 hii1 (by (intros;omega)) hR
      · obtain rfl : i1 = x0.people.length:=by have:=of_decide_eq_false hc2;omega
        replace hR:=loopN_end hR (Nat.lt_irrefl _)
        refine rg trivial ?_
        exact congrArg C25 hR
  exact Fn.go 65 Try.func25 (by kernel_rfl) (by kernel_rfl) (by simp [C25,Frs,FrsL,FrsB,rowOf,cInt,cBool,cStr,cSl,FrsL_app,cPerson,cUnion,cFamily,cLaw]) (A25 x0 x1 x2 x3) (by kernel_rfl) (aux _ rfl)
def k25 (x0 : Family) (x1 : Law) (x2 : Int) (x3 : Int) : Cl:=(hres (C25 (specPartners x0 x1 x2 x3)),k3 (ok_spec_PartnersAllowed x0 x1 x2 x3))
def C24 (R : (List Int)) : LV × List (Nat × BC):=(.own 0,[(0,.arr 1 R.length (rowOf (cInt .i64) R))])
def implPartners (x0 : Family) (x1 : Law) (x2 : Int) (x3 : Int) : (List Int):=bif ((!(implHas x0 [x2])) || (!(implIsLaw x1))) then ([] : List Int) else (loopN (fun i1 (v1 : (List Int)) next=>bif (decide (((x0.people.getD x2.toNat default).sex) = 2)) then (bif (decide ((((impediments x0 x1 ((i1 : Nat) : Int) x2 x3).length : Nat) : Int) = 0)) then (next (v1 ++ [((i1 : Nat) : Int)])) else (next v1)) else (bif (decide ((((impediments x0 x1 x2 ((i1 : Nat) : Int) x3).length : Nat) : Int) = 0)) then (next (v1 ++ [((i1 : Nat) : Int)])) else (next v1))) (fun (v1 : (List Int))=>v1) x0.people.length 0 ([] : List Int))
def D24b1 (x0 : Family) (x1 : Law) (x2 : Int) (x3 : Int) (i1 : Nat) (v1 : (List Int)) : Dl:=⟨[(26,.int .i64 ((i1 : Nat) : Int)),(9,.own 20009)],[(20009,.arr 1 v1.length (rowOf (cInt .i64) v1))]⟩
def A24b1 (x0 : Family) (x1 : Law) (x2 : Int) (x3 : Int) (i1 : Nat) (v1 : (List Int)) : Ann:=r0 1 [2,3,4,5,8,9,25,26,27] [4,5,20009] (cn (decide (((i1 : Nat) : Int) < ((x0.people.length : Nat) : Int))) (r0 2 [2,3,4,5,8,9,10,11,12,25,26] [4,5,20009] (r1 1 [2,3,4,5,8,9,10,11,12,25,26,37] [4,5,20009] [pf (0 ≤ (x2 : Int) ∧ (x2 : Int) < ((x0.people.length : Nat) : Int))] [0] (cn (decide (((x0.people.getD x2.toNat default).sex) = 2)) (r0 1 [2,3,4,5,8,9,10,11,12,25,26] [4,5,20009] (.reg 1 [] [(5,k51 x0 x1 ((i1 : Nat) : Int) x2 x3)] [2,3,4,5,8,9,10,25,26,47] [4,5,20009] [] [] [] [0] (cn (decide ((((impediments x0 x1 ((i1 : Nat) : Int) x2 x3).length : Nat) : Int) = 0)) (.reg 1 [] [(2,bsC 50 (cInt .i64) ([((i1 : Nat) : Int)] : List Int)),(3,ap1 51 (cInt .i64) 8 v1 ((i1 : Nat) : Int))] [2,3,4,5,8,9,25,26] [4,5,51] [] [] [] [0,4] (r1 1 [2,3,4,5,8,9,25,26] [4,5,51] [pf (inR .i64 (((i1 : Nat) : Int) + 1))] [0] (.next 0 [(20009,some 51)] (D24b1 x0 x1 x2 x3 (i1 + 1) (v1 ++ [((i1 : Nat) : Int)]))))) (r1 1 [2,3,4,5,8,9,25,26] [4,5,20009] [pf (inR .i64 (((i1 : Nat) : Int) + 1))] [0] (.next 0 [(20009,some 20009)] (D24b1 x0 x1 x2 x3 (i1 + 1) v1)))))) (.reg 1 [] [(5,k51 x0 x1 x2 ((i1 : Nat) : Int) x3)] [2,3,4,5,8,9,10,25,26,47] [4,5,20009] [] [] [] [0] (cn (decide ((((impediments x0 x1 x2 ((i1 : Nat) : Int) x3).length : Nat) : Int) = 0)) (.reg 1 [] [(2,bsC 50 (cInt .i64) ([((i1 : Nat) : Int)] : List Int)),(3,ap1 51 (cInt .i64) 8 v1 ((i1 : Nat) : Int))] [2,3,4,5,8,9,25,26] [4,5,51] [] [] [] [0,4] (r1 1 [2,3,4,5,8,9,25,26] [4,5,51] [pf (inR .i64 (((i1 : Nat) : Int) + 1))] [0] (.next 0 [(20009,some 51)] (D24b1 x0 x1 x2 x3 (i1 + 1) (v1 ++ [((i1 : Nat) : Int)]))))) (r1 1 [2,3,4,5,8,9,25,26] [4,5,20009] [pf (inR .i64 (((i1 : Nat) : Int) + 1))] [0] (.next 0 [(20009,some 20009)] (D24b1 x0 x1 x2 x3 (i1 + 1) v1)))))))) (r0 1 [8] [20009] (rt [(0,some 20009)] (C24 v1))))
def A24 (x0 : Family) (x1 : Law) (x2 : Int) (x3 : Int) : Ann:=r0 1 [2,3,4,5,8] [4,5] (.reg 1 [] [(2,bsC 15 (cInt .i64) ([x2] : List Int)),(3,k59 x0 [x2]),(7,cg (!(!(implHas x0 [x2]))) (k50 x1))] [2,3,4,5,8,22] [4,5] [!(!(implHas x0 [x2])),!(implHas x0 [x2])] [] [] [0,4,1,8,1,6] (cn ((!(implHas x0 [x2])) || (!(implIsLaw x1))) (r0 1 [2,3,4,5,8] [4,5] (rt [(0,none)] (C24 ([] : List Int)))) (r0 1 [2,3,4,5,8,9] [4,5] (r0 1 [2,3,4,5,8,9,25,26] [4,5] (lp (D24b1 x0 x1 x2 x3) [] [] [(20009,none)] (D24b1 x0 x1 x2 x3 0 ([] : List Int)) (A24b1 x0 x1 x2 x3))))))
theorem ok_impl_PartnersAllowed (x0 : Family) (x1 : Law) (x2 : Int) (x3 : Int) (hx : x0.people.length ≤ 1048576) (hu : x0.unions.length ≤ 1048576) (hn : ∀ p ∈ x0.people, p.name.length ≤ 1048576) : FnT Try.prog 24 [.agg (cFamily false x0), .agg (cLaw false x1), .int .i64 x2, .int .i64 x3] (C24 (implPartners x0 x1 x2 x3)) := by
  have aux : ∀ R, implPartners x0 x1 x2 x3 = R → slim (C24 R) (A24 x0 x1 x2 x3) [] := by
    intro R hR
    refine rg trivial ?_
    refine rg ⟨trivial,⟨by trivial,by trivial,by trivial,by ((try simp only [decide_eq_true_eq,decide_eq_false_iff_not,List.length_append,List.length_set,List.length_cons,List.length_nil,List.length_replicate] at *);omega)⟩,fun hg0=>trivial,trivial⟩ ?_
    revert hR;refine cd (fun hc1 hR=>?_) fun hc1 hR=>?_
    ·
      refine rg trivial ?_
      exact congrArg C24 hR
    ·
      refine rg trivial ?_
      refine rg trivial ?_
      revert hR;refine lN (fun i v=>v.length ≤ i) (by trivial) rfl fun i1 v1 F1 hn1 hI1 hR hK1=>?_
      refine rg trivial ?_
      refine ⟨fun hc2=>?_,fun hc2=>?_⟩
      · have hii1 : i1 < x0.people.length:=by have:=of_decide_eq_true hc2;omega
        replace hR:=loopN_step hR hii1
        refine rg trivial ?_
        refine rg ⟨by (have h9:=par_pre2 hc1;first | exact h9.1 | exact h9.2.1 | exact h9.2.2.1 | exact h9.2.2.2 | omega),trivial⟩ ?_
        revert hR;refine cd (fun hc3 hR=>?_) fun hc3 hR=>?_
        ·
          refine rg trivial ?_
          refine rg ⟨⟨by trivial,by (have h9:=par_pre2 hc1;first | exact h9.1 | exact h9.2.1 | exact h9.2.2.1 | exact h9.2.2.2 | omega),by trivial,by (intros;omega),by (have h9:=par_pre2 hc1;first | exact h9.1 | exact h9.2.1 | exact h9.2.2.1 | exact h9.2.2.2 | omega),by (have h9:=par_pre2 hc1;first | exact h9.1 | exact h9.2.1 | exact h9.2.2.1 | exact h9.2.2.2 | omega)⟩,trivial⟩ ?_
          revert hR;refine cd (fun hc4 hR=>?_) fun hc4 hR=>?_
          ·
            refine rg ⟨trivial,by omega,trivial⟩ ?_
            refine rg ⟨by ( intros;simp only [inR];omega),trivial⟩ ?_
            exact hK1 (v1 ++ [((i1 : Nat) : Int)]) hii1 (by ((try simp only [decide_eq_true_eq,decide_eq_false_iff_not,List.length_append,List.length_set,List.length_cons,List.length_nil,List.length_replicate] at *);omega)) hR
          ·
            refine rg ⟨by ( intros;simp only [inR];omega),trivial⟩ ?_
            exact hK1 v1 hii1 (by (intros;omega)) hR
        ·
          refine rg ⟨⟨by trivial,by (have h9:=par_pre2 hc1;first | exact h9.1 | exact h9.2.1 | exact h9.2.2.1 | exact h9.2.2.2 | omega),by trivial,by (have h9:=par_pre2 hc1;first | exact h9.1 | exact h9.2.1 | exact h9.2.2.1 | exact h9.2.2.2 | omega),by (intros;omega),by (have h9:=par_pre2 hc1;first | exact h9.1 | exact h9.2.1 | exact h9.2.2.1 | exact h9.2.2.2 | omega)⟩,trivial⟩ ?_
          revert hR;refine cd (fun hc5 hR=>?_) fun hc5 hR=>?_
          ·
            refine rg ⟨trivial,by omega,trivial⟩ ?_
            refine rg ⟨by ( intros;simp only [inR];omega),trivial⟩ ?_
            exact hK1 (v1 ++ [((i1 : Nat) : Int)]) hii1 (by ((try simp only [decide_eq_true_eq,decide_eq_false_iff_not,List.length_append,List.length_set,List.length_cons,List.length_nil,List.length_replicate] at *);omega)) hR
          ·
            refine rg ⟨by ( intros;simp only [inR];omega),trivial⟩ ?_
            exact hK1 v1 hii1 (by (intros;omega)) hR
      · obtain rfl : i1 = x0.people.length:=by have:=of_decide_eq_false hc2;omega
        replace hR:=loopN_end hR (Nat.lt_irrefl _)
        refine rg trivial ?_
        exact congrArg C24 hR
  exact Fn.go 54 Try.func24 (by kernel_rfl) (by kernel_rfl) (by simp [C24,Frs,FrsL,FrsB,rowOf,cInt,cBool,cStr,cSl,FrsL_app,cPerson,cUnion,cFamily,cLaw]) (A24 x0 x1 x2 x3) (by kernel_rfl) (aux _ rfl)
def k24 (x0 : Family) (x1 : Law) (x2 : Int) (x3 : Int) : Cl:=(hres (C24 (implPartners x0 x1 x2 x3)),k3 (ok_impl_PartnersAllowed x0 x1 x2 x3))
theorem may_of {x : Family} {l : Law} {p q : Int} (hl : specIsLaw l = true) (hf : specIsFamily x = true) (hp : 0 ≤ p ∧ p < x.people.length) (hq : 0 ≤ q ∧ q < x.people.length) (y : Int) : specMay x l p q y = decide ((((impediments x l p q y).length : Nat) : Int) = 0) := by
  have h1:=(l1Has_iff x p).2 ⟨hp,hf⟩
  have h2:=(l1Has_iff x q).2 ⟨hq,hf⟩
  unfold specMay
  rw [specImp_of (by rw [hl,h1,h2];rfl),hl,h1,h2]
  rfl
theorem partners_eq (x : Family) (l : Law) (p y : Int) : implPartners x l p y = specPartners x l p y := by
  unfold implPartners specPartners
  rw [has_law1]
  cases h : ((!(specIsLaw l)) || (!(l1Has x p)))
  · obtain ⟨hf,hp,_⟩:=par_pre h
    have hl : specIsLaw l = true:=by simp only [or_f_iff,not_f_iff] at h;exact h.1
    simp only [cond_false]
    refine loopN_rel0 (fun i v u=>v = u) Eq rfl (fun i v u n1 n2 hi hr hn=>?_) (fun v u hr=>hr)
    have hq : 0 ≤ ((i : Nat) : Int) ∧ ((i : Nat) : Int) < x.people.length:=by omega
    have hs:=(fam_p hf (k:=p.toNat) (by omega)).sex
    rw [may_of hl hf hp hq,may_of hl hf hq hp]
    by_cases c : (x.people.getD p.toNat default).sex = 2
    · rw [decide_eq_true c,decide_eq_false (show ¬ (x.people.getD p.toNat default).sex = 1 by omega)]
      simp only [cond_true,Bool.false_and,Bool.false_or,Bool.true_and]
      cases decide ((((impediments x l ((i : Nat) : Int) p y).length : Nat) : Int) = 0)
      · exact hn _ _ hr
      · exact hn _ _ (by rw [hr])
    · rw [decide_eq_false c,decide_eq_true (show (x.people.getD p.toNat default).sex = 1 by omega)]
      simp only [cond_false,Bool.false_and,Bool.or_false,Bool.true_and]
      cases decide ((((impediments x l p ((i : Nat) : Int) y).length : Nat) : Int) = 0)
      · exact hn _ _ hr
      · exact hn _ _ (by rw [hr])
  · rfl
theorem specPartners_len (x : Family) (l : Law) (p y : Int) : (specPartners x l p y).length ≤ x.people.length := by
  unfold specPartners
  exact cond_both (p:=fun (r : List Int)=>r.length ≤ x.people.length) (fun _=>by simp) (fun _=>filterLoop_len)
def C142 (R : Family) : LV × List (Nat × BC):=(.agg [.own 0,.own 1],[(0,.arr 6 R.people.length (rowOf (cPerson true) R.people)),(1,.arr 4 R.unions.length (rowOf (cUnion true) R.unions))])
def l1Copy (x0 : Family) : Family:=x0
def A142 (x0 : Family) : Ann:=.reg 5 [] [(2004,apN 9 (cPerson true) 56 x0.people),(3004,apN 15 (cUnion true) 32 x0.unions)] [2] [2,9,15] [] [] [] [0,4] (rt [(0,some 9),(1,some 15)] (C142 x0))
theorem ok_spec_l1Copy (x0 : Family) (hx : x0.people.length ≤ 1048576) (hu : x0.unions.length ≤ 1048576) : FnT Try.prog 142 [.agg (cFamily false x0)] (C142 (l1Copy x0)) := by
  have aux : ∀ R, l1Copy x0 = R → slim (C142 R) (A142 x0) [] := by
    intro R hR
    refine rg ⟨by omega,by omega,trivial⟩ ?_
    exact congrArg C142 hR
  exact Fn.go 18 Try.func142 (by kernel_rfl) (by kernel_rfl) (by simp [C142,Frs,FrsL,FrsB,rowOf,cInt,cBool,cStr,cSl,FrsL_app,cPerson,cUnion,cFamily,cLaw]) (A142 x0) (by kernel_rfl) (aux _ rfl)
def k142 (x0 : Family) : Cl:=(hres (C142 (l1Copy x0)),k2 (ok_spec_l1Copy x0))
structure l01Cur where
  b : List Int
  i : Int
  h : Int
  deriving Inhabited
def cl01Cur (fr : Bool) (x : l01Cur) : List LV:=cSl fr 1 (cInt .u8) x.b ++ cInt .i64 x.i ++ cInt .i64 x.h

/-- A cursor over a draw. -/
structure CurOk (c : l01Cur) : Prop where
  byte : ∀ y ∈ c.b,0 ≤ y ∧ y ≤ 255
  len : c.b.length ≤ 1048576
  pos : 0 ≤ c.i ∧ c.i ≤ c.b.length
  num : inR .i64 c.h
theorem CurOk.mk' {c : l01Cur} (h : CurOk c) {i x : Int} (hi : 0 ≤ i ∧ i ≤ c.b.length) (hx : inR .i64 x) : CurOk ⟨c.b,i,x⟩:=⟨h.byte,h.len,hi,hx⟩
def C58 (x0 : List Int) (R : l01Cur) : LV × List (Nat × BC):=(.vp 0 0,[(0,.var [.ro false 1 R.b.length (rowOf (cInt .u8) R.b),.int .i64 R.i,.int .i64 R.h])])
def l01New (x0 : List Int) : l01Cur:=loopW (fun (v1 : Int × Int) next=>bif ((decide (v1.2 < ((x0.length : Nat) : Int))) && (decide (v1.2 < 4000))) then (next (bits .and .i64 (((v1.1 * 1103) + (x0.getD v1.2.toNat default)) + 7) 1073741823,v1.2 + 1)) else (l01Cur.mk x0 0 v1.1)) ((4000 - Int.toNat (0)) + 1) (3221 + ((x0.length : Nat) : Int),0)
def D58b1 (x0 : List Int) (v1 : Int × Int) : Dl:=⟨[(3,.int .i64 v1.1),(4,.int .i64 v1.2)],[]⟩
def A58b1 (x0 : List Int) (v1 : Int × Int) : Ann:=.reg 1 [] [] [0,2,3,4,15] [] [decide (v1.2 < ((x0.length : Nat) : Int))] [] [] [1,1] (cn ((decide (v1.2 < ((x0.length : Nat) : Int))) && (decide (v1.2 < 4000))) (r1 1 [0,2,3,4] [] [pf (inR .i64 (v1.1 * 1103)),pf (0 ≤ (v1.2 : Int) ∧ (v1.2 : Int) < ((x0.length : Nat) : Int)),pf (inR .i64 (x0.getD v1.2.toNat default)),pf (inR .i64 ((v1.1 * 1103) + (x0.getD v1.2.toNat default))),pf (inR .i64 (((v1.1 * 1103) + (x0.getD v1.2.toNat default)) + 7))] [0,4,8,12,16] (r1 1 [0,2,3,4] [] [pf (inR .i64 (v1.2 + 1))] [0] (.next 0 [] (D58b1 x0 (bits .and .i64 (((v1.1 * 1103) + (x0.getD v1.2.toNat default)) + 7) 1073741823,v1.2 + 1))))) (r0 1 [2] [31] (rt [(0,some 31)] (C58 x0 (l01Cur.mk x0 0 v1.1)))))
def A58 (x0 : List Int) : Ann:=r1 2 [0,2,3] [] [pf (inR .i64 (3221 + ((x0.length : Nat) : Int)))] [0] (r0 1 [0,2,3,4] [] (.loop (Int × Int) (D58b1 x0) [] [] [] (D58b1 x0 (3221 + ((x0.length : Nat) : Int),0)) (A58b1 x0)))
theorem ok_spec_l01New (x0 : List Int) (hx : x0.length ≤ 1048576) (hb : ∀ y ∈ x0, 0 ≤ y ∧ y ≤ 255) : FnMT Try.prog 58 [.ro false 1 x0.length (rowOf (cInt .u8) x0)] [] (C58 x0 (l01New x0)) := by
  have aux : ∀ R, l01New x0 = R → slim (C58 x0 R) (A58 x0) [] := by
    intro R hR
    refine rg ⟨by ( intros;simp only [inR];omega),trivial⟩ ?_
    refine rg trivial ?_
    revert hR;refine lW (fun v=>(0 ≤ v.2 ∧ v.2 ≤ x0.length ∧ v.2 ≤ 4000) ∧ 0 ≤ v.1 ∧ v.1 ≤ 1073741823) (fun v=>(4000 - Int.toNat (v.2))) (by (intros;omega)) (Nat.lt_succ_self _) rfl fun m1 v1 F1 hI1 hM1 hR hK1=>?_
    refine rg trivial ?_
    revert hR;refine cd (fun hc1 hR=>?_) fun hc1 hR=>?_
    ·
      refine rg ⟨by ( intros;simp only [inR];omega),by (have h9:=and_small (((v1.1 * 1103) + (x0.getD v1.2.toNat default)) + 7) 1073741823 1073741823 rfl (by omega);simp only [Bool.and_eq_true,decide_eq_true_eq] at *;omega),by (have h9:=getD_byte hb v1.2.toNat;(try simp only [inR]);omega),by (have h9:=getD_byte hb v1.2.toNat;(try simp only [inR]);omega),by (have h9:=getD_byte hb v1.2.toNat;(try simp only [inR]);omega),trivial⟩ ?_
      refine rg ⟨by ( intros;simp only [inR];omega),trivial⟩ ?_
      exact hK1 (bits .and .i64 (((v1.1 * 1103) + (x0.getD v1.2.toNat default)) + 7) 1073741823,v1.2 + 1) (by (have h9:=and_small (((v1.1 * 1103) + (x0.getD v1.2.toNat default)) + 7) 1073741823 1073741823 rfl (by omega);simp only [Bool.and_eq_true,decide_eq_true_eq] at *;omega)) (by (have h9:=and_small (((v1.1 * 1103) + (x0.getD v1.2.toNat default)) + 7) 1073741823 1073741823 rfl (by omega);simp only [Bool.and_eq_true,decide_eq_true_eq] at *;omega)) hR
    ·
      refine rg trivial ?_
      exact congrArg (C58 x0) hR
  exact FnM.go 32 Try.func58 (by kernel_rfl) (by kernel_rfl) (A58 x0) (by kernel_rfl) (aux _ rfl)
def k58 (d : Nat) (ids : List Nat) (x0 : List Int) : Cl:=(hresM d ids (C58 x0 (l01New x0)),k2 (ok_spec_l01New x0))
def C140 (x0 : l01Cur) (R : Int × Int × Int) : LV × List (Nat × BC):=(.int .i64 R.1,[(900000,.var [.ro false 1 x0.b.length (rowOf (cInt .u8) x0.b),.int .i64 R.2.1,.int .i64 R.2.2])])
def l01Byte (x0 : l01Cur) : Int × Int × Int:=bif (decide (x0.i < ((x0.b.length : Nat) : Int))) then (bits .and .i64 ((bits .and .i64 (bits .xor .i64 ((IntKind.wrap .i64 ((IntKind.wrap .i64 (x0.h * 6364136223846793005)) + 1442695040888963407)) / 2 ^ 33) ((IntKind.wrap .i64 ((IntKind.wrap .i64 (x0.h * 6364136223846793005)) + 1442695040888963407)) / 2 ^ 45)) 255) + (IntKind.wrap .i64 (x0.b.getD x0.i.toNat default))) 255,x0.i + 1,IntKind.wrap .i64 ((IntKind.wrap .i64 (x0.h * 6364136223846793005)) + 1442695040888963407)) else (bits .and .i64 (bits .xor .i64 ((IntKind.wrap .i64 ((IntKind.wrap .i64 (x0.h * 6364136223846793005)) + 1442695040888963407)) / 2 ^ 33) ((IntKind.wrap .i64 ((IntKind.wrap .i64 (x0.h * 6364136223846793005)) + 1442695040888963407)) / 2 ^ 45)) 255,x0.i,IntKind.wrap .i64 ((IntKind.wrap .i64 (x0.h * 6364136223846793005)) + 1442695040888963407))
def A140 (x0 : l01Cur) : Ann:=.reg 3 [(1005,.wrap),(1006,.wrap)] [] [0,2,3] [900000] [] [pf (0 ≤ (33 : Int) ∧ 33 ≤ (IntKind.bits .i64 : Int)),pf (0 ≤ (45 : Int) ∧ 45 ≤ (IntKind.bits .i64 : Int))] [] [0,4] (r0 1 [0,2,3,34] [900000] (cn (decide (x0.i < ((x0.b.length : Nat) : Int))) (.reg 1 [(11,.wrap)] [] [0,2,3] [900000] [] [pf (0 ≤ (x0.i : Int) ∧ (x0.i : Int) < ((x0.b.length : Nat) : Int)),pf (inR .i64 ((bits .and .i64 (bits .xor .i64 ((IntKind.wrap .i64 ((IntKind.wrap .i64 (x0.h * 6364136223846793005)) + 1442695040888963407)) / 2 ^ 33) ((IntKind.wrap .i64 ((IntKind.wrap .i64 (x0.h * 6364136223846793005)) + 1442695040888963407)) / 2 ^ 45)) 255) + (IntKind.wrap .i64 (x0.b.getD x0.i.toNat default))))] [] [0,4] (r1 1 [2,3] [900000] [pf (inR .i64 (x0.i + 1))] [0] (r0 1 [2] [900000] (rt [(900000,some 900000)] (C140 x0 (bits .and .i64 ((bits .and .i64 (bits .xor .i64 ((IntKind.wrap .i64 ((IntKind.wrap .i64 (x0.h * 6364136223846793005)) + 1442695040888963407)) / 2 ^ 33) ((IntKind.wrap .i64 ((IntKind.wrap .i64 (x0.h * 6364136223846793005)) + 1442695040888963407)) / 2 ^ 45)) 255) + (IntKind.wrap .i64 (x0.b.getD x0.i.toNat default))) 255,x0.i + 1,IntKind.wrap .i64 ((IntKind.wrap .i64 (x0.h * 6364136223846793005)) + 1442695040888963407))))))) (r0 1 [2] [900000] (rt [(900000,some 900000)] (C140 x0 (bits .and .i64 (bits .xor .i64 ((IntKind.wrap .i64 ((IntKind.wrap .i64 (x0.h * 6364136223846793005)) + 1442695040888963407)) / 2 ^ 33) ((IntKind.wrap .i64 ((IntKind.wrap .i64 (x0.h * 6364136223846793005)) + 1442695040888963407)) / 2 ^ 45)) 255,x0.i,IntKind.wrap .i64 ((IntKind.wrap .i64 (x0.h * 6364136223846793005)) + 1442695040888963407)))))))
theorem ok_spec_l01Byte (x0 : l01Cur) (hc : CurOk x0) : FnMT Try.prog 140 [.vp 900000 0] [.var [.ro false 1 x0.b.length (rowOf (cInt .u8) x0.b), .int .i64 x0.i, .int .i64 x0.h]] (C140 x0 (l01Byte x0)) := by
  have aux : ∀ R, l01Byte x0 = R → slim (C140 x0 R) (A140 x0) [] := by
    intro R hR
    refine rg ⟨by trivial,by trivial,trivial⟩ ?_
    refine rg trivial ?_
    revert hR;refine cd (fun hc1 hR=>?_) fun hc1 hR=>?_
    ·
      refine rg ⟨by (have h9:=hc.pos;have h8:=hc.len;(try simp only [inR,decide_eq_true_eq] at *);omega),by (have h9:=and_small (bits .xor .i64 ((IntKind.wrap .i64 ((IntKind.wrap .i64 (x0.h * 6364136223846793005)) + 1442695040888963407)) / 2 ^ 33) ((IntKind.wrap .i64 ((IntKind.wrap .i64 (x0.h * 6364136223846793005)) + 1442695040888963407)) / 2 ^ 45)) 255 255 rfl (by omega);have h8:=getD_byte hc.byte x0.i.toNat;have h7:=wrap_small (n:=x0.b.getD x0.i.toNat default) (by omega);simp only [inR];omega),trivial⟩ ?_
      refine rg ⟨by (have h9:=hc.pos;have h8:=hc.len;(try simp only [inR,decide_eq_true_eq] at *);omega),trivial⟩ ?_
      refine rg trivial ?_
      exact congrArg (C140 x0) hR
    ·
      refine rg trivial ?_
      exact congrArg (C140 x0) hR
  exact FnM.go 58 Try.func140 (by kernel_rfl) (by kernel_rfl) (A140 x0) (by kernel_rfl) (aux _ rfl)
def k140 (d : Nat) (ids : List Nat) (x0 : l01Cur) : Cl:=(hresM d ids (C140 x0 (l01Byte x0)),k1 (ok_spec_l01Byte x0))
theorem byte_bd (x : Int) : 0 ≤ bits .and .i64 x 255 ∧ bits .and .i64 x 255 ≤ 255:=and_small x 255 255 rfl (by omega)
theorem l01Byte_ok {c : l01Cur} (h : CurOk c) : (0 ≤ (l01Byte c).1 ∧ (l01Byte c).1 ≤ 255) ∧ CurOk ⟨c.b, (l01Byte c).2.1, (l01Byte c).2.2⟩ := by
  unfold l01Byte
  refine cond_both (p:=fun (r : Int × Int × Int)=>(0 ≤ r.1 ∧ r.1 ≤ 255) ∧ CurOk ⟨c.b,r.2.1,r.2.2⟩) (fun c1=>⟨byte_bd _,h.mk' ?_ (wrap_inR _)⟩) (fun _=>⟨byte_bd _,h.mk' h.pos (wrap_inR _)⟩)
  have:=h.pos;have:=of_decide_eq_true c1
  simp only;omega
end Go.Proofs.Ytkkijpibajigfaa
