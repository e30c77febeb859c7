import Derived.Test.YtkkijpibajigfaaM100
set_option maxHeartbeats 4000000
set_option linter.unusedSimpArgs false
set_option linter.unusedVariables false
namespace Go.Proofs.Ytkkijpibajigfaa
open Go Go.Lite Go.Proofs
def C97 (R : (List Int)) : LV × List (Nat × BC):=(.own 0,[(0,.arr 1 R.length (rowOf (cInt .i64) R))])
def marriedAt (x0 : Family) (x1 : Int) (x2 : Int) : (List Int):=loopN (fun i1 (v1 : (List Int)) nx1=>bif ((decide ((other (x0.unions.getD i1 default) x1) < 0)) || (decide (x2 < ((x0.unions.getD i1 default).from0)))) then (nx1 v1) else (bif ((!((unionEnd x0 (x0.unions.getD i1 default)).2)) || (decide (x2 < ((unionEnd x0 (x0.unions.getD i1 default)).1)))) then (nx1 (v1 ++ [other (x0.unions.getD i1 default) x1])) else (nx1 v1))) (fun (v1 : (List Int))=>v1) x0.unions.length 0 ([] : List Int)
def D97b1 (x0 : Family) (x1 : Int) (x2 : Int) (i1 : Nat) (v1 : (List Int)) : Dl:=⟨[(16,.int .i64 ((i1 : Nat) : Int)),(7,.own 20007)],[(20007,.arr 1 v1.length (rowOf (cInt .i64) v1))]⟩
def A97b1 (x0 : Family) (x1 : Int) (x2 : Int) (i1 : Nat) (v1 : (List Int)) : Ann:=r0 1 [1,2,3,6,7,14,15,16,17] [3,20007] (cn (decide (((i1 : Nat) : Int) < ((x0.unions.length : Nat) : Int))) (.reg 2 [] [(1002,k95 (x0.unions.getD i1 default) x1)] [1,2,3,6,7,9,10,14,15,16] [3,9,20007] [] [pf (0 ≤ (((i1 : Nat) : Int) : Int) ∧ (((i1 : Nat) : Int) : Int) < ((x0.unions.length : Nat) : Int))] [] [0,4] (.reg 1 [] [] [1,2,3,6,7,9,10,14,15,16,30] [3,9,20007] [!(decide ((other (x0.unions.getD i1 default) x1) < 0)),decide ((other (x0.unions.getD i1 default) x1) < 0)] [] [] [1,1,1,6] (cn ((decide ((other (x0.unions.getD i1 default) x1) < 0)) || (decide (x2 < ((x0.unions.getD i1 default).from0)))) (r1 1 [1,2,3,6,7,14,15,16] [3,20007] [pf (inR .i64 (((i1 : Nat) : Int) + 1))] [0] (.next 0 [(20007,some 20007)] (D97b1 x0 x1 x2 (i1 + 1) v1))) (.reg 2 [] [(2,k120 x0 (x0.unions.getD i1 default))] [1,2,3,6,7,10,14,15,16,43] [3,20007] [!(!((unionEnd x0 (x0.unions.getD i1 default)).2)),!((unionEnd x0 (x0.unions.getD i1 default)).2)] [] [] [0,1,1,6] (cn ((!((unionEnd x0 (x0.unions.getD i1 default)).2)) || (decide (x2 < ((unionEnd x0 (x0.unions.getD i1 default)).1)))) (.reg 1 [] [(2,bsC 46 (cInt .i64) ([other (x0.unions.getD i1 default) x1] : List Int)),(3,ap1 47 (cInt .i64) 8 v1 (other (x0.unions.getD i1 default) x1))] [1,2,3,6,7,14,15,16] [3,47] [] [] [] [0,4] (r1 1 [1,2,3,6,7,14,15,16] [3,47] [pf (inR .i64 (((i1 : Nat) : Int) + 1))] [0] (.next 0 [(20007,some 47)] (D97b1 x0 x1 x2 (i1 + 1) (v1 ++ [other (x0.unions.getD i1 default) x1]))))) (r1 1 [1,2,3,6,7,14,15,16] [3,20007] [pf (inR .i64 (((i1 : Nat) : Int) + 1))] [0] (.next 0 [(20007,some 20007)] (D97b1 x0 x1 x2 (i1 + 1) v1)))))))) (r0 1 [6] [20007] (rt [(0,some 20007)] (C97 v1))))
def A97 (x0 : Family) (x1 : Int) (x2 : Int) : Ann:=r0 2 [1,2,3,6,7] [3] (r0 1 [1,2,3,6,7,14,15,16] [3] (lp (D97b1 x0 x1 x2) [] [] [(20007,none)] (D97b1 x0 x1 x2 0 ([] : List Int)) (A97b1 x0 x1 x2)))
theorem ok_impl_marriedAt (x0 : Family) (x1 : Int) (x2 : Int) (hx : x0.people.length ≤ 1048576) (hf : specIsFamily x0 = true) : FnT Try.prog 97 [.agg (cFamily false x0), .int .i64 x1, .int .i64 x2] (C97 (marriedAt x0 x1 x2)) := by
  have aux : ∀ R, marriedAt x0 x1 x2 = R → slim (C97 R) (A97 x0 x1 x2) [] := by
    intro R hR
    refine rg trivial ?_
    refine rg trivial ?_
    revert hR;refine lN (fun i v=>v.length ≤ i) (by trivial) rfl fun i1 v1 F1 hn1 hI1 hR hK1=>?_
    refine rg trivial ?_
    refine ⟨fun hc1=>?_,fun hc1=>?_⟩
    · have hii1 : i1 < x0.unions.length:=by have:=of_decide_eq_true hc1;omega
      replace hR:=loopN_step hR hii1
      refine rg ⟨by (intros;omega),trivial,trivial⟩ ?_
      have hp1:=other_rng (x0.unions.getD i1 default) x1
      refine rg trivial ?_
      revert hR;refine cd (fun hc2 hR=>?_) fun hc2 hR=>?_
      ·
        refine rg ⟨by ((try clear hR hK1);intros;(try simp only [decide_eq_true_eq,decide_eq_false_iff_not,Bool.or_eq_true,Bool.and_eq_true,or_f_iff,not_f_iff,not_t_iff,Bool.not_eq_true',inR] at *);(repeat' apply And.intro) <;> (first | (intros;omega) | (have hn9:=fam_n hf;have hu9:=fam_u hf (k:=i1) hii1;have h91:=hu9.man;have h92:=hu9.woman;have h93:=hu9.from0;have h94:=hu9.to;omega))),trivial⟩ ?_
        exact hK1 v1 hii1 (by (intros;omega)) hR
      ·
        refine rg ⟨⟨by trivial,by (have hn9:=fam_n hf;have hu9:=fam_u hf (k:=i1) hii1;have h91:=hu9.man;have h92:=hu9.woman;have h93:=hu9.from0;have h94:=hu9.to;omega),by (have hn9:=fam_n hf;have hu9:=fam_u hf (k:=i1) hii1;have h91:=hu9.man;have h92:=hu9.woman;have h93:=hu9.from0;have h94:=hu9.to;omega)⟩,trivial⟩ ?_
        revert hR;refine cd (fun hc3 hR=>?_) fun hc3 hR=>?_
        ·
          refine rg ⟨trivial,by (have hn9:=fam_n hf;have hu9:=fam_u hf (k:=i1) hii1;have h91:=hu9.man;have h92:=hu9.woman;have h93:=hu9.from0;have h94:=hu9.to;omega),trivial⟩ ?_
          refine rg ⟨by ((try clear hR hK1);intros;(try simp only [decide_eq_true_eq,decide_eq_false_iff_not,Bool.or_eq_true,Bool.and_eq_true,or_f_iff,not_f_iff,not_t_iff,Bool.not_eq_true',inR] at *);(repeat' apply And.intro) <;> (first | (intros;omega) | (have hn9:=fam_n hf;have hu9:=fam_u hf (k:=i1) hii1;have h91:=hu9.man;have h92:=hu9.woman;have h93:=hu9.from0;have h94:=hu9.to;omega))),trivial⟩ ?_
          exact hK1 (v1 ++ [other (x0.unions.getD i1 default) x1]) hii1 (by (have hn9:=fam_n hf;have hu9:=fam_u hf (k:=i1) hii1;have h91:=hu9.man;have h92:=hu9.woman;have h93:=hu9.from0;have h94:=hu9.to;(try simp only [decide_eq_true_eq,decide_eq_false_iff_not,List.length_append,List.length_set,List.length_cons,List.length_nil,List.length_replicate] at *);omega)) hR
        ·
          refine rg ⟨by ((try clear hR hK1);intros;(try simp only [decide_eq_true_eq,decide_eq_false_iff_not,Bool.or_eq_true,Bool.and_eq_true,or_f_iff,not_f_iff,not_t_iff,Bool.not_eq_true',inR] at *);(repeat' apply And.intro) <;> (first | (intros;omega) | (have hn9:=fam_n hf;have hu9:=fam_u hf (k:=i1) hii1;have h91:=hu9.man;have h92:=hu9.woman;have h93:=hu9.from0;have h94:=hu9.to;omega))),trivial⟩ ?_
          exact hK1 v1 hii1 (by (intros;omega)) hR
    · obtain rfl : i1 = x0.unions.length:=by have:=of_decide_eq_false hc1;omega
      replace hR:=loopN_end hR (Nat.lt_irrefl _)
      refine rg trivial ?_
      exact congrArg C97 hR
  exact Fn.go 50 Try.func97 (by kernel_rfl) (by kernel_rfl) (by simp [C97,Frs,FrsL,FrsB,rowOf,cInt,cBool,cStr,cSl,FrsL_app,cPerson,cUnion,cFamily,cLaw]) (A97 x0 x1 x2) (by kernel_rfl) (aux _ rfl)
def k97 (x0 : Family) (x1 : Int) (x2 : Int) : Cl:=(hres (C97 (marriedAt x0 x1 x2)),k2 (ok_impl_marriedAt x0 x1 x2))
def C134 (R : (List Int)) : LV × List (Nat × BC):=(.own 0,[(0,.arr 1 R.length (rowOf (cInt .i64) R))])
def specMarried (x0 : Family) (x1 : Int) (x2 : Int) : (List Int):=bif (!(l1Has x0 x1)) then ([] : List Int) else (loopN (fun i1 (v1 : (List Int)) next=>bif ((((l1Other (x0.unions.getD i1 default) x1).2) && (decide (((x0.unions.getD i1 default).from0) ≤ x2))) && ((!((l1End x0 (x0.unions.getD i1 default)).2)) || (decide (x2 < ((l1End x0 (x0.unions.getD i1 default)).1))))) then (next (v1 ++ [(l1Other (x0.unions.getD i1 default) x1).1])) else (next v1)) (fun (v1 : (List Int))=>v1) x0.unions.length 0 ([] : List Int))
def D134b1 (x0 : Family) (x1 : Int) (x2 : Int) (i1 : Nat) (v1 : (List Int)) : Dl:=⟨[(22,.int .i64 ((i1 : Nat) : Int)),(7,.own 20007)],[(20007,.arr 1 v1.length (rowOf (cInt .i64) v1))]⟩
def A134b1 (x0 : Family) (x1 : Int) (x2 : Int) (i1 : Nat) (v1 : (List Int)) : Ann:=r0 1 [1,2,3,6,7,20,21,22,23] [3,20007] (cn (decide (((i1 : Nat) : Int) < ((x0.unions.length : Nat) : Int))) (.reg 4 [] [(1002,k139 (x0.unions.getD i1 default) x1),(2002,k162 x0 (x0.unions.getD i1 default))] [1,2,3,6,7,10,20,21,22,53] [3,20007] [(l1Other (x0.unions.getD i1 default) x1).2,((l1Other (x0.unions.getD i1 default) x1).2) && (decide (((x0.unions.getD i1 default).from0) ≤ x2)),(((l1Other (x0.unions.getD i1 default) x1).2) && (decide (((x0.unions.getD i1 default).from0) ≤ x2))) && (!(!((l1End x0 (x0.unions.getD i1 default)).2)))] [pf (0 ≤ (((i1 : Nat) : Int) : Int) ∧ (((i1 : Nat) : Int) : Int) < ((x0.unions.length : Nat) : Int)),gt (((l1Other (x0.unions.getD i1 default) x1).2) && (decide (((x0.unions.getD i1 default).from0) ≤ x2))) (gf (!((l1End x0 (x0.unions.getD i1 default)).2)) (pf (((((l1Other (x0.unions.getD i1 default) x1).2) && (decide (((x0.unions.getD i1 default).from0) ≤ x2))) && (!(!((l1End x0 (x0.unions.getD i1 default)).2)))) = true)))] [] [0,8,12,1,1,1,1,5,5,9,9,5,4,5] (cn ((((l1Other (x0.unions.getD i1 default) x1).2) && (decide (((x0.unions.getD i1 default).from0) ≤ x2))) && ((!((l1End x0 (x0.unions.getD i1 default)).2)) || (decide (x2 < ((l1End x0 (x0.unions.getD i1 default)).1))))) (.reg 1 [] [(2,bsC 56 (cInt .i64) ([(l1Other (x0.unions.getD i1 default) x1).1] : List Int)),(3,ap1 57 (cInt .i64) 8 v1 ((l1Other (x0.unions.getD i1 default) x1).1))] [1,2,3,6,7,20,21,22] [3,57] [] [] [] [0,4] (r1 1 [1,2,3,6,7,20,21,22] [3,57] [pf (inR .i64 (((i1 : Nat) : Int) + 1))] [0] (.next 0 [(20007,some 57)] (D134b1 x0 x1 x2 (i1 + 1) (v1 ++ [(l1Other (x0.unions.getD i1 default) x1).1]))))) (r1 1 [1,2,3,6,7,20,21,22] [3,20007] [pf (inR .i64 (((i1 : Nat) : Int) + 1))] [0] (.next 0 [(20007,some 20007)] (D134b1 x0 x1 x2 (i1 + 1) v1))))) (r0 1 [6] [20007] (rt [(0,some 20007)] (C134 v1))))
def A134 (x0 : Family) (x1 : Int) (x2 : Int) : Ann:=r0 1 [1,2,3,6] [3] (.reg 1 [] [(2,k60 x0 x1)] [1,2,3,6,17] [3] [] [] [] [0] (cn (!(l1Has x0 x1)) (r0 1 [1,2,3,6] [3] (rt [(0,none)] (C134 ([] : List Int)))) (.reg 1 [] [(0,bsC 18 (cInt .i64) ([] : List Int))] [1,2,3,6,7] [3,18] [] [] [] [0] (r0 1 [1,2,3,6,7,20,21,22] [3,18] (lp (D134b1 x0 x1 x2) [] [18] [(20007,some 18)] (D134b1 x0 x1 x2 0 ([] : List Int)) (A134b1 x0 x1 x2))))))
theorem ok_spec_MarriedAt (x0 : Family) (x1 : Int) (x2 : Int) (hx : x0.people.length ≤ 1048576) (hu : x0.unions.length ≤ 1048576) (hn : ∀ p ∈ x0.people, p.name.length ≤ 1048576) : FnT Try.prog 134 [.agg (cFamily false x0), .int .i64 x1, .int .i64 x2] (C134 (specMarried x0 x1 x2)) := by
  have aux : ∀ R, specMarried x0 x1 x2 = R → slim (C134 R) (A134 x0 x1 x2) [] := by
    intro R hR
    refine rg trivial ?_
    refine rg ⟨⟨by trivial,by trivial,by trivial⟩,trivial⟩ ?_
    revert hR;refine cd (fun hc1 hR=>?_) fun hc1 hR=>?_
    ·
      refine rg trivial ?_
      exact congrArg C134 hR
    ·
      refine rg ⟨trivial,trivial⟩ ?_
      refine rg trivial ?_
      revert hR;refine lN (fun i v=>v.length ≤ i) (by trivial) rfl fun i1 v1 F1 hn1 hI1 hR hK1=>?_
      refine rg trivial ?_
      refine ⟨fun hc2=>?_,fun hc2=>?_⟩
      · have hii1 : i1 < x0.unions.length:=by have:=of_decide_eq_true hc2;omega
        replace hR:=loopN_step hR hii1
        refine rg ⟨by (intros;omega),by ((try clear hR hK1);intros;(try simp only [decide_eq_true_eq,decide_eq_false_iff_not,Bool.or_eq_true,Bool.and_eq_true,or_f_iff,not_f_iff,not_t_iff,Bool.not_eq_true',inR] at *);(repeat' apply And.intro) <;> (first | (intros;omega) | (simp_all [inR];done))),trivial,⟨by trivial,by (have hf:=((l1Has_iff x0 x1).1 (by simpa using hc1)).2;have hn9:=fam_n hf;have hu9:=fam_u hf (k:=i1) hii1;have h91:=hu9.man;have h92:=hu9.woman;have h93:=hu9.from0;have h94:=hu9.to;omega),by (have hf:=((l1Has_iff x0 x1).1 (by simpa using hc1)).2;have hn9:=fam_n hf;have hu9:=fam_u hf (k:=i1) hii1;have h91:=hu9.man;have h92:=hu9.woman;have h93:=hu9.from0;have h94:=hu9.to;omega)⟩,trivial⟩ ?_
        revert hR;refine cd (fun hc3 hR=>?_) fun hc3 hR=>?_
        ·
          refine rg ⟨trivial,by omega,trivial⟩ ?_
          refine rg ⟨by ( intros;simp only [inR];omega),trivial⟩ ?_
          exact hK1 (v1 ++ [(l1Other (x0.unions.getD i1 default) x1).1]) hii1 (by (have hf:=((l1Has_iff x0 x1).1 (by simpa using hc1)).2;have hn9:=fam_n hf;have hu9:=fam_u hf (k:=i1) hii1;have h91:=hu9.man;have h92:=hu9.woman;have h93:=hu9.from0;have h94:=hu9.to;(try simp only [decide_eq_true_eq,decide_eq_false_iff_not,List.length_append,List.length_set,List.length_cons,List.length_nil,List.length_replicate] at *);omega)) hR
        ·
          refine rg ⟨by ( intros;simp only [inR];omega),trivial⟩ ?_
          exact hK1 v1 hii1 (by (intros;omega)) hR
      · obtain rfl : i1 = x0.unions.length:=by have:=of_decide_eq_false hc2;omega
        replace hR:=loopN_end hR (Nat.lt_irrefl _)
        refine rg trivial ?_
        exact congrArg C134 hR
  exact Fn.go 60 Try.func134 (by kernel_rfl) (by kernel_rfl) (by simp [C134,Frs,FrsL,FrsB,rowOf,cInt,cBool,cStr,cSl,FrsL_app,cPerson,cUnion,cFamily,cLaw]) (A134 x0 x1 x2) (by kernel_rfl) (aux _ rfl)
def k134 (x0 : Family) (x1 : Int) (x2 : Int) : Cl:=(hres (C134 (specMarried x0 x1 x2)),k3 (ok_spec_MarriedAt x0 x1 x2))
def C99 (R : Int) : LV × List (Nat × BC):=(.int .i64 R,[])
def founder (x0 : Family) (x1 : Int) (x2 : Int) : Int:=loopW (fun (v1 : Int) next=>bif (decide (0 ≤ (up x0 v1 x2))) then (next (up x0 v1 x2)) else v1) ((x1 + 1).toNat + 1) x1
def D99b1 (x0 : Family) (x1 : Int) (x2 : Int) (v1 : Int) : Dl:=⟨[(1,.int .i64 v1)],[]⟩
def A99b1 (x0 : Family) (x1 : Int) (x2 : Int) (v1 : Int) : Ann:=.reg 1 [] [(3,k122 x0 v1 x2)] [1,2,3,6,11] [3] [] [] [] [0] (cn (decide (0 ≤ (up x0 v1 x2))) (.reg 1 [] [(3,k122 x0 v1 x2)] [1,2,3,6] [3] [] [] [] [0] (.next 0 [] (D99b1 x0 x1 x2 (up x0 v1 x2)))) (r0 1 [6] [] (rt [] (C99 v1))))
def A99 (x0 : Family) (x1 : Int) (x2 : Int) : Ann:=r0 1 [1,2,3,6] [3] (.loop Int (D99b1 x0 x1 x2) [] [] [] (D99b1 x0 x1 x2 x1) (A99b1 x0 x1 x2))
theorem ok_impl_founder (x0 : Family) (x1 : Int) (x2 : Int) (hx : x0.people.length ≤ 1048576) (hf : specIsFamily x0 = true) (h1 : 0 ≤ x1 ∧ x1 < x0.people.length) : FnT Try.prog 99 [.agg (cFamily false x0), .int .i64 x1, .int .i64 x2] (C99 (founder x0 x1 x2)) := by
  have aux : ∀ R, founder x0 x1 x2 = R → slim (C99 R) (A99 x0 x1 x2) [] := by
    intro R hR
    refine rg trivial ?_
    revert hR;refine lW (fun v=>0 ≤ v ∧ v < x0.people.length) (fun v=>(v + 1).toNat) (by trivial) (Nat.lt_succ_self _) rfl fun m1 v1 F1 hI1 hM1 hR hK1=>?_
    refine rg ⟨⟨by trivial,by trivial⟩,trivial⟩ ?_
    revert hR;refine cd (fun hc1 hR=>?_) fun hc1 hR=>?_
    ·
      refine rg ⟨⟨by trivial,by trivial⟩,trivial⟩ ?_
      exact hK1 (up x0 v1 x2) (by (have h9:=up_lt hf (sex:=x2) hI1;have h8:=of_decide_eq_true hc1;omega)) (by (have h9:=up_lt hf (sex:=x2) hI1;omega)) hR
    ·
      refine rg trivial ?_
      exact congrArg C99 hR
  exact Fn.go 17 Try.func99 (by kernel_rfl) (by kernel_rfl) (by simp [C99,Frs,FrsL]) (A99 x0 x1 x2) (by kernel_rfl) (aux _ rfl)
def k99 (x0 : Family) (x1 : Int) (x2 : Int) : Cl:=(hres (C99 (founder x0 x1 x2)),k3 (ok_impl_founder x0 x1 x2))
def C137 (R : Int) : LV × List (Nat × BC):=(.int .i64 R,[])
def l7Founder (x0 : Family) (x1 : Int) (x2 : Int) : Int:=loopW (fun (v1 : Int) next=>bif (decide (x2 = 2)) then (bif (decide (((x0.people.getD v1.toNat default).mother) < 0)) then v1 else (next ((x0.people.getD v1.toNat default).mother))) else (bif (decide (((x0.people.getD v1.toNat default).father) < 0)) then v1 else (next ((x0.people.getD v1.toNat default).father)))) ((x1 + 1).toNat + 1) x1
def D137b1 (x0 : Family) (x1 : Int) (x2 : Int) (v1 : Int) : Dl:=⟨[(1,.int .i64 v1)],[]⟩
def A137b1 (x0 : Family) (x1 : Int) (x2 : Int) (v1 : Int) : Ann:=r1 1 [1,2,3,6,7] [3] [pf (0 ≤ (v1 : Int) ∧ (v1 : Int) < ((x0.people.length : Nat) : Int))] [0] (r0 1 [1,2,3,6,7,15] [3] (cn (decide (x2 = 2)) (r1 1 [1,2,3,6,7] [3] [pf (0 ≤ (v1 : Int) ∧ (v1 : Int) < ((x0.people.length : Nat) : Int))] [0] (r0 1 [1,2,3,6,7,23] [3] (cn (decide (((x0.people.getD v1.toNat default).mother) < 0)) (r0 1 [1,2,3,6,7] [3] (rt [] (C137 v1))) (r0 1 [1,2,3,6] [3] (.next 0 [] (D137b1 x0 x1 x2 ((x0.people.getD v1.toNat default).mother))))))) (r0 1 [1,2,3,6,7,23] [3] (cn (decide (((x0.people.getD v1.toNat default).father) < 0)) (r0 1 [1,2,3,6,7] [3] (rt [] (C137 v1))) (r0 1 [1,2,3,6] [3] (.next 0 [] (D137b1 x0 x1 x2 ((x0.people.getD v1.toNat default).father))))))))
def A137 (x0 : Family) (x1 : Int) (x2 : Int) : Ann:=r0 1 [1,2,3,6] [3] (.loop Int (D137b1 x0 x1 x2) [] [] [] (D137b1 x0 x1 x2 x1) (A137b1 x0 x1 x2))
theorem ok_spec_l7Founder (x0 : Family) (x1 : Int) (x2 : Int) (hx : x0.people.length ≤ 1048576) (hf : specIsFamily x0 = true) (h1 : 0 ≤ x1 ∧ x1 < x0.people.length) : FnT Try.prog 137 [.agg (cFamily false x0), .int .i64 x1, .int .i64 x2] (C137 (l7Founder x0 x1 x2)) := by
  have aux : ∀ R, l7Founder x0 x1 x2 = R → slim (C137 R) (A137 x0 x1 x2) [] := by
    intro R hR
    refine rg trivial ?_
    revert hR;refine lW (fun v=>0 ≤ v ∧ v < x0.people.length) (fun v=>(v + 1).toNat) (by trivial) (Nat.lt_succ_self _) rfl fun m1 v1 F1 hI1 hM1 hR hK1=>?_
    refine rg ⟨by trivial,trivial⟩ ?_
    refine rg trivial ?_
    revert hR;refine cd (fun hc1 hR=>?_) fun hc1 hR=>?_
    ·
      refine rg ⟨by trivial,trivial⟩ ?_
      refine rg trivial ?_
      revert hR;refine cd (fun hc2 hR=>?_) fun hc2 hR=>?_
      ·
        refine rg trivial ?_
        exact congrArg C137 hR
      ·
        refine rg trivial ?_
        exact hK1 ((x0.people.getD v1.toNat default).mother) (by (have h9:=par_lt2 hf hI1;simp only [decide_eq_true_eq,decide_eq_false_iff_not] at *;omega)) (by (have h9:=par_lt2 hf hI1;simp only [decide_eq_true_eq,decide_eq_false_iff_not] at *;omega)) hR
    ·
      refine rg trivial ?_
      revert hR;refine cd (fun hc3 hR=>?_) fun hc3 hR=>?_
      ·
        refine rg trivial ?_
        exact congrArg C137 hR
      ·
        refine rg trivial ?_
        exact hK1 ((x0.people.getD v1.toNat default).father) (by (have h9:=par_lt2 hf hI1;simp only [decide_eq_true_eq,decide_eq_false_iff_not] at *;omega)) (by (have h9:=par_lt2 hf hI1;simp only [decide_eq_true_eq,decide_eq_false_iff_not] at *;omega)) hR
  exact Fn.go 26 Try.func137 (by kernel_rfl) (by kernel_rfl) (by simp [C137,Frs,FrsL]) (A137 x0 x1 x2) (by kernel_rfl) (aux _ rfl)
def k137 (x0 : Family) (x1 : Int) (x2 : Int) : Cl:=(hres (C137 (l7Founder x0 x1 x2)),k3 (ok_spec_l7Founder x0 x1 x2))
def C98 (R : Bool) : LV × List (Nat × BC):=(.bool R,[])
def closeKin (x0 : Family) (x1 : Int) (x2 : Int) (x3 : Int) : Bool:=((linkOf x0 x1 x2).2.2) && (decide ((((linkOf x0 x1 x2).1) + ((linkOf x0 x1 x2).2.1)) ≤ x3))
def A98 (x0 : Family) (x1 : Int) (x2 : Int) (x3 : Int) : Ann:=.reg 3 [] [(1003,k121 x0 x1 x2)] [8] [] [(linkOf x0 x1 x2).2.2] [gt ((linkOf x0 x1 x2).2.2) (pf (inR .i64 (((linkOf x0 x1 x2).1) + ((linkOf x0 x1 x2).2.1))))] [] [4,1,1,0,1,1,1] (rt [] (C98 (((linkOf x0 x1 x2).2.2) && (decide ((((linkOf x0 x1 x2).1) + ((linkOf x0 x1 x2).2.1)) ≤ x3)))))
theorem ok_impl_closeKin (x0 : Family) (x1 : Int) (x2 : Int) (x3 : Int) (hx : x0.people.length ≤ 1048576) (hf : specIsFamily x0 = true) (h1 : 0 ≤ x1 ∧ x1 < x0.people.length) (h2 : 0 ≤ x2 ∧ x2 < x0.people.length) : FnT Try.prog 98 [.agg (cFamily false x0), .int .i64 x1, .int .i64 x2, .int .i64 x3] (C98 (closeKin x0 x1 x2 x3)) := by
  have aux : ∀ R, closeKin x0 x1 x2 x3 = R → slim (C98 R) (A98 x0 x1 x2 x3) [] := by
    intro R hR
    refine rg ⟨by (have h9:=linkOf_bd hf h1 h2;have hn9:=fam_n hf;simp only [inR];omega),⟨by trivial,by trivial,by trivial,by (exact isFamily_par x0 hf)⟩,trivial⟩ ?_
    exact congrArg C98 hR
  exact Fn.go 28 Try.func98 (by kernel_rfl) (by kernel_rfl) (by simp [C98,Frs,FrsL]) (A98 x0 x1 x2 x3) (by kernel_rfl) (aux _ rfl)
def k98 (x0 : Family) (x1 : Int) (x2 : Int) (x3 : Int) : Cl:=(hres (C98 (closeKin x0 x1 x2 x3)),k4 (ok_impl_closeKin x0 x1 x2 x3))
def C135 (R : Bool) : LV × List (Nat × BC):=(.bool R,[])
def l9Close (x0 : Family) (x1 : Int) (x2 : Int) (x3 : Int) : Bool:=((specCivil x0 x1 x2).2) && (decide (((specCivil x0 x1 x2).1) ≤ x3))
def A135 (x0 : Family) (x1 : Int) (x2 : Int) (x3 : Int) : Ann:=.reg 3 [] [(1003,k163 x0 x1 x2)] [8] [] [(specCivil x0 x1 x2).2] [] [] [0,1,1,1] (rt [] (C135 (((specCivil x0 x1 x2).2) && (decide (((specCivil x0 x1 x2).1) ≤ x3)))))
theorem ok_spec_l9Close (x0 : Family) (x1 : Int) (x2 : Int) (x3 : Int) (hx : x0.people.length ≤ 1048576) (hu : x0.unions.length ≤ 1048576) (hn : ∀ p ∈ x0.people, p.name.length ≤ 1048576) : FnT Try.prog 135 [.agg (cFamily false x0), .int .i64 x1, .int .i64 x2, .int .i64 x3] (C135 (l9Close x0 x1 x2 x3)) := by
  have aux : ∀ R, l9Close x0 x1 x2 x3 = R → slim (C135 R) (A135 x0 x1 x2 x3) [] := by
    intro R hR
    refine rg ⟨⟨by trivial,by trivial,by trivial⟩,trivial⟩ ?_
    exact congrArg C135 hR
  exact Fn.go 24 Try.func135 (by kernel_rfl) (by kernel_rfl) (by simp [C135,Frs,FrsL]) (A135 x0 x1 x2 x3) (by kernel_rfl) (aux _ rfl)
def k135 (x0 : Family) (x1 : Int) (x2 : Int) (x3 : Int) : Cl:=(hres (C135 (l9Close x0 x1 x2 x3)),k3 (ok_spec_l9Close x0 x1 x2 x3))
def C100 (R : Bool) : LV × List (Nat × BC):=(.bool R,[])
def isAffine (x0 : Family) (x1 : Law) (x2 : Int) (x3 : Int) (x4 : Int) : Bool:=loopN (fun i1 (v1 : Unit) next=>bif ((((decide (((x0.unions.getD i1 default).from0) ≤ x4)) && (decide (0 ≤ (other (x0.unions.getD i1 default) x2)))) && (!decide ((other (x0.unions.getD i1 default) x2) = x3))) && (closeKin x0 (other (x0.unions.getD i1 default) x2) x3 x1.affinity)) then true else (next ())) (fun (v1 : Unit)=>false) x0.unions.length 0 ()
def D100b1 (x0 : Family) (x1 : Law) (x2 : Int) (x3 : Int) (x4 : Int) (i1 : Nat) (v1 : Unit) : Dl:=⟨[(17,.int .i64 ((i1 : Nat) : Int))],[]⟩
def A100b1 (x0 : Family) (x1 : Law) (x2 : Int) (x3 : Int) (x4 : Int) (i1 : Nat) (v1 : Unit) : Ann:=r0 1 [2,3,4,5,6,10,15,16,17,18] [5,6] (cn (decide (((i1 : Nat) : Int) < ((x0.unions.length : Nat) : Int))) (.reg 3 [] [(1002,k95 (x0.unions.getD i1 default) x2),(2019,cg (((decide (((x0.unions.getD i1 default).from0) ≤ x4)) && (decide (0 ≤ (other (x0.unions.getD i1 default) x2)))) && (!decide ((other (x0.unions.getD i1 default) x2) = x3))) (k98 x0 (other (x0.unions.getD i1 default) x2) x3 x1.affinity))] [2,3,4,5,6,10,15,16,17,44] [5,6] [decide (((x0.unions.getD i1 default).from0) ≤ x4),(decide (((x0.unions.getD i1 default).from0) ≤ x4)) && (decide (0 ≤ (other (x0.unions.getD i1 default) x2))),((decide (((x0.unions.getD i1 default).from0) ≤ x4)) && (decide (0 ≤ (other (x0.unions.getD i1 default) x2)))) && (!decide ((other (x0.unions.getD i1 default) x2) = x3))] [pf (0 ≤ (((i1 : Nat) : Int) : Int) ∧ (((i1 : Nat) : Int) : Int) < ((x0.unions.length : Nat) : Int))] [] [0,4,1,1,5,5,5,9,9,9,9,9,8,9] (cn ((((decide (((x0.unions.getD i1 default).from0) ≤ x4)) && (decide (0 ≤ (other (x0.unions.getD i1 default) x2)))) && (!decide ((other (x0.unions.getD i1 default) x2) = x3))) && (closeKin x0 (other (x0.unions.getD i1 default) x2) x3 x1.affinity)) (r0 1 [2,3,4,5,6,10,15,16,17] [5,6] (rt [] (C100 true))) (r1 1 [2,3,4,5,6,10,15,16,17] [5,6] [pf (inR .i64 (((i1 : Nat) : Int) + 1))] [0] (.next 0 [] (D100b1 x0 x1 x2 x3 x4 (i1 + 1) ()))))) (r0 1 [10] [] (rt [] (C100 false))))
def A100 (x0 : Family) (x1 : Law) (x2 : Int) (x3 : Int) (x4 : Int) : Ann:=r0 1 [2,3,4,5,6,10] [5,6] (r0 1 [2,3,4,5,6,10,15,16,17] [5,6] (lp (D100b1 x0 x1 x2 x3 x4) [] [] [] (D100b1 x0 x1 x2 x3 x4 0 ()) (A100b1 x0 x1 x2 x3 x4)))
theorem ok_impl_isAffine (x0 : Family) (x1 : Law) (x2 : Int) (x3 : Int) (x4 : Int) (hx : x0.people.length ≤ 1048576) (hf : specIsFamily x0 = true) (h2 : 0 ≤ x2 ∧ x2 < x0.people.length) (h3 : 0 ≤ x3 ∧ x3 < x0.people.length) : FnT Try.prog 100 [.agg (cFamily false x0), .agg (cLaw false x1), .int .i64 x2, .int .i64 x3, .int .i64 x4] (C100 (isAffine x0 x1 x2 x3 x4)) := by
  have aux : ∀ R, isAffine x0 x1 x2 x3 x4 = R → slim (C100 R) (A100 x0 x1 x2 x3 x4) [] := by
    intro R hR
    refine rg trivial ?_
    refine rg trivial ?_
    revert hR;refine lN (fun i v=>True) (by trivial) rfl fun i1 v1 F1 hn1 hI1 hR hK1=>?_
    refine rg trivial ?_
    refine ⟨fun hc1=>?_,fun hc1=>?_⟩
    · have hii1 : i1 < x0.unions.length:=by have:=of_decide_eq_true hc1;omega
      replace hR:=loopN_step hR hii1
      refine rg ⟨by (intros;omega),trivial,fun hg0=>⟨by trivial,by trivial,by (have hn9:=fam_n hf;have hu9:=fam_u hf (k:=i1) hii1;have h91:=hu9.man;have h92:=hu9.woman;have h93:=hu9.from0;have h94:=hu9.to;have h9:=other_rng (x0.unions.getD i1 default) x2;simp only [decide_eq_true_eq,decide_eq_false_iff_not,Bool.and_eq_true,Bool.or_eq_true,not_t_iff] at *;omega),by trivial⟩,trivial⟩ ?_
      have hp1:=other_rng (x0.unions.getD i1 default) x2
      revert hR;refine cd (fun hc2 hR=>?_) fun hc2 hR=>?_
      ·
        refine rg trivial ?_
        exact congrArg C100 hR
      ·
        refine rg ⟨by ((try clear hR hK1);intros;(try simp only [decide_eq_true_eq,decide_eq_false_iff_not,Bool.or_eq_true,Bool.and_eq_true,or_f_iff,not_f_iff,not_t_iff,Bool.not_eq_true',inR] at *);(repeat' apply And.intro) <;> (first | (intros;omega) | (have hn9:=fam_n hf;omega))),trivial⟩ ?_
        exact hK1 () hii1 (by trivial) hR
    · obtain rfl : i1 = x0.unions.length:=by have:=of_decide_eq_false hc1;omega
      replace hR:=loopN_end hR (Nat.lt_irrefl _)
      refine rg trivial ?_
      exact congrArg C100 hR
  exact Fn.go 46 Try.func100 (by kernel_rfl) (by kernel_rfl) (by simp [C100,Frs,FrsL]) (A100 x0 x1 x2 x3 x4) (by kernel_rfl) (aux _ rfl)
def k100 (x0 : Family) (x1 : Law) (x2 : Int) (x3 : Int) (x4 : Int) : Cl:=(hres (C100 (isAffine x0 x1 x2 x3 x4)),k4 (ok_impl_isAffine x0 x1 x2 x3 x4))
def C138 (R : Bool) : LV × List (Nat × BC):=(.bool R,[])
def l9Affine (x0 : Family) (x1 : Int) (x2 : Int) (x3 : Int) (x4 : Int) : Bool:=loopN (fun i1 (v1 : Unit) next=>bif (((((l1Other (x0.unions.getD i1 default) x1).2) && (!decide (((l1Other (x0.unions.getD i1 default) x1).1) = x2))) && (decide (((x0.unions.getD i1 default).from0) ≤ x3))) && (l9Close x0 ((l1Other (x0.unions.getD i1 default) x1).1) x2 x4)) then true else (next ())) (fun (v1 : Unit)=>false) x0.unions.length 0 ()
def D138b1 (x0 : Family) (x1 : Int) (x2 : Int) (x3 : Int) (x4 : Int) (i1 : Nat) (v1 : Unit) : Dl:=⟨[(18,.int .i64 ((i1 : Nat) : Int))],[]⟩
def A138b1 (x0 : Family) (x1 : Int) (x2 : Int) (x3 : Int) (x4 : Int) (i1 : Nat) (v1 : Unit) : Ann:=r0 1 [1,2,3,4,5,10,16,17,18,19] [5] (cn (decide (((i1 : Nat) : Int) < ((x0.unions.length : Nat) : Int))) (.reg 3 [] [(1002,k139 (x0.unions.getD i1 default) x1),(2017,cg ((((l1Other (x0.unions.getD i1 default) x1).2) && (!decide (((l1Other (x0.unions.getD i1 default) x1).1) = x2))) && (decide (((x0.unions.getD i1 default).from0) ≤ x3))) (k135 x0 ((l1Other (x0.unions.getD i1 default) x1).1) x2 x4))] [1,2,3,4,5,10,16,17,18,46] [5] [(l1Other (x0.unions.getD i1 default) x1).2,((l1Other (x0.unions.getD i1 default) x1).2) && (!decide (((l1Other (x0.unions.getD i1 default) x1).1) = x2)),(((l1Other (x0.unions.getD i1 default) x1).2) && (!decide (((l1Other (x0.unions.getD i1 default) x1).1) = x2))) && (decide (((x0.unions.getD i1 default).from0) ≤ x3))] [pf (0 ≤ (((i1 : Nat) : Int) : Int) ∧ (((i1 : Nat) : Int) : Int) < ((x0.unions.length : Nat) : Int))] [] [0,4,1,1,1,5,5,5,5,9,9,9,9,8,9] (cn (((((l1Other (x0.unions.getD i1 default) x1).2) && (!decide (((l1Other (x0.unions.getD i1 default) x1).1) = x2))) && (decide (((x0.unions.getD i1 default).from0) ≤ x3))) && (l9Close x0 ((l1Other (x0.unions.getD i1 default) x1).1) x2 x4)) (r0 1 [1,2,3,4,5,10,16,17,18] [5] (rt [] (C138 true))) (r1 1 [1,2,3,4,5,10,16,17,18] [5] [pf (inR .i64 (((i1 : Nat) : Int) + 1))] [0] (.next 0 [] (D138b1 x0 x1 x2 x3 x4 (i1 + 1) ()))))) (r0 1 [10] [] (rt [] (C138 false))))
def A138 (x0 : Family) (x1 : Int) (x2 : Int) (x3 : Int) (x4 : Int) : Ann:=r0 1 [1,2,3,4,5,10] [5] (r0 1 [1,2,3,4,5,10,16,17,18] [5] (lp (D138b1 x0 x1 x2 x3 x4) [] [] [] (D138b1 x0 x1 x2 x3 x4 0 ()) (A138b1 x0 x1 x2 x3 x4)))
theorem ok_spec_l9Affine (x0 : Family) (x1 : Int) (x2 : Int) (x3 : Int) (x4 : Int) (hx : x0.people.length ≤ 1048576) (hu : x0.unions.length ≤ 1048576) (hn : ∀ p ∈ x0.people, p.name.length ≤ 1048576) : FnT Try.prog 138 [.agg (cFamily false x0), .int .i64 x1, .int .i64 x2, .int .i64 x3, .int .i64 x4] (C138 (l9Affine x0 x1 x2 x3 x4)) := by
  have aux : ∀ R, l9Affine x0 x1 x2 x3 x4 = R → slim (C138 R) (A138 x0 x1 x2 x3 x4) [] := by
    intro R hR
    refine rg trivial ?_
    refine rg trivial ?_
    revert hR;refine lN (fun i v=>True) (by trivial) rfl fun i1 v1 F1 hn1 hI1 hR hK1=>?_
    refine rg trivial ?_
    refine ⟨fun hc1=>?_,fun hc1=>?_⟩
    · have hii1 : i1 < x0.unions.length:=by have:=of_decide_eq_true hc1;omega
      replace hR:=loopN_step hR hii1
      refine rg ⟨by (intros;omega),trivial,fun hg0=>⟨by trivial,by trivial,by trivial⟩,trivial⟩ ?_
      revert hR;refine cd (fun hc2 hR=>?_) fun hc2 hR=>?_
      ·
        refine rg trivial ?_
        exact congrArg C138 hR
      ·
        refine rg ⟨by ( intros;simp only [inR];omega),trivial⟩ ?_
        exact hK1 () hii1 (by trivial) hR
    · obtain rfl : i1 = x0.unions.length:=by have:=of_decide_eq_false hc1;omega
      replace hR:=loopN_end hR (Nat.lt_irrefl _)
      refine rg trivial ?_
      exact congrArg C138 hR
  exact Fn.go 48 Try.func138 (by kernel_rfl) (by kernel_rfl) (by simp [C138,Frs,FrsL]) (A138 x0 x1 x2 x3 x4) (by kernel_rfl) (aux _ rfl)
def k138 (x0 : Family) (x1 : Int) (x2 : Int) (x3 : Int) (x4 : Int) : Cl:=(hres (C138 (l9Affine x0 x1 x2 x3 x4)),k3 (ok_spec_l9Affine x0 x1 x2 x3 x4))
end Go.Proofs.Ytkkijpibajigfaa
