import Derived.Test.YtaageiiodlfeiaaV44
set_option maxHeartbeats 4000000
set_option linter.unusedSimpArgs false
set_option linter.unusedVariables false
namespace Go.Proofs.Ytaageiiodlfeiaa
open Go Go.Lite Go.Proofs
def C173 (R : (List Int)) : LV × List (Nat × BC):=(.own 0,[(0,.arr 1 R.length (rowOf (cInt .i64) R))])
def l1ByAge (x0 : Family) (x1 : List Int) (x2 : Int) : (List Int):=loopN (fun i1 (v1 : (List Int) × Bool) next=>bif ((!v1.2) && (l1Elder x0 x2 (x1.getD i1 default))) then (next (((v1.1 ++ [x2]) ++ [(x1.getD i1 default)]),true)) else (next ((v1.1 ++ [(x1.getD i1 default)]),v1.2))) (fun (v1 : (List Int) × Bool)=>bif (!v1.2) then (v1.1 ++ [x2]) else v1.1) x1.length 0 (([] : List Int),false)
def D173b1 (x0 : Family) (x1 : List Int) (x2 : Int) (i1 : Nat) (v1 : (List Int) × Bool) : Dl:=⟨[(14,.int .i64 ((i1 : Nat) : Int)),(7,.own 20007),(8,.bool v1.2)],[(20007,.arr 1 v1.1.length (rowOf (cInt .i64) v1.1))]⟩
def A173b1 (x0 : Family) (x1 : List Int) (x2 : Int) (i1 : Nat) (v1 : (List Int) × Bool) : Ann:=r0 1 [2,3,6,7,8,12,13,14,15] [3,20007] (cn (decide (((i1 : Nat) : Int) < ((x1.length : Nat) : Int))) (r1 1 [2,3,6,7,8,10,12,13,14] [3,20007] [pf (0 ≤ (((i1 : Nat) : Int) : Int) ∧ (((i1 : Nat) : Int) : Int) < ((x1.length : Nat) : Int))] [0] (.reg 1 [] [(6,cg (!v1.2) (k211 x0 x2 (x1.getD i1 default)))] [2,3,6,7,8,10,12,13,14,25] [3,20007] [!v1.2] [] [] [1,1,1,0,1] (cn ((!v1.2) && (l1Elder x0 x2 (x1.getD i1 default))) (.reg 1 [] [(2,bsC 28 (cInt .i64) ([x2] : List Int)),(3,ap1 29 (cInt .i64) 8 v1.1 x2)] [2,3,6,7,8,10,12,13,14] [3,29] [] [] [] [0,4] (r0 1 [2,3,6,7,8,10,12,13,14] [3,29] (.reg 1 [] [(2,bsC 32 (cInt .i64) ([(x1.getD i1 default)] : List Int)),(3,ap1 33 (cInt .i64) 8 (v1.1 ++ [x2]) (x1.getD i1 default))] [2,3,6,7,8,12,13,14] [3,33] [] [] [] [0,4] (r1 1 [2,3,6,7,8,12,13,14] [3,33] [pf (inR .i64 (((i1 : Nat) : Int) + 1))] [0] (.next 0 [(20007,some 33)] (D173b1 x0 x1 x2 (i1 + 1) (((v1.1 ++ [x2]) ++ [(x1.getD i1 default)]),true))))))) (.reg 1 [] [(2,bsC 32 (cInt .i64) ([(x1.getD i1 default)] : List Int)),(3,ap1 33 (cInt .i64) 8 v1.1 (x1.getD i1 default))] [2,3,6,7,8,12,13,14] [3,33] [] [] [] [0,4] (r1 1 [2,3,6,7,8,12,13,14] [3,33] [pf (inR .i64 (((i1 : Nat) : Int) + 1))] [0] (.next 0 [(20007,some 33)] (D173b1 x0 x1 x2 (i1 + 1) ((v1.1 ++ [(x1.getD i1 default)]),v1.2)))))))) (r0 1 [2,6,7,36] [20007] (cn (!v1.2) (.reg 1 [] [(2,bsC 39 (cInt .i64) ([x2] : List Int)),(3,ap1 40 (cInt .i64) 8 v1.1 x2)] [6,7] [40] [] [] [] [0,4] (r0 1 [6] [40] (rt [(0,some 40)] (C173 (v1.1 ++ [x2]))))) (r0 1 [6] [20007] (rt [(0,some 20007)] (C173 v1.1))))))
def A173 (x0 : Family) (x1 : List Int) (x2 : Int) : Ann:=.reg 3 [] [(1000,bsC 11 (cInt .i64) ([] : List Int))] [1,2,3,6,7,8] [3,11] [] [] [] [0] (r0 1 [2,3,6,7,8,12,13,14] [3,11] (lp (D173b1 x0 x1 x2) [] [11] [(20007,some 11)] (D173b1 x0 x1 x2 0 (([] : List Int),false)) (A173b1 x0 x1 x2)))
theorem ok_spec_l1ByAge (x0 : Family) (x1 : List Int) (x2 : Int) (hx : x0.people.length ≤ 1048576) (h1 : ∀ y ∈ x1, 0 ≤ y ∧ y < x0.people.length) (h2 : 0 ≤ x2 ∧ x2 < x0.people.length) (h3 : x1.length ≤ 1048576) : FnT Try.prog 173 [.agg (cFamily false x0), .ro false 1 x1.length (rowOf (cInt .i64) x1), .int .i64 x2] (C173 (l1ByAge x0 x1 x2)) := by
  have aux : ∀ R, l1ByAge x0 x1 x2 = R → slim (C173 R) (A173 x0 x1 x2) [] := by
    intro R hR
    refine rg ⟨trivial,trivial⟩ ?_
    refine rg trivial ?_
    revert hR;refine lN (fun i v=>v.1.length ≤ 2 * i) (by trivial) rfl fun i1 v1 F1 hn1 hI1 hR hK1=>?_
    refine rg trivial ?_
    refine ⟨fun hc1=>?_,fun hc1=>?_⟩
    · have hii1 : i1 < x1.length:=by have:=of_decide_eq_true hc1;omega
      replace hR:=loopN_step hR hii1
      refine rg ⟨by (intros;omega),trivial⟩ ?_
      refine rg ⟨fun hg0=>⟨by trivial,by trivial,by ((try clear hR hK1);intros;(try simp only [decide_eq_true_eq,decide_eq_false_iff_not,Bool.or_eq_true,Bool.and_eq_true,or_f_iff,not_f_iff,not_t_iff,Bool.not_eq_true',inR] at *);(repeat' apply And.intro) <;> (simp_all [inR];done))⟩,trivial⟩ ?_
      revert hR;refine cd (fun hc2 hR=>?_) fun hc2 hR=>?_
      ·
        refine rg ⟨trivial,by omega,trivial⟩ ?_
        refine rg trivial ?_
        refine rg ⟨trivial,by (simp;omega),trivial⟩ ?_
        refine rg ⟨by ( intros;simp only [inR];omega),trivial⟩ ?_
        exact hK1 (((v1.1 ++ [x2]) ++ [(x1.getD i1 default)]),true) hii1 (by ((try simp only [decide_eq_true_eq,decide_eq_false_iff_not,List.length_append,List.length_set,List.length_cons,List.length_nil,List.length_replicate] at *);omega)) hR
      ·
        refine rg ⟨trivial,by omega,trivial⟩ ?_
        refine rg ⟨by ( intros;simp only [inR];omega),trivial⟩ ?_
        exact hK1 ((v1.1 ++ [(x1.getD i1 default)]),v1.2) hii1 (by ((try simp only [decide_eq_true_eq,decide_eq_false_iff_not,List.length_append,List.length_set,List.length_cons,List.length_nil,List.length_replicate] at *);omega)) hR
    · obtain rfl : i1 = x1.length:=by have:=of_decide_eq_false hc1;omega
      replace hR:=loopN_end hR (Nat.lt_irrefl _)
      refine rg trivial ?_
      revert hR;refine cd (fun hc3 hR=>?_) fun hc3 hR=>?_
      ·
        refine rg ⟨trivial,by omega,trivial⟩ ?_
        refine rg trivial ?_
        exact congrArg C173 hR
      ·
        refine rg trivial ?_
        exact congrArg C173 hR
  exact Fn.go 42 Try.func173 (by kernel_rfl) (by kernel_rfl) (by simp [C173,Frs,FrsL,FrsB,rowOf,cInt,cBool,cStr,cSl,FrsL_app,cPerson,cUnion,cFamily,cClasses,cl01Cur]) (A173 x0 x1 x2) (by kernel_rfl) (aux _ rfl)
def k173 (x0 : Family) (x1 : List Int) (x2 : Int) : Cl:=(hres (C173 (l1ByAge x0 x1 x2)),k4 (ok_spec_l1ByAge x0 x1 x2))
end Go.Proofs.Ytaageiiodlfeiaa
