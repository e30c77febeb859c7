import Derived.Test.YtaageiiodlfeiaaPR1
set_option maxHeartbeats 4000000
set_option linter.unusedSimpArgs false
set_option linter.unusedVariables false
namespace Go.Proofs.Ytaageiiodlfeiaa
open Go Go.Lite Go.Proofs
theorem inverseP_ok {p : List Int} (h : ∀ x ∈ p, 0 ≤ x ∧ x < p.length) : (inverseP p).length = p.length ∧ ∀ x ∈ inverseP p, 0 ≤ x ∧ x < p.length := by
  unfold inverseP
  refine loopN_to (fun i (v : List Int)=>v.length = p.length ∧ ∀ x ∈ v,0 ≤ x ∧ x < p.length) (fun (r : List Int)=>r.length = p.length ∧ ∀ x ∈ r,0 ≤ x ∧ x < p.length) ⟨List.length_replicate,fun x hx=>?_⟩ (fun i v next hi hv hn=>hn _ ⟨by rw [List.length_set];exact hv.1,fun x hx=>?_⟩) (fun v hv=>hv)
  · obtain ⟨h1,rfl⟩:=List.mem_replicate.1 hx
    exact ⟨Int.le_refl _,by show (0 : Int) < _;omega⟩
  · rcases List.mem_or_eq_of_mem_set hx with h1 | rfl
    · exact hv.2 x h1
    · exact ⟨by omega,by omega⟩
theorem composedP_ok {p q : List Int} {n : Nat} (h : ∀ x ∈ p, 0 ≤ x ∧ x < q.length) (hq : ∀ x ∈ q, 0 ≤ x ∧ x < n) : (composedP p q).length = p.length ∧ ∀ x ∈ composedP p q, 0 ≤ x ∧ x < n := by
  unfold composedP
  refine loopN_to (fun i (v : List Int)=>v.length = i ∧ ∀ x ∈ v,0 ≤ x ∧ x < n) (fun (r : List Int)=>r.length = p.length ∧ ∀ x ∈ r,0 ≤ x ∧ x < n) ⟨rfl,fun x hx=>absurd hx List.not_mem_nil⟩ (fun i v next hi hv hn=>hn _ ⟨by rw [List.length_append,hv.1];rfl,fun x hx=>?_⟩) (fun v hv=>hv)
  rcases List.mem_append.1 hx with h1 | h1
  · exact hv.2 x h1
  · rw [List.mem_singleton] at h1;subst h1
    have h2:=h _ (getD_mem (d:=default) hi)
    exact hq _ (getD_mem (d:=default) (by omega))
/-- Classes that are classes. -/
structure ClOk (c : Classes) : Prop where
  le : c.wife.length = c.child.length
  wl : c.wife.length ≤ 1000
  cl : c.child.length ≤ 1000
  wr : ∀ x ∈ c.wife,0 ≤ x ∧ x < c.wife.length
  cr : ∀ x ∈ c.child,0 ≤ x ∧ x < c.child.length
def C142 (R : (List Int)) : LV × List (Nat × BC):=(.own 0,[(0,.arr 1 R.length (rowOf (cInt .i64) R))])
def identL (x0 : Int) : (List Int):=loopN (fun i1 (v1 : (List Int)) next=>next (v1 ++ [((i1 : Nat) : Int)])) (fun (v1 : (List Int))=>v1) x0.toNat 0 ([] : List Int)
def D142b1 (x0 : Int) (i1 : Nat) (v1 : (List Int)) : Dl:=⟨[(6,.int .i64 ((i1 : Nat) : Int)),(3,.own 20003)],[(20003,.arr 1 v1.length (rowOf (cInt .i64) v1))]⟩
def A142b1 (x0 : Int) (i1 : Nat) (v1 : (List Int)) : Ann:=r0 1 [2,3,5,6,7] [20003] (cn (decide (((i1 : Nat) : Int) < x0)) (r0 1 [2,3,4,5,6] [20003] (.reg 1 [] [(2,bsC 11 (cInt .i64) ([((i1 : Nat) : Int)] : List Int)),(3,ap1 12 (cInt .i64) 8 v1 ((i1 : Nat) : Int))] [2,3,5,6] [12] [] [] [] [0,4] (r1 1 [2,3,5,6] [12] [pf (inR .i64 (((i1 : Nat) : Int) + 1))] [0] (.next 0 [(20003,some 12)] (D142b1 x0 (i1 + 1) (v1 ++ [((i1 : Nat) : Int)])))))) (r0 1 [2] [20003] (rt [(0,some 20003)] (C142 v1))))
def A142 (x0 : Int) : Ann:=r0 2 [0,2,3] [] (r0 1 [2,3,5,6] [] (lp (D142b1 x0) [] [] [(20003,none)] (D142b1 x0 0 ([] : List Int)) (A142b1 x0)))
theorem ok_impl_identity (x0 : Int) (h : 0 ≤ x0 ∧ x0 ≤ 1000) : FnT Try.prog 142 [.int .i64 x0] (C142 (identL x0)) := by
  have aux : ∀ R, identL x0 = R → slim (C142 R) (A142 x0) [] := by
    intro R hR
    refine rg trivial ?_
    refine rg trivial ?_
    revert hR;refine lN (fun i v=>v.length = i) (by (exact rfl)) rfl fun i1 v1 F1 hn1 hI1 hR hK1=>?_
    refine rg trivial ?_
    refine ⟨fun hc1=>?_,fun hc1=>?_⟩
    · have hii1 : i1 < x0.toNat:=by have:=of_decide_eq_true hc1;omega
      replace hR:=loopN_step hR hii1
      refine rg trivial ?_
      refine rg ⟨trivial,by omega,trivial⟩ ?_
      refine rg ⟨by ( intros;simp only [inR];omega),trivial⟩ ?_
      exact hK1 (v1 ++ [((i1 : Nat) : Int)]) hii1 (by (simp only [List.length_append,List.length_singleton];omega)) hR
    · obtain rfl : i1 = x0.toNat:=by have:=of_decide_eq_false hc1;omega
      replace hR:=loopN_end hR (Nat.lt_irrefl _)
      refine rg trivial ?_
      exact congrArg C142 hR
  exact Fn.go 15 Try.func142 (by kernel_rfl) (by kernel_rfl) (by simp [C142,Frs,FrsL,FrsB,rowOf,cInt,cBool,cStr,cSl,FrsL_app,cPerson,cUnion,cFamily,cClasses,cl01Cur,cStep,cKinType,cRule]) (A142 x0) (by kernel_rfl) (aux _ rfl)
def k142 (x0 : Int) : Cl:=(hres (C142 (identL x0)),k1 (ok_impl_identity x0))
def C144 (x0 : Classes) (x1 : Int) (x2 : Int) (R : (List Int)) : LV × List (Nat × BC):=(.ro false 1 R.length (rowOf (cInt .i64) R),[])
def stepPermP (x0 : Classes) (x1 : Int) (x2 : Int) : (List Int):=bif (decide (x1 = 1)) then (inverseP x0.child) else (bif (decide (x1 = 2)) then (composedP (inverseP x0.child) x0.wife) else (bif (decide (x1 = 5)) then (bif (decide (x1 = 5)) then (bif (decide (x2 = 1)) then x0.child else (composedP (inverseP x0.wife) x0.child)) else (bif (decide (x1 = 7)) then (inverseP x0.wife) else (bif (decide (x1 = 8)) then x0.wife else (identL ((x0.wife.length : Nat) : Int))))) else (bif (decide (x1 = 6)) then (bif (decide (x2 = 1)) then x0.child else (composedP (inverseP x0.wife) x0.child)) else (bif (decide (x1 = 7)) then (inverseP x0.wife) else (bif (decide (x1 = 8)) then x0.wife else (identL ((x0.wife.length : Nat) : Int)))))))
def A144 (x0 : Classes) (x1 : Int) (x2 : Int) : Ann:=r0 1 [1,2,3,6] [3] (r0 1 [2,3,6,7] [3] (r0 1 [2,3,6,7,8] [3] (cn (decide (x1 = 1)) (.reg 1 [] [(2,k177 x0.child)] [3,6] [3,1012] [] [] [] [0] (rt [] (C144 x0 x1 x2 (inverseP x0.child)))) (r0 1 [2,3,6,7,13] [3] (cn (decide (x1 = 2)) (.reg 1 [] [(2,k177 x0.child),(5,k143 (inverseP x0.child) x0.wife)] [3,6] [3,1020] [] [] [] [0,4] (rt [] (C144 x0 x1 x2 (composedP (inverseP x0.child) x0.wife)))) (r0 1 [2,3,6,7,21] [3] (cn (decide (x1 = 5)) (cn (decide (x1 = 5)) (r0 1 [3,6,25] [3] (cn (decide (x2 = 1)) (r0 1 [3,6] [3] (rt [] (C144 x0 x1 x2 x0.child))) (.reg 1 [] [(2,k177 x0.wife),(5,k143 (inverseP x0.wife) x0.child)] [3,6] [3,1033] [] [] [] [0,4] (rt [] (C144 x0 x1 x2 (composedP (inverseP x0.wife) x0.child)))))) (r0 1 [3,6,7,34] [3] (cn (decide (x1 = 7)) (.reg 1 [] [(2,k177 x0.wife)] [3,6] [3,1038] [] [] [] [0] (rt [] (C144 x0 x1 x2 (inverseP x0.wife)))) (r0 1 [3,6,39] [3] (cn (decide (x1 = 8)) (r0 1 [3,6] [3] (rt [] (C144 x0 x1 x2 x0.wife))) (.reg 1 [] [(3,k142 ((x0.wife.length : Nat) : Int))] [6] [1046] [] [] [] [0] (rt [] (C144 x0 x1 x2 (identL ((x0.wife.length : Nat) : Int)))))))))) (r0 1 [2,3,6,7,21] [3] (cn (decide (x1 = 6)) (r0 1 [3,6,25] [3] (cn (decide (x2 = 1)) (r0 1 [3,6] [3] (rt [] (C144 x0 x1 x2 x0.child))) (.reg 1 [] [(2,k177 x0.wife),(5,k143 (inverseP x0.wife) x0.child)] [3,6] [3,1033] [] [] [] [0,4] (rt [] (C144 x0 x1 x2 (composedP (inverseP x0.wife) x0.child)))))) (r0 1 [3,6,7,34] [3] (cn (decide (x1 = 7)) (.reg 1 [] [(2,k177 x0.wife)] [3,6] [3,1038] [] [] [] [0] (rt [] (C144 x0 x1 x2 (inverseP x0.wife)))) (r0 1 [3,6,39] [3] (cn (decide (x1 = 8)) (r0 1 [3,6] [3] (rt [] (C144 x0 x1 x2 x0.wife))) (.reg 1 [] [(3,k142 ((x0.wife.length : Nat) : Int))] [6] [1046] [] [] [] [0] (rt [] (C144 x0 x1 x2 (identL ((x0.wife.length : Nat) : Int))))))))))))))))))
theorem ok_impl_stepPermutation (x0 : Classes) (x1 : Int) (x2 : Int) (hc : ClOk x0) : FnMT Try.prog 144 [.agg (cClasses false x0), .int .i64 x1, .int .i64 x2] [] (C144 x0 x1 x2 (stepPermP x0 x1 x2)) := by
  have aux : ∀ R, stepPermP x0 x1 x2 = R → slim (C144 x0 x1 x2 R) (A144 x0 x1 x2) [] := by
    intro R hR
    refine rg trivial ?_
    refine rg trivial ?_
    refine rg trivial ?_
    revert hR;refine cd (fun hc1 hR=>?_) fun hc1 hR=>?_
    ·
      refine rg ⟨⟨by (exact hc.cl),by (exact hc.cr)⟩,trivial⟩ ?_
      exact congrArg (C144 x0 x1 x2) hR
    ·
      refine rg trivial ?_
      revert hR;refine cd (fun hc2 hR=>?_) fun hc2 hR=>?_
      ·
        refine rg ⟨⟨by (exact hc.cl),by (exact hc.cr)⟩,⟨by (exact (inverseP_ok hc.cr).1 ▸ hc.cl),by (exact hc.wl),by (have h9:=hc.le;have h7:=inverseP_ok hc.cr;rw [h9];exact h7.2)⟩,trivial⟩ ?_
        exact congrArg (C144 x0 x1 x2) hR
      ·
        refine rg trivial ?_
        revert hR;refine cd (fun hc3 hR=>?_) fun hc3 hR=>?_
        ·
          revert hR;refine cd (fun hc4 hR=>?_) fun hc4 hR=>?_
          ·
            refine rg trivial ?_
            revert hR;refine cd (fun hc5 hR=>?_) fun hc5 hR=>?_
            ·
              refine rg trivial ?_
              exact congrArg (C144 x0 x1 x2) hR
            ·
              refine rg ⟨⟨by (exact hc.wl),by (exact hc.wr)⟩,⟨by (have h9:=hc.wl;have h8:=hc.cl;have h7:=inverseP_ok hc.cr;have h6:=inverseP_ok hc.wr;omega),by (exact hc.cl),by (have h9:=hc.le;have h7:=inverseP_ok hc.wr;rw [← h9];exact h7.2)⟩,trivial⟩ ?_
              exact congrArg (C144 x0 x1 x2) hR
          ·
            refine rg trivial ?_
            revert hR;refine cd (fun hc6 hR=>?_) fun hc6 hR=>?_
            ·
              refine rg ⟨⟨by (exact hc.wl),by (exact hc.wr)⟩,trivial⟩ ?_
              exact congrArg (C144 x0 x1 x2) hR
            ·
              refine rg trivial ?_
              revert hR;refine cd (fun hc7 hR=>?_) fun hc7 hR=>?_
              ·
                refine rg trivial ?_
                exact congrArg (C144 x0 x1 x2) hR
              ·
                refine rg ⟨by (exact ⟨Int.natCast_nonneg _,by have h9:=hc.wl;omega⟩),trivial⟩ ?_
                exact congrArg (C144 x0 x1 x2) hR
        ·
          refine rg trivial ?_
          revert hR;refine cd (fun hc8 hR=>?_) fun hc8 hR=>?_
          ·
            refine rg trivial ?_
            revert hR;refine cd (fun hc9 hR=>?_) fun hc9 hR=>?_
            ·
              refine rg trivial ?_
              exact congrArg (C144 x0 x1 x2) hR
            ·
              refine rg ⟨⟨by (exact hc.wl),by (exact hc.wr)⟩,⟨by (have h9:=hc.wl;have h8:=hc.cl;have h7:=inverseP_ok hc.cr;have h6:=inverseP_ok hc.wr;omega),by (exact hc.cl),by (have h9:=hc.le;have h7:=inverseP_ok hc.wr;rw [← h9];exact h7.2)⟩,trivial⟩ ?_
              exact congrArg (C144 x0 x1 x2) hR
          ·
            refine rg trivial ?_
            revert hR;refine cd (fun hc10 hR=>?_) fun hc10 hR=>?_
            ·
              refine rg ⟨⟨by (exact hc.wl),by (exact hc.wr)⟩,trivial⟩ ?_
              exact congrArg (C144 x0 x1 x2) hR
            ·
              refine rg trivial ?_
              revert hR;refine cd (fun hc11 hR=>?_) fun hc11 hR=>?_
              ·
                refine rg trivial ?_
                exact congrArg (C144 x0 x1 x2) hR
              ·
                refine rg ⟨by (exact ⟨Int.natCast_nonneg _,by have h9:=hc.wl;omega⟩),trivial⟩ ?_
                exact congrArg (C144 x0 x1 x2) hR
  exact FnM.go 47 Try.func144 (by kernel_rfl) (by kernel_rfl) (A144 x0 x1 x2) (by kernel_rfl) (aux _ rfl)
def k144 (d : Nat) (ids : List Nat) (x0 : Classes) (x1 : Int) (x2 : Int) : Cl:=(hresM d ids (C144 x0 x1 x2 (stepPermP x0 x1 x2)),k1 (ok_impl_stepPermutation x0 x1 x2))
theorem perm_rng {p : List Int} (h : specIsPerm p = true) : ∀ x ∈ p, 0 ≤ x ∧ x < p.length := by
  have all : ∀ j, j < p.length → 0 ≤ p.getD j default ∧ p.getD j default < p.length := by
    revert h
    unfold specIsPerm l1Inverse
    refine loopN_to (fun _ _=>True) (fun (r : List Int × Bool)=>r.2 = true → ∀ j,j < p.length → 0 ≤ p.getD j default ∧ p.getD j default < p.length) trivial (fun i v next _ _ hn=>hn _ trivial) (fun v _=>?_)
    refine cond_both (p:=fun (r : List Int × Bool)=>r.2 = true → ∀ j,j < p.length → 0 ≤ p.getD j default ∧ p.getD j default < p.length) (fun _ h=>nomatch h) (fun _=>?_)
    refine loopN_to (fun i _=>∀ j,j < i → 0 ≤ p.getD j default ∧ p.getD j default < p.length) (fun (r : List Int × Bool)=>r.2 = true → ∀ j,j < p.length → 0 ≤ p.getD j default ∧ p.getD j default < p.length) (fun j hj=>absurd hj (Nat.not_lt_zero _)) (fun i v next hi hv hn=>?_) (fun v hv _=>hv)
    refine cond_both (p:=fun (r : List Int × Bool)=>r.2 = true → ∀ j,j < p.length → 0 ≤ p.getD j default ∧ p.getD j default < p.length) (fun _ h=>nomatch h) (fun c=>hn _ fun j hj=>?_)
    simp only [or_f_iff,decide_eq_false_iff_not] at c
    by_cases e : j = i
    · subst e;omega
    · exact hv j (by omega)
  intro x hx
  obtain ⟨k,hk,e⟩:=mem_getD (d:=default) hx
  rw [← e];exact all k hk
theorem cls_ok {c : Classes} (h : specIsClasses c = true) : ClOk c ∧ 1 ≤ c.wife.length ∧ c.wife.length ≤ 8 := by
  unfold specIsClasses l1In at h
  simp only [Bool.and_eq_true,decide_eq_true_eq] at h
  obtain ⟨⟨⟨h1,h2⟩,h3⟩,h4⟩:=h
  exact ⟨⟨by omega,by omega,by omega,perm_rng h3,perm_rng h4⟩,by omega,by omega⟩
theorem identL_ok (n : Int) (hn : 0 ≤ n) : (identL n).length = n.toNat ∧ ∀ x ∈ identL n, 0 ≤ x ∧ x < n := by
  unfold identL
  refine loopN_to (fun i (v : List Int)=>v.length = i ∧ ∀ x ∈ v,0 ≤ x ∧ x < n) (fun (r : List Int)=>r.length = n.toNat ∧ ∀ x ∈ r,0 ≤ x ∧ x < n) ⟨rfl,fun x hx=>absurd hx List.not_mem_nil⟩ (fun i v next hi hv hn2=>hn2 _ ⟨by rw [List.length_append,hv.1];rfl,fun x hx=>?_⟩) (fun v hv=>hv)
  rcases List.mem_append.1 hx with h1 | h1
  · exact hv.2 x h1
  · rw [List.mem_singleton] at h1;subst h1;omega
theorem stepPermP_ok {c : Classes} (hc : ClOk c) (k s : Int) : (stepPermP c k s).length = c.wife.length ∧ ∀ x ∈ stepPermP c k s, 0 ≤ x ∧ x < c.wife.length := by
  have hi:=inverseP_ok hc.cr
  have hw:=inverseP_ok hc.wr
  have le:=hc.le
  have e1 : ∀ x ∈ c.child,0 ≤ x ∧ x < (c.wife.length : Int):=fun x hx=>by have:=hc.cr x hx;omega
  have hi2 : ∀ x ∈ inverseP c.child,0 ≤ x ∧ x < (c.wife.length : Int):=fun x hx=>by have:=hi.2 x hx;omega
  have hw2 : ∀ x ∈ inverseP c.wife,0 ≤ x ∧ x < (c.child.length : Int):=fun x hx=>by have:=hw.2 x hx;omega
  have a1:=composedP_ok hi2 hc.wr
  have a2:=composedP_ok hw2 e1
  have a3:=identL_ok (c.wife.length : Int) (Int.natCast_nonneg _)
  unfold stepPermP
  repeat' refine cond_both (p:=fun (r : List Int)=>r.length = c.wife.length ∧ ∀ x ∈ r,0 ≤ x ∧ x < c.wife.length) (fun _=>?_) (fun _=>?_)
  all_goals first
    | exact ⟨by omega,hi2⟩
    | exact ⟨by rw [a1.1];omega,a1.2⟩
    | exact ⟨by omega,e1⟩
    | exact ⟨by rw [a2.1];omega,a2.2⟩
    | exact ⟨hw.1,hw.2⟩
    | exact ⟨rfl,hc.wr⟩
    | exact ⟨by rw [a3.1];omega,a3.2⟩
def C92 (R : (List Int) × Bool) : LV × List (Nat × BC):=(.tup [.own 0,.bool R.2],[(0,.arr 1 R.1.length (rowOf (cInt .i64) R.1))])
def typePermP (x0 : Classes) (x1 : KinType) : (List Int) × Bool:=bif (((!(implIsClasses x0)) || (!(implIsType x1))) || ((decide (0 < ((x1.steps.length : Nat) : Int))) && (decide ((egoOf x1) = 0)))) then (([] : List Int),false) else (loopN (fun i1 (v1 : (List Int)) next=>next (composedP v1 (stepPermP x0 ((x1.steps.getD i1 default).kind) (sexBefore x1 ((i1 : Nat) : Int))))) (fun (v1 : (List Int))=>(v1,true)) x1.steps.length 0 (identL ((x0.wife.length : Nat) : Int)))
def D92b1 (x0 : Classes) (x1 : KinType) (i1 : Nat) (v1 : (List Int)) : Dl:=⟨[(35,.int .i64 ((i1 : Nat) : Int)),(6,.own 20006)],[(20006,.arr 1 v1.length (rowOf (cInt .i64) v1))]⟩
def A92b1 (x0 : Classes) (x1 : KinType) (i1 : Nat) (v1 : (List Int)) : Ann:=r0 1 [2,3,4,5,6,33,34,35,36] [2,3,20006] (cn (decide (((i1 : Nat) : Int) < ((x1.steps.length : Nat) : Int))) (r1 1 [2,3,4,5,6,7,8,33,34,35] [2,3,8,20006] [pf (0 ≤ (((i1 : Nat) : Int) : Int) ∧ (((i1 : Nat) : Int) : Int) < ((x1.steps.length : Nat) : Int))] [0] (.reg 1 [] [(6,k145 x1 ((i1 : Nat) : Int)),(7,k144 47 [] x0 ((x1.steps.getD i1 default).kind) (sexBefore x1 ((i1 : Nat) : Int))),(8,k143 v1 (stepPermP x0 ((x1.steps.getD i1 default).kind) (sexBefore x1 ((i1 : Nat) : Int))))] [2,3,4,5,6,33,34,35] [2,3,1048] [] [] [] [0,4,8] (r1 1 [2,3,4,5,6,33,34,35] [2,3,1048] [pf (inR .i64 (((i1 : Nat) : Int) + 1))] [0] (.next 0 [(20006,some 1048)] (D92b1 x0 x1 (i1 + 1) (composedP v1 (stepPermP x0 ((x1.steps.getD i1 default).kind) (sexBefore x1 ((i1 : Nat) : Int))))))))) (r0 1 [4,5] [20006] (rt [(0,some 20006)] (C92 (v1,true)))))
def A92 (x0 : Classes) (x1 : KinType) : Ann:=r0 1 [2,3,4,5] [2,3] (.reg 1 [] [(1,k42 x0),(5,cg (!(!(implIsClasses x0))) (k45 x1)),(15,cg ((!((!(implIsClasses x0)) || (!(implIsType x1)))) && (decide (0 < ((x1.steps.length : Nat) : Int)))) (k94 x1))] [2,3,4,5,27] [2,3] [!(!(implIsClasses x0)),!(implIsClasses x0),!((!(implIsClasses x0)) || (!(implIsType x1))),(!((!(implIsClasses x0)) || (!(implIsType x1)))) && (decide (0 < ((x1.steps.length : Nat) : Int))),(!(implIsClasses x0)) || (!(implIsType x1))] [gt (!((!(implIsClasses x0)) || (!(implIsType x1)))) (gt (decide (0 < ((x1.steps.length : Nat) : Int))) (pf (((!((!(implIsClasses x0)) || (!(implIsType x1)))) && (decide (0 < ((x1.steps.length : Nat) : Int)))) = true)))] [] [4,1,8,1,6,9,9,9,9,13,12,13,9,0,18] (cn (((!(implIsClasses x0)) || (!(implIsType x1))) || ((decide (0 < ((x1.steps.length : Nat) : Int))) && (decide ((egoOf x1) = 0)))) (r0 1 [2,3,4,5] [2,3] (rt [(0,none)] (C92 (([] : List Int),false)))) (.reg 1 [] [(3,k142 ((x0.wife.length : Nat) : Int))] [2,3,4,5,6] [2,3,1031] [] [] [] [0] (r0 1 [2,3,4,5,6,33,34,35] [2,3,1031] (lp (D92b1 x0 x1) [] [1031] [(20006,some 1031)] (D92b1 x0 x1 0 (identL ((x0.wife.length : Nat) : Int))) (A92b1 x0 x1))))))
theorem ok_impl_TypePermutation (x0 : Classes) (x1 : KinType) (hw : x0.wife.length ≤ 1048576 ∧ x0.child.length ≤ 1048576) (hs : x1.steps.length ≤ 1048576) : FnT Try.prog 92 [.agg (cClasses false x0), .agg (cKinType false x1)] (C92 (typePermP x0 x1)) := by
  have aux : ∀ R, typePermP x0 x1 = R → slim (C92 R) (A92 x0 x1) [] := by
    intro R hR
    refine rg trivial ?_
    refine rg ⟨by ((intro h8 h9;rw [h8,h9];rfl)),by with_reducible assumption,fun hg0=>by with_reducible assumption,fun hg0=>by with_reducible assumption,trivial⟩ ?_
    revert hR;refine cd (fun hc1 hR=>?_) fun hc1 hR=>?_
    ·
      refine rg trivial ?_
      exact congrArg C92 hR
    ·
      refine rg ⟨by (have h9:=cls_ok (c:=x0) (by rw [← classes_eq];simp only [or_f_iff,not_f_iff] at hc1;exact hc1.1.1);omega),trivial⟩ ?_
      refine rg trivial ?_
      revert hR;refine lN (fun i v=>(v : List Int).length = x0.wife.length ∧ ∀ x ∈ (v : List Int),0 ≤ x ∧ x < x0.wife.length) (by (have h9:=cls_ok (c:=x0) (by rw [← classes_eq];simp only [or_f_iff,not_f_iff] at hc1;exact hc1.1.1);have h8:=identL_ok (x0.wife.length : Int) (Int.natCast_nonneg _);exact ⟨by rw [h8.1];omega,h8.2⟩)) rfl fun i1 v1 F1 hn1 hI1 hR hK1=>?_
      refine rg trivial ?_
      refine ⟨fun hc2=>?_,fun hc2=>?_⟩
      · have hii1 : i1 < x1.steps.length:=by have:=of_decide_eq_true hc2;omega
        replace hR:=loopN_step hR hii1
        refine rg ⟨by (intros;omega),trivial⟩ ?_
        refine rg ⟨⟨by with_reducible assumption,by (intros;omega)⟩,by (have h9:=cls_ok (c:=x0) (by rw [← classes_eq];simp only [or_f_iff,not_f_iff] at hc1;exact hc1.1.1);exact h9.1),⟨by (have h9:=cls_ok (c:=x0) (by rw [← classes_eq];simp only [or_f_iff,not_f_iff] at hc1;exact hc1.1.1);omega),by (have h9:=cls_ok (c:=x0) (by rw [← classes_eq];simp only [or_f_iff,not_f_iff] at hc1;exact hc1.1.1);have h8:=stepPermP_ok h9.1 (x1.steps.getD i1 default).kind (sexBefore x1 (i1 : Int));omega),by (have h9:=cls_ok (c:=x0) (by rw [← classes_eq];simp only [or_f_iff,not_f_iff] at hc1;exact hc1.1.1);have h8:=stepPermP_ok h9.1 (x1.steps.getD i1 default).kind (sexBefore x1 (i1 : Int));rw [h8.1];exact hI1.2)⟩,trivial⟩ ?_
        refine rg ⟨by ( intros;simp only [inR];omega),trivial⟩ ?_
        exact hK1 (composedP v1 (stepPermP x0 ((x1.steps.getD i1 default).kind) (sexBefore x1 ((i1 : Nat) : Int)))) hii1 (by (have h9:=cls_ok (c:=x0) (by rw [← classes_eq];simp only [or_f_iff,not_f_iff] at hc1;exact hc1.1.1);have h8:=stepPermP_ok h9.1 (x1.steps.getD i1 default).kind (sexBefore x1 (i1 : Int));have h7:=composedP_ok (p:=v1) (by rw [h8.1];exact hI1.2) h8.2;exact ⟨h7.1.trans hI1.1,h7.2⟩)) hR
      · obtain rfl : i1 = x1.steps.length:=by have:=of_decide_eq_false hc2;omega
        replace hR:=loopN_end hR (Nat.lt_irrefl _)
        refine rg trivial ?_
        exact congrArg C92 hR
  exact Fn.go 51 Try.func92 (by kernel_rfl) (by kernel_rfl) (by simp [C92,Frs,FrsL,FrsB,rowOf,cInt,cBool,cStr,cSl,FrsL_app,cPerson,cUnion,cFamily,cClasses,cl01Cur,cStep,cKinType,cRule]) (A92 x0 x1) (by kernel_rfl) (aux _ rfl)
def k92 (x0 : Classes) (x1 : KinType) : Cl:=(hres (C92 (typePermP x0 x1)),k2 (ok_impl_TypePermutation x0 x1))
theorem typePermP_ok {c : Classes} {t : KinType} (h : (typePermP c t).2 = true) : (ClOk c ∧ c.wife.length ≤ 8) ∧ specIsType t = true ∧ (typePermP c t).1.length = c.wife.length ∧ ∀ x ∈ (typePermP c t).1, 0 ≤ x ∧ x < c.wife.length := by
  revert h
  unfold typePermP
  refine cond_both (p:=fun (r : List Int × Bool)=>r.2 = true → (ClOk c ∧ c.wife.length ≤ 8) ∧ specIsType t = true ∧ r.1.length = c.wife.length ∧ ∀ x ∈ r.1,0 ≤ x ∧ x < c.wife.length) (fun _ h=>nomatch h) (fun c1=>?_)
  simp only [or_f_iff,not_f_iff] at c1
  obtain ⟨hk,h1,h2⟩:=cls_ok (c:=c) (by rw [← classes_eq];exact c1.1.1)
  have ht : specIsType t = true:=by rw [← type_eq];exact c1.1.2
  have hi:=identL_ok (c.wife.length : Int) (Int.natCast_nonneg _)
  refine loopN_to (fun i (v : List Int)=>v.length = c.wife.length ∧ ∀ x ∈ v,0 ≤ x ∧ x < c.wife.length) (fun (r : List Int × Bool)=>r.2 = true → (ClOk c ∧ c.wife.length ≤ 8) ∧ specIsType t = true ∧ r.1.length = c.wife.length ∧ ∀ x ∈ r.1,0 ≤ x ∧ x < c.wife.length) ⟨by rw [hi.1];omega,hi.2⟩ (fun i v next hi hv hn=>hn _ ?_) (fun v hv _=>⟨⟨hk,h2⟩,ht,hv⟩)
  have h8:=stepPermP_ok hk (t.steps.getD i default).kind (sexBefore t ((i : Nat) : Int))
  have h7:=composedP_ok (p:=v) (by rw [h8.1];exact hv.2) h8.2
  exact ⟨h7.1.trans hv.1,h7.2⟩
theorem pw8 {i : Nat} (h : i < 3) : 8 ^ i ≤ 64:=Nat.le_trans (Nat.pow_le_pow_right (by decide) (show i ≤ 2 by omega)) (by decide)
theorem steps_snoc {l : List KinType} {u : KinType} {n : Nat} (h : ∀ t ∈ l, t.steps.length ≤ n) (hu : u.steps.length ≤ n) : ∀ t ∈ l ++ [u], t.steps.length ≤ n := fun t ht => by
  rcases List.mem_append.1 ht with h1 | h1
  · exact h t h1
  · rw [List.mem_singleton] at h1;rw [h1];exact hu
def C44 (R : Bool) : LV × List (Nat × BC):=(.bool R,[])
def allowsT (x0 : Classes) (x1 : KinType) : Bool:=((((typePermP x0 x1).2) && (sameIntsP ((typePermP x0 x1).1) x0.wife)) && (decide ((egoOf x1) = 1))) && (decide ((sexOf x1) = 2))
def A44 (x0 : Classes) (x1 : KinType) : Ann:=.reg 3 [] [(1002,k92 x0 x1),(2005,cg ((typePermP x0 x1).2) (k93 ((typePermP x0 x1).1) x0.wife)),(2009,cg (((typePermP x0 x1).2) && (sameIntsP ((typePermP x0 x1).1) x0.wife)) (k94 x1)),(2014,cg ((((typePermP x0 x1).2) && (sameIntsP ((typePermP x0 x1).1) x0.wife)) && (decide ((egoOf x1) = 1))) (k90 x1))] [4] [] [(typePermP x0 x1).2,((typePermP x0 x1).2) && (sameIntsP ((typePermP x0 x1).1) x0.wife),(((typePermP x0 x1).2) && (sameIntsP ((typePermP x0 x1).1) x0.wife)) && (decide ((egoOf x1) = 1))] [] [] [0,1,1,1,4,1,5,8,5,5,9,12,9,9] (rt [] (C44 (((((typePermP x0 x1).2) && (sameIntsP ((typePermP x0 x1).1) x0.wife)) && (decide ((egoOf x1) = 1))) && (decide ((sexOf x1) = 2)))))
theorem ok_impl_AllowsType (x0 : Classes) (x1 : KinType) (hw : x0.wife.length ≤ 1048576 ∧ x0.child.length ≤ 1048576) (hs : x1.steps.length ≤ 1048576) : FnT Try.prog 44 [.agg (cClasses false x0), .agg (cKinType false x1)] (C44 (allowsT x0 x1)) := by
  have aux : ∀ R, allowsT x0 x1 = R → slim (C44 R) (A44 x0 x1) [] := by
    intro R hR
    refine rg ⟨⟨by with_reducible assumption,by with_reducible assumption⟩,fun hg0=>⟨by (have h9:=typePermP_ok (c:=x0) (t:=x1) (by assumption);omega),by (have h9:=typePermP_ok (c:=x0) (t:=x1) (by assumption);omega)⟩,fun hg0=>by with_reducible assumption,fun hg0=>by with_reducible assumption,trivial⟩ ?_
    exact congrArg C44 hR
  exact Fn.go 30 Try.func44 (by kernel_rfl) (by kernel_rfl) (by simp [C44,Frs,FrsL]) (A44 x0 x1) (by kernel_rfl) (aux _ rfl)
def k44 (x0 : Classes) (x1 : KinType) : Cl:=(hres (C44 (allowsT x0 x1)),k2 (ok_impl_AllowsType x0 x1))
end Go.Proofs.Ytaageiiodlfeiaa
