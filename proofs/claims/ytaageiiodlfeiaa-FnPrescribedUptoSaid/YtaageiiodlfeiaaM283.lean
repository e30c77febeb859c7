import Derived.Test.YtaageiiodlfeiaaM281
set_option maxHeartbeats 4000000
set_option linter.unusedSimpArgs false
set_option linter.unusedVariables false
namespace Go.Proofs.Ytaageiiodlfeiaa
open Go Go.Lite Go.Proofs
def C46 (R : Relation) : LV × List (Nat × BC):=(.agg [.int .i64 R.size,.own 0],[(0,.nest true 1 R.rows.length (nrOf (cInt .i64) R.rows))])
def relFor (x0 : Family) (x1 : KinType) : Relation:=bif ((!(implIsFamily x0)) || (!(implIsType x1))) then (Relation.mk 0 ([] : List (List Int))) else (loopN (fun i1 (v1 : Int × (List (List Int))) next=>next ((compRel (Relation.mk v1.1 v1.2) (stepRelP x0 (x1.steps.getD i1 default))).size,(compRel (Relation.mk v1.1 v1.2) (stepRelP x0 (x1.steps.getD i1 default))).rows)) (fun (v1 : Int × (List (List Int)))=>(Relation.mk v1.1 v1.2)) x1.steps.length 0 ((relatedF ((x0.people.length : Nat) : Int) (x1,x0)).size,(relatedF ((x0.people.length : Nat) : Int) (x1,x0)).rows))
def D46b1 (x0 : Family) (x1 : KinType) (i1 : Nat) (v1 : Int × (List (List Int))) : Dl:=⟨[(25,.int .i64 ((i1 : Nat) : Int))],[(30501,.nest true 1 v1.2.length (nrOf (cInt .i64) v1.2)),(5,.var [.int .i64 v1.1,.own 30501])]⟩
def A46b1 (x0 : Family) (x1 : KinType) (i1 : Nat) (v1 : Int × (List (List Int))) : Ann:=r0 1 [2,4,5,23,24,25,26] [2,4,5,30501] (cn (decide (((i1 : Nat) : Int) < ((x1.steps.length : Nat) : Int))) (r1 1 [2,4,5,7,23,24,25] [2,4,5,7,30501] [pf (0 ≤ (((i1 : Nat) : Int) : Int) ∧ (((i1 : Nat) : Int) : Int) < ((x1.steps.length : Nat) : Int))] [0] (.reg 1 [] [(3,k99 x0 (x1.steps.getD i1 default)),(4,k98 (Relation.mk v1.1 v1.2) (stepRelP x0 (x1.steps.getD i1 default)))] [2,4,5,23,24,25] [2,4,5,1033] [] [] [] [0,4] (r1 1 [2,4,5,23,24,25] [2,4,5,1033] [pf (inR .i64 (((i1 : Nat) : Int) + 1))] [0] (.next 0 [(30501,some 1033)] (D46b1 x0 x1 (i1 + 1) ((compRel (Relation.mk v1.1 v1.2) (stepRelP x0 (x1.steps.getD i1 default))).size,(compRel (Relation.mk v1.1 v1.2) (stepRelP x0 (x1.steps.getD i1 default))).rows)))))) (r0 1 [4] [4,30501] (rt [(0,some 30501)] (C46 (Relation.mk v1.1 v1.2)))))
def A46 (x0 : Family) (x1 : KinType) : Ann:=r0 1 [2,3,4] [2,3,4] (.reg 1 [] [(1,k87 x0),(5,cg (!(!(implIsFamily x0))) (k45 x1))] [2,3,4,15] [2,3,4] [!(!(implIsFamily x0)),!(implIsFamily x0)] [] [] [0,1,4,1,6] (cn ((!(implIsFamily x0)) || (!(implIsType x1))) (r0 1 [2,3,4] [2,3,4] (rt [(0,none)] (C46 (Relation.mk 0 ([] : List (List Int)))))) (.reg 1 [] [(4,k96F ((x0.people.length : Nat) : Int) (x1,x0))] [2,3,4,5] [2,3,4,5,1021] [] [] [] [0] (r0 1 [2,4,5,23,24,25] [2,4,5,1021] (lp (D46b1 x0 x1) [] [1021] [(30501,some 1021)] (D46b1 x0 x1 0 ((relatedF ((x0.people.length : Nat) : Int) (x1,x0)).size,(relatedF ((x0.people.length : Nat) : Int) (x1,x0)).rows)) (A46b1 x0 x1))))))
theorem ok_impl_RelationFor (x0 : Family) (x1 : KinType) (hx : x0.people.length ≤ 1048576) (hu : x0.unions.length ≤ 1048576) (hn : ∀ p ∈ x0.people, p.name.length ≤ 1048576) (hs : x1.steps.length ≤ 1048576) : FnT Try.prog 46 [.agg (cFamily false x0), .agg (cKinType false x1)] (C46 (relFor x0 x1)) := by
  have aux : ∀ R, relFor x0 x1 = R → slim (C46 R) (A46 x0 x1) [] := by
    intro R hR
    refine rg trivial ?_
    refine rg ⟨⟨by with_reducible assumption,by with_reducible assumption,by with_reducible assumption⟩,fun hg0=>by with_reducible assumption,trivial⟩ ?_
    revert hR;refine cd (fun hc1 hR=>?_) fun hc1 hR=>?_
    ·
      refine rg trivial ?_
      exact congrArg C46 hR
    ·
      refine rg ⟨⟨by ( intros;simp only [inR];omega),by with_reducible assumption⟩,trivial⟩ ?_
      refine rg trivial ?_
      revert hR;refine lN (fun i v=>RelOk 1048576 (Relation.mk v.1 v.2)) (by (exact relatedF_ok (n:=(x0.people.length : Int)) (by omega))) rfl fun i1 v1 F1 hn1 hI1 hR hK1=>?_
      refine rg trivial ?_
      refine ⟨fun hc2=>?_,fun hc2=>?_⟩
      · have hii1 : i1 < x1.steps.length:=by have:=of_decide_eq_true hc2;omega
        replace hR:=loopN_step hR hii1
        refine rg ⟨by (intros;omega),trivial⟩ ?_
        refine rg ⟨⟨by with_reducible assumption,by with_reducible assumption⟩,⟨by (exact hI1),by (exact stepRelP_ok hx _)⟩,trivial⟩ ?_
        refine rg ⟨by ( intros;simp only [inR];omega),trivial⟩ ?_
        exact hK1 ((compRel (Relation.mk v1.1 v1.2) (stepRelP x0 (x1.steps.getD i1 default))).size,(compRel (Relation.mk v1.1 v1.2) (stepRelP x0 (x1.steps.getD i1 default))).rows) hii1 (by (exact compRel_ok (r:=Relation.mk v1.1 v1.2) (s:=stepRelP x0 (x1.steps.getD i1 default)))) hR
      · obtain rfl : i1 = x1.steps.length:=by have:=of_decide_eq_false hc2;omega
        replace hR:=loopN_end hR (Nat.lt_irrefl _)
        refine rg trivial ?_
        exact congrArg C46 hR
  exact Fn.go 36 Try.func46 (by kernel_rfl) (by kernel_rfl) (by simp [C46,FrsN,nrOf,Frs,FrsL,FrsB,rowOf,cInt,cBool,cStr,cSl,FrsL_app,cPerson,cUnion,cFamily,cClasses,cl01Cur,cStep,cKinType,cRule,cRelation]) (A46 x0 x1) (by kernel_rfl) (aux _ rfl)
def k46 (x0 : Family) (x1 : KinType) : Cl:=(hres (C46 (relFor x0 x1)),k4 (ok_impl_RelationFor x0 x1))
theorem relFor_eq {x : Family} {t : KinType} (h : specIsFamily x = true) (ht : implIsType t = true) : relFor x t = Relation.mk (x.people.length : Int) (relRows x.people.length (relIs x t t.steps.length)) := by
  have hn:=(fam_n h).1
  unfold relFor
  rw [isFamily_eq,h,ht]
  simp only [Bool.not_true,Bool.or_false,cond_false]
  refine loopN_to (fun i (v : Int × List (List Int))=>Relation.mk v.1 v.2 = Relation.mk (x.people.length : Int) (relRows x.people.length (relIs x t i))) (fun (r : Relation)=>r = Relation.mk (x.people.length : Int) (relRows x.people.length (relIs x t t.steps.length))) (relatedF_eq _ _) (fun i v next hi hv hn2=>hn2 _ ?_) (fun v hv=>hv)
  show compRel (Relation.mk v.1 v.2) (stepRelP x (t.steps.getD i default)) = _
  rw [hv,stepRelP_eq,compRel_rows hn]
  show _ = Relation.mk _ (relRows _ fun a b=>relCompL a b _ (stepRelP x (t.steps.getD i default)))
  rw [stepRelP_eq]
theorem relFor_len {x : Family} {t : KinType} (h : specIsFamily x = true) (ht : implIsType t = true) : (relFor x t).rows.length = x.people.length:=by rw [relFor_eq h ht];exact relRows_len _ _
theorem rel_has {x : Family} {p : Int} {t : KinType} (h : ((!(implHas x [p])) || (!(implIsType t))) = false) : 0 ≤ p ∧ p < ((relFor x t).rows.length : Nat) := by
  simp only [or_f_iff,not_f_iff] at h
  have h1:=(implHas1 x p).1 h.1
  rw [relFor_len h1.1 h.2];exact h1.2
theorem typesFrom_ok (e n : Int) : (typesFrom e n).length ≤ 3000 ∧ ∀ t ∈ typesFrom e n, t.steps.length ≤ 3 := by
  unfold typesFrom
  refine cond_both (p:=fun (r : List KinType)=>r.length ≤ 3000 ∧ ∀ t ∈ r,t.steps.length ≤ 3) (fun _=>⟨Nat.zero_le _,fun t h=>absurd h List.not_mem_nil⟩) (fun c=>?_)
  simp only [or_f_iff,decide_eq_false_iff_not] at c
  have hn3 : n.toNat ≤ 3:=by omega
  refine loopN_to (fun i (v : List KinType × List KinType)=>(v.1.length ≤ 1000 * i ∧ v.2.length ≤ 8 ^ i) ∧ (∀ t ∈ v.1,t.steps.length ≤ 3) ∧ ∀ t ∈ v.2,t.steps.length ≤ i) (fun (r : List KinType)=>r.length ≤ 3000 ∧ ∀ t ∈ r,t.steps.length ≤ 3) ⟨⟨Nat.zero_le _,Nat.le_refl _⟩,fun t h=>absurd h List.not_mem_nil,fun t h=>by rw [List.mem_singleton.1 h];exact Nat.le_refl _⟩ (fun i v next hi hv hn=>?_) (fun v hv=>⟨by omega,hv.2.1⟩)
  have h8:=pw8 (i:=i) (by omega)
  refine loopN_to (fun j (w : List KinType)=>w.length ≤ 8 * j ∧ ∀ t ∈ w,t.steps.length ≤ i + 1) (fun (r : List KinType)=>r.length ≤ 3000 ∧ ∀ t ∈ r,t.steps.length ≤ 3) ⟨Nat.zero_le _,fun t h=>absurd h List.not_mem_nil⟩ (fun j w nx hj hw hn2=>?_) (fun w hw=>hn _ ⟨⟨?_,?_⟩,fun t ht=>?_,hw.2⟩)
  · refine loopW_to (fun (u : List KinType × Int)=>(1 ≤ u.2 ∧ u.2 ≤ 9) ∧ (u.1.length : Int) ≤ 8 * j + (u.2 - 1) ∧ ∀ t ∈ u.1,t.steps.length ≤ i + 1) (fun u=>((9 : Int) - u.2).toNat) (fun (r : List KinType)=>r.length ≤ 3000 ∧ ∀ t ∈ r,t.steps.length ≤ 3) (fun u next3 hu hn3=>?_) _ _ (by dsimp only;omega) ⟨by dsimp only;omega,by dsimp only;omega,hw.2⟩
    refine cond_both (p:=fun (r : List KinType)=>r.length ≤ 3000 ∧ ∀ t ∈ r,t.steps.length ≤ 3) (fun c1=>?_) (fun c1=>hn2 _ ⟨by omega,hu.2.2⟩)
    have c1:=of_decide_eq_true c1
    have hs:=hv.2.2 _ (getD_mem (d:=default) hj)
    refine cond_both (p:=fun (r : List KinType)=>r.length ≤ 3000 ∧ ∀ t ∈ r,t.steps.length ≤ 3) (fun _=>hn3 _ ⟨by dsimp only;omega,by simp only [List.length_append,List.length_cons,List.length_nil];omega,steps_snoc hu.2.2 (by simp only [copyType,List.length_append,List.length_cons,List.length_nil];omega)⟩ (by dsimp only;omega)) (fun _=>hn3 _ ⟨by dsimp only;omega,by dsimp only;omega,hu.2.2⟩ (by dsimp only;omega))
  · simp only [List.length_append];omega
  · show w.length ≤ 8 ^ (i + 1)
    rw [Nat.pow_succ];omega
  · rcases List.mem_append.1 ht with h | h
    · exact hv.2.1 t h
    · have:=hw.2 t h;omega
def C21 (R : (List Int)) : LV × List (Nat × BC):=(.own 0,[(0,.arr 1 R.length (rowOf (cInt .i64) R))])
def relatives (x0 : Family) (x1 : Int) (x2 : KinType) : (List Int):=bif ((!(implHas x0 [x1])) || (!(implIsType x2))) then ([] : List Int) else (((relFor x0 x2).rows).getD x1.toNat [])
def A21 (x0 : Family) (x1 : Int) (x2 : KinType) : Ann:=r0 1 [1,3,5,6] [3,5] (.reg 1 [] [(2,bsC 9 (cInt .i64) ([x1] : List Int)),(3,k39 x0 [x1]),(7,cg (!(!(implHas x0 [x1]))) (k45 x2))] [1,3,5,6,16] [3,5] [!(!(implHas x0 [x1])),!(implHas x0 [x1])] [] [] [0,4,1,8,1,6] (cn ((!(implHas x0 [x1])) || (!(implIsType x2))) (r0 1 [1,3,5,6] [3,5] (rt [(0,none)] (C21 ([] : List Int)))) (.reg 1 [] [(2,k46 x0 x2),(6,nTk (cInt .i64) ((relFor x0 x2).rows) x1.toNat 23)] [6] [23] [] [pf (0 ≤ (x1 : Int) ∧ (x1 : Int) < ((((relFor x0 x2).rows).length : Nat) : Int))] [] [4,0,8] (rt [(0,some 23)] (C21 (((relFor x0 x2).rows).getD x1.toNat []))))))
theorem ok_impl_RelativesOf (x0 : Family) (x1 : Int) (x2 : KinType) (hx : x0.people.length ≤ 1048576) (hu : x0.unions.length ≤ 1048576) (hn : ∀ p ∈ x0.people, p.name.length ≤ 1048576) (hs : x2.steps.length ≤ 1048576) : FnT Try.prog 21 [.agg (cFamily false x0), .int .i64 x1, .agg (cKinType false x2)] (C21 (relatives x0 x1 x2)) := by
  have aux : ∀ R, relatives x0 x1 x2 = R → slim (C21 R) (A21 x0 x1 x2) [] := by
    intro R hR
    refine rg trivial ?_
    refine rg ⟨trivial,⟨by with_reducible assumption,by with_reducible assumption,by with_reducible assumption,by ((simp only [List.length_cons,List.length_nil];omega))⟩,fun hg0=>by with_reducible assumption,trivial⟩ ?_
    revert hR;refine cd (fun hc1 hR=>?_) fun hc1 hR=>?_
    ·
      refine rg trivial ?_
      exact congrArg C21 hR
    ·
      refine rg ⟨by (exact rel_has hc1),⟨by with_reducible assumption,by with_reducible assumption,by with_reducible assumption,by with_reducible assumption⟩,trivial,trivial⟩ ?_
      exact congrArg C21 hR
  exact Fn.go 24 Try.func21 (by kernel_rfl) (by kernel_rfl) (by simp [C21,Frs,FrsL,FrsB,rowOf,cInt,cBool,cStr,cSl,FrsL_app,cPerson,cUnion,cFamily,cClasses,cl01Cur,cStep,cKinType,cRule,cRelation]) (A21 x0 x1 x2) (by kernel_rfl) (aux _ rfl)
def k21 (x0 : Family) (x1 : Int) (x2 : KinType) : Cl:=(hres (C21 (relatives x0 x1 x2)),k4 (ok_impl_RelativesOf x0 x1 x2))
def C19 (R : (List KinType)) : LV × List (Nat × BC):=(.own 0,[(0,.arr 2 R.length (rowOf (cKinType true) R))])
def allowedTy (x0 : Classes) (x1 : Int) : (List KinType):=bif (!(implIsClasses x0)) then ([] : List KinType) else (loopN (fun i1 (v1 : (List KinType)) next=>bif (allowsT x0 ((typesFrom 1 x1).getD i1 default)) then (next (v1 ++ [((typesFrom 1 x1).getD i1 default)])) else (next v1)) (fun (v1 : (List KinType))=>v1) ((typesFrom 1 x1).length) 0 ([] : List KinType))
def D19b1 (x0 : Classes) (x1 : Int) (i1 : Nat) (v1 : (List KinType)) : Dl:=⟨[(14,.int .i64 ((i1 : Nat) : Int)),(5,.own 20005)],[(20005,.arr 2 v1.length (rowOf (cKinType true) v1))]⟩
def A19b1 (x0 : Classes) (x1 : Int) (i1 : Nat) (v1 : (List KinType)) : Ann:=r0 1 [2,4,5,12,13,14,15] [2,1012,20005] (cn (decide (((i1 : Nat) : Int) < (((typesFrom 1 x1).length : Nat) : Int))) (.reg 2 [] [(1002,k44 x0 ((typesFrom 1 x1).getD i1 default))] [2,4,5,7,12,13,14,20] [2,7,1012,20005] [] [pf (0 ≤ (((i1 : Nat) : Int) : Int) ∧ (((i1 : Nat) : Int) : Int) < (((typesFrom 1 x1).length : Nat) : Int))] [] [0,4] (cn (allowsT x0 ((typesFrom 1 x1).getD i1 default)) (.reg 1 [] [(2,bsC 23 (cKinType true) ([((typesFrom 1 x1).getD i1 default)] : List KinType)),(3,ap1 24 (cKinType true) 32 v1 ((typesFrom 1 x1).getD i1 default))] [2,4,5,12,13,14] [2,24,1012] [] [] [] [0,4] (r1 1 [2,4,5,12,13,14] [2,24,1012] [pf (inR .i64 (((i1 : Nat) : Int) + 1))] [0] (.next 0 [(20005,some 24)] (D19b1 x0 x1 (i1 + 1) (v1 ++ [((typesFrom 1 x1).getD i1 default)]))))) (r1 1 [2,4,5,12,13,14] [2,1012,20005] [pf (inR .i64 (((i1 : Nat) : Int) + 1))] [0] (.next 0 [(20005,some 20005)] (D19b1 x0 x1 (i1 + 1) v1))))) (r0 1 [4] [20005] (rt [(0,some 20005)] (C19 v1))))
def A19 (x0 : Classes) (x1 : Int) : Ann:=r0 1 [1,2,4] [2] (.reg 1 [] [(1,k42 x0)] [1,2,4,10] [2] [] [] [] [0] (cn (!(implIsClasses x0)) (r0 1 [1,2,4] [2] (rt [(0,none)] (C19 ([] : List KinType)))) (r0 1 [1,2,4,5] [2] (.reg 1 [] [(1,k43 1 x1)] [2,4,5,12,13,14] [2,1012] [] [] [] [0] (lp (D19b1 x0 x1) [] [] [(20005,none)] (D19b1 x0 x1 0 ([] : List KinType)) (A19b1 x0 x1))))))
theorem ok_impl_AllowedTypes (x0 : Classes) (x1 : Int) (hw : x0.wife.length ≤ 1048576 ∧ x0.child.length ≤ 1048576) (hn3 : x1 ≤ 3) : FnT Try.prog 19 [.agg (cClasses false x0), .int .i64 x1] (C19 (allowedTy x0 x1)) := by
  have aux : ∀ R, allowedTy x0 x1 = R → slim (C19 R) (A19 x0 x1) [] := by
    intro R hR
    refine rg trivial ?_
    refine rg ⟨by with_reducible assumption,trivial⟩ ?_
    revert hR;refine cd (fun hc1 hR=>?_) fun hc1 hR=>?_
    ·
      refine rg trivial ?_
      exact congrArg C19 hR
    ·
      refine rg trivial ?_
      refine rg ⟨trivial,trivial⟩ ?_
      revert hR;refine lN (fun i v=>(v : List KinType).length ≤ i) (by ((have h9:=typesFrom_ok 1 x1;(try simp only [List.length_append,List.length_cons,List.length_nil]);omega))) rfl fun i1 v1 F1 hn1 hI1 hR hK1=>?_
      refine rg trivial ?_
      refine ⟨fun hc2=>?_,fun hc2=>?_⟩
      · have hii1 : i1 < (typesFrom 1 x1).length:=by have:=of_decide_eq_true hc2;omega
        replace hR:=loopN_step hR hii1
        refine rg ⟨by (intros;omega),⟨by with_reducible assumption,by ((have h9:=(typesFrom_ok 1 x1).2 _ (getD_mem (d:=default) hii1);omega))⟩,trivial⟩ ?_
        revert hR;refine cd (fun hc3 hR=>?_) fun hc3 hR=>?_
        ·
          refine rg ⟨trivial,by ((have h9:=typesFrom_ok 1 x1;(try simp only [List.length_append,List.length_cons,List.length_nil]);omega)),trivial⟩ ?_
          refine rg ⟨by ((try clear hR hK1);intros;(try simp only [decide_eq_true_eq,decide_eq_false_iff_not,Bool.or_eq_true,Bool.and_eq_true,or_f_iff,not_f_iff,not_t_iff,Bool.not_eq_true',inR] at *);(repeat' apply And.intro) <;> (first | (intros;omega) | ((have h9:=typesFrom_ok 1 x1;(try simp only [List.length_append,List.length_cons,List.length_nil]);omega)))),trivial⟩ ?_
          exact hK1 (v1 ++ [((typesFrom 1 x1).getD i1 default)]) hii1 (by ((have h9:=typesFrom_ok 1 x1;(try simp only [List.length_append,List.length_cons,List.length_nil]);omega))) hR
        ·
          refine rg ⟨by ((try clear hR hK1);intros;(try simp only [decide_eq_true_eq,decide_eq_false_iff_not,Bool.or_eq_true,Bool.and_eq_true,or_f_iff,not_f_iff,not_t_iff,Bool.not_eq_true',inR] at *);(repeat' apply And.intro) <;> (first | (intros;omega) | ((have h9:=typesFrom_ok 1 x1;(try simp only [List.length_append,List.length_cons,List.length_nil]);omega)))),trivial⟩ ?_
          exact hK1 v1 hii1 (by (intros;omega)) hR
      · obtain rfl : i1 = (typesFrom 1 x1).length:=by have:=of_decide_eq_false hc2;omega
        replace hR:=loopN_end hR (Nat.lt_irrefl _)
        refine rg trivial ?_
        exact congrArg C19 hR
  exact Fn.go 27 Try.func19 (by kernel_rfl) (by kernel_rfl) (by simp [C19,Frs,FrsL,FrsB,rowOf,cInt,cBool,cStr,cSl,FrsL_app,cPerson,cUnion,cFamily,cClasses,cl01Cur,cStep,cKinType,cRule,cRelation]) (A19 x0 x1) (by kernel_rfl) (aux _ rfl)
def k19 (x0 : Classes) (x1 : Int) : Cl:=(hres (C19 (allowedTy x0 x1)),k2 (ok_impl_AllowedTypes x0 x1))
/-- The classes that are drawn. -/
def Samp (c : Classes) : Prop:=c = ⟨[1,0,3,2],[3,2,1,0]⟩ ∨ c = ⟨[1,2,3,0],[0,1,2,3]⟩ ∨ c = ⟨[1,0],[0,1]⟩
def invP (p : List Int) : List Int:=bif specIsPerm p then (l1Inverse p (p.length : Int)).1 else []
/-- A permutation by which a class leads to another one. -/
def LinkP (p : List Int) : Prop:=p.length ≤ 8 ∧ (invP p).length = p.length ∧ (∀ y ∈ p,0 ≤ y ∧ y < p.length) ∧ ∀ y ∈ invP p,0 ≤ y ∧ y < p.length
theorem link_set {l : List Int} {n m i : Nat} {v : Int} (h : l.length = n ∧ ∀ y ∈ l, y < m) (hv : v < m) : (l.set i v).length = n ∧ ∀ y ∈ l.set i v, y < m := ⟨by rw [List.length_set]; exact h.1, fun y hy => by
  rcases List.mem_or_eq_of_mem_set hy with h1 | rfl
  · exact h.2 y h1
  · exact hv⟩
end Go.Proofs.Ytaageiiodlfeiaa
