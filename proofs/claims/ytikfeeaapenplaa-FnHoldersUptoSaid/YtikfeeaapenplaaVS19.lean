import Derived.Test.YtikfeeaapenplaaM120
set_option maxHeartbeats 4000000
set_option linter.unusedSimpArgs false
set_option linter.unusedVariables false
namespace Go.Proofs.Ytikfeeaapenplaa
open Go Go.Lite Go.Proofs
structure Custom where
  prefer : Int
  youngest : Bool
  represent : Bool
  deriving Inhabited
def cCustom (fr : Bool) (x : Custom) : List LV:=cInt .i64 x.prefer ++ cBool x.youngest ++ cBool x.represent

def C139 (R : (List Int)) : LV × List (Nat × BC):=(.own 0,[(0,.arr 1 R.length (rowOf (cInt .i64) R))])
def kidsOf (x0 : Int) (x1 : List Int) (x2 : Family) : (List Int):=loopN (fun i1 (v1 : (List Int)) next=>bif (decide (((x2.people.getD ((x1.getD i1 default).toNat) default).sex) = x0)) then (next (v1 ++ [(x1.getD i1 default)])) else (next v1)) (fun (v1 : (List Int))=>v1) x1.length 0 ([] : List Int)
def D139b1 (x0 : Int) (x1 : List Int) (x2 : Family) (i1 : Nat) (v1 : (List Int)) : Dl:=⟨[(10,.int .i64 ((i1 : Nat) : Int)),(5,.own 20005)],[(20005,.arr 1 v1.length (rowOf (cInt .i64) v1))]⟩
def A139b1 (x0 : Int) (x1 : List Int) (x2 : Family) (i1 : Nat) (v1 : (List Int)) : Ann:=r0 1 [0,2,4,5,8,9,10,11] [20005] (cn (decide (((i1 : Nat) : Int) < ((x1.length : Nat) : Int))) (r1 2 [0,2,4,5,7,8,9,10,21] [20005] [pf (0 ≤ (((i1 : Nat) : Int) : Int) ∧ (((i1 : Nat) : Int) : Int) < ((x1.length : Nat) : Int)),pf (0 ≤ ((x1.getD i1 default) : Int) ∧ ((x1.getD i1 default) : Int) < ((x2.people.length : Nat) : Int))] [0,4] (cn (decide (((x2.people.getD ((x1.getD i1 default).toNat) default).sex) = x0)) (.reg 1 [] [(2,bsC 24 (cInt .i64) ([(x1.getD i1 default)] : List Int)),(3,ap1 25 (cInt .i64) 8 v1 (x1.getD i1 default))] [0,2,4,5,8,9,10] [25] [] [] [] [0,4] (r1 1 [0,2,4,5,8,9,10] [25] [pf (inR .i64 (((i1 : Nat) : Int) + 1))] [0] (.next 0 [(20005,some 25)] (D139b1 x0 x1 x2 (i1 + 1) (v1 ++ [(x1.getD i1 default)]))))) (r1 1 [0,2,4,5,8,9,10] [20005] [pf (inR .i64 (((i1 : Nat) : Int) + 1))] [0] (.next 0 [(20005,some 20005)] (D139b1 x0 x1 x2 (i1 + 1) v1))))) (r0 1 [4] [20005] (rt [(0,some 20005)] (C139 v1))))
def A139 (x0 : Int) (x1 : List Int) (x2 : Family) : Ann:=r0 2 [0,1,2,4,5] [] (r0 1 [0,2,4,5,8,9,10] [] (lp (D139b1 x0 x1 x2) [] [] [(20005,none)] (D139b1 x0 x1 x2 0 ([] : List Int)) (A139b1 x0 x1 x2)))
theorem kidsOf_len (s : Int) (l : List Int) (f : Family) : (kidsOf s l f).length ≤ l.length := by
  unfold kidsOf
  exact loopN_to (fun i (v : List Int)=>v.length ≤ i) (fun (r : List Int)=>r.length ≤ l.length) (by simp) (fun i v next hi hv hn=>cond_both (p:=fun (r : List Int)=>r.length ≤ l.length) (fun _=>hn _ (by simp;omega)) (fun _=>hn _ (by omega))) (fun v hv=>hv)
theorem ok_swap {f : Family} {l : List Int} (h : ∀ c ∈ l, 0 ≤ c ∧ c < f.people.length) {i j a b : Nat} (hi : i < l.length) (hj : j < l.length) : ∀ c ∈ (l.set a (l.getD j default)).set b (l.getD i default), 0 ≤ c ∧ c < f.people.length := fun c hc => by
  rcases List.mem_or_eq_of_mem_set hc with hc | hc
  · rcases List.mem_or_eq_of_mem_set hc with hc | hc
    · exact h c hc
    · rw [hc];exact h _ (getD_mem hj)
  · rw [hc];exact h _ (getD_mem hi)
theorem ok_impl_orderChildren_1 (x0 : Int) (x1 : List Int) (x2 : Family) (hx : x1.length ≤ 1048576) (hk : ∀ c ∈ x1, 0 ≤ c ∧ c < x2.people.length) : FnT Try.prog 139 [.int .i64 x0, .ep [.ro false 1 x1.length (rowOf (cInt .i64) x1)] 0, .ep [.ro false 6 x2.people.length (rowOf (cPerson false) x2.people), .ro false 4 x2.unions.length (rowOf (cUnion false) x2.unions)] 0] (C139 (kidsOf x0 x1 x2)) := by
  have aux : ∀ R, kidsOf x0 x1 x2 = R → slim (C139 R) (A139 x0 x1 x2) [] := by
    intro R hR
    refine rg trivial ?_
    refine rg trivial ?_
    revert hR;refine lN (fun i v=>v.length ≤ i) (by trivial) rfl fun i1 v1 F1 hn1 hI1 hR hK1=>?_
    refine rg trivial ?_
    refine ⟨fun hc1=>?_,fun hc1=>?_⟩
    · have hii1 : i1 < x1.length := by have := of_decide_eq_true hc1; omega
      replace hR:=loopN_step hR hii1
      refine rg ⟨by (intros;omega),by ((try clear hR hK1);intros;(try simp only [decide_eq_true_eq,decide_eq_false_iff_not,Bool.or_eq_true,Bool.and_eq_true,or_f_iff,not_f_iff,not_t_iff,Bool.not_eq_true',inR] at *);(repeat' apply And.intro) <;> (simp_all [inR];done)),trivial⟩ ?_
      revert hR;refine cd (fun hc2 hR=>?_) fun hc2 hR=>?_
      ·
        refine rg ⟨trivial,by omega,trivial⟩ ?_
        refine rg ⟨by ( intros;simp only [inR];omega),trivial⟩ ?_
        exact hK1 (v1 ++ [(x1.getD i1 default)]) hii1 (by ((try simp only [decide_eq_true_eq,decide_eq_false_iff_not,List.length_append,List.length_set,List.length_cons,List.length_nil,List.length_replicate] at *);omega)) hR
      ·
        refine rg ⟨by ( intros;simp only [inR];omega),trivial⟩ ?_
        exact hK1 v1 hii1 (by (intros;omega)) hR
    · obtain rfl : i1 = x1.length := by have := of_decide_eq_false hc1; omega
      replace hR:=loopN_end hR (Nat.lt_irrefl _)
      refine rg trivial ?_
      exact congrArg C139 hR
  exact Fn.go 28 Try.func139 (by kernel_rfl) (by kernel_rfl) (by simp [C139,Frs,FrsL,FrsB,rowOf,cInt,cBool,cStr,cSl,FrsL_app,cPerson,cUnion,cFamily,cl01Cur]) (A139 x0 x1 x2) (by kernel_rfl) (aux _ rfl)
def k139 (x0 : Int) (x1 : List Int) (x2 : Family) : Cl:=(hres (C139 (kidsOf x0 x1 x2)),k2 (ok_impl_orderChildren_1 x0 x1 x2))
def C114 (R : (List Int)) : LV × List (Nat × BC):=(.own 0,[(0,.arr 1 R.length (rowOf (cInt .i64) R))])
def implOrder (x0 : Family) (x1 : Custom) (x2 : Int) : (List Int):=jn (fun K1=>bif x1.youngest then (loopW (fun (v1 : Int × Int × (List Int)) next=>bif (decide (v1.1 < v1.2.1)) then (next (v1.1 + 1,v1.2.1 - 1,((v1.2.2.set v1.1.toNat (v1.2.2.getD v1.2.1.toNat default)).set v1.2.1.toNat (v1.2.2.getD v1.1.toNat default)))) else (K1 v1.2.2)) (((((implKids x0 x2).length : Nat) : Int) - 1 - (0) + 2).toNat + 1) (0,(((implKids x0 x2).length : Nat) : Int) - 1,implKids x0 x2)) else (K1 (implKids x0 x2))) (fun (j1 : (List Int))=>bif (decide (x1.prefer = 1)) then ((kidsOf 1 j1 x0) ++ (kidsOf 2 j1 x0)) else (bif (decide (x1.prefer = 2)) then ((kidsOf 2 j1 x0) ++ (kidsOf 1 j1 x0)) else (bif (decide (x1.prefer = 3)) then (kidsOf 1 j1 x0) else (bif (decide (x1.prefer = 4)) then (kidsOf 2 j1 x0) else j1))))
def D114j1 (x0 : Family) (x1 : Custom) (x2 : Int) (j1 : (List Int)) : Dl:=⟨[],[(30700,.arr 1 j1.length (rowOf (cInt .i64) j1)),(7,.var [.own 30700])]⟩
def D114b1 (x0 : Family) (x1 : Custom) (x2 : Int) (v1 : Int × Int × (List Int)) : Dl:=⟨[(8,.int .i64 v1.1),(9,.int .i64 v1.2.1)],[(30700,.arr 1 v1.2.2.length (rowOf (cInt .i64) v1.2.2)),(7,.var [.own 30700])]⟩
def A114b1 (x0 : Family) (x1 : Custom) (x2 : Int) (v1 : Int × Int × (List Int)) : Ann:=r0 1 [3,4,6,7,8,9,21] [3,4,7,30700] (cn (decide (v1.1 < v1.2.1)) (.reg 1 [] [(13,stL 30700 (cInt .i64) v1.2.2 v1.1.toNat (v1.2.2.getD v1.2.1.toNat default)),(15,stL 30700 (cInt .i64) (v1.2.2.set v1.1.toNat (v1.2.2.getD v1.2.1.toNat default)) v1.2.1.toNat (v1.2.2.getD v1.1.toNat default))] [3,4,6,7,8,9] [3,4,7,30700] [] [pf (0 ≤ (v1.2.1 : Int) ∧ (v1.2.1 : Int) < ((v1.2.2.length : Nat) : Int)),pf (0 ≤ (v1.1 : Int) ∧ (v1.1 : Int) < ((v1.2.2.length : Nat) : Int)),pf (0 ≤ (v1.2.1 : Int) ∧ (v1.2.1 : Int) < (((v1.2.2.set v1.1.toNat (v1.2.2.getD v1.2.1.toNat default)).length : Nat) : Int))] [] [0,4,4,12,8,16] (r1 1 [3,4,6,7,8,9] [3,4,7,30700] [pf (inR .i64 (v1.1 + 1)),pf (inR .i64 (v1.2.1 - 1))] [0,4] (.next 0 [(30700,some 30700)] (D114b1 x0 x1 x2 (v1.1 + 1,v1.2.1 - 1,((v1.2.2.set v1.1.toNat (v1.2.2.getD v1.2.1.toNat default)).set v1.2.1.toNat (v1.2.2.getD v1.1.toNat default))))))) (.next 1 [(30700,some 30700)] (D114j1 x0 x1 x2 v1.2.2)))
def A114j1 (x0 : Family) (x1 : Custom) (x2 : Int) (j1 : (List Int)) : Ann:=r0 1 [4,6,7,10] [3,4,7,30700] (r0 1 [6,7,10,42] [3,7,30700] (r0 1 [6,7,10,42,43] [3,7,30700] (cn (decide (x1.prefer = 1)) (.reg 1 [] [(1,k139 1 j1 x0),(3,k139 2 j1 x0),(4,apC 49 (cInt .i64) 8 (kidsOf 1 j1 x0) (kidsOf 2 j1 x0))] [6,7] [7,49,30700] [] [] [] [0,4,8] (rt [(0,some 49)] (C114 ((kidsOf 1 j1 x0) ++ (kidsOf 2 j1 x0))))) (r0 1 [6,7,10,42,50] [3,7,30700] (cn (decide (x1.prefer = 2)) (.reg 1 [] [(1,k139 2 j1 x0),(3,k139 1 j1 x0),(4,apC 56 (cInt .i64) 8 (kidsOf 2 j1 x0) (kidsOf 1 j1 x0))] [6,7] [7,56,30700] [] [] [] [0,4,8] (rt [(0,some 56)] (C114 ((kidsOf 2 j1 x0) ++ (kidsOf 1 j1 x0))))) (r0 1 [6,7,10,42,57] [3,7,30700] (cn (decide (x1.prefer = 3)) (.reg 1 [] [(1,k139 1 j1 x0)] [6,7] [7,1060,30700] [] [] [] [0] (rt [(0,some 1060)] (C114 (kidsOf 1 j1 x0)))) (r0 1 [6,7,10,61] [3,7,30700] (cn (decide (x1.prefer = 4)) (.reg 1 [] [(1,k139 2 j1 x0)] [6,7] [7,1064,30700] [] [] [] [0] (rt [(0,some 1064)] (C114 (kidsOf 2 j1 x0)))) (r0 1 [6] [30700] (rt [(0,some 30700)] (C114 j1))))))))))))
def A114 (x0 : Family) (x1 : Custom) (x2 : Int) : Ann:=.reg 2 [] [(1002,k138 x0 x2)] [3,4,6,7] [3,4,7,1013] [] [] [] [0] (.join 0 (List Int) (D114j1 x0 x1 x2) [3,4,6,7] [3,4,7] (r0 1 [3,4,6,7,15] [3,4,7,1013] (cn x1.youngest (r1 1 [3,4,6,7,8,9] [3,4,7,1013] [pf (inR .i64 ((((implKids x0 x2).length : Nat) : Int) - 1))] [0] (.loop (Int × Int × (List Int)) (D114b1 x0 x1 x2) [] [1013] [(30700,some 1013)] (D114b1 x0 x1 x2 (0,(((implKids x0 x2).length : Nat) : Int) - 1,implKids x0 x2)) (A114b1 x0 x1 x2))) (.next 0 [(30700,some 1013)] (D114j1 x0 x1 x2 (implKids x0 x2))))) (A114j1 x0 x1 x2))
theorem ok_impl_orderChildren (x0 : Family) (x1 : Custom) (x2 : Int) (hf : x0.people.length ≤ 40) : FnT Try.prog 114 [.agg (cFamily false x0), .agg (cCustom false x1), .int .i64 x2] (C114 (implOrder x0 x1 x2)) := by
  have aux : ∀ R, implOrder x0 x1 x2 = R → slim (C114 R) (A114 x0 x1 x2) [] := by
    intro R hR
    refine rg ⟨by trivial,trivial⟩ ?_
    revert hR;refine jN (fun v=>(∀ c ∈ v,0 ≤ c ∧ c < x0.people.length) ∧ v.length ≤ 40) (fun F101 hR hJ101=>?_) (fun j1 hR hJ1=>?_)
    ·
      refine rg trivial ?_
      revert hR;refine cd (fun hc1 hR=>?_) fun hc1 hR=>?_
      ·
        refine rg ⟨by ((try clear hR hJ101);intros;(try simp only [decide_eq_true_eq,decide_eq_false_iff_not,Bool.or_eq_true,Bool.and_eq_true,or_f_iff,not_f_iff,not_t_iff,Bool.not_eq_true',inR] at *);(repeat' apply And.intro) <;> (first | (intros;omega) | (have h9:=implKids_ok x0 x2 hf;omega))),trivial⟩ ?_
        revert hR;refine lW (fun v=>(0 ≤ v.1 ∧ v.1 ≤ v.2.1 + 2 ∧ v.2.1 < v.2.2.length) ∧ (∀ c ∈ v.2.2,0 ≤ c ∧ c < x0.people.length) ∧ v.2.2.length ≤ 40) (fun v=>(v.2.1 - (v.1) + 2).toNat) (by ((try clear hR hJ101);intros;(try simp only [decide_eq_true_eq,decide_eq_false_iff_not,Bool.or_eq_true,Bool.and_eq_true,or_f_iff,not_f_iff,not_t_iff,Bool.not_eq_true',inR] at *);(repeat' apply And.intro) <;> (first | (intros;omega) | (have h9:=implKids_ok x0 x2 hf;omega) | (exact (implKids_ok x0 x2 hf).1)))) (Nat.lt_succ_self _) rfl fun m1 v1 F1 hI1 hM1 hR hK1=>?_
        refine rg trivial ?_
        revert hR;refine cd (fun hc2 hR=>?_) fun hc2 hR=>?_
        ·
          refine rg ⟨by (simp only [List.length_set,decide_eq_true_eq] at *;omega),by (simp only [List.length_set,decide_eq_true_eq] at *;omega),by (simp only [List.length_set,decide_eq_true_eq] at *;omega),by (simp only [List.length_set,decide_eq_true_eq] at *;omega),by (simp only [List.length_set,decide_eq_true_eq] at *;omega),trivial⟩ ?_
          refine rg ⟨by ( intros;simp only [inR];omega),by ( intros;simp only [inR];omega),trivial⟩ ?_
          exact hK1 (v1.1 + 1,v1.2.1 - 1,((v1.2.2.set v1.1.toNat (v1.2.2.getD v1.2.1.toNat default)).set v1.2.1.toNat (v1.2.2.getD v1.1.toNat default))) (by (have hc2:=of_decide_eq_true hc2;refine ⟨by (dsimp only;simp only [List.length_set];omega),ok_swap hI1.2.1 (by omega) (by omega),by (dsimp only;simp only [List.length_set];omega)⟩)) (by (simp only [List.length_set,decide_eq_true_eq] at *;omega)) hR
        ·
          exact hJ101 v1.2.2 hR (by (exact hI1.2))
      ·
        exact hJ101 (implKids x0 x2) hR (by (refine ⟨(implKids_ok x0 x2 hf).1,?_⟩;have h9:=implKids_ok x0 x2 hf;omega))
    ·
      refine rg trivial ?_
      refine rg trivial ?_
      refine rg trivial ?_
      revert hR;refine cd (fun hc3 hR=>?_) fun hc3 hR=>?_
      ·
        refine rg ⟨⟨by (intros;omega),by (exact hJ1.1)⟩,⟨by (intros;omega),by (exact hJ1.1)⟩,by (have h8:=kidsOf_len 1 j1 x0;have h9:=kidsOf_len 2 j1 x0;omega),trivial⟩ ?_
        exact congrArg C114 hR
      ·
        refine rg trivial ?_
        revert hR;refine cd (fun hc4 hR=>?_) fun hc4 hR=>?_
        ·
          refine rg ⟨⟨by (intros;omega),by (exact hJ1.1)⟩,⟨by (intros;omega),by (exact hJ1.1)⟩,by (have h8:=kidsOf_len 1 j1 x0;have h9:=kidsOf_len 2 j1 x0;omega),trivial⟩ ?_
          exact congrArg C114 hR
        ·
          refine rg trivial ?_
          revert hR;refine cd (fun hc5 hR=>?_) fun hc5 hR=>?_
          ·
            refine rg ⟨⟨by (intros;omega),by (exact hJ1.1)⟩,trivial⟩ ?_
            exact congrArg C114 hR
          ·
            refine rg trivial ?_
            revert hR;refine cd (fun hc6 hR=>?_) fun hc6 hR=>?_
            ·
              refine rg ⟨⟨by (intros;omega),by (exact hJ1.1)⟩,trivial⟩ ?_
              exact congrArg C114 hR
            ·
              refine rg trivial ?_
              exact congrArg C114 hR
  exact Fn.go 66 Try.func114 (by kernel_rfl) (by kernel_rfl) (by simp [C114,Frs,FrsL,FrsB,rowOf,cInt,cBool,cStr,cSl,FrsL_app,cPerson,cUnion,cFamily,cl01Cur,cCustom]) (A114 x0 x1 x2) (by kernel_rfl) (aux _ rfl)
def k114 (x0 : Family) (x1 : Custom) (x2 : Int) : Cl:=(hres (C114 (implOrder x0 x1 x2)),k1 (ok_impl_orderChildren x0 x1 x2))
def l10Of (x0 : Family) (x1 : Custom) (x2 : List Int) (x3 : Int) : (List Int):=loopN (fun i1 (v1 : (List Int)) next=>bif ((!decide (x3 = 0)) && (!decide (((x0.people.getD ((x2.getD i1 default).toNat) default).sex) = x3))) then (next v1) else (bif x1.youngest then (next ([(x2.getD i1 default)] ++ v1)) else (next (v1 ++ [(x2.getD i1 default)])))) (fun (v1 : (List Int))=>v1) x2.length 0 ([] : List Int)
theorem l10Of_len (f : Family) (x : Custom) (l : List Int) (s : Int) : (l10Of f x l s).length ≤ l.length := by
  unfold l10Of
  refine loopN_to (fun i (v : List Int)=>v.length ≤ i) (fun (r : List Int)=>r.length ≤ l.length) (by simp) (fun i v next hi hv hn=>?_) (fun v hv=>hv)
  refine cond_both (p:=fun (r : List Int)=>r.length ≤ l.length) (fun _=>hn _ (by omega)) (fun _=>?_)
  exact cond_both (p:=fun (r : List Int)=>r.length ≤ l.length) (fun _=>hn _ (by simp;omega)) (fun _=>hn _ (by simp;omega))
def l10Children (x0 : Family) (x1 : Custom) (x2 : Int) : (List Int):=bif (decide (x1.prefer = 1)) then ((l10Of x0 x1 (l1Children x0 x2) 1) ++ (l10Of x0 x1 (l1Children x0 x2) 2)) else (bif (decide (x1.prefer = 2)) then ((l10Of x0 x1 (l1Children x0 x2) 2) ++ (l10Of x0 x1 (l1Children x0 x2) 1)) else (bif (decide (x1.prefer = 3)) then (l10Of x0 x1 (l1Children x0 x2) 1) else (bif (decide (x1.prefer = 4)) then (l10Of x0 x1 (l1Children x0 x2) 2) else (l10Of x0 x1 (l1Children x0 x2) 0))))
/-! ### Children in the order of a custom -/
def ofSex (f : Family) (s : Int) (c : Int) : Bool:=decide ((f.people.getD c.toNat default).sex = s)
theorem take_snoc {α : Type} (l : List α) (d : α) {i : Nat} (hi : i < l.length) : l.take (i + 1) = l.take i ++ [l.getD i d] := by
  rw [List.take_add_one,List.getD_eq_getElem?_getD,List.getElem?_eq_getElem hi];rfl
theorem filter_snoc {α : Type} (p : α → Bool) (l : List α) (x : α) : (l ++ [x]).filter p = l.filter p ++ (bif p x then [x] else []) := by
  rw [List.filter_append]
  cases h : p x <;> simp [h]
theorem kidsOf_val (s : Int) (l : List Int) (f : Family) : kidsOf s l f = l.filter (ofSex f s) := by
  unfold kidsOf
  refine loopN_to (fun i (v : List Int)=>v = (l.take i).filter (ofSex f s)) (fun r=>r = l.filter (ofSex f s)) (by simp) (fun i v next hi hv hn=>?_) (fun v hv=>by rw [hv,List.take_length])
  refine cond_both (p:=fun r=>r = l.filter (ofSex f s)) (fun c=>hn _ ?_) (fun c=>hn _ ?_)
  · rw [take_snoc l default hi,filter_snoc,show ofSex f s (l.getD i default) = true from c,hv];rfl
  · rw [take_snoc l default hi,filter_snoc,show ofSex f s (l.getD i default) = false from c,hv];simp
def ofSex0 (f : Family) (s : Int) (c : Int) : Bool:=decide (s = 0) || ofSex f s c
theorem l10Of_val (f : Family) (x : Custom) (l : List Int) (s : Int) : l10Of f x l s = bif x.youngest then (l.filter (ofSex0 f s)).reverse else l.filter (ofSex0 f s) := by
  unfold l10Of
  refine loopN_to (fun i (v : List Int)=>v = bif x.youngest then ((l.take i).filter (ofSex0 f s)).reverse else (l.take i).filter (ofSex0 f s)) (fun r=>r = bif x.youngest then (l.filter (ofSex0 f s)).reverse else l.filter (ofSex0 f s)) (by cases x.youngest <;> simp) (fun i v next hi hv hn=>?_) (fun v hv=>by rw [hv,List.take_length])
  refine cond_both (p:=fun r=>r = bif x.youngest then (l.filter (ofSex0 f s)).reverse else l.filter (ofSex0 f s)) (fun c=>hn _ ?_) (fun c=>?_)
  · have e : ofSex0 f s (l.getD i default) = false := by
      simp only [Bool.and_eq_true,Bool.not_eq_true',decide_eq_false_iff_not,decide_eq_true_eq] at c
      simp only [ofSex0,ofSex,Bool.or_eq_false_iff,decide_eq_false_iff_not]
      exact ⟨c.1,c.2⟩
    rw [take_snoc l default hi,filter_snoc,e,hv]
    cases x.youngest <;> simp
  · have e : ofSex0 f s (l.getD i default) = true := by
      simp only [ofSex0,ofSex,Bool.or_eq_true,decide_eq_true_eq]
      simp only [Bool.and_eq_false_iff,Bool.not_eq_false',decide_eq_true_eq,decide_eq_false_iff_not] at c
      omega
    refine cond_both (p:=fun r=>r = bif x.youngest then (l.filter (ofSex0 f s)).reverse else l.filter (ofSex0 f s)) (fun y=>hn _ ?_) (fun y=>hn _ ?_)
    · rw [take_snoc l default hi,filter_snoc,e,hv,y];simp
    · rw [take_snoc l default hi,filter_snoc,e,hv,y];simp
theorem ext_getD' {l m : List Int} (h : l.length = m.length) (hk : ∀ k, k < l.length → l.getD k default = m.getD k default) : l = m := by
  refine List.ext_getElem h fun k h1 h2=>?_
  have:=hk k h1
  rw [List.getD_eq_getElem?_getD,List.getD_eq_getElem?_getD,List.getElem?_eq_getElem h1,List.getElem?_eq_getElem h2] at this
  exact this
theorem getD_rev (l : List Int) {k : Nat} (h : k < l.length) : l.reverse.getD k default = l.getD (l.length - 1 - k) default := by
  rw [List.getD_eq_getElem?_getD,List.getD_eq_getElem?_getD,List.getElem?_eq_getElem (by simpa using h),List.getElem?_eq_getElem (by omega),List.getElem_reverse]
theorem rev_loop (K : List Int → List Int) (l0 : List Int) (f : Nat) (hf : f = ((((l0.length : Nat) : Int) - 1 - (0) + 2).toNat + 1)) : loopW (fun (v1 : Int × Int × (List Int)) next => bif (decide (v1.1 < v1.2.1)) then (next (v1.1 + 1, v1.2.1 - 1, ((v1.2.2.set v1.1.toNat (v1.2.2.getD v1.2.1.toNat default)).set v1.2.1.toNat (v1.2.2.getD v1.1.toNat default)))) else (K v1.2.2)) f (0, (((l0.length : Nat) : Int) - 1), l0) = K l0.reverse := by
  subst hf
  refine loopW_to (fun v=>(0 ≤ v.1 ∧ v.1 + v.2.1 = (l0.length : Int) - 1 ∧ v.1 ≤ v.2.1 + 2) ∧ v.2.2.length = l0.length ∧ ∀ k : Nat,k < l0.length → v.2.2.getD k default = if ((k : Int) < v.1 ∨ v.2.1 < (k : Int)) then l0.getD (l0.length - 1 - k) default else l0.getD k default) (fun v=>(v.2.1 - v.1 + 2).toNat) (fun r=>r = K l0.reverse) (fun v next hv hn=>?_) _ _ (by (try dsimp only);omega) ⟨by (try dsimp only);omega,rfl,fun k hk=>(if_neg (by (try dsimp only);omega)).symm⟩
  obtain ⟨hb,hl,hk⟩:=hv
  cases hc : decide (v.1 < v.2.1) with
  | false =>
    have hc:=of_decide_eq_false hc
    refine congrArg K (ext_getD' (by simp [hl]) fun k h=>?_)
    rw [hk k (by omega),getD_rev l0 (by omega)]
    by_cases e : (k : Int) < v.1 ∨ v.2.1 < (k : Int)
    · rw [if_pos e]
    · rw [if_neg e]
      congr 1;omega
  | true =>
    have hc:=of_decide_eq_true hc
    refine hn _ ⟨by dsimp only;omega,by simp [hl],fun k h=>?_⟩ (by dsimp only;omega)
    dsimp only
    simp only [getD_set,List.length_set,hl]
    have h1:=hk v.1.toNat (by omega)
    have h2:=hk v.2.1.toNat (by omega)
    rw [if_neg (by omega)] at h1
    rw [if_neg (by omega)] at h2
    by_cases e1 : k = v.2.1.toNat
    · rw [if_pos (by omega),h1,if_pos (by omega)];congr 1;omega
    · rw [if_neg (by omega)]
      by_cases e2 : k = v.1.toNat
      · rw [if_pos (by omega),h2,if_pos (by omega)];congr 1;omega
      · rw [if_neg (by omega), hk k h]
        by_cases e3 : (k : Int) < v.1 ∨ v.2.1 < (k : Int)
        · rw [if_pos e3,if_pos (by omega)]
        · rw [if_neg e3,if_neg (by omega)]
theorem implOrder_val (f : Family) (x : Custom) (p : Int) (hf : f.people.length ≤ 40) : implOrder f x p = l10Children f x p := by
  have key : ∀ l : List Int, l = (bif x.youngest then (l1Children f p).reverse else l1Children f p) → (bif (decide (x.prefer = 1)) then ((kidsOf 1 l f) ++ (kidsOf 2 l f)) else (bif (decide (x.prefer = 2)) then ((kidsOf 2 l f) ++ (kidsOf 1 l f)) else (bif (decide (x.prefer = 3)) then (kidsOf 1 l f) else (bif (decide (x.prefer = 4)) then (kidsOf 2 l f) else l)))) = l10Children f x p := by
    intro l hl
    unfold l10Children
    have h0 : l = l10Of f x (l1Children f p) 0 := by
      have e : (l1Children f p).filter (ofSex0 f 0) = l1Children f p:=List.filter_eq_self.2 fun c _=>by simp [ofSex0]
      rw [l10Of_val,e];exact hl
    have hs : ∀ s : Int, s ≠ 0 → kidsOf s l f = l10Of f x (l1Children f p) s := fun s h => by
      have e : ofSex0 f s = ofSex f s:=by funext c;simp [ofSex0,h]
      rw [kidsOf_val,l10Of_val,e,hl]
      cases x.youngest
      · rfl
      · simp [List.filter_reverse]
    rw [hs 1 (by decide),hs 2 (by decide),← h0]
  unfold implOrder jn
  rw [implKids_eq f p hf]
  cases hy : x.youngest with
  | true =>
    refine Eq.trans (rev_loop (fun j1=>bif (decide (x.prefer = 1)) then ((kidsOf 1 j1 f) ++ (kidsOf 2 j1 f)) else (bif (decide (x.prefer = 2)) then ((kidsOf 2 j1 f) ++ (kidsOf 1 j1 f)) else (bif (decide (x.prefer = 3)) then (kidsOf 1 j1 f) else (bif (decide (x.prefer = 4)) then (kidsOf 2 j1 f) else j1)))) _ _ rfl) ?_
    exact key _ (by rw [hy];rfl)
  | false=>exact key _ (by rw [hy];rfl)
theorem ord_pre {x : Family} {p : Int} {c : Bool} (h : (c || (!(l1Has x p))) = false) : (specIsFamily x = true ∧ (x.people.length ≤ 40 ∧ x.unions.length ≤ 60)) ∧ 0 ≤ p ∧ p < x.people.length := by
  simp only [or_f_iff,not_f_iff,l1Has_iff] at h
  exact ⟨⟨h.2.2,fam_n h.2.2⟩,h.2.1⟩
theorem ord_pre2 {x : Family} {p : Int} {c : Bool} (h : ((!(implHas x [p])) || c) = false) : (specIsFamily x = true ∧ (x.people.length ≤ 40 ∧ x.unions.length ≤ 60)) ∧ 0 ≤ p ∧ p < x.people.length := by
  rw [has1_eq,Bool.or_comm] at h;exact ord_pre h
def specIsCustom (x0 : Custom) : Bool:=l1In x0.prefer 0 4
def C60 (R : Bool) : LV × List (Nat × BC):=(.bool R,[])
def implIsCustom (x0 : Custom) : Bool:=(decide (0 ≤ x0.prefer)) && (decide (x0.prefer ≤ 4))
def A60 (x0 : Custom) : Ann:=.reg 2 [] [] [2] [] [decide (0 ≤ x0.prefer)] [] [] [1,1,1] (rt [] (C60 ((decide (0 ≤ x0.prefer)) && (decide (x0.prefer ≤ 4)))))
theorem ok_impl_IsCustom (x0 : Custom) : FnT Try.prog 60 [.agg (cCustom false x0)] (C60 (implIsCustom x0)) := by
  have aux : ∀ R, implIsCustom x0 = R → slim (C60 R) (A60 x0) [] := by
    intro R hR
    refine rg trivial ?_
    exact congrArg C60 hR
  exact Fn.go 11 Try.func60 (by kernel_rfl) (by kernel_rfl) (by simp [C60,Frs,FrsL]) (A60 x0) (by kernel_rfl) (aux _ rfl)
def k60 (x0 : Custom) : Cl:=(hres (C60 (implIsCustom x0)),k0 (ok_impl_IsCustom x0))
theorem isCustom_eq (x : Custom) : implIsCustom x = specIsCustom x:=rfl
/-! ### Children come behind their parents -/
theorem kid_lt {f : Family} (hf : specIsFamily f = true) {p c : Int} (hp : 0 ≤ p) (h : c ∈ l1Children f p) : p < c ∧ c < f.people.length := by
  obtain ⟨k,h1,h2,h3⟩:=(l1Children_mem f p c).1 h
  have h4:=fam_p hf h1
  have h5:=h4.fa;have h6:=h4.mo
  omega
theorem l10_mem {f : Family} {x : Custom} {p c : Int} (h : c ∈ l10Children f x p) : c ∈ l1Children f p := by
  have key : ∀ s, c ∈ l10Of f x (l1Children f p) s → c ∈ l1Children f p := fun s hc => by
    rw [l10Of_val] at hc
    cases hy : x.youngest <;> rw [hy] at hc <;> simp only [cond_true,cond_false,List.mem_reverse] at hc <;> exact (List.mem_filter.1 hc).1
  revert h
  unfold l10Children
  refine cond_both (p:=fun r=>c ∈ r → c ∈ l1Children f p) (fun _ h=>?_) (fun _=>?_)
  · rcases List.mem_append.1 h with h | h <;> exact key _ h
  refine cond_both (p:=fun r=>c ∈ r → c ∈ l1Children f p) (fun _ h=>?_) (fun _=>?_)
  · rcases List.mem_append.1 h with h | h <;> exact key _ h
  refine cond_both (p:=fun r=>c ∈ r → c ∈ l1Children f p) (fun _ h=>key _ h) (fun _=>?_)
  exact cond_both (p:=fun r=>c ∈ r → c ∈ l1Children f p) (fun _ h=>key _ h) (fun _ h=>key _ h)
theorem l10_lt {f : Family} (hf : specIsFamily f = true) {x : Custom} {p c : Int} (hp : 0 ≤ p) (h : c ∈ l10Children f x p) : p < c ∧ c < f.people.length:=kid_lt hf hp (l10_mem h)
theorem l10_at {f : Family} (hf : specIsFamily f = true) {x : Custom} {p : Int} (hp : 0 ≤ p) {i : Nat} (h : i < (l10Children f x p).length) : p < (l10Children f x p).getD i default ∧ (l10Children f x p).getD i default < f.people.length:=l10_lt hf hp (getD_mem h)
theorem ord_at {f : Family} (hf : specIsFamily f = true) {x : Custom} {p : Int} (hp : 0 ≤ p) {i : Nat} (h : i < (implOrder f x p).length) : p < (implOrder f x p).getD i default ∧ (implOrder f x p).getD i default < f.people.length := by
  rw [implOrder_val f x p (fam_n hf).1] at *;exact l10_at hf hp h
theorem l10_len (f : Family) (x : Custom) (p : Int) : (l10Children f x p).length ≤ 2 * f.people.length := by
  have h1:=l10Of_len f x (l1Children f p) 1
  have h2:=l10Of_len f x (l1Children f p) 2
  have h0:=l10Of_len f x (l1Children f p) 0
  have h3:=(l1Children_okl f p).2
  unfold l10Children
  repeat' refine cond_both (p:=fun (r : List Int)=>r.length ≤ 2 * f.people.length) (fun h=>?_) (fun h=>?_)
  all_goals (try simp only [List.length_append]);omega
theorem ord_len {f : Family} (hf : specIsFamily f = true) (x : Custom) (p : Int) : (implOrder f x p).length ≤ 80 := by
  have h:=(fam_n hf).1
  rw [implOrder_val f x p h]
  have:=l10_len f x p;omega
def C51 (R : Bool) : LV × List (Nat × BC):=(.bool R,[])
def implAlive (x0 : Family) (x1 : Int) (x2 : Int) : Bool:=(decide (((x0.people.getD x1.toNat default).born) ≤ x2)) && ((decide (((x0.people.getD x1.toNat default).died) = (-1))) || (decide (x2 < ((x0.people.getD x1.toNat default).died))))
def A51 (x0 : Family) (x1 : Int) (x2 : Int) : Ann:=.reg 3 [] [] [6] [] [decide (((x0.people.getD x1.toNat default).born) ≤ x2),(decide (((x0.people.getD x1.toNat default).born) ≤ x2)) && (!(decide (((x0.people.getD x1.toNat default).died) = (-1))))] [pf (0 ≤ (x1 : Int) ∧ (x1 : Int) < ((x0.people.length : Nat) : Int)),gt (decide (((x0.people.getD x1.toNat default).born) ≤ x2)) (gf (decide (((x0.people.getD x1.toNat default).died) = (-1))) (pf (((decide (((x0.people.getD x1.toNat default).born) ≤ x2)) && (!(decide (((x0.people.getD x1.toNat default).died) = (-1))))) = true)))] [] [0,1,1,1,5,5,5,1,4,1] (rt [] (C51 ((decide (((x0.people.getD x1.toNat default).born) ≤ x2)) && ((decide (((x0.people.getD x1.toNat default).died) = (-1))) || (decide (x2 < ((x0.people.getD x1.toNat default).died)))))))
theorem ok_impl_isAlive (x0 : Family) (x1 : Int) (x2 : Int) (hx : x0.people.length ≤ 1048576) (h1 : 0 ≤ x1 ∧ x1 < x0.people.length) : FnT Try.prog 51 [.agg (cFamily false x0), .int .i64 x1, .int .i64 x2] (C51 (implAlive x0 x1 x2)) := by
  have aux : ∀ R, implAlive x0 x1 x2 = R → slim (C51 R) (A51 x0 x1 x2) [] := by
    intro R hR
    refine rg ⟨by trivial,by ((try clear hR);intros;(try simp only [decide_eq_true_eq,decide_eq_false_iff_not,Bool.or_eq_true,Bool.and_eq_true,or_f_iff,not_f_iff,not_t_iff,Bool.not_eq_true',inR] at *);(repeat' apply And.intro) <;> (intros;omega)),trivial⟩ ?_
    exact congrArg C51 hR
  exact Fn.go 28 Try.func51 (by kernel_rfl) (by kernel_rfl) (by simp [C51,Frs,FrsL]) (A51 x0 x1 x2) (by kernel_rfl) (aux _ rfl)
def k51 (x0 : Family) (x1 : Int) (x2 : Int) : Cl:=(hres (C51 (implAlive x0 x1 x2)),k2 (ok_impl_isAlive x0 x1 x2))
def C63 (R : Bool) : LV × List (Nat × BC):=(.bool R,[])
def l1Alive (x0 : Family) (x1 : Int) (x2 : Int) : Bool:=(decide (((x0.people.getD x1.toNat default).born) ≤ x2)) && ((decide (((x0.people.getD x1.toNat default).died) = (-1))) || (decide (x2 < ((x0.people.getD x1.toNat default).died))))
def A63 (x0 : Family) (x1 : Int) (x2 : Int) : Ann:=.reg 3 [] [] [6] [] [decide (((x0.people.getD x1.toNat default).born) ≤ x2),(decide (((x0.people.getD x1.toNat default).born) ≤ x2)) && (!(decide (((x0.people.getD x1.toNat default).died) = (-1))))] [pf (0 ≤ (x1 : Int) ∧ (x1 : Int) < ((x0.people.length : Nat) : Int)),gt (decide (((x0.people.getD x1.toNat default).born) ≤ x2)) (gf (decide (((x0.people.getD x1.toNat default).died) = (-1))) (pf (((decide (((x0.people.getD x1.toNat default).born) ≤ x2)) && (!(decide (((x0.people.getD x1.toNat default).died) = (-1))))) = true)))] [] [0,1,1,1,5,5,5,1,4,1] (rt [] (C63 ((decide (((x0.people.getD x1.toNat default).born) ≤ x2)) && ((decide (((x0.people.getD x1.toNat default).died) = (-1))) || (decide (x2 < ((x0.people.getD x1.toNat default).died)))))))
theorem ok_spec_l1Alive (x0 : Family) (x1 : Int) (x2 : Int) (hx : x0.people.length ≤ 1048576) (h1 : 0 ≤ x1 ∧ x1 < x0.people.length) : FnT Try.prog 63 [.agg (cFamily false x0), .int .i64 x1, .int .i64 x2] (C63 (l1Alive x0 x1 x2)) := by
  have aux : ∀ R, l1Alive x0 x1 x2 = R → slim (C63 R) (A63 x0 x1 x2) [] := by
    intro R hR
    refine rg ⟨by trivial,by ((try clear hR);intros;(try simp only [decide_eq_true_eq,decide_eq_false_iff_not,Bool.or_eq_true,Bool.and_eq_true,or_f_iff,not_f_iff,not_t_iff,Bool.not_eq_true',inR] at *);(repeat' apply And.intro) <;> (intros;omega)),trivial⟩ ?_
    exact congrArg C63 hR
  exact Fn.go 28 Try.func63 (by kernel_rfl) (by kernel_rfl) (by simp [C63,Frs,FrsL]) (A63 x0 x1 x2) (by kernel_rfl) (aux _ rfl)
def k63 (x0 : Family) (x1 : Int) (x2 : Int) : Cl:=(hres (C63 (l1Alive x0 x1 x2)),k2 (ok_spec_l1Alive x0 x1 x2))
end Go.Proofs.Ytikfeeaapenplaa
