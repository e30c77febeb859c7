import Derived.Test.YtaageiiodlfeiaaV2
set_option maxHeartbeats 4000000
set_option linter.unusedSimpArgs false
set_option linter.unusedVariables false
namespace Go.Proofs.Ytaageiiodlfeiaa
open Go Go.Lite Go.Proofs
theorem l1Parent_iff (x : Family) (i q s l : Int) : l1Parent x i q s l = true ↔ q = -1 ∨ 0 ≤ q ∧ q < i ∧ (x.people.getD q.toNat default).sex = s ∧ (x.people.getD q.toNat default).born < (x.people.getD i.toNat default).born ∧
    ((x.people.getD q.toNat default).died = -1 ∨ (x.people.getD i.toNat default).born ≤ IntKind.wrap .i64 ((x.people.getD q.toNat default).died + l)):=by
  simp only [l1Parent,cond_f_iff,cond_t_iff,or_f_iff,Bool.and_eq_true,Bool.or_eq_true,decide_eq_true_eq,decide_eq_false_iff_not,not_f_iff,Int.not_lt,Int.not_le,and_assoc]
theorem l1Person_iff (x : Family) (i : Int) : l1Person x i = true ↔ specIsName (x.people.getD i.toNat default).name = true ∧ (1 ≤ (x.people.getD i.toNat default).sex ∧ (x.people.getD i.toNat default).sex ≤ 2) ∧ (0 ≤ (x.people.getD i.toNat default).born ∧ (x.people.getD i.toNat default).born ≤ 9999) ∧
    ((x.people.getD i.toNat default).died = -1 ∨ (x.people.getD i.toNat default).born ≤ (x.people.getD i.toNat default).died ∧ (x.people.getD i.toNat default).died ≤ 9999) ∧ (∀ j,j < i.toNat → (x.people.getD j default).name ≠ (x.people.getD i.toNat default).name) ∧
    l1Parent x i (x.people.getD i.toNat default).father 1 1 = true ∧ l1Parent x i (x.people.getD i.toNat default).mother 2 0 = true:=by
  simp only [l1Person,cond_f_iff,or_f_iff,loopN_all,l1In,not_f_iff,and_f_iff,Bool.and_eq_true,decide_eq_true_eq,beq_eq_false_iff_ne,and_assoc,not_t_iff,decide_eq_false_iff_not,Bool.not_eq_true',← Classical.or_iff_not_imp_left]
theorem l1Person_par (x : Family) (k : Nat) (h : l1Person x k = true) : (x.people.getD k default).father < k ∧ (x.people.getD k default).mother < k := by
  obtain ⟨_,_,_,_,_,h1,h2⟩:=(l1Person_iff x k).1 h
  rw [l1Parent_iff] at h1 h2
  simp only [Int.toNat_natCast] at h1 h2
  omega
def C81 (R : Bool) : LV × List (Nat × BC):=(.bool R,[])
def specIsFamily (x0 : Family) : Bool:=bif ((decide (40 < ((x0.people.length : Nat) : Int))) || (decide (60 < ((x0.unions.length : Nat) : Int)))) then false else (loopN (fun i1 (v1 : Unit) next=>bif (!(l1Person x0 ((i1 : Nat) : Int))) then false else (next ())) (fun (v1 : Unit)=>loopN (fun i2 (v2 : Unit) next=>bif (decide (10 < ((l1Depths x0).getD i2 default))) then false else (next ())) (fun (v2 : Unit)=>loopN (fun i3 (v3 : Unit) next=>bif (!(l1Union x0 ((i3 : Nat) : Int))) then false else (next ())) (fun (v3 : Unit)=>true) x0.unions.length 0 ()) ((l1Depths x0).length) 0 ()) x0.people.length 0 ())
def D81b1 (x0 : Family) (i1 : Nat) (v1 : Unit) : Dl:=⟨[(20,.int .i64 ((i1 : Nat) : Int))],[]⟩
def D81b2 (x0 : Family) (i1 : Nat) (v1 : Unit) (i2 : Nat) (v2 : Unit) : Dl:=⟨[(31,.int .i64 ((i2 : Nat) : Int))],[]⟩
def D81b3 (x0 : Family) (i1 : Nat) (v1 : Unit) (i2 : Nat) (v2 : Unit) (i3 : Nat) (v3 : Unit) : Dl:=⟨[(41,.int .i64 ((i3 : Nat) : Int))],[]⟩
def A81b3 (x0 : Family) (i1 : Nat) (v1 : Unit) (i2 : Nat) (v2 : Unit) (i3 : Nat) (v3 : Unit) : Ann:=r0 1 [1,2,40,41,42] [1] (cn (decide (((i3 : Nat) : Int) < ((x0.unions.length : Nat) : Int))) (.reg 2 [] [(1002,k135 x0 ((i3 : Nat) : Int))] [1,2,40,41,47] [1] [] [] [] [0] (cn (!(l1Union x0 ((i3 : Nat) : Int))) (r0 1 [1,2,40,41] [1] (rt [] (C81 false))) (r1 1 [1,2,40,41] [1] [pf (inR .i64 (((i3 : Nat) : Int) + 1))] [0] (.next 0 [] (D81b3 x0 i1 v1 i2 v2 (i3 + 1) ()))))) (r0 1 [2] [] (rt [] (C81 true))))
def A81b2 (x0 : Family) (i1 : Nat) (v1 : Unit) (i2 : Nat) (v2 : Unit) : Ann:=r0 1 [1,2,29,30,31,32] [1,1029] (cn (decide (((i2 : Nat) : Int) < (((l1Depths x0).length : Nat) : Int))) (r1 2 [1,2,29,30,31,36] [1,1029] [pf (0 ≤ (((i2 : Nat) : Int) : Int) ∧ (((i2 : Nat) : Int) : Int) < (((l1Depths x0).length : Nat) : Int))] [0] (cn (decide (10 < ((l1Depths x0).getD i2 default))) (r0 1 [1,2,29,30,31] [1,1029] (rt [] (C81 false))) (r1 1 [1,2,29,30,31] [1,1029] [pf (inR .i64 (((i2 : Nat) : Int) + 1))] [0] (.next 0 [] (D81b2 x0 i1 v1 (i2 + 1) ()))))) (r0 1 [1,2,40,41] [1] (lp (D81b3 x0 i1 v1 i2 v2) [] [] [] (D81b3 x0 i1 v1 i2 v2 0 ()) (A81b3 x0 i1 v1 i2 v2))))
def A81b1 (x0 : Family) (i1 : Nat) (v1 : Unit) : Ann:=r0 1 [1,2,19,20,21] [1] (cn (decide (((i1 : Nat) : Int) < ((x0.people.length : Nat) : Int))) (.reg 2 [] [(1002,k134 x0 ((i1 : Nat) : Int))] [1,2,19,20,26] [1] [] [] [] [0] (cn (!(l1Person x0 ((i1 : Nat) : Int))) (r0 1 [1,2,19,20] [1] (rt [] (C81 false))) (r1 1 [1,2,19,20] [1] [pf (inR .i64 (((i1 : Nat) : Int) + 1))] [0] (.next 0 [] (D81b1 x0 (i1 + 1) ()))))) (.reg 1 [] [(1,k128 x0)] [1,2,29,30,31] [1,1029] [] [] [] [0] (lp (D81b2 x0 i1 v1) [] [] [] (D81b2 x0 i1 v1 0 ()) (A81b2 x0 i1 v1))))
def A81 (x0 : Family) : Ann:=r0 1 [1,2] [1] (.reg 1 [] [] [1,2,16] [1] [!(decide (40 < ((x0.people.length : Nat) : Int))),decide (40 < ((x0.people.length : Nat) : Int))] [] [] [1,1,1,6] (cn ((decide (40 < ((x0.people.length : Nat) : Int))) || (decide (60 < ((x0.unions.length : Nat) : Int)))) (r0 1 [1,2] [1] (rt [] (C81 false))) (r0 1 [1,2,19,20] [1] (lp (D81b1 x0) [] [] [] (D81b1 x0 0 ()) (A81b1 x0)))))
theorem ok_spec_IsFamily (x0 : Family) (hx : x0.people.length ≤ 1048576) (hu : x0.unions.length ≤ 1048576) (hn : ∀ p ∈ x0.people, p.name.length ≤ 1048576) : FnT Try.prog 81 [.agg (cFamily false x0)] (C81 (specIsFamily x0)) := by
  have aux : ∀ R, specIsFamily x0 = R → slim (C81 R) (A81 x0) [] := by
    intro R hR
    refine rg trivial ?_
    refine rg trivial ?_
    revert hR;refine cd (fun hc1 hR=>?_) fun hc1 hR=>?_
    ·
      refine rg trivial ?_
      exact congrArg C81 hR
    ·
      refine rg trivial ?_
      revert hR;refine lN (fun i v=>∀ k : Nat,k < i → l1Person x0 k = true) (by (intros;omega)) rfl fun i1 v1 F1 hn1 hI1 hR hK1=>?_
      refine rg trivial ?_
      refine ⟨fun hc2=>?_,fun hc2=>?_⟩
      · have hii1 : i1 < x0.people.length:=by have:=of_decide_eq_true hc2;omega
        replace hR:=loopN_step hR hii1
        refine rg ⟨⟨by trivial,by trivial,by (intros;omega)⟩,trivial⟩ ?_
        revert hR;refine cd (fun hc3 hR=>?_) fun hc3 hR=>?_
        ·
          refine rg trivial ?_
          exact congrArg C81 hR
        ·
          refine rg ⟨by ( intros;simp only [inR];omega),trivial⟩ ?_
          exact hK1 () hii1 (by ((try clear hR hK1);intros;(try simp only [decide_eq_true_eq,decide_eq_false_iff_not,Bool.or_eq_true,Bool.and_eq_true,or_f_iff,not_f_iff,not_t_iff,Bool.not_eq_true',inR] at *);(repeat' apply And.intro) <;> grind [inR,getD_set,getD_snoc,getD_rep,List.length_set,rep_snoc,l1Person])) hR
      · obtain rfl : i1 = x0.people.length:=by have:=of_decide_eq_false hc2;omega
        replace hR:=loopN_end hR (Nat.lt_irrefl _)
        refine rg ⟨⟨by trivial,by (exact fun k hk=>l1Person_par _ _ (hI1 k hk))⟩,trivial⟩ ?_
        have hp1:=l1Depths_len x0
        revert hR;refine lN (fun i v=>True) (by trivial) rfl fun i2 v2 F2 hn2 hI2 hR hK2=>?_
        refine rg trivial ?_
        refine ⟨fun hc4=>?_,fun hc4=>?_⟩
        · have hii2 : i2 < (l1Depths x0).length:=by have:=of_decide_eq_true hc4;omega
          replace hR:=loopN_step hR hii2
          refine rg ⟨by (intros;omega),trivial⟩ ?_
          revert hR;refine cd (fun hc5 hR=>?_) fun hc5 hR=>?_
          ·
            refine rg trivial ?_
            exact congrArg C81 hR
          ·
            refine rg ⟨by ( intros;simp only [inR];omega),trivial⟩ ?_
            exact hK2 () hii2 (by trivial) hR
        · obtain rfl : i2 = (l1Depths x0).length:=by have:=of_decide_eq_false hc4;omega
          replace hR:=loopN_end hR (Nat.lt_irrefl _)
          refine rg trivial ?_
          revert hR;refine lN (fun i v=>True) (by trivial) rfl fun i3 v3 F3 hn3 hI3 hR hK3=>?_
          refine rg trivial ?_
          refine ⟨fun hc6=>?_,fun hc6=>?_⟩
          · have hii3 : i3 < x0.unions.length:=by have:=of_decide_eq_true hc6;omega
            replace hR:=loopN_step hR hii3
            refine rg ⟨⟨by trivial,by trivial,by (intros;omega)⟩,trivial⟩ ?_
            revert hR;refine cd (fun hc7 hR=>?_) fun hc7 hR=>?_
            ·
              refine rg trivial ?_
              exact congrArg C81 hR
            ·
              refine rg ⟨by ( intros;simp only [inR];omega),trivial⟩ ?_
              exact hK3 () hii3 (by trivial) hR
          · obtain rfl : i3 = x0.unions.length:=by have:=of_decide_eq_false hc6;omega
            replace hR:=loopN_end hR (Nat.lt_irrefl _)
            refine rg trivial ?_
            exact congrArg C81 hR
  exact Fn.go 49 Try.func81 (by kernel_rfl) (by kernel_rfl) (by simp [C81,Frs,FrsL]) (A81 x0) (by kernel_rfl) (aux _ rfl)
def k81 (x0 : Family) : Cl:=(hres (C81 (specIsFamily x0)),k3 (ok_spec_IsFamily x0))
def C41 (R : Bool) : LV × List (Nat × BC):=(.bool R,[])
def l1Has (x0 : Family) (x1 : Int) : Bool:=((decide (0 ≤ x1)) && (decide (x1 < ((x0.people.length : Nat) : Int)))) && (specIsFamily x0)
def A41 (x0 : Family) (x1 : Int) : Ann:=.reg 2 [] [(1011,cg ((decide (0 ≤ x1)) && (decide (x1 < ((x0.people.length : Nat) : Int)))) (k81 x0))] [4] [] [decide (0 ≤ x1),(decide (0 ≤ x1)) && (decide (x1 < ((x0.people.length : Nat) : Int)))] [] [] [1,1,1,1,1,5,0,5] (rt [] (C41 (((decide (0 ≤ x1)) && (decide (x1 < ((x0.people.length : Nat) : Int)))) && (specIsFamily x0))))
theorem ok_spec_l1Has (x0 : Family) (x1 : Int) (hx : x0.people.length ≤ 1048576) (hu : x0.unions.length ≤ 1048576) (hn : ∀ p ∈ x0.people, p.name.length ≤ 1048576) : FnT Try.prog 41 [.agg (cFamily false x0), .int .i64 x1] (C41 (l1Has x0 x1)) := by
  have aux : ∀ R, l1Has x0 x1 = R → slim (C41 R) (A41 x0 x1) [] := by
    intro R hR
    refine rg ⟨fun hg0=>⟨by trivial,by trivial,by trivial⟩,trivial⟩ ?_
    exact congrArg C41 hR
  exact Fn.go 18 Try.func41 (by kernel_rfl) (by kernel_rfl) (by simp [C41,Frs,FrsL]) (A41 x0 x1) (by kernel_rfl) (aux _ rfl)
def k41 (x0 : Family) (x1 : Int) : Cl:=(hres (C41 (l1Has x0 x1)),k3 (ok_spec_l1Has x0 x1))
def C107 (R : (List Int)) : LV × List (Nat × BC):=(.own 0,[(0,.arr 1 R.length (rowOf (cInt .i64) R))])
def l1Parents (x0 : Family) (x1 : Int) : (List Int):=bif (decide (0 ≤ ((x0.people.getD x1.toNat default).father))) then (bif (decide (0 ≤ ((x0.people.getD x1.toNat default).mother))) then ((([] : List Int) ++ [(x0.people.getD x1.toNat default).father]) ++ [(x0.people.getD x1.toNat default).mother]) else (([] : List Int) ++ [(x0.people.getD x1.toNat default).father])) else (bif (decide (0 ≤ ((x0.people.getD x1.toNat default).mother))) then (([] : List Int) ++ [(x0.people.getD x1.toNat default).mother]) else ([] : List Int))
def A107 (x0 : Family) (x1 : Int) : Ann:=.reg 2 [] [(1000,bsC 6 (cInt .i64) ([] : List Int))] [1,2,4,5] [2,6] [] [] [] [0] (r1 1 [1,2,4,5,13] [2,6] [pf (0 ≤ (x1 : Int) ∧ (x1 : Int) < ((x0.people.length : Nat) : Int))] [0] (cn (decide (0 ≤ ((x0.people.getD x1.toNat default).father))) (.reg 1 [] [(7,bsC 21 (cInt .i64) ([(x0.people.getD x1.toNat default).father] : List Int)),(8,ap1 22 (cInt .i64) 8 ([] : List Int) ((x0.people.getD x1.toNat default).father))] [1,2,4,5] [2,22] [] [pf (0 ≤ (x1 : Int) ∧ (x1 : Int) < ((x0.people.length : Nat) : Int))] [] [0,4,8] (r1 1 [1,2,4,5,29] [2,22] [pf (0 ≤ (x1 : Int) ∧ (x1 : Int) < ((x0.people.length : Nat) : Int))] [0] (cn (decide (0 ≤ ((x0.people.getD x1.toNat default).mother))) (.reg 1 [] [(7,bsC 37 (cInt .i64) ([(x0.people.getD x1.toNat default).mother] : List Int)),(8,ap1 38 (cInt .i64) 8 (([] : List Int) ++ [(x0.people.getD x1.toNat default).father]) ((x0.people.getD x1.toNat default).mother))] [4,5] [38] [] [pf (0 ≤ (x1 : Int) ∧ (x1 : Int) < ((x0.people.length : Nat) : Int))] [] [0,4,8] (r0 1 [4] [38] (rt [(0,some 38)] (C107 ((([] : List Int) ++ [(x0.people.getD x1.toNat default).father]) ++ [(x0.people.getD x1.toNat default).mother]))))) (r0 1 [4] [22] (rt [(0,some 22)] (C107 (([] : List Int) ++ [(x0.people.getD x1.toNat default).father]))))))) (r1 1 [1,2,4,5,29] [2,6] [pf (0 ≤ (x1 : Int) ∧ (x1 : Int) < ((x0.people.length : Nat) : Int))] [0] (cn (decide (0 ≤ ((x0.people.getD x1.toNat default).mother))) (.reg 1 [] [(7,bsC 37 (cInt .i64) ([(x0.people.getD x1.toNat default).mother] : List Int)),(8,ap1 38 (cInt .i64) 8 ([] : List Int) ((x0.people.getD x1.toNat default).mother))] [4,5] [38] [] [pf (0 ≤ (x1 : Int) ∧ (x1 : Int) < ((x0.people.length : Nat) : Int))] [] [0,4,8] (r0 1 [4] [38] (rt [(0,some 38)] (C107 (([] : List Int) ++ [(x0.people.getD x1.toNat default).mother]))))) (r0 1 [4] [6] (rt [(0,some 6)] (C107 ([] : List Int))))))))
theorem l1Parents_rng (x : Family) (i : Int) : (l1Parents x i).length ≤ 2 ∧ ∀ k : Nat, k < (l1Parents x i).length → 0 ≤ (l1Parents x i).getD k default ∧ ((l1Parents x i).getD k default = (x.people.getD i.toNat default).father ∨ (l1Parents x i).getD k default = (x.people.getD i.toNat default).mother) := by
  unfold l1Parents
  cases h1 : decide (0 ≤ (x.people.getD i.toNat default).father) <;> cases h2 : decide (0 ≤ (x.people.getD i.toNat default).mother) <;> simp only [cond_true,cond_false] <;> refine ⟨by simp,fun k hk=>?_⟩
  · simp at hk
  · simp at hk;subst hk;have:=of_decide_eq_true h2;simpa using this
  · simp at hk;subst hk;have:=of_decide_eq_true h1;simpa using this
  · have:=of_decide_eq_true h1;have:=of_decide_eq_true h2
    simp at hk
    match k,hk with
    | 0,_=>exact ⟨by assumption,.inl rfl⟩
    | 1,_=>exact ⟨by assumption,.inr rfl⟩
theorem ok_spec_l1Parents (x0 : Family) (x1 : Int) (hx : x0.people.length ≤ 1048576) (hi : 0 ≤ x1 ∧ x1 < x0.people.length) : FnT Try.prog 107 [.agg (cFamily false x0), .int .i64 x1] (C107 (l1Parents x0 x1)) := by
  have aux : ∀ R, l1Parents x0 x1 = R → slim (C107 R) (A107 x0 x1) [] := by
    intro R hR
    refine rg ⟨trivial,trivial⟩ ?_
    refine rg ⟨by trivial,trivial⟩ ?_
    revert hR;refine cd (fun hc1 hR=>?_) fun hc1 hR=>?_
    ·
      refine rg ⟨by trivial,trivial,by trivial,trivial⟩ ?_
      refine rg ⟨by trivial,trivial⟩ ?_
      revert hR;refine cd (fun hc2 hR=>?_) fun hc2 hR=>?_
      ·
        refine rg ⟨by trivial,trivial,by ((try clear hR);intros;(try simp only [decide_eq_true_eq,decide_eq_false_iff_not,Bool.or_eq_true,Bool.and_eq_true,or_f_iff,not_f_iff,not_t_iff,Bool.not_eq_true',inR] at *);(repeat' apply And.intro) <;> (simp_all [inR];done)),trivial⟩ ?_
        refine rg trivial ?_
        exact congrArg C107 hR
      ·
        refine rg trivial ?_
        exact congrArg C107 hR
    ·
      refine rg ⟨by trivial,trivial⟩ ?_
      revert hR;refine cd (fun hc3 hR=>?_) fun hc3 hR=>?_
      ·
        refine rg ⟨by trivial,trivial,by trivial,trivial⟩ ?_
        refine rg trivial ?_
        exact congrArg C107 hR
      ·
        refine rg trivial ?_
        exact congrArg C107 hR
  exact Fn.go 40 Try.func107 (by kernel_rfl) (by kernel_rfl) (by simp [C107,Frs,FrsL,FrsB,rowOf,cInt,cBool,cStr,cSl,FrsL_app,cPerson,cUnion,cFamily]) (A107 x0 x1) (by kernel_rfl) (aux _ rfl)
theorem l1Has_iff (x : Family) (p : Int) : l1Has x p = true ↔ (0 ≤ p ∧ p < x.people.length) ∧ specIsFamily x = true := by
  simp only [l1Has,Bool.and_eq_true,decide_eq_true_eq]
theorem specIsFamily_iff (x : Family) : specIsFamily x = true ↔ (x.people.length ≤ 40 ∧ x.unions.length ≤ 60) ∧ (∀ k : Nat, k < x.people.length → l1Person x k = true) ∧ (∀ k : Nat, k < x.people.length → (l1Depths x).getD k default ≤ 10) ∧ ∀ k : Nat, k < x.unions.length → l1Union x k = true := by
  simp only [specIsFamily,cond_f_iff,or_f_iff,loopN_all,not_f_iff,decide_eq_false_iff_not,Int.not_lt,l1Depths_len,and_true]
  constructor
  · rintro ⟨⟨h1,h2⟩,h3,h4,h5⟩;exact ⟨⟨by omega,by omega⟩,h3,h4,h5⟩
  · rintro ⟨⟨h1,h2⟩,h3,h4,h5⟩;exact ⟨⟨by omega,by omega⟩,h3,h4,h5⟩
theorem isFamily_par (x : Family) (h : specIsFamily x = true) : ∀ (k : Nat),k < x.people.length → (x.people.getD k default).father < k ∧ (x.people.getD k default).mother < k:=fun k hk=>l1Person_par x k (((specIsFamily_iff x).1 h).2.1 k hk)
end Go.Proofs.Ytaageiiodlfeiaa
