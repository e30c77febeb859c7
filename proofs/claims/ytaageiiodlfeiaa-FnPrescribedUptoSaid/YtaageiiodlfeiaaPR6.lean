import Derived.Test.YtaageiiodlfeiaaPR5
set_option maxHeartbeats 4000000
set_option linter.unusedSimpArgs false
set_option linter.unusedVariables false
namespace Go.Proofs.Ytaageiiodlfeiaa
open Go Go.Lite Go.Proofs
structure Relation where
  size : Int
  rows : List (List Int)
  deriving Inhabited
def cRelation (fr : Bool) (x : Relation) : List LV:=cInt .i64 x.size ++ cSl fr 1 (cSl fr 1 (cInt .i64)) x.rows

def C178 (R : Bool) : LV × List (Nat × BC):=(.bool R,[])
def implIsRel (x0 : Relation) : Bool:=bif (((decide (x0.size < 0)) || (decide (40 < x0.size))) || (!decide (((x0.rows.length : Nat) : Int) = x0.size))) then false else (loopN (fun i1 (v1 : Unit) nx1=>loopN (fun i2 (v2 : Unit) next=>bif (((decide (((x0.rows.getD i1 default).getD i2 default) < 0)) || (decide (x0.size ≤ ((x0.rows.getD i1 default).getD i2 default)))) || ((decide (0 < ((i2 : Nat) : Int))) && (decide (((x0.rows.getD i1 default).getD i2 default) ≤ ((x0.rows.getD i1 default).getD ((((i2 : Nat) : Int) - 1).toNat) default))))) then false else (next ())) (fun (v2 : Unit)=>nx1 ()) ((x0.rows.getD i1 default).length) 0 ()) (fun (v1 : Unit)=>true) x0.rows.length 0 ())
def D178b1 (x0 : Relation) (i1 : Nat) (v1 : Unit) : Dl:=⟨[(26,.int .i64 ((i1 : Nat) : Int))],[]⟩
def D178b2 (x0 : Relation) (i1 : Nat) (v1 : Unit) (i2 : Nat) (v2 : Unit) : Dl:=⟨[(32,.int .i64 ((i2 : Nat) : Int))],[]⟩
def A178b2 (x0 : Relation) (i1 : Nat) (v1 : Unit) (i2 : Nat) (v2 : Unit) : Ann:=r0 1 [1,2,4,24,25,26,30,31,32,33] [1] (cn (decide (((i2 : Nat) : Int) < (((x0.rows.getD i1 default).length : Nat) : Int))) (.reg 2 [] [] [1,2,4,24,25,26,30,31,32,57] [1] [!(decide (((x0.rows.getD i1 default).getD i2 default) < 0)),decide (((x0.rows.getD i1 default).getD i2 default) < 0),!((decide (((x0.rows.getD i1 default).getD i2 default) < 0)) || (decide (x0.size ≤ ((x0.rows.getD i1 default).getD i2 default)))),(!((decide (((x0.rows.getD i1 default).getD i2 default) < 0)) || (decide (x0.size ≤ ((x0.rows.getD i1 default).getD i2 default))))) && (decide (0 < ((i2 : Nat) : Int))),(decide (((x0.rows.getD i1 default).getD i2 default) < 0)) || (decide (x0.size ≤ ((x0.rows.getD i1 default).getD i2 default)))] [pf (0 ≤ (((i2 : Nat) : Int) : Int) ∧ (((i2 : Nat) : Int) : Int) < (((x0.rows.getD i1 default).length : Nat) : Int)),gt ((!((decide (((x0.rows.getD i1 default).getD i2 default) < 0)) || (decide (x0.size ≤ ((x0.rows.getD i1 default).getD i2 default))))) && (decide (0 < ((i2 : Nat) : Int)))) (pf (inR .i64 (((i2 : Nat) : Int) - 1))),gt ((!((decide (((x0.rows.getD i1 default).getD i2 default) < 0)) || (decide (x0.size ≤ ((x0.rows.getD i1 default).getD i2 default))))) && (decide (0 < ((i2 : Nat) : Int)))) (pf (0 ≤ (((i2 : Nat) : Int) - 1 : Int) ∧ (((i2 : Nat) : Int) - 1 : Int) < (((x0.rows.getD i1 default).length : Nat) : Int))),gt (!((decide (((x0.rows.getD i1 default).getD i2 default) < 0)) || (decide (x0.size ≤ ((x0.rows.getD i1 default).getD i2 default))))) (gt (decide (0 < ((i2 : Nat) : Int))) (pf (((!((decide (((x0.rows.getD i1 default).getD i2 default) < 0)) || (decide (x0.size ≤ ((x0.rows.getD i1 default).getD i2 default))))) && (decide (0 < ((i2 : Nat) : Int)))) = true)))] [] [0,1,1,1,6,9,9,13,4,13,13,8,13,13,13,9,12,18] (cn (((decide (((x0.rows.getD i1 default).getD i2 default) < 0)) || (decide (x0.size ≤ ((x0.rows.getD i1 default).getD i2 default)))) || ((decide (0 < ((i2 : Nat) : Int))) && (decide (((x0.rows.getD i1 default).getD i2 default) ≤ ((x0.rows.getD i1 default).getD ((((i2 : Nat) : Int) - 1).toNat) default))))) (r0 1 [1,2,4,24,25,26,30,31,32] [1] (rt [] (C178 false))) (r1 1 [1,2,4,24,25,26,30,31,32] [1] [pf (inR .i64 (((i2 : Nat) : Int) + 1))] [0] (.next 0 [] (D178b2 x0 i1 v1 (i2 + 1) ()))))) (r1 1 [1,2,24,25,26] [1] [pf (inR .i64 (((i1 : Nat) : Int) + 1))] [0] (.next 1 [] (D178b1 x0 (i1 + 1) ()))))
def A178b1 (x0 : Relation) (i1 : Nat) (v1 : Unit) : Ann:=r0 1 [1,2,24,25,26,27] [1] (cn (decide (((i1 : Nat) : Int) < ((x0.rows.length : Nat) : Int))) (r1 2 [1,2,4,24,25,26,30,31,32] [1] [pf (0 ≤ (((i1 : Nat) : Int) : Int) ∧ (((i1 : Nat) : Int) : Int) < ((x0.rows.length : Nat) : Int))] [0] (lp (D178b2 x0 i1 v1) [] [] [] (D178b2 x0 i1 v1 0 ()) (A178b2 x0 i1 v1))) (r0 1 [2] [] (rt [] (C178 true))))
def A178 (x0 : Relation) : Ann:=r0 1 [1,2] [1] (.reg 1 [] [] [1,2,22] [1] [!(decide (x0.size < 0)),decide (x0.size < 0),!((decide (x0.size < 0)) || (decide (40 < x0.size))),(decide (x0.size < 0)) || (decide (40 < x0.size))] [] [] [1,1,6,9,9,9,9,9,14] (cn (((decide (x0.size < 0)) || (decide (40 < x0.size))) || (!decide (((x0.rows.length : Nat) : Int) = x0.size))) (r0 1 [1,2] [1] (rt [] (C178 false))) (r0 1 [1,2,24,25,26] [1] (lp (D178b1 x0) [] [] [] (D178b1 x0 0 ()) (A178b1 x0)))))
theorem ok_impl_IsRelation (x0 : Relation) (hx : x0.rows.length ≤ 1048576 ∧ ∀ y ∈ x0.rows, y.length ≤ 1048576) : FnT Try.prog 178 [.agg (cRelation false x0)] (C178 (implIsRel x0)) := by
  have aux : ∀ R, implIsRel x0 = R → slim (C178 R) (A178 x0) [] := by
    intro R hR
    refine rg trivial ?_
    refine rg trivial ?_
    revert hR;refine cd (fun hc1 hR=>?_) fun hc1 hR=>?_
    ·
      refine rg trivial ?_
      exact congrArg C178 hR
    ·
      refine rg trivial ?_
      revert hR;refine lN (fun i v=>True) (by trivial) rfl fun i1 v1 F1 hn1 hI1 hR hK1=>?_
      refine rg trivial ?_
      refine ⟨fun hc2=>?_,fun hc2=>?_⟩
      · have hii1 : i1 < x0.rows.length:=by have:=of_decide_eq_true hc2;omega
        replace hR:=loopN_step hR hii1
        refine rg ⟨by (intros;omega),trivial⟩ ?_
        revert hR;refine lN (fun i v=>True) (by trivial) rfl fun i2 v2 F2 hn2 hI2 hR hK2=>?_
        refine rg trivial ?_
        refine ⟨fun hc3=>?_,fun hc3=>?_⟩
        · have hii2 : i2 < (x0.rows.getD i1 default).length:=by have:=of_decide_eq_true hc3;omega
          replace hR:=loopN_step hR hii2
          refine rg ⟨by (intros;omega),by ((try clear hR hK1 hK2);intros;(try simp only [decide_eq_true_eq,decide_eq_false_iff_not,Bool.or_eq_true,Bool.and_eq_true,or_f_iff,not_f_iff,not_t_iff,Bool.not_eq_true',inR] at *);(repeat' apply And.intro) <;> (first | (intros;omega) | (have h9:=hx.2 _ (getD_mem (d:=default) hii1);omega))),by ((try clear hR hK1 hK2);intros;(try simp only [decide_eq_true_eq,decide_eq_false_iff_not,Bool.or_eq_true,Bool.and_eq_true,or_f_iff,not_f_iff,not_t_iff,Bool.not_eq_true',inR] at *);(repeat' apply And.intro) <;> (intros;omega)),by ((try clear hR hK1 hK2);intros;(try simp only [decide_eq_true_eq,decide_eq_false_iff_not,Bool.or_eq_true,Bool.and_eq_true,or_f_iff,not_f_iff,not_t_iff,Bool.not_eq_true',inR] at *);(repeat' apply And.intro) <;> (intros;omega)),trivial⟩ ?_
          revert hR;refine cd (fun hc4 hR=>?_) fun hc4 hR=>?_
          ·
            refine rg trivial ?_
            exact congrArg C178 hR
          ·
            refine rg ⟨by ((try clear hR hK1 hK2);intros;(try simp only [decide_eq_true_eq,decide_eq_false_iff_not,Bool.or_eq_true,Bool.and_eq_true,or_f_iff,not_f_iff,not_t_iff,Bool.not_eq_true',inR] at *);(repeat' apply And.intro) <;> (first | (intros;omega) | (have h9:=hx.2 _ (getD_mem (d:=default) hii1);omega))),trivial⟩ ?_
            exact hK2 () hii2 (by trivial) hR
        · obtain rfl : i2 = (x0.rows.getD i1 default).length:=by have:=of_decide_eq_false hc3;omega
          replace hR:=loopN_end hR (Nat.lt_irrefl _)
          refine rg ⟨by ( intros;simp only [inR];omega),trivial⟩ ?_
          exact hK1 () hii1 (by trivial) hR
      · obtain rfl : i1 = x0.rows.length:=by have:=of_decide_eq_false hc2;omega
        replace hR:=loopN_end hR (Nat.lt_irrefl _)
        refine rg trivial ?_
        exact congrArg C178 hR
  exact Fn.go 60 Try.func178 (by kernel_rfl) (by kernel_rfl) (by simp [C178,Frs,FrsL]) (A178 x0) (by kernel_rfl) (aux _ rfl)
def k178 (x0 : Relation) : Cl:=(hres (C178 (implIsRel x0)),k1 (ok_impl_IsRelation x0))
def C146 (R : Bool) : LV × List (Nat × BC):=(.bool R,[])
def twoRel (x0 : Relation) (x1 : Relation) : Bool:=((implIsRel x0) && (implIsRel x1)) && (decide (x0.size = x1.size))
def A146 (x0 : Relation) (x1 : Relation) : Ann:=.reg 2 [] [(1001,k178 x0),(1004,cg (implIsRel x0) (k178 x1))] [4] [] [implIsRel x0,(implIsRel x0) && (implIsRel x1)] [] [] [0,1,4,1,5,5,5,5,5] (rt [] (C146 (((implIsRel x0) && (implIsRel x1)) && (decide (x0.size = x1.size)))))
theorem ok_impl_two (x0 : Relation) (x1 : Relation) (hx : x0.rows.length ≤ 1048576 ∧ ∀ y ∈ x0.rows, y.length ≤ 1048576) (hy : x1.rows.length ≤ 1048576 ∧ ∀ y ∈ x1.rows, y.length ≤ 1048576) : FnT Try.prog 146 [.agg (cRelation false x0), .agg (cRelation false x1)] (C146 (twoRel x0 x1)) := by
  have aux : ∀ R, twoRel x0 x1 = R → slim (C146 R) (A146 x0 x1) [] := by
    intro R hR
    refine rg ⟨by trivial,fun hg0=>by trivial,trivial⟩ ?_
    exact congrArg C146 hR
  exact Fn.go 18 Try.func146 (by kernel_rfl) (by kernel_rfl) (by simp [C146,Frs,FrsL]) (A146 x0 x1) (by kernel_rfl) (aux _ rfl)
def k146 (x0 : Relation) (x1 : Relation) : Cl:=(hres (C146 (twoRel x0 x1)),k2 (ok_impl_two x0 x1))
def C105 (R : Bool) : LV × List (Nat × BC):=(.bool R,[])
def hasInt (x0 : List Int) (x1 : Int) : Bool:=loopN (fun i1 (v1 : Unit) next=>bif (decide ((x0.getD i1 default) = x1)) then true else (next ())) (fun (v1 : Unit)=>false) x0.length 0 ()
def D105b1 (x0 : List Int) (x1 : Int) (i1 : Nat) (v1 : Unit) : Dl:=⟨[(9,.int .i64 ((i1 : Nat) : Int))],[]⟩
def A105b1 (x0 : List Int) (x1 : Int) (i1 : Nat) (v1 : Unit) : Ann:=r0 1 [1,4,7,8,9,10] [] (cn (decide (((i1 : Nat) : Int) < ((x0.length : Nat) : Int))) (r1 2 [1,4,7,8,9,15] [] [pf (0 ≤ (((i1 : Nat) : Int) : Int) ∧ (((i1 : Nat) : Int) : Int) < ((x0.length : Nat) : Int))] [0] (cn (decide ((x0.getD i1 default) = x1)) (r0 1 [1,4,7,8,9] [] (rt [] (C105 true))) (r1 1 [1,4,7,8,9] [] [pf (inR .i64 (((i1 : Nat) : Int) + 1))] [0] (.next 0 [] (D105b1 x0 x1 (i1 + 1) ()))))) (r0 1 [4] [] (rt [] (C105 false))))
def A105 (x0 : List Int) (x1 : Int) : Ann:=r0 1 [0,1,4] [] (r0 1 [1,4,7,8,9] [] (lp (D105b1 x0 x1) [] [] [] (D105b1 x0 x1 0 ()) (A105b1 x0 x1)))
theorem ok_impl_hasInt (x0 : List Int) (x1 : Int) (hx : x0.length ≤ 1048576) : FnT Try.prog 105 [.ro false 1 x0.length (rowOf (cInt .i64) x0), .int .i64 x1] (C105 (hasInt x0 x1)) := by
  have aux : ∀ R, hasInt x0 x1 = R → slim (C105 R) (A105 x0 x1) [] := by
    intro R hR
    refine rg trivial ?_
    refine rg trivial ?_
    revert hR;refine lN (fun i v=>True) (by trivial) rfl fun i1 v1 F1 hn1 hI1 hR hK1=>?_
    refine rg trivial ?_
    refine ⟨fun hc1=>?_,fun hc1=>?_⟩
    · have hii1 : i1 < x0.length:=by have:=of_decide_eq_true hc1;omega
      replace hR:=loopN_step hR hii1
      refine rg ⟨by (intros;omega),trivial⟩ ?_
      revert hR;refine cd (fun hc2 hR=>?_) fun hc2 hR=>?_
      ·
        refine rg trivial ?_
        exact congrArg C105 hR
      ·
        refine rg ⟨by ( intros;simp only [inR];omega),trivial⟩ ?_
        exact hK1 () hii1 (by trivial) hR
    · obtain rfl : i1 = x0.length:=by have:=of_decide_eq_false hc1;omega
      replace hR:=loopN_end hR (Nat.lt_irrefl _)
      refine rg trivial ?_
      exact congrArg C105 hR
  exact Fn.go 17 Try.func105 (by kernel_rfl) (by kernel_rfl) (by simp [C105,Frs,FrsL]) (A105 x0 x1) (by kernel_rfl) (aux _ rfl)
def k105 (x0 : List Int) (x1 : Int) : Cl:=(hres (C105 (hasInt x0 x1)),k1 (ok_impl_hasInt x0 x1))
def C97 (R : Bool) : LV × List (Nat × BC):=(.bool R,[])
def relForL (x0 : Int) (x1 : Int) (x2 : KinType) (x3 : Family) : Bool:=(decide (x0 = x1)) && ((decide (x2.ego = 0)) || (decide (((x3.people.getD x0.toNat default).sex) = x2.ego)))
def A97 (x0 : Int) (x1 : Int) (x2 : KinType) (x3 : Family) : Ann:=.reg 2 [] [] [6] [] [decide (x0 = x1),(decide (x0 = x1)) && (!(decide (x2.ego = 0)))] [gt ((decide (x0 = x1)) && (!(decide (x2.ego = 0)))) (pf (0 ≤ (x0 : Int) ∧ (x0 : Int) < ((x3.people.length : Nat) : Int))),gt (decide (x0 = x1)) (gf (decide (x2.ego = 0)) (pf (((decide (x0 = x1)) && (!(decide (x2.ego = 0)))) = true)))] [] [1,1,1,5,5,5,0,5,5,5,5,5,1,4,1] (rt [] (C97 ((decide (x0 = x1)) && ((decide (x2.ego = 0)) || (decide (((x3.people.getD x0.toNat default).sex) = x2.ego))))))
theorem ok_impl_RelationFor_1 (x0 : Int) (x1 : Int) (x2 : KinType) (x3 : Family) (h : 0 ≤ x0 ∧ x0 < x3.people.length) (hx : x3.people.length ≤ 1048576) : FnT Try.prog 97 [.int .i64 x0, .int .i64 x1, .ep [.int .i64 x2.ego, .ro false 2 x2.steps.length (rowOf (cStep false) x2.steps)] 0, .ep [.ro false 6 x3.people.length (rowOf (cPerson false) x3.people), .ro false 4 x3.unions.length (rowOf (cUnion false) x3.unions)] 0] (C97 (relForL x0 x1 x2 x3)) := by
  have aux : ∀ R, relForL x0 x1 x2 x3 = R → slim (C97 R) (A97 x0 x1 x2 x3) [] := by
    intro R hR
    refine rg ⟨by (intros;omega),by ((try clear hR);intros;(try simp only [decide_eq_true_eq,decide_eq_false_iff_not,Bool.or_eq_true,Bool.and_eq_true,or_f_iff,not_f_iff,not_t_iff,Bool.not_eq_true',inR] at *);(repeat' apply And.intro) <;> (intros;omega)),trivial⟩ ?_
    exact congrArg C97 hR
  exact Fn.go 26 Try.func97 (by kernel_rfl) (by kernel_rfl) (by simp [C97,Frs,FrsL]) (A97 x0 x1 x2 x3) (by kernel_rfl) (aux _ rfl)
def k97 (x0 : Int) (x1 : Int) (x2 : KinType) (x3 : Family) : Cl:=(hres (C97 (relForL x0 x1 x2 x3)),k2 (ok_impl_RelationFor_1 x0 x1 x2 x3))
def C147 (R : Bool) : LV × List (Nat × BC):=(.bool R,[])
def relCompL (x0 : Int) (x1 : Int) (x2 : Relation) (x3 : Relation) : Bool:=loopN (fun i1 (v1 : Unit) next=>bif (hasInt (x3.rows.getD (((x2.rows.getD x0.toNat default).getD i1 default).toNat) default) x1) then true else (next ())) (fun (v1 : Unit)=>false) ((x2.rows.getD x0.toNat default).length) 0 ()
def D147b1 (x0 : Int) (x1 : Int) (x2 : Relation) (x3 : Relation) (i1 : Nat) (v1 : Unit) : Dl:=⟨[(15,.int .i64 ((i1 : Nat) : Int))],[]⟩
def A147b1 (x0 : Int) (x1 : Int) (x2 : Relation) (x3 : Relation) (i1 : Nat) (v1 : Unit) : Ann:=r0 1 [1,3,6,13,14,15,16] [] (cn (decide (((i1 : Nat) : Int) < (((x2.rows.getD x0.toNat default).length : Nat) : Int))) (.reg 2 [] [(1006,k105 (x3.rows.getD (((x2.rows.getD x0.toNat default).getD i1 default).toNat) default) x1)] [1,3,6,13,14,15,25] [] [] [pf (0 ≤ (((i1 : Nat) : Int) : Int) ∧ (((i1 : Nat) : Int) : Int) < (((x2.rows.getD x0.toNat default).length : Nat) : Int)),pf (0 ≤ (((x2.rows.getD x0.toNat default).getD i1 default) : Int) ∧ (((x2.rows.getD x0.toNat default).getD i1 default) : Int) < ((x3.rows.length : Nat) : Int))] [] [0,4,8] (cn (hasInt (x3.rows.getD (((x2.rows.getD x0.toNat default).getD i1 default).toNat) default) x1) (r0 1 [1,3,6,13,14,15] [] (rt [] (C147 true))) (r1 1 [1,3,6,13,14,15] [] [pf (inR .i64 (((i1 : Nat) : Int) + 1))] [0] (.next 0 [] (D147b1 x0 x1 x2 x3 (i1 + 1) ()))))) (r0 1 [6] [] (rt [] (C147 false))))
def A147 (x0 : Int) (x1 : Int) (x2 : Relation) (x3 : Relation) : Ann:=r0 1 [0,1,2,3,6] [] (r1 1 [1,3,6,13,14,15] [] [pf (0 ≤ (x0 : Int) ∧ (x0 : Int) < ((x2.rows.length : Nat) : Int))] [0] (lp (D147b1 x0 x1 x2 x3) [] [] [] (D147b1 x0 x1 x2 x3 0 ()) (A147b1 x0 x1 x2 x3)))
theorem ok_impl_ComposeRelations_1 (x0 : Int) (x1 : Int) (x2 : Relation) (x3 : Relation) (h : 0 ≤ x0 ∧ x0 < x2.rows.length) (hr : ∀ y ∈ x2.rows, y.length ≤ 1048576 ∧ ∀ b ∈ y, 0 ≤ b ∧ b < x3.rows.length) (hs : ∀ y ∈ x3.rows, y.length ≤ 1048576) : FnT Try.prog 147 [.int .i64 x0, .int .i64 x1, .ep [.int .i64 x2.size, .ro false 1 x2.rows.length (rowOf (cSl false 1 (cInt .i64)) x2.rows)] 0, .ep [.int .i64 x3.size, .ro false 1 x3.rows.length (rowOf (cSl false 1 (cInt .i64)) x3.rows)] 0] (C147 (relCompL x0 x1 x2 x3)) := by
  have aux : ∀ R, relCompL x0 x1 x2 x3 = R → slim (C147 R) (A147 x0 x1 x2 x3) [] := by
    intro R hR
    refine rg trivial ?_
    refine rg ⟨by trivial,trivial⟩ ?_
    revert hR;refine lN (fun i v=>True) (by trivial) rfl fun i1 v1 F1 hn1 hI1 hR hK1=>?_
    refine rg trivial ?_
    refine ⟨fun hc1=>?_,fun hc1=>?_⟩
    · have hii1 : i1 < (x2.rows.getD x0.toNat default).length:=by have:=of_decide_eq_true hc1;omega
      replace hR:=loopN_step hR hii1
      refine rg ⟨by (intros;omega),by (have h9:=(hr _ (getD_mem (d:=default) (l:=x2.rows) (k:=x0.toNat) (by omega))).2 _ (getD_mem (d:=default) hii1);omega),by (have h9:=(hr _ (getD_mem (d:=default) (l:=x2.rows) (k:=x0.toNat) (by omega))).2 _ (getD_mem (d:=default) hii1);exact hs _ (getD_mem (d:=default) (by omega))),trivial⟩ ?_
      revert hR;refine cd (fun hc2 hR=>?_) fun hc2 hR=>?_
      ·
        refine rg trivial ?_
        exact congrArg C147 hR
      ·
        refine rg ⟨by ((try clear hR hK1);intros;(try simp only [decide_eq_true_eq,decide_eq_false_iff_not,Bool.or_eq_true,Bool.and_eq_true,or_f_iff,not_f_iff,not_t_iff,Bool.not_eq_true',inR] at *);(repeat' apply And.intro) <;> (first | (intros;omega) | (have h9:=hr _ (getD_mem (d:=default) (l:=x2.rows) (k:=x0.toNat) (by omega));omega))),trivial⟩ ?_
        exact hK1 () hii1 (by trivial) hR
    · obtain rfl : i1 = (x2.rows.getD x0.toNat default).length:=by have:=of_decide_eq_false hc1;omega
      replace hR:=loopN_end hR (Nat.lt_irrefl _)
      refine rg trivial ?_
      exact congrArg C147 hR
  exact Fn.go 27 Try.func147 (by kernel_rfl) (by kernel_rfl) (by simp [C147,Frs,FrsL]) (A147 x0 x1 x2 x3) (by kernel_rfl) (aux _ rfl)
def k147 (x0 : Int) (x1 : Int) (x2 : Relation) (x3 : Relation) : Cl:=(hres (C147 (relCompL x0 x1 x2 x3)),k3 (ok_impl_ComposeRelations_1 x0 x1 x2 x3))
def C96F (R : Relation) : LV × List (Nat × BC):=(.agg [.int .i64 R.size,.own 0],[(0,.nest true 1 R.rows.length (nrOf (cInt .i64) R.rows))])
def relatedF (x0 : Int) (x1 : KinType × Family) : Relation:=loopN (fun i1 (v1 : (List (List Int))) nx1=>loopN (fun i2 (v2 : (List Int)) next=>bif (relForL ((i1 : Nat) : Int) ((i2 : Nat) : Int) x1.1 x1.2) then (next (v2 ++ [((i2 : Nat) : Int)])) else (next v2)) (fun (v2 : (List Int))=>nx1 (v1 ++ [v2])) x0.toNat 0 ([] : List Int)) (fun (v1 : (List (List Int)))=>(Relation.mk x0 v1)) x0.toNat 0 ([] : List (List Int))
def D96Fb1 (x0 : Int) (x1 : KinType × Family) (i1 : Nat) (v1 : (List (List Int))) : Dl:=⟨[(12,.int .i64 ((i1 : Nat) : Int))],[(30501,.nest true 1 v1.length (nrOf (cInt .i64) v1)),(5,.var [.int .i64 x0,.own 30501])]⟩
def D96Fb2 (x0 : Int) (x1 : KinType × Family) (i1 : Nat) (v1 : (List (List Int))) (i2 : Nat) (v2 : (List Int)) : Dl:=⟨[(16,.int .i64 ((i2 : Nat) : Int)),(7,.own 20007)],[(20007,.arr 1 v2.length (rowOf (cInt .i64) v2))]⟩
def A96Fb2 (x0 : Int) (x1 : KinType × Family) (i1 : Nat) (v1 : (List (List Int))) (i2 : Nat) (v2 : (List Int)) : Ann:=r0 1 [0,1,4,5,6,7,11,12,15,16,17] [4,5,20007,30501] (cn (decide (((i2 : Nat) : Int) < x0)) (.reg 2 [] [(1003,k97 ((i1 : Nat) : Int) ((i2 : Nat) : Int) x1.1 x1.2)] [0,1,4,5,6,7,8,11,12,15,16,22] [4,5,20007,30501] [] [] [] [0] (cn (relForL ((i1 : Nat) : Int) ((i2 : Nat) : Int) x1.1 x1.2) (.reg 1 [] [(2,bsC 25 (cInt .i64) ([((i2 : Nat) : Int)] : List Int)),(3,ap1 26 (cInt .i64) 8 v2 ((i2 : Nat) : Int))] [0,1,4,5,6,7,11,12,15,16] [4,5,26,30501] [] [] [] [0,4] (r1 1 [0,1,4,5,6,7,11,12,15,16] [4,5,26,30501] [pf (inR .i64 (((i2 : Nat) : Int) + 1))] [0] (.next 0 [(20007,some 26)] (D96Fb2 x0 x1 i1 v1 (i2 + 1) (v2 ++ [((i2 : Nat) : Int)]))))) (r1 1 [0,1,4,5,6,7,11,12,15,16] [4,5,20007,30501] [pf (inR .i64 (((i2 : Nat) : Int) + 1))] [0] (.next 0 [(20007,some 20007)] (D96Fb2 x0 x1 i1 v1 (i2 + 1) v2))))) (.reg 1 [] [(3,nB1 (cInt .i64) v2),(4,nA1 (cInt .i64) v1 v2 24)] [0,1,4,5,11,12] [4,5,32] [] [] [] [0,4] (r1 1 [0,1,4,5,11,12] [4,5,32] [pf (inR .i64 (((i1 : Nat) : Int) + 1))] [0] (.next 1 [(30501,some 32)] (D96Fb1 x0 x1 (i1 + 1) (v1 ++ [v2]))))))
def A96Fb1 (x0 : Int) (x1 : KinType × Family) (i1 : Nat) (v1 : (List (List Int))) : Ann:=r0 1 [0,1,4,5,11,12,13] [4,5,30501] (cn (decide (((i1 : Nat) : Int) < x0)) (r0 2 [0,1,4,5,6,7,11,12] [4,5,30501] (r0 1 [0,1,4,5,6,7,11,12,15,16] [4,5,30501] (lp (D96Fb2 x0 x1 i1 v1) [] [] [(20007,none)] (D96Fb2 x0 x1 i1 v1 0 ([] : List Int)) (A96Fb2 x0 x1 i1 v1)))) (r0 1 [4] [4,30501] (rt [(0,some 30501)] (C96F (Relation.mk x0 v1)))))
def A96F (x0 : Int) (x1 : KinType × Family) : Ann:=r0 2 [0,1,4,5] [4,5] (r0 1 [0,1,4,5,11,12] [4,5] (lp (D96Fb1 x0 x1) [] [] [(30501,none)] (D96Fb1 x0 x1 0 ([] : List (List Int))) (A96Fb1 x0 x1)))
theorem ok_impl_related_F (x0 : Int) (x1 : KinType × Family) (hn : 0 ≤ x0 ∧ x0 ≤ x1.2.people.length) (hx : x1.2.people.length ≤ 1048576) : FnT Try.prog 96 [.int .i64 x0, .clo 97 [.ep [.int .i64 x1.1.ego, .ro false 2 x1.1.steps.length (rowOf (cStep false) x1.1.steps)] 0, .ep [.ro false 6 x1.2.people.length (rowOf (cPerson false) x1.2.people), .ro false 4 x1.2.unions.length (rowOf (cUnion false) x1.2.unions)] 0]] (C96F (relatedF x0 x1)) := by
  have aux : ∀ R, relatedF x0 x1 = R → slim (C96F R) (A96F x0 x1) [] := by
    intro R hR
    refine rg trivial ?_
    refine rg trivial ?_
    revert hR;refine lN (fun i v=>(v : List (List Int)).length = i) (by trivial) rfl fun i1 v1 F1 hn1 hI1 hR hK1=>?_
    refine rg trivial ?_
    refine ⟨fun hc1=>?_,fun hc1=>?_⟩
    · have hii1 : i1 < x0.toNat:=by have:=of_decide_eq_true hc1;omega
      replace hR:=loopN_step hR hii1
      refine rg trivial ?_
      refine rg trivial ?_
      revert hR;refine lN (fun i v=>(v : List Int).length ≤ i) (by trivial) rfl fun i2 v2 F2 hn2 hI2 hR hK2=>?_
      refine rg trivial ?_
      refine ⟨fun hc2=>?_,fun hc2=>?_⟩
      · have hii2 : i2 < x0.toNat:=by have:=of_decide_eq_true hc2;omega
        replace hR:=loopN_step hR hii2
        refine rg ⟨⟨by (intros;omega),by trivial⟩,trivial⟩ ?_
        revert hR;refine cd (fun hc3 hR=>?_) fun hc3 hR=>?_
        ·
          refine rg ⟨trivial,by omega,trivial⟩ ?_
          refine rg ⟨by ( intros;simp only [inR];omega),trivial⟩ ?_
          exact hK2 (v2 ++ [((i2 : Nat) : Int)]) hii2 (by ((try clear hR hK1 hK2);intros;(try simp only [decide_eq_true_eq,decide_eq_false_iff_not,Bool.or_eq_true,Bool.and_eq_true,or_f_iff,not_f_iff,not_t_iff,Bool.not_eq_true',inR] at *);(repeat' apply And.intro) <;> (simp_all [inR];done))) hR
        ·
          refine rg ⟨by ( intros;simp only [inR];omega),trivial⟩ ?_
          exact hK2 v2 hii2 (by (intros;omega)) hR
      · obtain rfl : i2 = x0.toNat:=by have:=of_decide_eq_false hc2;omega
        replace hR:=loopN_end hR (Nat.lt_irrefl _)
        refine rg ⟨trivial,by omega,trivial⟩ ?_
        refine rg ⟨by ( intros;simp only [inR];omega),trivial⟩ ?_
        exact hK1 (v1 ++ [v2]) hii1 (by ((try clear hR hK1 hK2);intros;(try simp only [decide_eq_true_eq,decide_eq_false_iff_not,Bool.or_eq_true,Bool.and_eq_true,or_f_iff,not_f_iff,not_t_iff,Bool.not_eq_true',inR] at *);(repeat' apply And.intro) <;> (simp_all [inR];done))) hR
    · obtain rfl : i1 = x0.toNat:=by have:=of_decide_eq_false hc1;omega
      replace hR:=loopN_end hR (Nat.lt_irrefl _)
      refine rg trivial ?_
      exact congrArg C96F hR
  exact Fn.go 36 Try.func96 (by kernel_rfl) (by kernel_rfl) (by simp [C96F,FrsN,nrOf,Frs,FrsL,FrsB,rowOf,cInt,cBool,cStr,cSl,FrsL_app,cPerson,cUnion,cFamily,cClasses,cl01Cur,cStep,cKinType,cRule,cRelation]) (A96F x0 x1) (by kernel_rfl) (aux _ rfl)
def k96F (x0 : Int) (x1 : KinType × Family) : Cl:=(hres (C96F (relatedF x0 x1)),k2 (ok_impl_related_F x0 x1))
def C96C (R : Relation) : LV × List (Nat × BC):=(.agg [.int .i64 R.size,.own 0],[(0,.nest true 1 R.rows.length (nrOf (cInt .i64) R.rows))])
def relatedC (x0 : Int) (x1 : Relation × Relation) : Relation:=loopN (fun i1 (v1 : (List (List Int))) nx1=>loopN (fun i2 (v2 : (List Int)) next=>bif (relCompL ((i1 : Nat) : Int) ((i2 : Nat) : Int) x1.1 x1.2) then (next (v2 ++ [((i2 : Nat) : Int)])) else (next v2)) (fun (v2 : (List Int))=>nx1 (v1 ++ [v2])) x0.toNat 0 ([] : List Int)) (fun (v1 : (List (List Int)))=>(Relation.mk x0 v1)) x0.toNat 0 ([] : List (List Int))
def D96Cb1 (x0 : Int) (x1 : Relation × Relation) (i1 : Nat) (v1 : (List (List Int))) : Dl:=⟨[(12,.int .i64 ((i1 : Nat) : Int))],[(30501,.nest true 1 v1.length (nrOf (cInt .i64) v1)),(5,.var [.int .i64 x0,.own 30501])]⟩
def D96Cb2 (x0 : Int) (x1 : Relation × Relation) (i1 : Nat) (v1 : (List (List Int))) (i2 : Nat) (v2 : (List Int)) : Dl:=⟨[(16,.int .i64 ((i2 : Nat) : Int)),(7,.own 20007)],[(20007,.arr 1 v2.length (rowOf (cInt .i64) v2))]⟩
def A96Cb2 (x0 : Int) (x1 : Relation × Relation) (i1 : Nat) (v1 : (List (List Int))) (i2 : Nat) (v2 : (List Int)) : Ann:=r0 1 [0,1,4,5,6,7,11,12,15,16,17] [4,5,20007,30501] (cn (decide (((i2 : Nat) : Int) < x0)) (.reg 2 [] [(1003,k147 ((i1 : Nat) : Int) ((i2 : Nat) : Int) x1.1 x1.2)] [0,1,4,5,6,7,8,11,12,15,16,22] [4,5,20007,30501] [] [] [] [0] (cn (relCompL ((i1 : Nat) : Int) ((i2 : Nat) : Int) x1.1 x1.2) (.reg 1 [] [(2,bsC 25 (cInt .i64) ([((i2 : Nat) : Int)] : List Int)),(3,ap1 26 (cInt .i64) 8 v2 ((i2 : Nat) : Int))] [0,1,4,5,6,7,11,12,15,16] [4,5,26,30501] [] [] [] [0,4] (r1 1 [0,1,4,5,6,7,11,12,15,16] [4,5,26,30501] [pf (inR .i64 (((i2 : Nat) : Int) + 1))] [0] (.next 0 [(20007,some 26)] (D96Cb2 x0 x1 i1 v1 (i2 + 1) (v2 ++ [((i2 : Nat) : Int)]))))) (r1 1 [0,1,4,5,6,7,11,12,15,16] [4,5,20007,30501] [pf (inR .i64 (((i2 : Nat) : Int) + 1))] [0] (.next 0 [(20007,some 20007)] (D96Cb2 x0 x1 i1 v1 (i2 + 1) v2))))) (.reg 1 [] [(3,nB1 (cInt .i64) v2),(4,nA1 (cInt .i64) v1 v2 24)] [0,1,4,5,11,12] [4,5,32] [] [] [] [0,4] (r1 1 [0,1,4,5,11,12] [4,5,32] [pf (inR .i64 (((i1 : Nat) : Int) + 1))] [0] (.next 1 [(30501,some 32)] (D96Cb1 x0 x1 (i1 + 1) (v1 ++ [v2]))))))
def A96Cb1 (x0 : Int) (x1 : Relation × Relation) (i1 : Nat) (v1 : (List (List Int))) : Ann:=r0 1 [0,1,4,5,11,12,13] [4,5,30501] (cn (decide (((i1 : Nat) : Int) < x0)) (r0 2 [0,1,4,5,6,7,11,12] [4,5,30501] (r0 1 [0,1,4,5,6,7,11,12,15,16] [4,5,30501] (lp (D96Cb2 x0 x1 i1 v1) [] [] [(20007,none)] (D96Cb2 x0 x1 i1 v1 0 ([] : List Int)) (A96Cb2 x0 x1 i1 v1)))) (r0 1 [4] [4,30501] (rt [(0,some 30501)] (C96C (Relation.mk x0 v1)))))
def A96C (x0 : Int) (x1 : Relation × Relation) : Ann:=r0 2 [0,1,4,5] [4,5] (r0 1 [0,1,4,5,11,12] [4,5] (lp (D96Cb1 x0 x1) [] [] [(30501,none)] (D96Cb1 x0 x1 0 ([] : List (List Int))) (A96Cb1 x0 x1)))
theorem ok_impl_related_C (x0 : Int) (x1 : Relation × Relation) (hn : 0 ≤ x0 ∧ x0 ≤ x1.1.rows.length ∧ x0 ≤ 1048576) (hr : ∀ y ∈ x1.1.rows, y.length ≤ 1048576 ∧ ∀ b ∈ y, 0 ≤ b ∧ b < x1.2.rows.length) (hs : ∀ y ∈ x1.2.rows, y.length ≤ 1048576) : FnT Try.prog 96 [.int .i64 x0, .clo 147 [.ep [.int .i64 x1.1.size, .ro false 1 x1.1.rows.length (rowOf (cSl false 1 (cInt .i64)) x1.1.rows)] 0, .ep [.int .i64 x1.2.size, .ro false 1 x1.2.rows.length (rowOf (cSl false 1 (cInt .i64)) x1.2.rows)] 0]] (C96C (relatedC x0 x1)) := by
  have aux : ∀ R, relatedC x0 x1 = R → slim (C96C R) (A96C x0 x1) [] := by
    intro R hR
    refine rg trivial ?_
    refine rg trivial ?_
    revert hR;refine lN (fun i v=>(v : List (List Int)).length = i) (by trivial) rfl fun i1 v1 F1 hn1 hI1 hR hK1=>?_
    refine rg trivial ?_
    refine ⟨fun hc1=>?_,fun hc1=>?_⟩
    · have hii1 : i1 < x0.toNat:=by have:=of_decide_eq_true hc1;omega
      replace hR:=loopN_step hR hii1
      refine rg trivial ?_
      refine rg trivial ?_
      revert hR;refine lN (fun i v=>(v : List Int).length ≤ i) (by trivial) rfl fun i2 v2 F2 hn2 hI2 hR hK2=>?_
      refine rg trivial ?_
      refine ⟨fun hc2=>?_,fun hc2=>?_⟩
      · have hii2 : i2 < x0.toNat:=by have:=of_decide_eq_true hc2;omega
        replace hR:=loopN_step hR hii2
        refine rg ⟨⟨by (intros;omega),by trivial,by trivial⟩,trivial⟩ ?_
        revert hR;refine cd (fun hc3 hR=>?_) fun hc3 hR=>?_
        ·
          refine rg ⟨trivial,by omega,trivial⟩ ?_
          refine rg ⟨by ( intros;simp only [inR];omega),trivial⟩ ?_
          exact hK2 (v2 ++ [((i2 : Nat) : Int)]) hii2 (by ((try clear hR hK1 hK2);intros;(try simp only [decide_eq_true_eq,decide_eq_false_iff_not,Bool.or_eq_true,Bool.and_eq_true,or_f_iff,not_f_iff,not_t_iff,Bool.not_eq_true',inR] at *);(repeat' apply And.intro) <;> (simp_all [inR];done))) hR
        ·
          refine rg ⟨by ( intros;simp only [inR];omega),trivial⟩ ?_
          exact hK2 v2 hii2 (by (intros;omega)) hR
      · obtain rfl : i2 = x0.toNat:=by have:=of_decide_eq_false hc2;omega
        replace hR:=loopN_end hR (Nat.lt_irrefl _)
        refine rg ⟨trivial,by omega,trivial⟩ ?_
        refine rg ⟨by ( intros;simp only [inR];omega),trivial⟩ ?_
        exact hK1 (v1 ++ [v2]) hii1 (by ((try clear hR hK1 hK2);intros;(try simp only [decide_eq_true_eq,decide_eq_false_iff_not,Bool.or_eq_true,Bool.and_eq_true,or_f_iff,not_f_iff,not_t_iff,Bool.not_eq_true',inR] at *);(repeat' apply And.intro) <;> (simp_all [inR];done))) hR
    · obtain rfl : i1 = x0.toNat:=by have:=of_decide_eq_false hc1;omega
      replace hR:=loopN_end hR (Nat.lt_irrefl _)
      refine rg trivial ?_
      exact congrArg C96C hR
  exact Fn.go 36 Try.func96 (by kernel_rfl) (by kernel_rfl) (by simp [C96C,FrsN,nrOf,Frs,FrsL,FrsB,rowOf,cInt,cBool,cStr,cSl,FrsL_app,cPerson,cUnion,cFamily,cClasses,cl01Cur,cStep,cKinType,cRule,cRelation]) (A96C x0 x1) (by kernel_rfl) (aux _ rfl)
def k96C (x0 : Int) (x1 : Relation × Relation) : Cl:=(hres (C96C (relatedC x0 x1)),k3 (ok_impl_related_C x0 x1))
end Go.Proofs.Ytaageiiodlfeiaa
