import Derived.Test.YtkkijpibajigfaaM22
set_option maxHeartbeats 4000000
set_option linter.unusedSimpArgs false
set_option linter.unusedVariables false
namespace Go.Proofs.Ytkkijpibajigfaa
open Go Go.Lite Go.Proofs
structure Law where
  degree : Int
  canon : Int
  affinity : Int
  age : Int
  wives : Int
  husbands : Int
  patriline : Bool
  matriline : Bool
  deriving Inhabited
def cLaw (fr : Bool) (x : Law) : List LV:=cInt .i64 x.degree ++ cInt .i64 x.canon ++ cInt .i64 x.affinity ++ cInt .i64 x.age ++ cInt .i64 x.wives ++ cInt .i64 x.husbands ++ cBool x.patriline ++ cBool x.matriline

def C95 (R : Int) : LV × List (Nat × BC):=(.int .i64 R,[])
def other (x0 : Union) (x1 : Int) : Int:=bif (decide (x1 = x0.man)) then x0.woman else (bif (decide (x1 = x0.woman)) then x0.man else (-1))
def A95 (x0 : Union) (x1 : Int) : Ann:=r0 1 [1,2,4] [2] (r0 1 [2,4,5] [2] (r0 1 [2,4,5,6] [2] (cn (decide (x1 = x0.man)) (r0 1 [4] [] (rt [] (C95 x0.woman))) (r0 1 [2,4,12] [2] (cn (decide (x1 = x0.woman)) (r0 1 [4] [] (rt [] (C95 x0.man))) (r0 1 [4] [] (rt [] (C95 (-1)))))))))
theorem other_rng (u : Union) (p : Int) : other u p = u.man ∨ other u p = u.woman ∨ other u p = -1 := by
  unfold other
  refine cond_both (p:=fun (r : Int)=>r = u.man ∨ r = u.woman ∨ r = -1) (fun _=>.inr (.inl rfl)) (fun _=>?_)
  exact cond_both (p:=fun (r : Int)=>r = u.man ∨ r = u.woman ∨ r = -1) (fun _=>.inl rfl) (fun _=>.inr (.inr rfl))
theorem ok_impl_other (x0 : Union) (x1 : Int) : FnT Try.prog 95 [.agg (cUnion false x0), .int .i64 x1] (C95 (other x0 x1)) := by
  have aux : ∀ R, other x0 x1 = R → slim (C95 R) (A95 x0 x1) [] := by
    intro R hR
    refine rg trivial ?_
    refine rg trivial ?_
    refine rg trivial ?_
    revert hR;refine cd (fun hc1 hR=>?_) fun hc1 hR=>?_
    ·
      refine rg trivial ?_
      exact congrArg C95 hR
    ·
      refine rg trivial ?_
      revert hR;refine cd (fun hc2 hR=>?_) fun hc2 hR=>?_
      ·
        refine rg trivial ?_
        exact congrArg C95 hR
      ·
        refine rg trivial ?_
        exact congrArg C95 hR
  exact Fn.go 18 Try.func95 (by kernel_rfl) (by kernel_rfl) (by simp [C95,Frs,FrsL]) (A95 x0 x1) (by kernel_rfl) (aux _ rfl)
def k95 (x0 : Union) (x1 : Int) : Cl:=(hres (C95 (other x0 x1)),k0 (ok_impl_other x0 x1))
def C139 (R : Int × Bool) : LV × List (Nat × BC):=(.tup [.int .i64 R.1,.bool R.2],[])
def l1Other (x0 : Union) (x1 : Int) : Int × Bool:=bif (decide (x0.man = x1)) then (x0.woman,true) else (x0.man,decide (x0.woman = x1))
def A139 (x0 : Union) (x1 : Int) : Ann:=r0 1 [1,2,4,5] [2] (r0 1 [1,2,4,5,9] [2] (cn (decide (x0.man = x1)) (r0 1 [1,2,4,5] [2] (rt [] (C139 (x0.woman,true)))) (r0 1 [4,5] [] (rt [] (C139 (x0.man,decide (x0.woman = x1)))))))
theorem ok_spec_l1Other (x0 : Union) (x1 : Int) : FnT Try.prog 139 [.agg (cUnion false x0), .int .i64 x1] (C139 (l1Other x0 x1)) := by
  have aux : ∀ R, l1Other x0 x1 = R → slim (C139 R) (A139 x0 x1) [] := by
    intro R hR
    refine rg trivial ?_
    refine rg trivial ?_
    revert hR;refine cd (fun hc1 hR=>?_) fun hc1 hR=>?_
    ·
      refine rg trivial ?_
      exact congrArg C139 hR
    ·
      refine rg trivial ?_
      exact congrArg C139 hR
  exact Fn.go 18 Try.func139 (by kernel_rfl) (by kernel_rfl) (by simp [C139,Frs,FrsL]) (A139 x0 x1) (by kernel_rfl) (aux _ rfl)
def k139 (x0 : Union) (x1 : Int) : Cl:=(hres (C139 (l1Other x0 x1)),k0 (ok_spec_l1Other x0 x1))
def C120 (R : Int × Bool) : LV × List (Nat × BC):=(.tup [.int .i64 R.1,.bool R.2],[])
def unionEnd (x0 : Family) (x1 : Union) : Int × Bool:=bif (!decide (x1.to = (-1))) then (x1.to,true) else (bif (decide (((x0.people.getD x1.man.toNat default).died) = (-1))) then (Max.max ((x0.people.getD x1.woman.toNat default).died) 0,!decide (((x0.people.getD x1.woman.toNat default).died) = (-1))) else (bif (decide (((x0.people.getD x1.woman.toNat default).died) = (-1))) then ((x0.people.getD x1.man.toNat default).died,true) else (Min.min ((x0.people.getD x1.man.toNat default).died) ((x0.people.getD x1.woman.toNat default).died),true)))
def A120 (x0 : Family) (x1 : Union) : Ann:=r0 1 [2,3,4,5] [2,3] (r0 1 [2,3,4,5,10] [2,3] (cn (!decide (x1.to = (-1))) (r0 1 [2,3,4,5] [2,3] (rt [] (C120 (x1.to,true)))) (r1 1 [4,5,6,7] [] [pf (0 ≤ (x1.man : Int) ∧ (x1.man : Int) < ((x0.people.length : Nat) : Int)),pf (0 ≤ (x1.woman : Int) ∧ (x1.woman : Int) < ((x0.people.length : Nat) : Int))] [0,4] (r0 1 [4,5,6,7,27] [] (cn (decide (((x0.people.getD x1.man.toNat default).died) = (-1))) (r0 1 [4,5,6,7] [] (rt [] (C120 (Max.max ((x0.people.getD x1.woman.toNat default).died) 0,!decide (((x0.people.getD x1.woman.toNat default).died) = (-1)))))) (r0 1 [4,5,6,7,34] [] (cn (decide (((x0.people.getD x1.woman.toNat default).died) = (-1))) (r0 1 [4,5,6,7] [] (rt [] (C120 ((x0.people.getD x1.man.toNat default).died,true)))) (r0 1 [4,5] [] (rt [] (C120 (Min.min ((x0.people.getD x1.man.toNat default).died) ((x0.people.getD x1.woman.toNat default).died),true)))))))))))
theorem ok_impl_unionEnd (x0 : Family) (x1 : Union) (hx : x0.people.length ≤ 1048576) (hm : 0 ≤ x1.man ∧ x1.man < x0.people.length) (hw : 0 ≤ x1.woman ∧ x1.woman < x0.people.length) : FnT Try.prog 120 [.agg (cFamily false x0), .agg (cUnion false x1)] (C120 (unionEnd x0 x1)) := by
  have aux : ∀ R, unionEnd x0 x1 = R → slim (C120 R) (A120 x0 x1) [] := by
    intro R hR
    refine rg trivial ?_
    refine rg trivial ?_
    revert hR;refine cd (fun hc1 hR=>?_) fun hc1 hR=>?_
    ·
      refine rg trivial ?_
      exact congrArg C120 hR
    ·
      refine rg ⟨by trivial,by trivial,trivial⟩ ?_
      refine rg trivial ?_
      revert hR;refine cd (fun hc2 hR=>?_) fun hc2 hR=>?_
      ·
        refine rg trivial ?_
        exact congrArg C120 hR
      ·
        refine rg trivial ?_
        revert hR;refine cd (fun hc3 hR=>?_) fun hc3 hR=>?_
        ·
          refine rg trivial ?_
          exact congrArg C120 hR
        ·
          refine rg trivial ?_
          exact congrArg C120 hR
  exact Fn.go 41 Try.func120 (by kernel_rfl) (by kernel_rfl) (by simp [C120,Frs,FrsL]) (A120 x0 x1) (by kernel_rfl) (aux _ rfl)
def k120 (x0 : Family) (x1 : Union) : Cl:=(hres (C120 (unionEnd x0 x1)),k3 (ok_impl_unionEnd x0 x1))
def C162 (R : Int × Bool) : LV × List (Nat × BC):=(.tup [.int .i64 R.1,.bool R.2],[])
def l1End (x0 : Family) (x1 : Union) : Int × Bool:=bif (decide (0 ≤ x1.to)) then (x1.to,true) else (bif ((decide (((x0.people.getD x1.man.toNat default).died) < 0)) && (decide (((x0.people.getD x1.woman.toNat default).died) < 0))) then (0,false) else (bif ((decide (((x0.people.getD x1.man.toNat default).died) < 0)) || ((decide (0 ≤ ((x0.people.getD x1.woman.toNat default).died))) && (decide (((x0.people.getD x1.woman.toNat default).died) < ((x0.people.getD x1.man.toNat default).died))))) then ((x0.people.getD x1.woman.toNat default).died,true) else ((x0.people.getD x1.man.toNat default).died,true)))
def A162 (x0 : Family) (x1 : Union) : Ann:=r0 1 [2,3,4,5] [2,3] (r0 1 [2,3,4,5,10] [2,3] (cn (decide (0 ≤ x1.to)) (r0 1 [2,3,4,5] [2,3] (rt [] (C162 (x1.to,true)))) (r1 2 [4,5,6,7] [] [pf (0 ≤ (x1.man : Int) ∧ (x1.man : Int) < ((x0.people.length : Nat) : Int)),pf (0 ≤ (x1.woman : Int) ∧ (x1.woman : Int) < ((x0.people.length : Nat) : Int))] [0,4] (.reg 1 [] [] [4,5,6,7,32] [] [decide (((x0.people.getD x1.man.toNat default).died) < 0)] [] [] [1,1] (cn ((decide (((x0.people.getD x1.man.toNat default).died) < 0)) && (decide (((x0.people.getD x1.woman.toNat default).died) < 0))) (r0 1 [4,5,6,7] [] (rt [] (C162 (0,false)))) (.reg 1 [] [] [4,5,6,7,43] [] [!(decide (((x0.people.getD x1.man.toNat default).died) < 0)),(!(decide (((x0.people.getD x1.man.toNat default).died) < 0))) && (decide (0 ≤ ((x0.people.getD x1.woman.toNat default).died))),decide (((x0.people.getD x1.man.toNat default).died) < 0)] [gt (!(decide (((x0.people.getD x1.man.toNat default).died) < 0))) (gt (decide (0 ≤ ((x0.people.getD x1.woman.toNat default).died))) (pf (((!(decide (((x0.people.getD x1.man.toNat default).died) < 0))) && (decide (0 ≤ ((x0.people.getD x1.woman.toNat default).died)))) = true)))] [] [1,1,5,5,1,0,10] (cn ((decide (((x0.people.getD x1.man.toNat default).died) < 0)) || ((decide (0 ≤ ((x0.people.getD x1.woman.toNat default).died))) && (decide (((x0.people.getD x1.woman.toNat default).died) < ((x0.people.getD x1.man.toNat default).died))))) (r0 1 [4,5,6] [] (r0 1 [4,5] [] (rt [] (C162 ((x0.people.getD x1.woman.toNat default).died,true))))) (r0 1 [4,5] [] (rt [] (C162 ((x0.people.getD x1.man.toNat default).died,true)))))))))))
theorem ok_spec_l1End (x0 : Family) (x1 : Union) (hx : x0.people.length ≤ 1048576) (hm : 0 ≤ x1.man ∧ x1.man < x0.people.length) (hw : 0 ≤ x1.woman ∧ x1.woman < x0.people.length) : FnT Try.prog 162 [.agg (cFamily false x0), .agg (cUnion false x1)] (C162 (l1End x0 x1)) := by
  have aux : ∀ R, l1End x0 x1 = R → slim (C162 R) (A162 x0 x1) [] := by
    intro R hR
    refine rg trivial ?_
    refine rg trivial ?_
    revert hR;refine cd (fun hc1 hR=>?_) fun hc1 hR=>?_
    ·
      refine rg trivial ?_
      exact congrArg C162 hR
    ·
      refine rg ⟨by trivial,by trivial,trivial⟩ ?_
      refine rg trivial ?_
      revert hR;refine cd (fun hc2 hR=>?_) fun hc2 hR=>?_
      ·
        refine rg trivial ?_
        exact congrArg C162 hR
      ·
        refine rg ⟨by ((try clear hR);intros;(try simp only [decide_eq_true_eq,decide_eq_false_iff_not,Bool.or_eq_true,Bool.and_eq_true,or_f_iff,not_f_iff,not_t_iff,Bool.not_eq_true',inR] at *);(repeat' apply And.intro) <;> (intros;omega)),trivial⟩ ?_
        revert hR;refine cd (fun hc3 hR=>?_) fun hc3 hR=>?_
        ·
          refine rg trivial ?_
          refine rg trivial ?_
          exact congrArg C162 hR
        ·
          refine rg trivial ?_
          exact congrArg C162 hR
  exact Fn.go 46 Try.func162 (by kernel_rfl) (by kernel_rfl) (by simp [C162,Frs,FrsL]) (A162 x0 x1) (by kernel_rfl) (aux _ rfl)
def k162 (x0 : Family) (x1 : Union) : Cl:=(hres (C162 (l1End x0 x1)),k3 (ok_spec_l1End x0 x1))
def C122 (R : Int) : LV × List (Nat × BC):=(.int .i64 R,[])
def up (x0 : Family) (x1 : Int) (x2 : Int) : Int:=bif (decide (x2 = 1)) then ((x0.people.getD x1.toNat default).father) else ((x0.people.getD x1.toNat default).mother)
def A122 (x0 : Family) (x1 : Int) (x2 : Int) : Ann:=r0 1 [1,2,3,6] [3] (r0 1 [1,3,6,8] [3] (cn (decide (x2 = 1)) (r1 1 [1,3,6] [3] [pf (0 ≤ (x1 : Int) ∧ (x1 : Int) < ((x0.people.length : Nat) : Int))] [0] (rt [] (C122 ((x0.people.getD x1.toNat default).father)))) (r1 1 [6] [] [pf (0 ≤ (x1 : Int) ∧ (x1 : Int) < ((x0.people.length : Nat) : Int))] [0] (rt [] (C122 ((x0.people.getD x1.toNat default).mother))))))
theorem ok_impl_up (x0 : Family) (x1 : Int) (x2 : Int) (hx : x0.people.length ≤ 1048576) (h1 : 0 ≤ x1 ∧ x1 < x0.people.length) : FnT Try.prog 122 [.agg (cFamily false x0), .int .i64 x1, .int .i64 x2] (C122 (up x0 x1 x2)) := by
  have aux : ∀ R, up x0 x1 x2 = R → slim (C122 R) (A122 x0 x1 x2) [] := by
    intro R hR
    refine rg trivial ?_
    refine rg trivial ?_
    revert hR;refine cd (fun hc1 hR=>?_) fun hc1 hR=>?_
    ·
      refine rg ⟨by trivial,trivial⟩ ?_
      exact congrArg C122 hR
    ·
      refine rg ⟨by trivial,trivial⟩ ?_
      exact congrArg C122 hR
  exact Fn.go 21 Try.func122 (by kernel_rfl) (by kernel_rfl) (by simp [C122,Frs,FrsL]) (A122 x0 x1 x2) (by kernel_rfl) (aux _ rfl)
def k122 (x0 : Family) (x1 : Int) (x2 : Int) : Cl:=(hres (C122 (up x0 x1 x2)),k2 (ok_impl_up x0 x1 x2))
def C96 (R : Bool) : LV × List (Nat × BC):=(.bool R,[])
def lacksLife (x0 : Person) (x1 : Int) : Bool:=(decide (x1 < x0.born)) || ((!decide (x0.died = (-1))) && (decide (x0.died < x1)))
def A96 (x0 : Person) (x1 : Int) : Ann:=.reg 2 [] [] [4] [] [!(decide (x1 < x0.born)),(!(decide (x1 < x0.born))) && (!decide (x0.died = (-1))),decide (x1 < x0.born)] [gt (!(decide (x1 < x0.born))) (gt (!decide (x0.died = (-1))) (pf (((!(decide (x1 < x0.born))) && (!decide (x0.died = (-1)))) = true)))] [] [1,1,1,5,5,5,1,0,10] (rt [] (C96 ((decide (x1 < x0.born)) || ((!decide (x0.died = (-1))) && (decide (x0.died < x1))))))
theorem ok_impl_lacksLife (x0 : Person) (x1 : Int) : FnT Try.prog 96 [.agg (cPerson false x0), .int .i64 x1] (C96 (lacksLife x0 x1)) := by
  have aux : ∀ R, lacksLife x0 x1 = R → slim (C96 R) (A96 x0 x1) [] := by
    intro R hR
    refine rg ⟨by ((try clear hR);intros;(try simp only [decide_eq_true_eq,decide_eq_false_iff_not,Bool.or_eq_true,Bool.and_eq_true,or_f_iff,not_f_iff,not_t_iff,Bool.not_eq_true',inR] at *);(repeat' apply And.intro) <;> (intros;omega)),trivial⟩ ?_
    exact congrArg C96 hR
  exact Fn.go 20 Try.func96 (by kernel_rfl) (by kernel_rfl) (by simp [C96,Frs,FrsL]) (A96 x0 x1) (by kernel_rfl) (aux _ rfl)
def k96 (x0 : Person) (x1 : Int) : Cl:=(hres (C96 (lacksLife x0 x1)),k0 (ok_impl_lacksLife x0 x1))
def C133 (R : Bool) : LV × List (Nat × BC):=(.bool R,[])
def l9Life (x0 : Person) (x1 : Int) : Bool:=(decide (x1 < x0.born)) || ((!decide (x0.died = (-1))) && (decide (x0.died < x1)))
def A133 (x0 : Person) (x1 : Int) : Ann:=.reg 2 [] [] [4] [] [!(decide (x1 < x0.born)),(!(decide (x1 < x0.born))) && (!decide (x0.died = (-1))),decide (x1 < x0.born)] [gt (!(decide (x1 < x0.born))) (gt (!decide (x0.died = (-1))) (pf (((!(decide (x1 < x0.born))) && (!decide (x0.died = (-1)))) = true)))] [] [1,1,1,5,5,5,1,0,10] (rt [] (C133 ((decide (x1 < x0.born)) || ((!decide (x0.died = (-1))) && (decide (x0.died < x1))))))
theorem ok_spec_l9Life (x0 : Person) (x1 : Int) : FnT Try.prog 133 [.agg (cPerson false x0), .int .i64 x1] (C133 (l9Life x0 x1)) := by
  have aux : ∀ R, l9Life x0 x1 = R → slim (C133 R) (A133 x0 x1) [] := by
    intro R hR
    refine rg ⟨by ((try clear hR);intros;(try simp only [decide_eq_true_eq,decide_eq_false_iff_not,Bool.or_eq_true,Bool.and_eq_true,or_f_iff,not_f_iff,not_t_iff,Bool.not_eq_true',inR] at *);(repeat' apply And.intro) <;> (intros;omega)),trivial⟩ ?_
    exact congrArg C133 hR
  exact Fn.go 20 Try.func133 (by kernel_rfl) (by kernel_rfl) (by simp [C133,Frs,FrsL]) (A133 x0 x1) (by kernel_rfl) (aux _ rfl)
def k133 (x0 : Person) (x1 : Int) : Cl:=(hres (C133 (l9Life x0 x1)),k0 (ok_spec_l9Life x0 x1))
def C93 (R : Bool) : LV × List (Nat × BC):=(.bool R,[])
def lawIn (x0 : Int) (x1 : Int) (x2 : Int) : Bool:=(decide (x1 ≤ x0)) && (decide (x0 ≤ x2))
def A93 (x0 : Int) (x1 : Int) (x2 : Int) : Ann:=.reg 2 [] [] [6] [] [decide (x1 ≤ x0)] [] [] [1,1,1] (rt [] (C93 ((decide (x1 ≤ x0)) && (decide (x0 ≤ x2)))))
theorem ok_impl_IsLaw_1 (x0 : Int) (x1 : Int) (x2 : Int) : FnT Try.prog 93 [.int .i64 x0, .int .i64 x1, .int .i64 x2] (C93 (lawIn x0 x1 x2)) := by
  have aux : ∀ R, lawIn x0 x1 x2 = R → slim (C93 R) (A93 x0 x1 x2) [] := by
    intro R hR
    refine rg trivial ?_
    exact congrArg C93 hR
  exact Fn.go 15 Try.func93 (by kernel_rfl) (by kernel_rfl) (by simp [C93,Frs,FrsL]) (A93 x0 x1 x2) (by kernel_rfl) (aux _ rfl)
def k93 (x0 : Int) (x1 : Int) (x2 : Int) : Cl:=(hres (C93 (lawIn x0 x1 x2)),k0 (ok_impl_IsLaw_1 x0 x1 x2))
def C50 (R : Bool) : LV × List (Nat × BC):=(.bool R,[])
def implIsLaw (x0 : Law) : Bool:=(((((lawIn x0.degree 0 20) && (lawIn x0.affinity 0 20)) && (lawIn x0.canon 0 10)) && (lawIn x0.age 0 99)) && (lawIn x0.wives 1 9)) && (lawIn x0.husbands 1 9)
def A50 (x0 : Law) : Ann:=.reg 3 [] [(2003,k93 x0.degree 0 20),(2008,cg (lawIn x0.degree 0 20) (k93 x0.affinity 0 20)),(2014,cg ((lawIn x0.degree 0 20) && (lawIn x0.affinity 0 20)) (k93 x0.canon 0 10)),(2020,cg (((lawIn x0.degree 0 20) && (lawIn x0.affinity 0 20)) && (lawIn x0.canon 0 10)) (k93 x0.age 0 99)),(2026,cg ((((lawIn x0.degree 0 20) && (lawIn x0.affinity 0 20)) && (lawIn x0.canon 0 10)) && (lawIn x0.age 0 99)) (k93 x0.wives 1 9)),(2032,cg (((((lawIn x0.degree 0 20) && (lawIn x0.affinity 0 20)) && (lawIn x0.canon 0 10)) && (lawIn x0.age 0 99)) && (lawIn x0.wives 1 9)) (k93 x0.husbands 1 9))] [2] [] [lawIn x0.degree 0 20,(lawIn x0.degree 0 20) && (lawIn x0.affinity 0 20),((lawIn x0.degree 0 20) && (lawIn x0.affinity 0 20)) && (lawIn x0.canon 0 10),(((lawIn x0.degree 0 20) && (lawIn x0.affinity 0 20)) && (lawIn x0.canon 0 10)) && (lawIn x0.age 0 99),((((lawIn x0.degree 0 20) && (lawIn x0.affinity 0 20)) && (lawIn x0.canon 0 10)) && (lawIn x0.age 0 99)) && (lawIn x0.wives 1 9)] [] [] [0,1,1,1,4,1,5,5,5,8,5,9,9,9,12,9,13,13,13,16,13,17,17,17,20,17] (rt [] (C50 ((((((lawIn x0.degree 0 20) && (lawIn x0.affinity 0 20)) && (lawIn x0.canon 0 10)) && (lawIn x0.age 0 99)) && (lawIn x0.wives 1 9)) && (lawIn x0.husbands 1 9))))
theorem ok_impl_IsLaw (x0 : Law) : FnT Try.prog 50 [.agg (cLaw false x0)] (C50 (implIsLaw x0)) := by
  have aux : ∀ R, implIsLaw x0 = R → slim (C50 R) (A50 x0) [] := by
    intro R hR
    refine rg ⟨trivial,fun hg0=>trivial,fun hg0=>trivial,fun hg0=>trivial,fun hg0=>trivial,fun hg0=>trivial,trivial⟩ ?_
    exact congrArg C50 hR
  exact Fn.go 38 Try.func50 (by kernel_rfl) (by kernel_rfl) (by simp [C50,Frs,FrsL]) (A50 x0) (by kernel_rfl) (aux _ rfl)
def k50 (x0 : Law) : Cl:=(hres (C50 (implIsLaw x0)),k0 (ok_impl_IsLaw x0))
def C42 (R : Bool) : LV × List (Nat × BC):=(.bool R,[])
def specIsLaw (x0 : Law) : Bool:=(((((l1In x0.degree 0 20) && (l1In x0.canon 0 10)) && (l1In x0.affinity 0 20)) && (l1In x0.age 0 99)) && (l1In x0.wives 1 9)) && (l1In x0.husbands 1 9)
def A42 (x0 : Law) : Ann:=.reg 2 [] [(1002,k82 x0.degree 0 20),(1006,cg (l1In x0.degree 0 20) (k82 x0.canon 0 10)),(1011,cg ((l1In x0.degree 0 20) && (l1In x0.canon 0 10)) (k82 x0.affinity 0 20)),(1016,cg (((l1In x0.degree 0 20) && (l1In x0.canon 0 10)) && (l1In x0.affinity 0 20)) (k82 x0.age 0 99)),(1021,cg ((((l1In x0.degree 0 20) && (l1In x0.canon 0 10)) && (l1In x0.affinity 0 20)) && (l1In x0.age 0 99)) (k82 x0.wives 1 9)),(1026,cg (((((l1In x0.degree 0 20) && (l1In x0.canon 0 10)) && (l1In x0.affinity 0 20)) && (l1In x0.age 0 99)) && (l1In x0.wives 1 9)) (k82 x0.husbands 1 9))] [2] [] [l1In x0.degree 0 20,(l1In x0.degree 0 20) && (l1In x0.canon 0 10),((l1In x0.degree 0 20) && (l1In x0.canon 0 10)) && (l1In x0.affinity 0 20),(((l1In x0.degree 0 20) && (l1In x0.canon 0 10)) && (l1In x0.affinity 0 20)) && (l1In x0.age 0 99),((((l1In x0.degree 0 20) && (l1In x0.canon 0 10)) && (l1In x0.affinity 0 20)) && (l1In x0.age 0 99)) && (l1In x0.wives 1 9)] [] [] [0,1,1,4,1,5,5,8,5,9,9,12,9,13,13,16,13,17,17,20,17] (rt [] (C42 ((((((l1In x0.degree 0 20) && (l1In x0.canon 0 10)) && (l1In x0.affinity 0 20)) && (l1In x0.age 0 99)) && (l1In x0.wives 1 9)) && (l1In x0.husbands 1 9))))
theorem ok_spec_IsLaw (x0 : Law) : FnT Try.prog 42 [.agg (cLaw false x0)] (C42 (specIsLaw x0)) := by
  have aux : ∀ R, specIsLaw x0 = R → slim (C42 R) (A42 x0) [] := by
    intro R hR
    refine rg ⟨trivial,fun hg0=>trivial,fun hg0=>trivial,fun hg0=>trivial,fun hg0=>trivial,fun hg0=>trivial,trivial⟩ ?_
    exact congrArg C42 hR
  exact Fn.go 31 Try.func42 (by kernel_rfl) (by kernel_rfl) (by simp [C42,Frs,FrsL]) (A42 x0) (by kernel_rfl) (aux _ rfl)
def k42 (x0 : Law) : Cl:=(hres (C42 (specIsLaw x0)),k0 (ok_spec_IsLaw x0))
def C118 (R : (List Int)) : LV × List (Nat × BC):=(.own 0,[(0,.arr 1 R.length (rowOf (cInt .i64) R))])
def l3Listed (x0 : List Bool) : (List Int):=loopN (fun i1 (v1 : (List Int)) next=>bif (x0.getD i1 default) then (next (v1 ++ [((i1 : Nat) : Int)])) else (next v1)) (fun (v1 : (List Int))=>v1) x0.length 0 ([] : List Int)
def D118b1 (x0 : List Bool) (i1 : Nat) (v1 : (List Int)) : Dl:=⟨[(9,.int .i64 ((i1 : Nat) : Int)),(3,.own 20003)],[(20003,.arr 1 v1.length (rowOf (cInt .i64) v1))]⟩
def A118b1 (x0 : List Bool) (i1 : Nat) (v1 : (List Int)) : Ann:=r0 1 [2,3,7,8,9,10] [20003] (cn (decide (((i1 : Nat) : Int) < ((x0.length : Nat) : Int))) (r1 2 [2,3,4,7,8,9,14] [20003] [pf (0 ≤ (((i1 : Nat) : Int) : Int) ∧ (((i1 : Nat) : Int) : Int) < ((x0.length : Nat) : Int))] [0] (cn (x0.getD i1 default) (.reg 1 [] [(2,bsC 17 (cInt .i64) ([((i1 : Nat) : Int)] : List Int)),(3,ap1 18 (cInt .i64) 8 v1 ((i1 : Nat) : Int))] [2,3,7,8,9] [18] [] [] [] [0,4] (r1 1 [2,3,7,8,9] [18] [pf (inR .i64 (((i1 : Nat) : Int) + 1))] [0] (.next 0 [(20003,some 18)] (D118b1 x0 (i1 + 1) (v1 ++ [((i1 : Nat) : Int)]))))) (r1 1 [2,3,7,8,9] [20003] [pf (inR .i64 (((i1 : Nat) : Int) + 1))] [0] (.next 0 [(20003,some 20003)] (D118b1 x0 (i1 + 1) v1))))) (r0 1 [2] [20003] (rt [(0,some 20003)] (C118 v1))))
def A118 (x0 : List Bool) : Ann:=.reg 2 [] [(1000,bsC 6 (cInt .i64) ([] : List Int))] [0,2,3] [6] [] [] [] [0] (r0 1 [2,3,7,8,9] [6] (lp (D118b1 x0) [] [6] [(20003,some 6)] (D118b1 x0 0 ([] : List Int)) (A118b1 x0)))
theorem ok_spec_l3Listed (x0 : List Bool) (hx : x0.length ≤ 1048576) : FnT Try.prog 118 [.ro false 1 x0.length (rowOf (cBool) x0)] (C118 (l3Listed x0)) := by
  have aux : ∀ R, l3Listed x0 = R → slim (C118 R) (A118 x0) [] := by
    intro R hR
    refine rg ⟨trivial,trivial⟩ ?_
    refine rg trivial ?_
    revert hR;refine lN (fun i v=>v.length ≤ i) (by trivial) rfl fun i1 v1 F1 hn1 hI1 hR hK1=>?_
    refine rg trivial ?_
    refine ⟨fun hc1=>?_,fun hc1=>?_⟩
    · have hii1 : i1 < x0.length:=by have:=of_decide_eq_true hc1;omega
      replace hR:=loopN_step hR hii1
      refine rg ⟨by (intros;omega),trivial⟩ ?_
      revert hR;refine cd (fun hc2 hR=>?_) fun hc2 hR=>?_
      ·
        refine rg ⟨trivial,by omega,trivial⟩ ?_
        refine rg ⟨by ( intros;simp only [inR];omega),trivial⟩ ?_
        exact hK1 (v1 ++ [((i1 : Nat) : Int)]) hii1 (by ((try simp only [decide_eq_true_eq,decide_eq_false_iff_not,List.length_append,List.length_set,List.length_cons,List.length_nil,List.length_replicate] at *);omega)) hR
      ·
        refine rg ⟨by ( intros;simp only [inR];omega),trivial⟩ ?_
        exact hK1 v1 hii1 (by (intros;omega)) hR
    · obtain rfl : i1 = x0.length:=by have:=of_decide_eq_false hc1;omega
      replace hR:=loopN_end hR (Nat.lt_irrefl _)
      refine rg trivial ?_
      exact congrArg C118 hR
  exact Fn.go 21 Try.func118 (by kernel_rfl) (by kernel_rfl) (by simp [C118,Frs,FrsL,FrsB,rowOf,cInt,cBool,cStr,cSl,FrsL_app,cPerson,cUnion,cFamily,cLaw]) (A118 x0) (by kernel_rfl) (aux _ rfl)
def k118 (x0 : List Bool) : Cl:=(hres (C118 (l3Listed x0)),k1 (ok_spec_l3Listed x0))
theorem up_lt {x : Family} (hf : specIsFamily x = true) {sex p : Int} (hp : 0 ≤ p ∧ p < x.people.length) : up x p sex < p := by
  have:=fam_p hf (k:=p.toNat) (by omega)
  have h1:=this.fa
  have h2:=this.mo
  unfold up
  exact cond_both (p:=fun (r : Int)=>r < p) (fun _=>by omega) (fun _=>by omega)
theorem par_lt2 {x : Family} (hf : specIsFamily x = true) {p : Int} (hp : 0 ≤ p ∧ p < x.people.length) : (x.people.getD p.toNat default).father < p ∧ (x.people.getD p.toNat default).mother < p := by
  have:=fam_p hf (k:=p.toNat) (by omega)
  have h1:=this.fa
  have h2:=this.mo
  omega
theorem linkOf_bd {x : Family} (hf : specIsFamily x = true) {a b : Int} (ha : 0 ≤ a ∧ a < x.people.length) (hb : 0 ≤ b ∧ b < x.people.length) : (0 ≤ (linkOf x a b).1 ∧ (linkOf x a b).1 ≤ x.people.length) ∧ 0 ≤ (linkOf x a b).2.1 ∧ (linkOf x a b).2.1 ≤ x.people.length := by
  rw [linkOf_core x a b hf ha hb]
  exact specLinkOf_bd x a b
theorem isLaw_eq (l : Law) : implIsLaw l = specIsLaw l := by
  unfold implIsLaw specIsLaw lawIn l1In
  rw [Bool.eq_iff_iff]
  simp only [Bool.and_eq_true,decide_eq_true_eq]
  omega
theorem specIsLaw_age {l : Law} (h : specIsLaw l = true) : 0 ≤ l.age ∧ l.age ≤ 99 := by
  unfold specIsLaw l1In at h
  simp only [Bool.and_eq_true,decide_eq_true_eq] at h
  omega
end Go.Proofs.Ytkkijpibajigfaa
