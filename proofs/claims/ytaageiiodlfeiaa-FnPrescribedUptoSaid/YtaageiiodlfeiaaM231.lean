import Derived.Test.YtaageiiodlfeiaaVR2
set_option maxHeartbeats 4000000
set_option linter.unusedSimpArgs false
set_option linter.unusedVariables false
namespace Go.Proofs.Ytaageiiodlfeiaa
open Go Go.Lite Go.Proofs

def C145 (R : Int) : LV × List (Nat × BC):=(.int .i64 R,[])
def sexBefore (x0 : KinType) (x1 : Int) : Int:=bif (decide (x1 = 0)) then (egoOf x0) else (stepSex ((x0.steps.getD ((x1 - 1).toNat) default).kind))
def A145 (x0 : KinType) (x1 : Int) : Ann:=r0 1 [1,2,4] [2] (r0 1 [1,2,4,6] [2] (cn (decide (x1 = 0)) (.reg 1 [] [(1,k94 x0)] [1,2,4] [2] [] [] [] [0] (rt [] (C145 (egoOf x0)))) (.reg 1 [] [(7,k95 ((x0.steps.getD ((x1 - 1).toNat) default).kind))] [4] [] [] [pf (inR .i64 (x1 - 1)),pf (0 ≤ (x1 - 1 : Int) ∧ (x1 - 1 : Int) < ((x0.steps.length : Nat) : Int))] [] [0,4,8] (rt [] (C145 (stepSex ((x0.steps.getD ((x1 - 1).toNat) default).kind)))))))
theorem ok_impl_sexBefore (x0 : KinType) (x1 : Int) (h0 : x0.steps.length ≤ 1048576) (hi : 0 ≤ x1 ∧ x1 ≤ x0.steps.length) : FnT Try.prog 145 [.agg (cKinType false x0), .int .i64 x1] (C145 (sexBefore x0 x1)) := by
  have aux : ∀ R, sexBefore x0 x1 = R → slim (C145 R) (A145 x0 x1) [] := by
    intro R hR
    refine rg trivial ?_
    refine rg trivial ?_
    revert hR;refine cd (fun hc1 hR=>?_) fun hc1 hR=>?_
    ·
      refine rg ⟨by trivial,trivial⟩ ?_
      exact congrArg C145 hR
    ·
      refine rg ⟨by ( intros;simp only [inR];omega),by (simp only [decide_eq_false_iff_not] at hc1;(try simp only [inR]);omega),trivial,trivial⟩ ?_
      exact congrArg C145 hR
  exact Fn.go 17 Try.func145 (by kernel_rfl) (by kernel_rfl) (by simp [C145,Frs,FrsL]) (A145 x0 x1) (by kernel_rfl) (aux _ rfl)
def k145 (x0 : KinType) (x1 : Int) : Cl:=(hres (C145 (sexBefore x0 x1)),k2 (ok_impl_sexBefore x0 x1))
theorem in_not (n lo hi : Int) : (!(l1In n lo hi)) = (decide (n < lo) || decide (hi < n)) := by
  unfold l1In
  rw [Bool.eq_iff_iff]
  simp only [Bool.not_eq_true',Bool.and_eq_false_iff,decide_eq_false_iff_not,Bool.or_eq_true,decide_eq_true_eq]
  omega
theorem stepFits_eq (s : Step) (x : Int) : stepFits s x = l3Step s x := by
  unfold stepFits l3Step
  rw [in_not,in_not,Bool.or_assoc (decide (s.kind < 1) || decide (8 < s.kind))]
  cases (decide (s.kind < 1) || decide (8 < s.kind)) || (decide (s.age < 0) || decide (2 < s.age)) with
  | true=>rfl
  | false =>
    cases (!decide (s.age = 0)) && (!decide (s.kind = 3)) && (!decide (s.kind = 4)) with
    | true=>rfl
    | false=>cases decide (s.kind = 7) <;> cases decide (x = 1) <;> cases decide (s.kind = 8) <;> cases decide (x = 2) <;> rfl
theorem type_eq (t : KinType) : implIsType t = specIsType t := by
  unfold implIsType specIsType
  rw [in_not]
  have e : (fun i1 (v1 : Int) (next : Int → Bool) => bif (!(stepFits (t.steps.getD i1 default) v1)) then false else (next (stepSex ((t.steps.getD i1 default).kind)))) = fun i1 (v1 : Int) next => bif (!(l3Step (t.steps.getD i1 default) v1)) then false else (next (l3Sex ((t.steps.getD i1 default).kind))) := by
    funext i v next
    rw [stepFits_eq];rfl
  rw [e]
theorem l3Step_bd {s : Step} {x : Int} (h : l3Step s x = true) : (1 ≤ s.kind ∧ s.kind ≤ 8) ∧ 0 ≤ s.age ∧ s.age ≤ 2 := by
  unfold l3Step at h
  rw [cond_f_iff,or_f_iff,not_f_iff,not_f_iff] at h
  unfold l1In at h
  simp only [Bool.and_eq_true,decide_eq_true_eq] at h
  omega
theorem type_bd {t : KinType} (h : specIsType t = true) : ∀ k : Nat, k < t.steps.length → (1 ≤ (t.steps.getD k default).kind ∧ (t.steps.getD k default).kind ≤ 8) ∧ 0 ≤ (t.steps.getD k default).age ∧ (t.steps.getD k default).age ≤ 2 := by
  unfold specIsType at h
  rw [cond_f_iff] at h
  obtain ⟨_,h⟩:=h
  revert h
  refine loopN_to (fun i (_ : Int)=>∀ k : Nat,k < i → (1 ≤ (t.steps.getD k default).kind ∧ (t.steps.getD k default).kind ≤ 8) ∧ 0 ≤ (t.steps.getD k default).age ∧ (t.steps.getD k default).age ≤ 2) (fun (r : Bool)=>r = true → ∀ k : Nat,k < t.steps.length → (1 ≤ (t.steps.getD k default).kind ∧ (t.steps.getD k default).kind ≤ 8) ∧ 0 ≤ (t.steps.getD k default).age ∧ (t.steps.getD k default).age ≤ 2) (fun k hk=>absurd hk (Nat.not_lt_zero _)) (fun i v next hi hv hn=>?_) (fun v hv _=>hv)
  refine cond_both (p:=fun (r : Bool)=>r = true → ∀ k : Nat,k < t.steps.length → (1 ≤ (t.steps.getD k default).kind ∧ (t.steps.getD k default).kind ≤ 8) ∧ 0 ≤ (t.steps.getD k default).age ∧ (t.steps.getD k default).age ≤ 2) (fun c h=>(by cases h)) (fun c=>hn _ fun k hk=>?_)
  by_cases e : k = i
  · subst e;exact l3Step_bd (by simpa using c)
  · exact hv k (by omega)
end Go.Proofs.Ytaageiiodlfeiaa
