import Derived.Test.YtanfabaedopeiaaM233
set_option maxHeartbeats 4000000
set_option linter.unusedSimpArgs false
set_option linter.unusedVariables false
namespace Go.Proofs.Ytanfabaedopeiaa
open Go Go.Lite Go.Proofs
structure Entry where
  type : KinType
  term : List UInt8
  deriving Inhabited
def cEntry (fr : Bool) (x : Entry) : List LV := cKinType fr x.type ++ cStr x.term

structure Terminology where
  rules : List Rule
  entries : List Entry
  deriving Inhabited
def cTerminology (fr : Bool) (x : Terminology) : List LV := cSl fr 5 (cRule fr) x.rules ++ cSl fr 3 (cEntry fr) x.entries

def C42 (R : Bool) : LV × List (Nat × BC) := (.bool R, [])
def implTerms (x0 : Terminology) : Bool := bif ((!(implAre x0.rules)) || (decide (60 < ((x0.entries.length : Nat) : Int)))) then false else (loopN (fun i1 (v1 : Unit) nx1 => bif (!((!(implIsName ((x0.entries.getD i1 default).term))) || (!(implIsType ((x0.entries.getD i1 default).type))))) then (bif (((!(implIsName ((x0.entries.getD i1 default).term))) || (!(implIsType ((x0.entries.getD i1 default).type)))) || (!(implEqT ((x0.entries.getD i1 default).type) (implNormal x0.rules ((x0.entries.getD i1 default).type))))) then false else (loopN (fun i2 (v2 : Unit) next => bif (implEqT ((((x0.entries.drop 0).take (i1 - 0)).getD i2 default).type) ((x0.entries.getD i1 default).type)) then false else (next ())) (fun (v2 : Unit) => nx1 ()) (((x0.entries.drop 0).take (i1 - 0)).length) 0 ())) else (bif (((!(implIsName ((x0.entries.getD i1 default).term))) || (!(implIsType ((x0.entries.getD i1 default).type)))) || true) then false else (loopN (fun i3 (v3 : Unit) next => bif (implEqT ((((x0.entries.drop 0).take (i1 - 0)).getD i3 default).type) ((x0.entries.getD i1 default).type)) then false else (next ())) (fun (v3 : Unit) => nx1 ()) (((x0.entries.drop 0).take (i1 - 0)).length) 0 ()))) (fun (v1 : Unit) => true) x0.entries.length 0 ())
def D42b1 (x0 : Terminology) (i1 : Nat) (v1 : Unit) : Dl := ⟨[(20, .int .i64 ((i1 : Nat) : Int))], []⟩
def D42b2 (x0 : Terminology) (i1 : Nat) (v1 : Unit) (i2 : Nat) (v2 : Unit) : Dl := ⟨[(51, .int .i64 ((i2 : Nat) : Int))], []⟩
def A42b2 (x0 : Terminology) (i1 : Nat) (v1 : Unit) (i2 : Nat) (v2 : Unit) : Ann := r0 1 [1, 2, 4, 18, 19, 20, 49, 50, 51, 52] [1, 4] (cn (decide (((i2 : Nat) : Int) < ((((x0.entries.drop 0).take (i1 - 0)).length : Nat) : Int))) (.reg 2 [] [(1004, k103 ((((x0.entries.drop 0).take (i1 - 0)).getD i2 default).type) ((x0.entries.getD i1 default).type))] [1, 2, 4, 18, 19, 20, 49, 50, 51, 59] [1, 4] [] [pf (0 ≤ (((i2 : Nat) : Int) : Int) ∧ (((i2 : Nat) : Int) : Int) < ((((x0.entries.drop 0).take (i1 - 0)).length : Nat) : Int))] [] [0, 4] (cn (implEqT ((((x0.entries.drop 0).take (i1 - 0)).getD i2 default).type) ((x0.entries.getD i1 default).type)) (r0 1 [1, 2, 4, 18, 19, 20, 49, 50, 51] [1, 4] (rt [] (C42 false))) (r1 1 [1, 2, 4, 18, 19, 20, 49, 50, 51] [1, 4] [pf (inR .i64 (((i2 : Nat) : Int) + 1))] [0] (.next 0 [] (D42b2 x0 i1 v1 (i2 + 1) ()))))) (r1 1 [1, 2, 18, 19, 20] [1] [pf (inR .i64 (((i1 : Nat) : Int) + 1))] [0] (.next 1 [] (D42b1 x0 (i1 + 1) ()))))
def D42b3 (x0 : Terminology) (i1 : Nat) (v1 : Unit) (i3 : Nat) (v3 : Unit) : Dl := ⟨[(51, .int .i64 ((i3 : Nat) : Int))], []⟩
def A42b3 (x0 : Terminology) (i1 : Nat) (v1 : Unit) (i3 : Nat) (v3 : Unit) : Ann := r0 1 [1, 2, 4, 18, 19, 20, 49, 50, 51, 52] [1, 4] (cn (decide (((i3 : Nat) : Int) < ((((x0.entries.drop 0).take (i1 - 0)).length : Nat) : Int))) (.reg 2 [] [(1004, k103 ((((x0.entries.drop 0).take (i1 - 0)).getD i3 default).type) ((x0.entries.getD i1 default).type))] [1, 2, 4, 18, 19, 20, 49, 50, 51, 59] [1, 4] [] [pf (0 ≤ (((i3 : Nat) : Int) : Int) ∧ (((i3 : Nat) : Int) : Int) < ((((x0.entries.drop 0).take (i1 - 0)).length : Nat) : Int))] [] [0, 4] (cn (implEqT ((((x0.entries.drop 0).take (i1 - 0)).getD i3 default).type) ((x0.entries.getD i1 default).type)) (r0 1 [1, 2, 4, 18, 19, 20, 49, 50, 51] [1, 4] (rt [] (C42 false))) (r1 1 [1, 2, 4, 18, 19, 20, 49, 50, 51] [1, 4] [pf (inR .i64 (((i3 : Nat) : Int) + 1))] [0] (.next 0 [] (D42b3 x0 i1 v1 (i3 + 1) ()))))) (r1 1 [1, 2, 18, 19, 20] [1] [pf (inR .i64 (((i1 : Nat) : Int) + 1))] [0] (.next 1 [] (D42b1 x0 (i1 + 1) ()))))
def A42b1 (x0 : Terminology) (i1 : Nat) (v1 : Unit) : Ann := r0 1 [1, 2, 18, 19, 20, 21] [1] (cn (decide (((i1 : Nat) : Int) < ((x0.entries.length : Nat) : Int))) (r1 1 [1, 2, 3, 4, 18, 19, 20] [1, 4] [pf (0 ≤ (((i1 : Nat) : Int) : Int) ∧ (((i1 : Nat) : Int) : Int) < ((x0.entries.length : Nat) : Int))] [0] (.split (!((!(implIsName ((x0.entries.getD i1 default).term))) || (!(implIsType ((x0.entries.getD i1 default).type))))) (.reg 1 [(11, .gT .no), (12, .gT .no), (13, .gT .no), (14, .gT .no), (15, .gT .no), (16, .gT .no), (19, .gT .no)] [(2, k97 ((x0.entries.getD i1 default).term)), (7, cg (!(!(implIsName ((x0.entries.getD i1 default).term)))) (k64 ((x0.entries.getD i1 default).type))), (17, cT (k104 x0.rules ((x0.entries.getD i1 default).type))), (18, cT (k103 ((x0.entries.getD i1 default).type) (implNormal x0.rules ((x0.entries.getD i1 default).type))))] [1, 2, 3, 4, 18, 19, 20, 45] [1, 4] [!(!(implIsName ((x0.entries.getD i1 default).term))), !(implIsName ((x0.entries.getD i1 default).term))] [pf ((!((!(implIsName ((x0.entries.getD i1 default).term))) || (!(implIsType ((x0.entries.getD i1 default).type))))) = true)] [] [4, 1, 1, 8, 1, 6, 0, 0, 0, 0, 0, 0, 0, 12, 0, 16, 0] (cn (((!(implIsName ((x0.entries.getD i1 default).term))) || (!(implIsType ((x0.entries.getD i1 default).type)))) || (!(implEqT ((x0.entries.getD i1 default).type) (implNormal x0.rules ((x0.entries.getD i1 default).type))))) (r0 1 [1, 2, 3, 4, 18, 19, 20] [1, 4] (rt [] (C42 false))) (.reg 1 [] [(3, slC 49 (cEntry false) x0.entries.length (0) (((i1 : Nat) : Int)) 0 (i1 - 0) x0.entries rfl rfl)] [1, 2, 4, 18, 19, 20, 49, 50, 51] [1, 4] [] [] [] [0] (lp (D42b2 x0 i1 v1) [] [] [] (D42b2 x0 i1 v1 0 ()) (A42b2 x0 i1 v1))))) (.reg 1 [(11, .gF), (12, .gF), (13, .gF), (14, .gF), (15, .gF), (16, .gF), (17, .gF), (18, .gF), (19, .gF)] [(2, k97 ((x0.entries.getD i1 default).term)), (7, cg (!(!(implIsName ((x0.entries.getD i1 default).term)))) (k64 ((x0.entries.getD i1 default).type)))] [1, 2, 3, 4, 18, 19, 20, 45] [1, 4] [!(!(implIsName ((x0.entries.getD i1 default).term))), !(implIsName ((x0.entries.getD i1 default).term))] [pf ((!((!(implIsName ((x0.entries.getD i1 default).term))) || (!(implIsType ((x0.entries.getD i1 default).type))))) = false), gf ((!(implIsName ((x0.entries.getD i1 default).term))) || (!(implIsType ((x0.entries.getD i1 default).type)))) (pf (false = true))] [] [8, 1, 1, 12, 1, 6, 0, 0, 0, 0, 0, 0, 0, 0, 0, 4] (cn (((!(implIsName ((x0.entries.getD i1 default).term))) || (!(implIsType ((x0.entries.getD i1 default).type)))) || true) (r0 1 [1, 2, 3, 4, 18, 19, 20] [1, 4] (rt [] (C42 false))) (.reg 1 [] [(3, slC 49 (cEntry false) x0.entries.length (0) (((i1 : Nat) : Int)) 0 (i1 - 0) x0.entries rfl rfl)] [1, 2, 4, 18, 19, 20, 49, 50, 51] [1, 4] [] [] [] [0] (lp (D42b3 x0 i1 v1) [] [] [] (D42b3 x0 i1 v1 0 ()) (A42b3 x0 i1 v1))))))) (r0 1 [2] [] (rt [] (C42 true))))
def A42 (x0 : Terminology) : Ann := r0 1 [1, 2] [1] (.reg 1 [] [(2, k102 x0.rules)] [1, 2, 16] [1] [!(!(implAre x0.rules)), !(implAre x0.rules)] [] [] [0, 1, 1, 1, 6] (cn ((!(implAre x0.rules)) || (decide (60 < ((x0.entries.length : Nat) : Int)))) (r0 1 [1, 2] [1] (rt [] (C42 false))) (r0 1 [1, 2, 18, 19, 20] [1] (lp (D42b1 x0) [] [] [] (D42b1 x0 0 ()) (A42b1 x0)))))
theorem ok_impl_IsTerminology (x0 : Terminology) (hx : x0.rules.length ≤ 1048576) (hr : ∀ r ∈ x0.rules, r.name.length ≤ 1048576 ∧ r.from0.length ≤ 1048576 ∧ r.to.length ≤ 1048576) (he : x0.entries.length ≤ 1048576) (hee : ∀ e ∈ x0.entries, e.term.length ≤ 1048576 ∧ e.type.steps.length ≤ 1048576) : FnT Try.prog 42 [.agg (cTerminology false x0)] (C42 (implTerms x0)) := by
  have aux : ∀ R, implTerms x0 = R → slim (C42 R) (A42 x0) [] := by
    intro R hR
    refine rg trivial ?_
    refine rg ⟨⟨by with_reducible assumption, by with_reducible assumption⟩, trivial⟩ ?_
    revert hR; refine cd (fun hc1 hR => ?_) fun hc1 hR => ?_
    ·
      refine rg trivial ?_
      exact congrArg C42 hR
    ·
      refine rg trivial ?_
      revert hR; refine lN (fun i v => True) (by exact True.intro) rfl fun i1 v1 F1 hn1 hI1 hR hK1 => ?_
      refine rg trivial ?_
      refine ⟨fun hc2 => ?_, fun hc2 => ?_⟩
      · have hii1 : i1 < x0.entries.length := by have := of_decide_eq_true hc2; omega
        replace hR := loopN_step hR hii1
        refine rg ⟨by (intros; omega), trivial⟩ ?_
        revert hR; refine cd (fun hs3 hR => ?_) fun hs3 hR => ?_
        ·
          refine rg ⟨by with_reducible assumption, by (have h9 := hee _ (getD_mem (d := default) hii1); omega), fun hg0 => by (have h9 := hee _ (getD_mem (d := default) hii1); omega), ⟨by with_reducible assumption, by with_reducible assumption, by (have h9 := hee _ (getD_mem (d := default) hii1); omega), by (exact rules_ok (by first | (rw [← are_eq]; simp only [Bool.or_eq_false_iff, Bool.not_eq_false'] at hc1; exact hc1.1) | (simp only [Bool.or_eq_false_iff, Bool.not_eq_false'] at hc1; exact hc1.1)))⟩, ⟨by (have h9 := hee _ (getD_mem (d := default) hii1); omega), by (have h9 := hee _ (getD_mem (d := default) hii1); have h8 := l4Normal_len (rules_ok (x := x0.rules) (by first | (rw [← are_eq]; simp only [Bool.or_eq_false_iff, Bool.not_eq_false'] at hc1; exact hc1.1) | (simp only [Bool.or_eq_false_iff, Bool.not_eq_false'] at hc1; exact hc1.1))) (x0.entries.getD i1 default).type; (try rw [normal_eq]); omega)⟩, trivial⟩ ?_
          revert hR; refine cd (fun hc4 hR => ?_) fun hc4 hR => ?_
          ·
            refine rg trivial ?_
            exact congrArg C42 hR
          ·
            refine rg ⟨by (intros; omega), trivial⟩ ?_
            revert hR; refine lN (fun i v => True) (by exact True.intro) rfl fun i2 v2 F2 hn2 hI2 hR hK2 => ?_
            refine rg trivial ?_
            refine ⟨fun hc5 => ?_, fun hc5 => ?_⟩
            · have hii2 : i2 < ((x0.entries.drop 0).take (i1 - 0)).length := by have := of_decide_eq_true hc5; omega
              replace hR := loopN_step hR hii2
              refine rg ⟨by (intros; omega), ⟨by (have h9 := hee _ (List.mem_of_mem_drop (List.mem_of_mem_take (getD_mem (d := default) hii2))); omega), by (have h9 := hee _ (getD_mem (d := default) hii1); omega)⟩, trivial⟩ ?_
              revert hR; refine cd (fun hc6 hR => ?_) fun hc6 hR => ?_
              ·
                refine rg trivial ?_
                exact congrArg C42 hR
              ·
                refine rg ⟨by (have h9 := hii2; simp only [List.length_take, List.length_drop] at h9; (try simp only [inR]); omega), trivial⟩ ?_
                exact hK2 () hii2 (by exact True.intro) hR
            · obtain rfl : i2 = ((x0.entries.drop 0).take (i1 - 0)).length := by have := of_decide_eq_false hc5; omega
              replace hR := loopN_end hR (Nat.lt_irrefl _)
              refine rg ⟨by ((try simp only [inR]); omega), trivial⟩ ?_
              exact hK1 () hii1 (by exact True.intro) hR
        ·
          refine rg ⟨by with_reducible assumption, by (intro h9; simp_all), by (have h9 := hee _ (getD_mem (d := default) hii1); omega), fun hg0 => by (have h9 := hee _ (getD_mem (d := default) hii1); omega), trivial⟩ ?_
          revert hR; refine cd (fun hc7 hR => ?_) fun hc7 hR => ?_
          ·
            refine rg trivial ?_
            exact congrArg C42 hR
          ·
            refine rg ⟨by (intros; omega), trivial⟩ ?_
            revert hR; refine lN (fun i v => True) (by exact True.intro) rfl fun i3 v3 F3 hn3 hI3 hR hK3 => ?_
            refine rg trivial ?_
            refine ⟨fun hc8 => ?_, fun hc8 => ?_⟩
            · have hii3 : i3 < ((x0.entries.drop 0).take (i1 - 0)).length := by have := of_decide_eq_true hc8; omega
              replace hR := loopN_step hR hii3
              refine rg ⟨by (intros; omega), ⟨by (have h9 := hee _ (List.mem_of_mem_drop (List.mem_of_mem_take (getD_mem (d := default) hii3))); omega), by (have h9 := hee _ (getD_mem (d := default) hii1); omega)⟩, trivial⟩ ?_
              revert hR; refine cd (fun hc9 hR => ?_) fun hc9 hR => ?_
              ·
                refine rg trivial ?_
                exact congrArg C42 hR
              ·
                refine rg ⟨by (have h9 := hii3; simp only [List.length_take, List.length_drop] at h9; (try simp only [inR]); omega), trivial⟩ ?_
                exact hK3 () hii3 (by exact True.intro) hR
            · obtain rfl : i3 = ((x0.entries.drop 0).take (i1 - 0)).length := by have := of_decide_eq_false hc8; omega
              replace hR := loopN_end hR (Nat.lt_irrefl _)
              refine rg ⟨by ((try simp only [inR]); omega), trivial⟩ ?_
              exact hK1 () hii1 (by exact True.intro) hR
      · obtain rfl : i1 = x0.entries.length := by have := of_decide_eq_false hc2; omega
        replace hR := loopN_end hR (Nat.lt_irrefl _)
        refine rg trivial ?_
        exact congrArg C42 hR
  exact Fn.go 62 Try.func42 (by kernel_rfl) (by kernel_rfl) (by simp [C42, Frs, FrsL]) (A42 x0) (by kernel_rfl) (aux _ rfl)
def k42 (x0 : Terminology) : Cl := (hres (C42 (implTerms x0)), k4 (ok_impl_IsTerminology x0))
def C34 (R : Bool) : LV × List (Nat × BC) := (.bool R, [])
def specTerms (x0 : Terminology) : Bool := bif ((!(specAre x0.rules)) || (decide (60 < ((x0.entries.length : Nat) : Int)))) then false else (loopN (fun i1 (v1 : Unit) nx1 => bif (!((!(specIsName ((x0.entries.getD i1 default).term))) || (!(specIsType ((x0.entries.getD i1 default).type))))) then (bif (((!(specIsName ((x0.entries.getD i1 default).term))) || (!(specIsType ((x0.entries.getD i1 default).type)))) || (!(specEqT (l4Normal x0.rules ((x0.entries.getD i1 default).type)) ((x0.entries.getD i1 default).type)))) then false else (loopN (fun i2 (v2 : Unit) next => bif (specEqT ((x0.entries.getD i2 default).type) ((x0.entries.getD i1 default).type)) then false else (next ())) (fun (v2 : Unit) => nx1 ()) i1 0 ())) else (bif (((!(specIsName ((x0.entries.getD i1 default).term))) || (!(specIsType ((x0.entries.getD i1 default).type)))) || true) then false else (loopN (fun i3 (v3 : Unit) next => bif (specEqT ((x0.entries.getD i3 default).type) ((x0.entries.getD i1 default).type)) then false else (next ())) (fun (v3 : Unit) => nx1 ()) i1 0 ()))) (fun (v1 : Unit) => true) x0.entries.length 0 ())
def D34b1 (x0 : Terminology) (i1 : Nat) (v1 : Unit) : Dl := ⟨[(19, .int .i64 ((i1 : Nat) : Int))], []⟩
def D34b2 (x0 : Terminology) (i1 : Nat) (v1 : Unit) (i2 : Nat) (v2 : Unit) : Dl := ⟨[(5, .int .i64 ((i2 : Nat) : Int))], []⟩
def A34b2 (x0 : Terminology) (i1 : Nat) (v1 : Unit) (i2 : Nat) (v2 : Unit) : Ann := r0 1 [1, 2, 3, 4, 5, 17, 18, 19, 47] [1, 4] (cn (decide (((i2 : Nat) : Int) < ((i1 : Nat) : Int))) (.reg 1 [] [(8, k91 ((x0.entries.getD i2 default).type) ((x0.entries.getD i1 default).type))] [1, 2, 3, 4, 5, 17, 18, 19, 58] [1, 4] [] [pf (0 ≤ (((i2 : Nat) : Int) : Int) ∧ (((i2 : Nat) : Int) : Int) < ((x0.entries.length : Nat) : Int))] [] [0, 4] (cn (specEqT ((x0.entries.getD i2 default).type) ((x0.entries.getD i1 default).type)) (r0 1 [1, 2, 3, 4, 5, 17, 18, 19] [1, 4] (rt [] (C34 false))) (r1 1 [1, 2, 3, 4, 5, 17, 18, 19] [1, 4] [pf (inR .i64 (((i2 : Nat) : Int) + 1))] [0] (.next 0 [] (D34b2 x0 i1 v1 (i2 + 1) ()))))) (r1 1 [1, 2, 17, 18, 19] [1] [pf (inR .i64 (((i1 : Nat) : Int) + 1))] [0] (.next 1 [] (D34b1 x0 (i1 + 1) ()))))
def D34b3 (x0 : Terminology) (i1 : Nat) (v1 : Unit) (i3 : Nat) (v3 : Unit) : Dl := ⟨[(5, .int .i64 ((i3 : Nat) : Int))], []⟩
def A34b3 (x0 : Terminology) (i1 : Nat) (v1 : Unit) (i3 : Nat) (v3 : Unit) : Ann := r0 1 [1, 2, 3, 4, 5, 17, 18, 19, 47] [1, 4] (cn (decide (((i3 : Nat) : Int) < ((i1 : Nat) : Int))) (.reg 1 [] [(8, k91 ((x0.entries.getD i3 default).type) ((x0.entries.getD i1 default).type))] [1, 2, 3, 4, 5, 17, 18, 19, 58] [1, 4] [] [pf (0 ≤ (((i3 : Nat) : Int) : Int) ∧ (((i3 : Nat) : Int) : Int) < ((x0.entries.length : Nat) : Int))] [] [0, 4] (cn (specEqT ((x0.entries.getD i3 default).type) ((x0.entries.getD i1 default).type)) (r0 1 [1, 2, 3, 4, 5, 17, 18, 19] [1, 4] (rt [] (C34 false))) (r1 1 [1, 2, 3, 4, 5, 17, 18, 19] [1, 4] [pf (inR .i64 (((i3 : Nat) : Int) + 1))] [0] (.next 0 [] (D34b3 x0 i1 v1 (i3 + 1) ()))))) (r1 1 [1, 2, 17, 18, 19] [1] [pf (inR .i64 (((i1 : Nat) : Int) + 1))] [0] (.next 1 [] (D34b1 x0 (i1 + 1) ()))))
def A34b1 (x0 : Terminology) (i1 : Nat) (v1 : Unit) : Ann := r0 1 [1, 2, 17, 18, 19, 20] [1] (cn (decide (((i1 : Nat) : Int) < ((x0.entries.length : Nat) : Int))) (r1 1 [1, 2, 3, 4, 17, 18, 19] [1, 4] [pf (0 ≤ (((i1 : Nat) : Int) : Int) ∧ (((i1 : Nat) : Int) : Int) < ((x0.entries.length : Nat) : Int))] [0] (.split (!((!(specIsName ((x0.entries.getD i1 default).term))) || (!(specIsType ((x0.entries.getD i1 default).type))))) (.reg 1 [(11, .gT .no), (12, .gT .no), (13, .gT .no), (14, .gT .no), (16, .gT .no), (17, .gT .no), (19, .gT .no)] [(2, k89 ((x0.entries.getD i1 default).term)), (7, cg (!(!(specIsName ((x0.entries.getD i1 default).term)))) (k90 ((x0.entries.getD i1 default).type))), (15, cT (k92 x0.rules ((x0.entries.getD i1 default).type))), (18, cT (k91 (l4Normal x0.rules ((x0.entries.getD i1 default).type)) ((x0.entries.getD i1 default).type)))] [1, 2, 3, 4, 17, 18, 19, 44] [1, 4] [!(!(specIsName ((x0.entries.getD i1 default).term))), !(specIsName ((x0.entries.getD i1 default).term))] [pf ((!((!(specIsName ((x0.entries.getD i1 default).term))) || (!(specIsType ((x0.entries.getD i1 default).type))))) = true)] [] [4, 1, 1, 8, 1, 6, 0, 0, 0, 0, 0, 12, 0, 0, 0, 16, 0] (cn (((!(specIsName ((x0.entries.getD i1 default).term))) || (!(specIsType ((x0.entries.getD i1 default).type)))) || (!(specEqT (l4Normal x0.rules ((x0.entries.getD i1 default).type)) ((x0.entries.getD i1 default).type)))) (r0 1 [1, 2, 3, 4, 17, 18, 19] [1, 4] (rt [] (C34 false))) (r0 1 [1, 2, 3, 4, 5, 17, 18, 19] [1, 4] (lp (D34b2 x0 i1 v1) [] [] [] (D34b2 x0 i1 v1 0 ()) (A34b2 x0 i1 v1))))) (.reg 1 [(11, .gF), (12, .gF), (13, .gF), (14, .gF), (15, .gF), (16, .gF), (17, .gF), (18, .gF), (19, .gF)] [(2, k89 ((x0.entries.getD i1 default).term)), (7, cg (!(!(specIsName ((x0.entries.getD i1 default).term)))) (k90 ((x0.entries.getD i1 default).type)))] [1, 2, 3, 4, 17, 18, 19, 44] [1, 4] [!(!(specIsName ((x0.entries.getD i1 default).term))), !(specIsName ((x0.entries.getD i1 default).term))] [pf ((!((!(specIsName ((x0.entries.getD i1 default).term))) || (!(specIsType ((x0.entries.getD i1 default).type))))) = false), gf ((!(specIsName ((x0.entries.getD i1 default).term))) || (!(specIsType ((x0.entries.getD i1 default).type)))) (pf (false = true))] [] [8, 1, 1, 12, 1, 6, 0, 0, 0, 0, 0, 0, 0, 0, 0, 4] (cn (((!(specIsName ((x0.entries.getD i1 default).term))) || (!(specIsType ((x0.entries.getD i1 default).type)))) || true) (r0 1 [1, 2, 3, 4, 17, 18, 19] [1, 4] (rt [] (C34 false))) (r0 1 [1, 2, 3, 4, 5, 17, 18, 19] [1, 4] (lp (D34b3 x0 i1 v1) [] [] [] (D34b3 x0 i1 v1 0 ()) (A34b3 x0 i1 v1))))))) (r0 1 [2] [] (rt [] (C34 true))))
def A34 (x0 : Terminology) : Ann := r0 1 [1, 2] [1] (.reg 1 [] [(2, k88 x0.rules)] [1, 2, 15] [1] [!(!(specAre x0.rules)), !(specAre x0.rules)] [] [] [0, 1, 1, 1, 6] (cn ((!(specAre x0.rules)) || (decide (60 < ((x0.entries.length : Nat) : Int)))) (r0 1 [1, 2] [1] (rt [] (C34 false))) (r0 1 [1, 2, 17, 18, 19] [1] (lp (D34b1 x0) [] [] [] (D34b1 x0 0 ()) (A34b1 x0)))))
theorem ok_spec_IsTerminology (x0 : Terminology) (hx : x0.rules.length ≤ 1048576) (hr : ∀ r ∈ x0.rules, r.name.length ≤ 1048576 ∧ r.from0.length ≤ 1048576 ∧ r.to.length ≤ 1048576) (he : x0.entries.length ≤ 1048576) (hee : ∀ e ∈ x0.entries, e.term.length ≤ 1048576 ∧ e.type.steps.length ≤ 1048576) : FnT Try.prog 34 [.agg (cTerminology false x0)] (C34 (specTerms x0)) := by
  have aux : ∀ R, specTerms x0 = R → slim (C34 R) (A34 x0) [] := by
    intro R hR
    refine rg trivial ?_
    refine rg ⟨⟨by with_reducible assumption, by with_reducible assumption⟩, trivial⟩ ?_
    revert hR; refine cd (fun hc1 hR => ?_) fun hc1 hR => ?_
    ·
      refine rg trivial ?_
      exact congrArg C34 hR
    ·
      refine rg trivial ?_
      revert hR; refine lN (fun i v => True) (by exact True.intro) rfl fun i1 v1 F1 hn1 hI1 hR hK1 => ?_
      refine rg trivial ?_
      refine ⟨fun hc2 => ?_, fun hc2 => ?_⟩
      · have hii1 : i1 < x0.entries.length := by have := of_decide_eq_true hc2; omega
        replace hR := loopN_step hR hii1
        refine rg ⟨by (intros; omega), trivial⟩ ?_
        revert hR; refine cd (fun hs3 hR => ?_) fun hs3 hR => ?_
        ·
          refine rg ⟨by with_reducible assumption, by (have h9 := hee _ (getD_mem (d := default) hii1); omega), fun hg0 => by (have h9 := hee _ (getD_mem (d := default) hii1); omega), ⟨by with_reducible assumption, by with_reducible assumption, by (have h9 := hee _ (getD_mem (d := default) hii1); omega), by (exact rules_ok (by first | (rw [← are_eq]; simp only [Bool.or_eq_false_iff, Bool.not_eq_false'] at hc1; exact hc1.1) | (simp only [Bool.or_eq_false_iff, Bool.not_eq_false'] at hc1; exact hc1.1)))⟩, ⟨by (have h9 := hee _ (getD_mem (d := default) hii1); have h8 := l4Normal_len (rules_ok (x := x0.rules) (by first | (rw [← are_eq]; simp only [Bool.or_eq_false_iff, Bool.not_eq_false'] at hc1; exact hc1.1) | (simp only [Bool.or_eq_false_iff, Bool.not_eq_false'] at hc1; exact hc1.1))) (x0.entries.getD i1 default).type; (try rw [normal_eq]); omega), by (have h9 := hee _ (getD_mem (d := default) hii1); omega)⟩, trivial⟩ ?_
          revert hR; refine cd (fun hc4 hR => ?_) fun hc4 hR => ?_
          ·
            refine rg trivial ?_
            exact congrArg C34 hR
          ·
            refine rg trivial ?_
            revert hR; refine lN (fun i v => True) (by exact True.intro) rfl fun i2 v2 F2 hn2 hI2 hR hK2 => ?_
            refine rg trivial ?_
            refine ⟨fun hc5 => ?_, fun hc5 => ?_⟩
            · have hii2 : i2 < i1 := by have := of_decide_eq_true hc5; omega
              replace hR := loopN_step hR hii2
              refine rg ⟨by (intros; omega), ⟨by (have h9 := hee _ (getD_mem (d := default) (show i2 < x0.entries.length by (try simp only [List.length_take, List.length_drop] at hii2); omega)); omega), by (have h9 := hee _ (getD_mem (d := default) hii1); omega)⟩, trivial⟩ ?_
              revert hR; refine cd (fun hc6 hR => ?_) fun hc6 hR => ?_
              ·
                refine rg trivial ?_
                exact congrArg C34 hR
              ·
                refine rg ⟨by ((try simp only [inR]); omega), trivial⟩ ?_
                exact hK2 () hii2 (by exact True.intro) hR
            · obtain rfl : i1 = i2 := by have := of_decide_eq_false hc5; omega
              replace hR := loopN_end hR (Nat.lt_irrefl _)
              refine rg ⟨by ((try simp only [inR]); omega), trivial⟩ ?_
              exact hK1 () hii1 (by exact True.intro) hR
        ·
          refine rg ⟨by with_reducible assumption, by (intro h9; simp_all), by (have h9 := hee _ (getD_mem (d := default) hii1); omega), fun hg0 => by (have h9 := hee _ (getD_mem (d := default) hii1); omega), trivial⟩ ?_
          revert hR; refine cd (fun hc7 hR => ?_) fun hc7 hR => ?_
          ·
            refine rg trivial ?_
            exact congrArg C34 hR
          ·
            refine rg trivial ?_
            revert hR; refine lN (fun i v => True) (by exact True.intro) rfl fun i3 v3 F3 hn3 hI3 hR hK3 => ?_
            refine rg trivial ?_
            refine ⟨fun hc8 => ?_, fun hc8 => ?_⟩
            · have hii3 : i3 < i1 := by have := of_decide_eq_true hc8; omega
              replace hR := loopN_step hR hii3
              refine rg ⟨by (intros; omega), ⟨by (have h9 := hee _ (getD_mem (d := default) (show i3 < x0.entries.length by omega)); omega), by (have h9 := hee _ (getD_mem (d := default) hii1); omega)⟩, trivial⟩ ?_
              revert hR; refine cd (fun hc9 hR => ?_) fun hc9 hR => ?_
              ·
                refine rg trivial ?_
                exact congrArg C34 hR
              ·
                refine rg ⟨by ((try simp only [inR]); omega), trivial⟩ ?_
                exact hK3 () hii3 (by exact True.intro) hR
            · obtain rfl : i1 = i3 := by have := of_decide_eq_false hc8; omega
              replace hR := loopN_end hR (Nat.lt_irrefl _)
              refine rg ⟨by ((try simp only [inR]); omega), trivial⟩ ?_
              exact hK1 () hii1 (by exact True.intro) hR
      · obtain rfl : i1 = x0.entries.length := by have := of_decide_eq_false hc2; omega
        replace hR := loopN_end hR (Nat.lt_irrefl _)
        refine rg trivial ?_
        exact congrArg C34 hR
  exact Fn.go 60 Try.func34 (by kernel_rfl) (by kernel_rfl) (by simp [C34, Frs, FrsL]) (A34 x0) (by kernel_rfl) (aux _ rfl)
def k34 (x0 : Terminology) : Cl := (hres (C34 (specTerms x0)), k4 (ok_spec_IsTerminology x0))
end Go.Proofs.Ytanfabaedopeiaa
