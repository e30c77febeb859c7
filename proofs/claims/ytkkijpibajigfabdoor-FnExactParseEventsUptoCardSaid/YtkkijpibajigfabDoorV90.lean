import Derived.Test.YtkkijpibajigfabDoorV72
set_option maxHeartbeats 4000000
set_option linter.unusedSimpArgs false
set_option linter.unusedVariables false
namespace Go.Proofs.YtkkijpibajigfabDoor
open Go Go.Lite Go.Proofs
structure Event where
  kind : Int
  year : Int
  name : List UInt8
  sex : Int
  a : Int
  b : Int
  deriving Inhabited
def cEvent (fr : Bool) (x : Event) : List LV := cInt .i64 x.kind ++ cInt .i64 x.year ++ cStr x.name ++ cInt .i64 x.sex ++ cInt .i64 x.a ++ cInt .i64 x.b

def C14 (R : Int) : LV × List (Nat × BC) := (.int .i64 R, [])
def szEvent (x0 : Event) (x1 : Int) : Int := bif (decide ((x1 - ((x0.name.length : Nat) : Int)) < 0)) then (-1) else (x1 - ((x0.name.length : Nat) : Int))
def A14 (x0 : Event) (x1 : Int) : Ann := r1 2 [1, 4] [] [pf (inR .i64 (x1 - ((x0.name.length : Nat) : Int)))] [0] (r0 1 [1, 4, 11] [] (cn (decide ((x1 - ((x0.name.length : Nat) : Int)) < 0)) (r0 1 [1, 4] [] (rt [] (C14 (-1)))) (r0 1 [4] [] (rt [] (C14 (x1 - ((x0.name.length : Nat) : Int)))))))
theorem szEvent_rng (x : Event) (w : Int) : szEvent x w ≤ max w (-1) ∧ -1 ≤ szEvent x w := by
  unfold szEvent
  cases h : decide (w - (x.name.length : Int) < 0) <;> simp_all <;> omega
theorem ok_laws_szEvent (x0 : Event) (x1 : Int) (hx : x0.name.length ≤ 1048576) (hw : -1 ≤ x1 ∧ x1 ≤ 1048576) : FnT Tryd.prog 14 [.agg (cEvent false x0), .int .i64 x1] (C14 (szEvent x0 x1)) := by
  have aux : ∀ R, szEvent x0 x1 = R → slim (C14 R) (A14 x0 x1) [] := by
    intro R hR
    refine rg ⟨by ( intros; simp only [inR]; omega), trivial⟩ ?_
    refine rg trivial ?_
    revert hR; refine cd (fun hc1 hR => ?_) fun hc1 hR => ?_
    ·
      refine rg trivial ?_
      exact congrArg C14 hR
    ·
      refine rg trivial ?_
      exact congrArg C14 hR
  exact Fn.go 13 Tryd.func14 (by kernel_rfl) (by kernel_rfl) (by simp [C14, Frs, FrsL]) (A14 x0 x1) (by kernel_rfl) (aux _ rfl)
def k14 (x0 : Event) (x1 : Int) : Cl := (hres (C14 (szEvent x0 x1)), k2 (ok_laws_szEvent x0 x1))
def C5 (R : Int) : LV × List (Nat × BC) := (.int .i64 R, [])
def szEventS (x0 : List Event) (x1 : Int) : Int := bif (decide ((x1 - ((x0.length : Nat) : Int)) < 0)) then (-1) else (loopN (fun i1 (v1 : Int) next => bif (decide ((szEvent (x0.getD i1 default) v1) < 0)) then (-1) else (next (szEvent (x0.getD i1 default) v1))) (fun (v1 : Int) => v1) x0.length 0 (x1 - ((x0.length : Nat) : Int)))
def D5b1 (x0 : List Event) (x1 : Int) (i1 : Nat) (v1 : Int) : Dl := ⟨[(5, .int .i64 ((i1 : Nat) : Int)), (1, .int .i64 v1)], []⟩
def A5b1 (x0 : List Event) (x1 : Int) (i1 : Nat) (v1 : Int) : Ann := r0 1 [0, 1, 4, 5, 15] [] (cn (decide (((i1 : Nat) : Int) < ((x0.length : Nat) : Int))) (.reg 2 [] [(5, k14 (x0.getD i1 default) v1)] [0, 1, 4, 5, 25] [] [] [pf (0 ≤ (((i1 : Nat) : Int) : Int) ∧ (((i1 : Nat) : Int) : Int) < ((x0.length : Nat) : Int))] [] [0, 4] (cn (decide ((szEvent (x0.getD i1 default) v1) < 0)) (r0 1 [0, 1, 4, 5] [] (rt [] (C5 (-1)))) (r1 1 [0, 1, 4, 5] [] [pf (inR .i64 (((i1 : Nat) : Int) + 1))] [0] (.next 0 [] (D5b1 x0 x1 (i1 + 1) (szEvent (x0.getD i1 default) v1)))))) (r0 1 [4] [] (rt [] (C5 v1))))
def A5 (x0 : List Event) (x1 : Int) : Ann := r1 2 [0, 1, 4] [] [pf (inR .i64 (x1 - ((x0.length : Nat) : Int)))] [0] (r0 1 [0, 1, 4, 11] [] (cn (decide ((x1 - ((x0.length : Nat) : Int)) < 0)) (r0 1 [0, 1, 4] [] (rt [] (C5 (-1)))) (r0 1 [0, 1, 4, 5] [] (lp (D5b1 x0 x1) [] [] [] (D5b1 x0 x1 0 (x1 - ((x0.length : Nat) : Int))) (A5b1 x0 x1)))))
theorem ok_laws_szEventS (x0 : List Event) (x1 : Int) (hx : x0.length ≤ 1048576) (hy : ∀ e ∈ x0, e.name.length ≤ 1048576) (hw : -1 ≤ x1 ∧ x1 ≤ 1048576) : FnT Tryd.prog 5 [.ro false 6 x0.length (rowOf (cEvent false) x0), .int .i64 x1] (C5 (szEventS x0 x1)) := by
  have aux : ∀ R, szEventS x0 x1 = R → slim (C5 R) (A5 x0 x1) [] := by
    intro R hR
    refine rg ⟨by ( intros; simp only [inR]; omega), trivial⟩ ?_
    refine rg trivial ?_
    revert hR; refine cd (fun hc1 hR => ?_) fun hc1 hR => ?_
    ·
      refine rg trivial ?_
      exact congrArg C5 hR
    ·
      refine rg trivial ?_
      revert hR; refine lN (fun i v => -1 ≤ v ∧ v ≤ 1048576) (by ((try clear hR); intros; (try simp only [decide_eq_true_eq, decide_eq_false_iff_not, Bool.or_eq_true, Bool.and_eq_true, or_f_iff, not_f_iff, not_t_iff, Bool.not_eq_true', inR] at *); (repeat' apply And.intro) <;> (intros; omega))) rfl fun i1 v1 F1 hn1 hI1 hR hK1 => ?_
      refine rg trivial ?_
      refine ⟨fun hc2 => ?_, fun hc2 => ?_⟩
      · have hii1 : i1 < x0.length := by have := of_decide_eq_true hc2; omega
        replace hR := loopN_step hR hii1
        refine rg ⟨by (intros; omega), ⟨by ((try clear hR hK1); intros; (try simp only [decide_eq_true_eq, decide_eq_false_iff_not, Bool.or_eq_true, Bool.and_eq_true, or_f_iff, not_f_iff, not_t_iff, Bool.not_eq_true', inR] at *); (repeat' apply And.intro) <;> (simp_all [inR]; done)), by trivial⟩, trivial⟩ ?_
        have hp1 := szEvent_rng (x0.getD i1 default) v1
        revert hR; refine cd (fun hc3 hR => ?_) fun hc3 hR => ?_
        ·
          refine rg trivial ?_
          exact congrArg C5 hR
        ·
          refine rg ⟨by ( intros; simp only [inR]; omega), trivial⟩ ?_
          exact hK1 (szEvent (x0.getD i1 default) v1) hii1 (by (intros; omega)) hR
      · obtain rfl : i1 = x0.length := by have := of_decide_eq_false hc2; omega
        replace hR := loopN_end hR (Nat.lt_irrefl _)
        refine rg trivial ?_
        exact congrArg C5 hR
  exact Fn.go 27 Tryd.func5 (by kernel_rfl) (by kernel_rfl) (by simp [C5, Frs, FrsL]) (A5 x0 x1) (by kernel_rfl) (aux _ rfl)
def k5 (x0 : List Event) (x1 : Int) : Cl := (hres (C5 (szEventS x0 x1)), k3 (ok_laws_szEventS x0 x1))
def C18 (R : Event) : LV × List (Nat × BC) := (.agg [.int .i64 R.kind, .int .i64 R.year, .str R.name, .int .i64 R.sex, .int .i64 R.a, .int .i64 R.b], [])
def laws_toEvent_m (x0 : Event) : Event := x0
def A18 (x0 : Event) : Ann := r0 9 [2] [2] (rt [] (C18 x0))
theorem ok_laws_toEvent (x0 : Event) : FnT Tryd.prog 18 [.agg (cEvent false x0)] (C18 x0) := by
  have aux : ∀ R, laws_toEvent_m x0 = R → slim (C18 R) (A18 x0) [] := by
    intro R hR
    refine rg trivial ?_
    exact congrArg C18 hR
  exact Fn.go 23 Tryd.func18 (by kernel_rfl) (by kernel_rfl) (by simp [C18, Frs, FrsL]) (A18 x0) (by kernel_rfl) (aux _ rfl)
def k18 (x0 : Event) : Cl := (hres (C18 x0), k0 (ok_laws_toEvent x0))
def C7 (R : (List Event)) : LV × List (Nat × BC) := (.own 0, [(0, .arr 6 R.length (rowOf (cEvent true) R))])
def laws_toEventS_m (x0 : List Event) : (List Event) := loopN (fun i1 (v1 : (List Event)) next => next (v1.set i1 (x0.getD i1 default))) (fun (v1 : (List Event)) => v1) x0.length 0 (List.replicate x0.length (default : Event))
def D7b1 (x0 : List Event) (i1 : Nat) (v1 : (List Event)) : Dl := ⟨[(4, .int .i64 ((i1 : Nat) : Int)), (3, .own 20003)], [(20003, .arr 6 x0.length (rowOf (cEvent true) v1))]⟩
def A7b1 (x0 : List Event) (i1 : Nat) (v1 : (List Event)) : Ann := r0 1 [0, 2, 3, 4, 11] [20003] (cn (decide (((i1 : Nat) : Int) < ((x0.length : Nat) : Int))) (.reg 1 [] [(6, k18 (x0.getD i1 default)), (8, stC 20003 (cEvent true) x0.length v1 i1 (x0.getD i1 default))] [0, 2, 3, 4] [20003] [] [pf (0 ≤ (((i1 : Nat) : Int) : Int) ∧ (((i1 : Nat) : Int) : Int) < ((x0.length : Nat) : Int))] [] [0, 4, 0, 8] (r1 1 [0, 2, 3, 4] [20003] [pf (inR .i64 (((i1 : Nat) : Int) + 1))] [0] (.next 0 [(20003, some 20003)] (D7b1 x0 (i1 + 1) (v1.set i1 (x0.getD i1 default)))))) (r0 1 [2] [20003] (.co false 20003 v1.length (rowOf (cEvent true) v1) [lnP (rowOf (cEvent true) v1) x0.length v1.length] [] 0 (rt [(0, some 20003)] (C7 v1)))))
def A7 (x0 : List Event) : Ann := .reg 2 [] [(1002, msC 7 (cEvent true) 56 ((x0.length : Nat) : Int) ((x0.length : Nat) : Int) x0.length (default : Event) (rfl))] [0, 2, 3] [7] [] [] [] [0] (r0 1 [0, 2, 3, 4] [7] (lp (D7b1 x0) [] [7] [(20003, some 7)] (D7b1 x0 0 (List.replicate x0.length (default : Event))) (A7b1 x0)))
theorem toEventS_id (x : List Event) : laws_toEventS_m x = x := loopN_copy x _ _ _ _ (by simp) (by simp) (fun k hk => absurd hk (by omega))
theorem ok_laws_toEventS (x0 : List Event) (hx : x0.length ≤ 1048576) : FnT Tryd.prog 7 [.ro false 6 x0.length (rowOf (cEvent false) x0)] (C7 x0) := by
  have aux : ∀ R, laws_toEventS_m x0 = R → slim (C7 R) (A7 x0) [] := by
    intro R hR
    refine rg ⟨by (intros; omega), trivial⟩ ?_
    refine rg trivial ?_
    revert hR; refine lN (fun i v => v.length = x0.length) (by ((try clear hR); intros; (try simp only [decide_eq_true_eq, decide_eq_false_iff_not, Bool.or_eq_true, Bool.and_eq_true, or_f_iff, not_f_iff, not_t_iff, Bool.not_eq_true', inR] at *); (repeat' apply And.intro) <;> (simp_all [inR]; done))) rfl fun i1 v1 F1 hn1 hI1 hR hK1 => ?_
    refine rg trivial ?_
    refine ⟨fun hc1 => ?_, fun hc1 => ?_⟩
    · have hii1 : i1 < x0.length := by have := of_decide_eq_true hc1; omega
      replace hR := loopN_step hR hii1
      refine rg ⟨by (intros; omega), trivial, by (intros; omega), trivial⟩ ?_
      refine rg ⟨by ( intros; simp only [inR]; omega), trivial⟩ ?_
      exact hK1 (v1.set i1 (x0.getD i1 default)) hii1 (by ((try clear hR hK1); intros; (try simp only [decide_eq_true_eq, decide_eq_false_iff_not, Bool.or_eq_true, Bool.and_eq_true, or_f_iff, not_f_iff, not_t_iff, Bool.not_eq_true', inR] at *); (repeat' apply And.intro) <;> (simp_all [inR]; done))) hR
    · obtain rfl : i1 = x0.length := by have := of_decide_eq_false hc1; omega
      replace hR := loopN_end hR (Nat.lt_irrefl _)
      refine rg trivial ?_
      refine og (by (intros; omega)) ?_
      exact congrArg C7 hR
  exact Fn.go 23 Tryd.func7 (by kernel_rfl) (by kernel_rfl) (by simp [C7, Frs, FrsL, FrsB, rowOf, cInt, cBool, cStr, cSl, FrsL_app, cPerson, cUnion, cFamily, cEvent]) (A7 x0) (by kernel_rfl) (aux _ (toEventS_id x0))
def k7 (x0 : List Event) : Cl := (hres (C7 x0), k1 (ok_laws_toEventS x0))
def C25 (R : Bool) : LV × List (Nat × BC) := (.bool R, [])
def eqEvent (x0 : Event) (x1 : Event) : Bool := bif (!decide (x0.kind = x1.kind)) then false else (bif (!decide (x0.year = x1.year)) then false else (bif (!(x0.name == x1.name)) then false else (bif (!decide (x0.sex = x1.sex)) then false else (bif (!decide (x0.a = x1.a)) then false else (bif (!decide (x0.b = x1.b)) then false else true)))))
def A25 (x0 : Event) (x1 : Event) : Ann := r0 1 [2, 3, 4] [2, 3] (r0 1 [2, 3, 4, 9] [2, 3] (cn (!decide (x0.kind = x1.kind)) (r0 1 [2, 3, 4] [2, 3] (rt [] (C25 false))) (r0 1 [2, 3, 4, 14] [2, 3] (cn (!decide (x0.year = x1.year)) (r0 1 [2, 3, 4] [2, 3] (rt [] (C25 false))) (r0 1 [2, 3, 4, 19] [2, 3] (cn (!(x0.name == x1.name)) (r0 1 [2, 3, 4] [2, 3] (rt [] (C25 false))) (r0 1 [2, 3, 4, 24] [2, 3] (cn (!decide (x0.sex = x1.sex)) (r0 1 [2, 3, 4] [2, 3] (rt [] (C25 false))) (r0 1 [2, 3, 4, 29] [2, 3] (cn (!decide (x0.a = x1.a)) (r0 1 [2, 3, 4] [2, 3] (rt [] (C25 false))) (r0 1 [4, 34] [] (cn (!decide (x0.b = x1.b)) (r0 1 [4] [] (rt [] (C25 false))) (r0 1 [4] [] (rt [] (C25 true)))))))))))))))
theorem eqEvent_self (x : Event) : eqEvent x x = true := by simp [eqEvent]
theorem ok_laws_eqEvent (x0 : Event) (x1 : Event) : FnT Tryd.prog 25 [.agg (cEvent false x0), .agg (cEvent false x1)] (C25 (eqEvent x0 x1)) := by
  have aux : ∀ R, eqEvent x0 x1 = R → slim (C25 R) (A25 x0 x1) [] := by
    intro R hR
    refine rg trivial ?_
    refine rg trivial ?_
    revert hR; refine cd (fun hc1 hR => ?_) fun hc1 hR => ?_
    ·
      refine rg trivial ?_
      exact congrArg C25 hR
    ·
      refine rg trivial ?_
      revert hR; refine cd (fun hc2 hR => ?_) fun hc2 hR => ?_
      ·
        refine rg trivial ?_
        exact congrArg C25 hR
      ·
        refine rg trivial ?_
        revert hR; refine cd (fun hc3 hR => ?_) fun hc3 hR => ?_
        ·
          refine rg trivial ?_
          exact congrArg C25 hR
        ·
          refine rg trivial ?_
          revert hR; refine cd (fun hc4 hR => ?_) fun hc4 hR => ?_
          ·
            refine rg trivial ?_
            exact congrArg C25 hR
          ·
            refine rg trivial ?_
            revert hR; refine cd (fun hc5 hR => ?_) fun hc5 hR => ?_
            ·
              refine rg trivial ?_
              exact congrArg C25 hR
            ·
              refine rg trivial ?_
              revert hR; refine cd (fun hc6 hR => ?_) fun hc6 hR => ?_
              ·
                refine rg trivial ?_
                exact congrArg C25 hR
              ·
                refine rg trivial ?_
                exact congrArg C25 hR
  exact Fn.go 35 Tryd.func25 (by kernel_rfl) (by kernel_rfl) (by simp [C25, Frs, FrsL]) (A25 x0 x1) (by kernel_rfl) (aux _ rfl)
def k25 (x0 : Event) (x1 : Event) : Cl := (hres (C25 (eqEvent x0 x1)), k0 (ok_laws_eqEvent x0 x1))
def C9 (R : Bool) : LV × List (Nat × BC) := (.bool R, [])
def eqEventS (x0 : List Event) (x1 : List Event) : Bool := bif (!decide (((x0.length : Nat) : Int) = ((x1.length : Nat) : Int))) then false else (loopN (fun i1 (v1 : Unit) next => bif (!(eqEvent (x0.getD i1 default) (x1.getD i1 default))) then false else (next ())) (fun (v1 : Unit) => true) x0.length 0 ())
def D9b1 (x0 : List Event) (x1 : List Event) (i1 : Nat) (v1 : Unit) : Dl := ⟨[(5, .int .i64 ((i1 : Nat) : Int))], []⟩
def A9b1 (x0 : List Event) (x1 : List Event) (i1 : Nat) (v1 : Unit) : Ann := r0 1 [0, 1, 4, 5, 14] [] (cn (decide (((i1 : Nat) : Int) < ((x0.length : Nat) : Int))) (.reg 1 [] [(8, k25 (x0.getD i1 default) (x1.getD i1 default))] [0, 1, 4, 5, 26] [] [] [pf (0 ≤ (((i1 : Nat) : Int) : Int) ∧ (((i1 : Nat) : Int) : Int) < ((x0.length : Nat) : Int)), pf (0 ≤ (((i1 : Nat) : Int) : Int) ∧ (((i1 : Nat) : Int) : Int) < ((x1.length : Nat) : Int))] [] [0, 4, 8] (cn (!(eqEvent (x0.getD i1 default) (x1.getD i1 default))) (r0 1 [0, 1, 4, 5] [] (rt [] (C9 false))) (r1 1 [0, 1, 4, 5] [] [pf (inR .i64 (((i1 : Nat) : Int) + 1))] [0] (.next 0 [] (D9b1 x0 x1 (i1 + 1) ()))))) (r0 1 [4] [] (rt [] (C9 true))))
def A9 (x0 : List Event) (x1 : List Event) : Ann := r0 1 [0, 1, 4] [] (r0 1 [0, 1, 4, 10] [] (cn (!decide (((x0.length : Nat) : Int) = ((x1.length : Nat) : Int))) (r0 1 [0, 1, 4] [] (rt [] (C9 false))) (r0 1 [0, 1, 4, 5] [] (lp (D9b1 x0 x1) [] [] [] (D9b1 x0 x1 0 ()) (A9b1 x0 x1)))))
theorem eqEventS_self (x : List Event) : eqEventS x x = true := by
  simp only [eqEventS, decide_true, Bool.not_true, cond_false]
  exact loopN_inv (fun _ _ => True) (fun r => r = true) (fun i v next _ hn => by simp only [eqEvent_self, Bool.not_true, cond_false]; exact hn _ trivial) (fun _ _ _ => rfl) _ _ _ trivial
theorem ok_laws_eqEventS (x0 : List Event) (x1 : List Event) (hx : x0.length ≤ 1048576) : FnT Tryd.prog 9 [.ro false 6 x0.length (rowOf (cEvent false) x0), .ro false 6 x1.length (rowOf (cEvent false) x1)] (C9 (eqEventS x0 x1)) := by
  have aux : ∀ R, eqEventS x0 x1 = R → slim (C9 R) (A9 x0 x1) [] := by
    intro R hR
    refine rg trivial ?_
    refine rg trivial ?_
    revert hR; refine cd (fun hc1 hR => ?_) fun hc1 hR => ?_
    ·
      refine rg trivial ?_
      exact congrArg C9 hR
    ·
      refine rg trivial ?_
      revert hR; refine lN (fun i v => True) (by trivial) rfl fun i1 v1 F1 hn1 hI1 hR hK1 => ?_
      refine rg trivial ?_
      refine ⟨fun hc2 => ?_, fun hc2 => ?_⟩
      · have hii1 : i1 < x0.length := by have := of_decide_eq_true hc2; omega
        replace hR := loopN_step hR hii1
        refine rg ⟨by (intros; omega), by ((try clear hR hK1); intros; (try simp only [decide_eq_true_eq, decide_eq_false_iff_not, Bool.or_eq_true, Bool.and_eq_true, or_f_iff, not_f_iff, not_t_iff, Bool.not_eq_true', inR] at *); (repeat' apply And.intro) <;> (intros; omega)), trivial, trivial⟩ ?_
        revert hR; refine cd (fun hc3 hR => ?_) fun hc3 hR => ?_
        ·
          refine rg trivial ?_
          exact congrArg C9 hR
        ·
          refine rg ⟨by ( intros; simp only [inR]; omega), trivial⟩ ?_
          exact hK1 () hii1 (by trivial) hR
      · obtain rfl : i1 = x0.length := by have := of_decide_eq_false hc2; omega
        replace hR := loopN_end hR (Nat.lt_irrefl _)
        refine rg trivial ?_
        exact congrArg C9 hR
  exact Fn.go 27 Tryd.func9 (by kernel_rfl) (by kernel_rfl) (by simp [C9, Frs, FrsL]) (A9 x0 x1) (by kernel_rfl) (aux _ rfl)
def k9 (x0 : List Event) (x1 : List Event) : Cl := (hres (C9 (eqEventS x0 x1)), k1 (ok_laws_eqEventS x0 x1))
def C12 (x0 : List Event) (x1 : Int) (R : Int × (List Event)) : LV × List (Nat × BC) := (.int .i64 R.1, [(900000, .arr 6 R.2.length (rowOf (cEvent true) R.2))])
def markEventS (x0 : List Event) (x1 : Int) : Int × (List Event) := loopN (fun i1 (v1 : (List Event) × Int) next => next ((v1.1.set i1 (Event.mk v1.2 (v1.2 + 1) (markText ((v1.2 + 1) + 1)) (((v1.2 + 1) + 1) + 1) ((((v1.2 + 1) + 1) + 1) + 1) (((((v1.2 + 1) + 1) + 1) + 1) + 1))), (((((v1.2 + 1) + 1) + 1) + 1) + 1) + 1)) (fun (v1 : (List Event) × Int) => (v1.2, v1.1)) x0.length 0 (x0, x1)
def D12b1 (x0 : List Event) (x1 : Int) (i1 : Nat) (v1 : (List Event) × Int) : Dl := ⟨[(5, .int .i64 ((i1 : Nat) : Int)), (0, .own 900000), (1, .int .i64 v1.2)], [(900000, .arr 6 x0.length (rowOf (cEvent true) v1.1))]⟩
def A12b1 (x0 : List Event) (x1 : Int) (i1 : Nat) (v1 : (List Event) × Int) : Ann := r0 1 [0, 1, 4, 5, 9] [900000] (cn (decide (((i1 : Nat) : Int) < ((x0.length : Nat) : Int))) (.reg 11 [] [(5, stP 900000 (cEvent true) x0.length v1.1 v1.1 i1 0 [.int .i64 v1.2] (Event.mk v1.2 ((v1.1.getD i1 default).year) ((v1.1.getD i1 default).name) ((v1.1.getD i1 default).sex) ((v1.1.getD i1 default).a) ((v1.1.getD i1 default).b)) (v1.1.getD i1 default) (.inr ⟨rfl, rfl⟩) rfl), (2005, stP 900000 (cEvent true) x0.length v1.1 (v1.1.set i1 (Event.mk v1.2 ((v1.1.getD i1 default).year) ((v1.1.getD i1 default).name) ((v1.1.getD i1 default).sex) ((v1.1.getD i1 default).a) ((v1.1.getD i1 default).b))) i1 1 [.int .i64 (v1.2 + 1)] (Event.mk v1.2 (v1.2 + 1) ((v1.1.getD i1 default).name) ((v1.1.getD i1 default).sex) ((v1.1.getD i1 default).a) ((v1.1.getD i1 default).b)) (Event.mk v1.2 ((v1.1.getD i1 default).year) ((v1.1.getD i1 default).name) ((v1.1.getD i1 default).sex) ((v1.1.getD i1 default).a) ((v1.1.getD i1 default).b)) (.inl rfl) rfl), (4003, k30 ((v1.2 + 1) + 1)), (4006, stP 900000 (cEvent true) x0.length v1.1 (v1.1.set i1 (Event.mk v1.2 (v1.2 + 1) ((v1.1.getD i1 default).name) ((v1.1.getD i1 default).sex) ((v1.1.getD i1 default).a) ((v1.1.getD i1 default).b))) i1 2 [.str (markText ((v1.2 + 1) + 1))] (Event.mk v1.2 (v1.2 + 1) (markText ((v1.2 + 1) + 1)) ((v1.1.getD i1 default).sex) ((v1.1.getD i1 default).a) ((v1.1.getD i1 default).b)) (Event.mk v1.2 (v1.2 + 1) ((v1.1.getD i1 default).name) ((v1.1.getD i1 default).sex) ((v1.1.getD i1 default).a) ((v1.1.getD i1 default).b)) (.inl rfl) rfl), (6005, stP 900000 (cEvent true) x0.length v1.1 (v1.1.set i1 (Event.mk v1.2 (v1.2 + 1) (markText ((v1.2 + 1) + 1)) ((v1.1.getD i1 default).sex) ((v1.1.getD i1 default).a) ((v1.1.getD i1 default).b))) i1 3 [.int .i64 (((v1.2 + 1) + 1) + 1)] (Event.mk v1.2 (v1.2 + 1) (markText ((v1.2 + 1) + 1)) (((v1.2 + 1) + 1) + 1) ((v1.1.getD i1 default).a) ((v1.1.getD i1 default).b)) (Event.mk v1.2 (v1.2 + 1) (markText ((v1.2 + 1) + 1)) ((v1.1.getD i1 default).sex) ((v1.1.getD i1 default).a) ((v1.1.getD i1 default).b)) (.inl rfl) rfl), (8005, stP 900000 (cEvent true) x0.length v1.1 (v1.1.set i1 (Event.mk v1.2 (v1.2 + 1) (markText ((v1.2 + 1) + 1)) (((v1.2 + 1) + 1) + 1) ((v1.1.getD i1 default).a) ((v1.1.getD i1 default).b))) i1 4 [.int .i64 ((((v1.2 + 1) + 1) + 1) + 1)] (Event.mk v1.2 (v1.2 + 1) (markText ((v1.2 + 1) + 1)) (((v1.2 + 1) + 1) + 1) ((((v1.2 + 1) + 1) + 1) + 1) ((v1.1.getD i1 default).b)) (Event.mk v1.2 (v1.2 + 1) (markText ((v1.2 + 1) + 1)) (((v1.2 + 1) + 1) + 1) ((v1.1.getD i1 default).a) ((v1.1.getD i1 default).b)) (.inl rfl) rfl), (10005, stP 900000 (cEvent true) x0.length v1.1 (v1.1.set i1 (Event.mk v1.2 (v1.2 + 1) (markText ((v1.2 + 1) + 1)) (((v1.2 + 1) + 1) + 1) ((((v1.2 + 1) + 1) + 1) + 1) ((v1.1.getD i1 default).b))) i1 5 [.int .i64 (((((v1.2 + 1) + 1) + 1) + 1) + 1)] (Event.mk v1.2 (v1.2 + 1) (markText ((v1.2 + 1) + 1)) (((v1.2 + 1) + 1) + 1) ((((v1.2 + 1) + 1) + 1) + 1) (((((v1.2 + 1) + 1) + 1) + 1) + 1)) (Event.mk v1.2 (v1.2 + 1) (markText ((v1.2 + 1) + 1)) (((v1.2 + 1) + 1) + 1) ((((v1.2 + 1) + 1) + 1) + 1) ((v1.1.getD i1 default).b)) (.inl rfl) rfl)] [0, 1, 4, 5] [900000] [] [pf (0 ≤ (((i1 : Nat) : Int) : Int) ∧ (((i1 : Nat) : Int) : Int) < ((x0.length : Nat) : Int)), pf (inR .i64 (v1.2 + 1)), pf (inR .i64 ((v1.2 + 1) + 1)), pf (inR .i64 (((v1.2 + 1) + 1) + 1)), pf (inR .i64 ((((v1.2 + 1) + 1) + 1) + 1)), pf (inR .i64 (((((v1.2 + 1) + 1) + 1) + 1) + 1))] [] [0, 24, 4, 0, 28, 8, 32, 0, 36, 12, 0, 40, 16, 0, 44, 20, 0, 48] (r1 1 [0, 1, 4, 5] [900000] [pf (inR .i64 ((((((v1.2 + 1) + 1) + 1) + 1) + 1) + 1))] [0] (r1 1 [0, 1, 4, 5] [900000] [pf (inR .i64 (((i1 : Nat) : Int) + 1))] [0] (.next 0 [(900000, some 900000)] (D12b1 x0 x1 (i1 + 1) ((v1.1.set i1 (Event.mk v1.2 (v1.2 + 1) (markText ((v1.2 + 1) + 1)) (((v1.2 + 1) + 1) + 1) ((((v1.2 + 1) + 1) + 1) + 1) (((((v1.2 + 1) + 1) + 1) + 1) + 1))), (((((v1.2 + 1) + 1) + 1) + 1) + 1) + 1)))))) (r0 1 [4] [900000] (.co false 900000 v1.1.length (rowOf (cEvent true) v1.1) [lnP (rowOf (cEvent true) v1.1) x0.length v1.1.length] [] 0 (rt [(900000, some 900000)] (C12 x0 x1 (v1.2, v1.1))))))
def A12 (x0 : List Event) (x1 : Int) : Ann := r0 1 [0, 1, 4] [900000] (r0 1 [0, 1, 4, 5] [900000] (lp (D12b1 x0 x1) [] [] [(900000, some 900000)] (D12b1 x0 x1 0 (x0, x1)) (A12b1 x0 x1)))
theorem ok_laws_markEventS (x0 : List Event) (x1 : Int) (hx : x0.length ≤ 1048576) (hk : 0 ≤ x1 ∧ x1 ≤ 30000000) : FnMT Tryd.prog 12 [.own 900000, .int .i64 x1] [.arr 6 x0.length (rowOf (cEvent true) x0)] (C12 x0 x1 (markEventS x0 x1)) := by
  have aux : ∀ R, markEventS x0 x1 = R → slim (C12 x0 x1 R) (A12 x0 x1) [] := by
    intro R hR
    refine rg trivial ?_
    refine rg trivial ?_
    revert hR; refine lN (fun i v => v.1.length = x0.length ∧ v.2 = x1 + 6 * i) (by ((try clear hR); intros; (try simp only [decide_eq_true_eq, decide_eq_false_iff_not, Bool.or_eq_true, Bool.and_eq_true, or_f_iff, not_f_iff, not_t_iff, Bool.not_eq_true', inR] at *); (repeat' apply And.intro) <;> (first | (intros; omega) | (simp_all [inR]; done)))) rfl fun i1 v1 F1 hn1 hI1 hR hK1 => ?_
    refine rg trivial ?_
    refine ⟨fun hc1 => ?_, fun hc1 => ?_⟩
    · have hii1 : i1 < x0.length := by have := of_decide_eq_true hc1; omega
      replace hR := loopN_step hR hii1
      refine rg ⟨by (intros; omega), by ( intros; simp only [inR]; omega), by ( intros; simp only [inR]; omega), by ( intros; simp only [inR]; omega), by ( intros; simp only [inR]; omega), by ( intros; simp only [inR]; omega), by (intros; omega), by (intros; omega), by (intros; omega), by (intros; omega), by (intros; omega), by (intros; omega), by (intros; omega), trivial⟩ ?_
      refine rg ⟨by ( intros; simp only [inR]; omega), trivial⟩ ?_
      refine rg ⟨by ( intros; simp only [inR]; omega), trivial⟩ ?_
      exact hK1 ((v1.1.set i1 (Event.mk v1.2 (v1.2 + 1) (markText ((v1.2 + 1) + 1)) (((v1.2 + 1) + 1) + 1) ((((v1.2 + 1) + 1) + 1) + 1) (((((v1.2 + 1) + 1) + 1) + 1) + 1))), (((((v1.2 + 1) + 1) + 1) + 1) + 1) + 1) hii1 (by (simp only [List.length_set]; omega)) hR
    · obtain rfl : i1 = x0.length := by have := of_decide_eq_false hc1; omega
      replace hR := loopN_end hR (Nat.lt_irrefl _)
      refine rg trivial ?_
      refine og (by (intros; omega)) ?_
      exact congrArg (C12 x0 x1) hR
  exact FnM.go 56 Tryd.func12 (by kernel_rfl) (by kernel_rfl) (A12 x0 x1) (by kernel_rfl) (aux _ rfl)
def k12 (d : Nat) (ids : List Nat) (x0 : List Event) (x1 : Int) : Cl := (hresM d ids (C12 x0 x1 (markEventS x0 x1)), k2 (ok_laws_markEventS x0 x1))
end Go.Proofs.YtkkijpibajigfabDoor
