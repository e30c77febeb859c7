import Derived.Test.YtepefimocflfkaaM198
set_option maxHeartbeats 4000000
set_option linter.unusedSimpArgs false
set_option linter.unusedVariables false
namespace Go.Proofs.Ytepefimocflfkaa
open Go Go.Lite Go.Proofs
def C73 (R : Bool) : LV × List (Nat × BC) := (.bool R, [])
def eqEvent (x0 : Event) (x1 : Event) : Bool := bif (!decide (x0.kind = x1.kind)) then false else (bif (!decide (x0.year = x1.year)) then false else (bif (!(x0.name == x1.name)) then false else (bif (!decide (x0.sex = x1.sex)) then false else (bif (!decide (x0.a = x1.a)) then false else (bif (!decide (x0.b = x1.b)) then false else true)))))
def A73 (x0 : Event) (x1 : Event) : Ann := r0 1 [2, 3, 4] [2, 3] (r0 1 [2, 3, 4, 9] [2, 3] (cn (!decide (x0.kind = x1.kind)) (r0 1 [2, 3, 4] [2, 3] (rt [] (C73 false))) (r0 1 [2, 3, 4, 14] [2, 3] (cn (!decide (x0.year = x1.year)) (r0 1 [2, 3, 4] [2, 3] (rt [] (C73 false))) (r0 1 [2, 3, 4, 19] [2, 3] (cn (!(x0.name == x1.name)) (r0 1 [2, 3, 4] [2, 3] (rt [] (C73 false))) (r0 1 [2, 3, 4, 24] [2, 3] (cn (!decide (x0.sex = x1.sex)) (r0 1 [2, 3, 4] [2, 3] (rt [] (C73 false))) (r0 1 [2, 3, 4, 29] [2, 3] (cn (!decide (x0.a = x1.a)) (r0 1 [2, 3, 4] [2, 3] (rt [] (C73 false))) (r0 1 [4, 34] [] (cn (!decide (x0.b = x1.b)) (r0 1 [4] [] (rt [] (C73 false))) (r0 1 [4] [] (rt [] (C73 true)))))))))))))))
theorem eqEvent_self (x : Event) : eqEvent x x = true := by simp [eqEvent]
theorem ok_laws_eqEvent (x0 : Event) (x1 : Event) : FnT Try.prog 73 [.agg (cEvent false x0), .agg (cEvent false x1)] (C73 (eqEvent x0 x1)) := by
  have aux : ∀ R, eqEvent x0 x1 = R → slim (C73 R) (A73 x0 x1) [] := by
    intro R hR
    refine rg trivial ?_
    refine rg trivial ?_
    revert hR; refine cd (fun hc1 hR => ?_) fun hc1 hR => ?_
    ·
      refine rg trivial ?_
      exact congrArg C73 hR
    ·
      refine rg trivial ?_
      revert hR; refine cd (fun hc2 hR => ?_) fun hc2 hR => ?_
      ·
        refine rg trivial ?_
        exact congrArg C73 hR
      ·
        refine rg trivial ?_
        revert hR; refine cd (fun hc3 hR => ?_) fun hc3 hR => ?_
        ·
          refine rg trivial ?_
          exact congrArg C73 hR
        ·
          refine rg trivial ?_
          revert hR; refine cd (fun hc4 hR => ?_) fun hc4 hR => ?_
          ·
            refine rg trivial ?_
            exact congrArg C73 hR
          ·
            refine rg trivial ?_
            revert hR; refine cd (fun hc5 hR => ?_) fun hc5 hR => ?_
            ·
              refine rg trivial ?_
              exact congrArg C73 hR
            ·
              refine rg trivial ?_
              revert hR; refine cd (fun hc6 hR => ?_) fun hc6 hR => ?_
              ·
                refine rg trivial ?_
                exact congrArg C73 hR
              ·
                refine rg trivial ?_
                exact congrArg C73 hR
  exact Fn.go 35 Try.func73 (by kernel_rfl) (by kernel_rfl) (by simp [C73, Frs, FrsL]) (A73 x0 x1) (by kernel_rfl) (aux _ rfl)
def k73 (x0 : Event) (x1 : Event) : Cl := (hres (C73 (eqEvent x0 x1)), k0 (ok_laws_eqEvent x0 x1))
def C31 (R : Bool) : LV × List (Nat × BC) := (.bool R, [])
def eqEventS (x0 : List Event) (x1 : List Event) : Bool := bif (!decide (((x0.length : Nat) : Int) = ((x1.length : Nat) : Int))) then false else (loopN (fun i1 (v1 : Unit) next => bif (!(eqEvent (x0.getD i1 default) (x1.getD i1 default))) then false else (next ())) (fun (v1 : Unit) => true) x0.length 0 ())
def D31b1 (x0 : List Event) (x1 : List Event) (i1 : Nat) (v1 : Unit) : Dl := ⟨[(5, .int .i64 ((i1 : Nat) : Int))], []⟩
def A31b1 (x0 : List Event) (x1 : List Event) (i1 : Nat) (v1 : Unit) : Ann := r0 1 [0, 1, 4, 5, 14] [] (cn (decide (((i1 : Nat) : Int) < ((x0.length : Nat) : Int))) (.reg 1 [] [(8, k73 (x0.getD i1 default) (x1.getD i1 default))] [0, 1, 4, 5, 26] [] [] [pf (0 ≤ (((i1 : Nat) : Int) : Int) ∧ (((i1 : Nat) : Int) : Int) < ((x0.length : Nat) : Int)), pf (0 ≤ (((i1 : Nat) : Int) : Int) ∧ (((i1 : Nat) : Int) : Int) < ((x1.length : Nat) : Int))] [] [0, 4, 8] (cn (!(eqEvent (x0.getD i1 default) (x1.getD i1 default))) (r0 1 [0, 1, 4, 5] [] (rt [] (C31 false))) (r1 1 [0, 1, 4, 5] [] [pf (inR .i64 (((i1 : Nat) : Int) + 1))] [0] (.next 0 [] (D31b1 x0 x1 (i1 + 1) ()))))) (r0 1 [4] [] (rt [] (C31 true))))
def A31 (x0 : List Event) (x1 : List Event) : Ann := r0 1 [0, 1, 4] [] (r0 1 [0, 1, 4, 10] [] (cn (!decide (((x0.length : Nat) : Int) = ((x1.length : Nat) : Int))) (r0 1 [0, 1, 4] [] (rt [] (C31 false))) (r0 1 [0, 1, 4, 5] [] (lp (D31b1 x0 x1) [] [] [] (D31b1 x0 x1 0 ()) (A31b1 x0 x1)))))
theorem eqEventS_self (x : List Event) : eqEventS x x = true := by
  simp only [eqEventS, decide_true, Bool.not_true, cond_false]
  exact loopN_inv (fun _ _ => True) (fun r => r = true) (fun i v next _ hn => by simp only [eqEvent_self, Bool.not_true, cond_false]; exact hn _ trivial) (fun _ _ _ => rfl) _ _ _ trivial
theorem ok_laws_eqEventS (x0 : List Event) (x1 : List Event) (hx : x0.length ≤ 1048576) : FnT Try.prog 31 [.ro false 6 x0.length (rowOf (cEvent false) x0), .ro false 6 x1.length (rowOf (cEvent false) x1)] (C31 (eqEventS x0 x1)) := by
  have aux : ∀ R, eqEventS x0 x1 = R → slim (C31 R) (A31 x0 x1) [] := by
    intro R hR
    refine rg trivial ?_
    refine rg trivial ?_
    revert hR; refine cd (fun hc1 hR => ?_) fun hc1 hR => ?_
    ·
      refine rg trivial ?_
      exact congrArg C31 hR
    ·
      refine rg trivial ?_
      revert hR; refine lN (fun i v => True) (by trivial) rfl fun i1 v1 F1 hn1 hI1 hR hK1 => ?_
      refine rg trivial ?_
      refine ⟨fun hc2 => ?_, fun hc2 => ?_⟩
      · have hii1 : i1 < x0.length := by have := of_decide_eq_true hc2; omega
        replace hR := loopN_step hR hii1
        refine rg ⟨by (intros; omega), by ((try clear hR hK1); intros; (try simp only [decide_eq_true_eq, decide_eq_false_iff_not, Bool.or_eq_true, Bool.and_eq_true, or_f_iff, not_f_iff, not_t_iff, Bool.not_eq_true', inR] at *); (repeat' apply And.intro) <;> (intros; omega)), trivial, trivial⟩ ?_
        revert hR; refine cd (fun hc3 hR => ?_) fun hc3 hR => ?_
        ·
          refine rg trivial ?_
          exact congrArg C31 hR
        ·
          refine rg ⟨by ( intros; simp only [inR]; omega), trivial⟩ ?_
          exact hK1 () hii1 (by trivial) hR
      · obtain rfl : i1 = x0.length := by have := of_decide_eq_false hc2; omega
        replace hR := loopN_end hR (Nat.lt_irrefl _)
        refine rg trivial ?_
        exact congrArg C31 hR
  exact Fn.go 27 Try.func31 (by kernel_rfl) (by kernel_rfl) (by simp [C31, Frs, FrsL]) (A31 x0 x1) (by kernel_rfl) (aux _ rfl)
def k31 (x0 : List Event) (x1 : List Event) : Cl := (hres (C31 (eqEventS x0 x1)), k1 (ok_laws_eqEventS x0 x1))
def C32 (x0 : List Event) (x1 : Int) (R : Int × (List Event)) : LV × List (Nat × BC) := (.int .i64 R.1, [(900000, .arr 6 R.2.length (rowOf (cEvent true) R.2))])
def markEventS (x0 : List Event) (x1 : Int) : Int × (List Event) := loopN (fun i1 (v1 : (List Event) × Int) next => next ((v1.1.set i1 (Event.mk v1.2 (v1.2 + 1) (markText ((v1.2 + 1) + 1)) (((v1.2 + 1) + 1) + 1) ((((v1.2 + 1) + 1) + 1) + 1) (((((v1.2 + 1) + 1) + 1) + 1) + 1))), (((((v1.2 + 1) + 1) + 1) + 1) + 1) + 1)) (fun (v1 : (List Event) × Int) => (v1.2, v1.1)) x0.length 0 (x0, x1)
def D32b1 (x0 : List Event) (x1 : Int) (i1 : Nat) (v1 : (List Event) × Int) : Dl := ⟨[(5, .int .i64 ((i1 : Nat) : Int)), (0, .own 900000), (1, .int .i64 v1.2)], [(900000, .arr 6 x0.length (rowOf (cEvent true) v1.1))]⟩
def A32b1 (x0 : List Event) (x1 : Int) (i1 : Nat) (v1 : (List Event) × Int) : Ann := r0 1 [0, 1, 4, 5, 9] [900000] (cn (decide (((i1 : Nat) : Int) < ((x0.length : Nat) : Int))) (.reg 11 [] [(5, stP 900000 (cEvent true) x0.length v1.1 v1.1 i1 0 [.int .i64 v1.2] (Event.mk v1.2 ((v1.1.getD i1 default).year) ((v1.1.getD i1 default).name) ((v1.1.getD i1 default).sex) ((v1.1.getD i1 default).a) ((v1.1.getD i1 default).b)) (v1.1.getD i1 default) (.inr ⟨rfl, rfl⟩) rfl), (2005, stP 900000 (cEvent true) x0.length v1.1 (v1.1.set i1 (Event.mk v1.2 ((v1.1.getD i1 default).year) ((v1.1.getD i1 default).name) ((v1.1.getD i1 default).sex) ((v1.1.getD i1 default).a) ((v1.1.getD i1 default).b))) i1 1 [.int .i64 (v1.2 + 1)] (Event.mk v1.2 (v1.2 + 1) ((v1.1.getD i1 default).name) ((v1.1.getD i1 default).sex) ((v1.1.getD i1 default).a) ((v1.1.getD i1 default).b)) (Event.mk v1.2 ((v1.1.getD i1 default).year) ((v1.1.getD i1 default).name) ((v1.1.getD i1 default).sex) ((v1.1.getD i1 default).a) ((v1.1.getD i1 default).b)) (.inl rfl) rfl), (4003, k74 ((v1.2 + 1) + 1)), (4006, stP 900000 (cEvent true) x0.length v1.1 (v1.1.set i1 (Event.mk v1.2 (v1.2 + 1) ((v1.1.getD i1 default).name) ((v1.1.getD i1 default).sex) ((v1.1.getD i1 default).a) ((v1.1.getD i1 default).b))) i1 2 [.str (markText ((v1.2 + 1) + 1))] (Event.mk v1.2 (v1.2 + 1) (markText ((v1.2 + 1) + 1)) ((v1.1.getD i1 default).sex) ((v1.1.getD i1 default).a) ((v1.1.getD i1 default).b)) (Event.mk v1.2 (v1.2 + 1) ((v1.1.getD i1 default).name) ((v1.1.getD i1 default).sex) ((v1.1.getD i1 default).a) ((v1.1.getD i1 default).b)) (.inl rfl) rfl), (6005, stP 900000 (cEvent true) x0.length v1.1 (v1.1.set i1 (Event.mk v1.2 (v1.2 + 1) (markText ((v1.2 + 1) + 1)) ((v1.1.getD i1 default).sex) ((v1.1.getD i1 default).a) ((v1.1.getD i1 default).b))) i1 3 [.int .i64 (((v1.2 + 1) + 1) + 1)] (Event.mk v1.2 (v1.2 + 1) (markText ((v1.2 + 1) + 1)) (((v1.2 + 1) + 1) + 1) ((v1.1.getD i1 default).a) ((v1.1.getD i1 default).b)) (Event.mk v1.2 (v1.2 + 1) (markText ((v1.2 + 1) + 1)) ((v1.1.getD i1 default).sex) ((v1.1.getD i1 default).a) ((v1.1.getD i1 default).b)) (.inl rfl) rfl), (8005, stP 900000 (cEvent true) x0.length v1.1 (v1.1.set i1 (Event.mk v1.2 (v1.2 + 1) (markText ((v1.2 + 1) + 1)) (((v1.2 + 1) + 1) + 1) ((v1.1.getD i1 default).a) ((v1.1.getD i1 default).b))) i1 4 [.int .i64 ((((v1.2 + 1) + 1) + 1) + 1)] (Event.mk v1.2 (v1.2 + 1) (markText ((v1.2 + 1) + 1)) (((v1.2 + 1) + 1) + 1) ((((v1.2 + 1) + 1) + 1) + 1) ((v1.1.getD i1 default).b)) (Event.mk v1.2 (v1.2 + 1) (markText ((v1.2 + 1) + 1)) (((v1.2 + 1) + 1) + 1) ((v1.1.getD i1 default).a) ((v1.1.getD i1 default).b)) (.inl rfl) rfl), (10005, stP 900000 (cEvent true) x0.length v1.1 (v1.1.set i1 (Event.mk v1.2 (v1.2 + 1) (markText ((v1.2 + 1) + 1)) (((v1.2 + 1) + 1) + 1) ((((v1.2 + 1) + 1) + 1) + 1) ((v1.1.getD i1 default).b))) i1 5 [.int .i64 (((((v1.2 + 1) + 1) + 1) + 1) + 1)] (Event.mk v1.2 (v1.2 + 1) (markText ((v1.2 + 1) + 1)) (((v1.2 + 1) + 1) + 1) ((((v1.2 + 1) + 1) + 1) + 1) (((((v1.2 + 1) + 1) + 1) + 1) + 1)) (Event.mk v1.2 (v1.2 + 1) (markText ((v1.2 + 1) + 1)) (((v1.2 + 1) + 1) + 1) ((((v1.2 + 1) + 1) + 1) + 1) ((v1.1.getD i1 default).b)) (.inl rfl) rfl)] [0, 1, 4, 5] [900000] [] [pf (0 ≤ (((i1 : Nat) : Int) : Int) ∧ (((i1 : Nat) : Int) : Int) < ((x0.length : Nat) : Int)), pf (inR .i64 (v1.2 + 1)), pf (inR .i64 ((v1.2 + 1) + 1)), pf (inR .i64 (((v1.2 + 1) + 1) + 1)), pf (inR .i64 ((((v1.2 + 1) + 1) + 1) + 1)), pf (inR .i64 (((((v1.2 + 1) + 1) + 1) + 1) + 1))] [] [0, 24, 4, 0, 28, 8, 32, 0, 36, 12, 0, 40, 16, 0, 44, 20, 0, 48] (r1 1 [0, 1, 4, 5] [900000] [pf (inR .i64 ((((((v1.2 + 1) + 1) + 1) + 1) + 1) + 1))] [0] (r1 1 [0, 1, 4, 5] [900000] [pf (inR .i64 (((i1 : Nat) : Int) + 1))] [0] (.next 0 [(900000, some 900000)] (D32b1 x0 x1 (i1 + 1) ((v1.1.set i1 (Event.mk v1.2 (v1.2 + 1) (markText ((v1.2 + 1) + 1)) (((v1.2 + 1) + 1) + 1) ((((v1.2 + 1) + 1) + 1) + 1) (((((v1.2 + 1) + 1) + 1) + 1) + 1))), (((((v1.2 + 1) + 1) + 1) + 1) + 1) + 1)))))) (r0 1 [4] [900000] (.co false 900000 v1.1.length (rowOf (cEvent true) v1.1) [lnP (rowOf (cEvent true) v1.1) x0.length v1.1.length] [] 0 (rt [(900000, some 900000)] (C32 x0 x1 (v1.2, v1.1))))))
def A32 (x0 : List Event) (x1 : Int) : Ann := r0 1 [0, 1, 4] [900000] (r0 1 [0, 1, 4, 5] [900000] (lp (D32b1 x0 x1) [] [] [(900000, some 900000)] (D32b1 x0 x1 0 (x0, x1)) (A32b1 x0 x1)))
theorem ok_laws_markEventS (x0 : List Event) (x1 : Int) (hx : x0.length ≤ 1048576) (hk : 0 ≤ x1 ∧ x1 ≤ 30000000) : FnMT Try.prog 32 [.own 900000, .int .i64 x1] [.arr 6 x0.length (rowOf (cEvent true) x0)] (C32 x0 x1 (markEventS x0 x1)) := by
  have aux : ∀ R, markEventS x0 x1 = R → slim (C32 x0 x1 R) (A32 x0 x1) [] := by
    intro R hR
    refine rg trivial ?_
    refine rg trivial ?_
    revert hR; refine lN (fun i v => v.1.length = x0.length ∧ v.2 = x1 + 6 * i) (by ((try clear hR); intros; (try simp only [decide_eq_true_eq, decide_eq_false_iff_not, Bool.or_eq_true, Bool.and_eq_true, or_f_iff, not_f_iff, not_t_iff, Bool.not_eq_true', inR] at *); (repeat' apply And.intro) <;> (first | (intros; omega) | (simp_all [inR]; done)))) rfl fun i1 v1 F1 hn1 hI1 hR hK1 => ?_
    refine rg trivial ?_
    refine ⟨fun hc1 => ?_, fun hc1 => ?_⟩
    · have hii1 : i1 < x0.length := by have := of_decide_eq_true hc1; omega
      replace hR := loopN_step hR hii1
      refine rg ⟨by (intros; omega), by ( intros; simp only [inR]; omega), by ( intros; simp only [inR]; omega), by ( intros; simp only [inR]; omega), by ( intros; simp only [inR]; omega), by ( intros; simp only [inR]; omega), by (intros; omega), by (intros; omega), by (intros; omega), by (intros; omega), by (intros; omega), by (intros; omega), by (intros; omega), trivial⟩ ?_
      refine rg ⟨by ( intros; simp only [inR]; omega), trivial⟩ ?_
      refine rg ⟨by ( intros; simp only [inR]; omega), trivial⟩ ?_
      exact hK1 ((v1.1.set i1 (Event.mk v1.2 (v1.2 + 1) (markText ((v1.2 + 1) + 1)) (((v1.2 + 1) + 1) + 1) ((((v1.2 + 1) + 1) + 1) + 1) (((((v1.2 + 1) + 1) + 1) + 1) + 1))), (((((v1.2 + 1) + 1) + 1) + 1) + 1) + 1) hii1 (by (simp only [List.length_set]; omega)) hR
    · obtain rfl : i1 = x0.length := by have := of_decide_eq_false hc1; omega
      replace hR := loopN_end hR (Nat.lt_irrefl _)
      refine rg trivial ?_
      refine og (by (intros; omega)) ?_
      exact congrArg (C32 x0 x1) hR
  exact FnM.go 56 Try.func32 (by kernel_rfl) (by kernel_rfl) (A32 x0 x1) (by kernel_rfl) (aux _ rfl)
def k32 (d : Nat) (ids : List Nat) (x0 : List Event) (x1 : Int) : Cl := (hresM d ids (C32 x0 x1 (markEventS x0 x1)), k2 (ok_laws_markEventS x0 x1))
def C33 (R : Int) : LV × List (Nat × BC) := (.int .i64 R, [])
def heldEventS (x0 : List Event) (x1 : Int) : Int := loopN (fun i1 (v1 : Int) next => bif (!decide (((x0.getD i1 default).kind) = v1)) then (-1) else (bif (!decide (((x0.getD i1 default).year) = (v1 + 1))) then (-1) else (bif (!(((x0.getD i1 default).name) == (markText ((v1 + 1) + 1)))) then (-1) else (bif (!decide (((x0.getD i1 default).sex) = (((v1 + 1) + 1) + 1))) then (-1) else (bif (!decide (((x0.getD i1 default).a) = ((((v1 + 1) + 1) + 1) + 1))) then (-1) else (bif (!decide (((x0.getD i1 default).b) = (((((v1 + 1) + 1) + 1) + 1) + 1))) then (-1) else (next ((((((v1 + 1) + 1) + 1) + 1) + 1) + 1)))))))) (fun (v1 : Int) => v1) x0.length 0 x1
def D33b1 (x0 : List Event) (x1 : Int) (i1 : Nat) (v1 : Int) : Dl := ⟨[(5, .int .i64 ((i1 : Nat) : Int)), (1, .int .i64 v1)], []⟩
def A33b1 (x0 : List Event) (x1 : Int) (i1 : Nat) (v1 : Int) : Ann := r0 1 [0, 1, 4, 5, 9] [] (cn (decide (((i1 : Nat) : Int) < ((x0.length : Nat) : Int))) (r1 1 [0, 1, 4, 5, 18] [] [pf (0 ≤ (((i1 : Nat) : Int) : Int) ∧ (((i1 : Nat) : Int) : Int) < ((x0.length : Nat) : Int))] [0] (cn (!decide (((x0.getD i1 default).kind) = v1)) (r0 1 [0, 1, 4, 5] [] (rt [] (C33 (-1)))) (r1 1 [0, 1, 4, 5] [] [pf (inR .i64 (v1 + 1))] [0] (r1 1 [0, 1, 4, 5, 27] [] [pf (0 ≤ (((i1 : Nat) : Int) : Int) ∧ (((i1 : Nat) : Int) : Int) < ((x0.length : Nat) : Int))] [0] (cn (!decide (((x0.getD i1 default).year) = (v1 + 1))) (r0 1 [0, 1, 4, 5] [] (rt [] (C33 (-1)))) (r1 1 [0, 1, 4, 5] [] [pf (inR .i64 ((v1 + 1) + 1))] [0] (.reg 1 [] [(6, k74 ((v1 + 1) + 1))] [0, 1, 4, 5, 37] [] [] [pf (0 ≤ (((i1 : Nat) : Int) : Int) ∧ (((i1 : Nat) : Int) : Int) < ((x0.length : Nat) : Int))] [] [0, 4] (cn (!(((x0.getD i1 default).name) == (markText ((v1 + 1) + 1)))) (r0 1 [0, 1, 4, 5] [] (rt [] (C33 (-1)))) (r1 1 [0, 1, 4, 5] [] [pf (inR .i64 (((v1 + 1) + 1) + 1))] [0] (r1 1 [0, 1, 4, 5, 46] [] [pf (0 ≤ (((i1 : Nat) : Int) : Int) ∧ (((i1 : Nat) : Int) : Int) < ((x0.length : Nat) : Int))] [0] (cn (!decide (((x0.getD i1 default).sex) = (((v1 + 1) + 1) + 1))) (r0 1 [0, 1, 4, 5] [] (rt [] (C33 (-1)))) (r1 1 [0, 1, 4, 5] [] [pf (inR .i64 ((((v1 + 1) + 1) + 1) + 1))] [0] (r1 1 [0, 1, 4, 5, 55] [] [pf (0 ≤ (((i1 : Nat) : Int) : Int) ∧ (((i1 : Nat) : Int) : Int) < ((x0.length : Nat) : Int))] [0] (cn (!decide (((x0.getD i1 default).a) = ((((v1 + 1) + 1) + 1) + 1))) (r0 1 [0, 1, 4, 5] [] (rt [] (C33 (-1)))) (r1 1 [0, 1, 4, 5] [] [pf (inR .i64 (((((v1 + 1) + 1) + 1) + 1) + 1))] [0] (r1 1 [0, 1, 4, 5, 64] [] [pf (0 ≤ (((i1 : Nat) : Int) : Int) ∧ (((i1 : Nat) : Int) : Int) < ((x0.length : Nat) : Int))] [0] (cn (!decide (((x0.getD i1 default).b) = (((((v1 + 1) + 1) + 1) + 1) + 1))) (r0 1 [0, 1, 4, 5] [] (rt [] (C33 (-1)))) (r1 1 [0, 1, 4, 5] [] [pf (inR .i64 ((((((v1 + 1) + 1) + 1) + 1) + 1) + 1))] [0] (r1 1 [0, 1, 4, 5] [] [pf (inR .i64 (((i1 : Nat) : Int) + 1))] [0] (.next 0 [] (D33b1 x0 x1 (i1 + 1) ((((((v1 + 1) + 1) + 1) + 1) + 1) + 1)))))))))))))))))))))) (r0 1 [4] [] (rt [] (C33 v1))))
def A33 (x0 : List Event) (x1 : Int) : Ann := r0 1 [0, 1, 4] [] (r0 1 [0, 1, 4, 5] [] (lp (D33b1 x0 x1) [] [] [] (D33b1 x0 x1 0 x1) (A33b1 x0 x1)))
theorem ok_laws_heldEventS (x0 : List Event) (x1 : Int) (hx : x0.length ≤ 1048576) (hk : 0 ≤ x1 ∧ x1 ≤ 30000000) : FnT Try.prog 33 [.ro false 6 x0.length (rowOf (cEvent false) x0), .int .i64 x1] (C33 (heldEventS x0 x1)) := by
  have aux : ∀ R, heldEventS x0 x1 = R → slim (C33 R) (A33 x0 x1) [] := by
    intro R hR
    refine rg trivial ?_
    refine rg trivial ?_
    revert hR; refine lN (fun i v => v = x1 + 6 * i) (by (intros; omega)) rfl fun i1 v1 F1 hn1 hI1 hR hK1 => ?_
    refine rg trivial ?_
    refine ⟨fun hc1 => ?_, fun hc1 => ?_⟩
    · have hii1 : i1 < x0.length := by have := of_decide_eq_true hc1; omega
      replace hR := loopN_step hR hii1
      refine rg ⟨by (intros; omega), trivial⟩ ?_
      revert hR; refine cd (fun hc2 hR => ?_) fun hc2 hR => ?_
      ·
        refine rg trivial ?_
        exact congrArg C33 hR
      ·
        refine rg ⟨by ( intros; simp only [inR]; omega), trivial⟩ ?_
        refine rg ⟨by (intros; omega), trivial⟩ ?_
        revert hR; refine cd (fun hc3 hR => ?_) fun hc3 hR => ?_
        ·
          refine rg trivial ?_
          exact congrArg C33 hR
        ·
          refine rg ⟨by ( intros; simp only [inR]; omega), trivial⟩ ?_
          refine rg ⟨by (intros; omega), by (intros; omega), trivial⟩ ?_
          revert hR; refine cd (fun hc4 hR => ?_) fun hc4 hR => ?_
          ·
            refine rg trivial ?_
            exact congrArg C33 hR
          ·
            refine rg ⟨by ( intros; simp only [inR]; omega), trivial⟩ ?_
            refine rg ⟨by (intros; omega), trivial⟩ ?_
            revert hR; refine cd (fun hc5 hR => ?_) fun hc5 hR => ?_
            ·
              refine rg trivial ?_
              exact congrArg C33 hR
            ·
              refine rg ⟨by ( intros; simp only [inR]; omega), trivial⟩ ?_
              refine rg ⟨by (intros; omega), trivial⟩ ?_
              revert hR; refine cd (fun hc6 hR => ?_) fun hc6 hR => ?_
              ·
                refine rg trivial ?_
                exact congrArg C33 hR
              ·
                refine rg ⟨by ( intros; simp only [inR]; omega), trivial⟩ ?_
                refine rg ⟨by (intros; omega), trivial⟩ ?_
                revert hR; refine cd (fun hc7 hR => ?_) fun hc7 hR => ?_
                ·
                  refine rg trivial ?_
                  exact congrArg C33 hR
                ·
                  refine rg ⟨by ( intros; simp only [inR]; omega), trivial⟩ ?_
                  refine rg ⟨by ( intros; simp only [inR]; omega), trivial⟩ ?_
                  exact hK1 ((((((v1 + 1) + 1) + 1) + 1) + 1) + 1) hii1 (by (intros; omega)) hR
    · obtain rfl : i1 = x0.length := by have := of_decide_eq_false hc1; omega
      replace hR := loopN_end hR (Nat.lt_irrefl _)
      refine rg trivial ?_
      exact congrArg C33 hR
  exact Fn.go 68 Try.func33 (by kernel_rfl) (by kernel_rfl) (by simp [C33, Frs, FrsL]) (A33 x0 x1) (by kernel_rfl) (aux _ rfl)
def k33 (x0 : List Event) (x1 : Int) : Cl := (hres (C33 (heldEventS x0 x1)), k2 (ok_laws_heldEventS x0 x1))
theorem markEventS_get (l : List Event) (k : Int) : (markEventS l k).2.length = l.length ∧ ∀ i : Nat, i < l.length → (markEventS l k).2.getD i default = ⟨k + 6 * i, k + 6 * i + 1, markText (k + 6 * i + 2), k + 6 * i + 3, k + 6 * i + 4, k + 6 * i + 5⟩ := by
  unfold markEventS
  refine loopN_to (fun i (v : List Event × Int) => v.1.length = l.length ∧ v.2 = k + 6 * i ∧ ∀ j : Nat, j < i → v.1.getD j default = ⟨k + 6 * j, k + 6 * j + 1, markText (k + 6 * j + 2), k + 6 * j + 3, k + 6 * j + 4, k + 6 * j + 5⟩)
    (fun (r : Int × List Event) => r.2.length = l.length ∧ ∀ i : Nat, i < l.length → r.2.getD i default = ⟨k + 6 * i, k + 6 * i + 1, markText (k + 6 * i + 2), k + 6 * i + 3, k + 6 * i + 4, k + 6 * i + 5⟩) ⟨rfl, by simp, fun j hj => absurd hj (Nat.not_lt_zero _)⟩ (fun i v next hi hv hn => hn _ ⟨by simp [hv.1], by rw [hv.2.1]; simp only; omega, fun j hj => ?_⟩) (fun v hv => ⟨hv.1, hv.2.2⟩)
  rw [getD_set]
  split
  · rename_i e
    have e2 : k + 6 * (i : Int) + 1 + 1 = k + 6 * i + 2 := by omega
    rw [e.1, hv.2.1, Event.mk.injEq, e2]
    exact ⟨rfl, by omega, rfl, by omega, by omega, by omega⟩
  · rename_i e; exact hv.2.2 j (by have := hv.1; omega)
theorem markEventS_val (l : List Event) (k : Int) : (markEventS l k).1 = k + 6 * l.length := by
  unfold markEventS
  exact loopN_to (fun i (v : List Event × Int) => v.2 = k + 6 * i) (fun (r : Int × List Event) => r.1 = k + 6 * l.length) (by simp) (fun i v next hi hv hn => hn _ (by rw [hv]; simp only; omega)) (fun v hv => hv)
theorem held_events (l : List Event) (k : Int) : heldEventS (markEventS l k).2 k = (markEventS l k).1 := by
  rw [markEventS_val]
  obtain ⟨h1, h2⟩ := markEventS_get l k
  unfold heldEventS
  rw [h1]
  refine loopN_to (fun i (v : Int) => v = k + 6 * i) (fun (r : Int) => r = k + 6 * l.length) (by simp) (fun i v next hi hv hn => ?_) (fun v hv => hv)
  subst hv
  rw [h2 i hi]
  have e2 : k + 6 * (i : Int) + 1 + 1 = k + 6 * i + 2 := by omega
  have e3 : k + 6 * (i : Int) + 2 + 1 = k + 6 * i + 3 := by omega
  have e4 : k + 6 * (i : Int) + 3 + 1 = k + 6 * i + 4 := by omega
  have e5 : k + 6 * (i : Int) + 4 + 1 = k + 6 * i + 5 := by omega
  simp only [e2, e3, e4, e5, decide_true, Bool.not_true, cond_false, BEq.rfl]
  exact hn _ (by omega)
end Go.Proofs.Ytepefimocflfkaa
