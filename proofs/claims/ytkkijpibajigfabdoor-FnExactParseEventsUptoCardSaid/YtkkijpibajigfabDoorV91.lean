import Derived.Test.YtkkijpibajigfabDoorV90
set_option maxHeartbeats 4000000
set_option linter.unusedSimpArgs false
set_option linter.unusedVariables false
namespace Go.Proofs.YtkkijpibajigfabDoor
open Go Go.Lite Go.Proofs
def C47 (R : Int) : LV × List (Nat × BC) := (.int .i64 R, [])
def l11Union (x0 : Family) (x1 : Int) (x2 : Int) : Int := loopN (fun i1 (v1 : Unit) next => bif ((decide (((x0.unions.getD i1 default).man) = x1)) && (decide (((x0.unions.getD i1 default).woman) = x2))) then ((i1 : Nat) : Int) else (next ())) (fun (v1 : Unit) => (-1)) x0.unions.length 0 ()
def D47b1 (x0 : Family) (x1 : Int) (x2 : Int) (i1 : Nat) (v1 : Unit) : Dl := ⟨[(12, .int .i64 ((i1 : Nat) : Int))], []⟩
def A47b1 (x0 : Family) (x1 : Int) (x2 : Int) (i1 : Nat) (v1 : Unit) : Ann := r0 1 [1, 2, 6, 10, 11, 12, 13] [] (cn (decide (((i1 : Nat) : Int) < ((x0.unions.length : Nat) : Int))) (.reg 2 [] [] [1, 2, 6, 7, 10, 11, 12, 26] [] [decide (((x0.unions.getD i1 default).man) = x1)] [pf (0 ≤ (((i1 : Nat) : Int) : Int) ∧ (((i1 : Nat) : Int) : Int) < ((x0.unions.length : Nat) : Int))] [] [0, 1, 1, 1, 1] (cn ((decide (((x0.unions.getD i1 default).man) = x1)) && (decide (((x0.unions.getD i1 default).woman) = x2))) (r0 1 [1, 2, 6, 10, 11, 12] [] (rt [] (C47 ((i1 : Nat) : Int)))) (r1 1 [1, 2, 6, 10, 11, 12] [] [pf (inR .i64 (((i1 : Nat) : Int) + 1))] [0] (.next 0 [] (D47b1 x0 x1 x2 (i1 + 1) ()))))) (r0 1 [6] [] (rt [] (C47 (-1)))))
def A47 (x0 : Family) (x1 : Int) (x2 : Int) : Ann := r0 1 [1, 2, 3, 6] [3] (r0 1 [1, 2, 6, 10, 11, 12] [] (lp (D47b1 x0 x1 x2) [] [] [] (D47b1 x0 x1 x2 0 ()) (A47b1 x0 x1 x2)))
theorem l11Union_rng (x : Family) (a b : Int) : -1 ≤ l11Union x a b ∧ l11Union x a b < x.unions.length := by
  unfold l11Union
  exact loopN_to (fun i (v : Unit) => True) (fun (r : Int) => -1 ≤ r ∧ r < x.unions.length) trivial (fun i v next hi hv hn => cond_both (p := fun (r : Int) => -1 ≤ r ∧ r < x.unions.length) (fun _ => by omega) (fun _ => hn _ trivial)) (fun v hv => by omega)
theorem ok_spec_l11Union (x0 : Family) (x1 : Int) (x2 : Int) (hx : x0.people.length ≤ 1048576) (hu : x0.unions.length ≤ 1048576) : FnT Tryd.prog 47 [.agg (cFamily false x0), .int .i64 x1, .int .i64 x2] (C47 (l11Union x0 x1 x2)) := by
  have aux : ∀ R, l11Union x0 x1 x2 = R → slim (C47 R) (A47 x0 x1 x2) [] := by
    intro R hR
    refine rg trivial ?_
    refine rg trivial ?_
    revert hR; refine lN (fun i v => True) (by trivial) rfl fun i1 v1 F1 hn1 hI1 hR hK1 => ?_
    refine rg trivial ?_
    refine ⟨fun hc1 => ?_, fun hc1 => ?_⟩
    · have hii1 : i1 < x0.unions.length := by have := of_decide_eq_true hc1; omega
      replace hR := loopN_step hR hii1
      refine rg ⟨by (intros; omega), trivial⟩ ?_
      revert hR; refine cd (fun hc2 hR => ?_) fun hc2 hR => ?_
      ·
        refine rg trivial ?_
        exact congrArg C47 hR
      ·
        refine rg ⟨by ( intros; simp only [inR]; omega), trivial⟩ ?_
        exact hK1 () hii1 (by trivial) hR
    · obtain rfl : i1 = x0.unions.length := by have := of_decide_eq_false hc1; omega
      replace hR := loopN_end hR (Nat.lt_irrefl _)
      refine rg trivial ?_
      exact congrArg C47 hR
  exact Fn.go 29 Tryd.func47 (by kernel_rfl) (by kernel_rfl) (by simp [C47, Frs, FrsL]) (A47 x0 x1 x2) (by kernel_rfl) (aux _ rfl)
def k47 (x0 : Family) (x1 : Int) (x2 : Int) : Cl := (hres (C47 (l11Union x0 x1 x2)), k2 (ok_spec_l11Union x0 x1 x2))
def C31 (x0 : Family) (x1 : Event) (R : Family × Bool) : LV × List (Nat × BC) := (.tup [.agg [.own 0, .own 1], .bool R.2], [(0, .arr 6 R.1.people.length (rowOf (cPerson true) R.1.people)), (1, .arr 4 R.1.unions.length (rowOf (cUnion true) R.1.unions))])
def l11Do (x0 : Family) (x1 : Event) : Family × Bool := bif ((!decide (x1.kind = 1)) && (((!(x1.name == ([] : List UInt8))) || (!decide (x1.sex = 0))) || (!(l1In x1.a 0 (((x0.people.length : Nat) : Int) - 1))))) then (x0, false) else (bif (decide (x1.kind = 1)) then ((Family.mk (x0.people ++ [(Person.mk x1.name x1.sex x1.a x1.b x1.year (-1))]) x0.unions), decide (((x0.people.length : Nat) : Int) < 40)) else (bif (decide (x1.kind = 2)) then ((Family.mk x0.people (x0.unions ++ [(Union.mk x1.a x1.b x1.year (-1))])), (l1In x1.b 0 (((x0.people.length : Nat) : Int) - 1)) && (decide ((((x0.unions ++ [(Union.mk x1.a x1.b x1.year (-1))]).length : Nat) : Int) ≤ 60))) else (bif (decide (x1.kind = 3)) then (bif ((decide ((l11Union x0 x1.a x1.b) < 0)) || (!decide (((x0.unions.getD ((l11Union x0 x1.a x1.b).toNat) default).to) = (-1)))) then (x0, false) else ((Family.mk x0.people (x0.unions.set ((l11Union x0 x1.a x1.b).toNat) (Union.mk ((x0.unions.getD ((l11Union x0 x1.a x1.b).toNat) default).man) ((x0.unions.getD ((l11Union x0 x1.a x1.b).toNat) default).woman) ((x0.unions.getD ((l11Union x0 x1.a x1.b).toNat) default).from0) x1.year))), true)) else (bif (decide (x1.kind = 4)) then (bif ((!decide (x1.b = 0)) || (!decide (((x0.people.getD x1.a.toNat default).died) = (-1)))) then (x0, false) else ((Family.mk (x0.people.set x1.a.toNat (Person.mk ((x0.people.getD x1.a.toNat default).name) ((x0.people.getD x1.a.toNat default).sex) ((x0.people.getD x1.a.toNat default).father) ((x0.people.getD x1.a.toNat default).mother) ((x0.people.getD x1.a.toNat default).born) x1.year)) x0.unions), true)) else (x0, false)))))
def A31 (x0 : Family) (x1 : Event) : Ann := r0 2 [2, 3, 4, 5, 6] [2, 3, 4, 900000, 900001] (.reg 1 [] [(17, cg ((!decide (x1.kind = 1)) && (!((!(x1.name == ([] : List UInt8))) || (!decide (x1.sex = 0))))) (k46 x1.a 0 (((x0.people.length : Nat) : Int) - 1)))] [2, 3, 4, 5, 6, 31] [2, 3, 4, 900000, 900001] [!decide (x1.kind = 1), (!decide (x1.kind = 1)) && (!(!(x1.name == ([] : List UInt8)))), (!decide (x1.kind = 1)) && (!((!(x1.name == ([] : List UInt8))) || (!decide (x1.sex = 0))))] [gt (!decide (x1.kind = 1)) (gf (!(x1.name == ([] : List UInt8))) (pf (((!decide (x1.kind = 1)) && (!(!(x1.name == ([] : List UInt8))))) = true))), gt ((!decide (x1.kind = 1)) && (!((!(x1.name == ([] : List UInt8))) || (!decide (x1.sex = 0))))) (pf (inR .i64 (((x0.people.length : Nat) : Int) - 1))), gt (!decide (x1.kind = 1)) (gf ((!(x1.name == ([] : List UInt8))) || (!decide (x1.sex = 0))) (pf (((!decide (x1.kind = 1)) && (!((!(x1.name == ([] : List UInt8))) || (!decide (x1.sex = 0))))) = true)))] [] [1, 1, 1, 5, 5, 1, 0, 1, 9, 9, 4, 9, 9, 12, 9, 1, 8, 1] (cn ((!decide (x1.kind = 1)) && (((!(x1.name == ([] : List UInt8))) || (!decide (x1.sex = 0))) || (!(l1In x1.a 0 (((x0.people.length : Nat) : Int) - 1))))) (r0 1 [2, 3, 4, 5, 6] [2, 3, 4, 900000, 900001] (rt [(0, some 900000), (1, some 900001)] (C31 x0 x1 (x0, false)))) (r0 1 [2, 3, 4, 5, 6, 34] [2, 3, 4, 900000, 900001] (r0 1 [2, 3, 4, 5, 6, 34, 35] [2, 3, 4, 900000, 900001] (cn (decide (x1.kind = 1)) (.reg 2 [] [(13, bsC 50 (cPerson true) ([(Person.mk x1.name x1.sex x1.a x1.b x1.year (-1))] : List Person)), (14, ap1 51 (cPerson true) 56 x0.people (Person.mk x1.name x1.sex x1.a x1.b x1.year (-1)))] [2, 4, 5] [2, 4, 51, 900001] [] [] [] [0, 4] (rt [(0, some 51), (1, some 900001)] (C31 x0 x1 ((Family.mk (x0.people ++ [(Person.mk x1.name x1.sex x1.a x1.b x1.year (-1))]) x0.unions), decide (((x0.people.length : Nat) : Int) < 40))))) (r0 1 [2, 3, 4, 5, 6, 34, 56] [2, 3, 4, 900000, 900001] (cn (decide (x1.kind = 2)) (.reg 2 [] [(9, bsC 67 (cUnion true) ([(Union.mk x1.a x1.b x1.year (-1))] : List Union)), (10, ap1 68 (cUnion true) 32 x0.unions (Union.mk x1.a x1.b x1.year (-1))), (1005, k46 x1.b 0 (((x0.people.length : Nat) : Int) - 1))] [2, 4, 5] [2, 4, 68, 900000] [l1In x1.b 0 (((x0.people.length : Nat) : Int) - 1)] [pf (inR .i64 (((x0.people.length : Nat) : Int) - 1))] [] [4, 8, 0, 12, 1, 1, 1, 1] (rt [(0, some 900000), (1, some 68)] (C31 x0 x1 ((Family.mk x0.people (x0.unions ++ [(Union.mk x1.a x1.b x1.year (-1))])), (l1In x1.b 0 (((x0.people.length : Nat) : Int) - 1)) && (decide ((((x0.unions ++ [(Union.mk x1.a x1.b x1.year (-1))]).length : Nat) : Int) ≤ 60)))))) (r0 1 [2, 3, 4, 5, 34, 82] [2, 3, 4, 900000, 900001] (cn (decide (x1.kind = 3)) (.reg 1 [] [(5, k47 x0 x1.a x1.b)] [2, 3, 4, 5, 7] [2, 3, 4, 900000, 900001] [] [] [] [0] (.reg 1 [] [] [2, 3, 4, 5, 7, 100] [2, 3, 4, 900000, 900001] [!(decide ((l11Union x0 x1.a x1.b) < 0)), decide ((l11Union x0 x1.a x1.b) < 0)] [gt (!(decide ((l11Union x0 x1.a x1.b) < 0))) (pf (0 ≤ (l11Union x0 x1.a x1.b : Int) ∧ (l11Union x0 x1.a x1.b : Int) < ((x0.unions.length : Nat) : Int)))] [] [1, 1, 1, 0, 1, 1, 1, 6] (cn ((decide ((l11Union x0 x1.a x1.b) < 0)) || (!decide (((x0.unions.getD ((l11Union x0 x1.a x1.b).toNat) default).to) = (-1)))) (r0 1 [2, 3, 4, 5, 7] [2, 3, 4, 900000, 900001] (rt [(0, some 900000), (1, some 900001)] (C31 x0 x1 (x0, false)))) (.reg 2 [] [(7, stP 900001 (cUnion true) x0.unions.length x0.unions x0.unions ((l11Union x0 x1.a x1.b).toNat) 3 [.int .i64 x1.year] (Union.mk ((x0.unions.getD ((l11Union x0 x1.a x1.b).toNat) default).man) ((x0.unions.getD ((l11Union x0 x1.a x1.b).toNat) default).woman) ((x0.unions.getD ((l11Union x0 x1.a x1.b).toNat) default).from0) x1.year) (x0.unions.getD ((l11Union x0 x1.a x1.b).toNat) default) (.inr ⟨rfl, rfl⟩) rfl)] [2, 4, 5] [2, 4, 900000, 900001] [] [pf (0 ≤ (l11Union x0 x1.a x1.b : Int) ∧ (l11Union x0 x1.a x1.b : Int) < ((x0.unions.length : Nat) : Int))] [] [0, 4] (.co false 900001 ((x0.unions.set ((l11Union x0 x1.a x1.b).toNat) (Union.mk ((x0.unions.getD ((l11Union x0 x1.a x1.b).toNat) default).man) ((x0.unions.getD ((l11Union x0 x1.a x1.b).toNat) default).woman) ((x0.unions.getD ((l11Union x0 x1.a x1.b).toNat) default).from0) x1.year)).length) (rowOf (cUnion true) (x0.unions.set ((l11Union x0 x1.a x1.b).toNat) (Union.mk ((x0.unions.getD ((l11Union x0 x1.a x1.b).toNat) default).man) ((x0.unions.getD ((l11Union x0 x1.a x1.b).toNat) default).woman) ((x0.unions.getD ((l11Union x0 x1.a x1.b).toNat) default).from0) x1.year))) [lnP (rowOf (cUnion true) (x0.unions.set ((l11Union x0 x1.a x1.b).toNat) (Union.mk ((x0.unions.getD ((l11Union x0 x1.a x1.b).toNat) default).man) ((x0.unions.getD ((l11Union x0 x1.a x1.b).toNat) default).woman) ((x0.unions.getD ((l11Union x0 x1.a x1.b).toNat) default).from0) x1.year))) x0.unions.length ((x0.unions.set ((l11Union x0 x1.a x1.b).toNat) (Union.mk ((x0.unions.getD ((l11Union x0 x1.a x1.b).toNat) default).man) ((x0.unions.getD ((l11Union x0 x1.a x1.b).toNat) default).woman) ((x0.unions.getD ((l11Union x0 x1.a x1.b).toNat) default).from0) x1.year)).length)] [] 0 (rt [(0, some 900000), (1, some 900001)] (C31 x0 x1 ((Family.mk x0.people (x0.unions.set ((l11Union x0 x1.a x1.b).toNat) (Union.mk ((x0.unions.getD ((l11Union x0 x1.a x1.b).toNat) default).man) ((x0.unions.getD ((l11Union x0 x1.a x1.b).toNat) default).woman) ((x0.unions.getD ((l11Union x0 x1.a x1.b).toNat) default).from0) x1.year))), true)))))))) (r0 1 [2, 3, 4, 5, 110] [2, 3, 4, 900000, 900001] (cn (decide (x1.kind = 4)) (.reg 1 [] [] [2, 3, 4, 5, 124] [2, 3, 4, 900000, 900001] [!(!decide (x1.b = 0)), !decide (x1.b = 0)] [gt (!(!decide (x1.b = 0))) (pf (0 ≤ (x1.a : Int) ∧ (x1.a : Int) < ((x0.people.length : Nat) : Int)))] [] [1, 1, 1, 1, 0, 1, 1, 1, 6] (cn ((!decide (x1.b = 0)) || (!decide (((x0.people.getD x1.a.toNat default).died) = (-1)))) (r0 1 [2, 3, 4, 5] [2, 3, 4, 900000, 900001] (rt [(0, some 900000), (1, some 900001)] (C31 x0 x1 (x0, false)))) (.reg 2 [] [(8, stP 900000 (cPerson true) x0.people.length x0.people x0.people x1.a.toNat 5 [.int .i64 x1.year] (Person.mk ((x0.people.getD x1.a.toNat default).name) ((x0.people.getD x1.a.toNat default).sex) ((x0.people.getD x1.a.toNat default).father) ((x0.people.getD x1.a.toNat default).mother) ((x0.people.getD x1.a.toNat default).born) x1.year) (x0.people.getD x1.a.toNat default) (.inr ⟨rfl, rfl⟩) rfl)] [2, 4, 5] [2, 4, 900000, 900001] [] [pf (0 ≤ (x1.a : Int) ∧ (x1.a : Int) < ((x0.people.length : Nat) : Int))] [] [0, 4] (.co false 900000 ((x0.people.set x1.a.toNat (Person.mk ((x0.people.getD x1.a.toNat default).name) ((x0.people.getD x1.a.toNat default).sex) ((x0.people.getD x1.a.toNat default).father) ((x0.people.getD x1.a.toNat default).mother) ((x0.people.getD x1.a.toNat default).born) x1.year)).length) (rowOf (cPerson true) (x0.people.set x1.a.toNat (Person.mk ((x0.people.getD x1.a.toNat default).name) ((x0.people.getD x1.a.toNat default).sex) ((x0.people.getD x1.a.toNat default).father) ((x0.people.getD x1.a.toNat default).mother) ((x0.people.getD x1.a.toNat default).born) x1.year))) [lnP (rowOf (cPerson true) (x0.people.set x1.a.toNat (Person.mk ((x0.people.getD x1.a.toNat default).name) ((x0.people.getD x1.a.toNat default).sex) ((x0.people.getD x1.a.toNat default).father) ((x0.people.getD x1.a.toNat default).mother) ((x0.people.getD x1.a.toNat default).born) x1.year))) x0.people.length ((x0.people.set x1.a.toNat (Person.mk ((x0.people.getD x1.a.toNat default).name) ((x0.people.getD x1.a.toNat default).sex) ((x0.people.getD x1.a.toNat default).father) ((x0.people.getD x1.a.toNat default).mother) ((x0.people.getD x1.a.toNat default).born) x1.year)).length)] [] 0 (rt [(0, some 900000), (1, some 900001)] (C31 x0 x1 ((Family.mk (x0.people.set x1.a.toNat (Person.mk ((x0.people.getD x1.a.toNat default).name) ((x0.people.getD x1.a.toNat default).sex) ((x0.people.getD x1.a.toNat default).father) ((x0.people.getD x1.a.toNat default).mother) ((x0.people.getD x1.a.toNat default).born) x1.year)) x0.unions), true))))))) (r0 1 [4, 5] [4, 900000, 900001] (rt [(0, some 900000), (1, some 900001)] (C31 x0 x1 (x0, false)))))))))))))))
theorem ok_spec_l11Do (x0 : Family) (x1 : Event) (hx : x0.people.length ≤ 1048576) (hu : x0.unions.length ≤ 1048576) : FnMT Tryd.prog 31 [.agg [.own 900000, .own 900001], .agg (cEvent false x1)] [.arr 6 x0.people.length (rowOf (cPerson true) x0.people), .arr 4 x0.unions.length (rowOf (cUnion true) x0.unions)] (C31 x0 x1 (l11Do x0 x1)) := by
  have aux : ∀ R, l11Do x0 x1 = R → slim (C31 x0 x1 R) (A31 x0 x1) [] := by
    intro R hR
    refine rg trivial ?_
    refine rg ⟨by ((try clear hR); intros; (try simp only [decide_eq_true_eq, decide_eq_false_iff_not, Bool.or_eq_true, Bool.and_eq_true, or_f_iff, not_f_iff, not_t_iff, Bool.not_eq_true', inR] at *); (repeat' apply And.intro) <;> (intros; omega)), by ( intros; simp only [inR]; omega), by ((try clear hR); intros; (try simp only [decide_eq_true_eq, decide_eq_false_iff_not, Bool.or_eq_true, Bool.and_eq_true, or_f_iff, not_f_iff, not_t_iff, Bool.not_eq_true', inR] at *); (repeat' apply And.intro) <;> (first | (intros; omega) | (simp_all [inR]; done))), fun hg0 => trivial, trivial⟩ ?_
    revert hR; refine cd (fun hc1 hR => ?_) fun hc1 hR => ?_
    ·
      refine rg trivial ?_
      exact congrArg (C31 x0 x1) hR
    ·
      refine rg trivial ?_
      refine rg trivial ?_
      revert hR; refine cd (fun hc2 hR => ?_) fun hc2 hR => ?_
      ·
        refine rg ⟨trivial, by omega, trivial⟩ ?_
        exact congrArg (C31 x0 x1) hR
      ·
        refine rg trivial ?_
        revert hR; refine cd (fun hc3 hR => ?_) fun hc3 hR => ?_
        ·
          refine rg ⟨by ( intros; simp only [inR]; omega), trivial, by omega, trivial, trivial⟩ ?_
          exact congrArg (C31 x0 x1) hR
        ·
          refine rg trivial ?_
          revert hR; refine cd (fun hc4 hR => ?_) fun hc4 hR => ?_
          ·
            refine rg ⟨⟨by trivial, by trivial⟩, trivial⟩ ?_
            have hp1 := l11Union_rng x0 x1.a x1.b
            refine rg ⟨by ((try clear hR); simp only [Bool.and_eq_false_imp, Bool.and_eq_false_iff, or_f_iff, not_f_iff, not_t_iff, l1In, Bool.and_eq_true, decide_eq_true_eq, decide_eq_false_iff_not] at *; omega), trivial⟩ ?_
            revert hR; refine cd (fun hc5 hR => ?_) fun hc5 hR => ?_
            ·
              refine rg trivial ?_
              exact congrArg (C31 x0 x1) hR
            ·
              refine rg ⟨by ((try clear hR); simp only [Bool.and_eq_false_imp, Bool.and_eq_false_iff, or_f_iff, not_f_iff, not_t_iff, l1In, Bool.and_eq_true, decide_eq_true_eq, decide_eq_false_iff_not] at *; omega), by ((try clear hR); simp only [Bool.and_eq_false_imp, Bool.and_eq_false_iff, or_f_iff, not_f_iff, not_t_iff, l1In, Bool.and_eq_true, decide_eq_true_eq, decide_eq_false_iff_not] at *; omega), trivial⟩ ?_
              refine og (by (simp; done)) ?_
              exact congrArg (C31 x0 x1) hR
          ·
            refine rg trivial ?_
            revert hR; refine cd (fun hc6 hR => ?_) fun hc6 hR => ?_
            ·
              refine rg ⟨by ((try clear hR); simp only [Bool.and_eq_false_imp, Bool.and_eq_false_iff, or_f_iff, not_f_iff, not_t_iff, l1In, Bool.and_eq_true, decide_eq_true_eq, decide_eq_false_iff_not] at *; omega), trivial⟩ ?_
              revert hR; refine cd (fun hc7 hR => ?_) fun hc7 hR => ?_
              ·
                refine rg trivial ?_
                exact congrArg (C31 x0 x1) hR
              ·
                refine rg ⟨by ((try clear hR); simp only [Bool.and_eq_false_imp, Bool.and_eq_false_iff, or_f_iff, not_f_iff, not_t_iff, l1In, Bool.and_eq_true, decide_eq_true_eq, decide_eq_false_iff_not] at *; omega), by ((try clear hR); simp only [Bool.and_eq_false_imp, Bool.and_eq_false_iff, or_f_iff, not_f_iff, not_t_iff, l1In, Bool.and_eq_true, decide_eq_true_eq, decide_eq_false_iff_not] at *; omega), trivial⟩ ?_
                refine og (by (simp; done)) ?_
                exact congrArg (C31 x0 x1) hR
            ·
              refine rg trivial ?_
              exact congrArg (C31 x0 x1) hR
  exact FnM.go 136 Tryd.func31 (by kernel_rfl) (by kernel_rfl) (A31 x0 x1) (by kernel_rfl) (aux _ rfl)
def k31 (d : Nat) (ids : List Nat) (x0 : Family) (x1 : Event) : Cl := (hresM d ids (C31 x0 x1 (l11Do x0 x1)), k2 (ok_spec_l11Do x0 x1))
def C51 (R : Bool) : LV × List (Nat × BC) := (.bool R, [])
def happenBorn (x0 : Int) (x1 : Family) : Bool := (decide (0 ≤ x0)) && (decide (x0 < ((x1.people.length : Nat) : Int)))
def A51 (x0 : Int) (x1 : Family) : Ann := .reg 2 [] [] [3] [] [decide (0 ≤ x0)] [] [] [1, 1, 1, 1, 1, 1, 1] (rt [] (C51 ((decide (0 ≤ x0)) && (decide (x0 < ((x1.people.length : Nat) : Int))))))
theorem ok_impl_happen_1 (x0 : Int) (x1 : Family) (hx : x1.people.length ≤ 1048576) : FnT Tryd.prog 51 [.int .i64 x0, .ep [.ep [.ro false 6 x1.people.length (rowOf (cPerson false) x1.people), .ro false 4 x1.unions.length (rowOf (cUnion false) x1.unions)] 0] 0] (C51 (happenBorn x0 x1)) := by
  have aux : ∀ R, happenBorn x0 x1 = R → slim (C51 R) (A51 x0 x1) [] := by
    intro R hR
    refine rg trivial ?_
    exact congrArg C51 hR
  exact Fn.go 15 Tryd.func51 (by kernel_rfl) (by kernel_rfl) (by simp [C51, Frs, FrsL]) (A51 x0 x1) (by kernel_rfl) (aux _ rfl)
def k51 (x0 : Int) (x1 : Family) : Cl := (hres (C51 (happenBorn x0 x1)), k1 (ok_impl_happen_1 x0 x1))
def C33 (x0 : Family) (x1 : Event) (R : Bool × (List Person) × (List Union)) : LV × List (Nat × BC) := (.bool R.1, [(900000, .var [.own 0, .own 1]), (0, .arr 6 R.2.1.length (rowOf (cPerson true) R.2.1)), (1, .arr 4 R.2.2.length (rowOf (cUnion true) R.2.2))])
def happen (x0 : Family) (x1 : Event) : Bool × (List Person) × (List Union) := bif ((!decide (x1.kind = 1)) && ((!(x1.name == ([] : List UInt8))) || (!decide (x1.sex = 0)))) then (false, x0.people, x0.unions) else (bif (decide (x1.kind = 1)) then (true, (x0.people ++ [(Person.mk x1.name x1.sex x1.a x1.b x1.year (-1))]), x0.unions) else (bif (decide (x1.kind = 2)) then (bif ((!(happenBorn x1.a x0)) || (!(happenBorn x1.b x0))) then (false, x0.people, x0.unions) else (true, x0.people, (x0.unions ++ [(Union.mk x1.a x1.b x1.year (-1))]))) else (bif (decide (x1.kind = 3)) then (bif ((!(happenBorn x1.a x0)) || (!(happenBorn x1.b x0))) then (false, x0.people, x0.unions) else (loopN (fun i1 (v1 : Unit) next => bif ((decide (((x0.unions.getD i1 default).man) = x1.a)) && (decide (((x0.unions.getD i1 default).woman) = x1.b))) then (bif (!decide (((x0.unions.getD i1 default).to) = (-1))) then (false, x0.people, x0.unions) else (true, x0.people, (x0.unions.set i1 (Union.mk ((x0.unions.getD i1 default).man) ((x0.unions.getD i1 default).woman) ((x0.unions.getD i1 default).from0) x1.year)))) else (next ())) (fun (v1 : Unit) => (false, x0.people, x0.unions)) x0.unions.length 0 ())) else (bif (decide (x1.kind = 4)) then (bif (((!(happenBorn x1.a x0)) || (!decide (x1.b = 0))) || (!decide (((x0.people.getD x1.a.toNat default).died) = (-1)))) then (false, x0.people, x0.unions) else (true, (x0.people.set x1.a.toNat (Person.mk ((x0.people.getD x1.a.toNat default).name) ((x0.people.getD x1.a.toNat default).sex) ((x0.people.getD x1.a.toNat default).father) ((x0.people.getD x1.a.toNat default).mother) ((x0.people.getD x1.a.toNat default).born) x1.year)), x0.unions)) else (false, x0.people, x0.unions)))))
def D33b1 (x0 : Family) (x1 : Event) (i1 : Nat) (v1 : Unit) : Dl := ⟨[(95, .int .i64 ((i1 : Nat) : Int))], []⟩
def A33b1 (x0 : Family) (x1 : Event) (i1 : Nat) (v1 : Unit) : Ann := r0 1 [2, 3, 4, 94, 95, 96] [2, 3, 900000, 900001, 900002] (cn (decide (((i1 : Nat) : Int) < ((x0.unions.length : Nat) : Int))) (.reg 3 [] [] [2, 3, 4, 7, 94, 95, 119] [2, 3, 900000, 900001, 900002] [decide (((x0.unions.getD i1 default).man) = x1.a)] [pf (0 ≤ (((i1 : Nat) : Int) : Int) ∧ (((i1 : Nat) : Int) : Int) < ((x0.unions.length : Nat) : Int))] [] [0, 1, 1, 1, 1, 1, 1, 1] (cn ((decide (((x0.unions.getD i1 default).man) = x1.a)) && (decide (((x0.unions.getD i1 default).woman) = x1.b))) (r0 1 [2, 3, 4, 7, 94, 95, 124] [2, 3, 900000, 900001, 900002] (cn (!decide (((x0.unions.getD i1 default).to) = (-1))) (r0 1 [2, 3, 4, 7, 94, 95] [2, 3, 900000, 900001, 900002] (rt [(900000, some 900000), (0, some 900001), (1, some 900002)] (C33 x0 x1 (false, x0.people, x0.unions)))) (.reg 2 [] [(5, stP 900002 (cUnion true) x0.unions.length x0.unions x0.unions i1 3 [.int .i64 x1.year] (Union.mk ((x0.unions.getD i1 default).man) ((x0.unions.getD i1 default).woman) ((x0.unions.getD i1 default).from0) x1.year) (x0.unions.getD i1 default) (.inr ⟨rfl, rfl⟩) rfl)] [2, 3, 4, 94, 95] [2, 3, 900000, 900001, 900002] [] [] [] [0] (.co false 900002 ((x0.unions.set i1 (Union.mk ((x0.unions.getD i1 default).man) ((x0.unions.getD i1 default).woman) ((x0.unions.getD i1 default).from0) x1.year)).length) (rowOf (cUnion true) (x0.unions.set i1 (Union.mk ((x0.unions.getD i1 default).man) ((x0.unions.getD i1 default).woman) ((x0.unions.getD i1 default).from0) x1.year))) [lnP (rowOf (cUnion true) (x0.unions.set i1 (Union.mk ((x0.unions.getD i1 default).man) ((x0.unions.getD i1 default).woman) ((x0.unions.getD i1 default).from0) x1.year))) x0.unions.length ((x0.unions.set i1 (Union.mk ((x0.unions.getD i1 default).man) ((x0.unions.getD i1 default).woman) ((x0.unions.getD i1 default).from0) x1.year)).length)] [] 0 (rt [(900000, some 900000), (0, some 900001), (1, some 900002)] (C33 x0 x1 (true, x0.people, (x0.unions.set i1 (Union.mk ((x0.unions.getD i1 default).man) ((x0.unions.getD i1 default).woman) ((x0.unions.getD i1 default).from0) x1.year))))))))) (r1 1 [2, 3, 4, 94, 95] [2, 3, 900000, 900001, 900002] [pf (inR .i64 (((i1 : Nat) : Int) + 1))] [0] (.next 0 [] (D33b1 x0 x1 (i1 + 1) ()))))) (r0 1 [4] [900000, 900001, 900002] (rt [(900000, some 900000), (0, some 900001), (1, some 900002)] (C33 x0 x1 (false, x0.people, x0.unions)))))
def A33 (x0 : Family) (x1 : Event) : Ann := r0 2 [2, 3, 4, 5] [2, 3, 900000, 900001, 900002] (.reg 1 [] [] [2, 3, 4, 5, 21] [2, 3, 900000, 900001, 900002] [!decide (x1.kind = 1), (!decide (x1.kind = 1)) && (!(!(x1.name == ([] : List UInt8))))] [gt (!decide (x1.kind = 1)) (gf (!(x1.name == ([] : List UInt8))) (pf (((!decide (x1.kind = 1)) && (!(!(x1.name == ([] : List UInt8))))) = true)))] [] [1, 1, 1, 5, 5, 1, 0, 1] (cn ((!decide (x1.kind = 1)) && ((!(x1.name == ([] : List UInt8))) || (!decide (x1.sex = 0)))) (r0 1 [2, 3, 4, 5] [2, 3, 900000, 900001, 900002] (rt [(900000, some 900000), (0, some 900001), (1, some 900002)] (C33 x0 x1 (false, x0.people, x0.unions)))) (r0 1 [2, 3, 4, 5, 23] [2, 3, 900000, 900001, 900002] (r0 1 [2, 3, 4, 5, 23, 24] [2, 3, 900000, 900001, 900002] (cn (decide (x1.kind = 1)) (.reg 2 [] [(16, bsC 42 (cPerson true) ([(Person.mk x1.name x1.sex x1.a x1.b x1.year (-1))] : List Person)), (17, ap1 43 (cPerson true) 56 x0.people (Person.mk x1.name x1.sex x1.a x1.b x1.year (-1)))] [4] [43, 900000, 900002] [] [] [] [0, 4] (rt [(900000, some 900000), (0, some 43), (1, some 900002)] (C33 x0 x1 (true, (x0.people ++ [(Person.mk x1.name x1.sex x1.a x1.b x1.year (-1))]), x0.unions)))) (r0 1 [2, 3, 4, 5, 23, 46] [2, 3, 900000, 900001, 900002] (cn (decide (x1.kind = 2)) (.reg 1 [] [(3, k51 x1.a x0), (9, cg (!(!(happenBorn x1.a x0))) (k51 x1.b x0))] [2, 3, 4, 59] [2, 3, 900000, 900001, 900002] [!(!(happenBorn x1.a x0)), !(happenBorn x1.a x0)] [] [] [0, 1, 1, 1, 4, 1, 6] (cn ((!(happenBorn x1.a x0)) || (!(happenBorn x1.b x0))) (r0 1 [2, 3, 4] [2, 3, 900000, 900001, 900002] (rt [(900000, some 900000), (0, some 900001), (1, some 900002)] (C33 x0 x1 (false, x0.people, x0.unions)))) (.reg 2 [] [(12, bsC 72 (cUnion true) ([(Union.mk x1.a x1.b x1.year (-1))] : List Union)), (13, ap1 73 (cUnion true) 32 x0.unions (Union.mk x1.a x1.b x1.year (-1)))] [4] [73, 900000, 900001] [] [] [] [0, 4] (rt [(900000, some 900000), (0, some 900001), (1, some 73)] (C33 x0 x1 (true, x0.people, (x0.unions ++ [(Union.mk x1.a x1.b x1.year (-1))]))))))) (r0 1 [2, 3, 4, 5, 23, 76] [2, 3, 900000, 900001, 900002] (cn (decide (x1.kind = 3)) (.reg 1 [] [(3, k51 x1.a x0), (9, cg (!(!(happenBorn x1.a x0))) (k51 x1.b x0))] [2, 3, 4, 89] [2, 3, 900000, 900001, 900002] [!(!(happenBorn x1.a x0)), !(happenBorn x1.a x0)] [] [] [0, 1, 1, 1, 4, 1, 6] (cn ((!(happenBorn x1.a x0)) || (!(happenBorn x1.b x0))) (r0 1 [2, 3, 4] [2, 3, 900000, 900001, 900002] (rt [(900000, some 900000), (0, some 900001), (1, some 900002)] (C33 x0 x1 (false, x0.people, x0.unions)))) (r0 1 [2, 3, 4, 94, 95] [2, 3, 900000, 900001, 900002] (lp (D33b1 x0 x1) [] [] [] (D33b1 x0 x1 0 ()) (A33b1 x0 x1))))) (r0 1 [2, 3, 4, 5, 131] [2, 3, 900000, 900001, 900002] (cn (decide (x1.kind = 4)) (.reg 1 [] [(3, k51 x1.a x0)] [2, 3, 4, 154] [2, 3, 900000, 900001, 900002] [!(!(happenBorn x1.a x0)), !(happenBorn x1.a x0), !((!(happenBorn x1.a x0)) || (!decide (x1.b = 0))), (!(happenBorn x1.a x0)) || (!decide (x1.b = 0))] [gt (!((!(happenBorn x1.a x0)) || (!decide (x1.b = 0)))) (pf (0 ≤ (x1.a : Int) ∧ (x1.a : Int) < ((x0.people.length : Nat) : Int)))] [] [4, 1, 1, 6, 9, 9, 9, 9, 9, 9, 0, 9, 9, 9, 14] (cn (((!(happenBorn x1.a x0)) || (!decide (x1.b = 0))) || (!decide (((x0.people.getD x1.a.toNat default).died) = (-1)))) (r0 1 [2, 3, 4] [2, 3, 900000, 900001, 900002] (rt [(900000, some 900000), (0, some 900001), (1, some 900002)] (C33 x0 x1 (false, x0.people, x0.unions)))) (.reg 2 [] [(10, stP 900001 (cPerson true) x0.people.length x0.people x0.people x1.a.toNat 5 [.int .i64 x1.year] (Person.mk ((x0.people.getD x1.a.toNat default).name) ((x0.people.getD x1.a.toNat default).sex) ((x0.people.getD x1.a.toNat default).father) ((x0.people.getD x1.a.toNat default).mother) ((x0.people.getD x1.a.toNat default).born) x1.year) (x0.people.getD x1.a.toNat default) (.inr ⟨rfl, rfl⟩) rfl)] [4] [900000, 900001, 900002] [] [pf (0 ≤ (x1.a : Int) ∧ (x1.a : Int) < ((x0.people.length : Nat) : Int))] [] [0, 4] (.co false 900001 ((x0.people.set x1.a.toNat (Person.mk ((x0.people.getD x1.a.toNat default).name) ((x0.people.getD x1.a.toNat default).sex) ((x0.people.getD x1.a.toNat default).father) ((x0.people.getD x1.a.toNat default).mother) ((x0.people.getD x1.a.toNat default).born) x1.year)).length) (rowOf (cPerson true) (x0.people.set x1.a.toNat (Person.mk ((x0.people.getD x1.a.toNat default).name) ((x0.people.getD x1.a.toNat default).sex) ((x0.people.getD x1.a.toNat default).father) ((x0.people.getD x1.a.toNat default).mother) ((x0.people.getD x1.a.toNat default).born) x1.year))) [lnP (rowOf (cPerson true) (x0.people.set x1.a.toNat (Person.mk ((x0.people.getD x1.a.toNat default).name) ((x0.people.getD x1.a.toNat default).sex) ((x0.people.getD x1.a.toNat default).father) ((x0.people.getD x1.a.toNat default).mother) ((x0.people.getD x1.a.toNat default).born) x1.year))) x0.people.length ((x0.people.set x1.a.toNat (Person.mk ((x0.people.getD x1.a.toNat default).name) ((x0.people.getD x1.a.toNat default).sex) ((x0.people.getD x1.a.toNat default).father) ((x0.people.getD x1.a.toNat default).mother) ((x0.people.getD x1.a.toNat default).born) x1.year)).length)] [] 0 (rt [(900000, some 900000), (0, some 900001), (1, some 900002)] (C33 x0 x1 (true, (x0.people.set x1.a.toNat (Person.mk ((x0.people.getD x1.a.toNat default).name) ((x0.people.getD x1.a.toNat default).sex) ((x0.people.getD x1.a.toNat default).father) ((x0.people.getD x1.a.toNat default).mother) ((x0.people.getD x1.a.toNat default).born) x1.year)), x0.unions))))))) (r0 1 [4] [900000, 900001, 900002] (rt [(900000, some 900000), (0, some 900001), (1, some 900002)] (C33 x0 x1 (false, x0.people, x0.unions)))))))))))))))
theorem ok_impl_happen (x0 : Family) (x1 : Event) (hx : x0.people.length ≤ 1048576) (hu : x0.unions.length ≤ 1048576) : FnMT Tryd.prog 33 [.vp 900000 0, .agg (cEvent false x1)] [.var [.own 900001, .own 900002], .arr 6 x0.people.length (rowOf (cPerson true) x0.people), .arr 4 x0.unions.length (rowOf (cUnion true) x0.unions)] (C33 x0 x1 (happen x0 x1)) := by
  have aux : ∀ R, happen x0 x1 = R → slim (C33 x0 x1 R) (A33 x0 x1) [] := by
    intro R hR
    refine rg trivial ?_
    refine rg ⟨by ((try clear hR); intros; (try simp only [decide_eq_true_eq, decide_eq_false_iff_not, Bool.or_eq_true, Bool.and_eq_true, or_f_iff, not_f_iff, not_t_iff, Bool.not_eq_true', inR] at *); (repeat' apply And.intro) <;> (intros; omega)), trivial⟩ ?_
    revert hR; refine cd (fun hc1 hR => ?_) fun hc1 hR => ?_
    ·
      refine rg trivial ?_
      exact congrArg (C33 x0 x1) hR
    ·
      refine rg trivial ?_
      refine rg trivial ?_
      revert hR; refine cd (fun hc2 hR => ?_) fun hc2 hR => ?_
      ·
        refine rg ⟨trivial, by omega, trivial⟩ ?_
        exact congrArg (C33 x0 x1) hR
      ·
        refine rg trivial ?_
        revert hR; refine cd (fun hc3 hR => ?_) fun hc3 hR => ?_
        ·
          refine rg ⟨by trivial, fun hg0 => by trivial, trivial⟩ ?_
          revert hR; refine cd (fun hc4 hR => ?_) fun hc4 hR => ?_
          ·
            refine rg trivial ?_
            exact congrArg (C33 x0 x1) hR
          ·
            refine rg ⟨trivial, by omega, trivial⟩ ?_
            exact congrArg (C33 x0 x1) hR
        ·
          refine rg trivial ?_
          revert hR; refine cd (fun hc5 hR => ?_) fun hc5 hR => ?_
          ·
            refine rg ⟨by trivial, fun hg0 => by trivial, trivial⟩ ?_
            revert hR; refine cd (fun hc6 hR => ?_) fun hc6 hR => ?_
            ·
              refine rg trivial ?_
              exact congrArg (C33 x0 x1) hR
            ·
              refine rg trivial ?_
              revert hR; refine lN (fun i v => True) (by trivial) rfl fun i1 v1 F1 hn1 hI1 hR hK1 => ?_
              refine rg trivial ?_
              refine ⟨fun hc7 => ?_, fun hc7 => ?_⟩
              · have hii1 : i1 < x0.unions.length := by have := of_decide_eq_true hc7; omega
                replace hR := loopN_step hR hii1
                refine rg ⟨by (intros; omega), trivial⟩ ?_
                revert hR; refine cd (fun hc8 hR => ?_) fun hc8 hR => ?_
                ·
                  refine rg trivial ?_
                  revert hR; refine cd (fun hc9 hR => ?_) fun hc9 hR => ?_
                  ·
                    refine rg trivial ?_
                    exact congrArg (C33 x0 x1) hR
                  ·
                    refine rg ⟨by trivial, trivial⟩ ?_
                    refine og (by (simp; done)) ?_
                    exact congrArg (C33 x0 x1) hR
                ·
                  refine rg ⟨by ( intros; simp only [inR]; omega), trivial⟩ ?_
                  exact hK1 () hii1 (by trivial) hR
              · obtain rfl : i1 = x0.unions.length := by have := of_decide_eq_false hc7; omega
                replace hR := loopN_end hR (Nat.lt_irrefl _)
                refine rg trivial ?_
                exact congrArg (C33 x0 x1) hR
          ·
            refine rg trivial ?_
            revert hR; refine cd (fun hc10 hR => ?_) fun hc10 hR => ?_
            ·
              refine rg ⟨by ((try clear hR); simp only [happenBorn, Bool.and_eq_false_imp, Bool.and_eq_false_iff, or_f_iff, not_f_iff, not_t_iff, l1In, Bool.and_eq_true, decide_eq_true_eq, decide_eq_false_iff_not] at *; omega), by trivial, trivial⟩ ?_
              revert hR; refine cd (fun hc11 hR => ?_) fun hc11 hR => ?_
              ·
                refine rg trivial ?_
                exact congrArg (C33 x0 x1) hR
              ·
                refine rg ⟨by ((try clear hR); simp only [happenBorn, Bool.and_eq_false_imp, Bool.and_eq_false_iff, or_f_iff, not_f_iff, not_t_iff, l1In, Bool.and_eq_true, decide_eq_true_eq, decide_eq_false_iff_not] at *; omega), by ((try clear hR); simp only [happenBorn, Bool.and_eq_false_imp, Bool.and_eq_false_iff, or_f_iff, not_f_iff, not_t_iff, l1In, Bool.and_eq_true, decide_eq_true_eq, decide_eq_false_iff_not] at *; omega), trivial⟩ ?_
                refine og (by (simp; done)) ?_
                exact congrArg (C33 x0 x1) hR
            ·
              refine rg trivial ?_
              exact congrArg (C33 x0 x1) hR
  exact FnM.go 165 Tryd.func33 (by kernel_rfl) (by kernel_rfl) (A33 x0 x1) (by kernel_rfl) (aux _ rfl)
def k33 (d : Nat) (ids : List Nat) (x0 : Family) (x1 : Event) : Cl := (hresM d ids (C33 x0 x1 (happen x0 x1)), k2 (ok_impl_happen x0 x1))
end Go.Proofs.YtkkijpibajigfabDoor
