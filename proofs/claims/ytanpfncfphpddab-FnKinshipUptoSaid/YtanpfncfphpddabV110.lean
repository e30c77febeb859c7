import Derived.Test.YtanpfncfphpddabV33
set_option maxHeartbeats 4000000
set_option linter.unusedSimpArgs false
set_option linter.unusedVariables false
namespace Go.Proofs.Ytanpfncfphpddab
open Go Go.Lite Go.Proofs
def C57 (x0 : kin) (x1 : Int) (R : Int × (KV → Option Int)) : LV × List (Nat × BC) := (.int .i64 R.1, [(900001, .mp .pair (.i R.2)), (900000, .var [.ro false 6 x0.f.people.length (rowOf (cPerson false) x0.f.people), .ro false 4 x0.f.unions.length (rowOf (cUnion false) x0.f.unions), .mp 900001])])
def kinInbreeding (x0 : kin) (x1 : Int) : Int × (KV → Option Int) := bif ((decide (((x0.f.people.getD x1.toNat default).father) < 0)) || (decide (((x0.f.people.getD x1.toNat default).mother) < 0))) then (0, x0.seen) else ((between x0 ((x0.f.people.getD x1.toNat default).father) ((x0.f.people.getD x1.toNat default).mother)).1, (between x0 ((x0.f.people.getD x1.toNat default).father) ((x0.f.people.getD x1.toNat default).mother)).2)
def A57 (x0 : kin) (x1 : Int) : Ann := r1 2 [0, 4, 5] [5, 900000, 900001] [pf (0 ≤ (x1 : Int) ∧ (x1 : Int) < ((x0.f.people.length : Nat) : Int))] [0] (.reg 1 [] [] [0, 4, 5, 21] [5, 900000, 900001] [!(decide (((x0.f.people.getD x1.toNat default).father) < 0)), decide (((x0.f.people.getD x1.toNat default).father) < 0)] [] [] [1, 1, 6] (cn ((decide (((x0.f.people.getD x1.toNat default).father) < 0)) || (decide (((x0.f.people.getD x1.toNat default).mother) < 0))) (r0 1 [0, 4, 5] [5, 900000, 900001] (rt [(900001, some 900001), (900000, some 900000)] (C57 x0 x1 (0, x0.seen)))) (.reg 1 [] [(5, k56 27 [900000, 900001] x0 ((x0.f.people.getD x1.toNat default).father) ((x0.f.people.getD x1.toNat default).mother))] [4] [900000, 900001] [] [] [] [0] (rt [(900001, some 900001), (900000, some 900000)] (C57 x0 x1 ((between x0 ((x0.f.people.getD x1.toNat default).father) ((x0.f.people.getD x1.toNat default).mother)).1, (between x0 ((x0.f.people.getD x1.toNat default).father) ((x0.f.people.getD x1.toNat default).mother)).2))))))
theorem ok_impl_kin__inbreeding (x0 : kin) (x1 : Int) (hf : specIsFamily x0.f = true) (ha : 0 ≤ x1 ∧ x1 < x0.f.people.length) (hS : SeenOk x0.f x0.seen) : FnMT Try.prog 57 [.vp 900000 0, .int .i64 x1] [.var [.ro false 6 x0.f.people.length (rowOf (cPerson false) x0.f.people), .ro false 4 x0.f.unions.length (rowOf (cUnion false) x0.f.unions), .mp 900001], .mp .pair (.i x0.seen)] (C57 x0 x1 (kinInbreeding x0 x1)) := by
  have aux : ∀ R, kinInbreeding x0 x1 = R → slim (C57 x0 x1 R) (A57 x0 x1) [] := by
    intro R hR
    refine rg ⟨by trivial, trivial⟩ ?_
    refine rg trivial ?_
    revert hR; refine cd (fun hc1 hR => ?_) fun hc1 hR => ?_
    ·
      refine rg trivial ?_
      exact congrArg (C57 x0 x1) hR
    ·
      refine rg ⟨⟨by trivial, by (have h8 := two_par hf ha hc1; omega), by (have h8 := two_par hf ha hc1; omega), by trivial⟩, trivial⟩ ?_
      exact congrArg (C57 x0 x1) hR
  exact FnM.go 28 Try.func57 (by kernel_rfl) (by kernel_rfl) (A57 x0 x1) (by kernel_rfl) (aux _ rfl)
def k57 (d : Nat) (ids : List Nat) (x0 : kin) (x1 : Int) : Cl := (hresM d ids (C57 x0 x1 (kinInbreeding x0 x1)), k3 (ok_impl_kin__inbreeding x0 x1))
def C26 (R : Dyad) : LV × List (Nat × BC) := (.agg [.int .i64 R.num, .int .i64 R.exp], [])
def implKinship (x0 : Family) (x1 : Int) (x2 : Int) : Dyad := bif (!(implHas x0 [x1, x2])) then (Dyad.mk 0 0) else (wholeDyad ((between (kin.mk x0 (fun _ => none)) x1 x2).1))
def A26 (x0 : Family) (x1 : Int) (x2 : Int) : Ann := r0 1 [1, 2, 3, 6] [3, 6] (.reg 1 [] [(3, bsC 11 (cInt .i64) ([x1, x2] : List Int)), (4, k43 x0 [x1, x2])] [1, 2, 3, 6, 13] [3, 6] [] [] [] [0, 4] (cn (!(implHas x0 [x1, x2])) (r0 1 [1, 2, 3, 6] [3, 6] (rt [] (C26 (Dyad.mk 0 0)))) (.reg 2 [] [(1002, k56 20 [7, 16] (kin.mk x0 (fun _ => none)) x1 x2), (1003, k55 ((between (kin.mk x0 (fun _ => none)) x1 x2).1))] [6] [6] [] [] [] [0, 4] (rt [] (C26 (wholeDyad ((between (kin.mk x0 (fun _ => none)) x1 x2).1)))))))
theorem ok_impl_Kinship (x0 : Family) (x1 : Int) (x2 : Int) (hx : x0.people.length ≤ 1048576) (hu : x0.unions.length ≤ 1048576) (hn : ∀ p ∈ x0.people, p.name.length ≤ 1048576) : FnT Try.prog 26 [.agg (cFamily false x0), .int .i64 x1, .int .i64 x2] (C26 (implKinship x0 x1 x2)) := by
  have aux : ∀ R, implKinship x0 x1 x2 = R → slim (C26 R) (A26 x0 x1 x2) [] := by
    intro R hR
    refine rg trivial ?_
    refine rg ⟨trivial, ⟨by trivial, by trivial, by trivial, by ((try clear hR); intros; (try simp only [decide_eq_true_eq, decide_eq_false_iff_not, Bool.or_eq_true, Bool.and_eq_true, or_f_iff, not_f_iff, not_t_iff, Bool.not_eq_true', inR] at *); (repeat' apply And.intro) <;> (simp_all [inR]; done))⟩, trivial⟩ ?_
    revert hR; refine cd (fun hc1 hR => ?_) fun hc1 hR => ?_
    ·
      refine rg trivial ?_
      exact congrArg C26 hR
    ·
      refine rg ⟨⟨by (have h3 := (implHas2 x0 x1 x2).1 (by simpa using hc1); exact h3.1), by ((try clear hR); intros; (try simp only [decide_eq_true_eq, decide_eq_false_iff_not, Bool.or_eq_true, Bool.and_eq_true, or_f_iff, not_f_iff, not_t_iff, Bool.not_eq_true', inR] at *); (repeat' apply And.intro) <;> (have h3 := (implHas2 x0 x1 x2).1 (by simpa using hc1); omega)), by ((try clear hR); intros; (try simp only [decide_eq_true_eq, decide_eq_false_iff_not, Bool.or_eq_true, Bool.and_eq_true, or_f_iff, not_f_iff, not_t_iff, Bool.not_eq_true', inR] at *); (repeat' apply And.intro) <;> (have h3 := (implHas2 x0 x1 x2).1 (by simpa using hc1); omega)), by (exact SeenOk.nil _)⟩, by (have h3 := (implHas2 x0 x1 x2).1 (by simpa using hc1); have h4 := ((specIsFamily_iff _).1 h3.1).1; have h5 := btw_ok 100 ⟨x0, fun _ => none⟩ x1 x2 h3.1 h3.2.1 h3.2.2 (by omega) (SeenOk.nil _); have h6 := kn_rng h3.1 h3.2.1 h3.2.2; have h7 : (between ⟨x0, fun _ => none⟩ x1 x2).1 = kn x0 x1 x2 := h5.1; omega), trivial⟩ ?_
      exact congrArg C26 hR
  exact Fn.go 22 Try.func26 (by kernel_rfl) (by kernel_rfl) (by simp [C26, Frs, FrsL]) (A26 x0 x1 x2) (by kernel_rfl) (aux _ rfl)
def k26 (x0 : Family) (x1 : Int) (x2 : Int) : Cl := (hres (C26 (implKinship x0 x1 x2)), k3 (ok_impl_Kinship x0 x1 x2))
theorem btw_val {x : Family} (hf : specIsFamily x = true) {a b : Int} (ha : 0 ≤ a ∧ a < x.people.length) (hb : 0 ≤ b ∧ b < x.people.length) : (between ⟨x, fun _ => none⟩ a b).1 = kn x a b := by
  have h4 := ((specIsFamily_iff _).1 hf).1
  have h5 := (btw_ok 100 ⟨x, fun _ => none⟩ a b hf ha hb (by omega) (SeenOk.nil _)).1
  unfold between
  exact h5
theorem kinInbreeding_rng (x : Family) (p : Int) (hf : specIsFamily x = true) (hp : 0 ≤ p ∧ p < x.people.length) : 0 ≤ (kinInbreeding ⟨x, fun _ => none⟩ p).1 ∧ (kinInbreeding ⟨x, fun _ => none⟩ p).1 ≤ 1099511627776 := by
  unfold kinInbreeding
  dsimp only
  cases hc : (decide ((x.people.getD p.toNat default).father < 0) || decide ((x.people.getD p.toNat default).mother < 0))
  · have h1 := two_par hf hp hc
    have h2 := kn_rng hf h1.1 h1.2
    simp only [cond_false]
    rw [btw_val hf h1.1 h1.2]
    exact h2.1
  · simp only [cond_true]
    exact ⟨Int.le_refl _, by omega⟩
def C27 (R : Dyad) : LV × List (Nat × BC) := (.agg [.int .i64 R.num, .int .i64 R.exp], [])
def implInbreeding (x0 : Family) (x1 : Int) : Dyad := bif (!(implHas x0 [x1])) then (Dyad.mk 0 0) else (wholeDyad ((kinInbreeding (kin.mk x0 (fun _ => none)) x1).1))
def A27 (x0 : Family) (x1 : Int) : Ann := r0 1 [1, 2, 4] [2, 4] (.reg 1 [] [(2, bsC 8 (cInt .i64) ([x1] : List Int)), (3, k43 x0 [x1])] [1, 2, 4, 10] [2, 4] [] [] [] [0, 4] (cn (!(implHas x0 [x1])) (r0 1 [1, 2, 4] [2, 4] (rt [] (C27 (Dyad.mk 0 0)))) (.reg 2 [] [(1001, k57 16 [5, 13] (kin.mk x0 (fun _ => none)) x1), (1002, k55 ((kinInbreeding (kin.mk x0 (fun _ => none)) x1).1))] [4] [4] [] [] [] [0, 4] (rt [] (C27 (wholeDyad ((kinInbreeding (kin.mk x0 (fun _ => none)) x1).1)))))))
theorem ok_impl_Inbreeding (x0 : Family) (x1 : Int) (hx : x0.people.length ≤ 1048576) (hu : x0.unions.length ≤ 1048576) (hn : ∀ p ∈ x0.people, p.name.length ≤ 1048576) : FnT Try.prog 27 [.agg (cFamily false x0), .int .i64 x1] (C27 (implInbreeding x0 x1)) := by
  have aux : ∀ R, implInbreeding x0 x1 = R → slim (C27 R) (A27 x0 x1) [] := by
    intro R hR
    refine rg trivial ?_
    refine rg ⟨trivial, ⟨by trivial, by trivial, by trivial, by ((try clear hR); intros; (try simp only [decide_eq_true_eq, decide_eq_false_iff_not, Bool.or_eq_true, Bool.and_eq_true, or_f_iff, not_f_iff, not_t_iff, Bool.not_eq_true', inR] at *); (repeat' apply And.intro) <;> (simp_all [inR]; done))⟩, trivial⟩ ?_
    revert hR; refine cd (fun hc1 hR => ?_) fun hc1 hR => ?_
    ·
      refine rg trivial ?_
      exact congrArg C27 hR
    ·
      refine rg ⟨⟨by (have h3 := (implHas1 x0 x1).1 (by simpa using hc1); exact h3.1), by ((try clear hR); intros; (try simp only [decide_eq_true_eq, decide_eq_false_iff_not, Bool.or_eq_true, Bool.and_eq_true, or_f_iff, not_f_iff, not_t_iff, Bool.not_eq_true', inR] at *); (repeat' apply And.intro) <;> (have h3 := (implHas1 x0 x1).1 (by simpa using hc1); omega)), by (exact SeenOk.nil _)⟩, by (have h3 := (implHas1 x0 x1).1 (by simpa using hc1); have h4 := kinInbreeding_rng x0 x1 h3.1 h3.2; omega), trivial⟩ ?_
      exact congrArg C27 hR
  exact Fn.go 18 Try.func27 (by kernel_rfl) (by kernel_rfl) (by simp [C27, Frs, FrsL]) (A27 x0 x1) (by kernel_rfl) (aux _ rfl)
def k27 (x0 : Family) (x1 : Int) : Cl := (hres (C27 (implInbreeding x0 x1)), k3 (ok_impl_Inbreeding x0 x1))

def C96 (R : Family) : LV × List (Nat × BC) := (.agg [.own 0, .own 1], [(0, .arr 6 R.people.length (rowOf (cPerson true) R.people)), (1, .arr 4 R.unions.length (rowOf (cUnion true) R.unions))])
def l1Copy (x0 : Family) : Family := x0
def A96 (x0 : Family) : Ann := .reg 5 [] [(2004, apN 9 (cPerson true) 56 x0.people), (3004, apN 15 (cUnion true) 32 x0.unions)] [2] [2, 9, 15] [] [] [] [0, 4] (rt [(0, some 9), (1, some 15)] (C96 x0))
theorem ok_spec_l1Copy (x0 : Family) (hx : x0.people.length ≤ 1048576) (hu : x0.unions.length ≤ 1048576) : FnT Try.prog 96 [.agg (cFamily false x0)] (C96 (l1Copy x0)) := by
  have aux : ∀ R, l1Copy x0 = R → slim (C96 R) (A96 x0) [] := by
    intro R hR
    refine rg ⟨by omega, by omega, trivial⟩ ?_
    exact congrArg C96 hR
  exact Fn.go 18 Try.func96 (by kernel_rfl) (by kernel_rfl) (by simp [C96, Frs, FrsL, FrsB, rowOf, cInt, cBool, cStr, cSl, FrsL_app, cPerson, cUnion, cFamily, cDyad]) (A96 x0) (by kernel_rfl) (aux _ rfl)
def k96 (x0 : Family) : Cl := (hres (C96 (l1Copy x0)), k2 (ok_spec_l1Copy x0))
end Go.Proofs.Ytanpfncfphpddab
