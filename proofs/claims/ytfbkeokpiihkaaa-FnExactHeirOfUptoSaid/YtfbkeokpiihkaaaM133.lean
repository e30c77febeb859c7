import Derived.Test.YtfbkeokpiihkaaaVS21
set_option maxHeartbeats 4000000
set_option linter.unusedSimpArgs false
set_option linter.unusedVariables false
namespace Go.Proofs.Ytfbkeokpiihkaaa
open Go Go.Lite Go.Proofs
/-! ### The order of succession -/
def sucI (f : Family) (x : Custom) (y : Int) (v1 : Int × (List Int) × (KV → Option Bool) × (KV → Option Bool)) (next : Int × (List Int) × (KV → Option Bool) × (KV → Option Bool) → List Int) : List Int := bif (decide (0 ≤ v1.1)) then (next (wayUp f x v1.1, (below (heirList.mk f x y v1.2.1 v1.2.2.1 v1.2.2.2) v1.1).1, (below (heirList.mk f x y v1.2.1 v1.2.2.1 v1.2.2.2) v1.1).2.1, (below (heirList.mk f x y v1.2.1 v1.2.2.1 v1.2.2.2) v1.1).2.2)) else v1.2.1
def sucS (f : Family) (x : Custom) (y : Int) (v1 : (List Bool) × (List Int) × Int) (next : (List Bool) × (List Int) × Int → List Int) : List Int := bif (decide (0 ≤ v1.2.2)) then (next ((l10Below f x v1.2.2 y v1.1 v1.2.1).2, (l10Below f x v1.2.2 y v1.1 v1.2.1).1, l10Next f x v1.2.2)) else v1.2.1
theorem suc_same {f : Family} (hf : specIsFamily f = true) (x : Custom) (y : Int) : ∀ (m : Nat) (q : Int) (s : List Bool) (o : List Int) (g gone : KV → Option Bool), (-1 ≤ q ∧ q < f.people.length) → (q + 1).toNat < m → s.length = f.people.length → (∀ c : Int, 0 ≤ c → c < f.people.length → mk2 g c = mk1 s c) → (∀ q, mk2 gone q = true → Dn f x y (mk1 s) q) →
    loopW (sucI f x y) m (q, o, g, gone) = loopW (sucS f x y) m (s, o, q) := by
  intro m
  induction m with
  | zero => intro q s o g gone _ hm; exact absurd hm (Nat.not_lt_zero _)
  | succ m ih =>
    intro q s o g gone hq hm hs hr hG
    have hn := (fam_n hf).1
    show sucI f x y (q, o, g, gone) (loopW (sucI f x y) m) = sucS f x y (s, o, q) (loopW (sucS f x y) m)
    unfold sucI sucS
    dsimp only
    cases hc : decide (0 ≤ q) with
    | false => rfl
    | true =>
      have hc := of_decide_eq_true hc
      rw [cond_true, cond_true, next_way]
      have h := below_same hf x y 100 q s o g gone ⟨hc, hq.2⟩ (by omega) hs hr fun q' h1 _ => hG q' h1
      have hd := l10Below_done hf x y 100 q s o ⟨hc, hq.2⟩ (by omega) hs
      have h7 := way_lt hf x ⟨hc, hq.2⟩
      have h6 := way_ge hf x ⟨hc, hq.2⟩
      unfold below l10Below
      rw [h.1]
      exact ih (wayUp f x q) _ _ _ _ (by omega) (by omega) (hd.1.trans hs) h.2.1 fun q' h1 => by
        rcases h.2.2 q' h1 with h2 | h2
        · exact (hG q' h2).mono hd.2.1
        · exact h2.2
theorem mk1_rep (n : Nat) (c : Int) : mk1 (List.replicate n (default : Bool)) c = false := by
  unfold mk1
  rw [getD_rep]
  split <;> rfl
theorem implSucc_eq {f : Family} (hf : specIsFamily f = true) (x : Custom) {p : Int} (hp : 0 ≤ p ∧ p < f.people.length) (y : Int) : implSucc f x p y = loopW (sucS f x y) ((p + 1).toNat + 1) (((List.replicate f.people.length (default : Bool)).set p.toNat true), ([] : List Int), p) := by
  refine Eq.trans ?_ (suc_same hf x y ((p + 1).toNat + 1) p ((List.replicate f.people.length (default : Bool)).set p.toNat true) [] (mset (fun _ => none) (KV.i p) true) (fun _ => none) (by omega) (by omega) (by simp only [List.length_set, List.length_replicate]) (fun c h1 h2 => ?_) fun q h => ?_)
  · rfl
  · rw [mk2_set, mk1_set (List.replicate f.people.length (default : Bool)) (c := p) true (by simp only [List.length_replicate]; omega) h1]
    split
    · rfl
    · rw [mk1_rep]; rfl
  · cases h
theorem succ_eq (f : Family) (x : Custom) (p y : Int) : implSuccO f x p y = specSuccO f x p y := by
  unfold implSuccO specSuccO
  have e : ((!(implHas f [p])) || (!(implIsCustom x))) = ((!(specIsCustom x)) || (!(l1Has f p))) := by
    rw [isCustom_eq, has1_eq, Bool.or_comm]
  rw [e]
  cases h : ((!(specIsCustom x)) || (!(l1Has f p))) with
  | true => rfl
  | false =>
    simp only [or_f_iff, not_f_iff, l1Has_iff] at h
    exact implSucc_eq h.2.2 x h.2.1 y
def C20 (R : Int × Bool) : LV × List (Nat × BC) := (.tup [.int .i64 R.1, .bool R.2], [])
def implHeirOf (x0 : Family) (x1 : Custom) (x2 : Int) (x3 : Int) : Int × Bool := bif (decide ((((implSuccO x0 x1 x2 x3).length : Nat) : Int) = 0)) then (0, false) else (((implSuccO x0 x1 x2 x3).getD 0 default), true)
def A20 (x0 : Family) (x1 : Custom) (x2 : Int) (x3 : Int) : Ann := .reg 2 [] [(1004, k27 x0 x1 x2 x3)] [8, 9, 10] [1015] [] [] [] [0] (r0 1 [8, 9, 10, 18] [1015] (cn (decide ((((implSuccO x0 x1 x2 x3).length : Nat) : Int) = 0)) (r0 1 [8, 9, 10] [1015] (rt [] (C20 (0, false)))) (r1 1 [8, 9] [] [pf (0 ≤ (0 : Int) ∧ (0 : Int) < (((implSuccO x0 x1 x2 x3).length : Nat) : Int))] [0] (rt [] (C20 (((implSuccO x0 x1 x2 x3).getD 0 default), true))))))
theorem ok_impl_HeirOf (x0 : Family) (x1 : Custom) (x2 : Int) (x3 : Int) (hx : x0.people.length ≤ 1048576) (hu : x0.unions.length ≤ 1048576) (hn : ∀ p ∈ x0.people, p.name.length ≤ 1048576) : FnT Try.prog 20 [.agg (cFamily false x0), .agg (cCustom false x1), .int .i64 x2, .int .i64 x3] (C20 (implHeirOf x0 x1 x2 x3)) := by
  have aux : ∀ R, implHeirOf x0 x1 x2 x3 = R → slim (C20 R) (A20 x0 x1 x2 x3) [] := by
    intro R hR
    refine rg ⟨⟨by trivial, by trivial, by trivial⟩, trivial⟩ ?_
    refine rg trivial ?_
    revert hR; refine cd (fun hc1 hR => ?_) fun hc1 hR => ?_
    ·
      refine rg trivial ?_
      exact congrArg C20 hR
    ·
      refine rg ⟨by ((try clear hR); intros; (try simp only [decide_eq_true_eq, decide_eq_false_iff_not, Bool.or_eq_true, Bool.and_eq_true, or_f_iff, not_f_iff, not_t_iff, Bool.not_eq_true', inR] at *); (repeat' apply And.intro) <;> (intros; omega)), trivial⟩ ?_
      exact congrArg C20 hR
  exact Fn.go 22 Try.func20 (by kernel_rfl) (by kernel_rfl) (by simp [C20, Frs, FrsL]) (A20 x0 x1 x2 x3) (by kernel_rfl) (aux _ rfl)
def k20 (x0 : Family) (x1 : Custom) (x2 : Int) (x3 : Int) : Cl := (hres (C20 (implHeirOf x0 x1 x2 x3)), k3 (ok_impl_HeirOf x0 x1 x2 x3))
def C18 (R : Int × Bool) : LV × List (Nat × BC) := (.tup [.int .i64 R.1, .bool R.2], [])
def specHeirOf (x0 : Family) (x1 : Custom) (x2 : Int) (x3 : Int) : Int × Bool := bif (decide ((((specSuccO x0 x1 x2 x3).length : Nat) : Int) = 0)) then (0, false) else (((specSuccO x0 x1 x2 x3).getD 0 default), true)
def A18 (x0 : Family) (x1 : Custom) (x2 : Int) (x3 : Int) : Ann := .reg 2 [] [(1004, k26 x0 x1 x2 x3)] [8, 9, 10] [1015] [] [] [] [0] (r0 1 [8, 9, 10, 18] [1015] (cn (decide ((((specSuccO x0 x1 x2 x3).length : Nat) : Int) = 0)) (r0 1 [8, 9, 10] [1015] (rt [] (C18 (0, false)))) (r1 1 [8, 9] [] [pf (0 ≤ (0 : Int) ∧ (0 : Int) < (((specSuccO x0 x1 x2 x3).length : Nat) : Int))] [0] (rt [] (C18 (((specSuccO x0 x1 x2 x3).getD 0 default), true))))))
theorem ok_spec_HeirOf (x0 : Family) (x1 : Custom) (x2 : Int) (x3 : Int) (hx : x0.people.length ≤ 1048576) (hu : x0.unions.length ≤ 1048576) (hn : ∀ p ∈ x0.people, p.name.length ≤ 1048576) : FnT Try.prog 18 [.agg (cFamily false x0), .agg (cCustom false x1), .int .i64 x2, .int .i64 x3] (C18 (specHeirOf x0 x1 x2 x3)) := by
  have aux : ∀ R, specHeirOf x0 x1 x2 x3 = R → slim (C18 R) (A18 x0 x1 x2 x3) [] := by
    intro R hR
    refine rg ⟨⟨by trivial, by trivial, by trivial⟩, trivial⟩ ?_
    refine rg trivial ?_
    revert hR; refine cd (fun hc1 hR => ?_) fun hc1 hR => ?_
    ·
      refine rg trivial ?_
      exact congrArg C18 hR
    ·
      refine rg ⟨by ((try clear hR); intros; (try simp only [decide_eq_true_eq, decide_eq_false_iff_not, Bool.or_eq_true, Bool.and_eq_true, or_f_iff, not_f_iff, not_t_iff, Bool.not_eq_true', inR] at *); (repeat' apply And.intro) <;> (intros; omega)), trivial⟩ ?_
      exact congrArg C18 hR
  exact Fn.go 22 Try.func18 (by kernel_rfl) (by kernel_rfl) (by simp [C18, Frs, FrsL]) (A18 x0 x1 x2 x3) (by kernel_rfl) (aux _ rfl)
def k18 (x0 : Family) (x1 : Custom) (x2 : Int) (x3 : Int) : Cl := (hres (C18 (specHeirOf x0 x1 x2 x3)), k3 (ok_spec_HeirOf x0 x1 x2 x3))
theorem heirOf_eq (f : Family) (x : Custom) (p y : Int) : implHeirOf f x p y = specHeirOf f x p y := by
  unfold implHeirOf specHeirOf
  rw [succ_eq]
end Go.Proofs.Ytfbkeokpiihkaaa
