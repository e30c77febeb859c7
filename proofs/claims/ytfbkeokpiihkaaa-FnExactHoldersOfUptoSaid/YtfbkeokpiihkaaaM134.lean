import Derived.Test.YtfbkeokpiihkaaaVS21
set_option maxHeartbeats 4000000
set_option linter.unusedSimpArgs false
set_option linter.unusedVariables false
namespace Go.Proofs.Ytfbkeokpiihkaaa
open Go Go.Lite Go.Proofs
/-! ### The order of succession -/
def sucI (f : Family) (x : Custom) (y : Int) (v1 : Int × (List Int) × (KV → Option Bool) × (KV → Option Bool)) (next : Int × (List Int) × (KV → Option Bool) × (KV → Option Bool) → List Int) : List Int := bif (decide (0 ≤ v1.1)) then (next (wayUp f x v1.1, (below (heirList.mk f x y v1.2.1 v1.2.2.1 v1.2.2.2) v1.1).1, (below (heirList.mk f x y v1.2.1 v1.2.2.1 v1.2.2.2) v1.1).2.1, (below (heirList.mk f x y v1.2.1 v1.2.2.1 v1.2.2.2) v1.1).2.2)) else v1.2.1
def sucS (f : Family) (x : Custom) (y : Int) (v1 : (List Bool) × (List Int) × Int) (next : (List Bool) × (List Int) × Int → List Int) : List Int := bif (decide (0 ≤ v1.2.2)) then (next ((l10Below f x v1.2.2 y v1.1 v1.2.1).2, (l10Below f x v1.2.2 y v1.1 v1.2.1).1, l10Next f x v1.2.2)) else v1.2.1
theorem suc_same {f : Family} (hf : specIsFamily f = true) (x : Custom) (y : Int) : ∀ (m : Nat) (q : Int) (s : List Bool) (o : List Int) (g gone : KV → Option Bool), (-1 ≤ q ∧ q < f.people.length) → (q + 1).toNat < m → s.length = f.people.length → (∀ c : Int, 0 ≤ c → c < f.people.length → mk2 g c = mk1 s c) → (∀ q, mk2 gone q = true → Dn f x y (mk1 s) q) →
    loopW (sucI f x y) m (q, o, g, gone) = loopW (sucS f x y) m (s, o, q) := by
  intro m
  induction m with
  | zero => intro q s o g gone _ hm; exact absurd hm (Nat.not_lt_zero _)
  | succ m ih =>
    intro q s o g gone hq hm hs hr hG
    have hn := (fam_n hf).1
    show sucI f x y (q, o, g, gone) (loopW (sucI f x y) m) = sucS f x y (s, o, q) (loopW (sucS f x y) m)
    unfold sucI sucS
    dsimp only
    cases hc : decide (0 ≤ q) with
    | false => rfl
    | true =>
      have hc := of_decide_eq_true hc
      rw [cond_true, cond_true, next_way]
      have h := below_same hf x y 100 q s o g gone ⟨hc, hq.2⟩ (by omega) hs hr fun q' h1 _ => hG q' h1
      have hd := l10Below_done hf x y 100 q s o ⟨hc, hq.2⟩ (by omega) hs
      have h7 := way_lt hf x ⟨hc, hq.2⟩
      have h6 := way_ge hf x ⟨hc, hq.2⟩
      unfold below l10Below
      rw [h.1]
      exact ih (wayUp f x q) _ _ _ _ (by omega) (by omega) (hd.1.trans hs) h.2.1 fun q' h1 => by
        rcases h.2.2 q' h1 with h2 | h2
        · exact (hG q' h2).mono hd.2.1
        · exact h2.2
theorem mk1_rep (n : Nat) (c : Int) : mk1 (List.replicate n (default : Bool)) c = false := by
  unfold mk1
  rw [getD_rep]
  split <;> rfl
theorem implSucc_eq {f : Family} (hf : specIsFamily f = true) (x : Custom) {p : Int} (hp : 0 ≤ p ∧ p < f.people.length) (y : Int) : implSucc f x p y = loopW (sucS f x y) ((p + 1).toNat + 1) (((List.replicate f.people.length (default : Bool)).set p.toNat true), ([] : List Int), p) := by
  refine Eq.trans ?_ (suc_same hf x y ((p + 1).toNat + 1) p ((List.replicate f.people.length (default : Bool)).set p.toNat true) [] (mset (fun _ => none) (KV.i p) true) (fun _ => none) (by omega) (by omega) (by simp only [List.length_set, List.length_replicate]) (fun c h1 h2 => ?_) fun q h => ?_)
  · rfl
  · rw [mk2_set, mk1_set (List.replicate f.people.length (default : Bool)) (c := p) true (by simp only [List.length_replicate]; omega) h1]
    split
    · rfl
    · rw [mk1_rep]; rfl
  · cases h
theorem specSuccO_ok (f : Family) (x : Custom) (p y : Int) : (specSuccO f x p y).length ≤ 40 ∧ ∀ c ∈ specSuccO f x p y, 0 ≤ c ∧ c < f.people.length := by
  unfold specSuccO
  refine cond_both (p := fun (r : List Int) => r.length ≤ 40 ∧ ∀ c ∈ r, 0 ≤ c ∧ c < f.people.length) (fun _ => by simp) (fun h => ?_)
  simp only [or_f_iff, not_f_iff, l1Has_iff] at h
  have hf := h.2.2
  have hn := (fam_n hf).1
  refine loopW_to (fun (v : (List Bool) × (List Int) × Int) => (-1 ≤ v.2.2 ∧ v.2.2 < f.people.length) ∧ v.1.length = f.people.length ∧ HOk f v.2.1 (mk1 v.1)) (fun v => (v.2.2 + 1).toNat) (fun (r : List Int) => r.length ≤ 40 ∧ ∀ c ∈ r, 0 ≤ c ∧ c < f.people.length) (fun v next hv hnx => ?_) _ _ (by dsimp only; omega) ⟨by dsimp only; omega, by simp only [List.length_set, List.length_replicate], HOk.nil _ _⟩
  obtain ⟨h1, h2, h3⟩ := hv
  refine cond_both (p := fun (r : List Int) => r.length ≤ 40 ∧ ∀ c ∈ r, 0 ≤ c ∧ c < f.people.length) (fun hc => ?_) (fun _ => ⟨by have := h3.len; omega, fun c hc => (h3.rg c hc).1⟩)
  have hc := of_decide_eq_true hc
  have h7 := way_lt hf x ⟨hc, h1.2⟩
  have h6 := way_ge hf x ⟨hc, h1.2⟩
  have h5 := l10Below_hok 100 f x v.2.2 y v.1 v.2.1 hf ⟨hc, h1.2⟩ (by omega) h2 h3
  refine hnx _ ⟨?_, h5.1.trans h2, h5.2.1⟩ ?_
  · dsimp only; rw [next_way]; omega
  · dsimp only; rw [next_way]; omega
def C18 (R : Int × Bool) : LV × List (Nat × BC) := (.tup [.int .i64 R.1, .bool R.2], [])
def specHeirOf (x0 : Family) (x1 : Custom) (x2 : Int) (x3 : Int) : Int × Bool := bif (decide ((((specSuccO x0 x1 x2 x3).length : Nat) : Int) = 0)) then (0, false) else (((specSuccO x0 x1 x2 x3).getD 0 default), true)
def A18 (x0 : Family) (x1 : Custom) (x2 : Int) (x3 : Int) : Ann := .reg 2 [] [(1004, k26 x0 x1 x2 x3)] [8, 9, 10] [1015] [] [] [] [0] (r0 1 [8, 9, 10, 18] [1015] (cn (decide ((((specSuccO x0 x1 x2 x3).length : Nat) : Int) = 0)) (r0 1 [8, 9, 10] [1015] (rt [] (C18 (0, false)))) (r1 1 [8, 9] [] [pf (0 ≤ (0 : Int) ∧ (0 : Int) < (((specSuccO x0 x1 x2 x3).length : Nat) : Int))] [0] (rt [] (C18 (((specSuccO x0 x1 x2 x3).getD 0 default), true))))))
theorem ok_spec_HeirOf (x0 : Family) (x1 : Custom) (x2 : Int) (x3 : Int) (hx : x0.people.length ≤ 1048576) (hu : x0.unions.length ≤ 1048576) (hn : ∀ p ∈ x0.people, p.name.length ≤ 1048576) : FnT Try.prog 18 [.agg (cFamily false x0), .agg (cCustom false x1), .int .i64 x2, .int .i64 x3] (C18 (specHeirOf x0 x1 x2 x3)) := by
  have aux : ∀ R, specHeirOf x0 x1 x2 x3 = R → slim (C18 R) (A18 x0 x1 x2 x3) [] := by
    intro R hR
    refine rg ⟨⟨by trivial, by trivial, by trivial⟩, trivial⟩ ?_
    refine rg trivial ?_
    revert hR; refine cd (fun hc1 hR => ?_) fun hc1 hR => ?_
    ·
      refine rg trivial ?_
      exact congrArg C18 hR
    ·
      refine rg ⟨by ((try clear hR); intros; (try simp only [decide_eq_true_eq, decide_eq_false_iff_not, Bool.or_eq_true, Bool.and_eq_true, or_f_iff, not_f_iff, not_t_iff, Bool.not_eq_true', inR] at *); (repeat' apply And.intro) <;> (intros; omega)), trivial⟩ ?_
      exact congrArg C18 hR
  exact Fn.go 22 Try.func18 (by kernel_rfl) (by kernel_rfl) (by simp [C18, Frs, FrsL]) (A18 x0 x1 x2 x3) (by kernel_rfl) (aux _ rfl)
def k18 (x0 : Family) (x1 : Custom) (x2 : Int) (x3 : Int) : Cl := (hres (C18 (specHeirOf x0 x1 x2 x3)), k3 (ok_spec_HeirOf x0 x1 x2 x3))
/-! ### Holders -/
theorem l10Below_alive {f : Family} (hf : specIsFamily f = true) (x : Custom) (y : Int) : ∀ (m : Nat) (p : Int) (s : List Bool) (o : List Int), (0 ≤ p ∧ p < f.people.length) → (f.people.length - p).toNat < m → (∀ c ∈ o, l1Alive f c y = true) → ∀ c ∈ (l10Below_r m f x p y s o).1, l1Alive f c y = true := by
  intro m
  induction m with
  | zero => intro p s o _ hm; exact absurd hm (Nat.not_lt_zero _)
  | succ m ih =>
    intro p s o hp hm ho
    rw [l10Below_r]
    refine loopN_to (fun i (v : (List Bool) × (List Int)) => ∀ c ∈ v.2, l1Alive f c y = true) (fun (r : (List Int) × (List Bool)) => ∀ c ∈ r.1, l1Alive f c y = true) ho (fun i v next hi hv hn => ?_) (fun v hv => hv)
    have hc := l10_at hf (x := x) hp.1 hi
    refine cond_both (p := fun (r : (List Int) × (List Bool)) => ∀ c ∈ r.1, l1Alive f c y = true) (fun _ => hn _ hv) (fun _ => ?_)
    refine jn_to (fun (j : (List Bool) × (List Int)) => ∀ c ∈ j.2, l1Alive f c y = true) (fun (r : (List Int) × (List Bool)) => ∀ c ∈ r.1, l1Alive f c y = true) (fun K hK => ?_) (fun j hj => ?_)
    · refine cond_both (p := fun (r : (List Int) × (List Bool)) => ∀ c ∈ r.1, l1Alive f c y = true) (fun c => hK _ fun d hd => ?_) (fun _ => hK _ hv)
      simp only [Bool.and_eq_true] at c
      rcases List.mem_append.1 hd with hd | hd
      · exact hv d hd
      · rw [List.mem_singleton.1 hd]; exact c.1
    · exact cond_both (p := fun (r : (List Int) × (List Bool)) => ∀ c ∈ r.1, l1Alive f c y = true) (fun _ => hn _ (ih ((l10Children f x p).getD i default) j.1 j.2 (by omega) (by omega) hj)) (fun _ => hn _ hj)
theorem specSuccO_alive (f : Family) (x : Custom) (p y : Int) : ∀ c ∈ specSuccO f x p y, l1Alive f c y = true := by
  unfold specSuccO
  refine cond_both (p := fun (r : List Int) => ∀ c ∈ r, l1Alive f c y = true) (fun _ => by simp) (fun h => ?_)
  simp only [or_f_iff, not_f_iff, l1Has_iff] at h
  have hf := h.2.2
  have hn := (fam_n hf).1
  refine loopW_to (fun (v : (List Bool) × (List Int) × Int) => (-1 ≤ v.2.2 ∧ v.2.2 < f.people.length) ∧ ∀ c ∈ v.2.1, l1Alive f c y = true) (fun v => (v.2.2 + 1).toNat) (fun (r : List Int) => ∀ c ∈ r, l1Alive f c y = true) (fun v next hv hnx => ?_) _ _ (by dsimp only; omega) ⟨by dsimp only; omega, by simp⟩
  obtain ⟨h1, h2⟩ := hv
  refine cond_both (p := fun (r : List Int) => ∀ c ∈ r, l1Alive f c y = true) (fun hc => ?_) (fun _ => h2)
  have hc := of_decide_eq_true hc
  have h7 := way_lt hf x ⟨hc, h1.2⟩
  have h6 := way_ge hf x ⟨hc, h1.2⟩
  refine hnx _ ⟨?_, l10Below_alive hf x y 100 v.2.2 v.1 v.2.1 ⟨hc, h1.2⟩ (by omega) h2⟩ ?_
  · dsimp only; rw [next_way]; omega
  · dsimp only; rw [next_way]; omega
theorem custom_of {f : Family} {x : Custom} {p : Int} (h : ((!(implHas f [p])) || (!(implIsCustom x))) = false) : specIsCustom x = true := by
  simp only [or_f_iff, not_f_iff] at h
  rw [← isCustom_eq]; exact h.2
end Go.Proofs.Ytfbkeokpiihkaaa
