import Derived.Test.YtanpfncfphpddabV54
set_option maxHeartbeats 4000000
set_option linter.unusedSimpArgs false
set_option linter.unusedVariables false
namespace Go.Proofs.Ytanpfncfphpddab
open Go Go.Lite Go.Proofs
/-! ### Kinship -/
theorem sumTo_pos {f : Nat → Int} : ∀ n : Nat, (∀ i, i < n → 0 ≤ f i) → (0 < sumTo f n ↔ ∃ i, i < n ∧ 0 < f i)
  | 0, _ => by simp [sumTo]
  | n + 1, h => by
    have ih := sumTo_pos n fun i hi => h i (by omega)
    have h0 : 0 ≤ sumTo f n := by
      clear ih
      induction n with
      | zero => simp [sumTo]
      | succ n ih => simp only [sumTo]; have := ih fun i hi => h i (by omega); have := h n (by omega); omega
    have hn := h n (by omega)
    simp only [sumTo]
    constructor
    · intro hp
      by_cases c : 0 < sumTo f n
      · obtain ⟨i, h1, h2⟩ := ih.1 c; exact ⟨i, by omega, h2⟩
      · exact ⟨n, by omega, by omega⟩
    · rintro ⟨i, h1, h2⟩
      by_cases c : i = n
      · subst c; omega
      · have := ih.2 ⟨i, by omega, h2⟩; omega
theorem sumTo_mul (c : Int) (f : Nat → Int) : ∀ n : Nat, c * sumTo f n = sumTo (fun i => c * f i) n
  | 0 => by simp [sumTo]
  | n + 1 => by simp only [sumTo]; rw [Int.mul_add, sumTo_mul c f n]
theorem sumTo_add (f g : Nat → Int) : ∀ n : Nat, sumTo f n + sumTo g n = sumTo (fun i => f i + g i) n
  | 0 => by simp [sumTo]
  | n + 1 => by simp only [sumTo]; rw [← sumTo_add f g n]; omega
theorem sumTo_zero : ∀ n : Nat, sumTo (fun _ => 0) n = 0
  | 0 => rfl
  | n + 1 => by simp only [sumTo]; rw [sumTo_zero n]; rfl
theorem sumTo_swap (f : Nat → Nat → Int) (m : Nat) : ∀ n : Nat, sumTo (fun i => sumTo (fun j => f i j) m) n = sumTo (fun j => sumTo (fun i => f i j) n) m
  | 0 => by simp only [sumTo]; rw [sumTo_zero]
  | n + 1 => by simp only [sumTo]; rw [sumTo_swap f m n, sumTo_add]
theorem par_at {x : Family} (hf : specIsFamily x = true) {a : Int} (ha : 0 ≤ a ∧ a < x.people.length) {i : Nat} (hi : i < (l1Parents x a).length) : (0 ≤ (l1Parents x a).getD i default ∧ (l1Parents x a).getD i default < a) ∧ (l1Parents x a).getD i default ∈ l1Parents x a :=
  ⟨parent_lt (isFamily_par x hf) ha (getD_mem hi), getD_mem hi⟩
theorem kn_two {x : Family} (hf : specIsFamily x = true) {a b : Int} (ha : 0 ≤ a ∧ a < x.people.length) (hb : 0 ≤ b ∧ b < a) : 2 * kn x a b = sumTo (fun i => kn x ((l1Parents x a).getD i default) b) (l1Parents x a).length := by
  rw [kn_lt hf ha hb, sumTo_mul]
  refine sumTo_congr _ fun i hi => ?_
  have h1 := (par_at hf ha hi).1
  have h2 := (kn_rng hf (a := (l1Parents x a).getD i default) (b := b) (by omega) (by omega)).2
  omega
theorem kn_pos {x : Family} (hf : specIsFamily x = true) : ∀ (m : Nat) (a b : Int), (0 ≤ a ∧ a < x.people.length) → (0 ≤ b ∧ b < x.people.length) → a + b < m → (0 < kn x a b ↔ ∃ q, Above x a q ∧ Above x b q)
  | 0, a, b, ha, hb, h => by omega
  | m + 1, a, b, ha, hb, h => by
    have key : ∀ a b : Int, (0 ≤ a ∧ a < x.people.length) → (0 ≤ b ∧ b < a) → a + b < m + 1 → (0 < kn x a b ↔ ∃ q, Above x a q ∧ Above x b q) := fun a b ha hb h => by
      have h2 := kn_two hf ha hb
      have hs := sumTo_pos (f := fun i => kn x ((l1Parents x a).getD i default) b) (l1Parents x a).length fun i hi => by
        have h1 := (par_at hf ha hi).1
        exact (kn_rng hf (a := (l1Parents x a).getD i default) (b := b) (by omega) (by omega)).1.1
      rw [show (0 < kn x a b) ↔ 0 < 2 * kn x a b from ⟨fun h => by omega, fun h => by omega⟩, h2, hs]
      constructor
      · rintro ⟨i, hi, hp⟩
        have h1 := par_at hf ha hi
        obtain ⟨q, g1, g2⟩ := (kn_pos hf m _ b ⟨h1.1.1, by omega⟩ ⟨hb.1, by omega⟩ (by omega)).1 hp
        exact ⟨q, g1.cons h1.2, g2⟩
      · rintro ⟨q, g1, g2⟩
        have hq := g2.rng hf ⟨hb.1, by omega⟩
        rcases g1.head with e | ⟨r, hr, g3⟩
        · omega
        · obtain ⟨i, hi, e⟩ := mem_getD (d := default) hr
          have h1 := par_at hf ha hi
          exact ⟨i, hi, (kn_pos hf m _ b ⟨h1.1.1, by omega⟩ ⟨hb.1, by omega⟩ (by omega)).2 ⟨q, by rw [e]; exact g3, g2⟩⟩
    rcases Int.lt_trichotomy a b with c | c | c
    · rw [kn_comm, key b a hb ⟨ha.1, c⟩ (by omega)]
      exact ⟨fun ⟨q, g1, g2⟩ => ⟨q, g2, g1⟩, fun ⟨q, g1, g2⟩ => ⟨q, g2, g1⟩⟩
    · subst c
      refine ⟨fun _ => ⟨a, Above.self x a, Above.self x a⟩, fun _ => ?_⟩
      rw [kn_self hf ha]
      refine cond_both (p := fun (r : Int) => 0 < 549755813888 + r) (fun c => ?_) (fun _ => by omega)
      have h1 := two_par3 hf ha c
      have := (kn_rng hf (a := (x.people.getD a.toNat default).father) (b := (x.people.getD a.toNat default).mother) (by omega) (by omega)).1.1
      omega
    · exact key a b ha ⟨hb.1, c⟩ h
theorem kn_up {x : Family} (hf : specIsFamily x = true) : ∀ (m : Nat) (a b : Int), (0 ≤ a ∧ a < x.people.length) → (0 ≤ b ∧ b < x.people.length) → b < m → ¬ Above x b a → 2 * kn x a b = sumTo (fun i => kn x ((l1Parents x a).getD i default) b) (l1Parents x a).length
  | 0, a, b, ha, hb, h, hn => by omega
  | m + 1, a, b, ha, hb, h, hn => by
    rcases Int.lt_trichotomy a b with c | c | c
    · have e1 : 2 * kn x a b = sumTo (fun j => kn x ((l1Parents x b).getD j default) a) (l1Parents x b).length := by rw [kn_comm]; exact kn_two hf hb ⟨ha.1, c⟩
      have e2 : 2 * (2 * kn x a b) = sumTo (fun j => sumTo (fun i => kn x ((l1Parents x a).getD i default) ((l1Parents x b).getD j default)) (l1Parents x a).length) (l1Parents x b).length := by
        rw [e1, sumTo_mul]
        refine sumTo_congr _ fun j hj => ?_
        have h1 := par_at hf hb hj
        rw [kn_comm]
        exact kn_up hf m a _ ha ⟨h1.1.1, by omega⟩ (by omega) fun hh => hn (hh.cons h1.2)
      rw [sumTo_swap] at e2
      have e3 : sumTo (fun i => sumTo (fun j => kn x ((l1Parents x a).getD i default) ((l1Parents x b).getD j default)) (l1Parents x b).length) (l1Parents x a).length = 2 * sumTo (fun i => kn x ((l1Parents x a).getD i default) b) (l1Parents x a).length := by
        rw [sumTo_mul]
        refine sumTo_congr _ fun i hi => ?_
        have h1 := par_at hf ha hi
        rw [kn_comm x _ b, kn_two hf hb ⟨h1.1.1, by omega⟩]
        exact sumTo_congr _ fun j hj => kn_comm x _ _
      rw [e3] at e2
      omega
    · subst c; exact absurd (Above.self x a) hn
    · exact kn_two hf ha ⟨hb.1, c⟩
/-! ### Dyads -/
theorem dyadOf_both : ∀ (e : Nat) (n : Int) (m : Nat), 0 ≤ n → e < m → (loopW (fun (v1 : Int × Int) next => bif ((decide (0 < v1.2)) && (decide ((v1.1.tmod 2) = 0))) then (next (v1.1.tdiv 2, v1.2 - 1)) else ((Dyad.mk v1.1 v1.2), isDyad (Dyad.mk v1.1 v1.2))) m (n, (e : Int))) = (red n e, isDyad (red n e))
  | 0, n, m + 1, _, _ => rfl
  | e + 1, n, m + 1, hn, hm => by
    simp only [loopW, red]
    rw [decide_eq_true (show (0 : Int) < ((e + 1 : Nat) : Int) by omega), Bool.true_and, Int.tmod_eq_emod_of_nonneg hn, Int.tdiv_eq_ediv_of_nonneg hn]
    cases decide (n % 2 = 0)
    · rfl
    · simp only [cond_true]
      rw [show ((e + 1 : Nat) : Int) - 1 = (e : Int) by omega]
      exact dyadOf_both e (n / 2) m (by omega) (by omega)
/-- Numbers that come of kinships. -/
def Good (n : Int) : Prop := (0 ≤ n ∧ n ≤ 4398046511104) ∧ (262144 : Int) ∣ n
theorem Good.add {n m : Int} (hn : Good n) (hm : Good m) (h : n + m ≤ 4398046511104) : Good (n + m) := ⟨⟨by have := hn.1; have := hm.1; omega, h⟩, Int.dvd_add hn.2 hm.2⟩
theorem kn_good {x : Family} (hf : specIsFamily x = true) {a b : Int} (ha : 0 ≤ a ∧ a < x.people.length) (hb : 0 ≤ b ∧ b < x.people.length) : Good (kn x a b) ∧ kn x a b ≤ 1099511627776 := by
  have hl := ((specIsFamily_iff x).1 hf).1.1
  have h := kf_props hf 100 a b ha hb (by omega)
  have d1 := dd_rng hf ha
  have d2 := dd_rng hf hb
  have h2 : (2 : Int) ^ 18 ∣ kf x 100 a b := Int.dvd_trans (two_dvd (by omega)) h.2
  refine ⟨⟨⟨h.1.1, by unfold kn; omega⟩, ?_⟩, h.1.2⟩
  have e : (2 : Int) ^ 18 = 262144 := by decide
  rw [e] at h2
  exact h2
theorem dy_is {n : Int} (h : Good n) : isDyad (dy n) = true := by
  obtain ⟨j, k, h1, h2, h3, h4, h5⟩ := red_val 40 n h.1.1
  have hj : j ≤ 22 := by
    rcases Nat.lt_or_ge 22 j with c | c
    · exfalso
      obtain ⟨d, hd⟩ := h.2
      rcases h5 with e | e
      · omega
      · have e2 : (262144 : Int) = 2 ^ (17 - k) * 2 * 2 ^ k := by rw [Int.mul_assoc, Int.mul_comm 2, ← Int.mul_assoc, ← Int.pow_add, show 17 - k + k = 17 by omega]; decide
        generalize (red n 40).num = z at h3 e
        rw [hd, e2, Int.mul_right_comm] at h3
        have := Int.eq_of_mul_eq_mul_right (by have := pow_pos2 k; omega) h3
        rw [this, Int.mul_right_comm, Int.mul_emod_left] at e
        exact absurd e (by decide)
    · exact c
  have hn : (red n 40).num ≤ 1073741824 := by
    have hk : (262144 : Int) ≤ 2 ^ k := by
      have e : (2 : Int) ^ k = 262144 * 2 ^ (k - 18) := by rw [show (262144 : Int) = 2 ^ 18 by decide, ← Int.pow_add, show 18 + (k - 18) = k by omega]
      rw [e]; have := pow_pos2 (k - 18); omega
    have h6 := Int.mul_le_mul_of_nonneg_left hk h4
    rw [h3] at h6
    have := h.1.2
    omega
  have e5 : (red n 40).exp = 0 ∨ (red n 40).num.tmod 2 = 1 := by
    rw [Int.tmod_eq_emod_of_nonneg h4]
    exact h5.imp (fun e => by rw [h1, e]; rfl) id
  unfold isDyad dy
  simp only [Bool.and_eq_true, Bool.or_eq_true, decide_eq_true_eq]
  exact ⟨⟨⟨⟨h4, hn⟩, by omega⟩, by omega⟩, e5⟩
theorem add_dy {n m : Int} (hn : Good n) (hm : Good m) (h : n + m ≤ 4398046511104) : implAdd (dy n) (dy m) = (dy (n + m), true) := by
  have hd := dy_is (hn.add hm h)
  unfold implAdd
  rw [dy_is hn, dy_is hm]
  obtain ⟨i, k, h1, h2, h3, h4, _⟩ := red_val 40 n hn.1.1
  obtain ⟨j, l, g1, g2, g3, g4, _⟩ := red_val 40 m hm.1.1
  have e : dyadOf (((dy n).num * 2 ^ (((Max.max (dy n).exp (dy m).exp) - (dy n).exp).toNat)) + ((dy m).num * 2 ^ (((Max.max (dy n).exp (dy m).exp) - (dy m).exp).toNat))) (Max.max (dy n).exp (dy m).exp) = (dy (n + m), true) := by
    rw [← hd]
    unfold dy
    rw [h1, g1]
    have hM : Max.max (i : Int) (j : Int) = ((i + (j - i) : Nat) : Int) := by omega
    unfold dyadOf
    rw [hM, Int.toNat_natCast, dyadOf_both _ _ _ (Int.add_nonneg (Int.mul_nonneg h4 (Int.le_of_lt (pow_pos2 _))) (Int.mul_nonneg g4 (Int.le_of_lt (pow_pos2 _)))) (Nat.lt_succ_self _)]
    have er : red ((red n 40).num * 2 ^ (((i + (j - i) : Nat) : Int) - i).toNat + (red m 40).num * 2 ^ (((i + (j - i) : Nat) : Int) - j).toNat) (i + (j - i)) = red (n + m) 40 := by
      rw [← red_pow _ _ (40 - (i + (j - i))), show i + (j - i) + (40 - (i + (j - i))) = 40 by omega]
      congr 1
      rw [Int.add_mul, Int.mul_assoc, Int.mul_assoc, ← Int.pow_add, ← Int.pow_add, show (((i + (j - i) : Nat) : Int) - i).toNat + (40 - (i + (j - i))) = k by omega, show (((i + (j - i) : Nat) : Int) - j).toNat + (40 - (i + (j - i))) = l by omega, h3, g3]
    rw [er]
  rw [e]
  rfl
theorem dy_num {n : Int} (hn : 0 ≤ n) : 0 ≤ (dy n).num ∧ ((dy n).num = 0 ↔ n = 0) := by
  obtain ⟨j, k, h1, h2, h3, h4, h5⟩ := red_val 40 n hn
  refine ⟨h4, fun h => ?_, fun h => by rw [h]; rfl⟩
  unfold dy at h
  rw [h, Int.zero_mul] at h3
  exact h3.symm
theorem kinship_val {x : Family} (hf : specIsFamily x = true) {a b : Int} (ha : 0 ≤ a ∧ a < x.people.length) (hb : 0 ≤ b ∧ b < x.people.length) : implKinship x a b = dy (kn x a b) := by
  unfold implKinship
  rw [(implHas2 x a b).2 ⟨hf, ha, hb⟩]
  simp only [Bool.not_true, cond_false]
  rw [btw_val hf ha hb, wholeDyad_eq (kn_rng hf ha hb).1.1]
/-- The kinship of the parents. -/
def knp (x : Family) (p : Int) : Int := bif decide (0 ≤ (x.people.getD p.toNat default).father) && decide (0 ≤ (x.people.getD p.toNat default).mother) then kn x (x.people.getD p.toNat default).father (x.people.getD p.toNat default).mother else 0
theorem inbreeding_val {x : Family} (hf : specIsFamily x = true) {p : Int} (hp : 0 ≤ p ∧ p < x.people.length) : implInbreeding x p = dy (knp x p) ∧ Good (knp x p) ∧ knp x p ≤ 1099511627776 ∧ 2 * kn x p p = 1099511627776 + knp x p := by
  unfold implInbreeding kinInbreeding
  rw [(implHas1 x p).2 ⟨hf, hp⟩, kn_self hf hp]
  simp only [Bool.not_true, cond_false]
  unfold knp
  cases c : decide (0 ≤ (x.people.getD p.toNat default).father) && decide (0 ≤ (x.people.getD p.toNat default).mother)
  · have e : (decide ((x.people.getD p.toNat default).father < 0) || decide ((x.people.getD p.toNat default).mother < 0)) = true := by
      cases h : decide ((x.people.getD p.toNat default).father < 0) || decide ((x.people.getD p.toNat default).mother < 0)
      · simp only [Bool.or_eq_false_iff, decide_eq_false_iff_not] at h
        rw [decide_eq_true (by omega), decide_eq_true (by omega)] at c; cases c
      · rfl
    rw [e]
    simp only [cond_true, cond_false]
    exact ⟨wholeDyad_eq (Int.le_refl _), ⟨⟨Int.le_refl _, by omega⟩, ⟨0, rfl⟩⟩, by omega, by omega⟩
  · have h1 := two_par3 hf hp c
    have e : (decide ((x.people.getD p.toNat default).father < 0) || decide ((x.people.getD p.toNat default).mother < 0)) = false := by
      simp only [Bool.or_eq_false_iff, decide_eq_false_iff_not]; omega
    rw [e]
    simp only [cond_false, cond_true]
    have h2 : (0 ≤ (x.people.getD p.toNat default).father ∧ (x.people.getD p.toNat default).father < x.people.length) ∧ 0 ≤ (x.people.getD p.toNat default).mother ∧ (x.people.getD p.toNat default).mother < x.people.length := by omega
    have h3 := kn_good hf h2.1 h2.2
    have h4 := (kn_rng hf h2.1 h2.2).2
    rw [btw_val hf h2.1 h2.2]
    exact ⟨wholeDyad_eq h3.1.1.1, h3.1, h3.2, by omega⟩
theorem good_one : Good 1099511627776 := ⟨⟨by decide, by decide⟩, ⟨4194304, by decide⟩⟩
end Go.Proofs.Ytanpfncfphpddab
