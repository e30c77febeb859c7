import Derived.Test.YtepefimocflfkaaVS63
set_option maxHeartbeats 4000000
set_option linter.unusedSimpArgs false
set_option linter.unusedVariables false
namespace Go.Proofs.Ytepefimocflfkaa
open Go Go.Lite Go.Proofs
/-! ### The impediments of early persons -/
structure Years (x : Family) : Prop where
  p : ∀ i j : Nat, i ≤ j → j < x.people.length → (x.people.getD i default).born ≤ (x.people.getD j default).born
  u : ∀ i j : Nat, i ≤ j → j < x.unions.length → (x.unions.getD i default).from0 ≤ (x.unions.getD j default).from0
/-! ### The family in the order of the years -/
theorem map_loop {α β γ : Type} [Inhabited α] (f : α → β) (l : List α) (k : List β → γ) : loopN (fun i (v : List β) next => next (v ++ [f (l.getD i default)])) k l.length 0 [] = k (l.map f) := by
  refine loopN_to (fun i (v : List β) => v = (l.take i).map f) (fun r => r = k (l.map f)) rfl (fun i v next hi hv hn => hn _ ?_) (fun v hv => by rw [hv, List.take_length])
  rw [take_snoc l default hi, List.map_append, ← hv]; rfl
def byBirth (x : Family) : List Int := l11Order (x.people.map fun p => p.born)
def byFrom (R : Family) : List Int := l11Order (R.unions.map fun u => u.from0)
theorem byBirth_ok (x : Family) : PermOk x (byBirth x) := permOk (by have h := (order_ok (x.people.map fun p => p.born)).perm; rw [List.length_map] at h; exact h)
theorem order_map {α : Type} [Inhabited α] (f : α → Int) (l : List α) : (l11Order (l.map f)).Perm (upto l.length) := by
  have h := (order_ok (l.map f)).perm
  rw [List.length_map] at h
  exact h
theorem order_map_sorted {α : Type} [Inhabited α] (f : α → Int) (l : List α) {i j : Nat} (hij : i ≤ j) (hj : j < (l11Order (l.map f)).length) : f (l.getD ((l11Order (l.map f)).getD i default).toNat default) ≤ f (l.getD ((l11Order (l.map f)).getD j default).toNat default) := by
  have h := order_sorted (l.map f) hij hj
  have hr : ∀ k : Nat, k < (l11Order (l.map f)).length → 0 ≤ (l11Order (l.map f)).getD k default ∧ (l11Order (l.map f)).getD k default < l.length := fun k hk => mem_upto.1 ((order_map f l).mem_iff.1 (getD_mem hk))
  have r1 := hr i (by omega)
  have r2 := hr j hj
  rw [getD_map f (by omega), getD_map f (by omega)] at h
  exact h
theorem byBirth_sorted (x : Family) {i j : Nat} (hij : i ≤ j) (hj : j < (byBirth x).length) : (x.people.getD ((byBirth x).getD i default).toNat default).born ≤ (x.people.getD ((byBirth x).getD j default).toNat default).born := order_map_sorted (fun p : Person => p.born) x.people hij hj
theorem byFrom_sorted (x : Family) {i j : Nat} (hij : i ≤ j) (hj : j < (byFrom x).length) : (x.unions.getD ((byFrom x).getD i default).toNat default).from0 ≤ (x.unions.getD ((byFrom x).getD j default).toNat default).from0 := order_map_sorted (fun p : Union => p.from0) x.unions hij hj
theorem sorted_val {x : Family} (hx : specIsFamily x = true) : l11Sorted x = ⟨(reFamily x (byBirth x)).people, (byFrom (reFamily x (byBirth x))).map fun k => (reFamily x (byBirth x)).unions.getD k.toNat default⟩ := by
  have hv : specPermute x (byBirth x) = (reFamily x (byBirth x), true) := by
    rw [permute_val hx (byBirth_ok x), perm_fam hx (byBirth_ok x) (fun i j h1 h2 => byBirth_sorted x h1 h2)]; rfl
  unfold l11Sorted
  rw [map_loop (fun p : Person => p.born), show l11Order (x.people.map fun p => p.born) = byBirth x from rfl, hv]
  dsimp only
  rw [map_loop (fun u : Union => u.from0), map_loop (fun k : Int => ((reFamily x (byBirth x)).unions).getD k.toNat default)]
  rfl
theorem sorted_ok {x : Family} (hx : specIsFamily x = true) : specIsFamily (l11Sorted x) = true ∧ Years (l11Sorted x) ∧ (l11Sorted x).people.length = x.people.length ∧ (l11Sorted x).unions.length = x.unions.length := by
  rw [sorted_val hx]
  have hp := byBirth_ok x
  have hR := perm_fam hx hp (fun i j h1 h2 => byBirth_sorted x h1 h2)
  have ho : (byFrom (reFamily x (byBirth x))).Perm (upto (reFamily x (byBirth x)).unions.length) := by
    have h := (order_ok ((reFamily x (byBirth x)).unions.map fun u => u.from0)).perm
    rw [List.length_map] at h
    exact h
  have hpl : (reFamily x (byBirth x)).people.length = x.people.length := by simp [reFamily, hp.len]
  have hul : (reFamily x (byBirth x)).unions.length = x.unions.length := by simp [reFamily]
  have hol : (byFrom (reFamily x (byBirth x))).length = (reFamily x (byBirth x)).unions.length := by rw [ho.length_eq, upto_len]
  refine ⟨fam_reorder (P := (reFamily x (byBirth x)).people) (U := (reFamily x (byBirth x)).unions) hR ho, ⟨fun i j hij hj => ?_, fun i j hij hj => ?_⟩, hpl, by dsimp only; rw [List.length_map, hol, hul]⟩
  · dsimp only at hj ⊢
    have hget : ∀ j : Nat, j < x.people.length → ((reFamily x (byBirth x)).people.getD j default).born = (x.people.getD ((byBirth x).getD j default).toNat default).born := fun j hj => by
      have := getD_map (fun i : Int => rePerson (l1Inverse (byBirth x) ((x.people.length : Nat) : Int)).1 (x.people.getD i.toNat default)) (l := byBirth x) (k := j) (by rw [hp.len]; exact hj)
      show (((byBirth x).map fun i => rePerson (l1Inverse (byBirth x) ((x.people.length : Nat) : Int)).1 (x.people.getD i.toNat default)).getD j default).born = _
      rw [this]; rfl
    rw [hget i (by omega), hget j (by omega)]
    exact byBirth_sorted x hij (by rw [hp.len]; omega)
  · dsimp only at hj ⊢
    rw [List.length_map] at hj
    have hr : ∀ k : Nat, k < (byFrom (reFamily x (byBirth x))).length → 0 ≤ (byFrom (reFamily x (byBirth x))).getD k default ∧ (byFrom (reFamily x (byBirth x))).getD k default < (reFamily x (byBirth x)).unions.length := fun k hk => mem_upto.1 (ho.mem_iff.1 (getD_mem hk))
    rw [getD_map (fun k : Int => (reFamily x (byBirth x)).unions.getD k.toNat default) (by omega), getD_map (fun k : Int => (reFamily x (byBirth x)).unions.getD k.toNat default) hj]
    exact byFrom_sorted (reFamily x (byBirth x)) hij hj
/-! ### Stable sorts -/
theorem swp_mem {α : Type} [Inhabited α] {l : List α} {i j : Int} (hi : 0 ≤ i ∧ i < l.length) (hj : 0 ≤ j ∧ j < l.length) {x : α} (hx : x ∈ swp l i j) : x ∈ l := by
  unfold swp at hx
  rcases List.mem_or_eq_of_mem_set hx with hx | hx
  · rcases List.mem_or_eq_of_mem_set hx with hx | hx
    · exact hx
    · rw [hx]; unfold gi; exact getD_mem (by omega)
  · rw [hx]; unfold gi; exact getD_mem (by omega)
theorem jnQ {S α : Type} {f : (S → α) → α} {k : S → α} (J : S → Prop) (Q : α → Prop) (h1 : ∀ K : S → α, (∀ s, J s → Q (K s)) → Q (f K)) (h2 : ∀ s, J s → Q (k s)) : Q (jn f k) := h1 k h2
def gIns {α : Type} [Inhabited α] (R : α → α → Bool) (l : List α) (x1 x2 : Int) : List α := loopW (fun (v1 : Int × (List α)) nx1 => bif (decide (v1.1 < x2)) then (loopW (fun (v2 : Int × (List α)) next => bif ((decide (x1 < v2.1)) && (R (gi v2.2 v2.1) (gi v2.2 (v2.1 - 1)))) then (next (v2.1 - 1, (swp v2.2 v2.1 (v2.1 - 1)))) else (nx1 (v1.1 + 1, v2.2))) ((v1.1).toNat + 1) (v1.1, v1.2)) else v1.2) ((x2 - (x1 + 1)).toNat + 1) (x1 + 1, l)
def gSwp {α : Type} [Inhabited α] (l : List α) (x1 x2 x3 : Int) : List α := loopN (fun i1 (v1 : (List α)) next => next (swp v1 (x1 + ((i1 : Nat) : Int)) (x2 + ((i1 : Nat) : Int)))) (fun (v1 : (List α)) => v1) x3.toNat 0 l
def gRot {α : Type} [Inhabited α] (l : List α) (x1 x2 x3 : Int) : List α := loopW (fun (v1 : Int × Int × (List α)) next => bif (!decide (v1.1 = v1.2.1)) then (bif (decide (v1.2.1 < v1.1)) then (next (v1.1 - v1.2.1, v1.2.1, gSwp v1.2.2 (x2 - v1.1) x2 v1.2.1)) else (next (v1.1, v1.2.1 - v1.1, gSwp v1.2.2 (x2 - v1.1) ((x2 + v1.2.1) - v1.1) v1.1))) else (gSwp v1.2.2 (x2 - v1.1) x2 v1.1)) ((x2 - x1 + (x3 - x2)).toNat + 1) (x2 - x1, x3 - x2, l)
def gSym {α : Type} [Inhabited α] (R : α → α → Bool) : Nat → List α → Int → Int → Int → (List α)
  | 0, _, _, _, _ => default
  | m + 1, l, x1, x2, x3 => bif (decide ((x2 - x1) = 1)) then (jn (fun K1 => loopW (fun (v1 : Int × Int) next => bif (decide (v1.1 < v1.2)) then (bif (R (gi l ((v1.1 + v1.2) / 2 ^ 1)) (gi l x1)) then (next (((v1.1 + v1.2) / 2 ^ 1) + 1, v1.2)) else (next (v1.1, (v1.1 + v1.2) / 2 ^ 1))) else (K1 v1.1)) ((x3 - (x2)).toNat + 1) (x2, x3)) (fun (j1 : Int) => loopW (fun (v2 : Int × (List α)) next => bif (decide (v2.1 < (j1 - 1))) then (next (v2.1 + 1, (swp v2.2 v2.1 (v2.1 + 1)))) else v2.2) ((j1 - (x1)).toNat + 1) (x1, l))) else (bif (decide ((x3 - x2) = 1)) then (jn (fun K2 => loopW (fun (v3 : Int × Int) next => bif (decide (v3.1 < v3.2)) then (bif (!(R (gi l x2) (gi l ((v3.1 + v3.2) / 2 ^ 1)))) then (next (((v3.1 + v3.2) / 2 ^ 1) + 1, v3.2)) else (next (v3.1, (v3.1 + v3.2) / 2 ^ 1))) else (K2 v3.1)) ((x2 - (x1)).toNat + 1) (x1, x2)) (fun (j2 : Int) => loopW (fun (v4 : Int × (List α)) next => bif (decide (j2 < v4.1)) then (next (v4.1 - 1, (swp v4.2 v4.1 (v4.1 - 1)))) else v4.2) ((x2 - (j2)).toNat + 1) (x2, l))) else (jn (fun K3 => bif (decide (((x1 + x3) / 2 ^ 1) < x2)) then (K3 ((((x1 + x3) / 2 ^ 1) + x2) - x3, (x1 + x3) / 2 ^ 1)) else (K3 (x1, x2))) (fun (j3 : Int × Int) => jn (fun K4 => loopW (fun (v5 : Int × Int) next => bif (decide (v5.1 < v5.2)) then (bif (!(R (gi l (((((x1 + x3) / 2 ^ 1) + x2) - 1) - ((v5.1 + v5.2) / 2 ^ 1))) (gi l ((v5.1 + v5.2) / 2 ^ 1)))) then (next (((v5.1 + v5.2) / 2 ^ 1) + 1, v5.2)) else (next (v5.1, (v5.1 + v5.2) / 2 ^ 1))) else (K4 v5.1)) ((j3.2 - (j3.1)).toNat + 1) (j3.1, j3.2)) (fun (j4 : Int) => jn (fun K5 => bif ((decide (j4 < x2)) && (decide (x2 < ((((x1 + x3) / 2 ^ 1) + x2) - j4)))) then (K5 (gRot l j4 x2 ((((x1 + x3) / 2 ^ 1) + x2) - j4))) else (K5 l)) (fun (j5 : (List α)) => jn (fun K6 => bif ((decide (x1 < j4)) && (decide (j4 < ((x1 + x3) / 2 ^ 1)))) then (K6 (gSym R m j5 x1 j4 ((x1 + x3) / 2 ^ 1))) else (K6 j5)) (fun (j6 : (List α)) => bif ((decide (((x1 + x3) / 2 ^ 1) < ((((x1 + x3) / 2 ^ 1) + x2) - j4))) && (decide (((((x1 + x3) / 2 ^ 1) + x2) - j4) < x3))) then (gSym R m j6 ((x1 + x3) / 2 ^ 1) ((((x1 + x3) / 2 ^ 1) + x2) - j4) x3) else j6))))))
def gStb {α : Type} [Inhabited α] (R : α → α → Bool) (l : List α) (x1 : Int) : (List α) := loopW (fun (v1 : Int × Int × (List α)) next => bif (decide (v1.2.1 ≤ x1)) then (jn (fun K1 => K1 (gIns R v1.2.2 v1.1 v1.2.1)) (fun (j1 : (List α)) => next (v1.2.1, v1.2.1 + 20, j1))) else (jn (fun K2 => K2 (gIns R v1.2.2 v1.1 x1)) (fun (j2 : (List α)) => loopW (fun (v2 : Int × (List α)) nx2 => bif (decide (v2.1 < x1)) then (loopW (fun (v3 : Int × Int × (List α)) next => bif (decide (v3.2.1 ≤ x1)) then (jn (fun K3 => K3 (gSym R 256 v3.2.2 v3.1 (v3.1 + v2.1) v3.2.1)) (fun (j3 : (List α)) => next (v3.2.1, v3.2.1 + (2 * v2.1), j3))) else (bif (decide ((v3.1 + v2.1) < x1)) then (nx2 (v2.1 * 2, gSym R 256 v3.2.2 v3.1 (v3.1 + v2.1) x1)) else (nx2 (v2.1 * 2, v3.2.2)))) ((x1 + 1000 - (2 * v2.1)).toNat + 1) (0, 2 * v2.1, v2.2)) else v2.2) ((x1 + 20 - (20)).toNat + 1) (20, j2)))) ((x1 + 20 - (20)).toNat + 1) (0, 20, l)
/-- The same length, and nothing new. -/
def Pm {α : Type} (l l' : List α) : Prop := l'.length = l.length ∧ ∀ y ∈ l', y ∈ l
theorem Pm.refl {α : Type} (l : List α) : Pm l l := ⟨rfl, fun _ h => h⟩
theorem Pm.trans {α : Type} {l m n : List α} (h : Pm l m) (h2 : Pm m n) : Pm l n := ⟨h2.1.trans h.1, fun y hy => h.2 y (h2.2 y hy)⟩
theorem Pm.swp {α : Type} [Inhabited α] {l m : List α} (h : Pm l m) {i j : Int} (hi : 0 ≤ i ∧ i < l.length) (hj : 0 ≤ j ∧ j < l.length) : Pm l (swp m i j) :=
  ⟨by rw [swp_len]; exact h.1, fun y hy => h.2 y (swp_mem (by rw [h.1]; exact hi) (by rw [h.1]; exact hj) hy)⟩
theorem gIns_pm {α : Type} [Inhabited α] (R : α → α → Bool) {l : List α} {a b : Int} (h : 0 ≤ a ∧ a ≤ b ∧ b ≤ l.length) : Pm l (gIns R l a b) := by
  unfold gIns
  refine loopW_to (fun v => a + 1 ≤ v.1 ∧ Pm l v.2) (fun v => (b - v.1).toNat) (fun r => Pm l r) (fun v next hv hn => ?_) _ _ (by dsimp only; omega) ⟨by simp, .refl _⟩
  refine cond_both (p := fun r => Pm l r) (fun hc => ?_) (fun _ => hv.2)
  have hc := of_decide_eq_true hc
  refine loopW_to (fun w => (a ≤ w.1 ∧ w.1 ≤ v.1) ∧ Pm l w.2) (fun w => w.1.toNat) (fun r => Pm l r) (fun w next2 hw hn2 => ?_) _ _ (by dsimp only; omega) ⟨by dsimp only; omega, hv.2⟩
  refine cond_both (p := fun r => Pm l r) (fun hd => ?_) (fun _ => hn _ ⟨by dsimp only; omega, hw.2⟩ (by dsimp only; omega))
  simp only [Bool.and_eq_true, decide_eq_true_eq] at hd
  exact hn2 _ ⟨by dsimp only; omega, hw.2.swp ⟨by omega, by omega⟩ ⟨by omega, by omega⟩⟩ (by dsimp only; omega)
theorem gSwp_pm {α : Type} [Inhabited α] {l : List α} {a b n : Int} (h : (0 ≤ a ∧ 0 ≤ b ∧ 0 ≤ n) ∧ a + n ≤ l.length ∧ b + n ≤ l.length) : Pm l (gSwp l a b n) := by
  unfold gSwp
  exact loopN_to (fun _ r => Pm l r) (fun r => Pm l r) (.refl _) (fun i v next hi hv hn => hn _ (hv.swp ⟨by omega, by omega⟩ ⟨by omega, by omega⟩)) (fun v hv => hv)
theorem gRot_pm {α : Type} [Inhabited α] {l : List α} {a m b : Int} (h : 0 ≤ a ∧ a < m ∧ m < b ∧ b ≤ l.length) : Pm l (gRot l a m b) := by
  unfold gRot
  refine loopW_to (fun v => (1 ≤ v.1 ∧ 1 ≤ v.2.1 ∧ v.1 ≤ m - a ∧ v.2.1 ≤ b - m) ∧ Pm l v.2.2) (fun v => (v.1 + v.2.1).toNat) (fun r => Pm l r) (fun v next hv hn => ?_) _ _ (by dsimp only; omega) ⟨by dsimp only; omega, .refl _⟩
  have hl := hv.2.1
  refine cond_both (p := fun r => Pm l r) (fun hc => ?_) (fun hc => hv.2.trans (gSwp_pm (by simp only [Bool.not_eq_false', decide_eq_true_eq] at hc; omega)))
  simp only [Bool.not_eq_true', decide_eq_false_iff_not] at hc
  refine cond_both (p := fun r => Pm l r) (fun hd => ?_) (fun hd => ?_)
  · have hd := of_decide_eq_true hd
    exact hn _ ⟨by dsimp only; omega, hv.2.trans (gSwp_pm (by omega))⟩ (by dsimp only; omega)
  · have hd := of_decide_eq_false hd
    exact hn _ ⟨by dsimp only; omega, hv.2.trans (gSwp_pm (by omega))⟩ (by dsimp only; omega)
theorem gSym_pm {α : Type} [Inhabited α] (R : α → α → Bool) : ∀ (m : Nat) {l : List α} {a d b : Int}, (b - a).toNat < m → 0 ≤ a ∧ a < d ∧ d < b ∧ b ≤ l.length → Pm l (gSym R m l a d b)
  | 0, l, a, d, b, hm, _ => absurd hm (Nat.not_lt_zero _)
  | m + 1, l, a, d, b, hm, h => by
    rw [gSym]
    refine cond_both (p := fun r => Pm l r) (fun c1 => ?_) (fun c1 => cond_both (p := fun r => Pm l r) (fun c2 => ?_) (fun c2 => ?_))
    · refine jnQ (fun (j : Int) => j ≤ b) (fun r => Pm l r) (fun K hK => ?_) (fun j hj => ?_)
      · refine loopW_to (fun v => v.1 ≤ v.2 ∧ v.2 ≤ b) (fun v => (v.2 - v.1).toNat) (fun r => Pm l r) (fun v next hv hn => ?_) _ _ (by dsimp only; omega) (by dsimp only; omega)
        refine cond_both (p := fun r => Pm l r) (fun hc => ?_) (fun _ => hK _ (by omega))
        have hc := of_decide_eq_true hc
        exact cond_both (p := fun r => Pm l r) (fun _ => hn _ (by dsimp only; omega) (by dsimp only; omega)) (fun _ => hn _ (by dsimp only; omega) (by dsimp only; omega))
      · refine loopW_to (fun v => a ≤ v.1 ∧ Pm l v.2) (fun v => (j - v.1).toNat) (fun r => Pm l r) (fun v next hv hn => ?_) _ _ (by dsimp only; omega) ⟨by dsimp only; omega, .refl _⟩
        refine cond_both (p := fun r => Pm l r) (fun hc => ?_) (fun _ => hv.2)
        have hc := of_decide_eq_true hc
        exact hn _ ⟨by dsimp only; omega, hv.2.swp ⟨by omega, by omega⟩ ⟨by omega, by omega⟩⟩ (by dsimp only; omega)
    · refine jnQ (fun (j : Int) => a ≤ j) (fun r => Pm l r) (fun K hK => ?_) (fun j hj => ?_)
      · refine loopW_to (fun v => a ≤ v.1 ∧ v.1 ≤ v.2) (fun v => (v.2 - v.1).toNat) (fun r => Pm l r) (fun v next hv hn => ?_) _ _ (by dsimp only; omega) (by dsimp only; omega)
        refine cond_both (p := fun r => Pm l r) (fun hc => ?_) (fun _ => hK _ (by omega))
        have hc := of_decide_eq_true hc
        exact cond_both (p := fun r => Pm l r) (fun _ => hn _ (by dsimp only; omega) (by dsimp only; omega)) (fun _ => hn _ (by dsimp only; omega) (by dsimp only; omega))
      · refine loopW_to (fun v => v.1 ≤ d ∧ Pm l v.2) (fun v => (v.1 - j).toNat) (fun r => Pm l r) (fun v next hv hn => ?_) _ _ (by dsimp only; omega) ⟨by dsimp only; omega, .refl _⟩
        refine cond_both (p := fun r => Pm l r) (fun hc => ?_) (fun _ => hv.2)
        have hc := of_decide_eq_true hc
        exact hn _ ⟨by dsimp only; omega, hv.2.swp ⟨by omega, by omega⟩ ⟨by omega, by omega⟩⟩ (by dsimp only; omega)
    · have c1 := of_decide_eq_false c1
      have c2 := of_decide_eq_false c2
      refine jnQ (fun (j : Int × Int) => (a ≤ j.1 ∧ j.1 ≤ j.2 ∧ j.2 ≤ d) ∧ j.2 ≤ (a + b) / 2 ^ 1 ∧ (a + b) / 2 ^ 1 + d - j.1 ≤ b) (fun r => Pm l r) (fun K hK => ?_) (fun j hj => ?_)
      · refine cond_both (p := fun r => Pm l r) (fun hc => hK _ ?_) (fun hc => hK _ ?_)
        · have hc := of_decide_eq_true hc; dsimp only; omega
        · have hc := of_decide_eq_false hc; dsimp only; omega
      · refine jnQ (fun (s : Int) => j.1 ≤ s ∧ s ≤ j.2) (fun r => Pm l r) (fun K hK => ?_) (fun s hs => ?_)
        · refine loopW_to (fun v => j.1 ≤ v.1 ∧ v.1 ≤ v.2 ∧ v.2 ≤ j.2) (fun v => (v.2 - v.1).toNat) (fun r => Pm l r) (fun v next hv hn => ?_) _ _ (by dsimp only; omega) (by dsimp only; omega)
          refine cond_both (p := fun r => Pm l r) (fun hc => ?_) (fun _ => hK _ (by omega))
          have hc := of_decide_eq_true hc
          exact cond_both (p := fun r => Pm l r) (fun _ => hn _ (by dsimp only; omega) (by dsimp only; omega)) (fun _ => hn _ (by dsimp only; omega) (by dsimp only; omega))
        · refine jnQ (fun (x : List α) => Pm l x) (fun r => Pm l r) (fun K hK => ?_) (fun x hx => ?_)
          · refine cond_both (p := fun r => Pm l r) (fun hc => hK _ ?_) (fun hc => hK _ (.refl _))
            simp only [Bool.and_eq_true, decide_eq_true_eq] at hc
            exact gRot_pm (by omega)
          · have hxl := hx.1
            refine jnQ (fun (x : List α) => Pm l x) (fun r => Pm l r) (fun K hK => ?_) (fun z hz => ?_)
            · refine cond_both (p := fun r => Pm l r) (fun hc => hK _ ?_) (fun hc => hK _ hx)
              simp only [Bool.and_eq_true, decide_eq_true_eq] at hc
              exact hx.trans (gSym_pm R m (by omega) (by omega))
            · have hzl := hz.1
              refine cond_both (p := fun r => Pm l r) (fun hc => ?_) (fun hc => hz)
              simp only [Bool.and_eq_true, decide_eq_true_eq] at hc
              exact hz.trans (gSym_pm R m (by omega) (by omega))
end Go.Proofs.Ytepefimocflfkaa
