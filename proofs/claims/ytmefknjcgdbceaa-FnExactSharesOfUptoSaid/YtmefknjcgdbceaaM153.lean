import Derived.Test.YtmefknjcgdbceaaVS30
set_option maxHeartbeats 4000000
set_option linter.unusedSimpArgs false
set_option linter.unusedVariables false
namespace Go.Proofs.Ytmefknjcgdbceaa
open Go Go.Lite Go.Proofs
/-! ### Shares: parts of a whole, in units -/
theorem implGcd_val (a b : Nat) : implGcd (a : Int) (b : Int) = ((Nat.gcd a b : Nat) : Int) := by
  unfold implGcd
  refine loopW_to (fun (v : Int × Int) => ∃ c d : Nat, v = ((c : Int), (d : Int)) ∧ Nat.gcd c d = Nat.gcd a b) (fun v => v.2.toNat) (fun (r : Int) => r = ((Nat.gcd a b : Nat) : Int)) (fun v next hv hn => ?_) _ _ (Nat.lt_succ_self _) ⟨a, b, rfl, rfl⟩
  obtain ⟨c, d, rfl, hg⟩ := hv
  refine cond_both (p := fun (r : Int) => r = ((Nat.gcd a b : Nat) : Int)) (fun hc => ?_) (fun hc => ?_)
  · have hc : ¬ (d : Int) = 0 := by simpa using hc
    have hd : 0 < d := by omega
    have e : (c : Int).tmod (d : Int) = ((c % d : Nat) : Int) := by rw [Int.tmod_eq_emod_of_nonneg (by omega)]; rfl
    refine hn _ ⟨d, c % d, by rw [e], ?_⟩ ?_
    · rw [← hg, Nat.gcd_comm c d, Nat.gcd_rec d c, Nat.gcd_comm]
    · rw [e]
      have := Nat.mod_lt c hd
      show ((c % d : Nat) : Int).toNat < (d : Int).toNat
      omega
  · have hc : (d : Int) = 0 := by simpa using hc
    have hd : d = 0 := by omega
    subst hd
    rw [Nat.gcd_zero_right] at hg
    show (c : Int) = _
    rw [hg]
theorem add_red {D S u den : Nat} (hD : 0 < D) (hd : 0 < den) (hu : u * den = D) :
    ((S / Nat.gcd S D) * den + D / Nat.gcd S D) / Nat.gcd ((S / Nat.gcd S D) * den + D / Nat.gcd S D) ((D / Nat.gcd S D) * den) = (S + u) / Nat.gcd (S + u) D ∧
    ((D / Nat.gcd S D) * den) / Nat.gcd ((S / Nat.gcd S D) * den + D / Nat.gcd S D) ((D / Nat.gcd S D) * den) = D / Nat.gcd (S + u) D ∧
    (S + u ≤ D → (S / Nat.gcd S D) * den + D / Nat.gcd S D ≤ (D / Nat.gcd S D) * den) := by
  have hg : 0 < Nat.gcd S D := Nat.gcd_pos_of_pos_right _ hD
  have h1 : S / Nat.gcd S D * Nat.gcd S D = S := Nat.div_mul_cancel (Nat.gcd_dvd_left S D)
  have h2 : D / Nat.gcd S D * Nat.gcd S D = D := Nat.div_mul_cancel (Nat.gcd_dvd_right S D)
  revert h1 h2 hg
  generalize S / Nat.gcd S D = s
  generalize D / Nat.gcd S D = d
  generalize Nat.gcd S D = g
  intro hg h1 h2
  have e1 : (s * den + d) * g = (S + u) * den := by
    rw [Nat.add_mul, Nat.add_mul, hu, h2, Nat.mul_right_comm, h1]
  have e2 : (d * den) * g = D * den := by rw [Nat.mul_right_comm, h2]
  have e3 : Nat.gcd (s * den + d) (d * den) * g = Nat.gcd (S + u) D * den := by
    rw [← Nat.gcd_mul_right, e1, e2, Nat.gcd_mul_right]
  refine ⟨?_, ?_, fun h => ?_⟩
  · rw [← Nat.mul_div_mul_right _ _ hg, e1, e3, Nat.mul_div_mul_right _ _ hd]
  · rw [← Nat.mul_div_mul_right _ _ hg, e2, e3, Nat.mul_div_mul_right _ _ hd]
  · have : (s * den + d) * g ≤ (d * den) * g := by rw [e1, e2]; exact Nat.mul_le_mul_right _ h
    exact Nat.le_of_mul_le_mul_right this hg
theorem taking_val (x : estate) (l : List Int) : taking x l = (l.filter (fun c => x.takes.getD c.toNat default), x.takes, x.num, x.den) := by
  unfold taking
  refine loopN_to (fun i (v : List Int) => v = (l.take i).filter (fun c => x.takes.getD c.toNat default)) (fun (r : (List Int) × (List Bool) × (List Int) × (List Int)) => r = (l.filter (fun c => x.takes.getD c.toNat default), x.takes, x.num, x.den)) (by simp) (fun i v next hi hv hn => ?_) (fun v hv => by rw [hv, List.take_length])
  refine cond_both (p := fun (r : (List Int) × (List Bool) × (List Int) × (List Int)) => r = (l.filter (fun c => x.takes.getD c.toNat default), x.takes, x.num, x.den)) (fun c => hn _ ?_) (fun c => hn _ ?_)
  · rw [take_snoc _ default hi, filter_snoc, c, hv]; rfl
  · rw [take_snoc _ default hi, filter_snoc, c, hv]; simp
/-- The children who take part. -/
def kidsT (f : Family) (tk : List Bool) (q : Int) : List Int := (l1Children f q).filter fun c => tk.getD c.toNat default
theorem kidsT_mem {f : Family} (hf : specIsFamily f = true) {tk : List Bool} {q c : Int} (hq : 0 ≤ q) (h : c ∈ kidsT f tk q) : (q < c ∧ c < f.people.length) ∧ tk.getD c.toNat default = true ∧ c ∈ l1Children f q := by
  have h1 := List.mem_filter.1 h
  exact ⟨kid_lt hf hq h1.1, h1.2, h1.1⟩
theorem kidsT_len {f : Family} (tk : List Bool) (q : Int) : (kidsT f tk q).length ≤ f.people.length := Nat.le_trans (List.length_filter_le _ _) (l1Children_okl f q).2
/-- What a part is divided by on a way down. -/
inductive Ch (f : Family) (y : Int) (tk : List Bool) : Int → Nat → Prop
  | nil (q : Int) : Ch f y tk q 1
  | cons {q c : Int} {r : Nat} (hd : l1Alive f q y = false) (hc : c ∈ kidsT f tk q) (h : Ch f y tk c r) : Ch f y tk q ((kidsT f tk q).length * r)
/-- Fractions in lowest terms stand for numbers of units. -/
structure RepS (D : Nat) (S : List Nat) (num den : List Int) : Prop where
  pos : 0 < D
  ln : num.length = S.length
  ld : den.length = S.length
  nm : ∀ k : Nat, k < S.length → num.getD k default = ((S.getD k 0 / Nat.gcd (S.getD k 0) D : Nat) : Int)
  dn : ∀ k : Nat, k < S.length → den.getD k default = ((D / Nat.gcd (S.getD k 0) D : Nat) : Int)
mutual
/-- A part is given, in units. -/
def gS (f : Family) (y : Int) (tk : List Bool) : Nat → Int → Nat → List Nat → List Nat
  | 0, _, _, S => S
  | m + 1, q, u, S => bif l1Alive f q y then S.set q.toNat (S.getD q.toNat 0 + u) else dS f y tk m (kidsT f tk q) u S
def dS (f : Family) (y : Int) (tk : List Bool) : Nat → List Int → Nat → List Nat → List Nat
  | 0, _, _, S => S
  | m + 1, l, u, S => l.foldl (fun S c => gS f y tk m c (u / l.length) S) S
end
def lmu (n : Nat) (l : List Int) : Nat := l.foldr (fun c a => max (2 * ((n : Int) - c).toNat + 1) a) 0
theorem lmu_le {n : Nat} : ∀ {l : List Int} {k : Nat}, lmu n l ≤ k ↔ ∀ c ∈ l, 2 * ((n : Int) - c).toNat + 1 ≤ k
  | [], k => by simp [lmu]
  | c :: l, k => by
    have h := lmu_le (n := n) (l := l) (k := k)
    unfold lmu at h ⊢
    rw [List.foldr_cons]
    constructor
    · intro hh d hd
      rcases List.mem_cons.1 hd with e | hd
      · subst e; omega
      · exact h.1 (by omega) d hd
    · intro hh
      have h1 := hh c (by simp)
      have h2 := h.2 fun d hd => hh d (by simp [hd])
      omega
/-- Who takes part is alive, or has children who do. -/
structure TkOk (f : Family) (y : Int) (tk : List Bool) : Prop where
  len : tk.length = f.people.length
  kid : ∀ q : Int, 0 ≤ q → tk.getD q.toNat default = true → l1Alive f q y = true ∨ kidsT f tk q ≠ []
/-- A part is within bounds on all ways down. -/
def Bdg (f : Family) (y : Int) (tk : List Bool) (D : Nat) (den : Nat) (q : Int) : Prop := ∀ r, Ch f y tk q r → den * r ∣ D ∧ den * r * D ≤ 9223372036854775807
theorem Bdg.kid {f : Family} {y : Int} {tk : List Bool} {D den : Nat} {q c : Int} (h : Bdg f y tk D den q) (hd : l1Alive f q y = false) (hc : c ∈ kidsT f tk q) : Bdg f y tk D (den * (kidsT f tk q).length) c := fun r hr => by
  have := h _ (.cons hd hc hr)
  rw [← Nat.mul_assoc] at this
  exact this
theorem RepS.add {D : Nat} {S : List Nat} {num den : List Int} (h : RepS D S num den) {k u d : Nat} (hk : k < S.length) (hd : 0 < d) (hu : u * d = D) :
    RepS D (S.set k (S.getD k 0 + u)) (num.set k (((num.getD k default) * (d : Int) + 1 * (den.getD k default)).tdiv (implGcd ((num.getD k default) * (d : Int) + 1 * (den.getD k default)) ((den.getD k default) * (d : Int))))) (den.set k (((den.getD k default) * (d : Int)).tdiv (implGcd ((num.getD k default) * (d : Int) + 1 * (den.getD k default)) ((den.getD k default) * (d : Int))))) := by
  have e1 := h.nm k hk
  have e2 := h.dn k hk
  have hr := add_red (S := S.getD k 0) h.pos hd hu
  rw [e1, e2]
  have a1 : ((S.getD k 0 / Nat.gcd (S.getD k 0) D : Nat) : Int) * (d : Int) + 1 * ((D / Nat.gcd (S.getD k 0) D : Nat) : Int) = (((S.getD k 0 / Nat.gcd (S.getD k 0) D) * d + D / Nat.gcd (S.getD k 0) D : Nat) : Int) := by
    rw [Int.one_mul]; simp only [Int.natCast_add, Int.natCast_mul]
  have a2 : ((D / Nat.gcd (S.getD k 0) D : Nat) : Int) * (d : Int) = (((D / Nat.gcd (S.getD k 0) D) * d : Nat) : Int) := by rw [Int.natCast_mul]
  rw [a1, a2, implGcd_val, ← Int.ofNat_tdiv, ← Int.ofNat_tdiv, hr.1, hr.2.1]
  refine ⟨h.pos, by simp [h.ln], by simp [h.ld], fun j hj => ?_, fun j hj => ?_⟩
  · rw [List.length_set] at hj
    have hj2 : j < num.length := by rw [h.ln]; exact hj
    rw [getD_set, getD_set]
    by_cases e : j = k
    · subst e; rw [if_pos ⟨rfl, hj2⟩, if_pos ⟨rfl, hj⟩]
    · rw [if_neg (fun x => e x.1), if_neg (fun x => e x.1)]; exact h.nm j hj
  · rw [List.length_set] at hj
    have hj2 : j < den.length := by rw [h.ld]; exact hj
    rw [getD_set, getD_set]
    by_cases e : j = k
    · subst e; rw [if_pos ⟨rfl, hj2⟩, if_pos ⟨rfl, hj⟩]
    · rw [if_neg (fun x => e x.1), if_neg (fun x => e x.1)]; exact h.dn j hj
theorem gS_len (f : Family) (y : Int) (tk : List Bool) : ∀ (m : Nat), (∀ q u S, (gS f y tk m q u S).length = S.length) ∧ ∀ l u S, (dS f y tk m l u S).length = S.length := by
  intro m
  induction m with
  | zero => exact ⟨fun _ _ _ => rfl, fun _ _ _ => rfl⟩
  | succ m ih =>
    refine ⟨fun q u S => ?_, fun l u S => ?_⟩
    · rw [gS]
      exact cond_both (p := fun (r : List Nat) => r.length = S.length) (fun _ => by simp) (fun _ => ih.2 _ _ _)
    · rw [dS]
      have key : ∀ (l : List Int) (v : Nat) (S : List Nat), (l.foldl (fun S c => gS f y tk m c v S) S).length = S.length := fun l v => by
        induction l with
        | nil => intro S; rfl
        | cons c l ih2 => intro S; rw [List.foldl_cons, ih2, ih.1]
      exact key _ _ _
theorem sum_set : ∀ (S : List Nat) (k v : Nat), k < S.length → (S.set k (S.getD k 0 + v)).sum = S.sum + v
  | [], k, v, h => absurd h (Nat.not_lt_zero _)
  | a :: S, 0, v, h => by simp; omega
  | a :: S, k + 1, v, h => by
    have := sum_set S k v (by simpa using h)
    simp only [List.set_cons_succ, List.getD_cons_succ, List.sum_cons]
    omega
/-- Where a part goes: all of it is given, to living takers on a way down. -/
theorem gS_sum {f : Family} (hf : specIsFamily f = true) {y : Int} {tk : List Bool} (ht : TkOk f y tk) : ∀ (m : Nat),
    (∀ (q : Int) (u : Nat) (S : List Nat), S.length = f.people.length → (0 ≤ q ∧ q < f.people.length) → tk.getD q.toNat default = true → 2 * ((f.people.length : Int) - q).toNat < m → (∀ r, Ch f y tk q r → r ∣ u) → (gS f y tk m q u S).sum = S.sum + u) ∧
    (∀ (l : List Int) (u : Nat) (S : List Nat), S.length = f.people.length → l ≠ [] → (∀ c ∈ l, (0 ≤ c ∧ c < f.people.length) ∧ tk.getD c.toNat default = true) → lmu f.people.length l < m → (∀ c ∈ l, ∀ r, Ch f y tk c r → l.length * r ∣ u) → (dS f y tk m l u S).sum = S.sum + u) := by
  intro m
  induction m with
  | zero => exact ⟨fun _ _ _ _ _ _ h => absurd h (Nat.not_lt_zero _), fun _ _ _ _ _ _ h => absurd h (Nat.not_lt_zero _)⟩
  | succ m ih =>
    refine ⟨fun q u S hS hq hk hm hr => ?_, fun l u S hS hl hk hm hr => ?_⟩
    · rw [gS]
      cases ha : l1Alive f q y with
      | true => rw [cond_true]; exact sum_set S _ _ (by omega)
      | false =>
        rw [cond_false]
        have hne := (ht.kid q hq.1 hk).resolve_left (by rw [ha]; simp)
        refine ih.2 _ _ _ hS hne (fun c hc => ?_) ?_ (fun c hc r h => hr _ (.cons ha hc h))
        · have := kidsT_mem hf hq.1 hc; exact ⟨by omega, this.2.1⟩
        · have h1 : lmu f.people.length (kidsT f tk q) ≤ 2 * ((f.people.length : Int) - q).toNat - 1 := lmu_le.2 fun c hc => by
            have := (kidsT_mem hf hq.1 hc).1; omega
          omega
    · rw [dS]
      have h0 : 0 < l.length := List.length_pos_iff.2 hl
      have hmu := lmu_le.1 (Nat.le_of_lt_succ hm)
      have hd : l.length ∣ u := by
        obtain ⟨c, hc⟩ := List.exists_mem_of_ne_nil l hl
        have := hr c hc 1 (.nil c)
        rwa [Nat.mul_one] at this
      have hr2 : ∀ c ∈ l, ∀ r, Ch f y tk c r → r ∣ u / l.length := fun c hc r h => Nat.dvd_div_of_mul_dvd (hr c hc r h)
      have key : ∀ (L : List Int), (∀ c ∈ L, c ∈ l) → ∀ S : List Nat, S.length = f.people.length → (L.foldl (fun S c => gS f y tk m c (u / l.length) S) S).sum = S.sum + L.length * (u / l.length) := fun L => by
        induction L with
        | nil => intro _ S _; simp
        | cons c L ih2 =>
          intro hL S hS
          have hc := hL c (by simp)
          rw [List.foldl_cons, ih2 (fun d hd => hL d (by simp [hd])) _ (by rw [(gS_len f y tk m).1]; exact hS), ih.1 c _ S hS (hk c hc).1 (hk c hc).2 (by have := hmu c hc; omega) (hr2 c hc), List.length_cons, Nat.add_mul]
          omega
      rw [key l (fun _ h => h) S hS, Nat.mul_div_cancel' hd]
/-- The numbers at which a part is added. -/
theorem RepS.rng {D : Nat} {S : List Nat} {num den : List Int} (h : RepS D S num den) {k u d : Nat} (hk : k < S.length) (hd : 0 < d) (hu : u * d = D) (hs : S.getD k 0 + u ≤ D) (hb : d * D ≤ 9223372036854775807) :
    (0 ≤ (num.getD k default) * (d : Int) ∧ (num.getD k default) * (d : Int) ≤ 9223372036854775807) ∧ (0 ≤ den.getD k default ∧ den.getD k default ≤ 9223372036854775807) ∧
    (0 ≤ (num.getD k default) * (d : Int) + 1 * (den.getD k default) ∧ (num.getD k default) * (d : Int) + 1 * (den.getD k default) ≤ 9223372036854775807) ∧ (0 < (den.getD k default) * (d : Int) ∧ (den.getD k default) * (d : Int) ≤ 9223372036854775807) := by
  have hg : 0 < Nat.gcd (S.getD k 0) D := Nat.gcd_pos_of_pos_right _ h.pos
  have h2 := Nat.div_le_self D (Nat.gcd (S.getD k 0) D)
  have h3 : 0 < D / Nat.gcd (S.getD k 0) D := Nat.div_pos (Nat.le_of_dvd h.pos (Nat.gcd_dvd_right _ _)) hg
  have h4 := (add_red (S := S.getD k 0) h.pos hd hu).2.2 hs
  have h5 : D / Nat.gcd (S.getD k 0) D * d ≤ d * D := by rw [Nat.mul_comm d D]; exact Nat.mul_le_mul_right _ h2
  have h6 : 0 < D / Nat.gcd (S.getD k 0) D * d := Nat.mul_pos h3 hd
  rw [h.nm k hk, h.dn k hk, Int.one_mul]
  revert h4 h5 h6 h3 h2
  generalize D / Nat.gcd (S.getD k 0) D = a
  generalize S.getD k 0 / Nat.gcd (S.getD k 0) D = b
  intro h2 h3 h4 h5 h6
  have h7 : a ≤ a * d := Nat.le_mul_of_pos_right a hd
  rw [← Int.natCast_mul, ← Int.natCast_mul]
  generalize a * d = e at *
  generalize b * d = g at *
  omega
def C24 (x0 : estate) (R : (List Bool) × (List Int) × (List Int)) : LV × List (Nat × BC) := (.tup [], [(900000, .var [.ro false 6 x0.f.people.length (rowOf (cPerson false) x0.f.people), .ro false 4 x0.f.unions.length (rowOf (cUnion false) x0.f.unions), .int .i64 x0.p, .int .i64 x0.year, .own 0, .own 1, .own 2]), (0, .arr 1 R.1.length (rowOf (cBool) R.1)), (1, .arr 1 R.2.1.length (rowOf (cInt .i64) R.2.1)), (2, .arr 1 R.2.2.length (rowOf (cInt .i64) R.2.2))])
def takePart (x0 : estate) : (List Bool) × (List Int) × (List Int) := loopW (fun (v1 : Int × (List Bool)) nx1 => bif (decide (0 ≤ v1.1)) then (bif ((decide (v1.1 = x0.p)) || (decide (x0.year < ((x0.f.people.getD v1.1.toNat default).born)))) then (nx1 (v1.1 - 1, v1.2)) else (loopN (fun i2 (v2 : (List Bool)) next => next (v2.set v1.1.toNat ((v2.getD v1.1.toNat default) || (v2.getD (((implKids x0.f v1.1).getD i2 default).toNat) default)))) (fun (v2 : (List Bool)) => nx1 (v1.1 - 1, v2)) ((implKids x0.f v1.1).length) 0 (v1.2.set v1.1.toNat (implAlive x0.f v1.1 x0.year)))) else (v1.2, x0.num, x0.den)) ((((x0.f.people.length : Nat) : Int) - 1 + 1).toNat + 1) (((x0.f.people.length : Nat) : Int) - 1, (List.replicate x0.f.people.length (default : Bool)))
def D24b1 (x0 : estate) (v1 : Int × (List Bool)) : Dl := ⟨[(3, .int .i64 v1.1)], [(30004, .arr 1 x0.f.people.length (rowOf (cBool) v1.2)), (900000, .var [.ro false 6 x0.f.people.length (rowOf (cPerson false) x0.f.people), .ro false 4 x0.f.unions.length (rowOf (cUnion false) x0.f.unions), .int .i64 x0.p, .int .i64 x0.year, .own 30004, .own 900002, .own 900003])]⟩
def D24b2 (x0 : estate) (v1 : Int × (List Bool)) (i2 : Nat) (v2 : (List Bool)) : Dl := ⟨[(68, .int .i64 ((i2 : Nat) : Int))], [(40004, .arr 1 x0.f.people.length (rowOf (cBool) v2)), (900000, .var [.ro false 6 x0.f.people.length (rowOf (cPerson false) x0.f.people), .ro false 4 x0.f.unions.length (rowOf (cUnion false) x0.f.unions), .int .i64 x0.p, .int .i64 x0.year, .own 40004, .own 900002, .own 900003])]⟩
def A24b2 (x0 : estate) (v1 : Int × (List Bool)) (i2 : Nat) (v2 : (List Bool)) : Ann := r0 1 [0, 3, 66, 67, 68, 69] [1066, 40004, 900000, 900001, 900002, 900003] (cn (decide (((i2 : Nat) : Int) < (((implKids x0.f v1.1).length : Nat) : Int))) (r1 1 [0, 3, 5, 66, 67, 68] [1066, 40004, 900000, 900001, 900002, 900003] [pf (0 ≤ (((i2 : Nat) : Int) : Int) ∧ (((i2 : Nat) : Int) : Int) < (((implKids x0.f v1.1).length : Nat) : Int))] [0] (.reg 1 [] [(22, stC 40004 (cBool) x0.f.people.length v2 v1.1.toNat ((v2.getD v1.1.toNat default) || (v2.getD (((implKids x0.f v1.1).getD i2 default).toNat) default)))] [0, 3, 66, 67, 68] [1066, 40004, 900000, 900001, 900002, 900003] [!(v2.getD v1.1.toNat default), (v2.getD v1.1.toNat default)] [pf (0 ≤ (v1.1 : Int) ∧ (v1.1 : Int) < ((x0.f.people.length : Nat) : Int)), gt (!(v2.getD v1.1.toNat default)) (pf (0 ≤ (((implKids x0.f v1.1).getD i2 default) : Int) ∧ (((implKids x0.f v1.1).getD i2 default) : Int) < ((x0.f.people.length : Nat) : Int)))] [] [0, 1, 1, 1, 1, 1, 4, 1, 6, 0, 8] (r1 1 [0, 3, 66, 67, 68] [1066, 40004, 900000, 900001, 900002, 900003] [pf (inR .i64 (((i2 : Nat) : Int) + 1))] [0] (.next 0 [(40004, some 40004)] (D24b2 x0 v1 (i2 + 1) (v2.set v1.1.toNat ((v2.getD v1.1.toNat default) || (v2.getD (((implKids x0.f v1.1).getD i2 default).toNat) default)))))))) (r1 1 [0, 3] [40004, 900000, 900001, 900002, 900003] [pf (inR .i64 (v1.1 - 1))] [0] (.next 1 [(30004, some 40004)] (D24b1 x0 (v1.1 - 1, v2)))))
def A24b1 (x0 : estate) (v1 : Int × (List Bool)) : Ann := r0 1 [0, 3, 20] [30004, 900000, 900001, 900002, 900003] (cn (decide (0 ≤ v1.1)) (.reg 1 [] [] [0, 3, 44] [30004, 900000, 900001, 900002, 900003] [!(decide (v1.1 = x0.p)), decide (v1.1 = x0.p)] [gt (!(decide (v1.1 = x0.p))) (pf (0 ≤ (v1.1 : Int) ∧ (v1.1 : Int) < ((x0.f.people.length : Nat) : Int)))] [] [1, 1, 1, 1, 1, 1, 0, 1, 1, 1, 1, 1, 1, 1, 6] (cn ((decide (v1.1 = x0.p)) || (decide (x0.year < ((x0.f.people.getD v1.1.toNat default).born)))) (r1 1 [0, 3] [30004, 900000, 900001, 900002, 900003] [pf (inR .i64 (v1.1 - 1))] [0] (.next 0 [(30004, some 30004)] (D24b1 x0 (v1.1 - 1, v1.2)))) (.reg 2 [] [(14, k44 x0.f v1.1 x0.year), (16, stC 30004 (cBool) x0.f.people.length v1.2 v1.1.toNat (implAlive x0.f v1.1 x0.year)), (1005, k26 x0.f v1.1)] [0, 3, 66, 67, 68] [1066, 30004, 900000, 900001, 900002, 900003] [] [pf (0 ≤ (v1.1 : Int) ∧ (v1.1 : Int) < ((x0.f.people.length : Nat) : Int))] [] [4, 0, 8, 12] (lp (D24b2 x0 v1) [] [30004] [(40004, some 30004)] (D24b2 x0 v1 0 (v1.2.set v1.1.toNat (implAlive x0.f v1.1 x0.year))) (A24b2 x0 v1))))) (.co false 30004 v1.2.length (rowOf (cBool) v1.2) [lnP (rowOf (cBool) v1.2) x0.f.people.length v1.2.length] [] 0 (rt [(900000, some 900000), (0, some 30004), (1, some 900002), (2, some 900003)] (C24 x0 (v1.2, x0.num, x0.den)))))
def A24 (x0 : estate) : Ann := .reg 3 [] [(1002, msC 14 (cBool) 1 ((x0.f.people.length : Nat) : Int) ((x0.f.people.length : Nat) : Int) x0.f.people.length (default : Bool) (rfl))] [0, 3] [14, 900000, 900001, 900002, 900003] [] [pf (inR .i64 (((x0.f.people.length : Nat) : Int) - 1))] [] [4, 0] (.loop (Int × (List Bool)) (D24b1 x0) [] [14] [(30004, some 14)] (D24b1 x0 (((x0.f.people.length : Nat) : Int) - 1, (List.replicate x0.f.people.length (default : Bool)))) (A24b1 x0))
theorem ok_impl_estate__takePart (x0 : estate) (hf : specIsFamily x0.f = true) : FnMT Try.prog 24 [.vp 900000 0] [.var [.ro false 6 x0.f.people.length (rowOf (cPerson false) x0.f.people), .ro false 4 x0.f.unions.length (rowOf (cUnion false) x0.f.unions), .int .i64 x0.p, .int .i64 x0.year, .own 900001, .own 900002, .own 900003], .arr 1 x0.takes.length (rowOf (cBool) x0.takes), .arr 1 x0.num.length (rowOf (cInt .i64) x0.num), .arr 1 x0.den.length (rowOf (cInt .i64) x0.den)] (C24 x0 (takePart x0)) := by
  have aux : ∀ R, takePart x0 = R → slim (C24 x0 R) (A24 x0) [] := by
    intro R hR
    refine rg ⟨by (have h9 := fam_n hf; (try simp only [inR]); omega), by (have h9 := fam_n hf; (try simp only [inR]); omega), trivial⟩ ?_
    revert hR; refine lW (fun v => (-1 ≤ v.1 ∧ v.1 < x0.f.people.length) ∧ v.2.length = x0.f.people.length) (fun v => (v.1 + 1).toNat) (by (dsimp only; exact ⟨by omega, by simp⟩)) (Nat.lt_succ_self _) rfl fun m1 v1 F1 hI1 hM1 hR hK1 => ?_
    refine rg trivial ?_
    revert hR; refine cd (fun hc1 hR => ?_) fun hc1 hR => ?_
    ·
      refine rg ⟨by (have h9 := fam_n hf; have h8 := hI1.1; have h7 := hI1.2; simp only [decide_eq_true_eq] at hc1; (try simp only [inR]); omega), trivial⟩ ?_
      revert hR; refine cd (fun hc2 hR => ?_) fun hc2 hR => ?_
      ·
        refine rg ⟨by (have h9 := fam_n hf; (try simp only [inR]); omega), trivial⟩ ?_
        exact hK1 (v1.1 - 1, v1.2) (by (have h9 := fam_n hf; have h8 := hI1.1; have h7 := hI1.2; simp only [decide_eq_true_eq] at hc1; (try simp only [inR]); omega)) (by (have h9 := fam_n hf; have h8 := hI1.1; have h7 := hI1.2; simp only [decide_eq_true_eq] at hc1; (try simp only [inR]); omega)) hR
      ·
        refine rg ⟨by (have h9 := fam_n hf; have h8 := hI1.1; have h7 := hI1.2; simp only [decide_eq_true_eq] at hc1; (try simp only [inR]); omega), ⟨by (have h9 := fam_n hf; (try simp only [inR]); omega), by (have h9 := fam_n hf; have h8 := hI1.1; have h7 := hI1.2; simp only [decide_eq_true_eq] at hc1; (try simp only [inR]); omega)⟩, by (have h9 := fam_n hf; have h8 := hI1.1; have h7 := hI1.2; simp only [decide_eq_true_eq] at hc1; (try simp only [inR]); omega), by (with_reducible exact (fam_n hf).1), trivial⟩ ?_
        revert hR; refine lN (fun i v => v.length = x0.f.people.length) (by (simp only [List.length_set]; first | exact hI1.2 | exact hI2)) rfl fun i2 v2 F2 hn2 hI2 hR hK2 => ?_
        refine rg trivial ?_
        refine ⟨fun hc3 => ?_, fun hc3 => ?_⟩
        · have hii2 : i2 < (implKids x0.f v1.1).length := by have := of_decide_eq_true hc3; omega
          replace hR := loopN_step hR hii2
          refine rg ⟨by (intros; omega), trivial⟩ ?_
          refine rg ⟨by (have h9 := fam_n hf; have h8 := hI1.1; have h7 := hI1.2; simp only [decide_eq_true_eq] at hc1; (try simp only [inR]); omega), by (have h9 := fam_n hf; have h8 := hI1.1; simp only [decide_eq_true_eq] at hc1; have h7 := (implKids_ok x0.f v1.1 h9.1).1 _ (getD_mem (d := (default : Int)) hii2); intros; omega), by (have h9 := fam_n hf; have h8 := hI1.1; have h7 := hI1.2; simp only [decide_eq_true_eq] at hc1; (try simp only [inR]); omega), trivial⟩ ?_
          refine rg ⟨by (have h9 := implKids_ok x0.f v1.1 (fam_n hf).1; have h8 := (fam_n hf).1; simp only [inR]; omega), trivial⟩ ?_
          exact hK2 (v2.set v1.1.toNat ((v2.getD v1.1.toNat default) || (v2.getD (((implKids x0.f v1.1).getD i2 default).toNat) default))) hii2 (by (simp only [List.length_set]; first | exact hI1.2 | exact hI2)) hR
        · obtain rfl : i2 = (implKids x0.f v1.1).length := by have := of_decide_eq_false hc3; omega
          replace hR := loopN_end hR (Nat.lt_irrefl _)
          refine rg ⟨by (have h9 := fam_n hf; (try simp only [inR]); omega), trivial⟩ ?_
          exact hK1 (v1.1 - 1, v2) (by (have h9 := fam_n hf; have h8 := hI1.1; have h7 := hI1.2; simp only [decide_eq_true_eq] at hc1; (try simp only [inR]); omega)) (by (have h9 := fam_n hf; have h8 := hI1.1; have h7 := hI1.2; simp only [decide_eq_true_eq] at hc1; (try simp only [inR]); omega)) hR
    ·
      refine og (by (intros; omega)) ?_
      exact congrArg (C24 x0) hR
  exact FnM.go 95 Try.func24 (by kernel_rfl) (by kernel_rfl) (A24 x0) (by kernel_rfl) (aux _ rfl)
def k24 (d : Nat) (ids : List Nat) (x0 : estate) : Cl := (hresM d ids (C24 x0 (takePart x0)), k1 (ok_impl_estate__takePart x0))
/-! ### Who takes part -/
/-- What is asked of those who take part; it tells them. -/
structure TkEq (f : Family) (p y : Int) (tk : List Bool) : Prop where
  len : tk.length = f.people.length
  eq : ∀ q : Nat, q < f.people.length → tk.getD q default = (!(decide ((q : Int) = p) || decide (y < (f.people.getD q default).born)) && (l1Alive f (q : Int) y || (l1Children f (q : Int)).any fun c => tk.getD c.toNat default))
theorem takePart_eq (x : estate) (hf : specIsFamily x.f = true) : TkEq x.f x.p x.year (takePart x).1 ∧ (takePart x).2 = (x.num, x.den) := by
  have hn := (fam_n hf).1
  unfold takePart
  refine loopW_to (fun (v : Int × (List Bool)) => (-1 ≤ v.1 ∧ v.1 < x.f.people.length) ∧ v.2.length = x.f.people.length ∧ (∀ q : Nat, (q : Int) ≤ v.1 → v.2.getD q default = false) ∧ ∀ q : Nat, v.1 < (q : Int) → q < x.f.people.length → v.2.getD q default = (!(decide ((q : Int) = x.p) || decide (x.year < (x.f.people.getD q default).born)) && (l1Alive x.f (q : Int) x.year || (l1Children x.f (q : Int)).any fun c => v.2.getD c.toNat default))) (fun v => (v.1 + 1).toNat) (fun (r : (List Bool) × (List Int) × (List Int)) => TkEq x.f x.p x.year r.1 ∧ r.2 = (x.num, x.den)) (fun v next hv hnx => ?_) _ _ (Nat.lt_succ_self _) ⟨by dsimp only; omega, by simp, fun q _ => by rw [getD_rep]; split <;> rfl, fun q h1 h2 => absurd h1 (by dsimp only; omega)⟩
  obtain ⟨h1, h2, h3, h4⟩ := hv
  refine cond_both (p := fun (r : (List Bool) × (List Int) × (List Int)) => TkEq x.f x.p x.year r.1 ∧ r.2 = (x.num, x.den)) (fun hc => ?_) (fun hc => ?_)
  · have hc := of_decide_eq_true hc
    refine cond_both (p := fun (r : (List Bool) × (List Int) × (List Int)) => TkEq x.f x.p x.year r.1 ∧ r.2 = (x.num, x.den)) (fun hd => ?_) (fun hd => ?_)
    · refine hnx _ ⟨by dsimp only; omega, h2, fun q hq => h3 q (by dsimp only at hq; omega), fun q g1 g2 => ?_⟩ (by dsimp only; omega)
      dsimp only at g1 ⊢
      by_cases e : (q : Int) = v.1
      · rw [h3 q (by omega)]
        rw [← e, Int.toNat_natCast] at hd
        rw [hd]; rfl
      · exact h4 q (by omega) g2
    · rw [implKids_eq x.f v.1 hn]
      refine loopN_to (fun i (w : List Bool) => w = v.2.set v.1.toNat (l1Alive x.f v.1 x.year || ((l1Children x.f v.1).take i).any fun c => v.2.getD c.toNat default)) (fun (r : (List Bool) × (List Int) × (List Int)) => TkEq x.f x.p x.year r.1 ∧ r.2 = (x.num, x.den)) (by simp; rfl) (fun i w next2 hi hw hn2 => ?_) (fun w hw => ?_)
      · have hk := kid_lt hf hc (getD_mem (d := (default : Int)) hi)
        refine hn2 _ ?_
        subst hw
        rw [List.set_set, getD_set, if_pos ⟨rfl, by omega⟩, getD_set, if_neg (fun h => by omega), take_snoc _ default hi, List.any_append, Bool.or_assoc]
        simp
      · rw [List.take_length] at hw
        have key : ∀ c ∈ l1Children x.f v.1, w.getD c.toNat default = v.2.getD c.toNat default := fun c hc2 => by
          have hk := kid_lt hf hc hc2
          rw [hw, getD_set, if_neg (fun h => by omega)]
        refine hnx _ ⟨by dsimp only; omega, by rw [hw]; simp [h2], fun q hq => ?_, fun q g1 g2 => ?_⟩ (by dsimp only; omega)
        · dsimp only at hq ⊢
          rw [hw, getD_set, if_neg (fun h => by omega)]; exact h3 q (by omega)
        · dsimp only at g1 ⊢
          by_cases e : (q : Int) = v.1
          · have e2 : w.getD q default = (l1Alive x.f v.1 x.year || (l1Children x.f v.1).any fun c => v.2.getD c.toNat default) := by rw [hw, getD_set, if_pos ⟨by omega, by omega⟩]
            rw [← e, Int.toNat_natCast] at hd
            rw [e2, hd, e, Bool.not_false, Bool.true_and]
            congr 1
            rw [Bool.eq_iff_iff, List.any_eq_true, List.any_eq_true]
            constructor
            · rintro ⟨c, k1, k2⟩; exact ⟨c, k1, by rw [key c k1]; exact k2⟩
            · rintro ⟨c, k1, k2⟩; exact ⟨c, k1, by rw [key c k1] at k2; exact k2⟩
          · have e2 : w.getD q default = v.2.getD q default := by rw [hw, getD_set, if_neg (fun h => by omega)]
            rw [e2, h4 q (by omega) g2]
            congr 2
            rw [Bool.eq_iff_iff, List.any_eq_true, List.any_eq_true]
            have hk : ∀ c ∈ l1Children x.f (q : Int), w.getD c.toNat default = v.2.getD c.toNat default := fun c hc2 => by
              have hk := kid_lt hf (p := (q : Int)) (by omega) hc2
              rw [hw, getD_set, if_neg (fun h => by omega)]
            constructor
            · rintro ⟨c, k1, k2⟩; exact ⟨c, k1, by rw [hk c k1]; exact k2⟩
            · rintro ⟨c, k1, k2⟩; exact ⟨c, k1, by rw [hk c k1] at k2; exact k2⟩
  · have hc := of_decide_eq_false hc
    exact ⟨⟨h2, fun q hq => h4 q (by omega) hq⟩, rfl⟩
theorem any_kids {f : Family} {tk : List Bool} {q : Int} : ((l1Children f q).any fun c => tk.getD c.toNat default) = true ↔ kidsT f tk q ≠ [] := by
  unfold kidsT
  rw [List.any_eq_true]
  constructor
  · rintro ⟨c, h1, h2⟩ e
    have : c ∈ (l1Children f q).filter fun c => tk.getD c.toNat default := List.mem_filter.2 ⟨h1, h2⟩
    rw [e] at this; cases this
  · intro h
    obtain ⟨c, hc⟩ := List.exists_mem_of_ne_nil _ h
    exact ⟨c, (List.mem_filter.1 hc).1, (List.mem_filter.1 hc).2⟩
theorem TkEq.ok {f : Family} {p y : Int} {tk : List Bool} (h : TkEq f p y tk) : TkOk f y tk := ⟨h.len, fun q h0 hq => by
  have hl : q.toNat < f.people.length := by
    rcases Nat.lt_or_ge q.toNat f.people.length with c | c
    · exact c
    · rw [List.getD_eq_getElem?_getD, List.getElem?_eq_none (by rw [h.len]; exact c)] at hq; cases hq
  have h2 := h.eq q.toNat hl
  rw [hq, show ((q.toNat : Nat) : Int) = q by omega] at h2
  have h3 := (Bool.and_eq_true _ _ ▸ h2.symm : _ = true ∧ _ = true).2
  rw [Bool.or_eq_true, any_kids] at h3
  exact h3⟩
theorem TkEq.self {f : Family} {p y : Int} {tk : List Bool} (h : TkEq f p y tk) (hp : 0 ≤ p ∧ p < f.people.length) : tk.getD p.toNat default = false := by
  rw [h.eq p.toNat (by omega), show ((p.toNat : Nat) : Int) = p by omega, decide_eq_true rfl]; rfl
end Go.Proofs.Ytmefknjcgdbceaa
