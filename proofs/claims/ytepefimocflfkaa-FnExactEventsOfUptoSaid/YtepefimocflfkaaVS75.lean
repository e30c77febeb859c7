import Derived.Test.YtepefimocflfkaaM192
set_option maxHeartbeats 4000000
set_option linter.unusedSimpArgs false
set_option linter.unusedVariables false
namespace Go.Proofs.Ytepefimocflfkaa
open Go Go.Lite Go.Proofs
/-! ### The whole sort -/
inductive Runs {α : Type} [Inhabited α] (R : α → α → Bool) (B n : Int) (l : List α) : Int → Prop
  | nil {a : Int} (h : n ≤ a) : Runs R B n l a
  | cons {a : Int} (h : a < n) (s : Srt R a (min (a + B) n) l) (r : Runs R B n l (a + B)) : Runs R B n l a
inductive LRuns {α : Type} [Inhabited α] (R : α → α → Bool) (B : Int) (l : List α) : Int → Prop
  | nil : LRuns R B l 0
  | snoc {a : Int} (h : LRuns R B l a) (s : Srt R a (a + B) l) : LRuns R B l (a + B)
theorem LRuns.nonneg {α : Type} [Inhabited α] {R : α → α → Bool} {B a : Int} {l : List α} (h : LRuns R B l a) (hB : 0 < B) : 0 ≤ a := by
  induction h with
  | nil => exact Int.le_refl _
  | snoc _ _ ih => omega
theorem LRuns.run {α : Type} [Inhabited α] {R : α → α → Bool} {B a n : Int} {l : List α} (h : LRuns R B l a) (hB : 0 < B) : a ≤ n → Runs R B n l a → Runs R B n l 0 := by
  induction h with
  | nil => exact fun _ hr => hr
  | @snoc a h s ih =>
    intro ha hr
    exact ih (by omega) (.cons (by omega) (by rw [Int.min_eq_left ha]; exact s) hr)
theorem LRuns.keep {α : Type} [Inhabited α] {R : α → α → Bool} {B a : Int} {l l' : List α} (h : LRuns R B l a) (hB : 0 < B) : (∀ k, 0 ≤ k → k < a → gi l' k = gi l k) → LRuns R B l' a := by
  induction h with
  | nil => exact fun _ => .nil
  | @snoc a h s ih =>
    intro hk
    have := h.nonneg hB
    exact .snoc (ih fun k h0 h1 => hk k h0 (by omega)) (s.same fun k h0 h1 => hk k (by omega) h1)
theorem Runs.keep {α : Type} [Inhabited α] {R : α → α → Bool} {B n a : Int} {l l' : List α} (h : Runs R B n l a) (hB : 0 < B) : (∀ k, a ≤ k → k < n → gi l' k = gi l k) → Runs R B n l' a := by
  induction h with
  | nil h => exact fun _ => .nil h
  | @cons a h s r ih =>
    intro hk
    exact .cons h (s.same fun k h0 h1 => hk k h0 (by omega)) (ih fun k h0 h1 => hk k (by omega) h1)
theorem Runs.last {α : Type} [Inhabited α] {R : α → α → Bool} {B n a : Int} {l : List α} (h : Runs R B n l a) (hn : n ≤ a + B) : Srt R a n l := by
  cases h with
  | nil h => exact fun i j g1 g2 g3 => by omega
  | cons h s r => rw [Int.min_eq_right hn] at s; exact s
theorem Runs.of_last {α : Type} [Inhabited α] {R : α → α → Bool} {B n a : Int} {l : List α} (h : Srt R a n l) (hn : n ≤ a + B) : Runs R B n l a := by
  by_cases c : a < n
  · exact .cons c (by rw [Int.min_eq_right hn]; exact h) (.nil hn)
  · exact .nil (by omega)
theorem gStb_ok {α : Type} [Inhabited α] {R : α → α → Bool} (hR : SWO R) {l : List α} {n : Int} (hn : n = l.length) (h255 : n ≤ 255) : MrgOk R 0 n l (gStb R l n) ∧ Srt R 0 n (gStb R l n) := by
  suffices key : (fun r : List α => MrgOk R 0 n l r ∧ Srt R 0 n r) (gStb R l n) from key
  unfold gStb
  refine loopW_to (fun v => (0 ≤ v.1 ∧ v.1 ≤ n ∧ v.2.1 = v.1 + 20) ∧ MrgOk R 0 n l v.2.2 ∧ LRuns R 20 v.2.2 v.1) (fun v => (n + 20 - v.2.1).toNat) (fun r : List α => MrgOk R 0 n l r ∧ Srt R 0 n r) (fun v next hv hn1 => ?_) _ _ (by dsimp only; omega) ⟨by dsimp only; omega, .refl R 0 n l, .nil⟩
  obtain ⟨a, b, v⟩ := v
  dsimp only at hv hn1 ⊢
  obtain ⟨⟨ha0, ha1, rfl⟩, hm, hl⟩ := hv
  have hvl := hm.len
  by_cases c : a + 20 ≤ n
  · rw [decide_eq_true c]
    simp only [cond_true, jn]
    have h9 := gIns_ok hR (l := v) (a := a) (b := a + 20) (by omega)
    exact hn1 _ ⟨by dsimp only; omega, hm.trans (h9.1.mono (Int.le_refl _) ha0 c), .snoc (hl.keep (by omega) fun k g0 g1 => h9.1.out k g0 (.inl g1)) h9.2⟩ (by dsimp only; omega)
  · rw [decide_eq_false c]
    simp only [cond_false, jn]
    have h9 := gIns_ok hR (l := v) (a := a) (b := n) (by omega)
    have hl9 := hl.keep (by omega) (l' := gIns R v a n) fun k g0 g1 => h9.1.out k g0 (.inl g1)
    have hr9 := hl9.run (by omega) ha1 (Runs.of_last h9.2 (by omega))
    refine loopW_to (fun w => 20 ≤ w.1 ∧ MrgOk R 0 n l w.2 ∧ Runs R w.1 n w.2 0) (fun w => (n + 20 - w.1).toNat) (fun r : List α => MrgOk R 0 n l r ∧ Srt R 0 n r) (fun w nx2 hw hn2 => ?_) _ _ (by dsimp only; omega) ⟨Int.le_refl _, hm.trans (h9.1.mono (Int.le_refl _) ha0 (Int.le_refl _)), hr9⟩
    obtain ⟨B, w⟩ := w
    dsimp only at hw hn2 ⊢
    obtain ⟨hB, hwm, hwr⟩ := hw
    by_cases c2 : B < n
    · rw [decide_eq_true c2]
      simp only [cond_true]
      refine loopW_to (fun u => (0 ≤ u.1 ∧ u.1 ≤ n ∧ u.2.1 = u.1 + 2 * B) ∧ MrgOk R 0 n l u.2.2 ∧ LRuns R (2 * B) u.2.2 u.1 ∧ Runs R B n u.2.2 u.1) (fun u => (n + 1000 - u.2.1).toNat) (fun r : List α => MrgOk R 0 n l r ∧ Srt R 0 n r) (fun u next hu hn3 => ?_) _ _ (by dsimp only; omega) ⟨by dsimp only; omega, hwm, .nil, hwr⟩
      obtain ⟨p, q, u⟩ := u
      dsimp only at hu hn3 ⊢
      obtain ⟨⟨hp0, hp1, rfl⟩, hum, hul, hur⟩ := hu
      have hulen := hum.len
      by_cases c3 : p + 2 * B ≤ n
      · rw [decide_eq_true c3]
        simp only [cond_true, jn]
        cases hur with
        | nil h => omega
        | cons h s r =>
          rw [Int.min_eq_left (by omega)] at s
          cases r with
          | nil h => omega
          | cons h2 s2 r2 =>
            rw [Int.min_eq_left (by omega)] at s2
            have e : p + B + B = p + 2 * B := by omega
            rw [e] at s2 r2
            have h8 := gSym_ok hR 256 (l := u) (a := p) (d := p + B) (b := p + 2 * B) (by omega) (by omega) s s2
            exact hn3 _ ⟨by dsimp only; omega, hum.trans (h8.1.mono (Int.le_refl _) hp0 c3), .snoc (hul.keep (by omega) fun k g0 g1 => h8.1.out k g0 (.inl g1)) h8.2, r2.keep (by omega) fun k g0 g1 => h8.1.out k (by omega) (.inr g0)⟩ (by dsimp only; omega)
      · rw [decide_eq_false c3]
        simp only [cond_false]
        by_cases c4 : p + B < n
        · rw [decide_eq_true c4]
          simp only [cond_true]
          cases hur with
          | nil h => omega
          | cons h s r =>
            rw [Int.min_eq_left (by omega)] at s
            have s2 := r.last (by omega)
            have h8 := gSym_ok hR 256 (l := u) (a := p) (d := p + B) (b := n) (by omega) (by omega) s s2
            refine hn2 _ ⟨by dsimp only; omega, hum.trans (h8.1.mono (Int.le_refl _) hp0 (Int.le_refl _)), ?_⟩ (by dsimp only; omega)
            dsimp only
            rw [Int.mul_comm B 2]
            exact (hul.keep (by omega) fun k g0 g1 => h8.1.out k g0 (.inl g1)).run (by omega) hp1 (Runs.of_last h8.2 (by omega))
        · rw [decide_eq_false c4]
          simp only [cond_false]
          refine hn2 _ ⟨by dsimp only; omega, hum, ?_⟩ (by dsimp only; omega)
          dsimp only
          rw [Int.mul_comm B 2]
          exact hul.run (by omega) hp1 (Runs.of_last (hur.last (by omega)) (by omega))
    · rw [decide_eq_false c2]
      simp only [cond_false]
      exact ⟨hwm, hwr.last (by omega)⟩
def SrtL {α : Type} (R : α → α → Bool) (l : List α) : Prop := l.Pairwise fun x y => R y x = false
theorem gStb_fin {α : Type} [Inhabited α] {R : α → α → Bool} (hR : SWO R) {l : List α} (h : l.length ≤ 255) : SrtL R (gStb R l l.length) ∧ StEq R l (gStb R l l.length) := by
  have h9 := gStb_ok hR (l := l) (n := l.length) rfl (by omega)
  refine ⟨Srt.pairwise ?_, h9.1.st⟩
  rw [h9.1.len]; exact h9.2
theorem eqc_self {α : Type} {R : α → α → Bool} (hR : SWO R) (x : α) : eqc R x x = true := by unfold eqc; rw [hR.irr]; rfl
/-- A list that is sorted and keeps the order of what is alike is the only one. -/
theorem st_unique {α : Type} {R : α → α → Bool} (hR : SWO R) : ∀ {l m : List α}, SrtL R l → SrtL R m → StEq R l m → l = m
  | [], [], _, _, _ => rfl
  | [], b :: m, _, _, h => by
    have := h b
    rw [List.filter_cons, eqc_self hR] at this
    simp at this
  | a :: l, [], _, _, h => by
    have := h a
    rw [List.filter_cons, eqc_self hR] at this
    simp at this
  | a :: l, b :: m, hl, hm, h => by
    obtain ⟨hl1, hl2⟩ := List.pairwise_cons.1 hl
    obtain ⟨hm1, hm2⟩ := List.pairwise_cons.1 hm
    have hla : ∀ y ∈ a :: l, R y a = false := fun y hy => by
      rcases List.mem_cons.1 hy with e | e
      · rw [e]; exact hR.irr a
      · exact hl1 y e
    have hmb : ∀ y ∈ b :: m, R y b = false := fun y hy => by
      rcases List.mem_cons.1 hy with e | e
      · rw [e]; exact hR.irr b
      · exact hm1 y e
    have h1 : R b a = false := by
      have hb : b ∈ (a :: l).filter (eqc R b) → R b a = false := fun hm9 => hla b (List.mem_filter.1 hm9).1
      have hmem : b ∈ (b :: m).filter (eqc R b) := List.mem_filter.2 ⟨List.mem_cons_self, eqc_self hR b⟩
      rw [h b] at hmem
      exact hb hmem
    have h2 : R a b = false := by
      have hmem : a ∈ (a :: l).filter (eqc R a) := List.mem_filter.2 ⟨List.mem_cons_self, eqc_self hR a⟩
      rw [← h a] at hmem
      exact hmb a (List.mem_filter.1 hmem).1
    have hab : a = b := by
      have h3 := h a
      have e1 : eqc R a b = true := by unfold eqc; rw [h1, h2]; rfl
      rw [List.filter_cons, List.filter_cons, eqc_self hR, e1] at h3
      simp only [if_true] at h3
      exact (List.cons.inj h3).1.symm
    subst hab
    rw [st_unique hR hl2 hm2 fun x => by
      have h3 := h x
      rw [List.filter_cons, List.filter_cons] at h3
      split at h3
      · exact (List.cons.inj h3).2
      · exact h3]
noncomputable def kvoP (d : Nat) (ids : List Nat) (l : List Int) : Cl := (.resM d ids [(900000, .arr 1 l.length (rowOf (cInt .i64) l)), (0, .var [.own 900000])] (.agg [.k Try.prog.globals.size 39, .vp 0 0, .int .u64 151]), k0 (P := FnX Try.prog 152 [.ifc 39 (.own 900000)] [.arr 1 l.length (rowOf (cInt .i64) l)] (.agg [.k Try.prog.globals.size 39, .vp 0 0, .int .u64 151]) [(900000, .arr 1 l.length (rowOf (cInt .i64) l)), (0, .var [.own 900000])]) (FnX.valueOf (t := 39) (e := 3) (ti := Try.t39) Try.func152 (by kernel_rfl) (by kernel_rfl) (by kernel_rfl) (by rfl) (by kernel_rfl) (by kernel_rfl)))
noncomputable def klnP (d : Nat) (ids : List Nat) (l : List Int) : Cl := (.resM d ids (enumB [.arr 1 l.length (rowOf (cInt .i64) l), .var [.own 900000]] 900000) (.int .i64 l.length), k0 (P := FnX Try.prog 155 [.agg [.k Try.prog.globals.size 39, .vp 900001 0, .int .u64 151]] [.arr 1 l.length (rowOf (cInt .i64) l), .var [.own 900000]] (.int .i64 l.length) (enumB [.arr 1 l.length (rowOf (cInt .i64) l), .var [.own 900000]] 900000)) (FnX.valLen (t := 39) (e := 3) (ti := Try.t39) Try.func155 (by kernel_rfl) (by kernel_rfl) (by kernel_rfl) (by rfl) (by kernel_rfl) (by kernel_rfl) (by kernel_rfl) (by kernel_rfl)))
noncomputable def kspP (d : Nat) (ids : List Nat) (l : List Int) : Cl := (.resM d ids (enumB [.arr 1 l.length (rowOf (cInt .i64) l)] 900000) (.clo 190 [.own 900000, .k Try.prog.globals.size 3]), k1 (P := FnX Try.prog 153 [.ifc 39 (.own 900000)] [.arr 1 l.length (rowOf (cInt .i64) l)] (.clo 190 [.own 900000, .k Try.prog.globals.size 3]) (enumB [.arr 1 l.length (rowOf (cInt .i64) l)] 900000)) fun hn => FnX.swapper (t := 39) (e := 3) (ti := Try.t39) (ie := Try.t3) (ke := 2) hn Try.func153 (by kernel_rfl) (by kernel_rfl) (by kernel_rfl) (by rfl) (by kernel_rfl) (by kernel_rfl) (by kernel_rfl) (fun w => by kernel_rfl) (fun m => ⟨rfl, by decide⟩) (by kernel_rfl))

def C112P (x0 : SrtP) (x1 : Unit) (R : (List Int)) : LV × List (Nat × BC) := (.tup [], [(900000, .arr 1 R.length (rowOf (cInt .i64) R)), (900001, .var [.ro false 6 x0.c0.people.length (rowOf (cPerson false) x0.c0.people), .ro false 4 x0.c0.unions.length (rowOf (cUnion false) x0.c0.unions)]), (900002, .var [.own 900000])])
def sliceP (x0 : SrtP) (x1 : Unit) : (List Int) := stableP x0 (x0.l.length : Int)
noncomputable def A112P (x0 : SrtP) (x1 : Unit) : Ann := .reg 2 [] [(1, kvoP 7 [900000] x0.l), (1001, kspP 9 [900000] x0.l)] [1, 4, 5] [4, 1007, 900000, 900001, 900002] [] [] [] [0, 4] (.reg 1 [] [(4, klnP 14 [900000, 1007] x0.l), (5, k154P 15 [900000, 900001, 900002] x0 (x0.l.length : Int))] [] [900000, 900001, 900002] [] [] [] [0, 4] (rt [(900000, some 900000), (900001, some 900001), (900002, some 900002)] (C112P x0 x1 (stableP x0 (x0.l.length : Int)))))
theorem sliceP_eq (x : SrtP) : sliceP x () = gStb (RP x) x.l x.l.length := stableP_eq x _

theorem ok_sort_SliceStable_P (x0 : SrtP) (x1 : Unit) (hx : x0.l.length ≤ 255) (hk : LkP x0 x0.l) (h2 : 2 ≤ x0.l.length) : FnMT Try.prog 112 [.ifc 39 (.own 900000), .clo 119 [.vp 900001 0, .vp 900002 0]] [.arr 1 x0.l.length (rowOf (cInt .i64) x0.l), .var [.ro false 6 x0.c0.people.length (rowOf (cPerson false) x0.c0.people), .ro false 4 x0.c0.unions.length (rowOf (cUnion false) x0.c0.unions)], .var [.own 900000]] (C112P x0 x1 (sliceP x0 x1)) := by
  have aux : ∀ R, sliceP x0 x1 = R → slim (C112P x0 x1 R) (A112P x0 x1) [] := by
    intro R hR
    refine rg ⟨trivial, by with_reducible assumption, trivial⟩ ?_
    refine rg ⟨trivial, ⟨by with_reducible assumption, by with_reducible assumption, by (intros; omega)⟩, trivial⟩ ?_
    exact congrArg (C112P x0 x1) hR
  exact FnM.go 16 Try.func112 (by kernel_rfl) (by kernel_rfl) (A112P x0 x1) (by kernel_rfl) (aux _ rfl)
def k112P (d : Nat) (ids : List Nat) (x0 : SrtP) (x1 : Unit) : Cl := (hresM d ids (C112P x0 x1 (sliceP x0 x1)), k3 (ok_sort_SliceStable_P x0 x1))
structure SrtQ where
  c0 : Family
  l : List Int
  deriving Inhabited

def C195Q (x0 : SrtQ) (x1 : Int) (x2 : Int) (R : (List Int)) : LV × List (Nat × BC) := (.tup [], [(900000, .arr 1 R.length (rowOf (cInt .i64) R)), (900001, .var [.ro false 6 x0.c0.people.length (rowOf (cPerson false) x0.c0.people), .ro false 4 x0.c0.unions.length (rowOf (cUnion false) x0.c0.unions)]), (900002, .var [.own 900000])])
def insSortQ (x0 : SrtQ) (x1 : Int) (x2 : Int) : (List Int) := loopW (fun (v1 : Int) next => x0.l) (0 + 1) (x1 + 1)
def D195Qb1 (x0 : SrtQ) (x1 : Int) (x2 : Int) (v1 : Int) : Dl := ⟨[(6, .int .i64 v1)], []⟩
def A195Qb1 (x0 : SrtQ) (x1 : Int) (x2 : Int) (v1 : Int) : Ann := r0 1 [1, 2, 3, 6, 12] [3, 900000, 900001, 900002] (cn (decide (v1 < x2)) (.next 99 [] ⟨[], []⟩) (rt [(900000, some 900000), (900001, some 900001), (900002, some 900002)] (C195Q x0 x1 x2 x0.l)))
def A195Q (x0 : SrtQ) (x1 : Int) (x2 : Int) : Ann := r1 2 [1, 2, 3, 6] [3, 900000, 900001, 900002] [pf (inR .i64 (x1 + 1))] [0] (.loop Int (D195Qb1 x0 x1 x2) [] [] [] (D195Qb1 x0 x1 x2 (x1 + 1)) (A195Qb1 x0 x1 x2))
theorem ok_sort_insertionSort_func_Q (x0 : SrtQ) (x1 : Int) (x2 : Int) (hx : x0.l.length ≤ 1) (hab : x1 = 0 ∧ x2 = x0.l.length) : FnMT Try.prog 195 [.agg [.clo 119 [.vp 900001 0, .vp 900002 0], .fv], .int .i64 x1, .int .i64 x2] [.arr 1 x0.l.length (rowOf (cInt .i64) x0.l), .var [.ro false 6 x0.c0.people.length (rowOf (cPerson false) x0.c0.people), .ro false 4 x0.c0.unions.length (rowOf (cUnion false) x0.c0.unions)], .var [.own 900000]] (C195Q x0 x1 x2 (insSortQ x0 x1 x2)) := by
  have aux : ∀ R, insSortQ x0 x1 x2 = R → slim (C195Q x0 x1 x2 R) (A195Q x0 x1 x2) [] := by
    intro R hR
    refine rg ⟨by (simp only [decide_eq_true_eq, decide_eq_false_iff_not, inR] at *; omega), trivial⟩ ?_
    revert hR; refine lW (fun v => x1 + 1 ≤ v) (fun v => 0) (by (intros; omega)) (Nat.lt_succ_self _) rfl fun m1 v1 F1 hI1 hM1 hR hK1 => ?_
    refine rg trivial ?_
    refine ⟨fun hq => absurd hq (by simp only [decide_eq_true_eq, decide_eq_false_iff_not, Bool.not_eq_true, Bool.not_eq_false]; omega), fun hc1 => ?_⟩
    exact congrArg (C195Q x0 x1 x2) hR
  exact FnM.go 35 Try.func195 (by kernel_rfl) (by kernel_rfl) (A195Q x0 x1 x2) (by kernel_rfl) (aux _ rfl)
def k195Q (d : Nat) (ids : List Nat) (x0 : SrtQ) (x1 : Int) (x2 : Int) : Cl := (hresM d ids (C195Q x0 x1 x2 (insSortQ x0 x1 x2)), k2 (ok_sort_insertionSort_func_Q x0 x1 x2))
def C154Q (x0 : SrtQ) (x1 : Int) (R : (List Int)) : LV × List (Nat × BC) := (.tup [], [(900000, .arr 1 R.length (rowOf (cInt .i64) R)), (900001, .var [.ro false 6 x0.c0.people.length (rowOf (cPerson false) x0.c0.people), .ro false 4 x0.c0.unions.length (rowOf (cUnion false) x0.c0.unions)]), (900002, .var [.own 900000])])
def stableQ (x0 : SrtQ) (x1 : Int) : (List Int) := loopW (fun (v1 : Int × Int) next => loopW (fun (v2 : Int) next => insSortQ x0 v1.1 x1) (0 + 1) 20) (0 + 1) (0, 20)
def D154Qb1 (x0 : SrtQ) (x1 : Int) (v1 : Int × Int) : Dl := ⟨[(5, .int .i64 v1.1), (6, .int .i64 v1.2)], []⟩
def D154Qb2 (x0 : SrtQ) (x1 : Int) (v1 : Int × Int) (v2 : Int) : Dl := ⟨[(4, .int .i64 v2)], []⟩
def A154Qb2 (x0 : SrtQ) (x1 : Int) (v1 : Int × Int) (v2 : Int) : Ann := r0 1 [1, 2, 4, 26] [2, 900000, 900001, 900002] (cn (decide (v2 < x1)) (.next 99 [] ⟨[], []⟩) (rt [(900000, some 900000), (900001, some 900001), (900002, some 900002)] (C154Q x0 x1 (insSortQ x0 v1.1 x1))))
def A154Qb1 (x0 : SrtQ) (x1 : Int) (v1 : Int × Int) : Ann := r0 1 [1, 2, 4, 5, 6, 11] [2, 900000, 900001, 900002] (cn (decide (v1.2 ≤ x1)) (.next 99 [] ⟨[], []⟩) (.reg 1 [] [(3, k195Q 23 [900000, 900001, 900002] x0 v1.1 x1)] [1, 2, 4] [2, 900000, 900001, 900002] [] [] [] [0] (.loop Int (D154Qb2 x0 x1 v1) [] [] [] (D154Qb2 x0 x1 v1 20) (A154Qb2 x0 x1 v1))))
def A154Q (x0 : SrtQ) (x1 : Int) : Ann := r0 3 [1, 2, 4, 5, 6] [2, 900000, 900001, 900002] (.loop (Int × Int) (D154Qb1 x0 x1) [] [] [] (D154Qb1 x0 x1 (0, 20)) (A154Qb1 x0 x1))
theorem ok_sort_stable_func_Q (x0 : SrtQ) (x1 : Int) (hx : x0.l.length ≤ 1) (hn : x1 = x0.l.length) : FnMT Try.prog 154 [.agg [.clo 119 [.vp 900001 0, .vp 900002 0], .fv], .int .i64 x1] [.arr 1 x0.l.length (rowOf (cInt .i64) x0.l), .var [.ro false 6 x0.c0.people.length (rowOf (cPerson false) x0.c0.people), .ro false 4 x0.c0.unions.length (rowOf (cUnion false) x0.c0.unions)], .var [.own 900000]] (C154Q x0 x1 (stableQ x0 x1)) := by
  have aux : ∀ R, stableQ x0 x1 = R → slim (C154Q x0 x1 R) (A154Q x0 x1) [] := by
    intro R hR
    refine rg trivial ?_
    revert hR; refine lW (fun v => v.1 = 0 ∧ v.2 = 20) (fun v => 0) (by (intros; omega)) (Nat.lt_succ_self _) rfl fun m1 v1 F1 hI1 hM1 hR hK1 => ?_
    refine rg trivial ?_
    refine ⟨fun hq => absurd hq (by simp only [decide_eq_true_eq, decide_eq_false_iff_not, Bool.not_eq_true, Bool.not_eq_false]; omega), fun hc1 => ?_⟩
    refine rg ⟨⟨by with_reducible assumption, by (intros; omega)⟩, trivial⟩ ?_
    revert hR; refine lW (fun v => v = 20) (fun v => 0) (by (intros; omega)) (Nat.lt_succ_self _) rfl fun m2 v2 F2 hI2 hM2 hR hK2 => ?_
    refine rg trivial ?_
    refine ⟨fun hq => absurd hq (by simp only [decide_eq_true_eq, decide_eq_false_iff_not, Bool.not_eq_true, Bool.not_eq_false]; omega), fun hc2 => ?_⟩
    exact congrArg (C154Q x0 x1) hR
  exact FnM.go 57 Try.func154 (by kernel_rfl) (by kernel_rfl) (A154Q x0 x1) (by kernel_rfl) (aux _ rfl)
def k154Q (d : Nat) (ids : List Nat) (x0 : SrtQ) (x1 : Int) : Cl := (hresM d ids (C154Q x0 x1 (stableQ x0 x1)), k2 (ok_sort_stable_func_Q x0 x1))
noncomputable def kvoQ (d : Nat) (ids : List Nat) (l : List Int) : Cl := (.resM d ids [(900000, .arr 1 l.length (rowOf (cInt .i64) l)), (0, .var [.own 900000])] (.agg [.k Try.prog.globals.size 39, .vp 0 0, .int .u64 151]), k0 (P := FnX Try.prog 152 [.ifc 39 (.own 900000)] [.arr 1 l.length (rowOf (cInt .i64) l)] (.agg [.k Try.prog.globals.size 39, .vp 0 0, .int .u64 151]) [(900000, .arr 1 l.length (rowOf (cInt .i64) l)), (0, .var [.own 900000])]) (FnX.valueOf (t := 39) (e := 3) (ti := Try.t39) Try.func152 (by kernel_rfl) (by kernel_rfl) (by kernel_rfl) (by rfl) (by kernel_rfl) (by kernel_rfl)))
noncomputable def klnQ (d : Nat) (ids : List Nat) (l : List Int) : Cl := (.resM d ids (enumB [.arr 1 l.length (rowOf (cInt .i64) l), .var [.own 900000]] 900000) (.int .i64 l.length), k0 (P := FnX Try.prog 155 [.agg [.k Try.prog.globals.size 39, .vp 900001 0, .int .u64 151]] [.arr 1 l.length (rowOf (cInt .i64) l), .var [.own 900000]] (.int .i64 l.length) (enumB [.arr 1 l.length (rowOf (cInt .i64) l), .var [.own 900000]] 900000)) (FnX.valLen (t := 39) (e := 3) (ti := Try.t39) Try.func155 (by kernel_rfl) (by kernel_rfl) (by kernel_rfl) (by rfl) (by kernel_rfl) (by kernel_rfl) (by kernel_rfl) (by kernel_rfl)))
noncomputable def kspQ (d : Nat) (ids : List Nat) (l : List Int) : Cl := (.resM d ids (enumB [.arr 1 l.length (rowOf (cInt .i64) l)] 900000) .fv, k1 (P := FnX Try.prog 153 [.ifc 39 (.own 900000)] [.arr 1 l.length (rowOf (cInt .i64) l)] .fv (enumB [.arr 1 l.length (rowOf (cInt .i64) l)] 900000)) fun hn => FnX.swapper0 (t := 39) (e := 3) (ti := Try.t39) (ie := Try.t3) (ke := 2) (g0 := 186) (g1 := 187) hn Try.func153 (by kernel_rfl) (by kernel_rfl) (by kernel_rfl) (by rfl) (by kernel_rfl) (by kernel_rfl) (by kernel_rfl) (fun w => by kernel_rfl) (by kernel_rfl) (by kernel_rfl))

def C112Q (x0 : SrtQ) (x1 : Unit) (R : (List Int)) : LV × List (Nat × BC) := (.tup [], [(900000, .arr 1 R.length (rowOf (cInt .i64) R)), (900001, .var [.ro false 6 x0.c0.people.length (rowOf (cPerson false) x0.c0.people), .ro false 4 x0.c0.unions.length (rowOf (cUnion false) x0.c0.unions)]), (900002, .var [.own 900000])])
def sliceQ (x0 : SrtQ) (x1 : Unit) : (List Int) := stableQ x0 (x0.l.length : Int)
noncomputable def A112Q (x0 : SrtQ) (x1 : Unit) : Ann := .reg 2 [] [(1, kvoQ 7 [900000] x0.l), (1001, kspQ 9 [900000] x0.l)] [1, 4, 5] [4, 1007, 900000, 900001, 900002] [] [] [] [0, 4] (.reg 1 [] [(4, klnQ 14 [900000, 1007] x0.l), (5, k154Q 15 [900000, 900001, 900002] x0 (x0.l.length : Int))] [] [900000, 900001, 900002] [] [] [] [0, 4] (rt [(900000, some 900000), (900001, some 900001), (900002, some 900002)] (C112Q x0 x1 (stableQ x0 (x0.l.length : Int)))))
theorem sliceQ_eq (x : SrtQ) : sliceQ x () = x.l := rfl

theorem ok_sort_SliceStable_Q (x0 : SrtQ) (x1 : Unit) (hx : x0.l.length ≤ 1) : FnMT Try.prog 112 [.ifc 39 (.own 900000), .clo 119 [.vp 900001 0, .vp 900002 0]] [.arr 1 x0.l.length (rowOf (cInt .i64) x0.l), .var [.ro false 6 x0.c0.people.length (rowOf (cPerson false) x0.c0.people), .ro false 4 x0.c0.unions.length (rowOf (cUnion false) x0.c0.unions)], .var [.own 900000]] (C112Q x0 x1 (sliceQ x0 x1)) := by
  have aux : ∀ R, sliceQ x0 x1 = R → slim (C112Q x0 x1 R) (A112Q x0 x1) [] := by
    intro R hR
    refine rg ⟨trivial, by with_reducible assumption, trivial⟩ ?_
    refine rg ⟨trivial, ⟨by with_reducible assumption, by (intros; omega)⟩, trivial⟩ ?_
    exact congrArg (C112Q x0 x1) hR
  exact FnM.go 16 Try.func112 (by kernel_rfl) (by kernel_rfl) (A112Q x0 x1) (by kernel_rfl) (aux _ rfl)
def k112Q (d : Nat) (ids : List Nat) (x0 : SrtQ) (x1 : Unit) : Cl := (hresM d ids (C112Q x0 x1 (sliceQ x0 x1)), k1 (ok_sort_SliceStable_Q x0 x1))
end Go.Proofs.Ytepefimocflfkaa
