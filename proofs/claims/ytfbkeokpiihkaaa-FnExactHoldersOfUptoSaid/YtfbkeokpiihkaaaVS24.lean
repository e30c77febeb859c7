import Derived.Test.YtfbkeokpiihkaaaVS23
set_option maxHeartbeats 4000000
set_option linter.unusedSimpArgs false
set_option linter.unusedVariables false
namespace Go.Proofs.Ytfbkeokpiihkaaa
open Go Go.Lite Go.Proofs
def holI (f : Family) (x : Custom) (v1 : (List Holder)) (next : List Holder → List Holder) : List Holder := bif (decide (((f.people.getD (((v1.getD ((((v1.length : Nat) : Int) - 1).toNat) default).person).toNat) default).died) = (-1))) then v1 else (bif (decide ((((implSucc f x ((v1.getD ((((v1.length : Nat) : Int) - 1).toNat) default).person) ((f.people.getD (((v1.getD ((((v1.length : Nat) : Int) - 1).toNat) default).person).toNat) default).died)).length : Nat) : Int) = 0)) then v1 else (next (v1 ++ [(Holder.mk ((implSucc f x ((v1.getD ((((v1.length : Nat) : Int) - 1).toNat) default).person) ((f.people.getD (((v1.getD ((((v1.length : Nat) : Int) - 1).toNat) default).person).toNat) default).died)).getD 0 default) ((f.people.getD (((v1.getD ((((v1.length : Nat) : Int) - 1).toNat) default).person).toNat) default).died))])))
def holS (f : Family) (x : Custom) (v1 : Int × (List Holder)) (next : Int × (List Holder) → List Holder) : List Holder := bif (decide (0 ≤ ((f.people.getD v1.1.toNat default).died))) then (bif (!((specHeirOf f x v1.1 ((f.people.getD v1.1.toNat default).died)).2)) then v1.2 else (next ((specHeirOf f x v1.1 ((f.people.getD v1.1.toNat default).died)).1, (v1.2 ++ [(Holder.mk ((specHeirOf f x v1.1 ((f.people.getD v1.1.toNat default).died)).1) ((f.people.getD v1.1.toNat default).died))])))) else v1.2
theorem hol_same {f : Family} (hf : specIsFamily f = true) {x : Custom} (hx : specIsCustom x = true) : ∀ (m : Nat) (o : List Holder), HldOk f o → 10003 - o.length < m → loopW (holI f x) m o = loopW (holS f x) m ((lastH o).person, o) := by
  intro m
  induction m with
  | zero => intro o _ hm; exact absurd hm (Nat.not_lt_zero _)
  | succ m ih =>
    intro o ho hm
    have hd := ho.died hf
    have hb := ho.bd
    have hr := ho.rg
    have hs := fun c => ho.step hf (c := c)
    show holI f x o (loopW (holI f x) m) = holS f x ((lastH o).person, o) (loopW (holS f x) m)
    unfold holI holS
    change (bif (decide (((f.people.getD (((lastH o).person).toNat) default).died) = (-1))) then o else (bif (decide ((((implSucc f x (lastH o).person ((f.people.getD (((lastH o).person).toNat) default).died)).length : Nat) : Int) = 0)) then o else (loopW (holI f x) m (o ++ [(Holder.mk ((implSucc f x (lastH o).person ((f.people.getD (((lastH o).person).toNat) default).died)).getD 0 default) ((f.people.getD (((lastH o).person).toNat) default).died))])))) = _
    rw [implSucc_val hf hx hr]
    unfold specHeirOf
    dsimp only
    revert hd hs
    generalize (f.people.getD (((lastH o).person).toNat) default).died = d
    intro hd hs
    by_cases h1 : d = -1
    · subst h1; rfl
    · rw [decide_eq_false h1, decide_eq_true (show 0 ≤ d by omega), cond_false, cond_true]
      by_cases h2 : (((specSuccO f x (lastH o).person d).length : Nat) : Int) = 0
      · rw [decide_eq_true h2]; rfl
      · rw [decide_eq_false h2]
        have h5 := heir_ok x h2
        have h6 := hs _ h1 h5.1 h5.2
        have h7 := ih _ h6 (by simp only [List.length_append, List.length_singleton]; omega)
        rw [lastH_snoc] at h7
        exact h7
theorem holders_eq (f : Family) (x : Custom) (p : Int) : implHolders f x p = specHolders f x p := by
  unfold implHolders specHolders
  have e : ((!(implHas f [p])) || (!(implIsCustom x))) = ((!(specIsCustom x)) || (!(l1Has f p))) := by
    rw [isCustom_eq, has1_eq, Bool.or_comm]
  rw [e]
  cases h : ((!(specIsCustom x)) || (!(l1Has f p))) with
  | true => rfl
  | false =>
    simp only [or_f_iff, not_f_iff, l1Has_iff] at h
    rw [cond_false, cond_false]
    have hM : ∃ M, M = 10003 - [(Holder.mk p ((f.people.getD p.toNat default).born))].length + 1 := ⟨_, rfl⟩
    obtain ⟨M, hM⟩ := hM
    rw [← hM]
    exact hol_same h.2.2 h.1 M _ (HldOk.start h.2.2 h.2.1) (by omega)
theorem specHolders_len (f : Family) (x : Custom) (p : Int) : (specHolders f x p).length ≤ 10001 := by
  unfold specHolders
  refine cond_both (p := fun (r : List Holder) => r.length ≤ 10001) (fun _ => by simp) (fun h => ?_)
  simp only [or_f_iff, not_f_iff, l1Has_iff] at h
  have hf := h.2.2
  refine loopW_to (fun (v : Int × List Holder) => HldOk f v.2 ∧ v.1 = (lastH v.2).person) (fun v => 10003 - v.2.length) (fun (r : List Holder) => r.length ≤ 10001) (fun v next hv hn => ?_) _ _ (Nat.lt_succ_self _) ⟨HldOk.start hf h.2.1, rfl⟩
  refine cond_both (p := fun (r : List Holder) => r.length ≤ 10001) (fun c1 => ?_) (fun _ => hv.1.bd.2)
  refine cond_both (p := fun (r : List Holder) => r.length ≤ 10001) (fun _ => hv.1.bd.2) (fun c2 => ?_)
  refine hn _ ⟨hv.1.next2 hf hv.2 c1 c2, by rw [lastH_snoc]⟩ ?_
  have := hv.1.bd
  simp only [List.length_append, List.length_singleton]; omega
def C65 (R : Bool) : LV × List (Nat × BC) := (.bool R, [])
def eqHolder (x0 : Holder) (x1 : Holder) : Bool := bif (!decide (x0.person = x1.person)) then false else (bif (!decide (x0.from0 = x1.from0)) then false else true)
def A65 (x0 : Holder) (x1 : Holder) : Ann := r0 1 [2, 3, 4] [2, 3] (r0 1 [2, 3, 4, 9] [2, 3] (cn (!decide (x0.person = x1.person)) (r0 1 [2, 3, 4] [2, 3] (rt [] (C65 false))) (r0 1 [4, 14] [] (cn (!decide (x0.from0 = x1.from0)) (r0 1 [4] [] (rt [] (C65 false))) (r0 1 [4] [] (rt [] (C65 true)))))))
theorem eqHolder_self (x : Holder) : eqHolder x x = true := by simp [eqHolder]
theorem ok_laws_eqHolder (x0 : Holder) (x1 : Holder) : FnT Try.prog 65 [.agg (cHolder false x0), .agg (cHolder false x1)] (C65 (eqHolder x0 x1)) := by
  have aux : ∀ R, eqHolder x0 x1 = R → slim (C65 R) (A65 x0 x1) [] := by
    intro R hR
    refine rg trivial ?_
    refine rg trivial ?_
    revert hR; refine cd (fun hc1 hR => ?_) fun hc1 hR => ?_
    ·
      refine rg trivial ?_
      exact congrArg C65 hR
    ·
      refine rg trivial ?_
      revert hR; refine cd (fun hc2 hR => ?_) fun hc2 hR => ?_
      ·
        refine rg trivial ?_
        exact congrArg C65 hR
      ·
        refine rg trivial ?_
        exact congrArg C65 hR
  exact Fn.go 15 Try.func65 (by kernel_rfl) (by kernel_rfl) (by simp [C65, Frs, FrsL]) (A65 x0 x1) (by kernel_rfl) (aux _ rfl)
def k65 (x0 : Holder) (x1 : Holder) : Cl := (hres (C65 (eqHolder x0 x1)), k0 (ok_laws_eqHolder x0 x1))
def C33 (R : Bool) : LV × List (Nat × BC) := (.bool R, [])
def eqHolderS (x0 : List Holder) (x1 : List Holder) : Bool := bif (!decide (((x0.length : Nat) : Int) = ((x1.length : Nat) : Int))) then false else (loopN (fun i1 (v1 : Unit) next => bif (!(eqHolder (x0.getD i1 default) (x1.getD i1 default))) then false else (next ())) (fun (v1 : Unit) => true) x0.length 0 ())
def D33b1 (x0 : List Holder) (x1 : List Holder) (i1 : Nat) (v1 : Unit) : Dl := ⟨[(5, .int .i64 ((i1 : Nat) : Int))], []⟩
def A33b1 (x0 : List Holder) (x1 : List Holder) (i1 : Nat) (v1 : Unit) : Ann := r0 1 [0, 1, 4, 5, 14] [] (cn (decide (((i1 : Nat) : Int) < ((x0.length : Nat) : Int))) (.reg 1 [] [(8, k65 (x0.getD i1 default) (x1.getD i1 default))] [0, 1, 4, 5, 26] [] [] [pf (0 ≤ (((i1 : Nat) : Int) : Int) ∧ (((i1 : Nat) : Int) : Int) < ((x0.length : Nat) : Int)), pf (0 ≤ (((i1 : Nat) : Int) : Int) ∧ (((i1 : Nat) : Int) : Int) < ((x1.length : Nat) : Int))] [] [0, 4, 8] (cn (!(eqHolder (x0.getD i1 default) (x1.getD i1 default))) (r0 1 [0, 1, 4, 5] [] (rt [] (C33 false))) (r1 1 [0, 1, 4, 5] [] [pf (inR .i64 (((i1 : Nat) : Int) + 1))] [0] (.next 0 [] (D33b1 x0 x1 (i1 + 1) ()))))) (r0 1 [4] [] (rt [] (C33 true))))
def A33 (x0 : List Holder) (x1 : List Holder) : Ann := r0 1 [0, 1, 4] [] (r0 1 [0, 1, 4, 10] [] (cn (!decide (((x0.length : Nat) : Int) = ((x1.length : Nat) : Int))) (r0 1 [0, 1, 4] [] (rt [] (C33 false))) (r0 1 [0, 1, 4, 5] [] (lp (D33b1 x0 x1) [] [] [] (D33b1 x0 x1 0 ()) (A33b1 x0 x1)))))
theorem eqHolderS_self (x : List Holder) : eqHolderS x x = true := by
  simp only [eqHolderS, decide_true, Bool.not_true, cond_false]
  exact loopN_inv (fun _ _ => True) (fun r => r = true) (fun i v next _ hn => by simp only [eqHolder_self, Bool.not_true, cond_false]; exact hn _ trivial) (fun _ _ _ => rfl) _ _ _ trivial
theorem ok_laws_eqHolderS (x0 : List Holder) (x1 : List Holder) (hx : x0.length ≤ 1048576) : FnT Try.prog 33 [.ro false 2 x0.length (rowOf (cHolder false) x0), .ro false 2 x1.length (rowOf (cHolder false) x1)] (C33 (eqHolderS x0 x1)) := by
  have aux : ∀ R, eqHolderS x0 x1 = R → slim (C33 R) (A33 x0 x1) [] := by
    intro R hR
    refine rg trivial ?_
    refine rg trivial ?_
    revert hR; refine cd (fun hc1 hR => ?_) fun hc1 hR => ?_
    ·
      refine rg trivial ?_
      exact congrArg C33 hR
    ·
      refine rg trivial ?_
      revert hR; refine lN (fun i v => True) (by trivial) rfl fun i1 v1 F1 hn1 hI1 hR hK1 => ?_
      refine rg trivial ?_
      refine ⟨fun hc2 => ?_, fun hc2 => ?_⟩
      · have hii1 : i1 < x0.length := by have := of_decide_eq_true hc2; omega
        replace hR := loopN_step hR hii1
        refine rg ⟨by (intros; omega), by ((try clear hR hK1); intros; (try simp only [decide_eq_true_eq, decide_eq_false_iff_not, Bool.or_eq_true, Bool.and_eq_true, or_f_iff, not_f_iff, not_t_iff, Bool.not_eq_true', inR] at *); (repeat' apply And.intro) <;> (intros; omega)), trivial, trivial⟩ ?_
        revert hR; refine cd (fun hc3 hR => ?_) fun hc3 hR => ?_
        ·
          refine rg trivial ?_
          exact congrArg C33 hR
        ·
          refine rg ⟨by ( intros; simp only [inR]; omega), trivial⟩ ?_
          exact hK1 () hii1 (by trivial) hR
      · obtain rfl : i1 = x0.length := by have := of_decide_eq_false hc2; omega
        replace hR := loopN_end hR (Nat.lt_irrefl _)
        refine rg trivial ?_
        exact congrArg C33 hR
  exact Fn.go 27 Try.func33 (by kernel_rfl) (by kernel_rfl) (by simp [C33, Frs, FrsL]) (A33 x0 x1) (by kernel_rfl) (aux _ rfl)
def k33 (x0 : List Holder) (x1 : List Holder) : Cl := (hres (C33 (eqHolderS x0 x1)), k1 (ok_laws_eqHolderS x0 x1))
def C34 (x0 : List Holder) (x1 : Int) (R : Int × (List Holder)) : LV × List (Nat × BC) := (.int .i64 R.1, [(900000, .arr 2 R.2.length (rowOf (cHolder true) R.2))])
def markHolderS (x0 : List Holder) (x1 : Int) : Int × (List Holder) := loopN (fun i1 (v1 : (List Holder) × Int) next => next ((v1.1.set i1 (Holder.mk v1.2 (v1.2 + 1))), (v1.2 + 1) + 1)) (fun (v1 : (List Holder) × Int) => (v1.2, v1.1)) x0.length 0 (x0, x1)
def D34b1 (x0 : List Holder) (x1 : Int) (i1 : Nat) (v1 : (List Holder) × Int) : Dl := ⟨[(5, .int .i64 ((i1 : Nat) : Int)), (0, .own 900000), (1, .int .i64 v1.2)], [(900000, .arr 2 x0.length (rowOf (cHolder true) v1.1))]⟩
def A34b1 (x0 : List Holder) (x1 : Int) (i1 : Nat) (v1 : (List Holder) × Int) : Ann := r0 1 [0, 1, 4, 5, 9] [900000] (cn (decide (((i1 : Nat) : Int) < ((x0.length : Nat) : Int))) (.reg 3 [] [(5, stP 900000 (cHolder true) x0.length v1.1 v1.1 i1 0 [.int .i64 v1.2] (Holder.mk v1.2 ((v1.1.getD i1 default).from0)) (v1.1.getD i1 default) (.inr ⟨rfl, rfl⟩) rfl), (2005, stP 900000 (cHolder true) x0.length v1.1 (v1.1.set i1 (Holder.mk v1.2 ((v1.1.getD i1 default).from0))) i1 1 [.int .i64 (v1.2 + 1)] (Holder.mk v1.2 (v1.2 + 1)) (Holder.mk v1.2 ((v1.1.getD i1 default).from0)) (.inl rfl) rfl)] [0, 1, 4, 5] [900000] [] [pf (0 ≤ (((i1 : Nat) : Int) : Int) ∧ (((i1 : Nat) : Int) : Int) < ((x0.length : Nat) : Int)), pf (inR .i64 (v1.2 + 1))] [] [0, 8, 4, 0, 12] (r1 1 [0, 1, 4, 5] [900000] [pf (inR .i64 ((v1.2 + 1) + 1))] [0] (r1 1 [0, 1, 4, 5] [900000] [pf (inR .i64 (((i1 : Nat) : Int) + 1))] [0] (.next 0 [(900000, some 900000)] (D34b1 x0 x1 (i1 + 1) ((v1.1.set i1 (Holder.mk v1.2 (v1.2 + 1))), (v1.2 + 1) + 1)))))) (r0 1 [4] [900000] (.co false 900000 v1.1.length (rowOf (cHolder true) v1.1) [lnP (rowOf (cHolder true) v1.1) x0.length v1.1.length] [] 0 (rt [(900000, some 900000)] (C34 x0 x1 (v1.2, v1.1))))))
def A34 (x0 : List Holder) (x1 : Int) : Ann := r0 1 [0, 1, 4] [900000] (r0 1 [0, 1, 4, 5] [900000] (lp (D34b1 x0 x1) [] [] [(900000, some 900000)] (D34b1 x0 x1 0 (x0, x1)) (A34b1 x0 x1)))
theorem markHolderS_get (l : List Holder) (k : Int) : ((markHolderS l k).2.length = l.length ∧ (markHolderS l k).1 = k + 2 * l.length) ∧ ∀ i : Nat, i < l.length → (markHolderS l k).2.getD i default = ⟨k + 2 * i, k + 2 * i + 1⟩ := by
  unfold markHolderS
  refine loopN_to (fun i (v : List Holder × Int) => v.1.length = l.length ∧ v.2 = k + 2 * i ∧ ∀ j : Nat, j < i → v.1.getD j default = ⟨k + 2 * j, k + 2 * j + 1⟩)
    (fun (r : Int × List Holder) => (r.2.length = l.length ∧ r.1 = k + 2 * l.length) ∧ ∀ i : Nat, i < l.length → r.2.getD i default = ⟨k + 2 * i, k + 2 * i + 1⟩) ⟨rfl, by simp, fun j hj => absurd hj (Nat.not_lt_zero _)⟩ (fun i v next hi hv hn => hn _ ⟨by simp [hv.1], by rw [hv.2.1]; simp only; omega, fun j hj => ?_⟩) (fun v hv => ⟨⟨hv.1, hv.2.1⟩, hv.2.2⟩)
  rw [getD_set]
  split
  · rename_i e
    rw [e.1, hv.2.1, Holder.mk.injEq]
    exact ⟨by omega, by omega⟩
  · rename_i e; exact hv.2.2 j (by have := hv.1; omega)
theorem markHolderS_val (l : List Holder) (k : Int) : (markHolderS l k).1 = k + 2 * l.length := (markHolderS_get l k).1.2
theorem ok_laws_markHolderS (x0 : List Holder) (x1 : Int) (hx : x0.length ≤ 1048576) (hk : 0 ≤ x1 ∧ x1 ≤ 30000000) : FnMT Try.prog 34 [.own 900000, .int .i64 x1] [.arr 2 x0.length (rowOf (cHolder true) x0)] (C34 x0 x1 (markHolderS x0 x1)) := by
  have aux : ∀ R, markHolderS x0 x1 = R → slim (C34 x0 x1 R) (A34 x0 x1) [] := by
    intro R hR
    refine rg trivial ?_
    refine rg trivial ?_
    revert hR; refine lN (fun i v => v.1.length = x0.length ∧ v.2 = x1 + 2 * i) (by ((try clear hR); intros; (try simp only [decide_eq_true_eq, decide_eq_false_iff_not, Bool.or_eq_true, Bool.and_eq_true, or_f_iff, not_f_iff, not_t_iff, Bool.not_eq_true', inR] at *); (repeat' apply And.intro) <;> (first | (intros; omega) | (simp_all [inR]; done)))) rfl fun i1 v1 F1 hn1 hI1 hR hK1 => ?_
    refine rg trivial ?_
    refine ⟨fun hc1 => ?_, fun hc1 => ?_⟩
    · have hii1 : i1 < x0.length := by have := of_decide_eq_true hc1; omega
      replace hR := loopN_step hR hii1
      refine rg ⟨by (intros; omega), by ( intros; simp only [inR]; omega), by (intros; omega), by (intros; omega), trivial⟩ ?_
      refine rg ⟨by ( intros; simp only [inR]; omega), trivial⟩ ?_
      refine rg ⟨by ( intros; simp only [inR]; omega), trivial⟩ ?_
      exact hK1 ((v1.1.set i1 (Holder.mk v1.2 (v1.2 + 1))), (v1.2 + 1) + 1) hii1 (by (simp only [List.length_set]; omega)) hR
    · obtain rfl : i1 = x0.length := by have := of_decide_eq_false hc1; omega
      replace hR := loopN_end hR (Nat.lt_irrefl _)
      refine rg trivial ?_
      refine og (by (intros; omega)) ?_
      exact congrArg (C34 x0 x1) hR
  exact FnM.go 27 Try.func34 (by kernel_rfl) (by kernel_rfl) (A34 x0 x1) (by kernel_rfl) (aux _ rfl)
def k34 (d : Nat) (ids : List Nat) (x0 : List Holder) (x1 : Int) : Cl := (hresM d ids (C34 x0 x1 (markHolderS x0 x1)), k2 (ok_laws_markHolderS x0 x1))
def C35 (R : Int) : LV × List (Nat × BC) := (.int .i64 R, [])
def heldHolderS (x0 : List Holder) (x1 : Int) : Int := loopN (fun i1 (v1 : Int) next => bif (!decide (((x0.getD i1 default).person) = v1)) then (-1) else (bif (!decide (((x0.getD i1 default).from0) = (v1 + 1))) then (-1) else (next ((v1 + 1) + 1)))) (fun (v1 : Int) => v1) x0.length 0 x1
def D35b1 (x0 : List Holder) (x1 : Int) (i1 : Nat) (v1 : Int) : Dl := ⟨[(5, .int .i64 ((i1 : Nat) : Int)), (1, .int .i64 v1)], []⟩
def A35b1 (x0 : List Holder) (x1 : Int) (i1 : Nat) (v1 : Int) : Ann := r0 1 [0, 1, 4, 5, 9] [] (cn (decide (((i1 : Nat) : Int) < ((x0.length : Nat) : Int))) (r1 1 [0, 1, 4, 5, 18] [] [pf (0 ≤ (((i1 : Nat) : Int) : Int) ∧ (((i1 : Nat) : Int) : Int) < ((x0.length : Nat) : Int))] [0] (cn (!decide (((x0.getD i1 default).person) = v1)) (r0 1 [0, 1, 4, 5] [] (rt [] (C35 (-1)))) (r1 1 [0, 1, 4, 5] [] [pf (inR .i64 (v1 + 1))] [0] (r1 1 [0, 1, 4, 5, 27] [] [pf (0 ≤ (((i1 : Nat) : Int) : Int) ∧ (((i1 : Nat) : Int) : Int) < ((x0.length : Nat) : Int))] [0] (cn (!decide (((x0.getD i1 default).from0) = (v1 + 1))) (r0 1 [0, 1, 4, 5] [] (rt [] (C35 (-1)))) (r1 1 [0, 1, 4, 5] [] [pf (inR .i64 ((v1 + 1) + 1))] [0] (r1 1 [0, 1, 4, 5] [] [pf (inR .i64 (((i1 : Nat) : Int) + 1))] [0] (.next 0 [] (D35b1 x0 x1 (i1 + 1) ((v1 + 1) + 1)))))))))) (r0 1 [4] [] (rt [] (C35 v1))))
def A35 (x0 : List Holder) (x1 : Int) : Ann := r0 1 [0, 1, 4] [] (r0 1 [0, 1, 4, 5] [] (lp (D35b1 x0 x1) [] [] [] (D35b1 x0 x1 0 x1) (A35b1 x0 x1)))
theorem held_markHolderS (l : List Holder) (k : Int) : heldHolderS (markHolderS l k).2 k = k + 2 * l.length := by
  obtain ⟨⟨h1, _⟩, h2⟩ := markHolderS_get l k
  unfold heldHolderS
  rw [h1]
  refine loopN_to (fun i (v : Int) => v = k + 2 * i) (fun (r : Int) => r = k + 2 * l.length) (by simp) (fun i v next hi hv hn => ?_) (fun v hv => hv)
  subst hv
  rw [h2 i hi]
  simp only [decide_true, Bool.not_true, cond_false]
  exact hn _ (by omega)
theorem ok_laws_heldHolderS (x0 : List Holder) (x1 : Int) (hx : x0.length ≤ 1048576) (hk : 0 ≤ x1 ∧ x1 ≤ 30000000) : FnT Try.prog 35 [.ro false 2 x0.length (rowOf (cHolder false) x0), .int .i64 x1] (C35 (heldHolderS x0 x1)) := by
  have aux : ∀ R, heldHolderS x0 x1 = R → slim (C35 R) (A35 x0 x1) [] := by
    intro R hR
    refine rg trivial ?_
    refine rg trivial ?_
    revert hR; refine lN (fun i v => v = x1 + 2 * i) (by (intros; omega)) rfl fun i1 v1 F1 hn1 hI1 hR hK1 => ?_
    refine rg trivial ?_
    refine ⟨fun hc1 => ?_, fun hc1 => ?_⟩
    · have hii1 : i1 < x0.length := by have := of_decide_eq_true hc1; omega
      replace hR := loopN_step hR hii1
      refine rg ⟨by (intros; omega), trivial⟩ ?_
      revert hR; refine cd (fun hc2 hR => ?_) fun hc2 hR => ?_
      ·
        refine rg trivial ?_
        exact congrArg C35 hR
      ·
        refine rg ⟨by ( intros; simp only [inR]; omega), trivial⟩ ?_
        refine rg ⟨by (intros; omega), trivial⟩ ?_
        revert hR; refine cd (fun hc3 hR => ?_) fun hc3 hR => ?_
        ·
          refine rg trivial ?_
          exact congrArg C35 hR
        ·
          refine rg ⟨by ( intros; simp only [inR]; omega), trivial⟩ ?_
          refine rg ⟨by ( intros; simp only [inR]; omega), trivial⟩ ?_
          exact hK1 ((v1 + 1) + 1) hii1 (by (intros; omega)) hR
    · obtain rfl : i1 = x0.length := by have := of_decide_eq_false hc1; omega
      replace hR := loopN_end hR (Nat.lt_irrefl _)
      refine rg trivial ?_
      exact congrArg C35 hR
  exact Fn.go 31 Try.func35 (by kernel_rfl) (by kernel_rfl) (by simp [C35, Frs, FrsL]) (A35 x0 x1) (by kernel_rfl) (aux _ rfl)
def k35 (x0 : List Holder) (x1 : Int) : Cl := (hres (C35 (heldHolderS x0 x1)), k2 (ok_laws_heldHolderS x0 x1))
end Go.Proofs.Ytfbkeokpiihkaaa
