import Derived.Test.YtikfeeaapenplaaVS51
set_option maxHeartbeats 4000000
set_option linter.unusedSimpArgs false
set_option linter.unusedVariables false
namespace Go.Proofs.Ytikfeeaapenplaa
open Go Go.Lite Go.Proofs
def C10 (R : Law) : LV × List (Nat × BC) := (.agg [.int .i64 R.degree, .int .i64 R.canon, .int .i64 R.affinity, .int .i64 R.age, .int .i64 R.wives, .int .i64 R.husbands, .bool R.patriline, .bool R.matriline], [])
def makeLaw (x0 : List Int) : Law := ((l9Law (l01New x0)).1)
def A10 (x0 : List Int) : Ann := .reg 2 [] [(1001, k41 4 [] x0), (1002, k40 5 [1004] (l01New x0))] [2] [2] [] [] [] [0, 4] (rt [] (C10 ((l9Law (l01New x0)).1)))
theorem ok_spec_MakeLaw (x0 : List Int) (hx : x0.length ≤ 1048576) (hb : ∀ y ∈ x0, 0 ≤ y ∧ y ≤ 255) : FnT Try.prog 10 [.ro false 1 x0.length (rowOf (cInt .u8) x0)] (C10 (makeLaw x0)) := by
  have aux : ∀ R, makeLaw x0 = R → slim (C10 R) (A10 x0) [] := by
    intro R hR
    refine rg ⟨⟨by trivial, by trivial⟩, by (exact l01New_ok hb hx), trivial⟩ ?_
    exact congrArg C10 hR
  exact Fn.go 6 Try.func10 (by kernel_rfl) (by kernel_rfl) (by simp [C10, Frs, FrsL]) (A10 x0) (by kernel_rfl) (aux _ rfl)
def k10 (x0 : List Int) : Cl := (hres (C10 (makeLaw x0)), k2 (ok_spec_MakeLaw x0))
def C31 (R : (List Int)) : LV × List (Nat × BC) := (.own 0, [(0, .arr 1 R.length (rowOf (cInt .i64) R))])
def implPartnersOf (x0 : Family) (x1 : Int) : (List Int) := bif (!(implHas x0 [x1])) then ([] : List Int) else (loopN (fun i1 (v1 : (List Int)) next => bif (decide (0 ≤ (other (x0.unions.getD i1 default) x1))) then (next (v1 ++ [other (x0.unions.getD i1 default) x1])) else (next v1)) (fun (v1 : (List Int)) => v1) x0.unions.length 0 ([] : List Int))
def D31b1 (x0 : Family) (x1 : Int) (i1 : Nat) (v1 : (List Int)) : Dl := ⟨[(17, .int .i64 ((i1 : Nat) : Int)), (5, .own 20005)], [(20005, .arr 1 v1.length (rowOf (cInt .i64) v1))]⟩
def A31b1 (x0 : Family) (x1 : Int) (i1 : Nat) (v1 : (List Int)) : Ann := r0 1 [1, 4, 5, 15, 16, 17, 18] [20005] (cn (decide (((i1 : Nat) : Int) < ((x0.unions.length : Nat) : Int))) (.reg 3 [] [(1002, k57 (x0.unions.getD i1 default) x1)] [1, 4, 5, 8, 15, 16, 17, 25] [20005] [] [pf (0 ≤ (((i1 : Nat) : Int) : Int) ∧ (((i1 : Nat) : Int) : Int) < ((x0.unions.length : Nat) : Int))] [] [0, 4] (cn (decide (0 ≤ (other (x0.unions.getD i1 default) x1))) (.reg 1 [] [(2, bsC 28 (cInt .i64) ([other (x0.unions.getD i1 default) x1] : List Int)), (3, ap1 29 (cInt .i64) 8 v1 (other (x0.unions.getD i1 default) x1))] [1, 4, 5, 15, 16, 17] [29] [] [] [] [0, 4] (r1 1 [1, 4, 5, 15, 16, 17] [29] [pf (inR .i64 (((i1 : Nat) : Int) + 1))] [0] (.next 0 [(20005, some 29)] (D31b1 x0 x1 (i1 + 1) (v1 ++ [other (x0.unions.getD i1 default) x1]))))) (r1 1 [1, 4, 5, 15, 16, 17] [20005] [pf (inR .i64 (((i1 : Nat) : Int) + 1))] [0] (.next 0 [(20005, some 20005)] (D31b1 x0 x1 (i1 + 1) v1))))) (r0 1 [4] [20005] (rt [(0, some 20005)] (C31 v1))))
def A31 (x0 : Family) (x1 : Int) : Ann := r0 1 [1, 2, 4] [2] (.reg 1 [] [(2, bsC 11 (cInt .i64) ([x1] : List Int)), (3, k43 x0 [x1])] [1, 2, 4, 13] [2] [] [] [] [0, 4] (cn (!(implHas x0 [x1])) (r0 1 [1, 2, 4] [2] (rt [(0, none)] (C31 ([] : List Int)))) (r0 1 [1, 2, 4, 5] [2] (r0 1 [1, 4, 5, 15, 16, 17] [] (lp (D31b1 x0 x1) [] [] [(20005, none)] (D31b1 x0 x1 0 ([] : List Int)) (A31b1 x0 x1))))))
theorem ok_impl_PartnersOf (x0 : Family) (x1 : Int) (hx : x0.people.length ≤ 1048576) (hu : x0.unions.length ≤ 1048576) (hn : ∀ p ∈ x0.people, p.name.length ≤ 1048576) : FnT Try.prog 31 [.agg (cFamily false x0), .int .i64 x1] (C31 (implPartnersOf x0 x1)) := by
  have aux : ∀ R, implPartnersOf x0 x1 = R → slim (C31 R) (A31 x0 x1) [] := by
    intro R hR
    refine rg trivial ?_
    refine rg ⟨trivial, ⟨by trivial, by trivial, by trivial, by ((try simp only [decide_eq_true_eq, decide_eq_false_iff_not, List.length_append, List.length_set, List.length_cons, List.length_nil, List.length_replicate] at *); omega)⟩, trivial⟩ ?_
    revert hR; refine cd (fun hc1 hR => ?_) fun hc1 hR => ?_
    ·
      refine rg trivial ?_
      exact congrArg C31 hR
    ·
      refine rg trivial ?_
      refine rg trivial ?_
      revert hR; refine lN (fun i v => v.length ≤ i) (by trivial) rfl fun i1 v1 F1 hn1 hI1 hR hK1 => ?_
      refine rg trivial ?_
      refine ⟨fun hc2 => ?_, fun hc2 => ?_⟩
      · have hii1 : i1 < x0.unions.length := by have := of_decide_eq_true hc2; omega
        replace hR := loopN_step hR hii1
        refine rg ⟨by (intros; omega), trivial, trivial⟩ ?_
        have hp1 := other_rng (x0.unions.getD i1 default) x1
        revert hR; refine cd (fun hc3 hR => ?_) fun hc3 hR => ?_
        ·
          refine rg ⟨trivial, by omega, trivial⟩ ?_
          refine rg ⟨by ( intros; simp only [inR]; omega), trivial⟩ ?_
          exact hK1 (v1 ++ [other (x0.unions.getD i1 default) x1]) hii1 (by ((try simp only [decide_eq_true_eq, decide_eq_false_iff_not, List.length_append, List.length_set, List.length_cons, List.length_nil, List.length_replicate] at *); omega)) hR
        ·
          refine rg ⟨by ( intros; simp only [inR]; omega), trivial⟩ ?_
          exact hK1 v1 hii1 (by (intros; omega)) hR
      · obtain rfl : i1 = x0.unions.length := by have := of_decide_eq_false hc2; omega
        replace hR := loopN_end hR (Nat.lt_irrefl _)
        refine rg trivial ?_
        exact congrArg C31 hR
  exact Fn.go 32 Try.func31 (by kernel_rfl) (by kernel_rfl) (by simp [C31, Frs, FrsL, FrsB, rowOf, cInt, cBool, cStr, cSl, FrsL_app, cPerson, cUnion, cFamily, cLaw, cl01Cur]) (A31 x0 x1) (by kernel_rfl) (aux _ rfl)
def k31 (x0 : Family) (x1 : Int) : Cl := (hres (C31 (implPartnersOf x0 x1)), k3 (ok_impl_PartnersOf x0 x1))
/-! ### When a crowd was born -/
theorem wed_people (c : l01Cur) (x : Family) : (l1Wed c x).1.people = x.people := by
  unfold l1Wed
  refine jn_to (fun _ => True) (fun (r : Family × Int × Int) => r.1.people = x.people) (fun K hK => hK _ trivial) fun j1 _ => ?_
  refine loopW_to (fun v => v.2.1 = x.people) (fun v => Int.toNat v.1) (fun (r : Family × Int × Int) => r.1.people = x.people) (fun v next hv hn => ?_) _ _ (Nat.lt_succ_self _) rfl
  refine cond_both (p := fun (r : Family × Int × Int) => r.1.people = x.people) (fun c1 => ?_) (fun _ => hv)
  have c1 := of_decide_eq_true c1
  refine jn_to (fun _ => True) (fun (r : Family × Int × Int) => r.1.people = x.people) (fun K hK => hK _ trivial) fun j2 _ => ?_
  refine jn_to (fun _ => True) (fun (r : Family × Int × Int) => r.1.people = x.people) (fun K hK => hK _ trivial) fun j3 _ => ?_
  refine cond_both (p := fun (r : Family × Int × Int) => r.1.people = x.people) (fun _ => hn _ hv (by dsimp only; omega)) (fun _ => ?_)
  refine jn_to (fun _ => True) (fun (r : Family × Int × Int) => r.1.people = x.people) (fun K hK => hK _ trivial) fun j4 _ => ?_
  refine cond_both (p := fun (r : Family × Int × Int) => r.1.people = x.people) (fun _ => ?_) (fun _ => ?_)
  · exact cond_both (p := fun (r : Family × Int × Int) => r.1.people = x.people) (fun c2 => hn _ hv (by dsimp only; omega)) (fun _ => hn _ hv (by dsimp only; omega))
  · exact cond_both (p := fun (r : Family × Int × Int) => r.1.people = x.people) (fun c2 => hn _ hv (by dsimp only; omega)) (fun _ => hn _ hv (by dsimp only; omega))
theorem family_born {x0 : l01Cur} (hc : CurOk x0) {x1 : Int} (hm : 0 ≤ x1 ∧ x1 ≤ 40) : ∀ p ∈ (l1Family x0 x1).1.people, p.born ≤ 400 := by
  unfold l1Family
  refine jn_to (fun j => (1 ≤ j.1 ∧ j.1 ≤ 25) ∧ CurOk ⟨x0.b, j.2.1, j.2.2⟩) (fun (r : Family × Int × Int) => ∀ p ∈ r.1.people, p.born ≤ 400) (fun K hK => hK _ ⟨mem4 (l01Int_ok hc (by simp)).1, (l01Int_ok hc (by simp)).2⟩) fun j1 hJ1 => ?_
  refine jn_to (fun j => (1 ≤ j.1 ∧ j.1 ≤ 9) ∧ CurOk ⟨x0.b, j.2.1, j.2.2⟩) (fun (r : Family × Int × Int) => ∀ p ∈ r.1.people, p.born ≤ 400) (fun K hK => hK _ ⟨mem3b (l01Int_ok hJ1.2 (by simp)).1, (l01Int_ok hJ1.2 (by simp)).2⟩) fun j2 hJ2 => ?_
  refine jn_to (fun j => CurOk ⟨x0.b, j.1, j.2.1⟩ ∧ Mk j.2.2.2.1 ∧ j.2.2.2.2 = []) (fun (r : Family × Int × Int) => ∀ p ∈ r.1.people, p.born ≤ 400) (fun K3 hK3 => ?_) fun j3 hJ3 => ?_
  · refine jn_to (fun j => (0 ≤ j.1 ∧ j.1 ≤ 40) ∧ CurOk ⟨x0.b, j.2.1, j.2.2⟩) (fun (r : Family × Int × Int) => ∀ p ∈ r.1.people, p.born ≤ 400) (fun K hK => ?_) fun j4 hJ4 => ?_
    · have h9 := l01Below_ok hJ2.2 (n := x1 + 1) (by omega)
      exact hK _ ⟨⟨h9.1.1, by have := h9.1.2.2 (by omega); dsimp only; omega⟩, h9.2⟩
    refine loopW_to (fun v => ((v.2.2.1.length : Int) + v.1 ≤ 40 ∧ Mk v.2.2.1 ∧ MkB v.2.2.1) ∧ v.2.2.2.1 = [] ∧ CurOk ⟨x0.b, v.2.2.2.2.1, v.2.2.2.2.2⟩) (fun v => Int.toNat v.1) (fun (r : Family × Int × Int) => ∀ p ∈ r.1.people, p.born ≤ 400) (fun v1 next hI1 hn => ?_) _ _ (Nat.lt_succ_self _) ⟨⟨by simp only [List.length_nil]; omega, Mk.nil, MkB.nil⟩, rfl, hJ4.2⟩
    refine cond_both (p := fun (r : Family × Int × Int) => ∀ p ∈ r.1.people, p.born ≤ 400) (fun c1 => ?_) (fun _ => hK3 _ ⟨hI1.2.2, hI1.1.2.1, hI1.2.1⟩)
    have c1 := of_decide_eq_true c1
    have hb2 := l01Below_ok hI1.2.2 (n := 2) (by omega)
    refine jn_to (fun j => CurOk ⟨x0.b, j.1, j.2.1⟩ ∧ PaDp v1.2.2.1 j.2.2 1) (fun (r : Family × Int × Int) => ∀ p ∈ r.1.people, p.born ≤ 400) (fun K5 hK5 => ?_) fun j5 hJ5 => ?_
    · refine jn_to (fun j => CurOk ⟨x0.b, j.2.1, j.2.2⟩) (fun (r : Family × Int × Int) => ∀ p ∈ r.1.people, p.born ≤ 400) (fun K hK => hK _ (l01Once_ok hb2.2 (by have := hJ2.1; omega))) fun j6 hJ6 => ?_
      exact cond_both (p := fun (r : Family × Int × Int) => ∀ p ∈ r.1.people, p.born ≤ 400) (fun _ => hK5 _ (some_ok hJ6 hI1.1.2.1 _ 1)) (fun _ => hK5 _ ⟨hJ6, none_ok _ _⟩)
    refine jn_to (fun j => CurOk ⟨x0.b, j.1, j.2.1⟩ ∧ PaDp v1.2.2.1 j.2.2 2) (fun (r : Family × Int × Int) => ∀ p ∈ r.1.people, p.born ≤ 400) (fun K7 hK7 => ?_) fun j7 hJ7 => ?_
    · refine jn_to (fun j => CurOk ⟨x0.b, j.2.1, j.2.2⟩) (fun (r : Family × Int × Int) => ∀ p ∈ r.1.people, p.born ≤ 400) (fun K hK => hK _ (l01Once_ok hJ5.1 (by have := hJ2.1; omega))) fun j8 hJ8 => ?_
      exact cond_both (p := fun (r : Family × Int × Int) => ∀ p ∈ r.1.people, p.born ≤ 400) (fun _ => hK7 _ (some_ok hJ8 hI1.1.2.1 _ 2)) (fun _ => hK7 _ ⟨hJ8, none_ok _ _⟩)
    refine jn_to (fun j => CurOk ⟨x0.b, j.1, j.2.1⟩ ∧ 0 ≤ j.2.2 ∧ j.2.2 ≤ 11) (fun (r : Family × Int × Int) => ∀ p ∈ r.1.people, p.born ≤ 400) (fun K hK => ?_) fun j9 hJ9 => ?_
    · have h9 := l01Below_ok hJ7.1 (n := 12) (by omega)
      exact hK _ ⟨h9.2, h9.1.1, by have := h9.1.2.2 (by omega); dsimp only; omega⟩
    refine loopN_to (fun i v => CurOk ⟨x0.b, v.2.1, v.2.2⟩ ∧ Born v1.2.2.1 (l1Parents (Family.mk [(Person.mk (l1Called ((v1.2.2.1.length : Nat) : Int)) (1 + ((l01Below (l01Cur.mk x0.b v1.2.2.2.2.1 v1.2.2.2.2.2) 2).1)) j5.2.2 j7.2.2 j9.2.2 (-1))] ([] : List Union)) 0) i v.1) (fun (r : Family × Int × Int) => ∀ p ∈ r.1.people, p.born ≤ 400) ⟨hJ9.1, born0 hJ9.2⟩ (fun i2 v2 next2 hi hI2 hn2 => ?_) fun v2 hI2 => ?_
    · have h7 := l01Below_ok hI2.1 (n := 6) (by omega)
      exact hn2 _ ⟨h7.2, born_step hI2.2 hi hJ1.1 ⟨h7.1.1, h7.1.2.2 (by omega)⟩⟩
    have h8 := hI1.1.1
    have h5 := hb2.1.2.2 (by omega)
    have h7 := hI1.1.2.1.grow hI1.1.2.2 (by omega) (s := (1 + ((l01Below (l01Cur.mk x0.b v1.2.2.2.2.1 v1.2.2.2.2.2) 2).1))) (by omega) hJ5.2.1 hJ7.2.1 hJ5.2.2 hJ7.2.2 hI2.2.1 hI2.2.2.1 (born_all hI2.2)
    exact hn _ ⟨⟨by simp only [List.length_append, List.length_singleton]; omega, h7.1, h7.2⟩, hI1.2.1, hI2.1⟩ (by dsimp only; omega)
  refine loopN_to (fun i v => CurOk ⟨x0.b, v.2.1, v.2.2⟩ ∧ Dying j3.2.2.2.1 v.1) (fun (r : Family × Int × Int) => ∀ p ∈ r.1.people, p.born ≤ 400) ⟨hJ3.1, Dying.refl hJ3.2.1⟩ (fun i3 v3 next hi hI3 hn => ?_) fun v3 hI3 => ?_
  · refine jn_to (fun j => CurOk ⟨x0.b, j.2.1, j.2.2⟩) (fun (r : Family × Int × Int) => ∀ p ∈ r.1.people, p.born ≤ 400) (fun K hK => hK _ (l01Once_ok hI3.1 (by omega))) fun j10 hJ10 => ?_
    refine cond_both (p := fun (r : Family × Int × Int) => ∀ p ∈ r.1.people, p.born ≤ 400) (fun _ => ?_) (fun _ => hn _ ⟨hJ10, hI3.2⟩)
    refine loopN_to (fun i t => Last v3.1 (l1Children (Family.mk v3.1 j3.2.2.2.2) ((i3 : Nat) : Int)) i3 i t) (fun (r : Family × Int × Int) => ∀ p ∈ r.1.people, p.born ≤ 400) (last0 hJ3.2.1 hI3.2 hi) (fun i4 v4 next4 hi4 hI4 hn4 => ?_) fun v4 hI4 => ?_
    · exact hn4 _ (last_step hI4 (dy_born hJ3.2.1 hI3.2 (by have h9 := l1Children_rng hi4; dsimp only at h9; omega)).2)
    · exact hn _ ⟨(l01Int_ok hJ10 (by simp)).2, die_ok hJ3.2.1 hI3.2 hi hI4 (mem5b (l01Int_ok hJ10 (by simp)).1)⟩
  · refine jn_to (fun j => ∀ p ∈ j.1, p.born ≤ 400) (fun (r : Family × Int × Int) => ∀ p ∈ r.1.people, p.born ≤ 400) (fun K hK => hK _ ?_) fun j11 hJ11 => hJ11
    dsimp only
    rw [wed_people]
    intro p hp
    obtain ⟨k, hk, e⟩ := mem_getD (d := default) hp
    have := (dy_born hJ3.2.1 hI3.2 hk).2
    rw [e] at this
    exact this
theorem close_born {x0 : l01Cur} (hc : CurOk x0) : ∀ p ∈ (l8Close x0).1.people, p.born ≤ 400 := by
  unfold l8Close
  refine jn_to (fun j => (2 ≤ j.1 ∧ j.1 ≤ 3) ∧ CurOk ⟨x0.b, j.2.1, j.2.2⟩) (fun (r : Family × Int × Int) => ∀ p ∈ r.1.people, p.born ≤ 400) (fun K hK => ?_) fun j1 hJ1 => ?_
  · have h9 := l01Below_ok hc (n := 2) (by omega)
    have h8 := h9.1.2.2 (by omega)
    exact hK _ ⟨by dsimp only; omega, h9.2⟩
  refine jn_to (fun j => (1 ≤ j.1 ∧ j.1 ≤ 10) ∧ CurOk ⟨x0.b, j.2.1, j.2.2⟩) (fun (r : Family × Int × Int) => ∀ p ∈ r.1.people, p.born ≤ 400) (fun K hK => ?_) fun j2 hJ2 => ?_
  · have h9 := l01Below_ok hJ1.2 (n := 10) (by omega)
    have h8 := h9.1.2.2 (by omega)
    exact hK _ ⟨by dsimp only; omega, h9.2⟩
  refine loopW_to (fun v => CurOk ⟨x0.b, v.2.2.1, v.2.2.2⟩ ∧ Gen j1.1 v.1 v.2.1) (fun v => Int.toNat v.1) (fun (r : Family × Int × Int) => ∀ p ∈ r.1.people, p.born ≤ 400) (fun v1 next hI1 hn => ?_) _ _ (Nat.lt_succ_self _) ⟨hJ2.2, Gen.nil (by have h9 := hJ2.1; omega)⟩
  refine cond_both (p := fun (r : Family × Int × Int) => ∀ p ∈ r.1.people, p.born ≤ 400) (fun c1 => ?_) (fun _ p hp => by
    obtain ⟨k, hk, e⟩ := mem_getD (d := default) hp
    have := (hI1.2.ok.born k hk).2
    rw [e] at this
    exact this)
  simp only [Bool.and_eq_true, decide_eq_true_eq] at c1
  have h4 := hJ1.1
  refine loopN_to (fun i v => CurOk ⟨x0.b, v.2.1, v.2.2⟩ ∧ GenI j1.1 v1.1 v1.2.1 i v.1) (fun (r : Family × Int × Int) => ∀ p ∈ r.1.people, p.born ≤ 400) ⟨hI1.1, hI1.2.start⟩ (fun i2 v2 next2 hi hI2 hn2 => ?_) fun v2 hI2 => ?_
  · refine jn_to (fun j => CurOk ⟨x0.b, j.1, j.2.1⟩ ∧ (j.2.2 = -1 ∨ 0 < v1.2.1.length ∧ j.2.2 = (v1.2.1.length : Int) - j1.1)) (fun (r : Family × Int × Int) => ∀ p ∈ r.1.people, p.born ≤ 400) (fun K3 hK3 => ?_) fun j3 hJ3 => ?_
    · refine jn_to (fun j => CurOk ⟨x0.b, j.2.1, j.2.2⟩ ∧ (j.1 = true → 0 < v1.2.1.length)) (fun (r : Family × Int × Int) => ∀ p ∈ r.1.people, p.born ≤ 400) (fun K hK => ?_) fun j4 hJ4 => ?_
      · exact cond_both (p := fun (r : Family × Int × Int) => ∀ p ∈ r.1.people, p.born ≤ 400) (fun _ => hK _ ⟨l01Once_ok hI2.1 (by omega), fun h9 => by simp only [Bool.and_eq_true, decide_eq_true_eq] at h9; omega⟩) (fun _ => hK _ ⟨hI2.1, fun h9 => by simp only [Bool.and_eq_true, decide_eq_true_eq] at h9; omega⟩)
      · exact cond_both (p := fun (r : Family × Int × Int) => ∀ p ∈ r.1.people, p.born ≤ 400) (fun c => hK3 _ ⟨hJ4.1, .inr ⟨hJ4.2 c, rfl⟩⟩) (fun _ => hK3 _ ⟨hJ4.1, .inl rfl⟩)
    · refine jn_to (fun j => CurOk ⟨x0.b, j.2.1, j.2.2⟩ ∧ (j.1 = true → 0 < v1.2.1.length)) (fun (r : Family × Int × Int) => ∀ p ∈ r.1.people, p.born ≤ 400) (fun K hK => ?_) fun j5 hJ5 => ?_
      · exact cond_both (p := fun (r : Family × Int × Int) => ∀ p ∈ r.1.people, p.born ≤ 400) (fun _ => hK _ ⟨l01Once_ok hJ3.1 (by omega), fun h9 => by simp only [Bool.and_eq_true, decide_eq_true_eq] at h9; omega⟩) (fun _ => hK _ ⟨hJ3.1, fun h9 => by simp only [Bool.and_eq_true, decide_eq_true_eq] at h9; omega⟩)
      · exact cond_both (p := fun (r : Family × Int × Int) => ∀ p ∈ r.1.people, p.born ≤ 400) (fun c => hn2 _ ⟨hJ5.1, hI2.2.step hI1.2 (by omega) h4 (by omega) (by omega) hJ3.2 (.inr ⟨hJ5.2 c, rfl⟩)⟩) (fun _ => hn2 _ ⟨hJ5.1, hI2.2.step hI1.2 (by omega) h4 (by omega) (by omega) hJ3.2 (.inl rfl)⟩)
  · exact hn _ ⟨hI2.1, hI2.2.done hI1.2 (by omega) h4⟩ (by dsimp only; omega)
theorem crowd_born {b : List Int} (h : b.length ≤ 1048576 ∧ ∀ y ∈ b, inR .u8 y) (m : Int) : ∀ p ∈ (crowd b m).people, p.born ≤ 400 := by
  have hn := l01New_ok (bytes_ok h).2 h.1
  have both : ∀ z : Family, (∀ p ∈ z.people, p.born ≤ 400) → ∀ r : Family, (bif decide (((z.people.length : Nat) : Int) = 0) then (Family.mk [(Person.mk [97, 97] 1 (-1) (-1) 0 (-1))] z.unions) else z) = r → ∀ p ∈ r.people, p.born ≤ 400 := fun z hz r hr => by
    subst hr
    exact cond_both (p := fun (r : Family) => ∀ p ∈ r.people, p.born ≤ 400) (fun c p hp => by rw [List.mem_singleton.1 hp]; decide) (fun c => hz)
  unfold crowd
  refine cond_both (p := fun (r : Family) => ∀ p ∈ r.people, p.born ≤ 400) (fun _ => both (makeClose b) (close_born hn) _ rfl) (fun _ => both (makeFamily b m) ?_ _ rfl)
  have := family_born hn (x1 := Max.max 0 (Min.min m 40)) (by omega)
  unfold makeFamily
  exact this
end Go.Proofs.Ytikfeeaapenplaa
