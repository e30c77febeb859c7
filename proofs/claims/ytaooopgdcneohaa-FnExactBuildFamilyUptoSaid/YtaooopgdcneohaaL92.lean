/- FnExactBuildFamily answers true: impl.BuildFamily and spec.BuildFamily build the same family or both refuse, and nothing is shared. -/
import Derived.Test.YtaooopgdcneohaaRows
import Derived.Test.YtaooopgdcneohaaM92
import Derived.Test.YtaooopgdcneohaaLiteR
import Derived.WalkKit
import Derived.ProofKit
import Derived.OpenShut
import Derived.JoinedCond
set_option maxHeartbeats 4000000
set_option linter.unusedSimpArgs false
set_option linter.unusedVariables false
namespace Go.Proofs.Ytaooopgdcneohaa
open Go Go.Lite Go.Proofs Go.ChangeShapes Go.WideShapes Go.ChangeAt Go.RowKit
def C5 (R : Bool) : LV × List (Nat × BC) := (.bool R, [])
def laws_FnExactBuildFamily_m (x0 : List Event) : Bool := bif (decide ((szEventS x0 1048576) < 0)) then true else (bif ((!(eqFamily ((implBuild x0).1) ((specBuild x0).1))) || (!(((implBuild x0).2) == ((specBuild x0).2)))) then false else (bif (!(eqEventS x0 x0)) then false else (bif (((decide (((markEventS x0 1).1) < 0)) || (!(eqFamily ((implBuild x0).1) ((specBuild x0).1)))) || (!(((implBuild x0).2) == ((specBuild x0).2)))) then false else (bif (decide ((heldFamily ((markFamily ((implBuild x0).1) 1).2) 1) < 0)) then false else (bif (!decide ((heldFamily ((markFamily ((implBuild x0).1) 1).2) 1) = ((markFamily ((implBuild x0).1) 1).1))) then false else (bif ((!(eqFamily ((implBuild x0).1) ((specBuild x0).1))) || (!(((implBuild x0).2) == ((specBuild x0).2)))) then false else (bif (decide ((heldFamily ((markFamily ((implBuild x0).1) 1).2) 1) < 0)) then false else (bif (!decide ((heldFamily ((markFamily ((implBuild x0).1) 1).2) 1) = ((markFamily ((implBuild x0).1) 1).1))) then false else true))))))))
def A5 (x0 : List Event) : Ann := .reg 3 [] [(2002, k26 x0 1048576)] [0, 2, 3] [] [] [] [] [0] (r0 1 [0, 2, 18] [] (cn (decide ((szEventS x0 1048576) < 0)) (r0 1 [0, 2] [] (rt [] (C5 true))) (.reg 3 [] [(1, k28 x0), (2, k27 x0), (1001, k28 x0), (2001, k29 x0)] [0, 2, 4, 5, 6, 7, 8] [4, 7, 1022, 1026, 1029, 2022, 2029] [] [] [] [0, 4, 8, 12] (.reg 1 [] [(2, k13 ((implBuild x0).1) ((specBuild x0).1))] [0, 2, 4, 5, 6, 7, 8, 40] [4, 7, 1022, 1026, 1029, 2022, 2029] [!(!(eqFamily ((implBuild x0).1) ((specBuild x0).1))), !(eqFamily ((implBuild x0).1) ((specBuild x0).1))] [] [] [0, 1, 1, 6] (cn ((!(eqFamily ((implBuild x0).1) ((specBuild x0).1))) || (!(((implBuild x0).2) == ((specBuild x0).2)))) (r0 1 [0, 2, 4, 5, 6, 7, 8] [4, 7, 1022, 1026, 1029, 2022, 2029] (rt [] (C5 false))) (.reg 1 [] [(2, k28 x0), (3, k30 x0 x0)] [0, 2, 4, 5, 6, 7, 8, 45] [4, 7, 1022, 1026, 1029, 2022, 2029] [] [] [] [0, 4] (cn (!(eqEventS x0 x0)) (r0 1 [0, 2, 4, 5, 6, 7, 8] [4, 7, 1022, 1026, 1029, 2022, 2029] (rt [] (C5 false))) (.reg 2 [] [(1002, k31 48 [1026] x0 1)] [0, 2, 4, 5, 7, 8, 9] [4, 7, 1022, 1029, 2022, 2029] [] [] [] [0] (.reg 1 [] [(5, cg (!(decide (((markEventS x0 1).1) < 0))) (k13 ((implBuild x0).1) ((specBuild x0).1)))] [0, 2, 4, 5, 7, 61] [4, 7, 1022, 1029, 2022, 2029] [!(decide (((markEventS x0 1).1) < 0)), decide (((markEventS x0 1).1) < 0), !((decide (((markEventS x0 1).1) < 0)) || (!(eqFamily ((implBuild x0).1) ((specBuild x0).1)))), (decide (((markEventS x0 1).1) < 0)) || (!(eqFamily ((implBuild x0).1) ((specBuild x0).1)))] [] [] [1, 1, 0, 1, 6, 9, 9, 14] (cn (((decide (((markEventS x0 1).1) < 0)) || (!(eqFamily ((implBuild x0).1) ((specBuild x0).1)))) || (!(((implBuild x0).2) == ((specBuild x0).2)))) (r0 1 [0, 2, 4, 5, 7] [4, 7, 1022, 1029, 2022, 2029] (rt [] (C5 false))) (.reg 4 [] [(1002, k14 64 [1029, 2029] ((implBuild x0).1) 1), (3002, k15 ((markFamily ((implBuild x0).1) 1).2) 1)] [0, 2, 4, 5, 7, 10, 11] [4, 7, 1022, 1029, 2022, 2029] [] [] [] [0, 4] (r0 1 [0, 2, 4, 5, 7, 10, 11, 69] [4, 7, 1022, 1029, 2022, 2029] (cn (decide ((heldFamily ((markFamily ((implBuild x0).1) 1).2) 1) < 0)) (r0 1 [0, 2, 4, 5, 7, 10, 11] [4, 7, 1022, 1029, 2022, 2029] (rt [] (C5 false))) (r0 1 [0, 2, 4, 5, 7, 10, 72] [4, 7, 1022, 1029, 2022, 2029] (cn (!decide ((heldFamily ((markFamily ((implBuild x0).1) 1).2) 1) = ((markFamily ((implBuild x0).1) 1).1))) (r0 1 [0, 2, 4, 5, 7, 10] [4, 7, 1022, 1029, 2022, 2029] (rt [] (C5 false))) (.reg 1 [] [(1, k28 x0), (2, k29 x0)] [2, 4, 5, 7, 10, 12, 13] [4, 7, 12, 1022, 1029, 1076, 2022, 2029, 2076] [] [] [] [0, 4] (.reg 1 [] [(2, k13 ((implBuild x0).1) ((specBuild x0).1))] [2, 7, 10, 87] [7, 1029, 2029] [!(!(eqFamily ((implBuild x0).1) ((specBuild x0).1))), !(eqFamily ((implBuild x0).1) ((specBuild x0).1))] [] [] [0, 1, 1, 6] (cn ((!(eqFamily ((implBuild x0).1) ((specBuild x0).1))) || (!(((implBuild x0).2) == ((specBuild x0).2)))) (r0 1 [2, 7, 10] [7, 1029, 2029] (rt [] (C5 false))) (.reg 2 [] [(1002, k15 ((markFamily ((implBuild x0).1) 1).2) 1)] [2, 10, 11] [] [] [] [] [0] (r0 1 [2, 10, 11, 92] [] (cn (decide ((heldFamily ((markFamily ((implBuild x0).1) 1).2) 1) < 0)) (r0 1 [2, 10, 11] [] (rt [] (C5 false))) (r0 1 [2, 95] [] (cn (!decide ((heldFamily ((markFamily ((implBuild x0).1) 1).2) 1) = ((markFamily ((implBuild x0).1) 1).1))) (r0 1 [2] [] (rt [] (C5 false))) (r0 1 [2] [] (rt [] (C5 true))))))))))))))))))))))))))
theorem mark_fam (x : Family) (k : Int) : (markFamily x k).1 = k + 6 * x.people.length + 4 * x.unions.length := by
  unfold markFamily
  simp only [markUnionS_val, markPersonS_val]
theorem mark_len (x : Family) (k : Int) : (markFamily x k).2.people.length = x.people.length ∧ (markFamily x k).2.unions.length = x.unions.length := ⟨(markPersonS_get _ _).1, (markUnionS_get _ _).1⟩
theorem held_fam (x : Family) (k : Int) (hk : 0 ≤ k) : heldFamily (markFamily x k).2 k = (markFamily x k).1 := by
  rw [mark_fam]
  unfold heldFamily markFamily
  simp only [held_persons, markPersonS_val, held_unions]
  rw [decide_eq_false (by omega), decide_eq_false (by omega)]
  rfl
theorem markEventS_val (l : List Event) (k : Int) : (markEventS l k).1 = k + 6 * l.length := by
  unfold markEventS
  exact loopN_to (fun i (v : List Event × Int) => v.2 = k + 6 * i) (fun (r : Int × List Event) => r.1 = k + 6 * l.length) (by simp) (fun i v next hi hv hn => hn _ (by rw [hv]; simp only; omega)) (fun v hv => hv)
theorem law_BuildFamily (x0 : List Event) : laws_FnExactBuildFamily_m x0 = true := by
  unfold laws_FnExactBuildFamily_m
  simp only [build_eq, eqFamily_self, eqEventS_self, held_fam _ 1 (by omega), mark_fam, markEventS_val, beq_self_eq_true]
  repeat' refine cond_both (p := fun r => r = true) (fun h => ?_) (fun h => ?_)
  all_goals first | rfl | (simp only [Bool.or_eq_true, decide_eq_true_eq, Bool.not_eq_true', Bool.not_true, decide_eq_false_iff_not, Bool.false_eq_true, or_false, or_f_iff, not_true, Bool.true_eq_false] at * <;> first | omega | contradiction)
theorem ok_laws_FnExactBuildFamily (x0 : List Event) (hx : x0.length ≤ 1048576) (hy : ∀ e ∈ x0, e.name.length ≤ 1048576) : FnT Try.prog 5 [.ro false 6 x0.length (rowOf (cEvent false) x0)] (C5 true) := by
  have aux : ∀ R, laws_FnExactBuildFamily_m x0 = R → slim (C5 R) (A5 x0) [] := by
    intro R hR
    refine rg ⟨⟨by trivial, by trivial, by trivial⟩, trivial⟩ ?_
    refine rg trivial ?_
    revert hR; refine cd (fun hc1 hR => ?_) fun hc1 hR => ?_
    ·
      refine rg trivial ?_
      exact congrArg C5 hR
    ·
      refine rg ⟨by trivial, ⟨by trivial, by trivial⟩, by trivial, ⟨by trivial, by trivial⟩, trivial⟩ ?_
      refine rg ⟨by (have h9 := specBuild_rng x0; rw [build_eq] at *; omega), trivial⟩ ?_
      revert hR; refine cd (fun hc2 hR => ?_) fun hc2 hR => ?_
      ·
        refine rg trivial ?_
        exact congrArg C5 hR
      ·
        refine rg ⟨by trivial, by trivial, trivial⟩ ?_
        revert hR; refine cd (fun hc3 hR => ?_) fun hc3 hR => ?_
        ·
          refine rg trivial ?_
          exact congrArg C5 hR
        ·
          refine rg ⟨⟨by trivial, by trivial⟩, trivial⟩ ?_
          refine rg ⟨fun hg0 => by (have h9 := specBuild_rng x0; rw [build_eq] at *; omega), trivial⟩ ?_
          revert hR; refine cd (fun hc4 hR => ?_) fun hc4 hR => ?_
          ·
            refine rg trivial ?_
            exact congrArg C5 hR
          ·
            refine rg ⟨⟨by (have h9 := specBuild_rng x0; rw [build_eq] at *; omega), by (have h9 := specBuild_rng x0; rw [build_eq] at *; omega), by trivial⟩, ⟨by (have h9 := specBuild_rng x0; have h8 := mark_len (implBuild x0).1 1; rw [build_eq] at *; omega), by (have h9 := specBuild_rng x0; have h8 := mark_len (implBuild x0).1 1; rw [build_eq] at *; omega), by trivial⟩, trivial⟩ ?_
            refine rg trivial ?_
            revert hR; refine cd (fun hc5 hR => ?_) fun hc5 hR => ?_
            ·
              refine rg trivial ?_
              exact congrArg C5 hR
            ·
              refine rg trivial ?_
              revert hR; refine cd (fun hc6 hR => ?_) fun hc6 hR => ?_
              ·
                refine rg trivial ?_
                exact congrArg C5 hR
              ·
                refine rg ⟨by trivial, ⟨by trivial, by trivial⟩, trivial⟩ ?_
                refine rg ⟨by (have h9 := specBuild_rng x0; rw [build_eq] at *; omega), trivial⟩ ?_
                revert hR; refine cd (fun hc7 hR => ?_) fun hc7 hR => ?_
                ·
                  refine rg trivial ?_
                  exact congrArg C5 hR
                ·
                  refine rg ⟨⟨by (have h9 := specBuild_rng x0; have h8 := mark_len (implBuild x0).1 1; rw [build_eq] at *; omega), by (have h9 := specBuild_rng x0; have h8 := mark_len (implBuild x0).1 1; rw [build_eq] at *; omega), by trivial⟩, trivial⟩ ?_
                  refine rg trivial ?_
                  revert hR; refine cd (fun hc8 hR => ?_) fun hc8 hR => ?_
                  ·
                    refine rg trivial ?_
                    exact congrArg C5 hR
                  ·
                    refine rg trivial ?_
                    revert hR; refine cd (fun hc9 hR => ?_) fun hc9 hR => ?_
                    ·
                      refine rg trivial ?_
                      exact congrArg C5 hR
                    ·
                      refine rg trivial ?_
                      exact congrArg C5 hR
  exact Fn.go 96 Try.func5 (by kernel_rfl) (by kernel_rfl) (by simp [C5, Frs, FrsL]) (A5 x0) (by kernel_rfl) (aux _ (law_BuildFamily x0))
theorem bulk_pos {H : Type} (d : DataW H) : 1 ≤ Rows.uptoBulk d := by
  cases d with
  | lit l => cases l <;> simp [Rows.uptoBulk]
  | _ => simp [Rows.uptoBulk]
theorem bulkAll_len {H : Type} : ∀ l : List (DataW H), l.length ≤ Rows.uptoBulkAll l
  | [] => by simp
  | d :: l => by
    have := bulk_pos d
    have := bulkAll_len l
    simp only [Rows.uptoBulkAll, List.length_cons]
    omega
theorem bulkAll_mem {H : Type} : ∀ (l : List (DataW H)) (d : DataW H), d ∈ l → Rows.uptoBulk d ≤ Rows.uptoBulkAll l
  | [], d, h => by cases h
  | e :: l, d, h => by
    simp only [Rows.uptoBulkAll]
    rcases List.mem_cons.1 h with e | h
    · rw [e]; omega
    · have := bulkAll_mem l d h
      omega
theorem bulk {H : Type} : Bulk (Rows.uptoBulk (H := H)) where
  str := fun bs => by simp [Rows.uptoBulk]
  slen := fun es sp => by
    have := bulkAll_len es
    simp only [Rows.uptoBulk]
    omega
  sel := fun es sp e he => by
    have := bulkAll_mem es e he
    simp only [Rows.uptoBulk]
    omega
  agg := fun ps p hp => by
    have := bulkAll_mem ps p hp
    simp only [Rows.uptoBulk]
    omega
theorem own : ownKnob Try.prog.godebug = none := by kernel_rfl
theorem laidOut : laidOutB Try.prog = true := by kernel_rfl
def OkEvent (b : Nat) (x : Event) : Prop := (inR .i64 x.kind) ∧ (inR .i64 x.year) ∧ (x.name.length ≤ b) ∧ (inR .i64 x.sex) ∧ (inR .i64 x.a) ∧ (inR .i64 x.b) ∧ True
theorem okEvent_mono (b b' : Nat) (x : Event) (h : b ≤ b') (hx : OkEvent b x) : OkEvent b' x := by
  obtain ⟨h0, h1, h2, h3, h4, h5, _⟩ := hx
  exact ⟨(mono_triv (p := fun (n : Int) => inR .i64 n)) _ _ _ h h0, (mono_triv (p := fun (n : Int) => inR .i64 n)) _ _ _ h h1, mono_len _ _ _ h h2, (mono_triv (p := fun (n : Int) => inR .i64 n)) _ _ _ h h3, (mono_triv (p := fun (n : Int) => inR .i64 n)) _ _ _ h h4, (mono_triv (p := fun (n : Int) => inR .i64 n)) _ _ _ h h5, trivial⟩
theorem opens85 {H : Type} {enc : TypeId × Value → H} {bk : DataW H → Nat} (hb : Bulk bk) : Opens Try.prog enc bk 85 (cEvent false) OkEvent := by
  have h := opens_struct (enc := enc) hb Try.underlying85 (tot := 6) (by kernel_rfl) (opensF_cons (sz := 1) (tot := 5) (mono_triv (p := fun (n : Int) => inR .i64 n)) rfl (by kernel_rfl) (opens_int Try.underlying3) (opensF_cons (sz := 1) (tot := 4) (mono_triv (p := fun (n : Int) => inR .i64 n)) rfl (by kernel_rfl) (opens_int Try.underlying3) (opensF_cons (sz := 1) (tot := 3) mono_len rfl (by kernel_rfl) (opens_str hb Try.underlying9) (opensF_cons (sz := 1) (tot := 2) (mono_triv (p := fun (n : Int) => inR .i64 n)) rfl (by kernel_rfl) (opens_int Try.underlying3) (opensF_cons (sz := 1) (tot := 1) (mono_triv (p := fun (n : Int) => inR .i64 n)) rfl (by kernel_rfl) (opens_int Try.underlying3) (opensF_cons (sz := 1) (tot := 0) (mono_triv (p := fun (n : Int) => inR .i64 n)) rfl (by kernel_rfl) (opens_int Try.underlying3) (opensF_nil)))))))
  exact h.map (fun p => ⟨p.1, p.2.1, p.2.2.1, p.2.2.2.1, p.2.2.2.2.1, p.2.2.2.2.2.1⟩) (fun p => by simp [cEvent]) (fun b p hp => by simpa [OkEvent] using hp)
set_option maxRecDepth 100000 in
theorem contract (H : Type) (enc : TypeId × Value → H) (W : World) (base : Nat) (args : Array Value) (ds gs : List (DataW H)) (before : List MemPlace)
    (hval : ∀ (j : Nat) t v, Try.f5.params[j]? = some t → args[j]? = some v → Value.okWide Try.prog W .any base t v)
    (hW : DataW.Whole enc Try.prog Try.f5.params.toList Rows.fnExactBuildFamilySpec.vars false W args.toList ds gs before) (hk : Rows.uptoSmall H (ds ++ gs) = true) :
    Calls Try.prog 5 args W fun e W' => ∃ v, e = .returned v ∧ Rows.fnExactBuildFamilySpec.post enc Try.prog Try.f5 false true false false W args v W' := by
  have hW' := hW
  obtain ⟨p, q, hA0, hV, hpq, hfz, hnd⟩ := hW
  have hA : DataW.TrodAll enc Try.prog W 0 (fun _ => true) true Try.f5.params.toList args.toList ds p := hA0
  clear hA0
  rw [Try.params5] at hA hval
  obtain ⟨v0, vs0, d0, ds0, p0, q0, hargs, rfl, rfl, h0, hA1⟩ := trodAll_cons hA
  obtain ⟨rfl, rfl, rfl⟩ := trodAll_nil hA1
  obtain rfl : args = #[v0] := by cases args; simp_all
  obtain ⟨rfl, rfl⟩ := trodVars_none hV
  obtain ⟨x0, k0, r0⟩ := top_slice (opens_slice bulk okEvent_mono Try.underlying49 (sz := 6) (by kernel_rfl) (by omega) (opens85 bulk)) Try.underlying49 (hval 0 49 v0 rfl rfl) h0
  have kk0 := ((mono_sl okEvent_mono)) _ _ x0 (show Rows.uptoBulk d0 ≤ 1048576 from Nat.le_trans (bulkAll_mem _ d0 (by simp)) (of_decide_eq_true hk)) k0
  refine (Lite.Fn.true_of (ok_laws_FnExactBuildFamily x0 kk0.1 (fun e he => (kk0.2 e he).2.2.1)) (by rfl) fun i lv v hl hv => ?_).mono fun e W' ⟨he, hb⟩ => ⟨_, he, row_post laidOut (by kernel_rfl) rfl Try.underlying4 rfl rfl hW' hb⟩
  match i, hl, hv with
  | 0, hl, hv => cases hl; cases hv; exact r0
  | _ + 1, hl, _ => simp at hl
set_option maxRecDepth 100000 in
theorem lifted (os : Os) (started : os.Started) (H : Type) (enc : TypeId × Value → H) (F : Stop.Interp) :
    ReturnsInHanded {} Try.checked os 5 .any ((Rows.OpenSpec.upto Rows.fnExactBuildFamilySpec).pre6 enc Try.prog Try.f5 Rows.fnExactBuildFamilyUptoRow.domain false) (((Rows.OpenSpec.upto Rows.fnExactBuildFamilySpec).at F).post enc Try.prog Try.f5 false true false false) := by
  refine returnsInHanded_of_cond (C := Try.checked) (s := Rows.OpenSpec.upto Rows.fnExactBuildFamilySpec) (k := Rows.uptoSmall) rfl own started (by kernel_rfl) Try.func5
    (OpenSpec.witness (enc := enc) (C := Try.checked) (s := Rows.OpenSpec.upto Rows.fnExactBuildFamilySpec) (k := Rows.uptoSmall) rfl false ⟨#[], #[.slice none 0 0], []⟩ 12 (by kernel_rfl) (by kernel_rfl) (by kernel_rfl)
      (x := ([.nil], [], [])) (by kernel_rfl) rfl (by kernel_rfl)) ?_
  intro W base args ds gs before hval hW _ hk _
  exact contract H enc W base args ds gs before hval hW hk
theorem proved : Rows.FnExactBuildFamilyUptoSaid :=
  OpenClaim.holds_of_cond 5 Try.f5 rfl rfl rfl rfl rfl rfl rfl ⟨rfl, rfl, rfl, rfl, rfl⟩ rfl rfl rfl rfl rfl (by kernel_rfl) Try.func5 (by kernel_rfl)
    (of_decide_eq_true (by kernel_rfl)) (by unfold Func.isWrapper; first | (rw [if_pos (by decide +kernel)]; kernel_rfl) | (rw [if_neg (by decide +kernel)]; exact ⟨rfl, rfl⟩))
    (fun os started H enc _ F => lifted os started H enc F)
end Go.Proofs.Ytaooopgdcneohaa
