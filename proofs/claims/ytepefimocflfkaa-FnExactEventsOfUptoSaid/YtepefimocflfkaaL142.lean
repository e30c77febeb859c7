/- The program's EventsOf returns what the reference's returns, for each family of bulk at most 2^20. -/
import Derived.Test.YtepefimocflfkaaRows
import Derived.Test.YtepefimocflfkaaM200
import Derived.Test.YtepefimocflfkaaLiteR
import Derived.WalkKit
import Derived.ProofKit
import Derived.OpenShut
import Derived.JoinedCond
set_option maxHeartbeats 4000000
set_option linter.unusedSimpArgs false
set_option linter.unusedVariables false
namespace Go.Proofs.Ytepefimocflfkaa
open Go Go.Lite Go.Proofs Go.ChangeShapes Go.WideShapes Go.ChangeAt Go.RowKit
def C6 (R : Bool) : LV × List (Nat × BC) := (.bool R, [])
def laws_FnExactEventsOf_m (x0 : Family) : Bool := bif (decide ((szFamily x0 1048576) < 0)) then true else (bif (!(eqEventS (implEvents x0) (specEvents x0))) then false else (bif (!(eqFamily x0 x0)) then false else (bif ((decide (((markFamily x0 1).1) < 0)) || (!(eqEventS (implEvents x0) (specEvents x0)))) then false else (bif (decide ((heldEventS ((markEventS (implEvents x0) 1).2) 1) < 0)) then false else (bif (!decide ((heldEventS ((markEventS (implEvents x0) 1).2) 1) = ((markEventS (implEvents x0) 1).1))) then false else (bif (!(eqEventS (implEvents x0) (specEvents x0))) then false else (bif (decide ((heldEventS ((markEventS (implEvents x0) 1).2) 1) < 0)) then false else (bif (!decide ((heldEventS ((markEventS (implEvents x0) 1).2) 1) = ((markEventS (implEvents x0) 1).1))) then false else true))))))))
def A6 (x0 : Family) : Ann := .reg 3 [] [(2002, k24 x0 1048576)] [1, 2, 3] [1] [] [] [] [0] (r0 1 [1, 2, 15] [1] (cn (decide ((szFamily x0 1048576) < 0)) (r0 1 [1, 2] [1] (rt [] (C6 true))) (.reg 3 [] [(1, k25 x0), (2, k30 x0), (1001, k25 x0), (2001, k22 x0)] [1, 2, 4, 5, 6] [1, 5, 1018, 1020, 1022, 2020] [] [] [] [0, 4, 8, 12] (.reg 1 [] [(2, k31 (implEvents x0) (specEvents x0))] [1, 2, 4, 5, 6, 26] [1, 5, 1018, 1020, 1022, 2020] [] [] [] [0] (cn (!(eqEventS (implEvents x0) (specEvents x0))) (r0 1 [1, 2, 4, 5, 6] [1, 5, 1018, 1020, 1022, 2020] (rt [] (C6 false))) (.reg 1 [] [(2, k25 x0), (3, k27 x0 x0)] [1, 2, 4, 5, 6, 31] [1, 5, 1018, 1020, 1022, 2020] [] [] [] [0, 4] (cn (!(eqFamily x0 x0)) (r0 1 [1, 2, 4, 5, 6] [1, 5, 1018, 1020, 1022, 2020] (rt [] (C6 false))) (.reg 2 [] [(1002, k28 34 [1020, 2020] x0 1)] [1, 2, 4, 6, 7] [1, 1018, 1022] [] [] [] [0] (.reg 1 [] [(5, cg (!(decide (((markFamily x0 1).1) < 0))) (k31 (implEvents x0) (specEvents x0)))] [1, 2, 4, 6, 42] [1, 1018, 1022] [!(decide (((markFamily x0 1).1) < 0)), decide (((markFamily x0 1).1) < 0)] [] [] [1, 1, 0, 1, 6] (cn ((decide (((markFamily x0 1).1) < 0)) || (!(eqEventS (implEvents x0) (specEvents x0)))) (r0 1 [1, 2, 4, 6] [1, 1018, 1022] (rt [] (C6 false))) (.reg 4 [] [(1002, k32 45 [1022] (implEvents x0) 1), (3002, k33 ((markEventS (implEvents x0) 1).2) 1)] [1, 2, 4, 6, 8, 9] [1, 1018, 1022] [] [] [] [0, 4] (r0 1 [1, 2, 4, 6, 8, 9, 50] [1, 1018, 1022] (cn (decide ((heldEventS ((markEventS (implEvents x0) 1).2) 1) < 0)) (r0 1 [1, 2, 4, 6, 8, 9] [1, 1018, 1022] (rt [] (C6 false))) (r0 1 [1, 2, 4, 6, 8, 53] [1, 1018, 1022] (cn (!decide ((heldEventS ((markEventS (implEvents x0) 1).2) 1) = ((markEventS (implEvents x0) 1).1))) (r0 1 [1, 2, 4, 6, 8] [1, 1018, 1022] (rt [] (C6 false))) (.reg 1 [] [(1, k25 x0), (2, k22 x0)] [2, 4, 6, 8, 10] [1018, 1022, 1056] [] [] [] [0, 4] (.reg 1 [] [(2, k31 (implEvents x0) (specEvents x0))] [2, 6, 8, 60] [1022] [] [] [] [0] (cn (!(eqEventS (implEvents x0) (specEvents x0))) (r0 1 [2, 6, 8] [1022] (rt [] (C6 false))) (.reg 2 [] [(1002, k33 ((markEventS (implEvents x0) 1).2) 1)] [2, 8, 9] [] [] [] [] [0] (r0 1 [2, 8, 9, 65] [] (cn (decide ((heldEventS ((markEventS (implEvents x0) 1).2) 1) < 0)) (r0 1 [2, 8, 9] [] (rt [] (C6 false))) (r0 1 [2, 68] [] (cn (!decide ((heldEventS ((markEventS (implEvents x0) 1).2) 1) = ((markEventS (implEvents x0) 1).1))) (r0 1 [2] [] (rt [] (C6 false))) (r0 1 [2] [] (rt [] (C6 true))))))))))))))))))))))))))
theorem mark_fam (x : Family) (k : Int) : (markFamily x k).1 = k + 6 * x.people.length + 4 * x.unions.length := by
  unfold markFamily
  simp only [markUnionS_val, markPersonS_val]
theorem law_EventsOf (x0 : Family) : laws_FnExactEventsOf_m x0 = true := by
  unfold laws_FnExactEventsOf_m
  simp only [events_eq, eqFamily_self, eqEventS_self, held_events, mark_fam, markEventS_val]
  repeat' refine cond_both (p := fun r => r = true) (fun h => ?_) (fun h => ?_)
  all_goals first | rfl | (simp only [Bool.or_eq_true, decide_eq_true_eq, Bool.not_eq_true', Bool.not_true, decide_eq_false_iff_not, Bool.false_eq_true, or_false, or_f_iff, not_true, Bool.true_eq_false, beq_self_eq_true, bne_self_eq_false] at * <;> first | omega | contradiction)
theorem ok_laws_FnExactEventsOf (x0 : Family) (hx : x0.people.length ≤ 1048576) (hu : x0.unions.length ≤ 1048576) (hn : ∀ p ∈ x0.people, p.name.length ≤ 1048576) : FnT Try.prog 6 [.agg (cFamily false x0)] (C6 true) := by
  have aux : ∀ R, laws_FnExactEventsOf_m x0 = R → slim (C6 R) (A6 x0) [] := by
    intro R hR
    refine rg ⟨⟨by trivial, by trivial, by trivial⟩, trivial⟩ ?_
    refine rg trivial ?_
    revert hR; refine cd (fun hc1 hR => ?_) fun hc1 hR => ?_
    ·
      refine rg trivial ?_
      exact congrArg C6 hR
    ·
      refine rg ⟨by trivial, ⟨by trivial, by trivial, by trivial⟩, by trivial, ⟨by trivial, by trivial, by trivial⟩, trivial⟩ ?_
      refine rg ⟨by (have h8 := events_len x0; have h7 := congrArg List.length (events_eq x0); have h6 := (markEventS_get (implEvents x0) 1).1; omega), trivial⟩ ?_
      revert hR; refine cd (fun hc2 hR => ?_) fun hc2 hR => ?_
      ·
        refine rg trivial ?_
        exact congrArg C6 hR
      ·
        refine rg ⟨by trivial, by trivial, trivial⟩ ?_
        revert hR; refine cd (fun hc3 hR => ?_) fun hc3 hR => ?_
        ·
          refine rg trivial ?_
          exact congrArg C6 hR
        ·
          refine rg ⟨⟨by trivial, by trivial, by trivial⟩, trivial⟩ ?_
          refine rg ⟨fun hg0 => by (have h8 := events_len x0; have h7 := congrArg List.length (events_eq x0); have h6 := (markEventS_get (implEvents x0) 1).1; omega), trivial⟩ ?_
          revert hR; refine cd (fun hc4 hR => ?_) fun hc4 hR => ?_
          ·
            refine rg trivial ?_
            exact congrArg C6 hR
          ·
            refine rg ⟨⟨by (have h8 := events_len x0; have h7 := congrArg List.length (events_eq x0); have h6 := (markEventS_get (implEvents x0) 1).1; omega), by trivial⟩, ⟨by (have h8 := events_len x0; have h7 := congrArg List.length (events_eq x0); have h6 := (markEventS_get (implEvents x0) 1).1; omega), by trivial⟩, trivial⟩ ?_
            refine rg trivial ?_
            revert hR; refine cd (fun hc5 hR => ?_) fun hc5 hR => ?_
            ·
              refine rg trivial ?_
              exact congrArg C6 hR
            ·
              refine rg trivial ?_
              revert hR; refine cd (fun hc6 hR => ?_) fun hc6 hR => ?_
              ·
                refine rg trivial ?_
                exact congrArg C6 hR
              ·
                refine rg ⟨by trivial, ⟨by trivial, by trivial, by trivial⟩, trivial⟩ ?_
                refine rg ⟨by (have h8 := events_len x0; have h7 := congrArg List.length (events_eq x0); have h6 := (markEventS_get (implEvents x0) 1).1; omega), trivial⟩ ?_
                revert hR; refine cd (fun hc7 hR => ?_) fun hc7 hR => ?_
                ·
                  refine rg trivial ?_
                  exact congrArg C6 hR
                ·
                  refine rg ⟨⟨by (have h8 := events_len x0; have h7 := congrArg List.length (events_eq x0); have h6 := (markEventS_get (implEvents x0) 1).1; omega), by trivial⟩, trivial⟩ ?_
                  refine rg trivial ?_
                  revert hR; refine cd (fun hc8 hR => ?_) fun hc8 hR => ?_
                  ·
                    refine rg trivial ?_
                    exact congrArg C6 hR
                  ·
                    refine rg trivial ?_
                    revert hR; refine cd (fun hc9 hR => ?_) fun hc9 hR => ?_
                    ·
                      refine rg trivial ?_
                      exact congrArg C6 hR
                    ·
                      refine rg trivial ?_
                      exact congrArg C6 hR
  exact Fn.go 69 Try.func6 (by kernel_rfl) (by kernel_rfl) (by simp [C6, Frs, FrsL]) (A6 x0) (by kernel_rfl) (aux _ (law_EventsOf x0))
theorem bulk_pos {H : Type} (d : DataW H) : 1 ≤ Rows.uptoBulk d := by
  cases d with
  | lit l => cases l <;> simp [Rows.uptoBulk]
  | _ => simp [Rows.uptoBulk]
theorem bulkAll_len {H : Type} : ∀ l : List (DataW H), l.length ≤ Rows.uptoBulkAll l
  | [] => by simp
  | d :: l => by
    have := bulk_pos d
    have := bulkAll_len l
    simp only [Rows.uptoBulkAll, List.length_cons]
    omega
theorem bulkAll_mem {H : Type} : ∀ (l : List (DataW H)) (d : DataW H), d ∈ l → Rows.uptoBulk d ≤ Rows.uptoBulkAll l
  | [], d, h => by cases h
  | e :: l, d, h => by
    simp only [Rows.uptoBulkAll]
    rcases List.mem_cons.1 h with e | h
    · rw [e]; omega
    · have := bulkAll_mem l d h
      omega
theorem bulk {H : Type} : Bulk (Rows.uptoBulk (H := H)) where
  str := fun bs => by simp [Rows.uptoBulk]
  slen := fun es sp => by
    have := bulkAll_len es
    simp only [Rows.uptoBulk]
    omega
  sel := fun es sp e he => by
    have := bulkAll_mem es e he
    simp only [Rows.uptoBulk]
    omega
  agg := fun ps p hp => by
    have := bulkAll_mem ps p hp
    simp only [Rows.uptoBulk]
    omega
theorem own : ownKnob Try.prog.godebug = none := by kernel_rfl
theorem laidOut : laidOutB Try.prog = true := by kernel_rfl
def OkPerson (b : Nat) (x : Person) : Prop := (x.name.length ≤ b) ∧ (inR .i64 x.sex) ∧ (inR .i64 x.father) ∧ (inR .i64 x.mother) ∧ (inR .i64 x.born) ∧ (inR .i64 x.died) ∧ True
theorem okPerson_mono (b b' : Nat) (x : Person) (h : b ≤ b') (hx : OkPerson b x) : OkPerson b' x := by
  obtain ⟨h0, h1, h2, h3, h4, h5, _⟩ := hx
  exact ⟨mono_len _ _ _ h h0, (mono_triv (p := fun (n : Int) => inR .i64 n)) _ _ _ h h1, (mono_triv (p := fun (n : Int) => inR .i64 n)) _ _ _ h h2, (mono_triv (p := fun (n : Int) => inR .i64 n)) _ _ _ h h3, (mono_triv (p := fun (n : Int) => inR .i64 n)) _ _ _ h h4, (mono_triv (p := fun (n : Int) => inR .i64 n)) _ _ _ h h5, trivial⟩
theorem opens148 {H : Type} {enc : TypeId × Value → H} {bk : DataW H → Nat} (hb : Bulk bk) : Opens Try.prog enc bk 148 (cPerson false) OkPerson := by
  have h := opens_struct (enc := enc) hb Try.underlying148 (tot := 6) (by kernel_rfl) (opensF_cons (sz := 1) (tot := 5) mono_len rfl (by kernel_rfl) (opens_str hb Try.underlying9) (opensF_cons (sz := 1) (tot := 4) (mono_triv (p := fun (n : Int) => inR .i64 n)) rfl (by kernel_rfl) (opens_int Try.underlying3) (opensF_cons (sz := 1) (tot := 3) (mono_triv (p := fun (n : Int) => inR .i64 n)) rfl (by kernel_rfl) (opens_int Try.underlying3) (opensF_cons (sz := 1) (tot := 2) (mono_triv (p := fun (n : Int) => inR .i64 n)) rfl (by kernel_rfl) (opens_int Try.underlying3) (opensF_cons (sz := 1) (tot := 1) (mono_triv (p := fun (n : Int) => inR .i64 n)) rfl (by kernel_rfl) (opens_int Try.underlying3) (opensF_cons (sz := 1) (tot := 0) (mono_triv (p := fun (n : Int) => inR .i64 n)) rfl (by kernel_rfl) (opens_int Try.underlying3) (opensF_nil)))))))
  exact h.map (fun p => ⟨p.1, p.2.1, p.2.2.1, p.2.2.2.1, p.2.2.2.2.1, p.2.2.2.2.2.1⟩) (fun p => by simp [cPerson]) (fun b p hp => by simpa [OkPerson] using hp)
def OkUnion (b : Nat) (x : Union) : Prop := (inR .i64 x.man) ∧ (inR .i64 x.woman) ∧ (inR .i64 x.from0) ∧ (inR .i64 x.to) ∧ True
theorem okUnion_mono (b b' : Nat) (x : Union) (h : b ≤ b') (hx : OkUnion b x) : OkUnion b' x := by
  obtain ⟨h0, h1, h2, h3, _⟩ := hx
  exact ⟨(mono_triv (p := fun (n : Int) => inR .i64 n)) _ _ _ h h0, (mono_triv (p := fun (n : Int) => inR .i64 n)) _ _ _ h h1, (mono_triv (p := fun (n : Int) => inR .i64 n)) _ _ _ h h2, (mono_triv (p := fun (n : Int) => inR .i64 n)) _ _ _ h h3, trivial⟩
theorem opens151 {H : Type} {enc : TypeId × Value → H} {bk : DataW H → Nat} (hb : Bulk bk) : Opens Try.prog enc bk 151 (cUnion false) OkUnion := by
  have h := opens_struct (enc := enc) hb Try.underlying151 (tot := 4) (by kernel_rfl) (opensF_cons (sz := 1) (tot := 3) (mono_triv (p := fun (n : Int) => inR .i64 n)) rfl (by kernel_rfl) (opens_int Try.underlying3) (opensF_cons (sz := 1) (tot := 2) (mono_triv (p := fun (n : Int) => inR .i64 n)) rfl (by kernel_rfl) (opens_int Try.underlying3) (opensF_cons (sz := 1) (tot := 1) (mono_triv (p := fun (n : Int) => inR .i64 n)) rfl (by kernel_rfl) (opens_int Try.underlying3) (opensF_cons (sz := 1) (tot := 0) (mono_triv (p := fun (n : Int) => inR .i64 n)) rfl (by kernel_rfl) (opens_int Try.underlying3) (opensF_nil)))))
  exact h.map (fun p => ⟨p.1, p.2.1, p.2.2.1, p.2.2.2.1⟩) (fun p => by simp [cUnion]) (fun b p hp => by simpa [OkUnion] using hp)
def OkFamily (b : Nat) (x : Family) : Prop := (x.people.length ≤ b ∧ ∀ y ∈ x.people, OkPerson b y) ∧ (x.unions.length ≤ b ∧ ∀ y ∈ x.unions, OkUnion b y) ∧ True
theorem okFamily_mono (b b' : Nat) (x : Family) (h : b ≤ b') (hx : OkFamily b x) : OkFamily b' x := by
  obtain ⟨h0, h1, _⟩ := hx
  exact ⟨(mono_sl okPerson_mono) _ _ _ h h0, (mono_sl okUnion_mono) _ _ _ h h1, trivial⟩
theorem opens55 {H : Type} {enc : TypeId × Value → H} {bk : DataW H → Nat} (hb : Bulk bk) : Opens Try.prog enc bk 55 (cFamily false) OkFamily := by
  have h := opens_struct (enc := enc) hb Try.underlying55 (tot := 2) (by kernel_rfl) (opensF_cons (sz := 1) (tot := 1) (mono_sl okPerson_mono) rfl (by kernel_rfl) (opens_slice hb okPerson_mono Try.underlying52 (sz := 6) (by kernel_rfl) (by omega) (opens148 hb)) (opensF_cons (sz := 1) (tot := 0) (mono_sl okUnion_mono) rfl (by kernel_rfl) (opens_slice hb okUnion_mono Try.underlying53 (sz := 4) (by kernel_rfl) (by omega) (opens151 hb)) (opensF_nil)))
  exact h.map (fun p => ⟨p.1, p.2.1⟩) (fun p => by simp [cFamily]) (fun b p hp => by simpa [OkFamily] using hp)
set_option maxRecDepth 100000 in
theorem contract (H : Type) (enc : TypeId × Value → H) (W : World) (base : Nat) (args : Array Value) (ds gs : List (DataW H)) (before : List MemPlace)
    (hval : ∀ (j : Nat) t v, Try.f6.params[j]? = some t → args[j]? = some v → Value.okWide Try.prog W .any base t v)
    (hW : DataW.Whole enc Try.prog Try.f6.params.toList Rows.fnExactEventsOfSpec.vars false W args.toList ds gs before) (hk : Rows.uptoSmall H (ds ++ gs) = true) :
    Calls Try.prog 6 args W fun e W' => ∃ v, e = .returned v ∧ Rows.fnExactEventsOfSpec.post enc Try.prog Try.f6 false true false false W args v W' := by
  have hW' := hW
  obtain ⟨p, q, hA0, hV, hpq, hfz, hnd⟩ := hW
  have hA : DataW.TrodAll enc Try.prog W 0 (fun _ => true) true Try.f6.params.toList args.toList ds p := hA0
  clear hA0
  rw [Try.params6] at hA hval
  obtain ⟨v0, vs0, d0, ds0, p0, q0, hargs, rfl, rfl, h0, hA1⟩ := trodAll_cons hA
  obtain ⟨rfl, rfl, rfl⟩ := trodAll_nil hA1
  obtain rfl : args = #[v0] := by cases args; simp_all
  obtain ⟨rfl, rfl⟩ := trodVars_none hV
  obtain ⟨x0, k0, r0⟩ := top_struct (opens55 bulk) Try.underlying55 (hval 0 55 v0 rfl rfl) h0
  have kk0 := (okFamily_mono) _ _ x0 (show Rows.uptoBulk d0 ≤ 1048576 from Nat.le_trans (bulkAll_mem _ d0 (by simp)) (of_decide_eq_true hk)) k0
  refine (Lite.Fn.true_of (ok_laws_FnExactEventsOf x0 kk0.1.1 kk0.2.1.1 (fun p hp => (kk0.1.2 p hp).1)) trivial (by rfl) fun i lv v hl hv => ?_).mono fun e W' ⟨he, hb⟩ => ⟨_, he, row_post laidOut (by kernel_rfl) rfl Try.underlying4 rfl rfl hW' hb⟩
  match i, hl, hv with
  | 0, hl, hv => cases hl; cases hv; exact r0
  | _ + 1, hl, _ => simp at hl
set_option maxRecDepth 100000 in
theorem lifted (os : Os) (started : os.Started) (H : Type) (enc : TypeId × Value → H) (F : Stop.Interp) :
    ReturnsInHanded {} Try.checked os 6 .any ((Rows.OpenSpec.upto Rows.fnExactEventsOfSpec).pre6 enc Try.prog Try.f6 Rows.fnExactEventsOfUptoRow.domain false) (((Rows.OpenSpec.upto Rows.fnExactEventsOfSpec).at F).post enc Try.prog Try.f6 false true false false) := by
  refine returnsInHanded_of_cond (C := Try.checked) (s := Rows.OpenSpec.upto Rows.fnExactEventsOfSpec) (k := Rows.uptoSmall) rfl own started (by kernel_rfl) Try.func6
    (OpenSpec.witness (enc := enc) (C := Try.checked) (s := Rows.OpenSpec.upto Rows.fnExactEventsOfSpec) (k := Rows.uptoSmall) rfl false ⟨#[], #[.agg #[.slice none 0 0, .slice none 0 0]], []⟩ 12 (by kernel_rfl) (by kernel_rfl) (by kernel_rfl)
      (x := ([.agg [.nil, .nil]], [], [])) (by kernel_rfl) rfl (by kernel_rfl)) ?_
  intro W base args ds gs before hval hW _ hk _
  exact contract H enc W base args ds gs before hval hW hk
theorem proved : Rows.FnExactEventsOfUptoSaid :=
  OpenClaim.holds_of_cond 6 Try.f6 rfl rfl rfl rfl rfl rfl rfl ⟨rfl, rfl, rfl, rfl, rfl⟩ rfl rfl rfl rfl rfl (by kernel_rfl) Try.func6 (by kernel_rfl)
    (of_decide_eq_true (by kernel_rfl)) (by unfold Func.isWrapper; first | (rw [if_pos (by decide +kernel)]; kernel_rfl) | (rw [if_neg (by decide +kernel)]; exact ⟨rfl, rfl⟩))
    (fun os started H enc _ F => lifted os started H enc F)
end Go.Proofs.Ytepefimocflfkaa
