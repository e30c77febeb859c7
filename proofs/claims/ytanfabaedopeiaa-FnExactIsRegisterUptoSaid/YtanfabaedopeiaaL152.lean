/- The program tells whether a register is valid as the reference does. -/
import Derived.Test.YtanfabaedopeiaaRows
import Derived.Test.YtanfabaedopeiaaVRB
import Derived.Test.YtanfabaedopeiaaLiteR
import Derived.WalkKit
import Derived.ProofKit
import Derived.OpenShut
import Derived.JoinedCond
set_option maxHeartbeats 4000000
set_option linter.unusedSimpArgs false
set_option linter.unusedVariables false
namespace Go.Proofs.Ytanfabaedopeiaa
open Go Go.Lite Go.Proofs Go.ChangeShapes Go.WideShapes Go.ChangeAt Go.RowKit
def C3 (R : Bool) : LV × List (Nat × BC) := (.bool R, [])
def laws_FnExactIsRegister_m (x0 : Register) : Bool := bif (decide ((szRegister x0 1048576) < 0)) then true else (bif (!((implIsReg x0) == (specIsReg x0))) then false else (bif (!(eqRegister x0 x0)) then false else true))
def A3 (x0 : Register) : Ann := .reg 3 [] [(2002, k7 x0 1048576)] [1, 2, 3] [1] [] [] [] [0] (r0 1 [1, 2, 11] [1] (cn (decide ((szRegister x0 1048576) < 0)) (r0 1 [1, 2] [1] (rt [] (C3 true))) (.reg 3 [] [(1, k9 x0), (2, k8 x0), (1001, k9 x0), (2001, k10 x0)] [1, 2, 4, 5, 6] [1, 5, 1016, 2016, 3016, 4016] [] [] [] [0, 4, 8, 12] (r0 1 [1, 2, 5, 21] [1, 5, 1016, 2016, 3016, 4016] (cn (!((implIsReg x0) == (specIsReg x0))) (r0 1 [1, 2, 5] [1, 5, 1016, 2016, 3016, 4016] (rt [] (C3 false))) (.reg 1 [] [(2, k9 x0), (3, k11 x0 x0)] [2, 26] [] [] [] [] [0, 4] (cn (!(eqRegister x0 x0)) (r0 1 [2] [] (rt [] (C3 false))) (r0 1 [2] [] (rt [] (C3 true))))))))))
theorem isCustom_eq2 (c : Custom) : implIsCustom c = specIsCustom c := by
  unfold implIsCustom specIsCustom l1In
  first | rfl | (rw [Bool.eq_iff_iff]; simp only [Bool.and_eq_true, decide_eq_true_eq])
theorem isReg_eq (x : Register) : implIsReg x = specIsReg x := by
  unfold implIsReg specIsReg
  have e : implIsLaw x.law = specIsLaw x.law := by
    unfold implIsLaw specIsLaw lawIn l1In
    rw [Bool.eq_iff_iff]
    simp only [Bool.and_eq_true, decide_eq_true_eq]
    omega
  rw [isFamily_eq, e, terms_eq, isCustom_eq2]
theorem law_IsRegister (x0 : Register) : laws_FnExactIsRegister_m x0 = true := by
  unfold laws_FnExactIsRegister_m
  rw [isReg_eq, eqRegister_self]
  simp
theorem ok_laws_FnExactIsRegister (x0 : Register) (hp : x0.family.people.length ≤ 1048576 ∧ x0.family.unions.length ≤ 1048576) (hn : ∀ p ∈ x0.family.people, p.name.length ≤ 1048576) (hx : x0.terms.rules.length ≤ 1048576) (hr : ∀ r ∈ x0.terms.rules, r.name.length ≤ 1048576 ∧ r.from0.length ≤ 1048576 ∧ r.to.length ≤ 1048576) (he : x0.terms.entries.length ≤ 1048576) (hee : ∀ e ∈ x0.terms.entries, e.term.length ≤ 1048576 ∧ e.type.steps.length ≤ 1048576) : FnT Try.prog 3 [.agg (cRegister false x0)] (C3 true) := by
  have aux : ∀ R, laws_FnExactIsRegister_m x0 = R → slim (C3 R) (A3 x0) [] := by
    intro R hR
    refine rg ⟨⟨by with_reducible assumption, by with_reducible assumption, by with_reducible assumption, by with_reducible assumption, by with_reducible assumption, by with_reducible assumption, by (intros; omega)⟩, trivial⟩ ?_
    have hp1 := szRegister_rng x0 1048576
    refine rg trivial ?_
    revert hR; refine cd (fun hc1 hR => ?_) fun hc1 hR => ?_
    ·
      refine rg trivial ?_
      exact congrArg C3 hR
    ·
      refine rg ⟨⟨by with_reducible assumption, by with_reducible assumption, by with_reducible assumption, by with_reducible assumption, by with_reducible assumption, by with_reducible assumption⟩, ⟨by with_reducible assumption, by with_reducible assumption, by with_reducible assumption, by with_reducible assumption, by with_reducible assumption, by with_reducible assumption⟩, ⟨by with_reducible assumption, by with_reducible assumption, by with_reducible assumption, by with_reducible assumption, by with_reducible assumption, by with_reducible assumption⟩, ⟨by with_reducible assumption, by with_reducible assumption, by with_reducible assumption, by with_reducible assumption, by with_reducible assumption, by with_reducible assumption⟩, trivial⟩ ?_
      refine rg trivial ?_
      revert hR; refine cd (fun hc2 hR => ?_) fun hc2 hR => ?_
      ·
        refine rg trivial ?_
        exact congrArg C3 hR
      ·
        refine rg ⟨⟨by with_reducible assumption, by with_reducible assumption, by with_reducible assumption, by with_reducible assumption, by with_reducible assumption, by with_reducible assumption⟩, ⟨by with_reducible assumption, by with_reducible assumption, by with_reducible assumption, by with_reducible assumption, by with_reducible assumption, by with_reducible assumption⟩, trivial⟩ ?_
        revert hR; refine cd (fun hc3 hR => ?_) fun hc3 hR => ?_
        ·
          refine rg trivial ?_
          exact congrArg C3 hR
        ·
          refine rg trivial ?_
          exact congrArg C3 hR
  exact Fn.go 27 Try.func3 (by kernel_rfl) (by kernel_rfl) (by simp [C3, Frs, FrsL]) (A3 x0) (by kernel_rfl) (aux _ (law_IsRegister x0))
theorem bulk_pos {H : Type} (d : DataW H) : 1 ≤ Rows.uptoBulk d := by
  cases d with
  | lit l => cases l <;> simp [Rows.uptoBulk]
  | _ => simp [Rows.uptoBulk]
theorem bulkAll_len {H : Type} : ∀ l : List (DataW H), l.length ≤ Rows.uptoBulkAll l
  | [] => by simp
  | d :: l => by
    have := bulk_pos d
    have := bulkAll_len l
    simp only [Rows.uptoBulkAll, List.length_cons]
    omega
theorem bulkAll_mem {H : Type} : ∀ (l : List (DataW H)) (d : DataW H), d ∈ l → Rows.uptoBulk d ≤ Rows.uptoBulkAll l
  | [], d, h => by cases h
  | e :: l, d, h => by
    simp only [Rows.uptoBulkAll]
    rcases List.mem_cons.1 h with e | h
    · rw [e]; omega
    · have := bulkAll_mem l d h
      omega
theorem bulk {H : Type} : Bulk (Rows.uptoBulk (H := H)) where
  str := fun bs => by simp [Rows.uptoBulk]
  slen := fun es sp => by
    have := bulkAll_len es
    simp only [Rows.uptoBulk]
    omega
  sel := fun es sp e he => by
    have := bulkAll_mem es e he
    simp only [Rows.uptoBulk]
    omega
  agg := fun ps p hp => by
    have := bulkAll_mem ps p hp
    simp only [Rows.uptoBulk]
    omega
theorem own : ownKnob Try.prog.godebug = none := by kernel_rfl
theorem laidOut : laidOutB Try.prog = true := by kernel_rfl
def OkPerson (b : Nat) (x : Person) : Prop := (x.name.length ≤ b) ∧ (inR .i64 x.sex) ∧ (inR .i64 x.father) ∧ (inR .i64 x.mother) ∧ (inR .i64 x.born) ∧ (inR .i64 x.died) ∧ True
theorem okPerson_mono (b b' : Nat) (x : Person) (h : b ≤ b') (hx : OkPerson b x) : OkPerson b' x := by
  obtain ⟨h0, h1, h2, h3, h4, h5, _⟩ := hx
  exact ⟨mono_len _ _ _ h h0, (mono_triv (p := fun (n : Int) => inR .i64 n)) _ _ _ h h1, (mono_triv (p := fun (n : Int) => inR .i64 n)) _ _ _ h h2, (mono_triv (p := fun (n : Int) => inR .i64 n)) _ _ _ h h3, (mono_triv (p := fun (n : Int) => inR .i64 n)) _ _ _ h h4, (mono_triv (p := fun (n : Int) => inR .i64 n)) _ _ _ h h5, trivial⟩
theorem opens191 {H : Type} {enc : TypeId × Value → H} {bk : DataW H → Nat} (hb : Bulk bk) : Opens Try.prog enc bk 191 (cPerson false) OkPerson := by
  have h := opens_struct (enc := enc) hb Try.underlying191 (tot := 6) (by kernel_rfl) (opensF_cons (sz := 1) (tot := 5) mono_len rfl (by kernel_rfl) (opens_str hb Try.underlying9) (opensF_cons (sz := 1) (tot := 4) (mono_triv (p := fun (n : Int) => inR .i64 n)) rfl (by kernel_rfl) (opens_int Try.underlying3) (opensF_cons (sz := 1) (tot := 3) (mono_triv (p := fun (n : Int) => inR .i64 n)) rfl (by kernel_rfl) (opens_int Try.underlying3) (opensF_cons (sz := 1) (tot := 2) (mono_triv (p := fun (n : Int) => inR .i64 n)) rfl (by kernel_rfl) (opens_int Try.underlying3) (opensF_cons (sz := 1) (tot := 1) (mono_triv (p := fun (n : Int) => inR .i64 n)) rfl (by kernel_rfl) (opens_int Try.underlying3) (opensF_cons (sz := 1) (tot := 0) (mono_triv (p := fun (n : Int) => inR .i64 n)) rfl (by kernel_rfl) (opens_int Try.underlying3) (opensF_nil)))))))
  exact h.map (fun p => ⟨p.1, p.2.1, p.2.2.1, p.2.2.2.1, p.2.2.2.2.1, p.2.2.2.2.2.1⟩) (fun p => by simp [cPerson]) (fun b p hp => by simpa [OkPerson] using hp)
def OkUnion (b : Nat) (x : Union) : Prop := (inR .i64 x.man) ∧ (inR .i64 x.woman) ∧ (inR .i64 x.from0) ∧ (inR .i64 x.to) ∧ True
theorem okUnion_mono (b b' : Nat) (x : Union) (h : b ≤ b') (hx : OkUnion b x) : OkUnion b' x := by
  obtain ⟨h0, h1, h2, h3, _⟩ := hx
  exact ⟨(mono_triv (p := fun (n : Int) => inR .i64 n)) _ _ _ h h0, (mono_triv (p := fun (n : Int) => inR .i64 n)) _ _ _ h h1, (mono_triv (p := fun (n : Int) => inR .i64 n)) _ _ _ h h2, (mono_triv (p := fun (n : Int) => inR .i64 n)) _ _ _ h h3, trivial⟩
theorem opens210 {H : Type} {enc : TypeId × Value → H} {bk : DataW H → Nat} (hb : Bulk bk) : Opens Try.prog enc bk 210 (cUnion false) OkUnion := by
  have h := opens_struct (enc := enc) hb Try.underlying210 (tot := 4) (by kernel_rfl) (opensF_cons (sz := 1) (tot := 3) (mono_triv (p := fun (n : Int) => inR .i64 n)) rfl (by kernel_rfl) (opens_int Try.underlying3) (opensF_cons (sz := 1) (tot := 2) (mono_triv (p := fun (n : Int) => inR .i64 n)) rfl (by kernel_rfl) (opens_int Try.underlying3) (opensF_cons (sz := 1) (tot := 1) (mono_triv (p := fun (n : Int) => inR .i64 n)) rfl (by kernel_rfl) (opens_int Try.underlying3) (opensF_cons (sz := 1) (tot := 0) (mono_triv (p := fun (n : Int) => inR .i64 n)) rfl (by kernel_rfl) (opens_int Try.underlying3) (opensF_nil)))))
  exact h.map (fun p => ⟨p.1, p.2.1, p.2.2.1, p.2.2.2.1⟩) (fun p => by simp [cUnion]) (fun b p hp => by simpa [OkUnion] using hp)
def OkFamily (b : Nat) (x : Family) : Prop := (x.people.length ≤ b ∧ ∀ y ∈ x.people, OkPerson b y) ∧ (x.unions.length ≤ b ∧ ∀ y ∈ x.unions, OkUnion b y) ∧ True
theorem okFamily_mono (b b' : Nat) (x : Family) (h : b ≤ b') (hx : OkFamily b x) : OkFamily b' x := by
  obtain ⟨h0, h1, _⟩ := hx
  exact ⟨(mono_sl okPerson_mono) _ _ _ h h0, (mono_sl okUnion_mono) _ _ _ h h1, trivial⟩
theorem opens25 {H : Type} {enc : TypeId × Value → H} {bk : DataW H → Nat} (hb : Bulk bk) : Opens Try.prog enc bk 25 (cFamily false) OkFamily := by
  have h := opens_struct (enc := enc) hb Try.underlying25 (tot := 2) (by kernel_rfl) (opensF_cons (sz := 1) (tot := 1) (mono_sl okPerson_mono) rfl (by kernel_rfl) (opens_slice hb okPerson_mono Try.underlying22 (sz := 6) (by kernel_rfl) (by omega) (opens191 hb)) (opensF_cons (sz := 1) (tot := 0) (mono_sl okUnion_mono) rfl (by kernel_rfl) (opens_slice hb okUnion_mono Try.underlying23 (sz := 4) (by kernel_rfl) (by omega) (opens210 hb)) (opensF_nil)))
  exact h.map (fun p => ⟨p.1, p.2.1⟩) (fun p => by simp [cFamily]) (fun b p hp => by simpa [OkFamily] using hp)
def OkLaw (b : Nat) (x : Law) : Prop := (inR .i64 x.degree) ∧ (inR .i64 x.canon) ∧ (inR .i64 x.affinity) ∧ (inR .i64 x.age) ∧ (inR .i64 x.wives) ∧ (inR .i64 x.husbands) ∧ (True) ∧ (True) ∧ True
theorem okLaw_mono (b b' : Nat) (x : Law) (h : b ≤ b') (hx : OkLaw b x) : OkLaw b' x := by
  obtain ⟨h0, h1, h2, h3, h4, h5, h6, h7, _⟩ := hx
  exact ⟨(mono_triv (p := fun (n : Int) => inR .i64 n)) _ _ _ h h0, (mono_triv (p := fun (n : Int) => inR .i64 n)) _ _ _ h h1, (mono_triv (p := fun (n : Int) => inR .i64 n)) _ _ _ h h2, (mono_triv (p := fun (n : Int) => inR .i64 n)) _ _ _ h h3, (mono_triv (p := fun (n : Int) => inR .i64 n)) _ _ _ h h4, (mono_triv (p := fun (n : Int) => inR .i64 n)) _ _ _ h h5, trivial, trivial, trivial⟩
theorem opens27 {H : Type} {enc : TypeId × Value → H} {bk : DataW H → Nat} (hb : Bulk bk) : Opens Try.prog enc bk 27 (cLaw false) OkLaw := by
  have h := opens_struct (enc := enc) hb Try.underlying27 (tot := 8) (by kernel_rfl) (opensF_cons (sz := 1) (tot := 7) (mono_triv (p := fun (n : Int) => inR .i64 n)) rfl (by kernel_rfl) (opens_int Try.underlying3) (opensF_cons (sz := 1) (tot := 6) (mono_triv (p := fun (n : Int) => inR .i64 n)) rfl (by kernel_rfl) (opens_int Try.underlying3) (opensF_cons (sz := 1) (tot := 5) (mono_triv (p := fun (n : Int) => inR .i64 n)) rfl (by kernel_rfl) (opens_int Try.underlying3) (opensF_cons (sz := 1) (tot := 4) (mono_triv (p := fun (n : Int) => inR .i64 n)) rfl (by kernel_rfl) (opens_int Try.underlying3) (opensF_cons (sz := 1) (tot := 3) (mono_triv (p := fun (n : Int) => inR .i64 n)) rfl (by kernel_rfl) (opens_int Try.underlying3) (opensF_cons (sz := 1) (tot := 2) (mono_triv (p := fun (n : Int) => inR .i64 n)) rfl (by kernel_rfl) (opens_int Try.underlying3) (opensF_cons (sz := 1) (tot := 1) (mono_triv (p := fun (_ : Bool) => True)) rfl (by kernel_rfl) (opens_bool Try.underlying4) (opensF_cons (sz := 1) (tot := 0) (mono_triv (p := fun (_ : Bool) => True)) rfl (by kernel_rfl) (opens_bool Try.underlying4) (opensF_nil)))))))))
  exact h.map (fun p => ⟨p.1, p.2.1, p.2.2.1, p.2.2.2.1, p.2.2.2.2.1, p.2.2.2.2.2.1, p.2.2.2.2.2.2.1, p.2.2.2.2.2.2.2.1⟩) (fun p => by simp [cLaw]) (fun b p hp => by simpa [OkLaw] using hp)
def OkStep (b : Nat) (x : Step) : Prop := (inR .i64 x.kind) ∧ (inR .i64 x.age) ∧ True
theorem okStep_mono (b b' : Nat) (x : Step) (h : b ≤ b') (hx : OkStep b x) : OkStep b' x := by
  obtain ⟨h0, h1, _⟩ := hx
  exact ⟨(mono_triv (p := fun (n : Int) => inR .i64 n)) _ _ _ h h0, (mono_triv (p := fun (n : Int) => inR .i64 n)) _ _ _ h h1, trivial⟩
theorem opens289 {H : Type} {enc : TypeId × Value → H} {bk : DataW H → Nat} (hb : Bulk bk) : Opens Try.prog enc bk 289 (cStep false) OkStep := by
  have h := opens_struct (enc := enc) hb Try.underlying289 (tot := 2) (by kernel_rfl) (opensF_cons (sz := 1) (tot := 1) (mono_triv (p := fun (n : Int) => inR .i64 n)) rfl (by kernel_rfl) (opens_int Try.underlying3) (opensF_cons (sz := 1) (tot := 0) (mono_triv (p := fun (n : Int) => inR .i64 n)) rfl (by kernel_rfl) (opens_int Try.underlying3) (opensF_nil)))
  exact h.map (fun p => ⟨p.1, p.2.1⟩) (fun p => by simp [cStep]) (fun b p hp => by simpa [OkStep] using hp)
def OkRule (b : Nat) (x : Rule) : Prop := (x.name.length ≤ b) ∧ (inR .i64 x.sex) ∧ (inR .i64 x.place) ∧ (x.from0.length ≤ b ∧ ∀ y ∈ x.from0, OkStep b y) ∧ (x.to.length ≤ b ∧ ∀ y ∈ x.to, OkStep b y) ∧ True
theorem okRule_mono (b b' : Nat) (x : Rule) (h : b ≤ b') (hx : OkRule b x) : OkRule b' x := by
  obtain ⟨h0, h1, h2, h3, h4, _⟩ := hx
  exact ⟨mono_len _ _ _ h h0, (mono_triv (p := fun (n : Int) => inR .i64 n)) _ _ _ h h1, (mono_triv (p := fun (n : Int) => inR .i64 n)) _ _ _ h h2, (mono_sl okStep_mono) _ _ _ h h3, (mono_sl okStep_mono) _ _ _ h h4, trivial⟩
theorem opens195 {H : Type} {enc : TypeId × Value → H} {bk : DataW H → Nat} (hb : Bulk bk) : Opens Try.prog enc bk 195 (cRule false) OkRule := by
  have h := opens_struct (enc := enc) hb Try.underlying195 (tot := 5) (by kernel_rfl) (opensF_cons (sz := 1) (tot := 4) mono_len rfl (by kernel_rfl) (opens_str hb Try.underlying9) (opensF_cons (sz := 1) (tot := 3) (mono_triv (p := fun (n : Int) => inR .i64 n)) rfl (by kernel_rfl) (opens_int Try.underlying3) (opensF_cons (sz := 1) (tot := 2) (mono_triv (p := fun (n : Int) => inR .i64 n)) rfl (by kernel_rfl) (opens_int Try.underlying3) (opensF_cons (sz := 1) (tot := 1) (mono_sl okStep_mono) rfl (by kernel_rfl) (opens_slice hb okStep_mono Try.underlying193 (sz := 2) (by kernel_rfl) (by omega) (opens289 hb)) (opensF_cons (sz := 1) (tot := 0) (mono_sl okStep_mono) rfl (by kernel_rfl) (opens_slice hb okStep_mono Try.underlying193 (sz := 2) (by kernel_rfl) (by omega) (opens289 hb)) (opensF_nil))))))
  exact h.map (fun p => ⟨p.1, p.2.1, p.2.2.1, p.2.2.2.1, p.2.2.2.2.1⟩) (fun p => by simp [cRule]) (fun b p hp => by simpa [OkRule] using hp)
def OkKinType (b : Nat) (x : KinType) : Prop := (inR .i64 x.ego) ∧ (x.steps.length ≤ b ∧ ∀ y ∈ x.steps, OkStep b y) ∧ True
theorem okKinType_mono (b b' : Nat) (x : KinType) (h : b ≤ b') (hx : OkKinType b x) : OkKinType b' x := by
  obtain ⟨h0, h1, _⟩ := hx
  exact ⟨(mono_triv (p := fun (n : Int) => inR .i64 n)) _ _ _ h h0, (mono_sl okStep_mono) _ _ _ h h1, trivial⟩
theorem opens198 {H : Type} {enc : TypeId × Value → H} {bk : DataW H → Nat} (hb : Bulk bk) : Opens Try.prog enc bk 198 (cKinType false) OkKinType := by
  have h := opens_struct (enc := enc) hb Try.underlying198 (tot := 2) (by kernel_rfl) (opensF_cons (sz := 1) (tot := 1) (mono_triv (p := fun (n : Int) => inR .i64 n)) rfl (by kernel_rfl) (opens_int Try.underlying3) (opensF_cons (sz := 1) (tot := 0) (mono_sl okStep_mono) rfl (by kernel_rfl) (opens_slice hb okStep_mono Try.underlying193 (sz := 2) (by kernel_rfl) (by omega) (opens289 hb)) (opensF_nil)))
  exact h.map (fun p => ⟨p.1, p.2.1⟩) (fun p => by simp [cKinType]) (fun b p hp => by simpa [OkKinType] using hp)
def OkEntry (b : Nat) (x : Entry) : Prop := (OkKinType b x.type) ∧ (x.term.length ≤ b) ∧ True
theorem okEntry_mono (b b' : Nat) (x : Entry) (h : b ≤ b') (hx : OkEntry b x) : OkEntry b' x := by
  obtain ⟨h0, h1, _⟩ := hx
  exact ⟨okKinType_mono _ _ _ h h0, mono_len _ _ _ h h1, trivial⟩
theorem opens200 {H : Type} {enc : TypeId × Value → H} {bk : DataW H → Nat} (hb : Bulk bk) : Opens Try.prog enc bk 200 (cEntry false) OkEntry := by
  have h := opens_struct (enc := enc) hb Try.underlying200 (tot := 3) (by kernel_rfl) (opensF_cons (sz := 2) (tot := 1) okKinType_mono rfl (by kernel_rfl) (opens198 hb) (opensF_cons (sz := 1) (tot := 0) mono_len rfl (by kernel_rfl) (opens_str hb Try.underlying9) (opensF_nil)))
  exact h.map (fun p => ⟨p.1, p.2.1⟩) (fun p => by simp [cEntry]) (fun b p hp => by simpa [OkEntry] using hp)
def OkTerminology (b : Nat) (x : Terminology) : Prop := (x.rules.length ≤ b ∧ ∀ y ∈ x.rules, OkRule b y) ∧ (x.entries.length ≤ b ∧ ∀ y ∈ x.entries, OkEntry b y) ∧ True
theorem okTerminology_mono (b b' : Nat) (x : Terminology) (h : b ≤ b') (hx : OkTerminology b x) : OkTerminology b' x := by
  obtain ⟨h0, h1, _⟩ := hx
  exact ⟨(mono_sl okRule_mono) _ _ _ h h0, (mono_sl okEntry_mono) _ _ _ h h1, trivial⟩
theorem opens31 {H : Type} {enc : TypeId × Value → H} {bk : DataW H → Nat} (hb : Bulk bk) : Opens Try.prog enc bk 31 (cTerminology false) OkTerminology := by
  have h := opens_struct (enc := enc) hb Try.underlying31 (tot := 2) (by kernel_rfl) (opensF_cons (sz := 1) (tot := 1) (mono_sl okRule_mono) rfl (by kernel_rfl) (opens_slice hb okRule_mono Try.underlying28 (sz := 5) (by kernel_rfl) (by omega) (opens195 hb)) (opensF_cons (sz := 1) (tot := 0) (mono_sl okEntry_mono) rfl (by kernel_rfl) (opens_slice hb okEntry_mono Try.underlying29 (sz := 3) (by kernel_rfl) (by omega) (opens200 hb)) (opensF_nil)))
  exact h.map (fun p => ⟨p.1, p.2.1⟩) (fun p => by simp [cTerminology]) (fun b p hp => by simpa [OkTerminology] using hp)
def OkCustom (b : Nat) (x : Custom) : Prop := (inR .i64 x.prefer) ∧ (True) ∧ (True) ∧ True
theorem okCustom_mono (b b' : Nat) (x : Custom) (h : b ≤ b') (hx : OkCustom b x) : OkCustom b' x := by
  obtain ⟨h0, h1, h2, _⟩ := hx
  exact ⟨(mono_triv (p := fun (n : Int) => inR .i64 n)) _ _ _ h h0, trivial, trivial, trivial⟩
theorem opens33 {H : Type} {enc : TypeId × Value → H} {bk : DataW H → Nat} (hb : Bulk bk) : Opens Try.prog enc bk 33 (cCustom false) OkCustom := by
  have h := opens_struct (enc := enc) hb Try.underlying33 (tot := 3) (by kernel_rfl) (opensF_cons (sz := 1) (tot := 2) (mono_triv (p := fun (n : Int) => inR .i64 n)) rfl (by kernel_rfl) (opens_int Try.underlying3) (opensF_cons (sz := 1) (tot := 1) (mono_triv (p := fun (_ : Bool) => True)) rfl (by kernel_rfl) (opens_bool Try.underlying4) (opensF_cons (sz := 1) (tot := 0) (mono_triv (p := fun (_ : Bool) => True)) rfl (by kernel_rfl) (opens_bool Try.underlying4) (opensF_nil))))
  exact h.map (fun p => ⟨p.1, p.2.1, p.2.2.1⟩) (fun p => by simp [cCustom]) (fun b p hp => by simpa [OkCustom] using hp)
def OkRegister (b : Nat) (x : Register) : Prop := (OkFamily b x.family) ∧ (OkLaw b x.law) ∧ (OkTerminology b x.terms) ∧ (OkCustom b x.custom) ∧ True
theorem okRegister_mono (b b' : Nat) (x : Register) (h : b ≤ b') (hx : OkRegister b x) : OkRegister b' x := by
  obtain ⟨h0, h1, h2, h3, _⟩ := hx
  exact ⟨okFamily_mono _ _ _ h h0, okLaw_mono _ _ _ h h1, okTerminology_mono _ _ _ h h2, okCustom_mono _ _ _ h h3, trivial⟩
theorem opens35 {H : Type} {enc : TypeId × Value → H} {bk : DataW H → Nat} (hb : Bulk bk) : Opens Try.prog enc bk 35 (cRegister false) OkRegister := by
  have h := opens_struct (enc := enc) hb Try.underlying35 (tot := 15) (by kernel_rfl) (opensF_cons (sz := 2) (tot := 13) okFamily_mono rfl (by kernel_rfl) (opens25 hb) (opensF_cons (sz := 8) (tot := 5) okLaw_mono rfl (by kernel_rfl) (opens27 hb) (opensF_cons (sz := 2) (tot := 3) okTerminology_mono rfl (by kernel_rfl) (opens31 hb) (opensF_cons (sz := 3) (tot := 0) okCustom_mono rfl (by kernel_rfl) (opens33 hb) (opensF_nil)))))
  exact h.map (fun p => ⟨p.1, p.2.1, p.2.2.1, p.2.2.2.1⟩) (fun p => by simp [cRegister]) (fun b p hp => by simpa [OkRegister] using hp)
set_option maxRecDepth 100000 in
theorem contract (H : Type) (enc : TypeId × Value → H) (W : World) (base : Nat) (args : Array Value) (ds gs : List (DataW H)) (before : List MemPlace)
    (hval : ∀ (j : Nat) t v, Try.f3.params[j]? = some t → args[j]? = some v → Value.okWide Try.prog W .any base t v)
    (hW : DataW.Whole enc Try.prog Try.f3.params.toList Rows.fnExactIsRegisterSpec.vars false W args.toList ds gs before) (hk : Rows.uptoSmall H (ds ++ gs) = true) :
    Calls Try.prog 3 args W fun e W' => ∃ v, e = .returned v ∧ Rows.fnExactIsRegisterSpec.post enc Try.prog Try.f3 false true false false W args v W' := by
  have hW' := hW
  obtain ⟨p, q, hA0, hV, hpq, hfz, hnd⟩ := hW
  have hA : DataW.TrodAll enc Try.prog W 0 (fun _ => true) true Try.f3.params.toList args.toList ds p := hA0
  clear hA0
  rw [Try.params3] at hA hval
  obtain ⟨v0, vs0, d0, ds0, p0, q0, hargs, rfl, rfl, h0, hA1⟩ := trodAll_cons hA
  obtain ⟨rfl, rfl, rfl⟩ := trodAll_nil hA1
  obtain rfl : args = #[v0] := by cases args; simp_all
  obtain ⟨rfl, rfl⟩ := trodVars_none hV
  obtain ⟨x0, k0, r0⟩ := top_struct (opens35 bulk) Try.underlying35 (hval 0 35 v0 rfl rfl) h0
  have kk0 := (okRegister_mono) _ _ x0 (show Rows.uptoBulk d0 ≤ 1048576 from Nat.le_trans (bulkAll_mem _ d0 (by simp)) (of_decide_eq_true hk)) k0
  refine (Lite.Fn.true_of (ok_laws_FnExactIsRegister x0 ⟨kk0.1.1.1, kk0.1.2.1.1⟩ (fun p hp => (kk0.1.1.2 p hp).1) kk0.2.2.1.1.1 (fun r hr => ⟨(kk0.2.2.1.1.2 r hr).1, (kk0.2.2.1.1.2 r hr).2.2.2.1.1, (kk0.2.2.1.1.2 r hr).2.2.2.2.1.1⟩) kk0.2.2.1.2.1.1 (fun e he => ⟨(kk0.2.2.1.2.1.2 e he).2.1, (kk0.2.2.1.2.1.2 e he).1.2.1.1⟩)) trivial (by rfl) fun i lv v hl hv => ?_).mono fun e W' ⟨he, hb⟩ => ⟨_, he, row_post laidOut (by kernel_rfl) rfl Try.underlying4 rfl rfl hW' hb⟩
  match i, hl, hv with
  | 0, hl, hv => cases hl; cases hv; exact r0
  | _ + 1, hl, _ => simp at hl
set_option maxRecDepth 100000 in
theorem lifted (os : Os) (started : os.Started) (H : Type) (enc : TypeId × Value → H) (F : Stop.Interp) :
    ReturnsInHanded {} Try.checked os 3 .any ((Rows.OpenSpec.upto Rows.fnExactIsRegisterSpec).pre6 enc Try.prog Try.f3 Rows.fnExactIsRegisterUptoRow.domain false) (((Rows.OpenSpec.upto Rows.fnExactIsRegisterSpec).at F).post enc Try.prog Try.f3 false true false false) := by
  refine returnsInHanded_of_cond (C := Try.checked) (s := Rows.OpenSpec.upto Rows.fnExactIsRegisterSpec) (k := Rows.uptoSmall) rfl own started (by kernel_rfl) Try.func3
    (OpenSpec.witness (enc := enc) (C := Try.checked) (s := Rows.OpenSpec.upto Rows.fnExactIsRegisterSpec) (k := Rows.uptoSmall) rfl false ⟨#[], #[.agg #[.slice none 0 0, .slice none 0 0, .int .i64 0, .int .i64 0, .int .i64 0, .int .i64 0, .int .i64 0, .int .i64 0, .bool false, .bool false, .slice none 0 0, .slice none 0 0, .int .i64 0, .bool false, .bool false]], []⟩ 12 (by kernel_rfl) (by kernel_rfl) (by kernel_rfl)
      (x := ([.agg [.agg [.nil, .nil], .agg [.lit (.int .i64 0), .lit (.int .i64 0), .lit (.int .i64 0), .lit (.int .i64 0), .lit (.int .i64 0), .lit (.int .i64 0), .lit (.bool false), .lit (.bool false)], .agg [.nil, .nil], .agg [.lit (.int .i64 0), .lit (.bool false), .lit (.bool false)]]], [], [])) (by kernel_rfl) rfl (by kernel_rfl)) ?_
  intro W base args ds gs before hval hW _ hk _
  exact contract H enc W base args ds gs before hval hW hk
theorem proved : Rows.FnExactIsRegisterUptoSaid :=
  OpenClaim.holds_of_cond 3 Try.f3 rfl rfl rfl rfl rfl rfl rfl ⟨rfl, rfl, rfl, rfl, rfl⟩ rfl rfl rfl rfl rfl (by kernel_rfl) Try.func3 (by kernel_rfl)
    (of_decide_eq_true (by kernel_rfl)) (by unfold Func.isWrapper; first | (rw [if_pos (by decide +kernel)]; kernel_rfl) | (rw [if_neg (by decide +kernel)]; exact ⟨rfl, rfl⟩))
    (fun os started H enc _ F => lifted os started H enc F)
end Go.Proofs.Ytanfabaedopeiaa
