/- AuditUnions answers as the reference answers, leaves its arguments as they were, and returns memory of its own, for all families and laws of bounded size. -/
import Derived.Test.YtepefimocflfkaaRows
import Derived.Test.YtepefimocflfkaaM215
import Derived.Test.YtepefimocflfkaaLiteR
import Derived.WalkKit
import Derived.ProofKit
import Derived.OpenShut
import Derived.JoinedCond
set_option maxHeartbeats 4000000
set_option linter.unusedSimpArgs false
set_option linter.unusedVariables false
namespace Go.Proofs.Ytepefimocflfkaa
open Go Go.Lite Go.Proofs Go.ChangeShapes Go.WideShapes Go.ChangeAt Go.RowKit
def C7 (R : Bool) : LV × List (Nat × BC) := (.bool R, [])
def laws_FnExactAuditUnions_m (x0 : Family) (x1 : Law) : Bool := bif (decide ((szFamily x0 1048576) < 0)) then true else (bif (!(eqIntSS (implAudit x0 x1) (specAudit x0 x1))) then false else (bif (!(eqFamily x0 x0)) then false else (bif ((decide (((markFamily x0 1).1) < 0)) || (!(eqIntSS (implAudit x0 x1) (specAudit x0 x1)))) then false else (bif (decide ((heldIntSS ((markIntSS (implAudit x0 x1) 1).2) 1) < 0)) then false else (bif (!decide ((heldIntSS ((markIntSS (implAudit x0 x1) 1).2) 1) = ((markIntSS (implAudit x0 x1) 1).1))) then false else (bif (!(eqIntSS (implAudit x0 x1) (specAudit x0 x1))) then false else (bif (decide ((heldIntSS ((markIntSS (implAudit x0 x1) 1).2) 1) < 0)) then false else (bif (!decide ((heldIntSS ((markIntSS (implAudit x0 x1) 1).2) 1) = ((markIntSS (implAudit x0 x1) 1).1))) then false else true))))))))
def A7 (x0 : Family) (x1 : Law) : Ann := .reg 3 [] [(2002, k24 x0 1048576)] [2, 3, 4, 5] [2, 3] [] [] [] [0] (r0 1 [2, 3, 4, 17] [2, 3] (cn (decide ((szFamily x0 1048576) < 0)) (r0 1 [2, 3, 4] [2, 3] (rt [] (C7 true))) (.reg 3 [] [(1, k25 x0), (3, k35 x1), (4, k34 x0 x1), (1001, k25 x0), (2002, k35 x1), (2003, k36 x0 x1)] [2, 3, 4, 6, 7, 8] [2, 3, 7, 1022, 1024, 1028, 2024] [] [] [] [0, 4, 8, 12, 16, 20] (.reg 1 [] [(2, k37 (implAudit x0 x1) (specAudit x0 x1))] [2, 3, 4, 6, 7, 8, 32] [2, 3, 7, 1022, 1024, 1028, 2024] [] [] [] [0] (cn (!(eqIntSS (implAudit x0 x1) (specAudit x0 x1))) (r0 1 [2, 3, 4, 6, 7, 8] [2, 3, 7, 1022, 1024, 1028, 2024] (rt [] (C7 false))) (.reg 1 [] [(2, k25 x0), (3, k27 x0 x0)] [2, 3, 4, 6, 7, 8, 37] [2, 3, 7, 1022, 1024, 1028, 2024] [] [] [] [0, 4] (cn (!(eqFamily x0 x0)) (r0 1 [2, 3, 4, 6, 7, 8] [2, 3, 7, 1022, 1024, 1028, 2024] (rt [] (C7 false))) (.reg 2 [] [(1002, k28 40 [1024, 2024] x0 1)] [2, 3, 4, 6, 8, 9] [2, 3, 1022, 1028] [] [] [] [0] (.reg 1 [] [(5, cg (!(decide (((markFamily x0 1).1) < 0))) (k37 (implAudit x0 x1) (specAudit x0 x1)))] [2, 3, 4, 6, 8, 48] [2, 3, 1022, 1028] [!(decide (((markFamily x0 1).1) < 0)), decide (((markFamily x0 1).1) < 0)] [] [] [1, 1, 0, 1, 6] (cn ((decide (((markFamily x0 1).1) < 0)) || (!(eqIntSS (implAudit x0 x1) (specAudit x0 x1)))) (r0 1 [2, 3, 4, 6, 8] [2, 3, 1022, 1028] (rt [] (C7 false))) (.reg 4 [] [(1002, k38 51 [1028] (implAudit x0 x1) 1), (3002, k39 ((markIntSS (implAudit x0 x1) 1).2) 1)] [2, 3, 4, 6, 8, 10, 11] [2, 3, 1022, 1028] [] [] [] [0, 4] (r0 1 [2, 3, 4, 6, 8, 10, 11, 56] [2, 3, 1022, 1028] (cn (decide ((heldIntSS ((markIntSS (implAudit x0 x1) 1).2) 1) < 0)) (r0 1 [2, 3, 4, 6, 8, 10, 11] [2, 3, 1022, 1028] (rt [] (C7 false))) (r0 1 [2, 3, 4, 6, 8, 10, 59] [2, 3, 1022, 1028] (cn (!decide ((heldIntSS ((markIntSS (implAudit x0 x1) 1).2) 1) = ((markIntSS (implAudit x0 x1) 1).1))) (r0 1 [2, 3, 4, 6, 8, 10] [2, 3, 1022, 1028] (rt [] (C7 false))) (.reg 1 [] [(1, k25 x0), (3, k35 x1), (4, k36 x0 x1)] [4, 6, 8, 10, 12] [1022, 1028, 1064] [] [] [] [0, 4, 8] (.reg 1 [] [(2, k37 (implAudit x0 x1) (specAudit x0 x1))] [4, 8, 10, 68] [1028] [] [] [] [0] (cn (!(eqIntSS (implAudit x0 x1) (specAudit x0 x1))) (r0 1 [4, 8, 10] [1028] (rt [] (C7 false))) (.reg 2 [] [(1002, k39 ((markIntSS (implAudit x0 x1) 1).2) 1)] [4, 10, 11] [] [] [] [] [0] (r0 1 [4, 10, 11, 73] [] (cn (decide ((heldIntSS ((markIntSS (implAudit x0 x1) 1).2) 1) < 0)) (r0 1 [4, 10, 11] [] (rt [] (C7 false))) (r0 1 [4, 76] [] (cn (!decide ((heldIntSS ((markIntSS (implAudit x0 x1) 1).2) 1) = ((markIntSS (implAudit x0 x1) 1).1))) (r0 1 [4] [] (rt [] (C7 false))) (r0 1 [4] [] (rt [] (C7 true))))))))))))))))))))))))))
theorem mark_fam (x : Family) (k : Int) : (markFamily x k).1 = k + 6 * x.people.length + 4 * x.unions.length := by
  unfold markFamily
  simp only [markUnionS_val, markPersonS_val]
theorem law_AuditUnions (x0 : Family) (x1 : Law) : laws_FnExactAuditUnions_m x0 x1 = true := by
  unfold laws_FnExactAuditUnions_m
  have h2 : (markIntSS (implAudit x0 x1) 1).1 = 1 + tot (implAudit x0 x1) (implAudit x0 x1).length := (markIntSS_val _ _).1
  have h3 := mark_fam x0 1
  rw [heldSS_mark _ (by decide), audit_eq, eqIntSS_self, eqFamily_self, decide_eq_false (show ¬ (markFamily x0 1).1 < 0 by omega)]
  rw [audit_eq] at h2
  rw [decide_eq_false (show ¬ (markIntSS (specAudit x0 x1) 1).1 < 0 by omega)]
  simp
theorem ok_laws_FnExactAuditUnions (x0 : Family) (x1 : Law) (hx : x0.people.length ≤ 1048576) (hu : x0.unions.length ≤ 1048576) (hn : ∀ p ∈ x0.people, p.name.length ≤ 1048576) : FnT Try.prog 7 [.agg (cFamily false x0), .agg (cLaw false x1)] (C7 true) := by
  have aux : ∀ R, laws_FnExactAuditUnions_m x0 x1 = R → slim (C7 R) (A7 x0 x1) [] := by
    intro R hR
    refine rg ⟨⟨by (intros; omega), by with_reducible assumption, by (intros; omega)⟩, trivial⟩ ?_
    refine rg trivial ?_
    revert hR; refine cd (fun hc1 hR => ?_) fun hc1 hR => ?_
    ·
      refine rg trivial ?_
      exact congrArg C7 hR
    ·
      refine rg ⟨by (intros; omega), trivial, ⟨by with_reducible assumption, by with_reducible assumption, by with_reducible assumption⟩, by (intros; omega), trivial, ⟨by with_reducible assumption, by with_reducible assumption, by with_reducible assumption⟩, trivial⟩ ?_
      refine rg ⟨by (have h9 := audit_bd x0 x1; exact ⟨Nat.le_trans h9.1 (by decide), fun y hy => Nat.le_trans (h9.2 y hy) (by decide)⟩), trivial⟩ ?_
      revert hR; refine cd (fun hc2 hR => ?_) fun hc2 hR => ?_
      ·
        refine rg trivial ?_
        exact congrArg C7 hR
      ·
        refine rg ⟨by (intros; omega), by (intros; omega), trivial⟩ ?_
        revert hR; refine cd (fun hc3 hR => ?_) fun hc3 hR => ?_
        ·
          refine rg trivial ?_
          exact congrArg C7 hR
        ·
          refine rg ⟨⟨by with_reducible assumption, by with_reducible assumption, by (intros; omega)⟩, trivial⟩ ?_
          refine rg ⟨fun hg0 => by (have h9 := audit_bd x0 x1; exact ⟨Nat.le_trans h9.1 (by decide), fun y hy => Nat.le_trans (h9.2 y hy) (by decide)⟩), trivial⟩ ?_
          revert hR; refine cd (fun hc4 hR => ?_) fun hc4 hR => ?_
          ·
            refine rg trivial ?_
            exact congrArg C7 hR
          ·
            refine rg ⟨⟨by (have h9 := audit_bd x0 x1; exact ⟨Nat.le_trans h9.1 (by decide), fun y hy => Nat.le_trans (h9.2 y hy) (by decide)⟩), by (intros; omega)⟩, ⟨by (have h9 := audit_bd x0 x1; exact ⟨Nat.le_trans (Nat.le_of_eq (markIntSS_val _ _).2.1) (Nat.le_trans h9.1 (by decide)), fun y hy => Nat.le_trans (marked_bd h9.2 1 y hy) (by decide)⟩), by (intros; omega)⟩, trivial⟩ ?_
            refine rg trivial ?_
            revert hR; refine cd (fun hc5 hR => ?_) fun hc5 hR => ?_
            ·
              refine rg trivial ?_
              exact congrArg C7 hR
            ·
              refine rg trivial ?_
              revert hR; refine cd (fun hc6 hR => ?_) fun hc6 hR => ?_
              ·
                refine rg trivial ?_
                exact congrArg C7 hR
              ·
                refine rg ⟨by (intros; omega), trivial, ⟨by with_reducible assumption, by with_reducible assumption, by with_reducible assumption⟩, trivial⟩ ?_
                refine rg ⟨by (have h9 := audit_bd x0 x1; exact ⟨Nat.le_trans h9.1 (by decide), fun y hy => Nat.le_trans (h9.2 y hy) (by decide)⟩), trivial⟩ ?_
                revert hR; refine cd (fun hc7 hR => ?_) fun hc7 hR => ?_
                ·
                  refine rg trivial ?_
                  exact congrArg C7 hR
                ·
                  refine rg ⟨⟨by (have h9 := audit_bd x0 x1; exact ⟨Nat.le_trans (Nat.le_of_eq (markIntSS_val _ _).2.1) (Nat.le_trans h9.1 (by decide)), fun y hy => Nat.le_trans (marked_bd h9.2 1 y hy) (by decide)⟩), by (intros; omega)⟩, trivial⟩ ?_
                  refine rg trivial ?_
                  revert hR; refine cd (fun hc8 hR => ?_) fun hc8 hR => ?_
                  ·
                    refine rg trivial ?_
                    exact congrArg C7 hR
                  ·
                    refine rg trivial ?_
                    revert hR; refine cd (fun hc9 hR => ?_) fun hc9 hR => ?_
                    ·
                      refine rg trivial ?_
                      exact congrArg C7 hR
                    ·
                      refine rg trivial ?_
                      exact congrArg C7 hR
  exact Fn.go 77 Try.func7 (by kernel_rfl) (by kernel_rfl) (by simp [C7, Frs, FrsL]) (A7 x0 x1) (by kernel_rfl) (aux _ (law_AuditUnions x0 x1))
theorem bulk_pos {H : Type} (d : DataW H) : 1 ≤ Rows.uptoBulk d := by
  cases d with
  | lit l => cases l <;> simp [Rows.uptoBulk]
  | _ => simp [Rows.uptoBulk]
theorem bulkAll_len {H : Type} : ∀ l : List (DataW H), l.length ≤ Rows.uptoBulkAll l
  | [] => by simp
  | d :: l => by
    have := bulk_pos d
    have := bulkAll_len l
    simp only [Rows.uptoBulkAll, List.length_cons]
    omega
theorem bulkAll_mem {H : Type} : ∀ (l : List (DataW H)) (d : DataW H), d ∈ l → Rows.uptoBulk d ≤ Rows.uptoBulkAll l
  | [], d, h => by cases h
  | e :: l, d, h => by
    simp only [Rows.uptoBulkAll]
    rcases List.mem_cons.1 h with e | h
    · rw [e]; omega
    · have := bulkAll_mem l d h
      omega
theorem bulk {H : Type} : Bulk (Rows.uptoBulk (H := H)) where
  str := fun bs => by simp [Rows.uptoBulk]
  slen := fun es sp => by
    have := bulkAll_len es
    simp only [Rows.uptoBulk]
    omega
  sel := fun es sp e he => by
    have := bulkAll_mem es e he
    simp only [Rows.uptoBulk]
    omega
  agg := fun ps p hp => by
    have := bulkAll_mem ps p hp
    simp only [Rows.uptoBulk]
    omega
theorem own : ownKnob Try.prog.godebug = none := by kernel_rfl
theorem laidOut : laidOutB Try.prog = true := by kernel_rfl
def OkPerson (b : Nat) (x : Person) : Prop := (x.name.length ≤ b) ∧ (inR .i64 x.sex) ∧ (inR .i64 x.father) ∧ (inR .i64 x.mother) ∧ (inR .i64 x.born) ∧ (inR .i64 x.died) ∧ True
theorem okPerson_mono (b b' : Nat) (x : Person) (h : b ≤ b') (hx : OkPerson b x) : OkPerson b' x := by
  obtain ⟨h0, h1, h2, h3, h4, h5, _⟩ := hx
  exact ⟨mono_len _ _ _ h h0, (mono_triv (p := fun (n : Int) => inR .i64 n)) _ _ _ h h1, (mono_triv (p := fun (n : Int) => inR .i64 n)) _ _ _ h h2, (mono_triv (p := fun (n : Int) => inR .i64 n)) _ _ _ h h3, (mono_triv (p := fun (n : Int) => inR .i64 n)) _ _ _ h h4, (mono_triv (p := fun (n : Int) => inR .i64 n)) _ _ _ h h5, trivial⟩
theorem opens148 {H : Type} {enc : TypeId × Value → H} {bk : DataW H → Nat} (hb : Bulk bk) : Opens Try.prog enc bk 148 (cPerson false) OkPerson := by
  have h := opens_struct (enc := enc) hb Try.underlying148 (tot := 6) (by kernel_rfl) (opensF_cons (sz := 1) (tot := 5) mono_len rfl (by kernel_rfl) (opens_str hb Try.underlying9) (opensF_cons (sz := 1) (tot := 4) (mono_triv (p := fun (n : Int) => inR .i64 n)) rfl (by kernel_rfl) (opens_int Try.underlying3) (opensF_cons (sz := 1) (tot := 3) (mono_triv (p := fun (n : Int) => inR .i64 n)) rfl (by kernel_rfl) (opens_int Try.underlying3) (opensF_cons (sz := 1) (tot := 2) (mono_triv (p := fun (n : Int) => inR .i64 n)) rfl (by kernel_rfl) (opens_int Try.underlying3) (opensF_cons (sz := 1) (tot := 1) (mono_triv (p := fun (n : Int) => inR .i64 n)) rfl (by kernel_rfl) (opens_int Try.underlying3) (opensF_cons (sz := 1) (tot := 0) (mono_triv (p := fun (n : Int) => inR .i64 n)) rfl (by kernel_rfl) (opens_int Try.underlying3) (opensF_nil)))))))
  exact h.map (fun p => ⟨p.1, p.2.1, p.2.2.1, p.2.2.2.1, p.2.2.2.2.1, p.2.2.2.2.2.1⟩) (fun p => by simp [cPerson]) (fun b p hp => by simpa [OkPerson] using hp)
def OkUnion (b : Nat) (x : Union) : Prop := (inR .i64 x.man) ∧ (inR .i64 x.woman) ∧ (inR .i64 x.from0) ∧ (inR .i64 x.to) ∧ True
theorem okUnion_mono (b b' : Nat) (x : Union) (h : b ≤ b') (hx : OkUnion b x) : OkUnion b' x := by
  obtain ⟨h0, h1, h2, h3, _⟩ := hx
  exact ⟨(mono_triv (p := fun (n : Int) => inR .i64 n)) _ _ _ h h0, (mono_triv (p := fun (n : Int) => inR .i64 n)) _ _ _ h h1, (mono_triv (p := fun (n : Int) => inR .i64 n)) _ _ _ h h2, (mono_triv (p := fun (n : Int) => inR .i64 n)) _ _ _ h h3, trivial⟩
theorem opens151 {H : Type} {enc : TypeId × Value → H} {bk : DataW H → Nat} (hb : Bulk bk) : Opens Try.prog enc bk 151 (cUnion false) OkUnion := by
  have h := opens_struct (enc := enc) hb Try.underlying151 (tot := 4) (by kernel_rfl) (opensF_cons (sz := 1) (tot := 3) (mono_triv (p := fun (n : Int) => inR .i64 n)) rfl (by kernel_rfl) (opens_int Try.underlying3) (opensF_cons (sz := 1) (tot := 2) (mono_triv (p := fun (n : Int) => inR .i64 n)) rfl (by kernel_rfl) (opens_int Try.underlying3) (opensF_cons (sz := 1) (tot := 1) (mono_triv (p := fun (n : Int) => inR .i64 n)) rfl (by kernel_rfl) (opens_int Try.underlying3) (opensF_cons (sz := 1) (tot := 0) (mono_triv (p := fun (n : Int) => inR .i64 n)) rfl (by kernel_rfl) (opens_int Try.underlying3) (opensF_nil)))))
  exact h.map (fun p => ⟨p.1, p.2.1, p.2.2.1, p.2.2.2.1⟩) (fun p => by simp [cUnion]) (fun b p hp => by simpa [OkUnion] using hp)
def OkFamily (b : Nat) (x : Family) : Prop := (x.people.length ≤ b ∧ ∀ y ∈ x.people, OkPerson b y) ∧ (x.unions.length ≤ b ∧ ∀ y ∈ x.unions, OkUnion b y) ∧ True
theorem okFamily_mono (b b' : Nat) (x : Family) (h : b ≤ b') (hx : OkFamily b x) : OkFamily b' x := by
  obtain ⟨h0, h1, _⟩ := hx
  exact ⟨(mono_sl okPerson_mono) _ _ _ h h0, (mono_sl okUnion_mono) _ _ _ h h1, trivial⟩
theorem opens55 {H : Type} {enc : TypeId × Value → H} {bk : DataW H → Nat} (hb : Bulk bk) : Opens Try.prog enc bk 55 (cFamily false) OkFamily := by
  have h := opens_struct (enc := enc) hb Try.underlying55 (tot := 2) (by kernel_rfl) (opensF_cons (sz := 1) (tot := 1) (mono_sl okPerson_mono) rfl (by kernel_rfl) (opens_slice hb okPerson_mono Try.underlying52 (sz := 6) (by kernel_rfl) (by omega) (opens148 hb)) (opensF_cons (sz := 1) (tot := 0) (mono_sl okUnion_mono) rfl (by kernel_rfl) (opens_slice hb okUnion_mono Try.underlying53 (sz := 4) (by kernel_rfl) (by omega) (opens151 hb)) (opensF_nil)))
  exact h.map (fun p => ⟨p.1, p.2.1⟩) (fun p => by simp [cFamily]) (fun b p hp => by simpa [OkFamily] using hp)
def OkLaw (b : Nat) (x : Law) : Prop := (inR .i64 x.degree) ∧ (inR .i64 x.canon) ∧ (inR .i64 x.affinity) ∧ (inR .i64 x.age) ∧ (inR .i64 x.wives) ∧ (inR .i64 x.husbands) ∧ (True) ∧ (True) ∧ True
theorem opens62 {H : Type} {enc : TypeId × Value → H} {bk : DataW H → Nat} (hb : Bulk bk) : Opens Try.prog enc bk 62 (cLaw false) OkLaw := by
  have h := opens_struct (enc := enc) hb Try.underlying62 (tot := 8) (by kernel_rfl) (opensF_cons (sz := 1) (tot := 7) (mono_triv (p := fun (n : Int) => inR .i64 n)) rfl (by kernel_rfl) (opens_int Try.underlying3) (opensF_cons (sz := 1) (tot := 6) (mono_triv (p := fun (n : Int) => inR .i64 n)) rfl (by kernel_rfl) (opens_int Try.underlying3) (opensF_cons (sz := 1) (tot := 5) (mono_triv (p := fun (n : Int) => inR .i64 n)) rfl (by kernel_rfl) (opens_int Try.underlying3) (opensF_cons (sz := 1) (tot := 4) (mono_triv (p := fun (n : Int) => inR .i64 n)) rfl (by kernel_rfl) (opens_int Try.underlying3) (opensF_cons (sz := 1) (tot := 3) (mono_triv (p := fun (n : Int) => inR .i64 n)) rfl (by kernel_rfl) (opens_int Try.underlying3) (opensF_cons (sz := 1) (tot := 2) (mono_triv (p := fun (n : Int) => inR .i64 n)) rfl (by kernel_rfl) (opens_int Try.underlying3) (opensF_cons (sz := 1) (tot := 1) (mono_triv (p := fun (_ : Bool) => True)) rfl (by kernel_rfl) (opens_bool Try.underlying4) (opensF_cons (sz := 1) (tot := 0) (mono_triv (p := fun (_ : Bool) => True)) rfl (by kernel_rfl) (opens_bool Try.underlying4) (opensF_nil)))))))))
  exact h.map (fun p => ⟨p.1, p.2.1, p.2.2.1, p.2.2.2.1, p.2.2.2.2.1, p.2.2.2.2.2.1, p.2.2.2.2.2.2.1, p.2.2.2.2.2.2.2.1⟩) (fun p => by simp [cLaw]) (fun b p hp => by simpa [OkLaw] using hp)
set_option maxRecDepth 100000 in
theorem contract (H : Type) (enc : TypeId × Value → H) (W : World) (base : Nat) (args : Array Value) (ds gs : List (DataW H)) (before : List MemPlace)
    (hval : ∀ (j : Nat) t v, Try.f7.params[j]? = some t → args[j]? = some v → Value.okWide Try.prog W .any base t v)
    (hW : DataW.Whole enc Try.prog Try.f7.params.toList Rows.fnExactAuditUnionsSpec.vars false W args.toList ds gs before) (hk : Rows.uptoSmall H (ds ++ gs) = true) :
    Calls Try.prog 7 args W fun e W' => ∃ v, e = .returned v ∧ Rows.fnExactAuditUnionsSpec.post enc Try.prog Try.f7 false true false false W args v W' := by
  have hW' := hW
  obtain ⟨p, q, hA0, hV, hpq, hfz, hnd⟩ := hW
  have hA : DataW.TrodAll enc Try.prog W 0 (fun _ => true) true Try.f7.params.toList args.toList ds p := hA0
  clear hA0
  rw [Try.params7] at hA hval
  obtain ⟨v0, vs0, d0, ds0, p0, q0, hargs, rfl, rfl, h0, hA1⟩ := trodAll_cons hA
  obtain ⟨v1, vs1, d1, ds1, p1, q1, rfl, rfl, rfl, h1, hA2⟩ := trodAll_cons hA1
  obtain ⟨rfl, rfl, rfl⟩ := trodAll_nil hA2
  obtain rfl : args = #[v0, v1] := by cases args; simp_all
  obtain ⟨rfl, rfl⟩ := trodVars_none hV
  obtain ⟨x0, k0, r0⟩ := top_struct (opens55 bulk) Try.underlying55 (hval 0 55 v0 rfl rfl) h0
  obtain ⟨x1, k1, r1⟩ := top_struct (opens62 bulk) Try.underlying62 (hval 1 62 v1 rfl rfl) h1
  have kk0 := (okFamily_mono) _ _ x0 (show Rows.uptoBulk d0 ≤ 1048576 from Nat.le_trans (bulkAll_mem _ d0 (by simp)) (of_decide_eq_true hk)) k0
  refine (Lite.Fn.true_of (ok_laws_FnExactAuditUnions x0 x1 kk0.1.1 kk0.2.1.1 (fun p hp => (kk0.1.2 p hp).1)) trivial (by rfl) fun i lv v hl hv => ?_).mono fun e W' ⟨he, hb⟩ => ⟨_, he, row_post laidOut (by kernel_rfl) rfl Try.underlying4 rfl rfl hW' hb⟩
  match i, hl, hv with
  | 0, hl, hv => cases hl; cases hv; exact r0
  | 1, hl, hv => cases hl; cases hv; exact r1
  | _ + 2, hl, _ => simp at hl
set_option maxRecDepth 100000 in
theorem lifted (os : Os) (started : os.Started) (H : Type) (enc : TypeId × Value → H) (F : Stop.Interp) :
    ReturnsInHanded {} Try.checked os 7 .any ((Rows.OpenSpec.upto Rows.fnExactAuditUnionsSpec).pre6 enc Try.prog Try.f7 Rows.fnExactAuditUnionsUptoRow.domain false) (((Rows.OpenSpec.upto Rows.fnExactAuditUnionsSpec).at F).post enc Try.prog Try.f7 false true false false) := by
  refine returnsInHanded_of_cond (C := Try.checked) (s := Rows.OpenSpec.upto Rows.fnExactAuditUnionsSpec) (k := Rows.uptoSmall) rfl own started (by kernel_rfl) Try.func7
    (OpenSpec.witness (enc := enc) (C := Try.checked) (s := Rows.OpenSpec.upto Rows.fnExactAuditUnionsSpec) (k := Rows.uptoSmall) rfl false ⟨#[], #[.agg #[.slice none 0 0, .slice none 0 0], .agg #[.int .i64 0, .int .i64 0, .int .i64 0, .int .i64 0, .int .i64 0, .int .i64 0, .bool false, .bool false]], []⟩ 12 (by kernel_rfl) (by kernel_rfl) (by kernel_rfl)
      (x := ([.agg [.nil, .nil], .agg [.lit (.int .i64 0), .lit (.int .i64 0), .lit (.int .i64 0), .lit (.int .i64 0), .lit (.int .i64 0), .lit (.int .i64 0), .lit (.bool false), .lit (.bool false)]], [], [])) (by kernel_rfl) rfl (by kernel_rfl)) ?_
  intro W base args ds gs before hval hW _ hk _
  exact contract H enc W base args ds gs before hval hW hk
theorem proved : Rows.FnExactAuditUnionsUptoSaid :=
  OpenClaim.holds_of_cond 7 Try.f7 rfl rfl rfl rfl rfl rfl rfl ⟨rfl, rfl, rfl, rfl, rfl⟩ rfl rfl rfl rfl rfl (by kernel_rfl) Try.func7 (by kernel_rfl)
    (of_decide_eq_true (by kernel_rfl)) (by unfold Func.isWrapper; first | (rw [if_pos (by decide +kernel)]; kernel_rfl) | (rw [if_neg (by decide +kernel)]; exact ⟨rfl, rfl⟩))
    (fun os started H enc _ F => lifted os started H enc F)
end Go.Proofs.Ytepefimocflfkaa
