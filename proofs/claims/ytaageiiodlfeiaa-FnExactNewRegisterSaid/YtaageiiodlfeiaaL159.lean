/- The program's NewRegister returns what the reference's returns; what it returns is its own, and marks written into it stay. -/
import Derived.Test.YtaageiiodlfeiaaRows
import Derived.HandedShaped
import Derived.Shelf.Vars
import Derived.Test.YtaageiiodlfeiaaRM3
import Derived.Test.YtaageiiodlfeiaaLiteR
import Derived.WalkKit
import Derived.ProofKit
import Derived.OpenShut
import Derived.JoinedCond
set_option maxHeartbeats 4000000
set_option linter.unusedSimpArgs false
set_option linter.unusedVariables false
namespace Go.Proofs.Ytaageiiodlfeiaa
open Go Go.Lite Go.Proofs Go.ChangeShapes Go.WideShapes Go.ChangeAt Go.RowKit
def k8w (x0 : Register) (x1 : Register) : Cl := (hres (C8 (eqRegister x0 x1)), Go.Lite.k6 (P := FnT Try.prog 8 [.agg [.ro false 6 x0.family.people.length (rowOf (cPerson false) x0.family.people), .ro false 4 x0.family.unions.length (rowOf (cUnion false) x0.family.unions), .int .i64 x0.law.degree, .int .i64 x0.law.canon, .int .i64 x0.law.affinity, .int .i64 x0.law.age, .int .i64 x0.law.wives, .int .i64 x0.law.husbands, .bool x0.law.patriline, .bool x0.law.matriline, .ro false 5 x0.terms.rules.length (nrE 5 (nrL 2) (nwOf 5 nRule x0.terms.rules)), .ro false 3 x0.terms.entries.length (nrE 3 (nrL 2) (nwOf 3 nEntry x0.terms.entries)), .int .i64 x0.custom.prefer, .bool x0.custom.youngest, .bool x0.custom.represent], .agg [.ro false 6 x1.family.people.length (rowOf (cPerson false) x1.family.people), .ro false 4 x1.family.unions.length (rowOf (cUnion false) x1.family.unions), .int .i64 x1.law.degree, .int .i64 x1.law.canon, .int .i64 x1.law.affinity, .int .i64 x1.law.age, .int .i64 x1.law.wives, .int .i64 x1.law.husbands, .bool x1.law.patriline, .bool x1.law.matriline, .ro false 5 x1.terms.rules.length (rowOf (cRule false) x1.terms.rules), .ro false 3 x1.terms.entries.length (rowOf (cEntry false) x1.terms.entries), .int .i64 x1.custom.prefer, .bool x1.custom.youngest, .bool x1.custom.represent]] (C8 (eqRegister x0 x1))) fun h0 h1 h2 h3 h4 h5 => (by rw [nrE_nw (wd := 5) (sz := 2) (c := nRule) (c' := cRule false) (v := x0.terms.rules) (fun _ => rfl) (fun _ => rfl), nrE_nw (wd := 3) (sz := 2) (c := nEntry) (c' := cEntry false) (v := x0.terms.entries) (fun _ => rfl) (fun _ => rfl)]; exact ok_laws_eqRegister x0 x1 h0 h1 h2 h3 h4 h5))
def k10w (x0 : Register) (x1 : Int) : Cl := (hres (C10 (heldReg x0 x1)), k5 (P := FnT Try.prog 10 [.agg [.ro false 6 x0.family.people.length (rowOf (cPerson false) x0.family.people), .ro false 4 x0.family.unions.length (rowOf (cUnion false) x0.family.unions), .int .i64 x0.law.degree, .int .i64 x0.law.canon, .int .i64 x0.law.affinity, .int .i64 x0.law.age, .int .i64 x0.law.wives, .int .i64 x0.law.husbands, .bool x0.law.patriline, .bool x0.law.matriline, .ro false 5 x0.terms.rules.length (nrE 5 (nrL 2) (nwOf 5 nRule x0.terms.rules)), .ro false 3 x0.terms.entries.length (nrE 3 (nrL 2) (nwOf 3 nEntry x0.terms.entries)), .int .i64 x0.custom.prefer, .bool x0.custom.youngest, .bool x0.custom.represent], .int .i64 x1] (C10 (heldReg x0 x1))) fun h0 h1 h2 h3 h4 => (by rw [nrE_nw (wd := 5) (sz := 2) (c := nRule) (c' := cRule false) (v := x0.terms.rules) (fun _ => rfl) (fun _ => rfl), nrE_nw (wd := 3) (sz := 2) (c := nEntry) (c' := cEntry false) (v := x0.terms.entries) (fun _ => rfl) (fun _ => rfl)]; exact ok_laws_heldRegister x0 x1 h0 h1 h2 h3 h4))
def C3 (R : Bool) : LV × List (Nat × BC) := (.bool R, [])
def laws_FnExactNewRegister_m  : Bool := bif (!(eqRegister (Register.mk ((implNewReg ).family) ((implNewReg ).law) ((implNewReg ).terms) ((implNewReg ).custom)) (Register.mk ((specNewReg ).family) ((specNewReg ).law) ((specNewReg ).terms) ((specNewReg ).custom)))) then false else (bif (decide ((heldReg (Register.mk (((markReg (Register.mk ((implNewReg ).family) ((implNewReg ).law) ((implNewReg ).terms) ((implNewReg ).custom)) 1).2).family) ((implNewReg ).law) (((markReg (Register.mk ((implNewReg ).family) ((implNewReg ).law) ((implNewReg ).terms) ((implNewReg ).custom)) 1).2).terms) ((implNewReg ).custom)) 1) < 0)) then false else (bif (!decide ((heldReg (Register.mk (((markReg (Register.mk ((implNewReg ).family) ((implNewReg ).law) ((implNewReg ).terms) ((implNewReg ).custom)) 1).2).family) ((implNewReg ).law) (((markReg (Register.mk ((implNewReg ).family) ((implNewReg ).law) ((implNewReg ).terms) ((implNewReg ).custom)) 1).2).terms) ((implNewReg ).custom)) 1) = ((markReg (Register.mk ((implNewReg ).family) ((implNewReg ).law) ((implNewReg ).terms) ((implNewReg ).custom)) 1).1))) then false else (bif (!(eqRegister (Register.mk ((implNewReg ).family) ((implNewReg ).law) ((implNewReg ).terms) ((implNewReg ).custom)) (Register.mk ((specNewReg ).family) ((specNewReg ).law) ((specNewReg ).terms) ((specNewReg ).custom)))) then false else (bif (decide ((heldReg (Register.mk (((markReg (Register.mk ((implNewReg ).family) ((implNewReg ).law) ((implNewReg ).terms) ((implNewReg ).custom)) 1).2).family) ((implNewReg ).law) (((markReg (Register.mk ((implNewReg ).family) ((implNewReg ).law) ((implNewReg ).terms) ((implNewReg ).custom)) 1).2).terms) ((implNewReg ).custom)) 1) < 0)) then false else (bif (!decide ((heldReg (Register.mk (((markReg (Register.mk ((implNewReg ).family) ((implNewReg ).law) ((implNewReg ).terms) ((implNewReg ).custom)) 1).2).family) ((implNewReg ).law) (((markReg (Register.mk ((implNewReg ).family) ((implNewReg ).law) ((implNewReg ).terms) ((implNewReg ).custom)) 1).2).terms) ((implNewReg ).custom)) 1) = ((markReg (Register.mk ((implNewReg ).family) ((implNewReg ).law) ((implNewReg ).terms) ((implNewReg ).custom)) 1).1))) then false else true)))))
def A3  : Ann := .reg 3 [] [(1000, k6 ), (2000, k7 )] [0, 1, 2] [1, 2, 1006, 1007, 2006, 2007, 3006, 3007, 4006, 4007] [] [] [] [0, 4] (.reg 1 [] [(2, k8w (Register.mk ((implNewReg ).family) ((implNewReg ).law) ((implNewReg ).terms) ((implNewReg ).custom)) (Register.mk ((specNewReg ).family) ((specNewReg ).law) ((specNewReg ).terms) ((specNewReg ).custom)))] [0, 1, 2, 11] [1, 2, 1006, 1007, 2006, 2007, 3006, 3007, 4006, 4007] [] [] [] [0] (cn (!(eqRegister (Register.mk ((implNewReg ).family) ((implNewReg ).law) ((implNewReg ).terms) ((implNewReg ).custom)) (Register.mk ((specNewReg ).family) ((specNewReg ).law) ((specNewReg ).terms) ((specNewReg ).custom)))) (r0 1 [0, 1, 2] [1, 2, 1006, 1007, 2006, 2007, 3006, 3007, 4006, 4007] (rt [] (C3 false))) (.reg 4 [] [(1002, k9 14 [1007, 2007, 3007, 4007] (Register.mk ((implNewReg ).family) ((implNewReg ).law) ((implNewReg ).terms) ((implNewReg ).custom)) 1), (3002, k10w (Register.mk (((markReg (Register.mk ((implNewReg ).family) ((implNewReg ).law) ((implNewReg ).terms) ((implNewReg ).custom)) 1).2).family) ((implNewReg ).law) (((markReg (Register.mk ((implNewReg ).family) ((implNewReg ).law) ((implNewReg ).terms) ((implNewReg ).custom)) 1).2).terms) ((implNewReg ).custom)) 1)] [0, 1, 2, 3, 4] [1, 2, 1006, 1007, 2006, 2007, 3006, 3007, 4006, 4007] [] [] [] [0, 4] (r0 1 [0, 1, 2, 3, 4, 19] [1, 2, 1006, 1007, 2006, 2007, 3006, 3007, 4006, 4007] (cn (decide ((heldReg (Register.mk (((markReg (Register.mk ((implNewReg ).family) ((implNewReg ).law) ((implNewReg ).terms) ((implNewReg ).custom)) 1).2).family) ((implNewReg ).law) (((markReg (Register.mk ((implNewReg ).family) ((implNewReg ).law) ((implNewReg ).terms) ((implNewReg ).custom)) 1).2).terms) ((implNewReg ).custom)) 1) < 0)) (r0 1 [0, 1, 2, 3, 4] [1, 2, 1006, 1007, 2006, 2007, 3006, 3007, 4006, 4007] (rt [] (C3 false))) (r0 1 [0, 1, 2, 3, 22] [1, 2, 1006, 1007, 2006, 2007, 3006, 3007, 4006, 4007] (cn (!decide ((heldReg (Register.mk (((markReg (Register.mk ((implNewReg ).family) ((implNewReg ).law) ((implNewReg ).terms) ((implNewReg ).custom)) 1).2).family) ((implNewReg ).law) (((markReg (Register.mk ((implNewReg ).family) ((implNewReg ).law) ((implNewReg ).terms) ((implNewReg ).custom)) 1).2).terms) ((implNewReg ).custom)) 1) = ((markReg (Register.mk ((implNewReg ).family) ((implNewReg ).law) ((implNewReg ).terms) ((implNewReg ).custom)) 1).1))) (r0 1 [0, 1, 2, 3] [1, 2, 1006, 1007, 2006, 2007, 3006, 3007, 4006, 4007] (rt [] (C3 false))) (.reg 1 [] [(0, k7 )] [0, 1, 2, 3, 5] [1, 2, 5, 1006, 1007, 1023, 2006, 2007, 2023, 3006, 3007, 3023, 4006, 4007, 4023] [] [] [] [0] (.reg 1 [] [(2, k8w (Register.mk ((implNewReg ).family) ((implNewReg ).law) ((implNewReg ).terms) ((implNewReg ).custom)) (Register.mk ((specNewReg ).family) ((specNewReg ).law) ((specNewReg ).terms) ((specNewReg ).custom)))] [0, 2, 3, 27] [2, 1007, 2007, 3007, 4007] [] [] [] [0] (cn (!(eqRegister (Register.mk ((implNewReg ).family) ((implNewReg ).law) ((implNewReg ).terms) ((implNewReg ).custom)) (Register.mk ((specNewReg ).family) ((specNewReg ).law) ((specNewReg ).terms) ((specNewReg ).custom)))) (r0 1 [0, 2, 3] [2, 1007, 2007, 3007, 4007] (rt [] (C3 false))) (.reg 2 [] [(1002, k10w (Register.mk (((markReg (Register.mk ((implNewReg ).family) ((implNewReg ).law) ((implNewReg ).terms) ((implNewReg ).custom)) 1).2).family) ((implNewReg ).law) (((markReg (Register.mk ((implNewReg ).family) ((implNewReg ).law) ((implNewReg ).terms) ((implNewReg ).custom)) 1).2).terms) ((implNewReg ).custom)) 1)] [0, 3, 4] [] [] [] [] [0] (r0 1 [0, 3, 4, 32] [] (cn (decide ((heldReg (Register.mk (((markReg (Register.mk ((implNewReg ).family) ((implNewReg ).law) ((implNewReg ).terms) ((implNewReg ).custom)) 1).2).family) ((implNewReg ).law) (((markReg (Register.mk ((implNewReg ).family) ((implNewReg ).law) ((implNewReg ).terms) ((implNewReg ).custom)) 1).2).terms) ((implNewReg ).custom)) 1) < 0)) (r0 1 [0, 3, 4] [] (rt [] (C3 false))) (r0 1 [0, 35] [] (cn (!decide ((heldReg (Register.mk (((markReg (Register.mk ((implNewReg ).family) ((implNewReg ).law) ((implNewReg ).terms) ((implNewReg ).custom)) 1).2).family) ((implNewReg ).law) (((markReg (Register.mk ((implNewReg ).family) ((implNewReg ).law) ((implNewReg ).terms) ((implNewReg ).custom)) 1).2).terms) ((implNewReg ).custom)) 1) = ((markReg (Register.mk ((implNewReg ).family) ((implNewReg ).law) ((implNewReg ).terms) ((implNewReg ).custom)) 1).1))) (r0 1 [0] [] (rt [] (C3 false))) (r0 1 [0] [] (rt [] (C3 true))))))))))))))))))
theorem law_NewRegister : laws_FnExactNewRegister_m = true := by decide +kernel
theorem ok_laws_FnExactNewRegister  : FnT Try.prog 3 [] (C3 true) := by
  have aux : ∀ R, laws_FnExactNewRegister_m = R → slim (C3 R) (A3) [] := by
    intro R hR
    refine rg ⟨trivial, trivial, trivial⟩ ?_
    refine rg ⟨⟨by (decide +kernel), by (decide +kernel), by (decide +kernel), by (decide +kernel), by (decide +kernel), by (decide +kernel)⟩, trivial⟩ ?_
    revert hR; refine cd (fun hc1 hR => ?_) fun hc1 hR => ?_
    ·
      refine rg trivial ?_
      exact congrArg C3 hR
    ·
      refine rg ⟨⟨by (decide +kernel), by (decide +kernel), by (decide +kernel), by (decide +kernel), by (decide +kernel)⟩, ⟨by (decide +kernel), by (decide +kernel), by (decide +kernel), by (decide +kernel), by (decide +kernel)⟩, trivial⟩ ?_
      refine rg trivial ?_
      revert hR; refine cd (fun hc2 hR => ?_) fun hc2 hR => ?_
      ·
        refine rg trivial ?_
        exact congrArg C3 hR
      ·
        refine rg trivial ?_
        revert hR; refine cd (fun hc3 hR => ?_) fun hc3 hR => ?_
        ·
          refine rg trivial ?_
          exact congrArg C3 hR
        ·
          refine rg ⟨trivial, trivial⟩ ?_
          refine rg ⟨⟨by (decide +kernel), by (decide +kernel), by (decide +kernel), by (decide +kernel), by (decide +kernel), by (decide +kernel)⟩, trivial⟩ ?_
          revert hR; refine cd (fun hc4 hR => ?_) fun hc4 hR => ?_
          ·
            refine rg trivial ?_
            exact congrArg C3 hR
          ·
            refine rg ⟨⟨by (decide +kernel), by (decide +kernel), by (decide +kernel), by (decide +kernel), by (decide +kernel)⟩, trivial⟩ ?_
            refine rg trivial ?_
            revert hR; refine cd (fun hc5 hR => ?_) fun hc5 hR => ?_
            ·
              refine rg trivial ?_
              exact congrArg C3 hR
            ·
              refine rg trivial ?_
              revert hR; refine cd (fun hc6 hR => ?_) fun hc6 hR => ?_
              ·
                refine rg trivial ?_
                exact congrArg C3 hR
              ·
                refine rg trivial ?_
                exact congrArg C3 hR
  exact Fn.go 36 Try.func3 (by kernel_rfl) (by kernel_rfl) (by simp [C3, Frs, FrsL]) (A3) (by kernel_rfl) (aux _ law_NewRegister)
theorem own : ownKnob Try.prog.godebug = none := by kernel_rfl
theorem laidOut : laidOutB Try.prog = true := by kernel_rfl
theorem gh_of {W : World} (hs : W.ShapedOpen Try.prog) : GH W := by
  obtain ⟨m, hm⟩ := cell_of_shapedOpen_int (k := .i64) hs (g := 0) (t := 3) (zero := #[.int .i64 0]) (of_decide_eq_true (by kernel_rfl)) (by kernel_rfl) rfl (by kernel_rfl) (by kernel_rfl) (by kernel_rfl)
  refine ⟨?_, m, hm⟩
  unfold World.cell? at hm
  cases e : W.heap[0]? with
  | none => simp [e] at hm
  | some o => have := (Array.getElem?_eq_some_iff.1 e).1; omega
set_option maxRecDepth 100000 in
theorem contract (H : Type) (enc : TypeId × Value → H) (W : World) (base : Nat) (args : Array Value) (ds gs : List (DataW H)) (before : List MemPlace)
    (hval : ∀ (j : Nat) t v, Try.f3.params[j]? = some t → args[j]? = some v → Value.okWide Try.prog W .any base t v)
    (hW : DataW.Whole enc Try.prog Try.f3.params.toList Rows.fnExactNewRegisterSpec.vars false W args.toList ds gs before) (hSh : W.ShapedOpen Try.prog) :
    Calls Try.prog 3 args W fun e W' => ∃ v, e = .returned v ∧ Rows.fnExactNewRegisterSpec.post enc Try.prog Try.f3 false true false false W args v W' := by
  have hW' := hW
  obtain ⟨p, q, hA0, hV, hpq, hfz, hnd⟩ := hW
  have hA : DataW.TrodAll enc Try.prog W 0 (fun _ => true) true Try.f3.params.toList args.toList ds p := hA0
  clear hA0
  rw [Try.params3] at hA hval
  obtain ⟨ha, rfl, rfl⟩ := trodAll_nil hA
  obtain rfl : args = #[] := by cases args; simp_all
  obtain ⟨rfl, rfl⟩ := trodVars_none hV

  refine (Lite.Fn.true_of (ok_laws_FnExactNewRegister ) (gh_of hSh) (by rfl) fun i lv v hl hv => ?_).mono fun e W' ⟨he, hb⟩ => ⟨_, he, row_post laidOut (by kernel_rfl) rfl Try.underlying4 rfl rfl hW' hb⟩
  match i, hl, hv with

  | _ + 0, hl, _ => simp at hl
set_option maxRecDepth 100000 in
theorem lifted (os : Os) (started : os.Started) (H : Type) (enc : TypeId × Value → H) :
    ReturnsInHanded {} Try.checked os 3 .any (Rows.fnExactNewRegisterSpec.pre6 enc Try.prog Try.f3 Rows.fnExactNewRegisterRow.domain false) (Rows.fnExactNewRegisterSpec.post enc Try.prog Try.f3 false true false false) := by
  refine returnsInHanded_of_change_shaped (C := Try.checked) own started (by kernel_rfl) Try.func3
    (ChangeSpec.witness6 (enc := enc) (C := Try.checked) false ⟨#[], #[], []⟩ 12 (by kernel_rfl) (by kernel_rfl) (by kernel_rfl) (by kernel_rfl)) ?_
  intro W base args ds gs before hval hW _ _ hSh _
  exact contract H enc W base args ds gs before hval hW hSh
theorem proved : Rows.FnExactNewRegisterSaid :=
  OpenClaim.holds_of_wide 3 Try.f3 rfl rfl rfl rfl rfl rfl rfl ⟨rfl, rfl, rfl, rfl, rfl⟩ rfl rfl rfl rfl rfl (by kernel_rfl) Try.func3 (by kernel_rfl)
    (of_decide_eq_true (by kernel_rfl)) (by unfold Func.isWrapper; first | (rw [if_pos (by decide +kernel)]; kernel_rfl) | (rw [if_neg (by decide +kernel)]; exact ⟨rfl, rfl⟩))
    (fun os started H enc _ => lifted os started H enc)
end Go.Proofs.Ytaageiiodlfeiaa
