import Derived.Test.YtkkijpibajigfaaM103
set_option maxHeartbeats 4000000
set_option linter.unusedSimpArgs false
set_option linter.unusedVariables false
namespace Go.Proofs.Ytkkijpibajigfaa
open Go Go.Lite Go.Proofs
def C142 (R : Family) : LV × List (Nat × BC) := (.agg [.own 0, .own 1], [(0, .arr 6 R.people.length (rowOf (cPerson true) R.people)), (1, .arr 4 R.unions.length (rowOf (cUnion true) R.unions))])
def l1Copy (x0 : Family) : Family := x0
def A142 (x0 : Family) : Ann := .reg 5 [] [(2004, apN 9 (cPerson true) 56 x0.people), (3004, apN 15 (cUnion true) 32 x0.unions)] [2] [2, 9, 15] [] [] [] [0, 4] (rt [(0, some 9), (1, some 15)] (C142 x0))
theorem ok_spec_l1Copy (x0 : Family) (hx : x0.people.length ≤ 1048576) (hu : x0.unions.length ≤ 1048576) : FnT Try.prog 142 [.agg (cFamily false x0)] (C142 (l1Copy x0)) := by
  have aux : ∀ R, l1Copy x0 = R → slim (C142 R) (A142 x0) [] := by
    intro R hR
    refine rg ⟨by omega, by omega, trivial⟩ ?_
    exact congrArg C142 hR
  exact Fn.go 18 Try.func142 (by kernel_rfl) (by kernel_rfl) (by simp [C142, Frs, FrsL, FrsB, rowOf, cInt, cBool, cStr, cSl, FrsL_app, cPerson, cUnion, cFamily, cLaw]) (A142 x0) (by kernel_rfl) (aux _ rfl)
def k142 (x0 : Family) : Cl := (hres (C142 (l1Copy x0)), k2 (ok_spec_l1Copy x0))
structure l01Cur where
  b : List Int
  i : Int
  h : Int
  deriving Inhabited
def cl01Cur (fr : Bool) (x : l01Cur) : List LV := cSl fr 1 (cInt .u8) x.b ++ cInt .i64 x.i ++ cInt .i64 x.h

/-- A cursor over a draw. -/
structure CurOk (c : l01Cur) : Prop where
  byte : ∀ y ∈ c.b, 0 ≤ y ∧ y ≤ 255
  len : c.b.length ≤ 1048576
  pos : 0 ≤ c.i ∧ c.i ≤ c.b.length
  num : inR .i64 c.h
theorem CurOk.mk' {c : l01Cur} (h : CurOk c) {i x : Int} (hi : 0 ≤ i ∧ i ≤ c.b.length) (hx : inR .i64 x) : CurOk ⟨c.b, i, x⟩ := ⟨h.byte, h.len, hi, hx⟩
def C58 (x0 : List Int) (R : l01Cur) : LV × List (Nat × BC) := (.vp 0 0, [(0, .var [.ro false 1 R.b.length (rowOf (cInt .u8) R.b), .int .i64 R.i, .int .i64 R.h])])
def l01New (x0 : List Int) : l01Cur := loopW (fun (v1 : Int × Int) next => bif ((decide (v1.2 < ((x0.length : Nat) : Int))) && (decide (v1.2 < 4000))) then (next (bits .and .i64 (((v1.1 * 1103) + (x0.getD v1.2.toNat default)) + 7) 1073741823, v1.2 + 1)) else (l01Cur.mk x0 0 v1.1)) ((4000 - Int.toNat (0)) + 1) (3221 + ((x0.length : Nat) : Int), 0)
def D58b1 (x0 : List Int) (v1 : Int × Int) : Dl := ⟨[(3, .int .i64 v1.1), (4, .int .i64 v1.2)], []⟩
def A58b1 (x0 : List Int) (v1 : Int × Int) : Ann := .reg 1 [] [] [0, 2, 3, 4, 15] [] [decide (v1.2 < ((x0.length : Nat) : Int))] [] [] [1, 1] (cn ((decide (v1.2 < ((x0.length : Nat) : Int))) && (decide (v1.2 < 4000))) (r1 1 [0, 2, 3, 4] [] [pf (inR .i64 (v1.1 * 1103)), pf (0 ≤ (v1.2 : Int) ∧ (v1.2 : Int) < ((x0.length : Nat) : Int)), pf (inR .i64 (x0.getD v1.2.toNat default)), pf (inR .i64 ((v1.1 * 1103) + (x0.getD v1.2.toNat default))), pf (inR .i64 (((v1.1 * 1103) + (x0.getD v1.2.toNat default)) + 7))] [0, 4, 8, 12, 16] (r1 1 [0, 2, 3, 4] [] [pf (inR .i64 (v1.2 + 1))] [0] (.next 0 [] (D58b1 x0 (bits .and .i64 (((v1.1 * 1103) + (x0.getD v1.2.toNat default)) + 7) 1073741823, v1.2 + 1))))) (r0 1 [2] [31] (rt [(0, some 31)] (C58 x0 (l01Cur.mk x0 0 v1.1)))))
def A58 (x0 : List Int) : Ann := r1 2 [0, 2, 3] [] [pf (inR .i64 (3221 + ((x0.length : Nat) : Int)))] [0] (r0 1 [0, 2, 3, 4] [] (.loop (Int × Int) (D58b1 x0) [] [] [] (D58b1 x0 (3221 + ((x0.length : Nat) : Int), 0)) (A58b1 x0)))
theorem ok_spec_l01New (x0 : List Int) (hx : x0.length ≤ 1048576) (hb : ∀ y ∈ x0, 0 ≤ y ∧ y ≤ 255) : FnMT Try.prog 58 [.ro false 1 x0.length (rowOf (cInt .u8) x0)] [] (C58 x0 (l01New x0)) := by
  have aux : ∀ R, l01New x0 = R → slim (C58 x0 R) (A58 x0) [] := by
    intro R hR
    refine rg ⟨by ( intros; simp only [inR]; omega), trivial⟩ ?_
    refine rg trivial ?_
    revert hR; refine lW (fun v => (0 ≤ v.2 ∧ v.2 ≤ x0.length ∧ v.2 ≤ 4000) ∧ 0 ≤ v.1 ∧ v.1 ≤ 1073741823) (fun v => (4000 - Int.toNat (v.2))) (by (intros; omega)) (Nat.lt_succ_self _) rfl fun m1 v1 F1 hI1 hM1 hR hK1 => ?_
    refine rg trivial ?_
    revert hR; refine cd (fun hc1 hR => ?_) fun hc1 hR => ?_
    ·
      refine rg ⟨by ( intros; simp only [inR]; omega), by (have h9 := and_small (((v1.1 * 1103) + (x0.getD v1.2.toNat default)) + 7) 1073741823 1073741823 rfl (by omega); simp only [Bool.and_eq_true, decide_eq_true_eq] at *; omega), by (have h9 := getD_byte hb v1.2.toNat; (try simp only [inR]); omega), by (have h9 := getD_byte hb v1.2.toNat; (try simp only [inR]); omega), by (have h9 := getD_byte hb v1.2.toNat; (try simp only [inR]); omega), trivial⟩ ?_
      refine rg ⟨by ( intros; simp only [inR]; omega), trivial⟩ ?_
      exact hK1 (bits .and .i64 (((v1.1 * 1103) + (x0.getD v1.2.toNat default)) + 7) 1073741823, v1.2 + 1) (by (have h9 := and_small (((v1.1 * 1103) + (x0.getD v1.2.toNat default)) + 7) 1073741823 1073741823 rfl (by omega); simp only [Bool.and_eq_true, decide_eq_true_eq] at *; omega)) (by (have h9 := and_small (((v1.1 * 1103) + (x0.getD v1.2.toNat default)) + 7) 1073741823 1073741823 rfl (by omega); simp only [Bool.and_eq_true, decide_eq_true_eq] at *; omega)) hR
    ·
      refine rg trivial ?_
      exact congrArg (C58 x0) hR
  exact FnM.go 32 Try.func58 (by kernel_rfl) (by kernel_rfl) (A58 x0) (by kernel_rfl) (aux _ rfl)
def k58 (d : Nat) (ids : List Nat) (x0 : List Int) : Cl := (hresM d ids (C58 x0 (l01New x0)), k2 (ok_spec_l01New x0))
def C140 (x0 : l01Cur) (R : Int × Int × Int) : LV × List (Nat × BC) := (.int .i64 R.1, [(900000, .var [.ro false 1 x0.b.length (rowOf (cInt .u8) x0.b), .int .i64 R.2.1, .int .i64 R.2.2])])
def l01Byte (x0 : l01Cur) : Int × Int × Int := bif (decide (x0.i < ((x0.b.length : Nat) : Int))) then (bits .and .i64 ((bits .and .i64 (bits .xor .i64 ((IntKind.wrap .i64 ((IntKind.wrap .i64 (x0.h * 6364136223846793005)) + 1442695040888963407)) / 2 ^ 33) ((IntKind.wrap .i64 ((IntKind.wrap .i64 (x0.h * 6364136223846793005)) + 1442695040888963407)) / 2 ^ 45)) 255) + (IntKind.wrap .i64 (x0.b.getD x0.i.toNat default))) 255, x0.i + 1, IntKind.wrap .i64 ((IntKind.wrap .i64 (x0.h * 6364136223846793005)) + 1442695040888963407)) else (bits .and .i64 (bits .xor .i64 ((IntKind.wrap .i64 ((IntKind.wrap .i64 (x0.h * 6364136223846793005)) + 1442695040888963407)) / 2 ^ 33) ((IntKind.wrap .i64 ((IntKind.wrap .i64 (x0.h * 6364136223846793005)) + 1442695040888963407)) / 2 ^ 45)) 255, x0.i, IntKind.wrap .i64 ((IntKind.wrap .i64 (x0.h * 6364136223846793005)) + 1442695040888963407))
def A140 (x0 : l01Cur) : Ann := .reg 3 [(1005, .wrap), (1006, .wrap)] [] [0, 2, 3] [900000] [] [pf (0 ≤ (33 : Int) ∧ 33 ≤ (IntKind.bits .i64 : Int)), pf (0 ≤ (45 : Int) ∧ 45 ≤ (IntKind.bits .i64 : Int))] [] [0, 4] (r0 1 [0, 2, 3, 34] [900000] (cn (decide (x0.i < ((x0.b.length : Nat) : Int))) (.reg 1 [(11, .wrap)] [] [0, 2, 3] [900000] [] [pf (0 ≤ (x0.i : Int) ∧ (x0.i : Int) < ((x0.b.length : Nat) : Int)), pf (inR .i64 ((bits .and .i64 (bits .xor .i64 ((IntKind.wrap .i64 ((IntKind.wrap .i64 (x0.h * 6364136223846793005)) + 1442695040888963407)) / 2 ^ 33) ((IntKind.wrap .i64 ((IntKind.wrap .i64 (x0.h * 6364136223846793005)) + 1442695040888963407)) / 2 ^ 45)) 255) + (IntKind.wrap .i64 (x0.b.getD x0.i.toNat default))))] [] [0, 4] (r1 1 [2, 3] [900000] [pf (inR .i64 (x0.i + 1))] [0] (r0 1 [2] [900000] (rt [(900000, some 900000)] (C140 x0 (bits .and .i64 ((bits .and .i64 (bits .xor .i64 ((IntKind.wrap .i64 ((IntKind.wrap .i64 (x0.h * 6364136223846793005)) + 1442695040888963407)) / 2 ^ 33) ((IntKind.wrap .i64 ((IntKind.wrap .i64 (x0.h * 6364136223846793005)) + 1442695040888963407)) / 2 ^ 45)) 255) + (IntKind.wrap .i64 (x0.b.getD x0.i.toNat default))) 255, x0.i + 1, IntKind.wrap .i64 ((IntKind.wrap .i64 (x0.h * 6364136223846793005)) + 1442695040888963407))))))) (r0 1 [2] [900000] (rt [(900000, some 900000)] (C140 x0 (bits .and .i64 (bits .xor .i64 ((IntKind.wrap .i64 ((IntKind.wrap .i64 (x0.h * 6364136223846793005)) + 1442695040888963407)) / 2 ^ 33) ((IntKind.wrap .i64 ((IntKind.wrap .i64 (x0.h * 6364136223846793005)) + 1442695040888963407)) / 2 ^ 45)) 255, x0.i, IntKind.wrap .i64 ((IntKind.wrap .i64 (x0.h * 6364136223846793005)) + 1442695040888963407)))))))
theorem ok_spec_l01Byte (x0 : l01Cur) (hc : CurOk x0) : FnMT Try.prog 140 [.vp 900000 0] [.var [.ro false 1 x0.b.length (rowOf (cInt .u8) x0.b), .int .i64 x0.i, .int .i64 x0.h]] (C140 x0 (l01Byte x0)) := by
  have aux : ∀ R, l01Byte x0 = R → slim (C140 x0 R) (A140 x0) [] := by
    intro R hR
    refine rg ⟨by trivial, by trivial, trivial⟩ ?_
    refine rg trivial ?_
    revert hR; refine cd (fun hc1 hR => ?_) fun hc1 hR => ?_
    ·
      refine rg ⟨by (have h9 := hc.pos; have h8 := hc.len; (try simp only [inR, decide_eq_true_eq] at *); omega), by (have h9 := and_small (bits .xor .i64 ((IntKind.wrap .i64 ((IntKind.wrap .i64 (x0.h * 6364136223846793005)) + 1442695040888963407)) / 2 ^ 33) ((IntKind.wrap .i64 ((IntKind.wrap .i64 (x0.h * 6364136223846793005)) + 1442695040888963407)) / 2 ^ 45)) 255 255 rfl (by omega); have h8 := getD_byte hc.byte x0.i.toNat; have h7 := wrap_small (n := x0.b.getD x0.i.toNat default) (by omega); simp only [inR]; omega), trivial⟩ ?_
      refine rg ⟨by (have h9 := hc.pos; have h8 := hc.len; (try simp only [inR, decide_eq_true_eq] at *); omega), trivial⟩ ?_
      refine rg trivial ?_
      exact congrArg (C140 x0) hR
    ·
      refine rg trivial ?_
      exact congrArg (C140 x0) hR
  exact FnM.go 58 Try.func140 (by kernel_rfl) (by kernel_rfl) (A140 x0) (by kernel_rfl) (aux _ rfl)
def k140 (d : Nat) (ids : List Nat) (x0 : l01Cur) : Cl := (hresM d ids (C140 x0 (l01Byte x0)), k1 (ok_spec_l01Byte x0))
theorem byte_bd (x : Int) : 0 ≤ bits .and .i64 x 255 ∧ bits .and .i64 x 255 ≤ 255 := and_small x 255 255 rfl (by omega)
theorem l01Byte_ok {c : l01Cur} (h : CurOk c) : (0 ≤ (l01Byte c).1 ∧ (l01Byte c).1 ≤ 255) ∧ CurOk ⟨c.b, (l01Byte c).2.1, (l01Byte c).2.2⟩ := by
  unfold l01Byte
  refine cond_both (p := fun (r : Int × Int × Int) => (0 ≤ r.1 ∧ r.1 ≤ 255) ∧ CurOk ⟨c.b, r.2.1, r.2.2⟩) (fun c1 => ⟨byte_bd _, h.mk' ?_ (wrap_inR _)⟩) (fun _ => ⟨byte_bd _, h.mk' h.pos (wrap_inR _)⟩)
  have := h.pos; have := of_decide_eq_true c1
  simp only; omega
end Go.Proofs.Ytkkijpibajigfaa
