import Derived.Test.YtaageiiodlfeiaaM262
set_option maxHeartbeats 4000000
set_option linter.unusedSimpArgs false
set_option linter.unusedVariables false
namespace Go.Proofs.Ytaageiiodlfeiaa
open Go Go.Lite Go.Proofs
def C64 (R : (List UInt8) × (List UInt8) × Bool) : LV × List (Nat × BC) := (.tup [.str R.1, .str R.2.1, .bool R.2.2], [])
def cutS (x0 x1 : List UInt8) : List UInt8 × List UInt8 × Bool := Lib.cut x0 x1
theorem cutS_len (x y : List UInt8) : (cutS x y).1.length ≤ x.length ∧ (cutS x y).2.1.length ≤ x.length := by
  unfold cutS Lib.cut
  split
  · simp only [List.length_take, List.length_drop]; omega
  · exact ⟨Nat.le_refl _, Nat.zero_le _⟩
theorem ok_strings_Cut (x0 : List UInt8) (x1 : List UInt8) (h : x0.length ≤ 1048576 ∧ x1.length ≤ 1048576) : FnT Try.prog 64 [.str x0, .str x1] (C64 (cutS x0 x1)) := by
  refine fn_of_cut args_str2 fun w hg => ?_
  obtain ⟨_, m, hm⟩ := hg
  refine (Try.strings_Cut ⟨x0.toArray⟩ ⟨x1.toArray⟩ m w (by show x0.toArray.size < _; simp; omega) hm).mono fun e w' ⟨he, n, hw⟩ => ⟨he, ?_⟩
  rw [hw]; exact ⟨rfl, rfl, rfl, Nat.le_refl _, fun _ _ => rfl⟩
def k64 (x0 : List UInt8) (x1 : List UInt8) : Cl := (hres (C64 (cutS x0 x1)), k1 (ok_strings_Cut x0 x1))
def C169 (R : Int) : LV × List (Nat × BC) := (.int .i64 R, [])
def idxB (x0 : List UInt8) (x1 : Int) : Int := Lib.indexByte x0 x1.toNat.toUInt8
theorem indexByte_up : ∀ (l : List UInt8) (c : UInt8), Lib.indexByte l c < l.length
  | [], _ => by show (-1 : Int) < 0; decide
  | b :: l, c => by
    have ih := indexByte_up l c
    unfold Lib.indexByte
    split
    · simp only [List.length_cons]; omega
    · split <;> (simp only [List.length_cons]; omega)
theorem idxB_rng (l : List UInt8) (c : Int) : -1 ≤ idxB l c ∧ idxB l c < l.length := ⟨Lib.indexByte_ge _ _, indexByte_up _ _⟩
theorem ok_strings_IndexByte (x0 : List UInt8) (x1 : Int) (h : x0.length ≤ 1048576) : FnT Try.prog 169 [.str x0, .int .u8 x1] (C169 (idxB x0 x1)) := fn_of_int args_strint fun w => Try.strings_IndexByte ⟨x0.toArray⟩ x1 w
def k169 (x0 : List UInt8) (x1 : Int) : Cl := (hres (C169 (idxB x0 x1)), k1 (ok_strings_IndexByte x0 x1))
def C219 (R : Bool) : LV × List (Nat × BC) := (.bool R, [])
def slPre (x0 : List UInt8) (x1 : List UInt8) : Bool := (decide (((x1.length : Nat) : Int) ≤ ((x0.length : Nat) : Int))) && (((x0.drop 0).take (x1.length - 0)) == x1)
def A219 (x0 : List UInt8) (x1 : List UInt8) : Ann := .reg 2 [] [] [4] [] [decide (((x1.length : Nat) : Int) ≤ ((x0.length : Nat) : Int))] [gt (decide (((x1.length : Nat) : Int) ≤ ((x0.length : Nat) : Int))) (pf (0 ≤ (0 : Int) ∧ (0 : Int) ≤ ((x1.length : Nat) : Int) ∧ (((x1.length : Nat) : Int) : Int) ≤ ((x0.length : Nat) : Int)))] [] [1, 1, 1, 0, 1, 1, 1] (rt [] (C219 ((decide (((x1.length : Nat) : Int) ≤ ((x0.length : Nat) : Int))) && (((x0.drop 0).take (x1.length - 0)) == x1))))
theorem ok_stringslite_HasPrefix (x0 : List UInt8) (x1 : List UInt8) (h : x0.length ≤ 1048576 ∧ x1.length ≤ 1048576) : FnT Try.prog 219 [.str x0, .str x1] (C219 (slPre x0 x1)) := by
  have aux : ∀ R, slPre x0 x1 = R → slim (C219 R) (A219 x0 x1) [] := by
    intro R hR
    refine rg ⟨by ((try clear hR); intros; (try simp only [decide_eq_true_eq, decide_eq_false_iff_not, Bool.or_eq_true, Bool.and_eq_true, or_f_iff, not_f_iff, not_t_iff, Bool.not_eq_true', inR] at *); (repeat' apply And.intro) <;> (intros; omega)), trivial⟩ ?_
    exact congrArg C219 hR
  exact Fn.go 18 Try.func219 (by kernel_rfl) (by kernel_rfl) (by simp [C219, Frs, FrsL]) (A219 x0 x1) (by kernel_rfl) (aux _ rfl)
def k219 (x0 : List UInt8) (x1 : List UInt8) : Cl := (hres (C219 (slPre x0 x1)), k1 (ok_stringslite_HasPrefix x0 x1))
def C201 (R : (List UInt8) × Bool) : LV × List (Nat × BC) := (.tup [.str R.1, .bool R.2], [])
def slCutP (x0 : List UInt8) (x1 : List UInt8) : (List UInt8) × Bool := bif (!(slPre x0 x1)) then (x0, false) else ((x0.drop x1.length).take (x0.length - x1.length), true)
def A201 (x0 : List UInt8) (x1 : List UInt8) : Ann := r0 1 [0, 1, 4, 5] [] (.reg 1 [] [(2, k219 x0 x1)] [0, 1, 4, 5, 9] [] [] [] [] [0] (cn (!(slPre x0 x1)) (r0 1 [0, 1, 4, 5] [] (rt [] (C201 (x0, false)))) (r1 1 [4, 5] [] [pf (0 ≤ (((x1.length : Nat) : Int) : Int) ∧ (((x1.length : Nat) : Int) : Int) ≤ ((x0.length : Nat) : Int) ∧ (((x0.length : Nat) : Int) : Int) ≤ ((x0.length : Nat) : Int))] [0] (rt [] (C201 ((x0.drop x1.length).take (x0.length - x1.length), true))))))
theorem ok_stringslite_CutPrefix (x0 : List UInt8) (x1 : List UInt8) (h : x0.length ≤ 1048576 ∧ x1.length ≤ 1048576) : FnT Try.prog 201 [.str x0, .str x1] (C201 (slCutP x0 x1)) := by
  have aux : ∀ R, slCutP x0 x1 = R → slim (C201 R) (A201 x0 x1) [] := by
    intro R hR
    refine rg trivial ?_
    refine rg ⟨by trivial, trivial⟩ ?_
    revert hR; refine cd (fun hc1 hR => ?_) fun hc1 hR => ?_
    ·
      refine rg trivial ?_
      exact congrArg C201 hR
    ·
      refine rg ⟨by (simp only [slPre, Bool.and_eq_true, decide_eq_true_eq, not_f_iff] at *; omega), trivial⟩ ?_
      exact congrArg C201 hR
  exact Fn.go 15 Try.func201 (by kernel_rfl) (by kernel_rfl) (by simp [C201, Frs, FrsL]) (A201 x0 x1) (by kernel_rfl) (aux _ rfl)
def k201 (x0 : List UInt8) (x1 : List UInt8) : Cl := (hres (C201 (slCutP x0 x1)), k1 (ok_stringslite_CutPrefix x0 x1))
def C163 (R : (List UInt8) × Bool) : LV × List (Nat × BC) := (.tup [.str R.1, .bool R.2], [])
def cutP (x0 : List UInt8) (x1 : List UInt8) : (List UInt8) × Bool := ((slCutP x0 x1).1, (slCutP x0 x1).2)
def A163 (x0 : List UInt8) (x1 : List UInt8) : Ann := .reg 2 [] [(1002, k201 x0 x1)] [4, 5] [] [] [] [] [0] (rt [] (C163 ((slCutP x0 x1).1, (slCutP x0 x1).2)))
theorem cutP_len (x y : List UInt8) : (cutP x y).1.length ≤ x.length := by
  unfold cutP slCutP
  dsimp only
  refine cond_both (p := fun (r : List UInt8 × Bool) => r.1.length ≤ x.length) (fun _ => Nat.le_refl _) (fun _ => ?_)
  simp only [List.length_take, List.length_drop]; omega
theorem ok_strings_CutPrefix (x0 : List UInt8) (x1 : List UInt8) (h : x0.length ≤ 1048576 ∧ x1.length ≤ 1048576) : FnT Try.prog 163 [.str x0, .str x1] (C163 (cutP x0 x1)) := by
  have aux : ∀ R, cutP x0 x1 = R → slim (C163 R) (A163 x0 x1) [] := by
    intro R hR
    refine rg ⟨by trivial, trivial⟩ ?_
    exact congrArg C163 hR
  exact Fn.go 11 Try.func163 (by kernel_rfl) (by kernel_rfl) (by simp [C163, Frs, FrsL]) (A163 x0 x1) (by kernel_rfl) (aux _ rfl)
def k163 (x0 : List UInt8) (x1 : List UInt8) : Cl := (hres (C163 (cutP x0 x1)), k1 (ok_strings_CutPrefix x0 x1))
def C220 (R : Bool) : LV × List (Nat × BC) := (.bool R, [])
def slSuf (x0 : List UInt8) (x1 : List UInt8) : Bool := (decide (((x1.length : Nat) : Int) ≤ ((x0.length : Nat) : Int))) && (((x0.drop ((((x0.length : Nat) : Int) - ((x1.length : Nat) : Int)).toNat)).take (x0.length - ((((x0.length : Nat) : Int) - ((x1.length : Nat) : Int)).toNat))) == x1)
def A220 (x0 : List UInt8) (x1 : List UInt8) : Ann := .reg 2 [] [] [4] [] [decide (((x1.length : Nat) : Int) ≤ ((x0.length : Nat) : Int))] [gt (decide (((x1.length : Nat) : Int) ≤ ((x0.length : Nat) : Int))) (pf (inR .i64 (((x0.length : Nat) : Int) - ((x1.length : Nat) : Int)))), gt (decide (((x1.length : Nat) : Int) ≤ ((x0.length : Nat) : Int))) (pf (0 ≤ (((x0.length : Nat) : Int) - ((x1.length : Nat) : Int) : Int) ∧ (((x0.length : Nat) : Int) - ((x1.length : Nat) : Int) : Int) ≤ ((x0.length : Nat) : Int) ∧ (((x0.length : Nat) : Int) : Int) ≤ ((x0.length : Nat) : Int)))] [] [1, 1, 1, 1, 0, 1, 1, 4, 1, 1, 1] (rt [] (C220 ((decide (((x1.length : Nat) : Int) ≤ ((x0.length : Nat) : Int))) && (((x0.drop ((((x0.length : Nat) : Int) - ((x1.length : Nat) : Int)).toNat)).take (x0.length - ((((x0.length : Nat) : Int) - ((x1.length : Nat) : Int)).toNat))) == x1))))
theorem ok_stringslite_HasSuffix (x0 : List UInt8) (x1 : List UInt8) (h : x0.length ≤ 1048576 ∧ x1.length ≤ 1048576) : FnT Try.prog 220 [.str x0, .str x1] (C220 (slSuf x0 x1)) := by
  have aux : ∀ R, slSuf x0 x1 = R → slim (C220 R) (A220 x0 x1) [] := by
    intro R hR
    refine rg ⟨by ( intros; simp only [inR]; omega), by ((try clear hR); intros; (try simp only [decide_eq_true_eq, decide_eq_false_iff_not, Bool.or_eq_true, Bool.and_eq_true, or_f_iff, not_f_iff, not_t_iff, Bool.not_eq_true', inR] at *); (repeat' apply And.intro) <;> (intros; omega)), trivial⟩ ?_
    exact congrArg C220 hR
  exact Fn.go 21 Try.func220 (by kernel_rfl) (by kernel_rfl) (by simp [C220, Frs, FrsL]) (A220 x0 x1) (by kernel_rfl) (aux _ rfl)
def k220 (x0 : List UInt8) (x1 : List UInt8) : Cl := (hres (C220 (slSuf x0 x1)), k1 (ok_stringslite_HasSuffix x0 x1))
def C202 (R : (List UInt8) × Bool) : LV × List (Nat × BC) := (.tup [.str R.1, .bool R.2], [])
def slCutS (x0 : List UInt8) (x1 : List UInt8) : (List UInt8) × Bool := bif (!(slSuf x0 x1)) then (x0, false) else ((x0.drop 0).take (((((x0.length : Nat) : Int) - ((x1.length : Nat) : Int)).toNat) - 0), true)
def A202 (x0 : List UInt8) (x1 : List UInt8) : Ann := r0 1 [0, 1, 4, 5] [] (.reg 1 [] [(2, k220 x0 x1)] [0, 1, 4, 5, 9] [] [] [] [] [0] (cn (!(slSuf x0 x1)) (r0 1 [0, 1, 4, 5] [] (rt [] (C202 (x0, false)))) (r1 1 [4, 5] [] [pf (inR .i64 (((x0.length : Nat) : Int) - ((x1.length : Nat) : Int))), pf (0 ≤ (0 : Int) ∧ (0 : Int) ≤ ((x0.length : Nat) : Int) - ((x1.length : Nat) : Int) ∧ (((x0.length : Nat) : Int) - ((x1.length : Nat) : Int) : Int) ≤ ((x0.length : Nat) : Int))] [0, 4] (rt [] (C202 ((x0.drop 0).take (((((x0.length : Nat) : Int) - ((x1.length : Nat) : Int)).toNat) - 0), true))))))
theorem ok_stringslite_CutSuffix (x0 : List UInt8) (x1 : List UInt8) (h : x0.length ≤ 1048576 ∧ x1.length ≤ 1048576) : FnT Try.prog 202 [.str x0, .str x1] (C202 (slCutS x0 x1)) := by
  have aux : ∀ R, slCutS x0 x1 = R → slim (C202 R) (A202 x0 x1) [] := by
    intro R hR
    refine rg trivial ?_
    refine rg ⟨by trivial, trivial⟩ ?_
    revert hR; refine cd (fun hc1 hR => ?_) fun hc1 hR => ?_
    ·
      refine rg trivial ?_
      exact congrArg C202 hR
    ·
      refine rg ⟨by ( intros; simp only [inR]; omega), by (simp only [slSuf, Bool.and_eq_true, decide_eq_true_eq, not_f_iff] at *; omega), trivial⟩ ?_
      exact congrArg C202 hR
  exact Fn.go 18 Try.func202 (by kernel_rfl) (by kernel_rfl) (by simp [C202, Frs, FrsL]) (A202 x0 x1) (by kernel_rfl) (aux _ rfl)
def k202 (x0 : List UInt8) (x1 : List UInt8) : Cl := (hres (C202 (slCutS x0 x1)), k1 (ok_stringslite_CutSuffix x0 x1))
def C164 (R : (List UInt8) × Bool) : LV × List (Nat × BC) := (.tup [.str R.1, .bool R.2], [])
def cutU (x0 : List UInt8) (x1 : List UInt8) : (List UInt8) × Bool := ((slCutS x0 x1).1, (slCutS x0 x1).2)
def A164 (x0 : List UInt8) (x1 : List UInt8) : Ann := .reg 2 [] [(1002, k202 x0 x1)] [4, 5] [] [] [] [] [0] (rt [] (C164 ((slCutS x0 x1).1, (slCutS x0 x1).2)))
theorem cutU_len (x y : List UInt8) : (cutU x y).1.length ≤ x.length := by
  unfold cutU slCutS
  dsimp only
  refine cond_both (p := fun (r : List UInt8 × Bool) => r.1.length ≤ x.length) (fun _ => Nat.le_refl _) (fun _ => ?_)
  simp only [List.length_take, List.length_drop]; omega
theorem ok_strings_CutSuffix (x0 : List UInt8) (x1 : List UInt8) (h : x0.length ≤ 1048576 ∧ x1.length ≤ 1048576) : FnT Try.prog 164 [.str x0, .str x1] (C164 (cutU x0 x1)) := by
  have aux : ∀ R, cutU x0 x1 = R → slim (C164 R) (A164 x0 x1) [] := by
    intro R hR
    refine rg ⟨by trivial, trivial⟩ ?_
    exact congrArg C164 hR
  exact Fn.go 11 Try.func164 (by kernel_rfl) (by kernel_rfl) (by simp [C164, Frs, FrsL]) (A164 x0 x1) (by kernel_rfl) (aux _ rfl)
def k164 (x0 : List UInt8) (x1 : List UInt8) : Cl := (hres (C164 (cutU x0 x1)), k1 (ok_strings_CutSuffix x0 x1))
def C168 (R : (List UInt8)) : LV × List (Nat × BC) := (.str R, [])
def egoPre (x0 : Int) : (List UInt8) := (([([] : List UInt8), [109, 58], [119, 58]] : List (List UInt8)).getD x0.toNat default)
def A168 (x0 : Int) : Ann := .reg 2 [] [(1000, bsC 3 (cStr) (([([] : List UInt8), [109, 58], [119, 58]] : List (List UInt8)) : List (List UInt8)))] [2] [] [] [pf (0 ≤ (x0 : Int) ∧ (x0 : Int) < ((3 : Nat) : Int))] [] [4, 0] (rt [] (C168 (([([] : List UInt8), [109, 58], [119, 58]] : List (List UInt8)).getD x0.toNat default)))
theorem egoPre_len (x : Int) : (egoPre x).length ≤ 2 := getD_short (n := 2) (by decide) _
theorem ok_impl_egoPrefix (x0 : Int) (h : 0 ≤ x0 ∧ x0 ≤ 2) : FnT Try.prog 168 [.int .i64 x0] (C168 (egoPre x0)) := by
  have aux : ∀ R, egoPre x0 = R → slim (C168 R) (A168 x0) [] := by
    intro R hR
    refine rg ⟨by (intros; omega), trivial, trivial⟩ ?_
    exact congrArg C168 hR
  exact Fn.go 7 Try.func168 (by kernel_rfl) (by kernel_rfl) (by simp [C168, Frs, FrsL]) (A168 x0) (by kernel_rfl) (aux _ rfl)
def k168 (x0 : Int) : Cl := (hres (C168 (egoPre x0)), k1 (ok_impl_egoPrefix x0))
def C117 (R : Int × (List UInt8)) : LV × List (Nat × BC) := (.tup [.int .i64 R.1, .str R.2], [])
def cutEgo (x0 : List UInt8) : Int × (List UInt8) := loopW (fun (v1 : Int) next => bif (decide (v1 ≤ 2)) then (bif ((cutP x0 (egoPre v1)).2) then (v1, (cutP x0 (egoPre v1)).1) else (next (v1 + 1))) else (0, x0)) ((3 - (1 : Int)).toNat + 1) 1
def D117b1 (x0 : List UInt8) (v1 : Int) : Dl := ⟨[(4, .int .i64 v1)], []⟩
def A117b1 (x0 : List UInt8) (v1 : Int) : Ann := r0 1 [0, 2, 3, 4, 8] [] (cn (decide (v1 ≤ 2)) (.reg 2 [] [(2, k168 v1), (3, k163 x0 (egoPre v1))] [0, 2, 3, 4, 5, 18] [] [] [] [] [0, 4] (cn ((cutP x0 (egoPre v1)).2) (r0 1 [0, 2, 3, 4] [] (rt [] (C117 (v1, (cutP x0 (egoPre v1)).1)))) (r1 1 [0, 2, 3, 4] [] [pf (inR .i64 (v1 + 1))] [0] (.next 0 [] (D117b1 x0 (v1 + 1)))))) (r0 1 [2, 3] [] (rt [] (C117 (0, x0)))))
def A117 (x0 : List UInt8) : Ann := r0 1 [0, 2, 3] [] (r0 1 [0, 2, 3, 4] [] (.loop Int (D117b1 x0) [] [] [] (D117b1 x0 1) (A117b1 x0)))
theorem cutEgo_len (s : List UInt8) : (cutEgo s).2.length ≤ s.length := by
  unfold cutEgo
  refine loopW_to (fun (v : Int) => True) (fun v => (3 - v).toNat) (fun (r : Int × List UInt8) => r.2.length ≤ s.length) (fun v next _ hn => ?_) _ _ (by decide) trivial
  refine cond_both (p := fun (r : Int × List UInt8) => r.2.length ≤ s.length) (fun c => ?_) (fun _ => Nat.le_refl _)
  have c := of_decide_eq_true c
  exact cond_both (p := fun (r : Int × List UInt8) => r.2.length ≤ s.length) (fun _ => cutP_len _ _) (fun _ => hn _ trivial (by omega))
theorem ok_impl_cutEgo (x0 : List UInt8) (hx : x0.length ≤ 1048576) : FnT Try.prog 117 [.str x0] (C117 (cutEgo x0)) := by
  have aux : ∀ R, cutEgo x0 = R → slim (C117 R) (A117 x0) [] := by
    intro R hR
    refine rg trivial ?_
    refine rg trivial ?_
    revert hR; refine lW (fun v => 1 ≤ v ∧ v ≤ 3) (fun v => (3 - (v : Int)).toNat) (by (intros; omega)) (Nat.lt_succ_self _) rfl fun m1 v1 F1 hI1 hM1 hR hK1 => ?_
    refine rg trivial ?_
    revert hR; refine cd (fun hc1 hR => ?_) fun hc1 hR => ?_
    ·
      refine rg ⟨by ((have h9 := of_decide_eq_true (by assumption : decide (v1 ≤ 2) = true); (try simp only [inR]); omega)), by ((have h9 := egoPre_len v1; omega)), trivial⟩ ?_
      revert hR; refine cd (fun hc2 hR => ?_) fun hc2 hR => ?_
      ·
        refine rg trivial ?_
        exact congrArg C117 hR
      ·
        refine rg ⟨by ((have h9 := of_decide_eq_true (by assumption : decide (v1 ≤ 2) = true); (try simp only [inR]); omega)), trivial⟩ ?_
        exact hK1 (v1 + 1) (by ((have h9 := of_decide_eq_true (by assumption : decide (v1 ≤ 2) = true); (try simp only [inR]); omega))) (by ((have h9 := of_decide_eq_true (by assumption : decide (v1 ≤ 2) = true); (try simp only [inR]); omega))) hR
    ·
      refine rg trivial ?_
      exact congrArg C117 hR
  exact Fn.go 22 Try.func117 (by kernel_rfl) (by kernel_rfl) (by simp [C117, Frs, FrsL]) (A117 x0) (by kernel_rfl) (aux _ rfl)
def k117 (x0 : List UInt8) : Cl := (hres (C117 (cutEgo x0)), k1 (ok_impl_cutEgo x0))
end Go.Proofs.Ytaageiiodlfeiaa
