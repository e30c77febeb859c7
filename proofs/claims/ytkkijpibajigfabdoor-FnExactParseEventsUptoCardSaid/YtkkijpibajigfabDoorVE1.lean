import Derived.Test.YtkkijpibajigfabDoorShB
set_option maxHeartbeats 4000000
set_option linter.unusedSimpArgs false
set_option linter.unusedVariables false
namespace Go.Proofs.YtkkijpibajigfabDoor
open Go Go.Lite Go.Proofs
def C21 (R : (List UInt8)) : LV × List (Nat × BC) := (.str R, [])
def itoa (x0 : Int) : List UInt8 := Lib.decDigits x0.toNat
theorem tab_of_gh {w : World} (h : GH w) : Lib.TabIs Tryd.prog w "internal/strconv.uint64pow10" .u64 Lib.pow10Tab := by
  obtain ⟨_, ⟨t, f, hb⟩, _⟩ := h
  unfold Lib.TabIs World.var?
  rw [show Tryd.prog.globalNamed "internal/strconv.uint64pow10" = some 0 by kernel_rfl]
  simp only [Option.bind_some, hb]
  rfl
theorem itoa_len4 {n : Int} (h : n ≤ 9999) : (itoa n).length ≤ 4 := by
  have two : ∀ k : Nat, k < 100 → (Lib.decDigits k).length ≤ 2 := fun k hk => by
    by_cases c : k < 10
    · rw [Lib.decDigits_one c]; exact Nat.le_succ 1
    · rw [Lib.decDigits_two c hk]; exact Nat.le_refl 2
  unfold itoa
  generalize hk : n.toNat = k
  have hk2 : k ≤ 9999 := by omega
  by_cases c : k < 10
  · rw [Lib.decDigits_one c]; simp
  · rw [Lib.decDigits, dif_neg c, List.length_append]
    by_cases c2 : k / 10 < 10
    · rw [Lib.decDigits_one c2]; simp
    · rw [Lib.decDigits, dif_neg c2, List.length_append]
      have := two (k / 10 / 10) (by omega)
      simp only [List.length_cons, List.length_nil]; omega
theorem ok_strconv_Itoa (x0 : Int) (h : 0 ≤ x0 ∧ x0 ≤ 9999) : FnT Tryd.prog 21 [.int .i64 x0] (C21 (itoa x0)) := by
  obtain ⟨n, rfl⟩ := Int.eq_ofNat_of_zero_le h.1
  refine Fn.of_strB args_int fun w hg => ?_
  refine (Tryd.strconv_Itoa (n : Int) (by omega) (by omega) w (tab_of_gh hg)).mono fun e w' ⟨he, k, os, hw⟩ => ⟨?_, ?_⟩
  · rw [he, Lib.itoa_nonneg]; rfl
  · rw [hw]; exact Lib.below_grow _ _ (Nat.le_refl _) _ _
def k21 (x0 : Int) : Cl := (hres (C21 (itoa x0)), k1 (ok_strconv_Itoa x0))
def C16 (R : (List UInt8)) : LV × List (Nat × BC) := (.str R, [])
def l1Number (x0 : Int) : (List UInt8) := loopW (fun (v1 : Int × (List UInt8)) next => bif (decide (0 < v1.1)) then (next (v1.1.tdiv 10, (List.map Lite.byteOf ([48 + (v1.1.tmod 10)] : List Int)) ++ v1.2)) else v1.2) ((x0.tdiv 10).toNat + 1) (x0.tdiv 10, List.map Lite.byteOf ([48 + (x0.tmod 10)] : List Int))
def D16b1 (x0 : Int) (v1 : Int × (List UInt8)) : Dl := ⟨[(0, .int .i64 v1.1), (3, .str v1.2)], []⟩
def A16b1 (x0 : Int) (v1 : Int × (List UInt8)) : Ann := r0 1 [0, 2, 3, 13] [] (cn (decide (0 < v1.1)) (.reg 1 [(5, .ints ([48 + (v1.1.tmod 10)] : List Int))] [(4, bsC 20 (cInt .u8) ([48 + (v1.1.tmod 10)] : List Int))] [0, 2, 3] [] [] [pf ((10 : Int) ≠ 0), pf (inR .i64 (48 + (v1.1.tmod 10))), pf (inR .u8 (48 + (v1.1.tmod 10))), pf ((((List.map Lite.byteOf ([48 + (v1.1.tmod 10)] : List Int)).length + v1.2.length : Nat) : Int) ≤ 9223372036854775807)] [zf (P := 1 = ([48 + (v1.1.tmod 10)] : List Int).length ∧ ∀ k, k < 1 → (rowOf (cInt .u8) [48 + (v1.1.tmod 10)]) k = [.int .u8 (([48 + (v1.1.tmod 10)] : List Int).getD k default)]) (⟨by first | rfl | simp, fun _ _ => rfl⟩)] [0, 4, 8, 16, 3, 12] (r1 1 [0, 2, 3] [] [pf ((10 : Int) ≠ 0), pf (inR .i64 (v1.1.tdiv 10))] [0, 4] (.next 0 [] (D16b1 x0 (v1.1.tdiv 10, (List.map Lite.byteOf ([48 + (v1.1.tmod 10)] : List Int)) ++ v1.2))))) (r0 1 [2] [] (rt [] (C16 v1.2))))
def A16 (x0 : Int) : Ann := .reg 2 [(1005, .ints ([48 + (x0.tmod 10)] : List Int))] [(1004, bsC 8 (cInt .u8) ([48 + (x0.tmod 10)] : List Int))] [0, 2, 3] [] [] [pf ((10 : Int) ≠ 0), pf (inR .i64 (48 + (x0.tmod 10))), pf (inR .u8 (48 + (x0.tmod 10)))] [zf (P := 1 = ([48 + (x0.tmod 10)] : List Int).length ∧ ∀ k, k < 1 → (rowOf (cInt .u8) [48 + (x0.tmod 10)]) k = [.int .u8 (([48 + (x0.tmod 10)] : List Int).getD k default)]) (⟨by first | rfl | simp, fun _ _ => rfl⟩)] [0, 4, 8, 12, 3] (r1 1 [0, 2, 3] [] [pf ((10 : Int) ≠ 0), pf (inR .i64 (x0.tdiv 10))] [0, 4] (.loop (Int × (List UInt8)) (D16b1 x0) [] [] [] (D16b1 x0 (x0.tdiv 10, List.map Lite.byteOf ([48 + (x0.tmod 10)] : List Int))) (A16b1 x0)))
theorem number_go : ∀ (m : Nat) (k : Nat) (s : List UInt8), k < m → loopW (fun (v1 : Int × (List UInt8)) next => bif (decide (0 < v1.1)) then (next (v1.1.tdiv 10, (List.map Lite.byteOf ([48 + (v1.1.tmod 10)] : List Int)) ++ v1.2)) else v1.2) m (((k : Nat) : Int), s) = (if k = 0 then [] else Lib.decDigits k) ++ s
  | 0, k, s, h => absurd h (Nat.not_lt_zero _)
  | m + 1, k, s, h => by
    rw [loopW]
    dsimp only
    by_cases c : k = 0
    · subst c; rfl
    · rw [decide_eq_true (by omega), cond_true, if_neg c]
      have e1 : ((k : Nat) : Int).tdiv 10 = ((k / 10 : Nat) : Int) := by rw [Int.tdiv_eq_ediv_of_nonneg (by omega)]; omega
      have e2 : ((k : Nat) : Int).tmod 10 = ((k % 10 : Nat) : Int) := by rw [Int.tmod_eq_emod_of_nonneg (by omega)]; omega
      rw [e1, e2, number_go m (k / 10) _ (by omega)]
      have e3 : List.map Lite.byteOf [48 + ((k % 10 : Nat) : Int)] = [UInt8.ofNat (48 + k % 10)] := by
        have : (48 + ((k % 10 : Nat) : Int)).toNat = 48 + k % 10 := by omega
        simp only [List.map_cons, List.map_nil, Lite.byteOf, this]
      rw [e3]
      by_cases c1 : k < 10
      · have e4 : k / 10 = 0 := by omega
        have e5 : k % 10 = k := by omega
        rw [if_pos e4, e5, Lib.decDigits_one c1]; rfl
      · rw [if_neg (by omega)]
        have e6 : Lib.decDigits k = Lib.decDigits (k / 10) ++ [UInt8.ofNat (48 + k % 10)] := by rw [Lib.decDigits, dif_neg c1]
        rw [e6, List.append_assoc]
theorem number_eq {n : Int} (h : 0 ≤ n) : l1Number n = itoa n := by
  obtain ⟨k, rfl⟩ := Int.eq_ofNat_of_zero_le h
  unfold l1Number itoa
  have e1 : ((k : Nat) : Int).tdiv 10 = ((k / 10 : Nat) : Int) := by rw [Int.tdiv_eq_ediv_of_nonneg (by omega)]; omega
  have e2 : ((k : Nat) : Int).tmod 10 = ((k % 10 : Nat) : Int) := by rw [Int.tmod_eq_emod_of_nonneg (by omega)]; omega
  rw [e1, e2, number_go _ _ _ (by omega)]
  have e3 : List.map Lite.byteOf [48 + ((k % 10 : Nat) : Int)] = [UInt8.ofNat (48 + k % 10)] := by
    have : (48 + ((k % 10 : Nat) : Int)).toNat = 48 + k % 10 := by omega
    simp only [List.map_cons, List.map_nil, Lite.byteOf, this]
  rw [e3, Int.toNat_natCast]
  by_cases c1 : k < 10
  · have e4 : k / 10 = 0 := by omega
    have e5 : k % 10 = k := by omega
    rw [if_pos e4, e5, Lib.decDigits_one c1]; rfl
  · rw [if_neg (by omega)]
    have e6 : Lib.decDigits k = Lib.decDigits (k / 10) ++ [UInt8.ofNat (48 + k % 10)] := by rw [Lib.decDigits, dif_neg c1]
    rw [e6]
theorem ok_spec_l1Number (x0 : Int) (h : 0 ≤ x0 ∧ x0 ≤ 9999) : FnT Tryd.prog 16 [.int .i64 x0] (C16 (l1Number x0)) := by
  have aux : ∀ R, l1Number x0 = R → slim (C16 R) (A16 x0) [] := by
    intro R hR
    refine rg ⟨by trivial, by ((try have h9 := of_decide_eq_true hc1); (try simp only [inR, List.length_append, List.length_map, List.length_cons, List.length_nil]); (try rw [Int.tdiv_eq_ediv_of_nonneg (by omega)]); (try rw [Int.tmod_eq_emod_of_nonneg (by omega)]); omega), by ((try have h9 := of_decide_eq_true hc1); (try simp only [inR, List.length_append, List.length_map, List.length_cons, List.length_nil]); (try rw [Int.tdiv_eq_ediv_of_nonneg (by omega)]); (try rw [Int.tmod_eq_emod_of_nonneg (by omega)]); omega), trivial, trivial⟩ ?_
    refine rg ⟨by trivial, by ((try have h9 := of_decide_eq_true hc1); (try simp only [inR, List.length_append, List.length_map, List.length_cons, List.length_nil]); (try rw [Int.tdiv_eq_ediv_of_nonneg (by omega)]); (try rw [Int.tmod_eq_emod_of_nonneg (by omega)]); omega), trivial⟩ ?_
    revert hR; refine lW (fun v => (0 ≤ v.1 ∧ v.1 ≤ 9999) ∧ v.2.length + (v.1).toNat ≤ 10001) (fun v => (v.1).toNat) (by ((try have h9 := of_decide_eq_true hc1); (try simp only [inR, List.length_append, List.length_map, List.length_cons, List.length_nil]); (try rw [Int.tdiv_eq_ediv_of_nonneg (by omega)]); (try rw [Int.tmod_eq_emod_of_nonneg (by omega)]); omega)) (Nat.lt_succ_self _) rfl fun m1 v1 F1 hI1 hM1 hR hK1 => ?_
    refine rg trivial ?_
    revert hR; refine cd (fun hc1 hR => ?_) fun hc1 hR => ?_
    ·
      refine rg ⟨by trivial, by ((try have h9 := of_decide_eq_true hc1); (try simp only [inR, List.length_append, List.length_map, List.length_cons, List.length_nil]); (try rw [Int.tdiv_eq_ediv_of_nonneg (by omega)]); (try rw [Int.tmod_eq_emod_of_nonneg (by omega)]); omega), by ((try have h9 := of_decide_eq_true hc1); (try simp only [inR, List.length_append, List.length_map, List.length_cons, List.length_nil]); (try rw [Int.tdiv_eq_ediv_of_nonneg (by omega)]); (try rw [Int.tmod_eq_emod_of_nonneg (by omega)]); omega), by ((try have h9 := of_decide_eq_true hc1); (try simp only [inR, List.length_append, List.length_map, List.length_cons, List.length_nil]); (try rw [Int.tdiv_eq_ediv_of_nonneg (by omega)]); (try rw [Int.tmod_eq_emod_of_nonneg (by omega)]); omega), trivial, trivial⟩ ?_
      refine rg ⟨by trivial, by ((try have h9 := of_decide_eq_true hc1); (try simp only [inR, List.length_append, List.length_map, List.length_cons, List.length_nil]); (try rw [Int.tdiv_eq_ediv_of_nonneg (by omega)]); (try rw [Int.tmod_eq_emod_of_nonneg (by omega)]); omega), trivial⟩ ?_
      exact hK1 (v1.1.tdiv 10, (List.map Lite.byteOf ([48 + (v1.1.tmod 10)] : List Int)) ++ v1.2) (by ((try have h9 := of_decide_eq_true hc1); (try simp only [inR, List.length_append, List.length_map, List.length_cons, List.length_nil]); (try rw [Int.tdiv_eq_ediv_of_nonneg (by omega)]); (try rw [Int.tmod_eq_emod_of_nonneg (by omega)]); omega)) (by ((try have h9 := of_decide_eq_true hc1); (try simp only [inR, List.length_append, List.length_map, List.length_cons, List.length_nil]); (try rw [Int.tdiv_eq_ediv_of_nonneg (by omega)]); (try rw [Int.tmod_eq_emod_of_nonneg (by omega)]); omega)) hR
    ·
      refine rg trivial ?_
      exact congrArg C16 hR
  exact Fn.go 25 Tryd.func16 (by kernel_rfl) (by kernel_rfl) (by simp [C16, Frs, FrsL]) (A16 x0) (by kernel_rfl) (aux _ rfl)
def k16 (x0 : Int) : Cl := (hres (C16 (l1Number x0)), k1 (ok_spec_l1Number x0))
def C22 (R : (List UInt8)) : LV × List (Nat × BC) := (.str R, [])
def sexWord (x0 : Int) : (List UInt8) := bif (decide (x0 = 1)) then [109, 97, 110] else [119, 111, 109, 97, 110]
def A22 (x0 : Int) : Ann := r0 1 [0, 2] [] (r0 1 [2, 4] [] (cn (decide (x0 = 1)) (r0 1 [2] [] (rt [] (C22 [109, 97, 110]))) (r0 1 [2] [] (rt [] (C22 [119, 111, 109, 97, 110])))))
theorem ok_impl_sexWord (x0 : Int) : FnT Tryd.prog 22 [.int .i64 x0] (C22 (sexWord x0)) := by
  have aux : ∀ R, sexWord x0 = R → slim (C22 R) (A22 x0) [] := by
    intro R hR
    refine rg trivial ?_
    refine rg trivial ?_
    revert hR; refine cd (fun hc1 hR => ?_) fun hc1 hR => ?_
    ·
      refine rg trivial ?_
      exact congrArg C22 hR
    ·
      refine rg trivial ?_
      exact congrArg C22 hR
  exact Fn.go 5 Tryd.func22 (by kernel_rfl) (by kernel_rfl) (by simp [C22, Frs, FrsL]) (A22 x0) (by kernel_rfl) (aux _ rfl)
def k22 (x0 : Int) : Cl := (hres (C22 (sexWord x0)), k0 (ok_impl_sexWord x0))
def C23 (R : (List UInt8)) : LV × List (Nat × BC) := (.str R, [])
def nameText (x0 : Family) (x1 : Int) : (List UInt8) := bif (decide (x1 < 0)) then [45] else ((x0.people.getD x1.toNat default).name)
def A23 (x0 : Family) (x1 : Int) : Ann := r0 1 [1, 2, 4] [2] (r0 1 [1, 2, 4, 6] [2] (cn (decide (x1 < 0)) (r0 1 [1, 2, 4] [2] (rt [] (C23 [45]))) (r1 1 [4] [] [pf (0 ≤ (x1 : Int) ∧ (x1 : Int) < ((x0.people.length : Nat) : Int))] [0] (rt [] (C23 ((x0.people.getD x1.toNat default).name))))))
theorem ok_impl_nameText (x0 : Family) (x1 : Int) (hi : x1 < x0.people.length) : FnT Tryd.prog 23 [.agg (cFamily false x0), .int .i64 x1] (C23 (nameText x0 x1)) := by
  have aux : ∀ R, nameText x0 x1 = R → slim (C23 R) (A23 x0 x1) [] := by
    intro R hR
    refine rg trivial ?_
    refine rg trivial ?_
    revert hR; refine cd (fun hc1 hR => ?_) fun hc1 hR => ?_
    ·
      refine rg trivial ?_
      exact congrArg C23 hR
    ·
      refine rg ⟨by ((try clear hR); intros; (try simp only [decide_eq_true_eq, decide_eq_false_iff_not, Bool.or_eq_true, Bool.and_eq_true, or_f_iff, not_f_iff, not_t_iff, Bool.not_eq_true', inR] at *); (repeat' apply And.intro) <;> (intros; omega)), trivial⟩ ?_
      exact congrArg C23 hR
  exact Fn.go 13 Tryd.func23 (by kernel_rfl) (by kernel_rfl) (by simp [C23, Frs, FrsL]) (A23 x0 x1) (by kernel_rfl) (aux _ rfl)
def k23 (x0 : Family) (x1 : Int) : Cl := (hres (C23 (nameText x0 x1)), k1 (ok_impl_nameText x0 x1))
def C17 (R : (List UInt8)) : LV × List (Nat × BC) := (.str R, [])
def l1NameOf (x0 : Family) (x1 : Int) : (List UInt8) := bif (decide (x1 < 0)) then [45] else ((x0.people.getD x1.toNat default).name)
def A17 (x0 : Family) (x1 : Int) : Ann := r0 1 [1, 2, 4] [2] (r0 1 [1, 2, 4, 6] [2] (cn (decide (x1 < 0)) (r0 1 [1, 2, 4] [2] (rt [] (C17 [45]))) (r1 1 [4] [] [pf (0 ≤ (x1 : Int) ∧ (x1 : Int) < ((x0.people.length : Nat) : Int))] [0] (rt [] (C17 ((x0.people.getD x1.toNat default).name))))))
theorem ok_spec_l1NameOf (x0 : Family) (x1 : Int) (hi : x1 < x0.people.length) : FnT Tryd.prog 17 [.agg (cFamily false x0), .int .i64 x1] (C17 (l1NameOf x0 x1)) := by
  have aux : ∀ R, l1NameOf x0 x1 = R → slim (C17 R) (A17 x0 x1) [] := by
    intro R hR
    refine rg trivial ?_
    refine rg trivial ?_
    revert hR; refine cd (fun hc1 hR => ?_) fun hc1 hR => ?_
    ·
      refine rg trivial ?_
      exact congrArg C17 hR
    ·
      refine rg ⟨by ((try clear hR); intros; (try simp only [decide_eq_true_eq, decide_eq_false_iff_not, Bool.or_eq_true, Bool.and_eq_true, or_f_iff, not_f_iff, not_t_iff, Bool.not_eq_true', inR] at *); (repeat' apply And.intro) <;> (intros; omega)), trivial⟩ ?_
      exact congrArg C17 hR
  exact Fn.go 13 Tryd.func17 (by kernel_rfl) (by kernel_rfl) (by simp [C17, Frs, FrsL]) (A17 x0 x1) (by kernel_rfl) (aux _ rfl)
def k17 (x0 : Family) (x1 : Int) : Cl := (hres (C17 (l1NameOf x0 x1)), k1 (ok_spec_l1NameOf x0 x1))
def Tryd.lw166_ren : Go.Shelf.Ren := ⟨fun | 166 => 20 | 240 => 35 | 276 => 56 | n => n, fun | 0 => 0 | 3 => 3 | 4 => 4 | 5 => 5 | 9 => 9 | 20 => 20 | 37 => 47 | 70 => 46 | 72 => 49 | 75 => 51 | 80 => 54 | 164 => 88 | n => n, fun | n => n⟩
theorem Tryd.lw166 : Go.Proofs.Lays.n166 Tryd.prog Tryd.lw166_ren := {
  mixed := by kernel_rfl
  f166 := Tryd.func20.trans (congrArg some (by kernel_rfl))
  f240 := Tryd.func35.trans (congrArg some (by kernel_rfl))
  f276 := Tryd.func56.trans (congrArg some (by kernel_rfl))
  t0 := Tryd.underlying0
  a0 := Tryd.isAgg0
  z0 := Tryd.sizeOf0
  v0 := Tryd.zeroValue0
  t3 := Tryd.underlying3
  a3 := Tryd.isAgg3
  z3 := Tryd.sizeOf3
  v3 := Tryd.zeroValue3
  t4 := Tryd.underlying4
  a4 := Tryd.isAgg4
  z4 := Tryd.sizeOf4
  v4 := Tryd.zeroValue4
  t9 := Tryd.underlying9
  a9 := Tryd.isAgg9
  z9 := Tryd.sizeOf9
  v9 := Tryd.zeroValue9
  t20 := Tryd.underlying20
  a20 := Tryd.isAgg20
  z20 := Tryd.sizeOf20
  v20 := Tryd.zeroValue20
  t37 := Tryd.underlying47
  a37 := Tryd.isAgg47
  z37 := Tryd.sizeOf47
  v37 := Tryd.zeroValue47
  t70 := Tryd.underlying46
  a70 := Tryd.isAgg46
  z70 := Tryd.sizeOf46
  v70 := Tryd.zeroValue46
  t72 := Tryd.underlying49
  a72 := Tryd.isAgg49
  z72 := Tryd.sizeOf49
  v72 := Tryd.zeroValue49
  t75 := Tryd.underlying51
  a75 := Tryd.isAgg51
  z75 := Tryd.sizeOf51
  v75 := Tryd.zeroValue51
  t164 := Tryd.underlying88
  a164 := Tryd.isAgg88
  z164 := Tryd.sizeOf88
  v164 := Tryd.zeroValue88 }
theorem Tryd.xw166 : Go.Proofs.Builder.Extra Tryd.prog Tryd.lw166_ren := {
  sizeBuilder := by kernel_rfl
  liesBuilder := by kernel_rfl
  t5 := Tryd.underlying5
  a5 := Tryd.isAgg5
  z5 := Tryd.sizeOf5
  v5 := Tryd.zeroValue5
  infoByte := by kernel_rfl
  cellsByte := by kernel_rfl
  sizeByte := by kernel_rfl
  neB5 := by decide }
def Tryd.lw169_ren : Go.Shelf.Ren := ⟨fun | 169 => 24 | n => n, fun | 0 => 0 | 3 => 3 | 5 => 5 | 9 => 9 | 37 => 47 | 70 => 46 | 72 => 49 | 127 => 69 | n => n, fun | n => n⟩
theorem Tryd.lw169 : Go.Proofs.Lays.n169 Tryd.prog Tryd.lw169_ren := {
  mixed := by kernel_rfl
  f169 := Tryd.func24.trans (congrArg some (by kernel_rfl))
  t0 := Tryd.underlying0
  a0 := Tryd.isAgg0
  z0 := Tryd.sizeOf0
  v0 := Tryd.zeroValue0
  t3 := Tryd.underlying3
  a3 := Tryd.isAgg3
  z3 := Tryd.sizeOf3
  v3 := Tryd.zeroValue3
  t9 := Tryd.underlying9
  a9 := Tryd.isAgg9
  z9 := Tryd.sizeOf9
  v9 := Tryd.zeroValue9
  t37 := Tryd.underlying47
  a37 := Tryd.isAgg47
  z37 := Tryd.sizeOf47
  v37 := Tryd.zeroValue47
  t70 := Tryd.underlying46
  a70 := Tryd.isAgg46
  z70 := Tryd.sizeOf46
  v70 := Tryd.zeroValue46
  t72 := Tryd.underlying49
  a72 := Tryd.isAgg49
  z72 := Tryd.sizeOf49
  v72 := Tryd.zeroValue49
  t127 := Tryd.underlying69
  a127 := Tryd.isAgg69
  z127 := Tryd.sizeOf69
  v127 := Tryd.zeroValue69 }
theorem Tryd.xw169 : Go.Proofs.Builder.Extra Tryd.prog Tryd.lw169_ren := {
  sizeBuilder := by kernel_rfl
  liesBuilder := by kernel_rfl
  t5 := Tryd.underlying5
  a5 := Tryd.isAgg5
  z5 := Tryd.sizeOf5
  v5 := Tryd.zeroValue5
  infoByte := by kernel_rfl
  cellsByte := by kernel_rfl
  sizeByte := by kernel_rfl
  neB5 := by decide }
theorem ok_bw (s0 s : List UInt8) (h : s0.length + s.length ≤ 140737488355328) : FnMT Tryd.prog 20 [.vp 900000 0, .str s] [.bld 49 5 s0] (.tup [.int .i64 s.length, .er false], [(900000, .bld 49 5 (s0 ++ s))]) :=
  FnM.bldWrite fun w B b v p hb hB => bld_write Tryd.lw166 Tryd.xw166 hb h hB
def kbw (d : Nat) (ids : List Nat) (s0 s : List UInt8) : Cl := (hresM d ids (.tup [.int .i64 s.length, .er false], [(900000, .bld 49 5 (s0 ++ s))]), Go.Lite.k1 (ok_bw s0 s))
theorem ok_bs (s : List UInt8) : FnMT Tryd.prog 24 [.vp 900000 0] [.bld 49 5 s] (.str s, []) :=
  FnM.bldString fun w B b v p hb hB => bld_string Tryd.lw169 Tryd.xw169 hb hB
def kbs (d : Nat) (ids : List Nat) (s : List UInt8) : Cl := (hresM d ids (.str s, []), Go.Lite.k0 (ok_bs s))
end Go.Proofs.YtkkijpibajigfabDoor
