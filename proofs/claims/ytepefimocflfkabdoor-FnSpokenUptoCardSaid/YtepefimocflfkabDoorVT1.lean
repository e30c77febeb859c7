import Derived.Test.YtepefimocflfkabDoorM210
set_option maxHeartbeats 4000000
set_option linter.unusedSimpArgs false
set_option linter.unusedVariables false
namespace Go.Proofs.YtepefimocflfkabDoor
open Go Go.Lite Go.Proofs
structure Law where
  degree : Int
  canon : Int
  affinity : Int
  age : Int
  wives : Int
  husbands : Int
  patriline : Bool
  matriline : Bool
  deriving Inhabited
def cLaw (fr : Bool) (x : Law) : List LV := cInt .i64 x.degree ++ cInt .i64 x.canon ++ cInt .i64 x.affinity ++ cInt .i64 x.age ++ cInt .i64 x.wives ++ cInt .i64 x.husbands ++ cBool x.patriline ++ cBool x.matriline

def C29 (R : Bool) : LV × List (Nat × BC) := (.bool R, [])
def l1In (x0 : Int) (x1 : Int) (x2 : Int) : Bool := (decide (x1 ≤ x0)) && (decide (x0 ≤ x2))
def A29 (x0 : Int) (x1 : Int) (x2 : Int) : Ann := .reg 2 [] [] [6] [] [decide (x1 ≤ x0)] [] [] [1, 1, 1] (rt [] (C29 ((decide (x1 ≤ x0)) && (decide (x0 ≤ x2)))))
theorem ok_spec_l1In (x0 : Int) (x1 : Int) (x2 : Int) : FnT Tryd.prog 29 [.int .i64 x0, .int .i64 x1, .int .i64 x2] (C29 (l1In x0 x1 x2)) := by
  have aux : ∀ R, l1In x0 x1 x2 = R → slim (C29 R) (A29 x0 x1 x2) [] := by
    intro R hR
    refine rg trivial ?_
    exact congrArg C29 hR
  exact Fn.go 15 Tryd.func29 (by kernel_rfl) (by kernel_rfl) (by simp [C29, Frs, FrsL]) (A29 x0 x1 x2) (by kernel_rfl) (aux _ rfl)
def k29 (x0 : Int) (x1 : Int) (x2 : Int) : Cl := (hres (C29 (l1In x0 x1 x2)), k0 (ok_spec_l1In x0 x1 x2))
def C16 (R : Bool) : LV × List (Nat × BC) := (.bool R, [])
def specIsLaw (x0 : Law) : Bool := (((((l1In x0.degree 0 20) && (l1In x0.canon 0 10)) && (l1In x0.affinity 0 20)) && (l1In x0.age 0 99)) && (l1In x0.wives 1 9)) && (l1In x0.husbands 1 9)
def A16 (x0 : Law) : Ann := .reg 2 [] [(1002, k29 x0.degree 0 20), (1006, cg (l1In x0.degree 0 20) (k29 x0.canon 0 10)), (1011, cg ((l1In x0.degree 0 20) && (l1In x0.canon 0 10)) (k29 x0.affinity 0 20)), (1016, cg (((l1In x0.degree 0 20) && (l1In x0.canon 0 10)) && (l1In x0.affinity 0 20)) (k29 x0.age 0 99)), (1021, cg ((((l1In x0.degree 0 20) && (l1In x0.canon 0 10)) && (l1In x0.affinity 0 20)) && (l1In x0.age 0 99)) (k29 x0.wives 1 9)), (1026, cg (((((l1In x0.degree 0 20) && (l1In x0.canon 0 10)) && (l1In x0.affinity 0 20)) && (l1In x0.age 0 99)) && (l1In x0.wives 1 9)) (k29 x0.husbands 1 9))] [2] [] [l1In x0.degree 0 20, (l1In x0.degree 0 20) && (l1In x0.canon 0 10), ((l1In x0.degree 0 20) && (l1In x0.canon 0 10)) && (l1In x0.affinity 0 20), (((l1In x0.degree 0 20) && (l1In x0.canon 0 10)) && (l1In x0.affinity 0 20)) && (l1In x0.age 0 99), ((((l1In x0.degree 0 20) && (l1In x0.canon 0 10)) && (l1In x0.affinity 0 20)) && (l1In x0.age 0 99)) && (l1In x0.wives 1 9)] [] [] [0, 1, 1, 4, 1, 5, 5, 8, 5, 9, 9, 12, 9, 13, 13, 16, 13, 17, 17, 20, 17] (rt [] (C16 ((((((l1In x0.degree 0 20) && (l1In x0.canon 0 10)) && (l1In x0.affinity 0 20)) && (l1In x0.age 0 99)) && (l1In x0.wives 1 9)) && (l1In x0.husbands 1 9))))
theorem ok_spec_IsLaw (x0 : Law) : FnT Tryd.prog 16 [.agg (cLaw false x0)] (C16 (specIsLaw x0)) := by
  have aux : ∀ R, specIsLaw x0 = R → slim (C16 R) (A16 x0) [] := by
    intro R hR
    refine rg ⟨trivial, fun hg0 => trivial, fun hg0 => trivial, fun hg0 => trivial, fun hg0 => trivial, fun hg0 => trivial, trivial⟩ ?_
    exact congrArg C16 hR
  exact Fn.go 31 Tryd.func16 (by kernel_rfl) (by kernel_rfl) (by simp [C16, Frs, FrsL]) (A16 x0) (by kernel_rfl) (aux _ rfl)
def k16 (x0 : Law) : Cl := (hres (C16 (specIsLaw x0)), k0 (ok_spec_IsLaw x0))
def C30 (R : Bool) : LV × List (Nat × BC) := (.bool R, [])
def lawIn (x0 : Int) (x1 : Int) (x2 : Int) : Bool := (decide (x1 ≤ x0)) && (decide (x0 ≤ x2))
def A30 (x0 : Int) (x1 : Int) (x2 : Int) : Ann := .reg 2 [] [] [6] [] [decide (x1 ≤ x0)] [] [] [1, 1, 1] (rt [] (C30 ((decide (x1 ≤ x0)) && (decide (x0 ≤ x2)))))
theorem ok_impl_IsLaw_1 (x0 : Int) (x1 : Int) (x2 : Int) : FnT Tryd.prog 30 [.int .i64 x0, .int .i64 x1, .int .i64 x2] (C30 (lawIn x0 x1 x2)) := by
  have aux : ∀ R, lawIn x0 x1 x2 = R → slim (C30 R) (A30 x0 x1 x2) [] := by
    intro R hR
    refine rg trivial ?_
    exact congrArg C30 hR
  exact Fn.go 15 Tryd.func30 (by kernel_rfl) (by kernel_rfl) (by simp [C30, Frs, FrsL]) (A30 x0 x1 x2) (by kernel_rfl) (aux _ rfl)
def k30 (x0 : Int) (x1 : Int) (x2 : Int) : Cl := (hres (C30 (lawIn x0 x1 x2)), k0 (ok_impl_IsLaw_1 x0 x1 x2))
def C19 (R : Bool) : LV × List (Nat × BC) := (.bool R, [])
def implIsLaw (x0 : Law) : Bool := (((((lawIn x0.degree 0 20) && (lawIn x0.affinity 0 20)) && (lawIn x0.canon 0 10)) && (lawIn x0.age 0 99)) && (lawIn x0.wives 1 9)) && (lawIn x0.husbands 1 9)
def A19 (x0 : Law) : Ann := .reg 3 [] [(2003, k30 x0.degree 0 20), (2008, cg (lawIn x0.degree 0 20) (k30 x0.affinity 0 20)), (2014, cg ((lawIn x0.degree 0 20) && (lawIn x0.affinity 0 20)) (k30 x0.canon 0 10)), (2020, cg (((lawIn x0.degree 0 20) && (lawIn x0.affinity 0 20)) && (lawIn x0.canon 0 10)) (k30 x0.age 0 99)), (2026, cg ((((lawIn x0.degree 0 20) && (lawIn x0.affinity 0 20)) && (lawIn x0.canon 0 10)) && (lawIn x0.age 0 99)) (k30 x0.wives 1 9)), (2032, cg (((((lawIn x0.degree 0 20) && (lawIn x0.affinity 0 20)) && (lawIn x0.canon 0 10)) && (lawIn x0.age 0 99)) && (lawIn x0.wives 1 9)) (k30 x0.husbands 1 9))] [2] [] [lawIn x0.degree 0 20, (lawIn x0.degree 0 20) && (lawIn x0.affinity 0 20), ((lawIn x0.degree 0 20) && (lawIn x0.affinity 0 20)) && (lawIn x0.canon 0 10), (((lawIn x0.degree 0 20) && (lawIn x0.affinity 0 20)) && (lawIn x0.canon 0 10)) && (lawIn x0.age 0 99), ((((lawIn x0.degree 0 20) && (lawIn x0.affinity 0 20)) && (lawIn x0.canon 0 10)) && (lawIn x0.age 0 99)) && (lawIn x0.wives 1 9)] [] [] [0, 1, 1, 1, 4, 1, 5, 5, 5, 8, 5, 9, 9, 9, 12, 9, 13, 13, 13, 16, 13, 17, 17, 17, 20, 17] (rt [] (C19 ((((((lawIn x0.degree 0 20) && (lawIn x0.affinity 0 20)) && (lawIn x0.canon 0 10)) && (lawIn x0.age 0 99)) && (lawIn x0.wives 1 9)) && (lawIn x0.husbands 1 9))))
theorem ok_impl_IsLaw (x0 : Law) : FnT Tryd.prog 19 [.agg (cLaw false x0)] (C19 (implIsLaw x0)) := by
  have aux : ∀ R, implIsLaw x0 = R → slim (C19 R) (A19 x0) [] := by
    intro R hR
    refine rg ⟨trivial, fun hg0 => trivial, fun hg0 => trivial, fun hg0 => trivial, fun hg0 => trivial, fun hg0 => trivial, trivial⟩ ?_
    exact congrArg C19 hR
  exact Fn.go 38 Tryd.func19 (by kernel_rfl) (by kernel_rfl) (by simp [C19, Frs, FrsL]) (A19 x0) (by kernel_rfl) (aux _ rfl)
def k19 (x0 : Law) : Cl := (hres (C19 (implIsLaw x0)), k0 (ok_impl_IsLaw x0))
def C7 (R : Law) : LV × List (Nat × BC) := (.agg [.int .i64 R.degree, .int .i64 R.canon, .int .i64 R.affinity, .int .i64 R.age, .int .i64 R.wives, .int .i64 R.husbands, .bool R.patriline, .bool R.matriline], [])
def laws_toLaw_m (x0 : Law) : Law := x0
def A7 (x0 : Law) : Ann := r0 11 [2] [2] (rt [] (C7 x0))
theorem ok_laws_toLaw (x0 : Law) : FnT Tryd.prog 7 [.agg (cLaw false x0)] (C7 x0) := by
  have aux : ∀ R, laws_toLaw_m x0 = R → slim (C7 R) (A7 x0) [] := by
    intro R hR
    refine rg trivial ?_
    exact congrArg C7 hR
  exact Fn.go 29 Tryd.func7 (by kernel_rfl) (by kernel_rfl) (by simp [C7, Frs, FrsL]) (A7 x0) (by kernel_rfl) (aux _ rfl)
def k7 (x0 : Law) : Cl := (hres (C7 x0), k0 (ok_laws_toLaw x0))
def C20 (R : (List UInt8)) : LV × List (Nat × BC) := (.str R, [])
def itoa (x0 : Int) : List UInt8 := Lib.decDigits x0.toNat
theorem itoa_len {n : Int} (h : n < 100) : (itoa n).length ≤ 2 := by
  unfold itoa
  by_cases c : n.toNat < 10
  · rw [Lib.decDigits_one c]; exact Nat.le_succ 1
  · rw [Lib.decDigits_two c (by omega)]; exact Nat.le_refl 2
theorem tab_of_gh {w : World} (h : GH w) : Lib.TabIs Tryd.prog w "internal/strconv.uint64pow10" .u64 Lib.pow10Tab := by
  obtain ⟨_, ⟨t, f, hb⟩, _⟩ := h
  unfold Lib.TabIs World.var?
  rw [show Tryd.prog.globalNamed "internal/strconv.uint64pow10" = some 1 by kernel_rfl]
  simp only [Option.bind_some, hb]
  rfl
theorem itoa_len4 {n : Int} (h : n ≤ 9999) : (itoa n).length ≤ 4 := by
  have two : ∀ k : Nat, k < 100 → (Lib.decDigits k).length ≤ 2 := fun k hk => by
    by_cases c : k < 10
    · rw [Lib.decDigits_one c]; exact Nat.le_succ 1
    · rw [Lib.decDigits_two c hk]; exact Nat.le_refl 2
  unfold itoa
  generalize hk : n.toNat = k
  have hk2 : k ≤ 9999 := by omega
  by_cases c : k < 10
  · rw [Lib.decDigits_one c]; simp
  · rw [Lib.decDigits, dif_neg c, List.length_append]
    by_cases c2 : k / 10 < 10
    · rw [Lib.decDigits_one c2]; simp
    · rw [Lib.decDigits, dif_neg c2, List.length_append]
      have := two (k / 10 / 10) (by omega)
      simp only [List.length_cons, List.length_nil]; omega
theorem ok_strconv_Itoa (x0 : Int) (h : 0 ≤ x0 ∧ x0 ≤ 9999) : FnT Tryd.prog 20 [.int .i64 x0] (C20 (itoa x0)) := by
  obtain ⟨n, rfl⟩ := Int.eq_ofNat_of_zero_le h.1
  refine Fn.of_strB args_int fun w hg => ?_
  refine (Tryd.strconv_Itoa (n : Int) (by omega) (by omega) w (tab_of_gh hg)).mono fun e w' ⟨he, k, os, hw⟩ => ⟨?_, ?_⟩
  · rw [he, Lib.itoa_nonneg]; rfl
  · rw [hw]; exact Lib.below_grow _ _ (Nat.le_refl _) _ _
def k20 (x0 : Int) : Cl := (hres (C20 (itoa x0)), k1 (ok_strconv_Itoa x0))
def C21 (R : (List UInt8)) : LV × List (Nat × BC) := (.str R, [])
def yesNo (x0 : Bool) : (List UInt8) := bif x0 then [121, 101, 115] else [110, 111]
def A21 (x0 : Bool) : Ann := r0 1 [0, 2] [] (r0 1 [2, 3] [] (cn x0 (r0 1 [2] [] (rt [] (C21 [121, 101, 115]))) (r0 1 [2] [] (rt [] (C21 [110, 111])))))
theorem ok_impl_yesNo (x0 : Bool) : FnT Tryd.prog 21 [.bool x0] (C21 (yesNo x0)) := by
  have aux : ∀ R, yesNo x0 = R → slim (C21 R) (A21 x0) [] := by
    intro R hR
    refine rg trivial ?_
    refine rg trivial ?_
    revert hR; refine cd (fun hc1 hR => ?_) fun hc1 hR => ?_
    ·
      refine rg trivial ?_
      exact congrArg C21 hR
    ·
      refine rg trivial ?_
      exact congrArg C21 hR
  exact Fn.go 4 Tryd.func21 (by kernel_rfl) (by kernel_rfl) (by simp [C21, Frs, FrsL]) (A21 x0) (by kernel_rfl) (aux _ rfl)
def k21 (x0 : Bool) : Cl := (hres (C21 (yesNo x0)), k0 (ok_impl_yesNo x0))
def C18 (R : (List UInt8)) : LV × List (Nat × BC) := (.str R, [])
def answer (x0 : Bool) : (List UInt8) := bif x0 then [121, 101, 115] else [110, 111]
def A18 (x0 : Bool) : Ann := r0 1 [0, 2] [] (r0 1 [2, 3] [] (cn x0 (r0 1 [2] [] (rt [] (C18 [121, 101, 115]))) (r0 1 [2] [] (rt [] (C18 [110, 111])))))
theorem ok_spec_l9Answer (x0 : Bool) : FnT Tryd.prog 18 [.bool x0] (C18 (answer x0)) := by
  have aux : ∀ R, answer x0 = R → slim (C18 R) (A18 x0) [] := by
    intro R hR
    refine rg trivial ?_
    refine rg trivial ?_
    revert hR; refine cd (fun hc1 hR => ?_) fun hc1 hR => ?_
    ·
      refine rg trivial ?_
      exact congrArg C18 hR
    ·
      refine rg trivial ?_
      exact congrArg C18 hR
  exact Fn.go 4 Tryd.func18 (by kernel_rfl) (by kernel_rfl) (by simp [C18, Frs, FrsL]) (A18 x0) (by kernel_rfl) (aux _ rfl)
def k18 (x0 : Bool) : Cl := (hres (C18 (answer x0)), k0 (ok_spec_l9Answer x0))
def C17 (R : (List UInt8)) : LV × List (Nat × BC) := (.str R, [])
def l1Number (x0 : Int) : (List UInt8) := loopW (fun (v1 : Int × (List UInt8)) next => bif (decide (0 < v1.1)) then (next (v1.1.tdiv 10, (List.map Lite.byteOf ([48 + (v1.1.tmod 10)] : List Int)) ++ v1.2)) else v1.2) ((x0.tdiv 10).toNat + 1) (x0.tdiv 10, List.map Lite.byteOf ([48 + (x0.tmod 10)] : List Int))
def D17b1 (x0 : Int) (v1 : Int × (List UInt8)) : Dl := ⟨[(0, .int .i64 v1.1), (3, .str v1.2)], []⟩
def A17b1 (x0 : Int) (v1 : Int × (List UInt8)) : Ann := r0 1 [0, 2, 3, 13] [] (cn (decide (0 < v1.1)) (.reg 1 [(5, .ints ([48 + (v1.1.tmod 10)] : List Int))] [(4, bsC 20 (cInt .u8) ([48 + (v1.1.tmod 10)] : List Int))] [0, 2, 3] [] [] [pf ((10 : Int) ≠ 0), pf (inR .i64 (48 + (v1.1.tmod 10))), pf (inR .u8 (48 + (v1.1.tmod 10))), pf ((((List.map Lite.byteOf ([48 + (v1.1.tmod 10)] : List Int)).length + v1.2.length : Nat) : Int) ≤ 9223372036854775807)] [zf (P := 1 = ([48 + (v1.1.tmod 10)] : List Int).length ∧ ∀ k, k < 1 → (rowOf (cInt .u8) [48 + (v1.1.tmod 10)]) k = [.int .u8 (([48 + (v1.1.tmod 10)] : List Int).getD k default)]) (⟨by first | rfl | simp, fun _ _ => rfl⟩)] [0, 4, 8, 16, 3, 12] (r1 1 [0, 2, 3] [] [pf ((10 : Int) ≠ 0), pf (inR .i64 (v1.1.tdiv 10))] [0, 4] (.next 0 [] (D17b1 x0 (v1.1.tdiv 10, (List.map Lite.byteOf ([48 + (v1.1.tmod 10)] : List Int)) ++ v1.2))))) (r0 1 [2] [] (rt [] (C17 v1.2))))
def A17 (x0 : Int) : Ann := .reg 2 [(1005, .ints ([48 + (x0.tmod 10)] : List Int))] [(1004, bsC 8 (cInt .u8) ([48 + (x0.tmod 10)] : List Int))] [0, 2, 3] [] [] [pf ((10 : Int) ≠ 0), pf (inR .i64 (48 + (x0.tmod 10))), pf (inR .u8 (48 + (x0.tmod 10)))] [zf (P := 1 = ([48 + (x0.tmod 10)] : List Int).length ∧ ∀ k, k < 1 → (rowOf (cInt .u8) [48 + (x0.tmod 10)]) k = [.int .u8 (([48 + (x0.tmod 10)] : List Int).getD k default)]) (⟨by first | rfl | simp, fun _ _ => rfl⟩)] [0, 4, 8, 12, 3] (r1 1 [0, 2, 3] [] [pf ((10 : Int) ≠ 0), pf (inR .i64 (x0.tdiv 10))] [0, 4] (.loop (Int × (List UInt8)) (D17b1 x0) [] [] [] (D17b1 x0 (x0.tdiv 10, List.map Lite.byteOf ([48 + (x0.tmod 10)] : List Int))) (A17b1 x0)))
theorem number_go : ∀ (m : Nat) (k : Nat) (s : List UInt8), k < m → loopW (fun (v1 : Int × (List UInt8)) next => bif (decide (0 < v1.1)) then (next (v1.1.tdiv 10, (List.map Lite.byteOf ([48 + (v1.1.tmod 10)] : List Int)) ++ v1.2)) else v1.2) m (((k : Nat) : Int), s) = (if k = 0 then [] else Lib.decDigits k) ++ s
  | 0, k, s, h => absurd h (Nat.not_lt_zero _)
  | m + 1, k, s, h => by
    rw [loopW]
    dsimp only
    by_cases c : k = 0
    · subst c; rfl
    · rw [decide_eq_true (by omega), cond_true, if_neg c]
      have e1 : ((k : Nat) : Int).tdiv 10 = ((k / 10 : Nat) : Int) := by rw [Int.tdiv_eq_ediv_of_nonneg (by omega)]; omega
      have e2 : ((k : Nat) : Int).tmod 10 = ((k % 10 : Nat) : Int) := by rw [Int.tmod_eq_emod_of_nonneg (by omega)]; omega
      rw [e1, e2, number_go m (k / 10) _ (by omega)]
      have e3 : List.map Lite.byteOf [48 + ((k % 10 : Nat) : Int)] = [UInt8.ofNat (48 + k % 10)] := by
        have : (48 + ((k % 10 : Nat) : Int)).toNat = 48 + k % 10 := by omega
        simp only [List.map_cons, List.map_nil, Lite.byteOf, this]
      rw [e3]
      by_cases c1 : k < 10
      · have e4 : k / 10 = 0 := by omega
        have e5 : k % 10 = k := by omega
        rw [if_pos e4, e5, Lib.decDigits_one c1]; rfl
      · rw [if_neg (by omega)]
        have e6 : Lib.decDigits k = Lib.decDigits (k / 10) ++ [UInt8.ofNat (48 + k % 10)] := by rw [Lib.decDigits, dif_neg c1]
        rw [e6, List.append_assoc]
theorem number_eq {n : Int} (h : 0 ≤ n) : l1Number n = itoa n := by
  obtain ⟨k, rfl⟩ := Int.eq_ofNat_of_zero_le h
  unfold l1Number itoa
  have e1 : ((k : Nat) : Int).tdiv 10 = ((k / 10 : Nat) : Int) := by rw [Int.tdiv_eq_ediv_of_nonneg (by omega)]; omega
  have e2 : ((k : Nat) : Int).tmod 10 = ((k % 10 : Nat) : Int) := by rw [Int.tmod_eq_emod_of_nonneg (by omega)]; omega
  rw [e1, e2, number_go _ _ _ (by omega)]
  have e3 : List.map Lite.byteOf [48 + ((k % 10 : Nat) : Int)] = [UInt8.ofNat (48 + k % 10)] := by
    have : (48 + ((k % 10 : Nat) : Int)).toNat = 48 + k % 10 := by omega
    simp only [List.map_cons, List.map_nil, Lite.byteOf, this]
  rw [e3, Int.toNat_natCast]
  by_cases c1 : k < 10
  · have e4 : k / 10 = 0 := by omega
    have e5 : k % 10 = k := by omega
    rw [if_pos e4, e5, Lib.decDigits_one c1]; rfl
  · rw [if_neg (by omega)]
    have e6 : Lib.decDigits k = Lib.decDigits (k / 10) ++ [UInt8.ofNat (48 + k % 10)] := by rw [Lib.decDigits, dif_neg c1]
    rw [e6]
theorem ok_spec_l1Number (x0 : Int) (h : 0 ≤ x0 ∧ x0 ≤ 9999) : FnT Tryd.prog 17 [.int .i64 x0] (C17 (l1Number x0)) := by
  have aux : ∀ R, l1Number x0 = R → slim (C17 R) (A17 x0) [] := by
    intro R hR
    refine rg ⟨by trivial, by ((try have h9 := of_decide_eq_true hc1); (try simp only [inR, List.length_append, List.length_map, List.length_cons, List.length_nil]); (try rw [Int.tdiv_eq_ediv_of_nonneg (by omega)]); (try rw [Int.tmod_eq_emod_of_nonneg (by omega)]); omega), by ((try have h9 := of_decide_eq_true hc1); (try simp only [inR, List.length_append, List.length_map, List.length_cons, List.length_nil]); (try rw [Int.tdiv_eq_ediv_of_nonneg (by omega)]); (try rw [Int.tmod_eq_emod_of_nonneg (by omega)]); omega), trivial, trivial⟩ ?_
    refine rg ⟨by trivial, by ((try have h9 := of_decide_eq_true hc1); (try simp only [inR, List.length_append, List.length_map, List.length_cons, List.length_nil]); (try rw [Int.tdiv_eq_ediv_of_nonneg (by omega)]); (try rw [Int.tmod_eq_emod_of_nonneg (by omega)]); omega), trivial⟩ ?_
    revert hR; refine lW (fun v => (0 ≤ v.1 ∧ v.1 ≤ 9999) ∧ v.2.length + (v.1).toNat ≤ 10001) (fun v => (v.1).toNat) (by ((try have h9 := of_decide_eq_true hc1); (try simp only [inR, List.length_append, List.length_map, List.length_cons, List.length_nil]); (try rw [Int.tdiv_eq_ediv_of_nonneg (by omega)]); (try rw [Int.tmod_eq_emod_of_nonneg (by omega)]); omega)) (Nat.lt_succ_self _) rfl fun m1 v1 F1 hI1 hM1 hR hK1 => ?_
    refine rg trivial ?_
    revert hR; refine cd (fun hc1 hR => ?_) fun hc1 hR => ?_
    ·
      refine rg ⟨by trivial, by ((try have h9 := of_decide_eq_true hc1); (try simp only [inR, List.length_append, List.length_map, List.length_cons, List.length_nil]); (try rw [Int.tdiv_eq_ediv_of_nonneg (by omega)]); (try rw [Int.tmod_eq_emod_of_nonneg (by omega)]); omega), by ((try have h9 := of_decide_eq_true hc1); (try simp only [inR, List.length_append, List.length_map, List.length_cons, List.length_nil]); (try rw [Int.tdiv_eq_ediv_of_nonneg (by omega)]); (try rw [Int.tmod_eq_emod_of_nonneg (by omega)]); omega), by ((try have h9 := of_decide_eq_true hc1); (try simp only [inR, List.length_append, List.length_map, List.length_cons, List.length_nil]); (try rw [Int.tdiv_eq_ediv_of_nonneg (by omega)]); (try rw [Int.tmod_eq_emod_of_nonneg (by omega)]); omega), trivial, trivial⟩ ?_
      refine rg ⟨by trivial, by ((try have h9 := of_decide_eq_true hc1); (try simp only [inR, List.length_append, List.length_map, List.length_cons, List.length_nil]); (try rw [Int.tdiv_eq_ediv_of_nonneg (by omega)]); (try rw [Int.tmod_eq_emod_of_nonneg (by omega)]); omega), trivial⟩ ?_
      exact hK1 (v1.1.tdiv 10, (List.map Lite.byteOf ([48 + (v1.1.tmod 10)] : List Int)) ++ v1.2) (by ((try have h9 := of_decide_eq_true hc1); (try simp only [inR, List.length_append, List.length_map, List.length_cons, List.length_nil]); (try rw [Int.tdiv_eq_ediv_of_nonneg (by omega)]); (try rw [Int.tmod_eq_emod_of_nonneg (by omega)]); omega)) (by ((try have h9 := of_decide_eq_true hc1); (try simp only [inR, List.length_append, List.length_map, List.length_cons, List.length_nil]); (try rw [Int.tdiv_eq_ediv_of_nonneg (by omega)]); (try rw [Int.tmod_eq_emod_of_nonneg (by omega)]); omega)) hR
    ·
      refine rg trivial ?_
      exact congrArg C17 hR
  exact Fn.go 25 Tryd.func17 (by kernel_rfl) (by kernel_rfl) (by simp [C17, Frs, FrsL]) (A17 x0) (by kernel_rfl) (aux _ rfl)
def k17 (x0 : Int) : Cl := (hres (C17 (l1Number x0)), k1 (ok_spec_l1Number x0))
theorem lawT_eq (l : Law) : implIsLaw l = specIsLaw l := by
  unfold implIsLaw specIsLaw lawIn l1In
  rw [Bool.eq_iff_iff]
  simp only [Bool.and_eq_true, decide_eq_true_eq]
  omega
theorem law_bds {x : Law} (h : specIsLaw x = true) : (0 ≤ x.degree ∧ x.degree < 100) ∧ (0 ≤ x.canon ∧ x.canon < 100) ∧ (0 ≤ x.affinity ∧ x.affinity < 100) ∧ (0 ≤ x.age ∧ x.age < 100) ∧ (0 ≤ x.wives ∧ x.wives < 100) ∧ (0 ≤ x.husbands ∧ x.husbands < 100) := by
  unfold specIsLaw l1In at h
  simp only [Bool.and_eq_true, decide_eq_true_eq] at h
  omega
theorem law_lens {x : Law} (h : specIsLaw x = true) : (itoa x.degree).length ≤ 2 ∧ (itoa x.canon).length ≤ 2 ∧ (itoa x.affinity).length ≤ 2 ∧ (itoa x.age).length ≤ 2 ∧ (itoa x.wives).length ≤ 2 ∧ (itoa x.husbands).length ≤ 2 := by
  have b := law_bds h
  exact ⟨itoa_len (by omega), itoa_len (by omega), itoa_len (by omega), itoa_len (by omega), itoa_len (by omega), itoa_len (by omega)⟩
theorem yesNo_len (b : Bool) : (yesNo b).length ≤ 3 := by cases b <;> decide
theorem answer_len (b : Bool) : (answer b).length ≤ 3 := by cases b <;> decide
theorem law_lens2 {x : Law} (h : specIsLaw x = true) : (l1Number x.degree).length ≤ 2 ∧ (l1Number x.canon).length ≤ 2 ∧ (l1Number x.affinity).length ≤ 2 ∧ (l1Number x.age).length ≤ 2 ∧ (l1Number x.wives).length ≤ 2 ∧ (l1Number x.husbands).length ≤ 2 := by
  have b := law_bds h
  rw [number_eq (by omega), number_eq (by omega), number_eq (by omega), number_eq (by omega), number_eq (by omega), number_eq (by omega)]
  exact law_lens h

def C8 (R : (List UInt8)) : LV × List (Nat × BC) := (.str R, [])
def implFmtLaw (x0 : Law) : (List UInt8) := bif (!(implIsLaw x0)) then ([] : List UInt8) else ((((((((((((((([100, 101, 103, 114, 101, 101, 32] ++ (itoa x0.degree)) ++ [32, 99, 97, 110, 111, 110, 32]) ++ (itoa x0.canon)) ++ [32, 97, 102, 102, 105, 110, 105, 116, 121, 32]) ++ (itoa x0.affinity)) ++ [32, 97, 103, 101, 32]) ++ (itoa x0.age)) ++ [32, 119, 105, 118, 101, 115, 32]) ++ (itoa x0.wives)) ++ [32, 104, 117, 115, 98, 97, 110, 100, 115, 32]) ++ (itoa x0.husbands)) ++ [32, 112, 97, 116, 114, 105, 108, 105, 110, 101, 32]) ++ (yesNo x0.patriline)) ++ [32, 109, 97, 116, 114, 105, 108, 105, 110, 101, 32]) ++ (yesNo x0.matriline))
def A8 (x0 : Law) : Ann := r0 1 [1, 2] [1] (.reg 1 [] [(1, k19 x0)] [1, 2, 6] [1] [] [] [] [0] (cn (!(implIsLaw x0)) (r0 1 [1, 2] [1] (rt [] (C8 ([] : List UInt8)))) (.reg 2 [] [(1003, k20 x0.degree), (1009, k20 x0.canon), (1015, k20 x0.affinity), (1021, k20 x0.age), (1027, k20 x0.wives), (1033, k20 x0.husbands), (1038, k21 x0.patriline), (1043, k21 x0.matriline)] [2] [] [] [pf ((([100, 101, 103, 114, 101, 101, 32].length + (itoa x0.degree).length : Nat) : Int) ≤ 9223372036854775807), pf (((([100, 101, 103, 114, 101, 101, 32] ++ (itoa x0.degree)).length + [32, 99, 97, 110, 111, 110, 32].length : Nat) : Int) ≤ 9223372036854775807), pf ((((([100, 101, 103, 114, 101, 101, 32] ++ (itoa x0.degree)) ++ [32, 99, 97, 110, 111, 110, 32]).length + (itoa x0.canon).length : Nat) : Int) ≤ 9223372036854775807), pf (((((([100, 101, 103, 114, 101, 101, 32] ++ (itoa x0.degree)) ++ [32, 99, 97, 110, 111, 110, 32]) ++ (itoa x0.canon)).length + [32, 97, 102, 102, 105, 110, 105, 116, 121, 32].length : Nat) : Int) ≤ 9223372036854775807), pf ((((((([100, 101, 103, 114, 101, 101, 32] ++ (itoa x0.degree)) ++ [32, 99, 97, 110, 111, 110, 32]) ++ (itoa x0.canon)) ++ [32, 97, 102, 102, 105, 110, 105, 116, 121, 32]).length + (itoa x0.affinity).length : Nat) : Int) ≤ 9223372036854775807), pf (((((((([100, 101, 103, 114, 101, 101, 32] ++ (itoa x0.degree)) ++ [32, 99, 97, 110, 111, 110, 32]) ++ (itoa x0.canon)) ++ [32, 97, 102, 102, 105, 110, 105, 116, 121, 32]) ++ (itoa x0.affinity)).length + [32, 97, 103, 101, 32].length : Nat) : Int) ≤ 9223372036854775807), pf ((((((((([100, 101, 103, 114, 101, 101, 32] ++ (itoa x0.degree)) ++ [32, 99, 97, 110, 111, 110, 32]) ++ (itoa x0.canon)) ++ [32, 97, 102, 102, 105, 110, 105, 116, 121, 32]) ++ (itoa x0.affinity)) ++ [32, 97, 103, 101, 32]).length + (itoa x0.age).length : Nat) : Int) ≤ 9223372036854775807), pf (((((((((([100, 101, 103, 114, 101, 101, 32] ++ (itoa x0.degree)) ++ [32, 99, 97, 110, 111, 110, 32]) ++ (itoa x0.canon)) ++ [32, 97, 102, 102, 105, 110, 105, 116, 121, 32]) ++ (itoa x0.affinity)) ++ [32, 97, 103, 101, 32]) ++ (itoa x0.age)).length + [32, 119, 105, 118, 101, 115, 32].length : Nat) : Int) ≤ 9223372036854775807), pf ((((((((((([100, 101, 103, 114, 101, 101, 32] ++ (itoa x0.degree)) ++ [32, 99, 97, 110, 111, 110, 32]) ++ (itoa x0.canon)) ++ [32, 97, 102, 102, 105, 110, 105, 116, 121, 32]) ++ (itoa x0.affinity)) ++ [32, 97, 103, 101, 32]) ++ (itoa x0.age)) ++ [32, 119, 105, 118, 101, 115, 32]).length + (itoa x0.wives).length : Nat) : Int) ≤ 9223372036854775807), pf (((((((((((([100, 101, 103, 114, 101, 101, 32] ++ (itoa x0.degree)) ++ [32, 99, 97, 110, 111, 110, 32]) ++ (itoa x0.canon)) ++ [32, 97, 102, 102, 105, 110, 105, 116, 121, 32]) ++ (itoa x0.affinity)) ++ [32, 97, 103, 101, 32]) ++ (itoa x0.age)) ++ [32, 119, 105, 118, 101, 115, 32]) ++ (itoa x0.wives)).length + [32, 104, 117, 115, 98, 97, 110, 100, 115, 32].length : Nat) : Int) ≤ 9223372036854775807), pf ((((((((((((([100, 101, 103, 114, 101, 101, 32] ++ (itoa x0.degree)) ++ [32, 99, 97, 110, 111, 110, 32]) ++ (itoa x0.canon)) ++ [32, 97, 102, 102, 105, 110, 105, 116, 121, 32]) ++ (itoa x0.affinity)) ++ [32, 97, 103, 101, 32]) ++ (itoa x0.age)) ++ [32, 119, 105, 118, 101, 115, 32]) ++ (itoa x0.wives)) ++ [32, 104, 117, 115, 98, 97, 110, 100, 115, 32]).length + (itoa x0.husbands).length : Nat) : Int) ≤ 9223372036854775807), pf (((((((((((((([100, 101, 103, 114, 101, 101, 32] ++ (itoa x0.degree)) ++ [32, 99, 97, 110, 111, 110, 32]) ++ (itoa x0.canon)) ++ [32, 97, 102, 102, 105, 110, 105, 116, 121, 32]) ++ (itoa x0.affinity)) ++ [32, 97, 103, 101, 32]) ++ (itoa x0.age)) ++ [32, 119, 105, 118, 101, 115, 32]) ++ (itoa x0.wives)) ++ [32, 104, 117, 115, 98, 97, 110, 100, 115, 32]) ++ (itoa x0.husbands)).length + [32, 112, 97, 116, 114, 105, 108, 105, 110, 101, 32].length : Nat) : Int) ≤ 9223372036854775807), pf ((((((((((((((([100, 101, 103, 114, 101, 101, 32] ++ (itoa x0.degree)) ++ [32, 99, 97, 110, 111, 110, 32]) ++ (itoa x0.canon)) ++ [32, 97, 102, 102, 105, 110, 105, 116, 121, 32]) ++ (itoa x0.affinity)) ++ [32, 97, 103, 101, 32]) ++ (itoa x0.age)) ++ [32, 119, 105, 118, 101, 115, 32]) ++ (itoa x0.wives)) ++ [32, 104, 117, 115, 98, 97, 110, 100, 115, 32]) ++ (itoa x0.husbands)) ++ [32, 112, 97, 116, 114, 105, 108, 105, 110, 101, 32]).length + (yesNo x0.patriline).length : Nat) : Int) ≤ 9223372036854775807), pf (((((((((((((((([100, 101, 103, 114, 101, 101, 32] ++ (itoa x0.degree)) ++ [32, 99, 97, 110, 111, 110, 32]) ++ (itoa x0.canon)) ++ [32, 97, 102, 102, 105, 110, 105, 116, 121, 32]) ++ (itoa x0.affinity)) ++ [32, 97, 103, 101, 32]) ++ (itoa x0.age)) ++ [32, 119, 105, 118, 101, 115, 32]) ++ (itoa x0.wives)) ++ [32, 104, 117, 115, 98, 97, 110, 100, 115, 32]) ++ (itoa x0.husbands)) ++ [32, 112, 97, 116, 114, 105, 108, 105, 110, 101, 32]) ++ (yesNo x0.patriline)).length + [32, 109, 97, 116, 114, 105, 108, 105, 110, 101, 32].length : Nat) : Int) ≤ 9223372036854775807), pf ((((((((((((((((([100, 101, 103, 114, 101, 101, 32] ++ (itoa x0.degree)) ++ [32, 99, 97, 110, 111, 110, 32]) ++ (itoa x0.canon)) ++ [32, 97, 102, 102, 105, 110, 105, 116, 121, 32]) ++ (itoa x0.affinity)) ++ [32, 97, 103, 101, 32]) ++ (itoa x0.age)) ++ [32, 119, 105, 118, 101, 115, 32]) ++ (itoa x0.wives)) ++ [32, 104, 117, 115, 98, 97, 110, 100, 115, 32]) ++ (itoa x0.husbands)) ++ [32, 112, 97, 116, 114, 105, 108, 105, 110, 101, 32]) ++ (yesNo x0.patriline)) ++ [32, 109, 97, 116, 114, 105, 108, 105, 110, 101, 32]).length + (yesNo x0.matriline).length : Nat) : Int) ≤ 9223372036854775807)] [] [60, 0, 4, 64, 8, 12, 68, 16, 20, 72, 24, 28, 76, 32, 36, 80, 40, 44, 84, 48, 52, 88, 56] (rt [] (C8 ((((((((((((((([100, 101, 103, 114, 101, 101, 32] ++ (itoa x0.degree)) ++ [32, 99, 97, 110, 111, 110, 32]) ++ (itoa x0.canon)) ++ [32, 97, 102, 102, 105, 110, 105, 116, 121, 32]) ++ (itoa x0.affinity)) ++ [32, 97, 103, 101, 32]) ++ (itoa x0.age)) ++ [32, 119, 105, 118, 101, 115, 32]) ++ (itoa x0.wives)) ++ [32, 104, 117, 115, 98, 97, 110, 100, 115, 32]) ++ (itoa x0.husbands)) ++ [32, 112, 97, 116, 114, 105, 108, 105, 110, 101, 32]) ++ (yesNo x0.patriline)) ++ [32, 109, 97, 116, 114, 105, 108, 105, 110, 101, 32]) ++ (yesNo x0.matriline)))))))
theorem ok_impl_FormatLaw (x0 : Law) : FnT Tryd.prog 8 [.agg (cLaw false x0)] (C8 (implFmtLaw x0)) := by
  have aux : ∀ R, implFmtLaw x0 = R → slim (C8 R) (A8 x0) [] := by
    intro R hR
    refine rg trivial ?_
    refine rg ⟨trivial, trivial⟩ ?_
    revert hR; refine cd (fun hc1 hR => ?_) fun hc1 hR => ?_
    ·
      refine rg trivial ?_
      exact congrArg C8 hR
    ·
      refine rg ⟨by (have h8 := law_lens (show specIsLaw x0 = true by rw [← lawT_eq]; simpa using hc1); have h7 := yesNo_len x0.patriline; have h6 := yesNo_len x0.matriline; have h5 := answer_len x0.patriline; have h4 := answer_len x0.matriline; simp only [List.length_append, List.length_cons, List.length_nil]; omega), by (have h8 := law_lens (show specIsLaw x0 = true by rw [← lawT_eq]; simpa using hc1); have h7 := yesNo_len x0.patriline; have h6 := yesNo_len x0.matriline; have h5 := answer_len x0.patriline; have h4 := answer_len x0.matriline; simp only [List.length_append, List.length_cons, List.length_nil]; omega), by (have h8 := law_lens (show specIsLaw x0 = true by rw [← lawT_eq]; simpa using hc1); have h7 := yesNo_len x0.patriline; have h6 := yesNo_len x0.matriline; have h5 := answer_len x0.patriline; have h4 := answer_len x0.matriline; simp only [List.length_append, List.length_cons, List.length_nil]; omega), by (have h8 := law_lens (show specIsLaw x0 = true by rw [← lawT_eq]; simpa using hc1); have h7 := yesNo_len x0.patriline; have h6 := yesNo_len x0.matriline; have h5 := answer_len x0.patriline; have h4 := answer_len x0.matriline; simp only [List.length_append, List.length_cons, List.length_nil]; omega), by (have h8 := law_lens (show specIsLaw x0 = true by rw [← lawT_eq]; simpa using hc1); have h7 := yesNo_len x0.patriline; have h6 := yesNo_len x0.matriline; have h5 := answer_len x0.patriline; have h4 := answer_len x0.matriline; simp only [List.length_append, List.length_cons, List.length_nil]; omega), by (have h8 := law_lens (show specIsLaw x0 = true by rw [← lawT_eq]; simpa using hc1); have h7 := yesNo_len x0.patriline; have h6 := yesNo_len x0.matriline; have h5 := answer_len x0.patriline; have h4 := answer_len x0.matriline; simp only [List.length_append, List.length_cons, List.length_nil]; omega), by (have h8 := law_lens (show specIsLaw x0 = true by rw [← lawT_eq]; simpa using hc1); have h7 := yesNo_len x0.patriline; have h6 := yesNo_len x0.matriline; have h5 := answer_len x0.patriline; have h4 := answer_len x0.matriline; simp only [List.length_append, List.length_cons, List.length_nil]; omega), by (have h8 := law_lens (show specIsLaw x0 = true by rw [← lawT_eq]; simpa using hc1); have h7 := yesNo_len x0.patriline; have h6 := yesNo_len x0.matriline; have h5 := answer_len x0.patriline; have h4 := answer_len x0.matriline; simp only [List.length_append, List.length_cons, List.length_nil]; omega), by (have h8 := law_lens (show specIsLaw x0 = true by rw [← lawT_eq]; simpa using hc1); have h7 := yesNo_len x0.patriline; have h6 := yesNo_len x0.matriline; have h5 := answer_len x0.patriline; have h4 := answer_len x0.matriline; simp only [List.length_append, List.length_cons, List.length_nil]; omega), by (have h8 := law_lens (show specIsLaw x0 = true by rw [← lawT_eq]; simpa using hc1); have h7 := yesNo_len x0.patriline; have h6 := yesNo_len x0.matriline; have h5 := answer_len x0.patriline; have h4 := answer_len x0.matriline; simp only [List.length_append, List.length_cons, List.length_nil]; omega), by (have h8 := law_lens (show specIsLaw x0 = true by rw [← lawT_eq]; simpa using hc1); have h7 := yesNo_len x0.patriline; have h6 := yesNo_len x0.matriline; have h5 := answer_len x0.patriline; have h4 := answer_len x0.matriline; simp only [List.length_append, List.length_cons, List.length_nil]; omega), by (have h8 := law_lens (show specIsLaw x0 = true by rw [← lawT_eq]; simpa using hc1); have h7 := yesNo_len x0.patriline; have h6 := yesNo_len x0.matriline; have h5 := answer_len x0.patriline; have h4 := answer_len x0.matriline; simp only [List.length_append, List.length_cons, List.length_nil]; omega), by (have h8 := law_lens (show specIsLaw x0 = true by rw [← lawT_eq]; simpa using hc1); have h7 := yesNo_len x0.patriline; have h6 := yesNo_len x0.matriline; have h5 := answer_len x0.patriline; have h4 := answer_len x0.matriline; simp only [List.length_append, List.length_cons, List.length_nil]; omega), by (have h8 := law_lens (show specIsLaw x0 = true by rw [← lawT_eq]; simpa using hc1); have h7 := yesNo_len x0.patriline; have h6 := yesNo_len x0.matriline; have h5 := answer_len x0.patriline; have h4 := answer_len x0.matriline; simp only [List.length_append, List.length_cons, List.length_nil]; omega), by (have h8 := law_lens (show specIsLaw x0 = true by rw [← lawT_eq]; simpa using hc1); have h7 := yesNo_len x0.patriline; have h6 := yesNo_len x0.matriline; have h5 := answer_len x0.patriline; have h4 := answer_len x0.matriline; simp only [List.length_append, List.length_cons, List.length_nil]; omega), by (have h8 := law_bds (show specIsLaw x0 = true by rw [← lawT_eq]; simpa using hc1); omega), by (have h8 := law_bds (show specIsLaw x0 = true by rw [← lawT_eq]; simpa using hc1); omega), by (have h8 := law_bds (show specIsLaw x0 = true by rw [← lawT_eq]; simpa using hc1); omega), by (have h8 := law_bds (show specIsLaw x0 = true by rw [← lawT_eq]; simpa using hc1); omega), by (have h8 := law_bds (show specIsLaw x0 = true by rw [← lawT_eq]; simpa using hc1); omega), by (have h8 := law_bds (show specIsLaw x0 = true by rw [← lawT_eq]; simpa using hc1); omega), trivial, trivial, trivial⟩ ?_
      exact congrArg C8 hR
  exact Fn.go 52 Tryd.func8 (by kernel_rfl) (by kernel_rfl) (by simp [C8, Frs, FrsL]) (A8 x0) (by kernel_rfl) (aux _ rfl)
def k8 (x0 : Law) : Cl := (hres (C8 (implFmtLaw x0)), k0 (ok_impl_FormatLaw x0))
def C6 (R : (List UInt8)) : LV × List (Nat × BC) := (.str R, [])
def specFmtLaw (x0 : Law) : (List UInt8) := bif (!(specIsLaw x0)) then ([] : List UInt8) else ((((((((((((((([100, 101, 103, 114, 101, 101, 32] ++ (l1Number x0.degree)) ++ [32, 99, 97, 110, 111, 110, 32]) ++ (l1Number x0.canon)) ++ [32, 97, 102, 102, 105, 110, 105, 116, 121, 32]) ++ (l1Number x0.affinity)) ++ [32, 97, 103, 101, 32]) ++ (l1Number x0.age)) ++ [32, 119, 105, 118, 101, 115, 32]) ++ (l1Number x0.wives)) ++ [32, 104, 117, 115, 98, 97, 110, 100, 115, 32]) ++ (l1Number x0.husbands)) ++ [32, 112, 97, 116, 114, 105, 108, 105, 110, 101, 32]) ++ (answer x0.patriline)) ++ [32, 109, 97, 116, 114, 105, 108, 105, 110, 101, 32]) ++ (answer x0.matriline))
def A6 (x0 : Law) : Ann := r0 1 [1, 2] [1] (.reg 1 [] [(1, k16 x0)] [1, 2, 5] [1] [] [] [] [0] (cn (!(specIsLaw x0)) (r0 1 [1, 2] [1] (rt [] (C6 ([] : List UInt8)))) (.reg 1 [] [(2, k17 x0.degree), (7, k17 x0.canon), (12, k17 x0.affinity), (17, k17 x0.age), (22, k17 x0.wives), (27, k17 x0.husbands), (32, k18 x0.patriline), (37, k18 x0.matriline)] [2] [] [] [pf ((([100, 101, 103, 114, 101, 101, 32].length + (l1Number x0.degree).length : Nat) : Int) ≤ 9223372036854775807), pf (((([100, 101, 103, 114, 101, 101, 32] ++ (l1Number x0.degree)).length + [32, 99, 97, 110, 111, 110, 32].length : Nat) : Int) ≤ 9223372036854775807), pf ((((([100, 101, 103, 114, 101, 101, 32] ++ (l1Number x0.degree)) ++ [32, 99, 97, 110, 111, 110, 32]).length + (l1Number x0.canon).length : Nat) : Int) ≤ 9223372036854775807), pf (((((([100, 101, 103, 114, 101, 101, 32] ++ (l1Number x0.degree)) ++ [32, 99, 97, 110, 111, 110, 32]) ++ (l1Number x0.canon)).length + [32, 97, 102, 102, 105, 110, 105, 116, 121, 32].length : Nat) : Int) ≤ 9223372036854775807), pf ((((((([100, 101, 103, 114, 101, 101, 32] ++ (l1Number x0.degree)) ++ [32, 99, 97, 110, 111, 110, 32]) ++ (l1Number x0.canon)) ++ [32, 97, 102, 102, 105, 110, 105, 116, 121, 32]).length + (l1Number x0.affinity).length : Nat) : Int) ≤ 9223372036854775807), pf (((((((([100, 101, 103, 114, 101, 101, 32] ++ (l1Number x0.degree)) ++ [32, 99, 97, 110, 111, 110, 32]) ++ (l1Number x0.canon)) ++ [32, 97, 102, 102, 105, 110, 105, 116, 121, 32]) ++ (l1Number x0.affinity)).length + [32, 97, 103, 101, 32].length : Nat) : Int) ≤ 9223372036854775807), pf ((((((((([100, 101, 103, 114, 101, 101, 32] ++ (l1Number x0.degree)) ++ [32, 99, 97, 110, 111, 110, 32]) ++ (l1Number x0.canon)) ++ [32, 97, 102, 102, 105, 110, 105, 116, 121, 32]) ++ (l1Number x0.affinity)) ++ [32, 97, 103, 101, 32]).length + (l1Number x0.age).length : Nat) : Int) ≤ 9223372036854775807), pf (((((((((([100, 101, 103, 114, 101, 101, 32] ++ (l1Number x0.degree)) ++ [32, 99, 97, 110, 111, 110, 32]) ++ (l1Number x0.canon)) ++ [32, 97, 102, 102, 105, 110, 105, 116, 121, 32]) ++ (l1Number x0.affinity)) ++ [32, 97, 103, 101, 32]) ++ (l1Number x0.age)).length + [32, 119, 105, 118, 101, 115, 32].length : Nat) : Int) ≤ 9223372036854775807), pf ((((((((((([100, 101, 103, 114, 101, 101, 32] ++ (l1Number x0.degree)) ++ [32, 99, 97, 110, 111, 110, 32]) ++ (l1Number x0.canon)) ++ [32, 97, 102, 102, 105, 110, 105, 116, 121, 32]) ++ (l1Number x0.affinity)) ++ [32, 97, 103, 101, 32]) ++ (l1Number x0.age)) ++ [32, 119, 105, 118, 101, 115, 32]).length + (l1Number x0.wives).length : Nat) : Int) ≤ 9223372036854775807), pf (((((((((((([100, 101, 103, 114, 101, 101, 32] ++ (l1Number x0.degree)) ++ [32, 99, 97, 110, 111, 110, 32]) ++ (l1Number x0.canon)) ++ [32, 97, 102, 102, 105, 110, 105, 116, 121, 32]) ++ (l1Number x0.affinity)) ++ [32, 97, 103, 101, 32]) ++ (l1Number x0.age)) ++ [32, 119, 105, 118, 101, 115, 32]) ++ (l1Number x0.wives)).length + [32, 104, 117, 115, 98, 97, 110, 100, 115, 32].length : Nat) : Int) ≤ 9223372036854775807), pf ((((((((((((([100, 101, 103, 114, 101, 101, 32] ++ (l1Number x0.degree)) ++ [32, 99, 97, 110, 111, 110, 32]) ++ (l1Number x0.canon)) ++ [32, 97, 102, 102, 105, 110, 105, 116, 121, 32]) ++ (l1Number x0.affinity)) ++ [32, 97, 103, 101, 32]) ++ (l1Number x0.age)) ++ [32, 119, 105, 118, 101, 115, 32]) ++ (l1Number x0.wives)) ++ [32, 104, 117, 115, 98, 97, 110, 100, 115, 32]).length + (l1Number x0.husbands).length : Nat) : Int) ≤ 9223372036854775807), pf (((((((((((((([100, 101, 103, 114, 101, 101, 32] ++ (l1Number x0.degree)) ++ [32, 99, 97, 110, 111, 110, 32]) ++ (l1Number x0.canon)) ++ [32, 97, 102, 102, 105, 110, 105, 116, 121, 32]) ++ (l1Number x0.affinity)) ++ [32, 97, 103, 101, 32]) ++ (l1Number x0.age)) ++ [32, 119, 105, 118, 101, 115, 32]) ++ (l1Number x0.wives)) ++ [32, 104, 117, 115, 98, 97, 110, 100, 115, 32]) ++ (l1Number x0.husbands)).length + [32, 112, 97, 116, 114, 105, 108, 105, 110, 101, 32].length : Nat) : Int) ≤ 9223372036854775807), pf ((((((((((((((([100, 101, 103, 114, 101, 101, 32] ++ (l1Number x0.degree)) ++ [32, 99, 97, 110, 111, 110, 32]) ++ (l1Number x0.canon)) ++ [32, 97, 102, 102, 105, 110, 105, 116, 121, 32]) ++ (l1Number x0.affinity)) ++ [32, 97, 103, 101, 32]) ++ (l1Number x0.age)) ++ [32, 119, 105, 118, 101, 115, 32]) ++ (l1Number x0.wives)) ++ [32, 104, 117, 115, 98, 97, 110, 100, 115, 32]) ++ (l1Number x0.husbands)) ++ [32, 112, 97, 116, 114, 105, 108, 105, 110, 101, 32]).length + (answer x0.patriline).length : Nat) : Int) ≤ 9223372036854775807), pf (((((((((((((((([100, 101, 103, 114, 101, 101, 32] ++ (l1Number x0.degree)) ++ [32, 99, 97, 110, 111, 110, 32]) ++ (l1Number x0.canon)) ++ [32, 97, 102, 102, 105, 110, 105, 116, 121, 32]) ++ (l1Number x0.affinity)) ++ [32, 97, 103, 101, 32]) ++ (l1Number x0.age)) ++ [32, 119, 105, 118, 101, 115, 32]) ++ (l1Number x0.wives)) ++ [32, 104, 117, 115, 98, 97, 110, 100, 115, 32]) ++ (l1Number x0.husbands)) ++ [32, 112, 97, 116, 114, 105, 108, 105, 110, 101, 32]) ++ (answer x0.patriline)).length + [32, 109, 97, 116, 114, 105, 108, 105, 110, 101, 32].length : Nat) : Int) ≤ 9223372036854775807), pf ((((((((((((((((([100, 101, 103, 114, 101, 101, 32] ++ (l1Number x0.degree)) ++ [32, 99, 97, 110, 111, 110, 32]) ++ (l1Number x0.canon)) ++ [32, 97, 102, 102, 105, 110, 105, 116, 121, 32]) ++ (l1Number x0.affinity)) ++ [32, 97, 103, 101, 32]) ++ (l1Number x0.age)) ++ [32, 119, 105, 118, 101, 115, 32]) ++ (l1Number x0.wives)) ++ [32, 104, 117, 115, 98, 97, 110, 100, 115, 32]) ++ (l1Number x0.husbands)) ++ [32, 112, 97, 116, 114, 105, 108, 105, 110, 101, 32]) ++ (answer x0.patriline)) ++ [32, 109, 97, 116, 114, 105, 108, 105, 110, 101, 32]).length + (answer x0.matriline).length : Nat) : Int) ≤ 9223372036854775807)] [] [60, 0, 4, 64, 8, 12, 68, 16, 20, 72, 24, 28, 76, 32, 36, 80, 40, 44, 84, 48, 52, 88, 56] (rt [] (C6 ((((((((((((((([100, 101, 103, 114, 101, 101, 32] ++ (l1Number x0.degree)) ++ [32, 99, 97, 110, 111, 110, 32]) ++ (l1Number x0.canon)) ++ [32, 97, 102, 102, 105, 110, 105, 116, 121, 32]) ++ (l1Number x0.affinity)) ++ [32, 97, 103, 101, 32]) ++ (l1Number x0.age)) ++ [32, 119, 105, 118, 101, 115, 32]) ++ (l1Number x0.wives)) ++ [32, 104, 117, 115, 98, 97, 110, 100, 115, 32]) ++ (l1Number x0.husbands)) ++ [32, 112, 97, 116, 114, 105, 108, 105, 110, 101, 32]) ++ (answer x0.patriline)) ++ [32, 109, 97, 116, 114, 105, 108, 105, 110, 101, 32]) ++ (answer x0.matriline)))))))
theorem fmtLaw_eq (x : Law) : implFmtLaw x = specFmtLaw x := by
  unfold implFmtLaw specFmtLaw
  rw [lawT_eq]
  cases c : specIsLaw x
  · rfl
  · have b := law_bds c
    rw [number_eq b.1.1, number_eq b.2.1.1, number_eq b.2.2.1.1, number_eq b.2.2.2.1.1, number_eq b.2.2.2.2.1.1, number_eq b.2.2.2.2.2.1]
    rfl
theorem ok_spec_FormatLaw (x0 : Law) : FnT Tryd.prog 6 [.agg (cLaw false x0)] (C6 (specFmtLaw x0)) := by
  have aux : ∀ R, specFmtLaw x0 = R → slim (C6 R) (A6 x0) [] := by
    intro R hR
    refine rg trivial ?_
    refine rg ⟨trivial, trivial⟩ ?_
    revert hR; refine cd (fun hc1 hR => ?_) fun hc1 hR => ?_
    ·
      refine rg trivial ?_
      exact congrArg C6 hR
    ·
      refine rg ⟨by (have h8 := law_lens2 (show specIsLaw x0 = true by simpa using hc1); have h7 := yesNo_len x0.patriline; have h6 := yesNo_len x0.matriline; have h5 := answer_len x0.patriline; have h4 := answer_len x0.matriline; simp only [List.length_append, List.length_cons, List.length_nil]; omega), by (have h8 := law_lens2 (show specIsLaw x0 = true by simpa using hc1); have h7 := yesNo_len x0.patriline; have h6 := yesNo_len x0.matriline; have h5 := answer_len x0.patriline; have h4 := answer_len x0.matriline; simp only [List.length_append, List.length_cons, List.length_nil]; omega), by (have h8 := law_lens2 (show specIsLaw x0 = true by simpa using hc1); have h7 := yesNo_len x0.patriline; have h6 := yesNo_len x0.matriline; have h5 := answer_len x0.patriline; have h4 := answer_len x0.matriline; simp only [List.length_append, List.length_cons, List.length_nil]; omega), by (have h8 := law_lens2 (show specIsLaw x0 = true by simpa using hc1); have h7 := yesNo_len x0.patriline; have h6 := yesNo_len x0.matriline; have h5 := answer_len x0.patriline; have h4 := answer_len x0.matriline; simp only [List.length_append, List.length_cons, List.length_nil]; omega), by (have h8 := law_lens2 (show specIsLaw x0 = true by simpa using hc1); have h7 := yesNo_len x0.patriline; have h6 := yesNo_len x0.matriline; have h5 := answer_len x0.patriline; have h4 := answer_len x0.matriline; simp only [List.length_append, List.length_cons, List.length_nil]; omega), by (have h8 := law_lens2 (show specIsLaw x0 = true by simpa using hc1); have h7 := yesNo_len x0.patriline; have h6 := yesNo_len x0.matriline; have h5 := answer_len x0.patriline; have h4 := answer_len x0.matriline; simp only [List.length_append, List.length_cons, List.length_nil]; omega), by (have h8 := law_lens2 (show specIsLaw x0 = true by simpa using hc1); have h7 := yesNo_len x0.patriline; have h6 := yesNo_len x0.matriline; have h5 := answer_len x0.patriline; have h4 := answer_len x0.matriline; simp only [List.length_append, List.length_cons, List.length_nil]; omega), by (have h8 := law_lens2 (show specIsLaw x0 = true by simpa using hc1); have h7 := yesNo_len x0.patriline; have h6 := yesNo_len x0.matriline; have h5 := answer_len x0.patriline; have h4 := answer_len x0.matriline; simp only [List.length_append, List.length_cons, List.length_nil]; omega), by (have h8 := law_lens2 (show specIsLaw x0 = true by simpa using hc1); have h7 := yesNo_len x0.patriline; have h6 := yesNo_len x0.matriline; have h5 := answer_len x0.patriline; have h4 := answer_len x0.matriline; simp only [List.length_append, List.length_cons, List.length_nil]; omega), by (have h8 := law_lens2 (show specIsLaw x0 = true by simpa using hc1); have h7 := yesNo_len x0.patriline; have h6 := yesNo_len x0.matriline; have h5 := answer_len x0.patriline; have h4 := answer_len x0.matriline; simp only [List.length_append, List.length_cons, List.length_nil]; omega), by (have h8 := law_lens2 (show specIsLaw x0 = true by simpa using hc1); have h7 := yesNo_len x0.patriline; have h6 := yesNo_len x0.matriline; have h5 := answer_len x0.patriline; have h4 := answer_len x0.matriline; simp only [List.length_append, List.length_cons, List.length_nil]; omega), by (have h8 := law_lens2 (show specIsLaw x0 = true by simpa using hc1); have h7 := yesNo_len x0.patriline; have h6 := yesNo_len x0.matriline; have h5 := answer_len x0.patriline; have h4 := answer_len x0.matriline; simp only [List.length_append, List.length_cons, List.length_nil]; omega), by (have h8 := law_lens2 (show specIsLaw x0 = true by simpa using hc1); have h7 := yesNo_len x0.patriline; have h6 := yesNo_len x0.matriline; have h5 := answer_len x0.patriline; have h4 := answer_len x0.matriline; simp only [List.length_append, List.length_cons, List.length_nil]; omega), by (have h8 := law_lens2 (show specIsLaw x0 = true by simpa using hc1); have h7 := yesNo_len x0.patriline; have h6 := yesNo_len x0.matriline; have h5 := answer_len x0.patriline; have h4 := answer_len x0.matriline; simp only [List.length_append, List.length_cons, List.length_nil]; omega), by (have h8 := law_lens2 (show specIsLaw x0 = true by simpa using hc1); have h7 := yesNo_len x0.patriline; have h6 := yesNo_len x0.matriline; have h5 := answer_len x0.patriline; have h4 := answer_len x0.matriline; simp only [List.length_append, List.length_cons, List.length_nil]; omega), by (have h8 := law_bds (show specIsLaw x0 = true by simpa using hc1); omega), by (have h8 := law_bds (show specIsLaw x0 = true by simpa using hc1); omega), by (have h8 := law_bds (show specIsLaw x0 = true by simpa using hc1); omega), by (have h8 := law_bds (show specIsLaw x0 = true by simpa using hc1); omega), by (have h8 := law_bds (show specIsLaw x0 = true by simpa using hc1); omega), by (have h8 := law_bds (show specIsLaw x0 = true by simpa using hc1); omega), trivial, trivial, trivial⟩ ?_
      exact congrArg C6 hR
  exact Fn.go 45 Tryd.func6 (by kernel_rfl) (by kernel_rfl) (by simp [C6, Frs, FrsL]) (A6 x0) (by kernel_rfl) (aux _ rfl)
def k6 (x0 : Law) : Cl := (hres (C6 (specFmtLaw x0)), k0 (ok_spec_FormatLaw x0))
end Go.Proofs.YtepefimocflfkabDoor
