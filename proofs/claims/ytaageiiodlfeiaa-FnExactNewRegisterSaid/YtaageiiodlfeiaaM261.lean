import Derived.Shelf.Strings.Cut
import Derived.Shelf.Strings.Search1
import Derived.Shelf.Small.Strs
import Derived.Lib.AppendIntMem
import Derived.Sort.LotD2
import Derived.Test.YtaageiiodlfeiaaRN1
set_option maxHeartbeats 4000000
set_option linter.unusedSimpArgs false
set_option linter.unusedVariables false
namespace Go.Proofs.Ytaageiiodlfeiaa
open Go Go.Lite Go.Proofs
open Go.Shelf Go.RowKit Go.Sort Go.Lib
def Try.lays137_ren : Go.Shelf.Ren := ⟨fun | 137 => 169 | 217 => 206 | 266 => 222 | n => n, fun | 9 => 9 | 5 => 5 | 3 => 3 | n => n, fun | n => n⟩
theorem Try.lays137 : Go.Proofs.Lays.n137 Try.prog Try.lays137_ren := {
  mixed := by kernel_rfl
  f137 := Try.func169.trans (congrArg some (by kernel_rfl))
  f217 := Try.func206.trans (congrArg some (by kernel_rfl))
  f266 := Try.func222.trans (congrArg some (by kernel_rfl))
  t3 := Try.underlying3
  a3 := Try.isAgg3
  z3 := Try.sizeOf3
  v3 := Try.zeroValue3
  t5 := Try.underlying5
  a5 := Try.isAgg5
  z5 := Try.sizeOf5
  v5 := Try.zeroValue5
  t9 := Try.underlying9
  a9 := Try.isAgg9
  z9 := Try.sizeOf9
  v9 := Try.zeroValue9 }
theorem Try.strings_IndexByte (s : ByteArray) (c : Int) (w : World) :
    Calls Try.prog 169 #[.string s, .int .u8 c] w fun e w' => e = .returned (.int .i64 (Lib.indexByte s.data.toList c.toNat.toUInt8)) ∧ w' = w := Any.strings_IndexByte Try.lays137 s c w
def Try.lays145_ren : Go.Shelf.Ren := ⟨fun | 145 => 64 | 220 => 116 | 219 => 167 | 217 => 206 | 225 => 207 | 224 => 208 | 267 => 209 | 266 => 222 | 314 => 223 | n => n, fun | 9 => 9 | 4 => 4 | 59 => 108 | 3 => 3 | 5 => 5 | 46 => 195 | 146 => 239 | 51 => 218 | n => n, fun | 1 => 0 | n => n⟩
theorem Try.lays145 : Go.Proofs.Lays.n145 Try.prog Try.lays145_ren := {
  mixed := by kernel_rfl
  f145 := Try.func64.trans (congrArg some (by kernel_rfl))
  f217 := Try.func206.trans (congrArg some (by kernel_rfl))
  f219 := Try.func167.trans (congrArg some (by kernel_rfl))
  f220 := Try.func116.trans (congrArg some (by kernel_rfl))
  f224 := Try.func208.trans (congrArg some (by kernel_rfl))
  f225 := Try.func207.trans (congrArg some (by kernel_rfl))
  f266 := Try.func222.trans (congrArg some (by kernel_rfl))
  f267 := Try.func209.trans (congrArg some (by kernel_rfl))
  f314 := Try.func223.trans (congrArg some (by kernel_rfl))
  t3 := Try.underlying3
  a3 := Try.isAgg3
  z3 := Try.sizeOf3
  v3 := Try.zeroValue3
  t4 := Try.underlying4
  a4 := Try.isAgg4
  z4 := Try.sizeOf4
  v4 := Try.zeroValue4
  t5 := Try.underlying5
  a5 := Try.isAgg5
  z5 := Try.sizeOf5
  v5 := Try.zeroValue5
  t9 := Try.underlying9
  a9 := Try.isAgg9
  z9 := Try.sizeOf9
  v9 := Try.zeroValue9
  t46 := Try.underlying195
  a46 := Try.isAgg195
  z46 := Try.sizeOf195
  v46 := Try.zeroValue195
  t51 := Try.underlying218
  a51 := Try.isAgg218
  z51 := Try.sizeOf218
  v51 := Try.zeroValue218
  t59 := Try.underlying108
  a59 := Try.isAgg108
  z59 := Try.sizeOf108
  v59 := Try.zeroValue108
  t146 := Try.underlying239
  a146 := Try.isAgg239
  z146 := Try.sizeOf239
  v146 := Try.zeroValue239
  g1 := by kernel_rfl }
theorem Try.strings_Cut (s sep : ByteArray) (m : Int) (w : World) (hs : s.size < 4294967281) (hm : w.cell? ⟨0, 0, none⟩ = some (.int .i64 m)) :
    Calls Try.prog 64 #[.string s, .string sep] w fun e w' => e = .returned (.tuple #[.string ⟨(Lib.cut s.data.toList sep.data.toList).1.toArray⟩, .string ⟨(Lib.cut s.data.toList sep.data.toList).2.1.toArray⟩, .bool (Lib.cut s.data.toList sep.data.toList).2.2]) ∧ ∃ n, w' = w.drewN n := Any.strings_Cut Try.lays145 s sep m w hs hm
theorem steps_full {l : List Step} (h : ∀ k : Nat, k < l.length → (1 ≤ (l.getD k default).kind ∧ (l.getD k default).kind ≤ 8) ∧ 0 ≤ (l.getD k default).age ∧ (l.getD k default).age ≤ 2) : ∀ s ∈ l, (1 ≤ s.kind ∧ s.kind ≤ 8) ∧ 0 ≤ s.age ∧ s.age ≤ 2 := fun s hs => by
  obtain ⟨k, hk, e⟩ := mem_getD (d := default) hs
  rw [← e]; exact h k hk
theorem rule_sane {r : Rule} (h : specIsRule r = true) : r.name.length ≤ 12 ∧ r.from0.length ≤ 8 ∧ r.to.length ≤ 8 ∧ (∀ s ∈ r.from0, (1 ≤ s.kind ∧ s.kind ≤ 8) ∧ 0 ≤ s.age ∧ s.age ≤ 2) ∧ (∀ s ∈ r.to, (1 ≤ s.kind ∧ s.kind ≤ 8) ∧ 0 ≤ s.age ∧ s.age ≤ 2) ∧ 0 ≤ r.sex ∧ r.sex ≤ 2 := by
  unfold specIsRule at h
  rw [cond_f_iff, cond_f_iff, or_f_iff (a := !(l1In ((r.from0.length : Nat) : Int) 1 4))] at h
  obtain ⟨h0, ⟨h1, h2⟩, h3⟩ := h
  rw [in_not, or_f_iff, decide_eq_false_iff_not, decide_eq_false_iff_not] at h1
  have h2 : l4Before r.to r.from0 = true := by simpa using h2
  have h4 : ∃ s : Int, specIsType (KinType.mk s r.from0) = true ∧ specIsType (KinType.mk s r.to) = true := by
    revert h3
    refine loopW_to (fun (v : Bool × Int) => 1 ≤ v.2 ∧ (v.1 = true → ∃ s : Int, specIsType (KinType.mk s r.from0) = true ∧ specIsType (KinType.mk s r.to) = true)) (fun v => (3 - v.2).toNat) (fun (b : Bool) => b = true → ∃ s : Int, specIsType (KinType.mk s r.from0) = true ∧ specIsType (KinType.mk s r.to) = true) (fun v next hv hn => ?_) _ _ (Nat.lt_succ_self _) ⟨by dsimp only; omega, fun h => (by cases h)⟩
    refine cond_both (p := fun (b : Bool) => b = true → ∃ s : Int, specIsType (KinType.mk s r.from0) = true ∧ specIsType (KinType.mk s r.to) = true) (fun c => ?_) (fun _ => hv.2)
    have c := of_decide_eq_true c
    refine cond_both (p := fun (b : Bool) => b = true → ∃ s : Int, specIsType (KinType.mk s r.from0) = true ∧ specIsType (KinType.mk s r.to) = true) (fun _ => hn _ ⟨by dsimp only; omega, hv.2⟩ (by dsimp only; omega)) (fun c2 => ?_)
    refine cond_both (p := fun (b : Bool) => b = true → ∃ s : Int, specIsType (KinType.mk s r.from0) = true ∧ specIsType (KinType.mk s r.to) = true) (fun _ h => (by cases h)) (fun c3 => hn _ ⟨by dsimp only; omega, fun _ => ⟨v.2, ?_, ?_⟩⟩ (by dsimp only; omega))
    · rw [or_f_iff] at c2; simpa using c2.2
    · rw [or_f_iff] at c3; simpa using c3.1
  obtain ⟨s, h5, h6⟩ := h4
  have hn : r.name.length ≤ 12 := by
    have h7 : specIsName r.name = true := by
      simp only [or_f_iff, not_f_iff] at h0
      first | exact h0.1.1 | exact h0.1 | simpa using h0.1.1
    unfold specIsName at h7
    rw [loopN_all] at h7
    simp only [l1In, Bool.and_eq_true, decide_eq_true_eq] at h7
    omega
  have hsx : 0 ≤ r.sex ∧ r.sex ≤ 2 := by
    simp only [or_f_iff, not_f_iff, l1In, Bool.and_eq_true, decide_eq_true_eq] at h0
    omega
  exact ⟨hn, type_len h5, type_len h6, steps_full (type_bd h5), steps_full (type_bd h6), hsx⟩
def C198 (R : (List (List UInt8))) : LV × List (Nat × BC) := (.own 0, [(0, .arr 1 R.length (rowOf (cStr) R))])
def l1Split (x0 : List UInt8) (x1 : Int) : (List (List UInt8)) := loopN (fun i1 (v1 : (List (List UInt8)) × Int) next => bif (decide (((x0.getD i1 0).toNat : Int) = x1)) then (next ((v1.1 ++ ([(x0.drop v1.2.toNat).take (i1 - v1.2.toNat)] : List (List UInt8))), ((i1 : Nat) : Int) + 1)) else (next (v1.1, v1.2))) (fun (v1 : (List (List UInt8)) × Int) => (v1.1 ++ ([(x0.drop v1.2.toNat).take (x0.length - v1.2.toNat)] : List (List UInt8)))) x0.length 0 (([] : List (List UInt8)), 0)
def D198b1 (x0 : List UInt8) (x1 : Int) (i1 : Nat) (v1 : (List (List UInt8)) × Int) : Dl := ⟨[(7, .int .i64 ((i1 : Nat) : Int)), (5, .own 20005), (6, .int .i64 v1.2)], [(20005, .arr 1 v1.1.length (rowOf (cStr) v1.1))]⟩
def A198b1 (x0 : List UInt8) (x1 : Int) (i1 : Nat) (v1 : (List (List UInt8)) × Int) : Ann := r0 1 [0, 1, 4, 5, 6, 7, 12] [20005] (cn (decide (((i1 : Nat) : Int) < ((x0.length : Nat) : Int))) (r1 1 [0, 1, 4, 5, 6, 7, 19] [20005] [pf (0 ≤ (((i1 : Nat) : Int) : Int) ∧ (((i1 : Nat) : Int) : Int) < ((x0.length : Nat) : Int))] [0] (cn (decide (((x0.getD i1 0).toNat : Int) = x1)) (.reg 1 [] [(5, bsC 25 (cStr) (([(x0.drop v1.2.toNat).take (i1 - v1.2.toNat)] : List (List UInt8)) : List (List UInt8))), (6, apC 26 (cStr) 16 v1.1 ([(x0.drop v1.2.toNat).take (i1 - v1.2.toNat)] : List (List UInt8)))] [0, 1, 4, 5, 6, 7] [26] [] [pf (0 ≤ (v1.2 : Int) ∧ (v1.2 : Int) ≤ ((i1 : Nat) : Int) ∧ (((i1 : Nat) : Int) : Int) ≤ ((x0.length : Nat) : Int))] [] [0, 4, 8] (r1 1 [0, 1, 4, 5, 6, 7] [26] [pf (inR .i64 (((i1 : Nat) : Int) + 1))] [0] (r1 1 [0, 1, 4, 5, 6, 7] [26] [pf (inR .i64 (((i1 : Nat) : Int) + 1))] [0] (.next 0 [(20005, some 26)] (D198b1 x0 x1 (i1 + 1) ((v1.1 ++ ([(x0.drop v1.2.toNat).take (i1 - v1.2.toNat)] : List (List UInt8))), ((i1 : Nat) : Int) + 1)))))) (r1 1 [0, 1, 4, 5, 6, 7] [20005] [pf (inR .i64 (((i1 : Nat) : Int) + 1))] [0] (.next 0 [(20005, some 20005)] (D198b1 x0 x1 (i1 + 1) (v1.1, v1.2)))))) (.reg 1 [] [(4, bsC 33 (cStr) (([(x0.drop v1.2.toNat).take (x0.length - v1.2.toNat)] : List (List UInt8)) : List (List UInt8))), (5, apC 34 (cStr) 16 v1.1 ([(x0.drop v1.2.toNat).take (x0.length - v1.2.toNat)] : List (List UInt8)))] [4] [34] [] [pf (0 ≤ (v1.2 : Int) ∧ (v1.2 : Int) ≤ ((x0.length : Nat) : Int) ∧ (((x0.length : Nat) : Int) : Int) ≤ ((x0.length : Nat) : Int))] [] [0, 4, 8] (rt [(0, some 34)] (C198 (v1.1 ++ ([(x0.drop v1.2.toNat).take (x0.length - v1.2.toNat)] : List (List UInt8)))))))
def A198 (x0 : List UInt8) (x1 : Int) : Ann := .reg 3 [] [(1000, bsC 8 (cStr) ([] : List (List UInt8)))] [0, 1, 4, 5, 6] [8] [] [] [] [0] (r0 1 [0, 1, 4, 5, 6, 7] [8] (lp (D198b1 x0 x1) [] [8] [(20005, some 8)] (D198b1 x0 x1 0 (([] : List (List UInt8)), 0)) (A198b1 x0 x1)))
theorem ok_spec_l1Split (x0 : List UInt8) (x1 : Int) (h : x0.length ≤ 1048576) : FnT Try.prog 198 [.str x0, .int .u8 x1] (C198 (l1Split x0 x1)) := by
  have aux : ∀ R, l1Split x0 x1 = R → slim (C198 R) (A198 x0 x1) [] := by
    intro R hR
    refine rg ⟨trivial, trivial⟩ ?_
    refine rg trivial ?_
    revert hR; refine lN (fun i v => v.1.length ≤ i ∧ 0 ≤ v.2 ∧ v.2 ≤ i) (by trivial) rfl fun i1 v1 F1 hn1 hI1 hR hK1 => ?_
    refine rg trivial ?_
    refine ⟨fun hc1 => ?_, fun hc1 => ?_⟩
    · have hii1 : i1 < x0.length := by have := of_decide_eq_true hc1; omega
      replace hR := loopN_step hR hii1
      refine rg ⟨by (intros; omega), trivial⟩ ?_
      revert hR; refine cd (fun hc2 hR => ?_) fun hc2 hR => ?_
      ·
        refine rg ⟨by (intros; omega), trivial, by (simp; omega), trivial⟩ ?_
        refine rg ⟨by ( intros; simp only [inR]; omega), trivial⟩ ?_
        refine rg ⟨by ( intros; simp only [inR]; omega), trivial⟩ ?_
        exact hK1 ((v1.1 ++ ([(x0.drop v1.2.toNat).take (i1 - v1.2.toNat)] : List (List UInt8))), ((i1 : Nat) : Int) + 1) hii1 (by ((try clear hR hK1); intros; (try simp only [decide_eq_true_eq, decide_eq_false_iff_not, Bool.or_eq_true, Bool.and_eq_true, or_f_iff, not_f_iff, not_t_iff, Bool.not_eq_true', inR] at *); (repeat' apply And.intro) <;> (first | (intros; omega) | (simp_all [inR]; done)))) hR
      ·
        refine rg ⟨by ( intros; simp only [inR]; omega), trivial⟩ ?_
        exact hK1 (v1.1, v1.2) hii1 (by ( intros; simp only [inR]; omega)) hR
    · obtain rfl : i1 = x0.length := by have := of_decide_eq_false hc1; omega
      replace hR := loopN_end hR (Nat.lt_irrefl _)
      refine rg ⟨by (intros; omega), trivial, by (simp; omega), trivial⟩ ?_
      exact congrArg C198 hR
  exact Fn.go 35 Try.func198 (by kernel_rfl) (by kernel_rfl) (by simp [C198, Frs, FrsL, FrsB, rowOf, cInt, cBool, cStr, cSl, FrsL_app, cPerson, cUnion, cFamily, cStep, cKinType, cRule, cEntry, cTerminology, cLaw, cCustom, cRegister]) (A198 x0 x1) (by kernel_rfl) (aux _ rfl)
def k198 (x0 : List UInt8) (x1 : Int) : Cl := (hres (C198 (l1Split x0 x1)), k1 (ok_spec_l1Split x0 x1))
theorem l1Split_part (x : List UInt8) (c : Int) (k : Nat) : ((l1Split x c).getD k default).length ≤ x.length := by
  have all : ∀ y ∈ l1Split x c, y.length ≤ x.length := by
    have snoc : ∀ (l : List (List UInt8)) (a b : Nat), (∀ y ∈ l, y.length ≤ x.length) → ∀ y ∈ l ++ [(x.drop a).take b], y.length ≤ x.length := fun l a b hl y h => by
      rcases List.mem_append.1 h with h | h
      · exact hl y h
      · rw [List.mem_singleton] at h; subst h; simp only [List.length_take, List.length_drop]; omega
    unfold l1Split
    exact loopN_to (fun i (v : List (List UInt8) × Int) => ∀ y ∈ v.1, y.length ≤ x.length) (fun (r : List (List UInt8)) => ∀ y ∈ r, y.length ≤ x.length) (fun y h => by cases h) (fun i v next hi hv hn => cond_both (p := fun (r : List (List UInt8)) => ∀ y ∈ r, y.length ≤ x.length) (fun _ => hn _ (snoc _ _ _ hv)) (fun _ => hn _ hv)) (fun v hv => snoc _ _ _ hv)
  rw [List.getD_eq_getElem?_getD]
  cases e : (l1Split x c)[k]? with
  | none => exact Nat.zero_le _
  | some y => exact all y (List.mem_of_getElem? e)
theorem getD_short {l : List (List UInt8)} {n : Nat} (h : ∀ y ∈ l, y.length ≤ n) (k : Nat) : (l.getD k default).length ≤ n := by
  rw [List.getD_eq_getElem?_getD]
  cases e : l[k]? with
  | none => exact Nat.zero_le _
  | some y => exact h y (List.mem_of_getElem? e)
end Go.Proofs.Ytaageiiodlfeiaa
