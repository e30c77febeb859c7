import Derived.Test.YtepefimocflfkabDoorVQ1
set_option maxHeartbeats 4000000
set_option linter.unusedSimpArgs false
set_option linter.unusedVariables false
namespace Go.Proofs.YtepefimocflfkabDoor
open Go Go.Lite Go.Proofs
theorem fmtLaw_len (x : Law) : (implFmtLaw x).length ≤ 200 := by
  unfold implFmtLaw
  rw [lawT_eq]
  cases c : specIsLaw x with
  | false => simp
  | true =>
    have h := law_lens c
    have h1 := yesNo_len x.patriline
    have h2 := yesNo_len x.matriline
    simp only [Bool.not_true, cond_false, List.length_append, List.length_cons, List.length_nil]
    omega
theorem itoa_nosp {n : Int} : (32 : UInt8) ∉ itoa n := by
  intro h
  have := ((decDigits_is (n.toNat + 1) n.toNat (Nat.lt_succ_self _)).2.1 32 h).1
  exact absurd this (by decide)
theorem yesNo_nosp (b : Bool) : (32 : UInt8) ∉ yesNo b := by cases b <;> decide
theorem yesNo_is (b : Bool) : (yesNo b == [121, 101, 115]) = b := by cases b <;> rfl
theorem law_split {x : Law} (h : specIsLaw x = true) : pieces 32 (implFmtLaw x) =
    [[100, 101, 103, 114, 101, 101], itoa x.degree, [99, 97, 110, 111, 110], itoa x.canon, [97, 102, 102, 105, 110, 105, 116, 121], itoa x.affinity, [97, 103, 101], itoa x.age, [119, 105, 118, 101, 115], itoa x.wives, [104, 117, 115, 98, 97, 110, 100, 115], itoa x.husbands, [112, 97, 116, 114, 105, 108, 105, 110, 101], yesNo x.patriline, [109, 97, 116, 114, 105, 108, 105, 110, 101], yesNo x.matriline] := by
  unfold implFmtLaw
  rw [lawT_eq, h]
  simp only [Bool.not_true, cond_false, List.append_assoc]
  have k1 : ∀ (w p r : List UInt8), (32 : UInt8) ∉ w → (32 : UInt8) ∉ p → pieces 32 (p ++ (32 :: (w ++ (32 :: r)))) = p :: w :: pieces 32 r := fun w p r hw hp => by
    rw [pieces_hit hp, pieces_hit hw]
  refine (pieces_hit (c := (32 : UInt8)) (p := [100, 101, 103, 114, 101, 101]) (by decide)).trans (congrArg _ ?_)
  refine (k1 [99, 97, 110, 111, 110] _ _ (by decide) itoa_nosp).trans (congrArg _ (congrArg _ ?_))
  refine (k1 [97, 102, 102, 105, 110, 105, 116, 121] _ _ (by decide) itoa_nosp).trans (congrArg _ (congrArg _ ?_))
  refine (k1 [97, 103, 101] _ _ (by decide) itoa_nosp).trans (congrArg _ (congrArg _ ?_))
  refine (k1 [119, 105, 118, 101, 115] _ _ (by decide) itoa_nosp).trans (congrArg _ (congrArg _ ?_))
  refine (k1 [104, 117, 115, 98, 97, 110, 100, 115] _ _ (by decide) itoa_nosp).trans (congrArg _ (congrArg _ ?_))
  refine (k1 [112, 97, 116, 114, 105, 108, 105, 110, 101] _ _ (by decide) itoa_nosp).trans (congrArg _ (congrArg _ ?_))
  refine (k1 [109, 97, 116, 114, 105, 108, 105, 110, 101] _ _ (by decide) (yesNo_nosp _)).trans (congrArg _ (congrArg _ ?_))
  exact pieces_miss (yesNo_nosp _)
theorem law_read {x : Law} (h : specIsLaw x = true) : implParseLaw (implFmtLaw x) = (x, true) := by
  rw [parseLaw_eq]
  unfold specParseLaw
  have e : l1Split (implFmtLaw x) 32 = pieces 32 (implFmtLaw x) := l1Split_eq (implFmtLaw x) 32
  rw [e, law_split h]
  have b := law_bds h
  have hl : (Law.mk (l1Read (itoa x.degree)) (l1Read (itoa x.canon)) (l1Read (itoa x.affinity)) (l1Read (itoa x.age)) (l1Read (itoa x.wives)) (l1Read (itoa x.husbands)) (yesNo x.patriline == [121, 101, 115]) (yesNo x.matriline == [121, 101, 115])) = x := by
    rw [l1Read_itoa (by omega), l1Read_itoa (by omega), l1Read_itoa (by omega), l1Read_itoa (by omega), l1Read_itoa (by omega), l1Read_itoa (by omega), yesNo_is, yesNo_is]
  simp only [List.length_cons, List.length_nil, List.getD_cons_zero, List.getD_cons_succ]
  rw [hl, h, ← fmtLaw_eq]
  simp
theorem custom_of {c : Custom × Bool} {p : Int} {y r : Bool} (h : (c.1.prefer, c.1.youngest, c.1.represent, c.2) = (p, y, r, true)) : c = (Custom.mk p y r, true) := by
  obtain ⟨⟨a, b, d⟩, e⟩ := c
  simp only [Prod.mk.injEq] at h
  obtain ⟨rfl, rfl, rfl, rfl⟩ := h
  rfl
theorem custom_read {p : Int} (hp : 0 ≤ p ∧ p ≤ 4) (y r : Bool) : implParse (implFormat (Custom.mk p y r)) = (Custom.mk p y r, true) := by
  have h : p = 0 ∨ p = 1 ∨ p = 2 ∨ p = 3 ∨ p = 4 := by omega
  refine custom_of ?_
  rcases h with rfl | rfl | rfl | rfl | rfl <;> cases y <;> cases r <;> decide +kernel
end Go.Proofs.YtepefimocflfkabDoor
