import Derived.Test.YtepefimocflfkaaM199
set_option maxHeartbeats 4000000
set_option linter.unusedSimpArgs false
set_option linter.unusedVariables false
namespace Go.Proofs.Ytepefimocflfkaa
open Go Go.Lite Go.Proofs
def C72 (R : (List Event)) : LV × List (Nat × BC) := (.own 0, [(0, .arr 6 R.length (rowOf (cEvent true) R))])
def l11Events (x0 : Family) : (List Event) := loopN (fun i1 (v1 : (List Event)) next => next (v1 ++ [(Event.mk 1 ((x0.people.getD i1 default).born) ((x0.people.getD i1 default).name) ((x0.people.getD i1 default).sex) ((x0.people.getD i1 default).father) ((x0.people.getD i1 default).mother))])) (fun (v1 : (List Event)) => loopN (fun i2 (v2 : (List Event)) next => next (v2 ++ [(Event.mk 2 ((x0.unions.getD i2 default).from0) ([] : List UInt8) 0 ((x0.unions.getD i2 default).man) ((x0.unions.getD i2 default).woman))])) (fun (v2 : (List Event)) => loopN (fun i3 (v3 : (List Event)) next => bif (decide (0 ≤ ((x0.unions.getD i3 default).to))) then (next (v3 ++ [(Event.mk 3 ((x0.unions.getD i3 default).to) ([] : List UInt8) 0 ((x0.unions.getD i3 default).man) ((x0.unions.getD i3 default).woman))])) else (next v3)) (fun (v3 : (List Event)) => loopN (fun i4 (v4 : (List Event)) next => bif (decide (0 ≤ ((x0.people.getD i4 default).died))) then (next (v4 ++ [(Event.mk 4 ((x0.people.getD i4 default).died) ([] : List UInt8) 0 ((i4 : Nat) : Int) 0)])) else (next v4)) (fun (v4 : (List Event)) => loopN (fun i5 (v5 : (List Int)) next => next (v5 ++ [(8 * ((v4.getD i5 default).year)) + ((v4.getD i5 default).kind)])) (fun (v5 : (List Int)) => loopN (fun i6 (v6 : (List Event)) next => next (v6 ++ [(v4.getD (((l11Order v5).getD i6 default).toNat) default)])) (fun (v6 : (List Event)) => v6) ((l11Order v5).length) 0 ([] : List Event)) v4.length 0 ([] : List Int)) x0.people.length 0 v3) x0.unions.length 0 v2) x0.unions.length 0 v1) x0.people.length 0 ([] : List Event)
def D72b1 (x0 : Family) (i1 : Nat) (v1 : (List Event)) : Dl := ⟨[(22, .int .i64 ((i1 : Nat) : Int)), (3, .own 20003)], [(20003, .arr 6 v1.length (rowOf (cEvent true) v1))]⟩
def D72b2 (x0 : Family) (i1 : Nat) (v1 : (List Event)) (i2 : Nat) (v2 : (List Event)) : Dl := ⟨[(44, .int .i64 ((i2 : Nat) : Int)), (3, .own 30003)], [(30003, .arr 6 v2.length (rowOf (cEvent true) v2))]⟩
def D72b3 (x0 : Family) (i1 : Nat) (v1 : (List Event)) (i2 : Nat) (v2 : (List Event)) (i3 : Nat) (v3 : (List Event)) : Dl := ⟨[(62, .int .i64 ((i3 : Nat) : Int)), (3, .own 20003)], [(20003, .arr 6 v3.length (rowOf (cEvent true) v3))]⟩
def D72b4 (x0 : Family) (i1 : Nat) (v1 : (List Event)) (i2 : Nat) (v2 : (List Event)) (i3 : Nat) (v3 : (List Event)) (i4 : Nat) (v4 : (List Event)) : Dl := ⟨[(83, .int .i64 ((i4 : Nat) : Int)), (3, .own 30003)], [(30003, .arr 6 v4.length (rowOf (cEvent true) v4))]⟩
def D72b5 (x0 : Family) (i1 : Nat) (v1 : (List Event)) (i2 : Nat) (v2 : (List Event)) (i3 : Nat) (v3 : (List Event)) (i4 : Nat) (v4 : (List Event)) (i5 : Nat) (v5 : (List Int)) : Dl := ⟨[(102, .int .i64 ((i5 : Nat) : Int)), (12, .own 20012)], [(20012, .arr 1 v5.length (rowOf (cInt .i64) v5))]⟩
def D72b6 (x0 : Family) (i1 : Nat) (v1 : (List Event)) (i2 : Nat) (v2 : (List Event)) (i3 : Nat) (v3 : (List Event)) (i4 : Nat) (v4 : (List Event)) (i5 : Nat) (v5 : (List Int)) (i6 : Nat) (v6 : (List Event)) : Dl := ⟨[(120, .int .i64 ((i6 : Nat) : Int)), (15, .own 20015)], [(20015, .arr 6 v6.length (rowOf (cEvent true) v6))]⟩
def A72b6 (x0 : Family) (i1 : Nat) (v1 : (List Event)) (i2 : Nat) (v2 : (List Event)) (i3 : Nat) (v3 : (List Event)) (i4 : Nat) (v4 : (List Event)) (i5 : Nat) (v5 : (List Int)) (i6 : Nat) (v6 : (List Event)) : Ann := r0 1 [2, 3, 15, 118, 119, 120, 121] [1118, 20015, 30003] (cn (decide (((i6 : Nat) : Int) < (((l11Order v5).length : Nat) : Int))) (r1 1 [2, 3, 15, 17, 118, 119, 120] [1118, 20015, 30003] [pf (0 ≤ (((i6 : Nat) : Int) : Int) ∧ (((i6 : Nat) : Int) : Int) < (((l11Order v5).length : Nat) : Int))] [0] (.reg 1 [] [(5, bsC 129 (cEvent true) ([(v4.getD (((l11Order v5).getD i6 default).toNat) default)] : List Event)), (6, ap1 130 (cEvent true) 56 v6 (v4.getD (((l11Order v5).getD i6 default).toNat) default))] [2, 3, 15, 118, 119, 120] [130, 1118, 30003] [] [pf (0 ≤ (((l11Order v5).getD i6 default) : Int) ∧ (((l11Order v5).getD i6 default) : Int) < ((v4.length : Nat) : Int))] [] [0, 4, 8] (r1 1 [2, 3, 15, 118, 119, 120] [130, 1118, 30003] [pf (inR .i64 (((i6 : Nat) : Int) + 1))] [0] (.next 0 [(20015, some 130)] (D72b6 x0 i1 v1 i2 v2 i3 v3 i4 v4 i5 v5 (i6 + 1) (v6 ++ [(v4.getD (((l11Order v5).getD i6 default).toNat) default)])))))) (r0 1 [2] [20015] (rt [(0, some 20015)] (C72 v6))))
def A72b5 (x0 : Family) (i1 : Nat) (v1 : (List Event)) (i2 : Nat) (v2 : (List Event)) (i3 : Nat) (v3 : (List Event)) (i4 : Nat) (v4 : (List Event)) (i5 : Nat) (v5 : (List Int)) : Ann := r0 1 [2, 3, 12, 100, 101, 102, 103] [20012, 30003] (cn (decide (((i5 : Nat) : Int) < ((v4.length : Nat) : Int))) (r1 1 [2, 3, 12, 14, 100, 101, 102] [14, 20012, 30003] [pf (0 ≤ (((i5 : Nat) : Int) : Int) ∧ (((i5 : Nat) : Int) : Int) < ((v4.length : Nat) : Int))] [0] (.reg 1 [] [(7, bsC 113 (cInt .i64) ([(8 * ((v4.getD i5 default).year)) + ((v4.getD i5 default).kind)] : List Int)), (8, ap1 114 (cInt .i64) 8 v5 ((8 * ((v4.getD i5 default).year)) + ((v4.getD i5 default).kind)))] [2, 3, 12, 100, 101, 102] [114, 30003] [] [pf (inR .i64 (8 * ((v4.getD i5 default).year))), pf (inR .i64 ((8 * ((v4.getD i5 default).year)) + ((v4.getD i5 default).kind)))] [] [0, 4, 8, 12] (r1 1 [2, 3, 12, 100, 101, 102] [114, 30003] [pf (inR .i64 (((i5 : Nat) : Int) + 1))] [0] (.next 0 [(20012, some 114)] (D72b5 x0 i1 v1 i2 v2 i3 v3 i4 v4 (i5 + 1) (v5 ++ [(8 * ((v4.getD i5 default).year)) + ((v4.getD i5 default).kind)])))))) (.reg 1 [] [(0, bsC 116 (cEvent true) ([] : List Event))] [2, 3, 12, 15] [116, 20012, 30003] [] [] [] [0] (.reg 1 [] [(1, k91 v5)] [2, 3, 15, 118, 119, 120] [116, 1118, 30003] [] [] [] [0] (lp (D72b6 x0 i1 v1 i2 v2 i3 v3 i4 v4 i5 v5) [] [116] [(20015, some 116)] (D72b6 x0 i1 v1 i2 v2 i3 v3 i4 v4 i5 v5 0 ([] : List Event)) (A72b6 x0 i1 v1 i2 v2 i3 v3 i4 v4 i5 v5)))))
def A72b4 (x0 : Family) (i1 : Nat) (v1 : (List Event)) (i2 : Nat) (v2 : (List Event)) (i3 : Nat) (v3 : (List Event)) (i4 : Nat) (v4 : (List Event)) : Ann := r0 1 [2, 3, 81, 82, 83, 84] [30003] (cn (decide (((i4 : Nat) : Int) < ((x0.people.length : Nat) : Int))) (r1 2 [2, 3, 10, 11, 81, 82, 83, 90] [11, 30003] [pf (0 ≤ (((i4 : Nat) : Int) : Int) ∧ (((i4 : Nat) : Int) : Int) < ((x0.people.length : Nat) : Int))] [0] (cn (decide (0 ≤ ((x0.people.getD i4 default).died))) (.reg 1 [] [(5, bsC 96 (cEvent true) ([(Event.mk 4 ((x0.people.getD i4 default).died) ([] : List UInt8) 0 ((i4 : Nat) : Int) 0)] : List Event)), (6, ap1 97 (cEvent true) 56 v4 (Event.mk 4 ((x0.people.getD i4 default).died) ([] : List UInt8) 0 ((i4 : Nat) : Int) 0))] [2, 3, 81, 82, 83] [97] [] [] [] [0, 4] (r1 1 [2, 3, 81, 82, 83] [97] [pf (inR .i64 (((i4 : Nat) : Int) + 1))] [0] (.next 0 [(30003, some 97)] (D72b4 x0 i1 v1 i2 v2 i3 v3 (i4 + 1) (v4 ++ [(Event.mk 4 ((x0.people.getD i4 default).died) ([] : List UInt8) 0 ((i4 : Nat) : Int) 0)]))))) (r1 1 [2, 3, 81, 82, 83] [30003] [pf (inR .i64 (((i4 : Nat) : Int) + 1))] [0] (.next 0 [(30003, some 30003)] (D72b4 x0 i1 v1 i2 v2 i3 v3 (i4 + 1) v4))))) (.reg 1 [] [(0, bsC 99 (cInt .i64) ([] : List Int))] [2, 3, 12] [99, 30003] [] [] [] [0] (r0 1 [2, 3, 12, 100, 101, 102] [99, 30003] (lp (D72b5 x0 i1 v1 i2 v2 i3 v3 i4 v4) [] [99] [(20012, some 99)] (D72b5 x0 i1 v1 i2 v2 i3 v3 i4 v4 0 ([] : List Int)) (A72b5 x0 i1 v1 i2 v2 i3 v3 i4 v4)))))
def A72b3 (x0 : Family) (i1 : Nat) (v1 : (List Event)) (i2 : Nat) (v2 : (List Event)) (i3 : Nat) (v3 : (List Event)) : Ann := r0 1 [1, 2, 3, 60, 61, 62, 63] [1, 20003] (cn (decide (((i3 : Nat) : Int) < ((x0.unions.length : Nat) : Int))) (r1 2 [1, 2, 3, 9, 60, 61, 62, 68] [1, 9, 20003] [pf (0 ≤ (((i3 : Nat) : Int) : Int) ∧ (((i3 : Nat) : Int) : Int) < ((x0.unions.length : Nat) : Int))] [0] (cn (decide (0 ≤ ((x0.unions.getD i3 default).to))) (.reg 1 [] [(8, bsC 77 (cEvent true) ([(Event.mk 3 ((x0.unions.getD i3 default).to) ([] : List UInt8) 0 ((x0.unions.getD i3 default).man) ((x0.unions.getD i3 default).woman))] : List Event)), (9, ap1 78 (cEvent true) 56 v3 (Event.mk 3 ((x0.unions.getD i3 default).to) ([] : List UInt8) 0 ((x0.unions.getD i3 default).man) ((x0.unions.getD i3 default).woman)))] [1, 2, 3, 60, 61, 62] [1, 78] [] [] [] [0, 4] (r1 1 [1, 2, 3, 60, 61, 62] [1, 78] [pf (inR .i64 (((i3 : Nat) : Int) + 1))] [0] (.next 0 [(20003, some 78)] (D72b3 x0 i1 v1 i2 v2 (i3 + 1) (v3 ++ [(Event.mk 3 ((x0.unions.getD i3 default).to) ([] : List UInt8) 0 ((x0.unions.getD i3 default).man) ((x0.unions.getD i3 default).woman))]))))) (r1 1 [1, 2, 3, 60, 61, 62] [1, 20003] [pf (inR .i64 (((i3 : Nat) : Int) + 1))] [0] (.next 0 [(20003, some 20003)] (D72b3 x0 i1 v1 i2 v2 (i3 + 1) v3))))) (r0 1 [2, 3, 81, 82, 83] [20003] (lp (D72b4 x0 i1 v1 i2 v2 i3 v3) [] [20003] [(30003, some 20003)] (D72b4 x0 i1 v1 i2 v2 i3 v3 0 v3) (A72b4 x0 i1 v1 i2 v2 i3 v3))))
def A72b2 (x0 : Family) (i1 : Nat) (v1 : (List Event)) (i2 : Nat) (v2 : (List Event)) : Ann := r0 1 [1, 2, 3, 42, 43, 44, 45] [1, 30003] (cn (decide (((i2 : Nat) : Int) < ((x0.unions.length : Nat) : Int))) (r1 1 [1, 2, 3, 7, 42, 43, 44] [1, 7, 30003] [pf (0 ≤ (((i2 : Nat) : Int) : Int) ∧ (((i2 : Nat) : Int) : Int) < ((x0.unions.length : Nat) : Int))] [0] (.reg 1 [] [(8, bsC 56 (cEvent true) ([(Event.mk 2 ((x0.unions.getD i2 default).from0) ([] : List UInt8) 0 ((x0.unions.getD i2 default).man) ((x0.unions.getD i2 default).woman))] : List Event)), (9, ap1 57 (cEvent true) 56 v2 (Event.mk 2 ((x0.unions.getD i2 default).from0) ([] : List UInt8) 0 ((x0.unions.getD i2 default).man) ((x0.unions.getD i2 default).woman)))] [1, 2, 3, 42, 43, 44] [1, 57] [] [] [] [0, 4] (r1 1 [1, 2, 3, 42, 43, 44] [1, 57] [pf (inR .i64 (((i2 : Nat) : Int) + 1))] [0] (.next 0 [(30003, some 57)] (D72b2 x0 i1 v1 (i2 + 1) (v2 ++ [(Event.mk 2 ((x0.unions.getD i2 default).from0) ([] : List UInt8) 0 ((x0.unions.getD i2 default).man) ((x0.unions.getD i2 default).woman))])))))) (r0 1 [1, 2, 3, 60, 61, 62] [1, 30003] (lp (D72b3 x0 i1 v1 i2 v2) [] [30003] [(20003, some 30003)] (D72b3 x0 i1 v1 i2 v2 0 v2) (A72b3 x0 i1 v1 i2 v2))))
def A72b1 (x0 : Family) (i1 : Nat) (v1 : (List Event)) : Ann := r0 1 [1, 2, 3, 20, 21, 22, 23] [1, 20003] (cn (decide (((i1 : Nat) : Int) < ((x0.people.length : Nat) : Int))) (r1 1 [1, 2, 3, 5, 20, 21, 22] [1, 5, 20003] [pf (0 ≤ (((i1 : Nat) : Int) : Int) ∧ (((i1 : Nat) : Int) : Int) < ((x0.people.length : Nat) : Int))] [0] (.reg 1 [] [(12, bsC 38 (cEvent true) ([(Event.mk 1 ((x0.people.getD i1 default).born) ((x0.people.getD i1 default).name) ((x0.people.getD i1 default).sex) ((x0.people.getD i1 default).father) ((x0.people.getD i1 default).mother))] : List Event)), (13, ap1 39 (cEvent true) 56 v1 (Event.mk 1 ((x0.people.getD i1 default).born) ((x0.people.getD i1 default).name) ((x0.people.getD i1 default).sex) ((x0.people.getD i1 default).father) ((x0.people.getD i1 default).mother)))] [1, 2, 3, 20, 21, 22] [1, 39] [] [] [] [0, 4] (r1 1 [1, 2, 3, 20, 21, 22] [1, 39] [pf (inR .i64 (((i1 : Nat) : Int) + 1))] [0] (.next 0 [(20003, some 39)] (D72b1 x0 (i1 + 1) (v1 ++ [(Event.mk 1 ((x0.people.getD i1 default).born) ((x0.people.getD i1 default).name) ((x0.people.getD i1 default).sex) ((x0.people.getD i1 default).father) ((x0.people.getD i1 default).mother))])))))) (r0 1 [1, 2, 3, 42, 43, 44] [1, 20003] (lp (D72b2 x0 i1 v1) [] [20003] [(30003, some 20003)] (D72b2 x0 i1 v1 0 v1) (A72b2 x0 i1 v1))))
def A72 (x0 : Family) : Ann := .reg 2 [] [(1000, bsC 18 (cEvent true) ([] : List Event))] [1, 2, 3] [1, 18] [] [] [] [0] (r0 1 [1, 2, 3, 20, 21, 22] [1, 18] (lp (D72b1 x0) [] [18] [(20003, some 18)] (D72b1 x0 0 ([] : List Event)) (A72b1 x0)))
theorem ok_spec_l11Events (x0 : Family) (hx : x0.people.length ≤ 1048576) (hu : x0.unions.length ≤ 1048576) (hn : ∀ p ∈ x0.people, p.name.length ≤ 1048576) (hf : specIsFamily x0 = true) : FnT Try.prog 72 [.agg (cFamily false x0)] (C72 (l11Events x0)) := by
  have aux : ∀ R, l11Events x0 = R → slim (C72 R) (A72 x0) [] := by
    intro R hR
    refine rg ⟨trivial, trivial⟩ ?_
    refine rg trivial ?_
    revert hR; refine lN (fun i v => EvI i v) (by (exact EvI.nil)) rfl fun i1 v1 F1 hn1 hI1 hR hK1 => ?_
    refine rg trivial ?_
    refine ⟨fun hc1 => ?_, fun hc1 => ?_⟩
    · have hii1 : i1 < x0.people.length := by have := of_decide_eq_true hc1; omega
      replace hR := loopN_step hR hii1
      refine rg ⟨by (intros; omega), trivial⟩ ?_
      refine rg ⟨trivial, by (have h9 := fam_n hf; have h8 := hI1.len; (try simp only [inR]); omega), trivial⟩ ?_
      refine rg ⟨by (have h9 := fam_n hf; have h8 := hI1.len; (try simp only [inR]); omega), trivial⟩ ?_
      exact hK1 (v1 ++ [(Event.mk 1 ((x0.people.getD i1 default).born) ((x0.people.getD i1 default).name) ((x0.people.getD i1 default).sex) ((x0.people.getD i1 default).father) ((x0.people.getD i1 default).mother))]) hii1 (by (exact hI1.snoc (by have h9 := fam_p hf hii1; have h8 := h9.born; omega) (by decide))) hR
    · obtain rfl : i1 = x0.people.length := by have := of_decide_eq_false hc1; omega
      replace hR := loopN_end hR (Nat.lt_irrefl _)
      refine rg trivial ?_
      revert hR; refine lN (fun i v => EvI (40 + i) v) (by (exact hI1.mono (by have h9 := fam_n hf; omega))) rfl fun i2 v2 F2 hn2 hI2 hR hK2 => ?_
      refine rg trivial ?_
      refine ⟨fun hc2 => ?_, fun hc2 => ?_⟩
      · have hii2 : i2 < x0.unions.length := by have := of_decide_eq_true hc2; omega
        replace hR := loopN_step hR hii2
        refine rg ⟨by (intros; omega), trivial⟩ ?_
        refine rg ⟨trivial, by (have h9 := fam_n hf; have h8 := hI2.len; (try simp only [inR]); omega), trivial⟩ ?_
        refine rg ⟨by (have h9 := fam_n hf; have h8 := hI1.len; (try simp only [inR]); omega), trivial⟩ ?_
        exact hK2 (v2 ++ [(Event.mk 2 ((x0.unions.getD i2 default).from0) ([] : List UInt8) 0 ((x0.unions.getD i2 default).man) ((x0.unions.getD i2 default).woman))]) hii2 (by (exact hI2.snoc (by have h9 := fam_p hf (k := ((x0.unions.getD i2 default).man).toNat) (by have h7 := (fam_u hf hii2).man; omega); have h8 := h9.born; have h6 := (fam_u hf hii2).from0; omega) (by decide))) hR
      · obtain rfl : i2 = x0.unions.length := by have := of_decide_eq_false hc2; omega
        replace hR := loopN_end hR (Nat.lt_irrefl _)
        refine rg trivial ?_
        revert hR; refine lN (fun i v => EvI (100 + i) v) (by (exact hI2.mono (by have h9 := fam_n hf; omega))) rfl fun i3 v3 F3 hn3 hI3 hR hK3 => ?_
        refine rg trivial ?_
        refine ⟨fun hc3 => ?_, fun hc3 => ?_⟩
        · have hii3 : i3 < x0.unions.length := by have := of_decide_eq_true hc3; omega
          replace hR := loopN_step hR hii3
          refine rg ⟨by (intros; omega), trivial⟩ ?_
          revert hR; refine cd (fun hc4 hR => ?_) fun hc4 hR => ?_
          ·
            refine rg ⟨trivial, by (have h9 := fam_n hf; have h8 := hI3.len; (try simp only [inR]); omega), trivial⟩ ?_
            refine rg ⟨by (have h9 := fam_n hf; have h8 := hI1.len; (try simp only [inR]); omega), trivial⟩ ?_
            exact hK3 (v3 ++ [(Event.mk 3 ((x0.unions.getD i3 default).to) ([] : List UInt8) 0 ((x0.unions.getD i3 default).man) ((x0.unions.getD i3 default).woman))]) hii3 (by (exact hI3.snoc (by have h6 := (fam_u hf hii3).to; (try simp only [decide_eq_true_eq, Bool.not_eq_true', decide_eq_false_iff_not] at *); have h9 := fam_p hf (k := ((x0.unions.getD i3 default).man).toNat) (by have h7 := (fam_u hf hii3).man; omega); have h8 := h9.born; have h5 := (fam_u hf hii3).from0; omega) (by decide))) hR
          ·
            refine rg ⟨by (have h9 := fam_n hf; have h8 := hI1.len; (try simp only [inR]); omega), trivial⟩ ?_
            exact hK3 v3 hii3 (by (exact hI3.mono (by have h9 := fam_n hf; omega))) hR
        · obtain rfl : i3 = x0.unions.length := by have := of_decide_eq_false hc3; omega
          replace hR := loopN_end hR (Nat.lt_irrefl _)
          refine rg trivial ?_
          revert hR; refine lN (fun i v => EvI (160 + i) v) (by (exact hI3.mono (by have h9 := fam_n hf; omega))) rfl fun i4 v4 F4 hn4 hI4 hR hK4 => ?_
          refine rg trivial ?_
          refine ⟨fun hc5 => ?_, fun hc5 => ?_⟩
          · have hii4 : i4 < x0.people.length := by have := of_decide_eq_true hc5; omega
            replace hR := loopN_step hR hii4
            refine rg ⟨by (intros; omega), trivial⟩ ?_
            revert hR; refine cd (fun hc6 hR => ?_) fun hc6 hR => ?_
            ·
              refine rg ⟨trivial, by (have h9 := fam_n hf; have h8 := hI4.len; (try simp only [inR]); omega), trivial⟩ ?_
              refine rg ⟨by (have h9 := fam_n hf; have h8 := hI1.len; (try simp only [inR]); omega), trivial⟩ ?_
              exact hK4 (v4 ++ [(Event.mk 4 ((x0.people.getD i4 default).died) ([] : List UInt8) 0 ((i4 : Nat) : Int) 0)]) hii4 (by (exact hI4.snoc (by have h9 := fam_p hf hii4; have h8 := h9.born; have h7 := h9.died; (try simp only [decide_eq_true_eq, Bool.not_eq_true', decide_eq_false_iff_not] at *); omega) (by decide))) hR
            ·
              refine rg ⟨by (have h9 := fam_n hf; have h8 := hI1.len; (try simp only [inR]); omega), trivial⟩ ?_
              exact hK4 v4 hii4 (by (exact hI4.mono (by have h9 := fam_n hf; omega))) hR
          · obtain rfl : i4 = x0.people.length := by have := of_decide_eq_false hc5; omega
            replace hR := loopN_end hR (Nat.lt_irrefl _)
            refine rg ⟨trivial, trivial⟩ ?_
            refine rg trivial ?_
            revert hR; refine lN (fun i v => v.length = i) (by (exact rfl)) rfl fun i5 v5 F5 hn5 hI5 hR hK5 => ?_
            refine rg trivial ?_
            refine ⟨fun hc7 => ?_, fun hc7 => ?_⟩
            · have hii5 : i5 < v4.length := by have := of_decide_eq_true hc7; omega
              replace hR := loopN_step hR hii5
              refine rg ⟨by (intros; omega), trivial⟩ ?_
              refine rg ⟨by (have h9 := hI4.at hii5; (try simp only [inR]); omega), by (have h9 := hI4.at hii5; (try simp only [inR]); omega), trivial, by (have h9 := fam_n hf; have h8 := hI4.len; (try simp only [inR]); omega), trivial⟩ ?_
              refine rg ⟨by (have h9 := fam_n hf; have h8 := hI4.len; (try simp only [inR]); omega), trivial⟩ ?_
              exact hK5 (v5 ++ [(8 * ((v4.getD i5 default).year)) + ((v4.getD i5 default).kind)]) hii5 (by (simp only [List.length_append, List.length_singleton]; omega)) hR
            · obtain rfl : i5 = v4.length := by have := of_decide_eq_false hc7; omega
              replace hR := loopN_end hR (Nat.lt_irrefl _)
              refine rg ⟨trivial, trivial⟩ ?_
              refine rg ⟨by (have h9 := fam_n hf; have h8 := hI4.len; (try simp only [inR]); omega), trivial⟩ ?_
              revert hR; refine lN (fun i v => v.length ≤ i) (by (exact Nat.le_refl _)) rfl fun i6 v6 F6 hn6 hI6 hR hK6 => ?_
              refine rg trivial ?_
              refine ⟨fun hc8 => ?_, fun hc8 => ?_⟩
              · have hii6 : i6 < (l11Order v5).length := by have := of_decide_eq_true hc8; omega
                replace hR := loopN_step hR hii6
                refine rg ⟨by (intros; omega), trivial⟩ ?_
                refine rg ⟨by (have h7 := order_rng v5 _ (getD_mem (d := (default : Int)) hii6); omega), trivial, by (have h9 := fam_n hf; have h7 := hI4.len; have h8 := order_len v5; (try simp only [inR]); omega), trivial⟩ ?_
                refine rg ⟨by (have h9 := fam_n hf; have h7 := hI4.len; have h8 := order_len v5; (try simp only [inR]); omega), trivial⟩ ?_
                exact hK6 (v6 ++ [(v4.getD (((l11Order v5).getD i6 default).toNat) default)]) hii6 (by (simp only [List.length_append, List.length_singleton]; omega)) hR
              · obtain rfl : i6 = (l11Order v5).length := by have := of_decide_eq_false hc8; omega
                replace hR := loopN_end hR (Nat.lt_irrefl _)
                refine rg trivial ?_
                exact congrArg C72 hR
  exact Fn.go 133 Try.func72 (by kernel_rfl) (by kernel_rfl) (by simp [C72, Frs, FrsL, FrsB, rowOf, cInt, cBool, cStr, cSl, FrsL_app, cPerson, cUnion, cFamily, cEvent]) (A72 x0) (by kernel_rfl) (aux _ rfl)
def k72 (x0 : Family) : Cl := (hres (C72 (l11Events x0)), k4 (ok_spec_l11Events x0))
def C30 (R : (List Event)) : LV × List (Nat × BC) := (.own 0, [(0, .arr 6 R.length (rowOf (cEvent true) R))])
def specEvents (x0 : Family) : (List Event) := bif (!(specIsFamily x0)) then ([] : List Event) else (l11Events (l11Sorted x0))
def A30 (x0 : Family) : Ann := r0 1 [1, 2] [1] (.reg 1 [] [(1, k15 x0)] [1, 2, 5] [1] [] [] [] [0] (cn (!(specIsFamily x0)) (r0 1 [1, 2] [1] (rt [(0, none)] (C30 ([] : List Event)))) (.reg 1 [] [(1, k45 x0), (2, k72 (l11Sorted x0))] [2] [1008] [] [] [] [0, 4] (rt [(0, some 1008)] (C30 (l11Events (l11Sorted x0)))))))
theorem ok_spec_EventsOf (x0 : Family) (hx : x0.people.length ≤ 1048576) (hu : x0.unions.length ≤ 1048576) (hn : ∀ p ∈ x0.people, p.name.length ≤ 1048576) : FnT Try.prog 30 [.agg (cFamily false x0)] (C30 (specEvents x0)) := by
  have aux : ∀ R, specEvents x0 = R → slim (C30 R) (A30 x0) [] := by
    intro R hR
    refine rg trivial ?_
    refine rg ⟨⟨by with_reducible assumption, by with_reducible assumption, by with_reducible assumption⟩, trivial⟩ ?_
    revert hR; refine cd (fun hc1 hR => ?_) fun hc1 hR => ?_
    ·
      refine rg trivial ?_
      exact congrArg C30 hR
    ·
      refine rg ⟨⟨by with_reducible assumption, by with_reducible assumption, by with_reducible assumption, by (simpa using hc1)⟩, ⟨by (have h0 : specIsFamily x0 = true := (by simpa using hc1); with_reducible exact sorted_p h0), by (have h0 : specIsFamily x0 = true := (by simpa using hc1); with_reducible exact sorted_u h0), by (have h0 : specIsFamily x0 = true := (by simpa using hc1); with_reducible exact sorted_nm h0), by (with_reducible exact (sorted_ok (by simpa using hc1)).1)⟩, trivial⟩ ?_
      exact congrArg C30 hR
  exact Fn.go 9 Try.func30 (by kernel_rfl) (by kernel_rfl) (by simp [C30, Frs, FrsL, FrsB, rowOf, cInt, cBool, cStr, cSl, FrsL_app, cPerson, cUnion, cFamily, cEvent]) (A30 x0) (by kernel_rfl) (aux _ rfl)
def k30 (x0 : Family) : Cl := (hres (C30 (specEvents x0)), k3 (ok_spec_EventsOf x0))
end Go.Proofs.Ytepefimocflfkaa
