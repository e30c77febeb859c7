import Derived.Test.YtkkijpibajigfabDoorM5
set_option maxHeartbeats 4000000
set_option linter.unusedSimpArgs false
set_option linter.unusedVariables false
namespace Go.Proofs.YtkkijpibajigfabDoor
open Go Go.Lite Go.Proofs
def C34 (R : Bool) : LV × List (Nat × BC) := (.bool R, [])
def implIsFamily (x0 : Family) : Bool := bif ((decide (40 < ((x0.people.length : Nat) : Int))) || (decide (60 < ((x0.unions.length : Nat) : Int)))) then false else (loopN (fun i1 (v1 : (KV → Option Bool)) next => bif ((((((!(implIsName ((x0.people.getD i1 default).name))) || ((v1 (KV.s ((x0.people.getD i1 default).name))).getD false)) || ((!decide (((x0.people.getD i1 default).sex) = 1)) && (!decide (((x0.people.getD i1 default).sex) = 2)))) || (decide (((x0.people.getD i1 default).born) < 0))) || (decide (9999 < ((x0.people.getD i1 default).born)))) || ((!decide (((x0.people.getD i1 default).died) = (-1))) && ((decide (((x0.people.getD i1 default).died) < ((x0.people.getD i1 default).born))) || (decide (9999 < ((x0.people.getD i1 default).died)))))) then false else (bif ((!(parentFits x0.people ((i1 : Nat) : Int) ((x0.people.getD i1 default).father) 1 1)) || (!(parentFits x0.people ((i1 : Nat) : Int) ((x0.people.getD i1 default).mother) 2 0))) then false else (next (mset v1 (KV.s ((x0.people.getD i1 default).name)) true)))) (fun (v1 : (KV → Option Bool)) => loopN (fun i2 (v2 : Unit) next => bif (decide (10 < ((depths x0.people).getD i2 default))) then false else (next ())) (fun (v2 : Unit) => loopN (fun i3 (v3 : Unit) next => bif (!(unionFits x0 ((i3 : Nat) : Int))) then false else (next ())) (fun (v3 : Unit) => true) x0.unions.length 0 ()) ((depths x0.people).length) 0 ()) x0.people.length 0 (fun _ => none))
def D34b1 (x0 : Family) (i1 : Nat) (v1 : (KV → Option Bool)) : Dl := ⟨[(23, .int .i64 ((i1 : Nat) : Int)), (3, .mp 20003)], [(20003, .mp .str (.b v1))]⟩
def D34b2 (x0 : Family) (i1 : Nat) (v1 : (KV → Option Bool)) (i2 : Nat) (v2 : Unit) : Dl := ⟨[(99, .int .i64 ((i2 : Nat) : Int))], []⟩
def D34b3 (x0 : Family) (i1 : Nat) (v1 : (KV → Option Bool)) (i2 : Nat) (v2 : Unit) (i3 : Nat) (v3 : Unit) : Dl := ⟨[(109, .int .i64 ((i3 : Nat) : Int))], []⟩
def A34b3 (x0 : Family) (i1 : Nat) (v1 : (KV → Option Bool)) (i2 : Nat) (v2 : Unit) (i3 : Nat) (v3 : Unit) : Ann := r0 1 [1, 2, 108, 109, 110] [1] (cn (decide (((i3 : Nat) : Int) < ((x0.unions.length : Nat) : Int))) (.reg 2 [] [(1002, k55 x0 ((i3 : Nat) : Int))] [1, 2, 108, 109, 115] [1] [] [] [] [0] (cn (!(unionFits x0 ((i3 : Nat) : Int))) (r0 1 [1, 2, 108, 109] [1] (rt [] (C34 false))) (r1 1 [1, 2, 108, 109] [1] [pf (inR .i64 (((i3 : Nat) : Int) + 1))] [0] (.next 0 [] (D34b3 x0 i1 v1 i2 v2 (i3 + 1) ()))))) (r0 1 [2] [] (rt [] (C34 true))))
def A34b2 (x0 : Family) (i1 : Nat) (v1 : (KV → Option Bool)) (i2 : Nat) (v2 : Unit) : Ann := r0 1 [1, 2, 97, 98, 99, 100] [1, 1097] (cn (decide (((i2 : Nat) : Int) < (((depths x0.people).length : Nat) : Int))) (r1 2 [1, 2, 97, 98, 99, 104] [1, 1097] [pf (0 ≤ (((i2 : Nat) : Int) : Int) ∧ (((i2 : Nat) : Int) : Int) < (((depths x0.people).length : Nat) : Int))] [0] (cn (decide (10 < ((depths x0.people).getD i2 default))) (r0 1 [1, 2, 97, 98, 99] [1, 1097] (rt [] (C34 false))) (r1 1 [1, 2, 97, 98, 99] [1, 1097] [pf (inR .i64 (((i2 : Nat) : Int) + 1))] [0] (.next 0 [] (D34b2 x0 i1 v1 (i2 + 1) ()))))) (r0 1 [1, 2, 108, 109] [1] (lp (D34b3 x0 i1 v1 i2 v2) [] [] [] (D34b3 x0 i1 v1 i2 v2 0 ()) (A34b3 x0 i1 v1 i2 v2))))
def A34b1 (x0 : Family) (i1 : Nat) (v1 : (KV → Option Bool)) : Ann := r0 1 [1, 2, 3, 21, 22, 23, 24] [1, 20003] (cn (decide (((i1 : Nat) : Int) < ((x0.people.length : Nat) : Int))) (r1 1 [1, 2, 3, 4, 5, 21, 22, 23] [1, 5, 20003] [pf (0 ≤ (((i1 : Nat) : Int) : Int) ∧ (((i1 : Nat) : Int) : Int) < ((x0.people.length : Nat) : Int))] [0] (.reg 1 [] [(2, k52 ((x0.people.getD i1 default).name))] [1, 2, 3, 4, 5, 21, 22, 23, 74] [1, 5, 20003] [!(!(implIsName ((x0.people.getD i1 default).name))), !(implIsName ((x0.people.getD i1 default).name)), !((!(implIsName ((x0.people.getD i1 default).name))) || ((v1 (KV.s ((x0.people.getD i1 default).name))).getD false)), (!((!(implIsName ((x0.people.getD i1 default).name))) || ((v1 (KV.s ((x0.people.getD i1 default).name))).getD false))) && (!decide (((x0.people.getD i1 default).sex) = 1)), (!(implIsName ((x0.people.getD i1 default).name))) || ((v1 (KV.s ((x0.people.getD i1 default).name))).getD false), !(((!(implIsName ((x0.people.getD i1 default).name))) || ((v1 (KV.s ((x0.people.getD i1 default).name))).getD false)) || ((!decide (((x0.people.getD i1 default).sex) = 1)) && (!decide (((x0.people.getD i1 default).sex) = 2)))), ((!(implIsName ((x0.people.getD i1 default).name))) || ((v1 (KV.s ((x0.people.getD i1 default).name))).getD false)) || ((!decide (((x0.people.getD i1 default).sex) = 1)) && (!decide (((x0.people.getD i1 default).sex) = 2))), !((((!(implIsName ((x0.people.getD i1 default).name))) || ((v1 (KV.s ((x0.people.getD i1 default).name))).getD false)) || ((!decide (((x0.people.getD i1 default).sex) = 1)) && (!decide (((x0.people.getD i1 default).sex) = 2)))) || (decide (((x0.people.getD i1 default).born) < 0))), (((!(implIsName ((x0.people.getD i1 default).name))) || ((v1 (KV.s ((x0.people.getD i1 default).name))).getD false)) || ((!decide (((x0.people.getD i1 default).sex) = 1)) && (!decide (((x0.people.getD i1 default).sex) = 2)))) || (decide (((x0.people.getD i1 default).born) < 0)), !(((((!(implIsName ((x0.people.getD i1 default).name))) || ((v1 (KV.s ((x0.people.getD i1 default).name))).getD false)) || ((!decide (((x0.people.getD i1 default).sex) = 1)) && (!decide (((x0.people.getD i1 default).sex) = 2)))) || (decide (((x0.people.getD i1 default).born) < 0))) || (decide (9999 < ((x0.people.getD i1 default).born)))), (!(((((!(implIsName ((x0.people.getD i1 default).name))) || ((v1 (KV.s ((x0.people.getD i1 default).name))).getD false)) || ((!decide (((x0.people.getD i1 default).sex) = 1)) && (!decide (((x0.people.getD i1 default).sex) = 2)))) || (decide (((x0.people.getD i1 default).born) < 0))) || (decide (9999 < ((x0.people.getD i1 default).born))))) && (!decide (((x0.people.getD i1 default).died) = (-1))), ((!(((((!(implIsName ((x0.people.getD i1 default).name))) || ((v1 (KV.s ((x0.people.getD i1 default).name))).getD false)) || ((!decide (((x0.people.getD i1 default).sex) = 1)) && (!decide (((x0.people.getD i1 default).sex) = 2)))) || (decide (((x0.people.getD i1 default).born) < 0))) || (decide (9999 < ((x0.people.getD i1 default).born))))) && (!decide (((x0.people.getD i1 default).died) = (-1)))) && (!(decide (((x0.people.getD i1 default).died) < ((x0.people.getD i1 default).born)))), ((((!(implIsName ((x0.people.getD i1 default).name))) || ((v1 (KV.s ((x0.people.getD i1 default).name))).getD false)) || ((!decide (((x0.people.getD i1 default).sex) = 1)) && (!decide (((x0.people.getD i1 default).sex) = 2)))) || (decide (((x0.people.getD i1 default).born) < 0))) || (decide (9999 < ((x0.people.getD i1 default).born)))] [gt (!((!(implIsName ((x0.people.getD i1 default).name))) || ((v1 (KV.s ((x0.people.getD i1 default).name))).getD false))) (gt (!decide (((x0.people.getD i1 default).sex) = 1)) (pf (((!((!(implIsName ((x0.people.getD i1 default).name))) || ((v1 (KV.s ((x0.people.getD i1 default).name))).getD false))) && (!decide (((x0.people.getD i1 default).sex) = 1))) = true))), gt ((!(((((!(implIsName ((x0.people.getD i1 default).name))) || ((v1 (KV.s ((x0.people.getD i1 default).name))).getD false)) || ((!decide (((x0.people.getD i1 default).sex) = 1)) && (!decide (((x0.people.getD i1 default).sex) = 2)))) || (decide (((x0.people.getD i1 default).born) < 0))) || (decide (9999 < ((x0.people.getD i1 default).born))))) && (!decide (((x0.people.getD i1 default).died) = (-1)))) (gf (decide (((x0.people.getD i1 default).died) < ((x0.people.getD i1 default).born))) (pf ((((!(((((!(implIsName ((x0.people.getD i1 default).name))) || ((v1 (KV.s ((x0.people.getD i1 default).name))).getD false)) || ((!decide (((x0.people.getD i1 default).sex) = 1)) && (!decide (((x0.people.getD i1 default).sex) = 2)))) || (decide (((x0.people.getD i1 default).born) < 0))) || (decide (9999 < ((x0.people.getD i1 default).born))))) && (!decide (((x0.people.getD i1 default).died) = (-1)))) && (!(decide (((x0.people.getD i1 default).died) < ((x0.people.getD i1 default).born))))) = true))), gt (!(((((!(implIsName ((x0.people.getD i1 default).name))) || ((v1 (KV.s ((x0.people.getD i1 default).name))).getD false)) || ((!decide (((x0.people.getD i1 default).sex) = 1)) && (!decide (((x0.people.getD i1 default).sex) = 2)))) || (decide (((x0.people.getD i1 default).born) < 0))) || (decide (9999 < ((x0.people.getD i1 default).born))))) (gt (!decide (((x0.people.getD i1 default).died) = (-1))) (pf (((!(((((!(implIsName ((x0.people.getD i1 default).name))) || ((v1 (KV.s ((x0.people.getD i1 default).name))).getD false)) || ((!decide (((x0.people.getD i1 default).sex) = 1)) && (!decide (((x0.people.getD i1 default).sex) = 2)))) || (decide (((x0.people.getD i1 default).born) < 0))) || (decide (9999 < ((x0.people.getD i1 default).born))))) && (!decide (((x0.people.getD i1 default).died) = (-1)))) = true)))] [] [12, 1, 1, 1, 6, 9, 9, 9, 13, 13, 9, 0, 18, 21, 21, 26, 29, 29, 34, 37, 37, 37, 41, 41, 41, 41, 41, 45, 45, 41, 4, 37, 8, 50] (cn ((((((!(implIsName ((x0.people.getD i1 default).name))) || ((v1 (KV.s ((x0.people.getD i1 default).name))).getD false)) || ((!decide (((x0.people.getD i1 default).sex) = 1)) && (!decide (((x0.people.getD i1 default).sex) = 2)))) || (decide (((x0.people.getD i1 default).born) < 0))) || (decide (9999 < ((x0.people.getD i1 default).born)))) || ((!decide (((x0.people.getD i1 default).died) = (-1))) && ((decide (((x0.people.getD i1 default).died) < ((x0.people.getD i1 default).born))) || (decide (9999 < ((x0.people.getD i1 default).died)))))) (r0 1 [1, 2, 3, 4, 5, 21, 22, 23] [1, 5, 20003] (rt [] (C34 false))) (.reg 2 [] [(1005, k53 x0.people ((i1 : Nat) : Int) ((x0.people.getD i1 default).father) 1 1), (1013, cg (!(!(parentFits x0.people ((i1 : Nat) : Int) ((x0.people.getD i1 default).father) 1 1))) (k53 x0.people ((i1 : Nat) : Int) ((x0.people.getD i1 default).mother) 2 0))] [1, 2, 3, 21, 22, 23, 93] [1, 20003] [!(!(parentFits x0.people ((i1 : Nat) : Int) ((x0.people.getD i1 default).father) 1 1)), !(parentFits x0.people ((i1 : Nat) : Int) ((x0.people.getD i1 default).father) 1 1)] [] [] [0, 1, 1, 1, 1, 1, 4, 1, 6] (cn ((!(parentFits x0.people ((i1 : Nat) : Int) ((x0.people.getD i1 default).father) 1 1)) || (!(parentFits x0.people ((i1 : Nat) : Int) ((x0.people.getD i1 default).mother) 2 0))) (r0 1 [1, 2, 3, 21, 22, 23] [1, 20003] (rt [] (C34 false))) (r1 1 [1, 2, 3, 21, 22, 23] [1, 20003] [pf (inR .i64 (((i1 : Nat) : Int) + 1))] [0] (.next 0 [(20003, some 20003)] (D34b1 x0 (i1 + 1) (mset v1 (KV.s ((x0.people.getD i1 default).name)) true))))))))) (.reg 1 [] [(2, k54 x0.people)] [1, 2, 97, 98, 99] [1, 1097] [] [] [] [0] (lp (D34b2 x0 i1 v1) [] [] [] (D34b2 x0 i1 v1 0 ()) (A34b2 x0 i1 v1))))
def A34 (x0 : Family) : Ann := r0 1 [1, 2] [1] (.reg 1 [] [] [1, 2, 18] [1] [!(decide (40 < ((x0.people.length : Nat) : Int))), decide (40 < ((x0.people.length : Nat) : Int))] [] [] [1, 1, 1, 6] (cn ((decide (40 < ((x0.people.length : Nat) : Int))) || (decide (60 < ((x0.unions.length : Nat) : Int)))) (r0 1 [1, 2] [1] (rt [] (C34 false))) (r0 1 [1, 2, 3] [1, 19] (r0 1 [1, 2, 3, 21, 22, 23] [1, 19] (lp (D34b1 x0) [] [19] [(20003, some 19)] (D34b1 x0 0 (fun _ => none)) (A34b1 x0))))))
theorem ok_impl_IsFamily (x0 : Family) (hx : x0.people.length ≤ 1048576) (hu : x0.unions.length ≤ 1048576) (hn : ∀ p ∈ x0.people, p.name.length ≤ 1048576) : FnT Tryd.prog 34 [.agg (cFamily false x0)] (C34 (implIsFamily x0)) := by
  have aux : ∀ R, implIsFamily x0 = R → slim (C34 R) (A34 x0) [] := by
    intro R hR
    refine rg trivial ?_
    refine rg trivial ?_
    revert hR; refine cd (fun hc1 hR => ?_) fun hc1 hR => ?_
    ·
      refine rg trivial ?_
      exact congrArg C34 hR
    ·
      refine rg trivial ?_
      refine rg trivial ?_
      revert hR; refine lN (fun i v => ∀ k : Nat, k < i → parentFits x0.people k (x0.people.getD k default).father 1 1 = true ∧ parentFits x0.people k (x0.people.getD k default).mother 2 0 = true) (by (intros; omega)) rfl fun i1 v1 F1 hn1 hI1 hR hK1 => ?_
      refine rg trivial ?_
      refine ⟨fun hc2 => ?_, fun hc2 => ?_⟩
      · have hii1 : i1 < x0.people.length := by have := of_decide_eq_true hc2; omega
        replace hR := loopN_step hR hii1
        refine rg ⟨by (intros; omega), trivial⟩ ?_
        refine rg ⟨by ((try clear hR hK1); intros; (try simp only [decide_eq_true_eq, decide_eq_false_iff_not, Bool.or_eq_true, Bool.and_eq_true, or_f_iff, not_f_iff, not_t_iff, Bool.not_eq_true', inR] at *); (repeat' apply And.intro) <;> (first | (intros; omega) | (simp_all [inR]; done))), by ((try clear hR hK1); intros; (try simp only [decide_eq_true_eq, decide_eq_false_iff_not, Bool.or_eq_true, Bool.and_eq_true, or_f_iff, not_f_iff, not_t_iff, Bool.not_eq_true', inR] at *); (repeat' apply And.intro) <;> (first | (intros; omega) | (simp_all [inR]; done))), by ((try clear hR hK1); intros; (try simp only [decide_eq_true_eq, decide_eq_false_iff_not, Bool.or_eq_true, Bool.and_eq_true, or_f_iff, not_f_iff, not_t_iff, Bool.not_eq_true', inR] at *); (repeat' apply And.intro) <;> (first | (intros; omega) | (simp_all [inR]; done))), by ((try clear hR hK1); intros; (try simp only [decide_eq_true_eq, decide_eq_false_iff_not, Bool.or_eq_true, Bool.and_eq_true, or_f_iff, not_f_iff, not_t_iff, Bool.not_eq_true', inR] at *); (repeat' apply And.intro) <;> (simp_all [inR]; done)), trivial⟩ ?_
        revert hR; refine cd (fun hc3 hR => ?_) fun hc3 hR => ?_
        ·
          refine rg trivial ?_
          exact congrArg C34 hR
        ·
          refine rg ⟨⟨by trivial, by (intros; omega)⟩, fun hg0 => ⟨by trivial, by (intros; omega)⟩, trivial⟩ ?_
          revert hR; refine cd (fun hc4 hR => ?_) fun hc4 hR => ?_
          ·
            refine rg trivial ?_
            exact congrArg C34 hR
          ·
            refine rg ⟨by ( intros; simp only [inR]; omega), trivial⟩ ?_
            exact hK1 (mset v1 (KV.s ((x0.people.getD i1 default).name)) true) hii1 (by (exact inv_snoc hI1 (by simpa using hc4))) hR
      · obtain rfl : i1 = x0.people.length := by have := of_decide_eq_false hc2; omega
        replace hR := loopN_end hR (Nat.lt_irrefl _)
        refine rg ⟨⟨by trivial, by (exact fun k hk => parentFits_lt2 (hI1 k hk))⟩, trivial⟩ ?_
        have hp1 := depths_len x0.people
        revert hR; refine lN (fun i v => True) (by trivial) rfl fun i2 v2 F2 hn2 hI2 hR hK2 => ?_
        refine rg trivial ?_
        refine ⟨fun hc5 => ?_, fun hc5 => ?_⟩
        · have hii2 : i2 < (depths x0.people).length := by have := of_decide_eq_true hc5; omega
          replace hR := loopN_step hR hii2
          refine rg ⟨by (intros; omega), trivial⟩ ?_
          revert hR; refine cd (fun hc6 hR => ?_) fun hc6 hR => ?_
          ·
            refine rg trivial ?_
            exact congrArg C34 hR
          ·
            refine rg ⟨by ( intros; simp only [inR]; omega), trivial⟩ ?_
            exact hK2 () hii2 (by trivial) hR
        · obtain rfl : i2 = (depths x0.people).length := by have := of_decide_eq_false hc5; omega
          replace hR := loopN_end hR (Nat.lt_irrefl _)
          refine rg trivial ?_
          revert hR; refine lN (fun i v => True) (by trivial) rfl fun i3 v3 F3 hn3 hI3 hR hK3 => ?_
          refine rg trivial ?_
          refine ⟨fun hc7 => ?_, fun hc7 => ?_⟩
          · have hii3 : i3 < x0.unions.length := by have := of_decide_eq_true hc7; omega
            replace hR := loopN_step hR hii3
            refine rg ⟨⟨by trivial, by trivial, by (intros; omega)⟩, trivial⟩ ?_
            revert hR; refine cd (fun hc8 hR => ?_) fun hc8 hR => ?_
            ·
              refine rg trivial ?_
              exact congrArg C34 hR
            ·
              refine rg ⟨by ( intros; simp only [inR]; omega), trivial⟩ ?_
              exact hK3 () hii3 (by trivial) hR
          · obtain rfl : i3 = x0.unions.length := by have := of_decide_eq_false hc7; omega
            replace hR := loopN_end hR (Nat.lt_irrefl _)
            refine rg trivial ?_
            exact congrArg C34 hR
  exact Fn.go 117 Tryd.func34 (by kernel_rfl) (by kernel_rfl) (by simp [C34, Frs, FrsL]) (A34 x0) (by kernel_rfl) (aux _ rfl)
def k34 (x0 : Family) : Cl := (hres (C34 (implIsFamily x0)), k3 (ok_impl_IsFamily x0))
end Go.Proofs.YtkkijpibajigfabDoor
