import Derived.Test.YtaageiiodlfeiaaV5
set_option maxHeartbeats 4000000
set_option linter.unusedSimpArgs false
set_option linter.unusedVariables false
namespace Go.Proofs.Ytaageiiodlfeiaa
open Go Go.Lite Go.Proofs
theorem parentFits_iff (l : List Person) (i q s d : Int) : parentFits l i q s d = true ↔ q = -1 ∨ 0 ≤ q ∧ q < i ∧ (l.getD q.toNat default).sex = s ∧ (l.getD q.toNat default).born < (l.getD i.toNat default).born ∧
    ((l.getD q.toNat default).died = -1 ∨ (l.getD i.toNat default).born ≤ IntKind.wrap .i64 ((l.getD q.toNat default).died + d)):=by
  simp only [parentFits,cond_f_iff,cond_t_iff,or_f_iff,Bool.and_eq_true,Bool.or_eq_true,decide_eq_true_eq,decide_eq_false_iff_not,not_f_iff,Int.not_lt,Int.not_le,and_assoc]
theorem parentFits_eq (x : Family) (i q s d : Int) : parentFits x.people i q s d = l1Parent x i q s d := by
  rw [Bool.eq_iff_iff,parentFits_iff,l1Parent_iff]
theorem parentFits_lt2 {l : List Person} {k : Nat} (h : parentFits l k (l.getD k default).father 1 1 = true ∧ parentFits l k (l.getD k default).mother 2 0 = true) : (l.getD k default).father < k ∧ (l.getD k default).mother < k := by
  rw [parentFits_iff,parentFits_iff] at h
  omega
def C87 (R : Bool) : LV × List (Nat × BC):=(.bool R,[])
def implIsFamily (x0 : Family) : Bool:=bif ((decide (40 < ((x0.people.length : Nat) : Int))) || (decide (60 < ((x0.unions.length : Nat) : Int)))) then false else (loopN (fun i1 (v1 : (KV → Option Bool)) next=>bif ((((((!(implIsName ((x0.people.getD i1 default).name))) || ((v1 (KV.s ((x0.people.getD i1 default).name))).getD false)) || ((!decide (((x0.people.getD i1 default).sex) = 1)) && (!decide (((x0.people.getD i1 default).sex) = 2)))) || (decide (((x0.people.getD i1 default).born) < 0))) || (decide (9999 < ((x0.people.getD i1 default).born)))) || ((!decide (((x0.people.getD i1 default).died) = (-1))) && ((decide (((x0.people.getD i1 default).died) < ((x0.people.getD i1 default).born))) || (decide (9999 < ((x0.people.getD i1 default).died)))))) then false else (bif ((!(parentFits x0.people ((i1 : Nat) : Int) ((x0.people.getD i1 default).father) 1 1)) || (!(parentFits x0.people ((i1 : Nat) : Int) ((x0.people.getD i1 default).mother) 2 0))) then false else (next (mset v1 (KV.s ((x0.people.getD i1 default).name)) true)))) (fun (v1 : (KV → Option Bool))=>loopN (fun i2 (v2 : Unit) next=>bif (decide (10 < ((depths x0.people).getD i2 default))) then false else (next ())) (fun (v2 : Unit)=>loopN (fun i3 (v3 : Unit) next=>bif (!(unionFits x0 ((i3 : Nat) : Int))) then false else (next ())) (fun (v3 : Unit)=>true) x0.unions.length 0 ()) ((depths x0.people).length) 0 ()) x0.people.length 0 (fun _=>none))
def D87b1 (x0 : Family) (i1 : Nat) (v1 : (KV → Option Bool)) : Dl:=⟨[(23,.int .i64 ((i1 : Nat) : Int)),(3,.mp 20003)],[(20003,.mp .str (.b v1))]⟩
def D87b2 (x0 : Family) (i1 : Nat) (v1 : (KV → Option Bool)) (i2 : Nat) (v2 : Unit) : Dl:=⟨[(99,.int .i64 ((i2 : Nat) : Int))],[]⟩
def D87b3 (x0 : Family) (i1 : Nat) (v1 : (KV → Option Bool)) (i2 : Nat) (v2 : Unit) (i3 : Nat) (v3 : Unit) : Dl:=⟨[(109,.int .i64 ((i3 : Nat) : Int))],[]⟩
def A87b3 (x0 : Family) (i1 : Nat) (v1 : (KV → Option Bool)) (i2 : Nat) (v2 : Unit) (i3 : Nat) (v3 : Unit) : Ann:=r0 1 [1,2,108,109,110] [1] (cn (decide (((i3 : Nat) : Int) < ((x0.unions.length : Nat) : Int))) (.reg 2 [] [(1002,k141 x0 ((i3 : Nat) : Int))] [1,2,108,109,115] [1] [] [] [] [0] (cn (!(unionFits x0 ((i3 : Nat) : Int))) (r0 1 [1,2,108,109] [1] (rt [] (C87 false))) (r1 1 [1,2,108,109] [1] [pf (inR .i64 (((i3 : Nat) : Int) + 1))] [0] (.next 0 [] (D87b3 x0 i1 v1 i2 v2 (i3 + 1) ()))))) (r0 1 [2] [] (rt [] (C87 true))))
def A87b2 (x0 : Family) (i1 : Nat) (v1 : (KV → Option Bool)) (i2 : Nat) (v2 : Unit) : Ann:=r0 1 [1,2,97,98,99,100] [1,1097] (cn (decide (((i2 : Nat) : Int) < (((depths x0.people).length : Nat) : Int))) (r1 2 [1,2,97,98,99,104] [1,1097] [pf (0 ≤ (((i2 : Nat) : Int) : Int) ∧ (((i2 : Nat) : Int) : Int) < (((depths x0.people).length : Nat) : Int))] [0] (cn (decide (10 < ((depths x0.people).getD i2 default))) (r0 1 [1,2,97,98,99] [1,1097] (rt [] (C87 false))) (r1 1 [1,2,97,98,99] [1,1097] [pf (inR .i64 (((i2 : Nat) : Int) + 1))] [0] (.next 0 [] (D87b2 x0 i1 v1 (i2 + 1) ()))))) (r0 1 [1,2,108,109] [1] (lp (D87b3 x0 i1 v1 i2 v2) [] [] [] (D87b3 x0 i1 v1 i2 v2 0 ()) (A87b3 x0 i1 v1 i2 v2))))
def A87b1 (x0 : Family) (i1 : Nat) (v1 : (KV → Option Bool)) : Ann:=r0 1 [1,2,3,21,22,23,24] [1,20003] (cn (decide (((i1 : Nat) : Int) < ((x0.people.length : Nat) : Int))) (r1 1 [1,2,3,4,5,21,22,23] [1,5,20003] [pf (0 ≤ (((i1 : Nat) : Int) : Int) ∧ (((i1 : Nat) : Int) : Int) < ((x0.people.length : Nat) : Int))] [0] (.reg 1 [] [(2,k138 ((x0.people.getD i1 default).name))] [1,2,3,4,5,21,22,23,74] [1,5,20003] [!(!(implIsName ((x0.people.getD i1 default).name))),!(implIsName ((x0.people.getD i1 default).name)),!((!(implIsName ((x0.people.getD i1 default).name))) || ((v1 (KV.s ((x0.people.getD i1 default).name))).getD false)),(!((!(implIsName ((x0.people.getD i1 default).name))) || ((v1 (KV.s ((x0.people.getD i1 default).name))).getD false))) && (!decide (((x0.people.getD i1 default).sex) = 1)),(!(implIsName ((x0.people.getD i1 default).name))) || ((v1 (KV.s ((x0.people.getD i1 default).name))).getD false),!(((!(implIsName ((x0.people.getD i1 default).name))) || ((v1 (KV.s ((x0.people.getD i1 default).name))).getD false)) || ((!decide (((x0.people.getD i1 default).sex) = 1)) && (!decide (((x0.people.getD i1 default).sex) = 2)))),((!(implIsName ((x0.people.getD i1 default).name))) || ((v1 (KV.s ((x0.people.getD i1 default).name))).getD false)) || ((!decide (((x0.people.getD i1 default).sex) = 1)) && (!decide (((x0.people.getD i1 default).sex) = 2))),!((((!(implIsName ((x0.people.getD i1 default).name))) || ((v1 (KV.s ((x0.people.getD i1 default).name))).getD false)) || ((!decide (((x0.people.getD i1 default).sex) = 1)) && (!decide (((x0.people.getD i1 default).sex) = 2)))) || (decide (((x0.people.getD i1 default).born) < 0))),(((!(implIsName ((x0.people.getD i1 default).name))) || ((v1 (KV.s ((x0.people.getD i1 default).name))).getD false)) || ((!decide (((x0.people.getD i1 default).sex) = 1)) && (!decide (((x0.people.getD i1 default).sex) = 2)))) || (decide (((x0.people.getD i1 default).born) < 0)),!(((((!(implIsName ((x0.people.getD i1 default).name))) || ((v1 (KV.s ((x0.people.getD i1 default).name))).getD false)) || ((!decide (((x0.people.getD i1 default).sex) = 1)) && (!decide (((x0.people.getD i1 default).sex) = 2)))) || (decide (((x0.people.getD i1 default).born) < 0))) || (decide (9999 < ((x0.people.getD i1 default).born)))),(!(((((!(implIsName ((x0.people.getD i1 default).name))) || ((v1 (KV.s ((x0.people.getD i1 default).name))).getD false)) || ((!decide (((x0.people.getD i1 default).sex) = 1)) && (!decide (((x0.people.getD i1 default).sex) = 2)))) || (decide (((x0.people.getD i1 default).born) < 0))) || (decide (9999 < ((x0.people.getD i1 default).born))))) && (!decide (((x0.people.getD i1 default).died) = (-1))),((!(((((!(implIsName ((x0.people.getD i1 default).name))) || ((v1 (KV.s ((x0.people.getD i1 default).name))).getD false)) || ((!decide (((x0.people.getD i1 default).sex) = 1)) && (!decide (((x0.people.getD i1 default).sex) = 2)))) || (decide (((x0.people.getD i1 default).born) < 0))) || (decide (9999 < ((x0.people.getD i1 default).born))))) && (!decide (((x0.people.getD i1 default).died) = (-1)))) && (!(decide (((x0.people.getD i1 default).died) < ((x0.people.getD i1 default).born)))),((((!(implIsName ((x0.people.getD i1 default).name))) || ((v1 (KV.s ((x0.people.getD i1 default).name))).getD false)) || ((!decide (((x0.people.getD i1 default).sex) = 1)) && (!decide (((x0.people.getD i1 default).sex) = 2)))) || (decide (((x0.people.getD i1 default).born) < 0))) || (decide (9999 < ((x0.people.getD i1 default).born)))] [gt (!((!(implIsName ((x0.people.getD i1 default).name))) || ((v1 (KV.s ((x0.people.getD i1 default).name))).getD false))) (gt (!decide (((x0.people.getD i1 default).sex) = 1)) (pf (((!((!(implIsName ((x0.people.getD i1 default).name))) || ((v1 (KV.s ((x0.people.getD i1 default).name))).getD false))) && (!decide (((x0.people.getD i1 default).sex) = 1))) = true))),gt ((!(((((!(implIsName ((x0.people.getD i1 default).name))) || ((v1 (KV.s ((x0.people.getD i1 default).name))).getD false)) || ((!decide (((x0.people.getD i1 default).sex) = 1)) && (!decide (((x0.people.getD i1 default).sex) = 2)))) || (decide (((x0.people.getD i1 default).born) < 0))) || (decide (9999 < ((x0.people.getD i1 default).born))))) && (!decide (((x0.people.getD i1 default).died) = (-1)))) (gf (decide (((x0.people.getD i1 default).died) < ((x0.people.getD i1 default).born))) (pf ((((!(((((!(implIsName ((x0.people.getD i1 default).name))) || ((v1 (KV.s ((x0.people.getD i1 default).name))).getD false)) || ((!decide (((x0.people.getD i1 default).sex) = 1)) && (!decide (((x0.people.getD i1 default).sex) = 2)))) || (decide (((x0.people.getD i1 default).born) < 0))) || (decide (9999 < ((x0.people.getD i1 default).born))))) && (!decide (((x0.people.getD i1 default).died) = (-1)))) && (!(decide (((x0.people.getD i1 default).died) < ((x0.people.getD i1 default).born))))) = true))),gt (!(((((!(implIsName ((x0.people.getD i1 default).name))) || ((v1 (KV.s ((x0.people.getD i1 default).name))).getD false)) || ((!decide (((x0.people.getD i1 default).sex) = 1)) && (!decide (((x0.people.getD i1 default).sex) = 2)))) || (decide (((x0.people.getD i1 default).born) < 0))) || (decide (9999 < ((x0.people.getD i1 default).born))))) (gt (!decide (((x0.people.getD i1 default).died) = (-1))) (pf (((!(((((!(implIsName ((x0.people.getD i1 default).name))) || ((v1 (KV.s ((x0.people.getD i1 default).name))).getD false)) || ((!decide (((x0.people.getD i1 default).sex) = 1)) && (!decide (((x0.people.getD i1 default).sex) = 2)))) || (decide (((x0.people.getD i1 default).born) < 0))) || (decide (9999 < ((x0.people.getD i1 default).born))))) && (!decide (((x0.people.getD i1 default).died) = (-1)))) = true)))] [] [12,1,1,1,6,9,9,9,13,13,9,0,18,21,21,26,29,29,34,37,37,37,41,41,41,41,41,45,45,41,4,37,8,50] (cn ((((((!(implIsName ((x0.people.getD i1 default).name))) || ((v1 (KV.s ((x0.people.getD i1 default).name))).getD false)) || ((!decide (((x0.people.getD i1 default).sex) = 1)) && (!decide (((x0.people.getD i1 default).sex) = 2)))) || (decide (((x0.people.getD i1 default).born) < 0))) || (decide (9999 < ((x0.people.getD i1 default).born)))) || ((!decide (((x0.people.getD i1 default).died) = (-1))) && ((decide (((x0.people.getD i1 default).died) < ((x0.people.getD i1 default).born))) || (decide (9999 < ((x0.people.getD i1 default).died)))))) (r0 1 [1,2,3,4,5,21,22,23] [1,5,20003] (rt [] (C87 false))) (.reg 2 [] [(1005,k139 x0.people ((i1 : Nat) : Int) ((x0.people.getD i1 default).father) 1 1),(1013,cg (!(!(parentFits x0.people ((i1 : Nat) : Int) ((x0.people.getD i1 default).father) 1 1))) (k139 x0.people ((i1 : Nat) : Int) ((x0.people.getD i1 default).mother) 2 0))] [1,2,3,21,22,23,93] [1,20003] [!(!(parentFits x0.people ((i1 : Nat) : Int) ((x0.people.getD i1 default).father) 1 1)),!(parentFits x0.people ((i1 : Nat) : Int) ((x0.people.getD i1 default).father) 1 1)] [] [] [0,1,1,1,1,1,4,1,6] (cn ((!(parentFits x0.people ((i1 : Nat) : Int) ((x0.people.getD i1 default).father) 1 1)) || (!(parentFits x0.people ((i1 : Nat) : Int) ((x0.people.getD i1 default).mother) 2 0))) (r0 1 [1,2,3,21,22,23] [1,20003] (rt [] (C87 false))) (r1 1 [1,2,3,21,22,23] [1,20003] [pf (inR .i64 (((i1 : Nat) : Int) + 1))] [0] (.next 0 [(20003,some 20003)] (D87b1 x0 (i1 + 1) (mset v1 (KV.s ((x0.people.getD i1 default).name)) true))))))))) (.reg 1 [] [(2,k140 x0.people)] [1,2,97,98,99] [1,1097] [] [] [] [0] (lp (D87b2 x0 i1 v1) [] [] [] (D87b2 x0 i1 v1 0 ()) (A87b2 x0 i1 v1))))
def A87 (x0 : Family) : Ann:=r0 1 [1,2] [1] (.reg 1 [] [] [1,2,18] [1] [!(decide (40 < ((x0.people.length : Nat) : Int))),decide (40 < ((x0.people.length : Nat) : Int))] [] [] [1,1,1,6] (cn ((decide (40 < ((x0.people.length : Nat) : Int))) || (decide (60 < ((x0.unions.length : Nat) : Int)))) (r0 1 [1,2] [1] (rt [] (C87 false))) (r0 1 [1,2,3] [1,19] (r0 1 [1,2,3,21,22,23] [1,19] (lp (D87b1 x0) [] [19] [(20003,some 19)] (D87b1 x0 0 (fun _=>none)) (A87b1 x0))))))
theorem ok_impl_IsFamily (x0 : Family) (hx : x0.people.length ≤ 1048576) (hu : x0.unions.length ≤ 1048576) (hn : ∀ p ∈ x0.people, p.name.length ≤ 1048576) : FnT Try.prog 87 [.agg (cFamily false x0)] (C87 (implIsFamily x0)) := by
  have aux : ∀ R, implIsFamily x0 = R → slim (C87 R) (A87 x0) [] := by
    intro R hR
    refine rg trivial ?_
    refine rg trivial ?_
    revert hR;refine cd (fun hc1 hR=>?_) fun hc1 hR=>?_
    ·
      refine rg trivial ?_
      exact congrArg C87 hR
    ·
      refine rg trivial ?_
      refine rg trivial ?_
      revert hR;refine lN (fun i v=>∀ k : Nat,k < i → parentFits x0.people k (x0.people.getD k default).father 1 1 = true ∧ parentFits x0.people k (x0.people.getD k default).mother 2 0 = true) (by (intros;omega)) rfl fun i1 v1 F1 hn1 hI1 hR hK1=>?_
      refine rg trivial ?_
      refine ⟨fun hc2=>?_,fun hc2=>?_⟩
      · have hii1 : i1 < x0.people.length:=by have:=of_decide_eq_true hc2;omega
        replace hR:=loopN_step hR hii1
        refine rg ⟨by (intros;omega),trivial⟩ ?_
        refine rg ⟨by ((try clear hR hK1);intros;(try simp only [decide_eq_true_eq,decide_eq_false_iff_not,Bool.or_eq_true,Bool.and_eq_true,or_f_iff,not_f_iff,not_t_iff,Bool.not_eq_true',inR] at *);(repeat' apply And.intro) <;> (first | (intros;omega) | (simp_all [inR];done))),by ((try clear hR hK1);intros;(try simp only [decide_eq_true_eq,decide_eq_false_iff_not,Bool.or_eq_true,Bool.and_eq_true,or_f_iff,not_f_iff,not_t_iff,Bool.not_eq_true',inR] at *);(repeat' apply And.intro) <;> (first | (intros;omega) | (simp_all [inR];done))),by ((try clear hR hK1);intros;(try simp only [decide_eq_true_eq,decide_eq_false_iff_not,Bool.or_eq_true,Bool.and_eq_true,or_f_iff,not_f_iff,not_t_iff,Bool.not_eq_true',inR] at *);(repeat' apply And.intro) <;> (first | (intros;omega) | (simp_all [inR];done))),by ((try clear hR hK1);intros;(try simp only [decide_eq_true_eq,decide_eq_false_iff_not,Bool.or_eq_true,Bool.and_eq_true,or_f_iff,not_f_iff,not_t_iff,Bool.not_eq_true',inR] at *);(repeat' apply And.intro) <;> (simp_all [inR];done)),trivial⟩ ?_
        revert hR;refine cd (fun hc3 hR=>?_) fun hc3 hR=>?_
        ·
          refine rg trivial ?_
          exact congrArg C87 hR
        ·
          refine rg ⟨⟨by trivial,by (intros;omega)⟩,fun hg0=>⟨by trivial,by (intros;omega)⟩,trivial⟩ ?_
          revert hR;refine cd (fun hc4 hR=>?_) fun hc4 hR=>?_
          ·
            refine rg trivial ?_
            exact congrArg C87 hR
          ·
            refine rg ⟨by ( intros;simp only [inR];omega),trivial⟩ ?_
            exact hK1 (mset v1 (KV.s ((x0.people.getD i1 default).name)) true) hii1 (by (exact inv_snoc hI1 (by simpa using hc4))) hR
      · obtain rfl : i1 = x0.people.length:=by have:=of_decide_eq_false hc2;omega
        replace hR:=loopN_end hR (Nat.lt_irrefl _)
        refine rg ⟨⟨by trivial,by (exact fun k hk=>parentFits_lt2 (hI1 k hk))⟩,trivial⟩ ?_
        have hp1:=depths_len x0.people
        revert hR;refine lN (fun i v=>True) (by trivial) rfl fun i2 v2 F2 hn2 hI2 hR hK2=>?_
        refine rg trivial ?_
        refine ⟨fun hc5=>?_,fun hc5=>?_⟩
        · have hii2 : i2 < (depths x0.people).length:=by have:=of_decide_eq_true hc5;omega
          replace hR:=loopN_step hR hii2
          refine rg ⟨by (intros;omega),trivial⟩ ?_
          revert hR;refine cd (fun hc6 hR=>?_) fun hc6 hR=>?_
          ·
            refine rg trivial ?_
            exact congrArg C87 hR
          ·
            refine rg ⟨by ( intros;simp only [inR];omega),trivial⟩ ?_
            exact hK2 () hii2 (by trivial) hR
        · obtain rfl : i2 = (depths x0.people).length:=by have:=of_decide_eq_false hc5;omega
          replace hR:=loopN_end hR (Nat.lt_irrefl _)
          refine rg trivial ?_
          revert hR;refine lN (fun i v=>True) (by trivial) rfl fun i3 v3 F3 hn3 hI3 hR hK3=>?_
          refine rg trivial ?_
          refine ⟨fun hc7=>?_,fun hc7=>?_⟩
          · have hii3 : i3 < x0.unions.length:=by have:=of_decide_eq_true hc7;omega
            replace hR:=loopN_step hR hii3
            refine rg ⟨⟨by trivial,by trivial,by (intros;omega)⟩,trivial⟩ ?_
            revert hR;refine cd (fun hc8 hR=>?_) fun hc8 hR=>?_
            ·
              refine rg trivial ?_
              exact congrArg C87 hR
            ·
              refine rg ⟨by ( intros;simp only [inR];omega),trivial⟩ ?_
              exact hK3 () hii3 (by trivial) hR
          · obtain rfl : i3 = x0.unions.length:=by have:=of_decide_eq_false hc7;omega
            replace hR:=loopN_end hR (Nat.lt_irrefl _)
            refine rg trivial ?_
            exact congrArg C87 hR
  exact Fn.go 117 Try.func87 (by kernel_rfl) (by kernel_rfl) (by simp [C87,Frs,FrsL]) (A87 x0) (by kernel_rfl) (aux _ rfl)
def k87 (x0 : Family) : Cl:=(hres (C87 (implIsFamily x0)),k3 (ok_impl_IsFamily x0))
def C39 (R : Bool) : LV × List (Nat × BC):=(.bool R,[])
def implHas (x0 : Family) (x1 : List Int) : Bool:=bif (!(implIsFamily x0)) then false else (loopN (fun i1 (v1 : Unit) next=>bif ((decide ((x1.getD i1 default) < 0)) || (decide (((x0.people.length : Nat) : Int) ≤ (x1.getD i1 default)))) then false else (next ())) (fun (v1 : Unit)=>true) x1.length 0 ())
def D39b1 (x0 : Family) (x1 : List Int) (i1 : Nat) (v1 : Unit) : Dl:=⟨[(12,.int .i64 ((i1 : Nat) : Int))],[]⟩
def A39b1 (x0 : Family) (x1 : List Int) (i1 : Nat) (v1 : Unit) : Ann:=r0 1 [2,4,10,11,12,13] [2] (cn (decide (((i1 : Nat) : Int) < ((x1.length : Nat) : Int))) (.reg 2 [] [] [2,4,10,11,12,24] [2] [!(decide ((x1.getD i1 default) < 0)),decide ((x1.getD i1 default) < 0)] [pf (0 ≤ (((i1 : Nat) : Int) : Int) ∧ (((i1 : Nat) : Int) : Int) < ((x1.length : Nat) : Int))] [] [0,1,1,1,1,6] (cn ((decide ((x1.getD i1 default) < 0)) || (decide (((x0.people.length : Nat) : Int) ≤ (x1.getD i1 default)))) (r0 1 [2,4,10,11,12] [2] (rt [] (C39 false))) (r1 1 [2,4,10,11,12] [2] [pf (inR .i64 (((i1 : Nat) : Int) + 1))] [0] (.next 0 [] (D39b1 x0 x1 (i1 + 1) ()))))) (r0 1 [4] [] (rt [] (C39 true))))
def A39 (x0 : Family) (x1 : List Int) : Ann:=r0 1 [1,2,4] [2] (.reg 1 [] [(1,k87 x0)] [1,2,4,9] [2] [] [] [] [0] (cn (!(implIsFamily x0)) (r0 1 [1,2,4] [2] (rt [] (C39 false))) (r0 1 [2,4,10,11,12] [2] (lp (D39b1 x0 x1) [] [] [] (D39b1 x0 x1 0 ()) (A39b1 x0 x1)))))
theorem ok_impl_has (x0 : Family) (x1 : List Int) (hx : x0.people.length ≤ 1048576) (hu : x0.unions.length ≤ 1048576) (hn : ∀ p ∈ x0.people, p.name.length ≤ 1048576) (hl : x1.length ≤ 1048576) : FnT Try.prog 39 [.agg (cFamily false x0), .ro false 1 x1.length (rowOf (cInt .i64) x1)] (C39 (implHas x0 x1)) := by
  have aux : ∀ R, implHas x0 x1 = R → slim (C39 R) (A39 x0 x1) [] := by
    intro R hR
    refine rg trivial ?_
    refine rg ⟨⟨by trivial,by trivial,by trivial⟩,trivial⟩ ?_
    revert hR;refine cd (fun hc1 hR=>?_) fun hc1 hR=>?_
    ·
      refine rg trivial ?_
      exact congrArg C39 hR
    ·
      refine rg trivial ?_
      revert hR;refine lN (fun i v=>True) (by trivial) rfl fun i1 v1 F1 hn1 hI1 hR hK1=>?_
      refine rg trivial ?_
      refine ⟨fun hc2=>?_,fun hc2=>?_⟩
      · have hii1 : i1 < x1.length:=by have:=of_decide_eq_true hc2;omega
        replace hR:=loopN_step hR hii1
        refine rg ⟨by (intros;omega),trivial⟩ ?_
        revert hR;refine cd (fun hc3 hR=>?_) fun hc3 hR=>?_
        ·
          refine rg trivial ?_
          exact congrArg C39 hR
        ·
          refine rg ⟨by ( intros;simp only [inR];omega),trivial⟩ ?_
          exact hK1 () hii1 (by trivial) hR
      · obtain rfl : i1 = x1.length:=by have:=of_decide_eq_false hc2;omega
        replace hR:=loopN_end hR (Nat.lt_irrefl _)
        refine rg trivial ?_
        exact congrArg C39 hR
  exact Fn.go 26 Try.func39 (by kernel_rfl) (by kernel_rfl) (by simp [C39,Frs,FrsL]) (A39 x0 x1) (by kernel_rfl) (aux _ rfl)
def k39 (x0 : Family) (x1 : List Int) : Cl:=(hres (C39 (implHas x0 x1)),k4 (ok_impl_has x0 x1))
end Go.Proofs.Ytaageiiodlfeiaa
