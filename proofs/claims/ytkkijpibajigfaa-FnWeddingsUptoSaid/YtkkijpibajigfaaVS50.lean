import Derived.Test.YtkkijpibajigfaaV47
set_option maxHeartbeats 4000000
set_option linter.unusedSimpArgs false
set_option linter.unusedVariables false
namespace Go.Proofs.Ytkkijpibajigfaa
open Go Go.Lite Go.Proofs
def C26 (R : Bool) : LV × List (Nat × BC):=(.bool R,[])
def lawHas (x0 : List Int) (x1 : Int) : Bool:=loopN (fun i1 (v1 : Unit) next=>bif (decide (x1 = (x0.getD i1 default))) then true else (next ())) (fun (v1 : Unit)=>false) x0.length 0 ()
def D26b1 (x0 : List Int) (x1 : Int) (i1 : Nat) (v1 : Unit) : Dl:=⟨[(9,.int .i64 ((i1 : Nat) : Int))],[]⟩
def A26b1 (x0 : List Int) (x1 : Int) (i1 : Nat) (v1 : Unit) : Ann:=r0 1 [1,4,7,8,9,10] [] (cn (decide (((i1 : Nat) : Int) < ((x0.length : Nat) : Int))) (r1 2 [1,4,7,8,9,15] [] [pf (0 ≤ (((i1 : Nat) : Int) : Int) ∧ (((i1 : Nat) : Int) : Int) < ((x0.length : Nat) : Int))] [0] (cn (decide (x1 = (x0.getD i1 default))) (r0 1 [1,4,7,8,9] [] (rt [] (C26 true))) (r1 1 [1,4,7,8,9] [] [pf (inR .i64 (((i1 : Nat) : Int) + 1))] [0] (.next 0 [] (D26b1 x0 x1 (i1 + 1) ()))))) (r0 1 [4] [] (rt [] (C26 false))))
def A26 (x0 : List Int) (x1 : Int) : Ann:=r0 1 [0,1,4] [] (r0 1 [1,4,7,8,9] [] (lp (D26b1 x0 x1) [] [] [] (D26b1 x0 x1 0 ()) (A26b1 x0 x1)))
theorem ok_laws_has (x0 : List Int) (x1 : Int) (hx : x0.length ≤ 1048576) : FnT Try.prog 26 [.ro false 1 x0.length (rowOf (cInt .i64) x0), .int .i64 x1] (C26 (lawHas x0 x1)) := by
  have aux : ∀ R, lawHas x0 x1 = R → slim (C26 R) (A26 x0 x1) [] := by
    intro R hR
    refine rg trivial ?_
    refine rg trivial ?_
    revert hR;refine lN (fun i v=>True) (by trivial) rfl fun i1 v1 F1 hn1 hI1 hR hK1=>?_
    refine rg trivial ?_
    refine ⟨fun hc1=>?_,fun hc1=>?_⟩
    · have hii1 : i1 < x0.length:=by have:=of_decide_eq_true hc1;omega
      replace hR:=loopN_step hR hii1
      refine rg ⟨by (intros;omega),trivial⟩ ?_
      revert hR;refine cd (fun hc2 hR=>?_) fun hc2 hR=>?_
      ·
        refine rg trivial ?_
        exact congrArg C26 hR
      ·
        refine rg ⟨by ( intros;simp only [inR];omega),trivial⟩ ?_
        exact hK1 () hii1 (by trivial) hR
    · obtain rfl : i1 = x0.length:=by have:=of_decide_eq_false hc1;omega
      replace hR:=loopN_end hR (Nat.lt_irrefl _)
      refine rg trivial ?_
      exact congrArg C26 hR
  exact Fn.go 17 Try.func26 (by kernel_rfl) (by kernel_rfl) (by simp [C26,Frs,FrsL]) (A26 x0 x1) (by kernel_rfl) (aux _ rfl)
def k26 (x0 : List Int) (x1 : Int) : Cl:=(hres (C26 (lawHas x0 x1)),k1 (ok_laws_has x0 x1))
theorem lawHas_iff (l : List Int) (y : Int) : lawHas l y = true ↔ y ∈ l := by
  unfold lawHas
  rw [loopN_any]
  constructor
  · rintro (⟨j,h1,h2⟩ | h)
    · rw [of_decide_eq_true h2];exact getD_mem h1
    · cases h
  · intro h
    obtain ⟨k,h1,h2⟩:=mem_getD (d:=default) h
    exact .inl ⟨k,h1,decide_eq_true h2.symm⟩
/-! ### Ways up -/
theorem Up.head {x : Family} {p q : Int} {n : Nat} (h : Up x p n q) : (n = 0 ∧ q = p) ∨ ∃ r m, r ∈ l1Parents x p ∧ n = m + 1 ∧ Up x r m q := by
  induction h with
  | zero=>exact .inl ⟨rfl,rfl⟩
  | @step n a q h hq ih =>
    rcases ih with ⟨e1,e2⟩ | ⟨r,m,h1,h2,h3⟩
    · subst e1;subst e2;exact .inr ⟨q,0,hq,rfl,.zero⟩
    · exact .inr ⟨r,m + 1,h1,by omega,.step h3 hq⟩
def Above (x : Family) (p q : Int) : Prop:=∃ n,Up x p n q
theorem Above.head {x : Family} {p q : Int} : Above x p q → q = p ∨ ∃ r, r ∈ l1Parents x p ∧ Above x r q := fun ⟨n, h⟩ => by
  rcases h.head with ⟨_,e⟩ | ⟨r,m,h1,_,h3⟩
  · exact .inl e
  · exact .inr ⟨r,h1,m,h3⟩
theorem Above.rng {x : Family} (hf : specIsFamily x = true) {p : Int} (hp : 0 ≤ p ∧ p < x.people.length) {q : Int} : Above x p q → 0 ≤ q ∧ q < x.people.length ∧ q ≤ p := fun ⟨n, h⟩ => by
  have:=h.rng (isFamily_par x hf) hp;omega
theorem at_mod {b : List Int} (hb : ∀ y ∈ b, 0 ≤ y ∧ y ≤ 255) {i : Int} (hi : 0 ≤ i) (n : Int) (hn : 0 < n) : 0 ≤ (at1 b i).tmod n ∧ (at1 b i).tmod n < n := by
  rw [Int.tmod_eq_emod_of_nonneg (at1_rng hb hi).1]
  exact ⟨Int.emod_nonneg _ (by omega),Int.emod_lt_of_pos _ hn⟩
theorem year_idx {b : List Int} (hb : ∀ y ∈ b, 0 ≤ y ∧ y ≤ 255) {i : Int} (hi : 0 ≤ i) {x : Family} (hf : specIsFamily x = true) (hn : 0 < x.people.length) : (0 ≤ (at1 b i).tmod (x.people.length : Int) ∧ (at1 b i).tmod (x.people.length : Int) < (x.people.length : Int)) ∧ (0 ≤ (x.people.getD ((at1 b i).tmod (x.people.length : Int)).toNat default).born ∧ (x.people.getD ((at1 b i).tmod (x.people.length : Int)).toNat default).born ≤ 9999) ∧ ((x.people.getD ((at1 b i).tmod (x.people.length : Int)).toNat default).died ≤ 9999) := by
  have h9 : 0 ≤ (at1 b i).tmod (x.people.length : Int) ∧ (at1 b i).tmod (x.people.length : Int) < (x.people.length : Int):=at_mod hb hi _ (by omega)
  have h7:=fam_p hf (k:=((at1 b i).tmod (x.people.length : Int)).toNat) (by omega)
  have h6:=h7.born;have h5:=h7.died
  exact ⟨h9,h6,by omega⟩
theorem four_rng {i : Nat} (h : i < 4) : 0 ≤ ([0, 1, 20, 45] : List Int).getD i default ∧ ([0, 1, 20, 45] : List Int).getD i default ≤ 45 := by
  match i,h with
  | 0,_=>decide
  | 1,_=>decide
  | 2,_=>decide
  | 3,_=>decide
def C20 (R : Int) : LV × List (Nat × BC):=(.int .i64 R,[])
def lawYear (x0 : List Int) (x1 : Int) (x2 : Family) : Int:=bif ((decide (0 ≤ ((x2.people.getD (((at1 x0 x1).tmod ((x2.people.length : Nat) : Int)).toNat) default).died))) && (decide (((at1 x0 (x1 + 1)).tmod 2) = 0))) then ((((x2.people.getD (((at1 x0 x1).tmod ((x2.people.length : Nat) : Int)).toNat) default).died) + ((at1 x0 (x1 + 2)).tmod 3)) - 1) else (((x2.people.getD (((at1 x0 x1).tmod ((x2.people.length : Nat) : Int)).toNat) default).born) + ([0,1,20,45].getD (((at1 x0 (x1 + 1)).tmod 4).toNat) default))
def A20 (x0 : List Int) (x1 : Int) (x2 : Family) : Ann:=.reg 2 [] [(1004,k18 x0 x1)] [0,1,6,7] [7] [] [pf ((((x2.people.length : Nat) : Int) : Int) ≠ 0),pf (0 ≤ ((at1 x0 x1).tmod ((x2.people.length : Nat) : Int) : Int) ∧ ((at1 x0 x1).tmod ((x2.people.length : Nat) : Int) : Int) < ((x2.people.length : Nat) : Int))] [] [8,0,4] (.reg 1 [] [(7,cg (decide (0 ≤ ((x2.people.getD (((at1 x0 x1).tmod ((x2.people.length : Nat) : Int)).toNat) default).died))) (k18 x0 (x1 + 1)))] [0,1,6,7,29] [7] [decide (0 ≤ ((x2.people.getD (((at1 x0 x1).tmod ((x2.people.length : Nat) : Int)).toNat) default).died))] [gt (decide (0 ≤ ((x2.people.getD (((at1 x0 x1).tmod ((x2.people.length : Nat) : Int)).toNat) default).died))) (pf (inR .i64 (x1 + 1))),gt (decide (0 ≤ ((x2.people.getD (((at1 x0 x1).tmod ((x2.people.length : Nat) : Int)).toNat) default).died))) (pf ((2 : Int) ≠ 0))] [] [1,0,1,1,8,1,4,1,1] (cn ((decide (0 ≤ ((x2.people.getD (((at1 x0 x1).tmod ((x2.people.length : Nat) : Int)).toNat) default).died))) && (decide (((at1 x0 (x1 + 1)).tmod 2) = 0))) (.reg 1 [] [(5,k18 x0 (x1 + 2))] [0,1,6,7] [7] [] [pf (inR .i64 (x1 + 2)),pf ((3 : Int) ≠ 0),pf (inR .i64 (((x2.people.getD (((at1 x0 x1).tmod ((x2.people.length : Nat) : Int)).toNat) default).died) + ((at1 x0 (x1 + 2)).tmod 3))),pf (inR .i64 ((((x2.people.getD (((at1 x0 x1).tmod ((x2.people.length : Nat) : Int)).toNat) default).died) + ((at1 x0 (x1 + 2)).tmod 3)) - 1))] [] [0,16,4,8,12] (rt [] (C20 ((((x2.people.getD (((at1 x0 x1).tmod ((x2.people.length : Nat) : Int)).toNat) default).died) + ((at1 x0 (x1 + 2)).tmod 3)) - 1)))) (.reg 1 [] [(2,bsC 41 (cInt .i64) ([0,1,20,45] : List Int)),(6,k18 x0 (x1 + 1))] [6] [] [] [pf (inR .i64 (x1 + 1)),pf ((4 : Int) ≠ 0),pf (0 ≤ ((at1 x0 (x1 + 1)).tmod 4 : Int) ∧ ((at1 x0 (x1 + 1)).tmod 4 : Int) < ((4 : Nat) : Int)),pf (inR .i64 (((x2.people.getD (((at1 x0 x1).tmod ((x2.people.length : Nat) : Int)).toNat) default).born) + ([0,1,20,45].getD (((at1 x0 (x1 + 1)).tmod 4).toNat) default)))] [] [16,0,20,4,8,12] (rt [] (C20 (((x2.people.getD (((at1 x0 x1).tmod ((x2.people.length : Nat) : Int)).toNat) default).born) + ([0,1,20,45].getD (((at1 x0 (x1 + 1)).tmod 4).toNat) default)))))))
theorem ok_laws_year (x0 : List Int) (x1 : Int) (x2 : Family) (hx : x0.length ≤ 1048576) (hb : ∀ y ∈ x0, 0 ≤ y ∧ y ≤ 255) (hi : 0 ≤ x1 ∧ x1 ≤ 900) (hf : specIsFamily x2 = true) (hn : 0 < x2.people.length) : FnT Try.prog 20 [.ro false 1 x0.length (rowOf (cInt .u8) x0), .int .i64 x1, .agg (cFamily false x2)] (C20 (lawYear x0 x1 x2)) := by
  have aux : ∀ R, lawYear x0 x1 x2 = R → slim (C20 R) (A20 x0 x1 x2) [] := by
    intro R hR
    refine rg ⟨by (intros;omega),by (have h9:=year_idx hb hi.1 hf hn;(try simp only [inR]);omega),⟨by with_reducible assumption,by with_reducible assumption,by (intros;omega)⟩,trivial⟩ ?_
    refine rg ⟨by (have h9:=year_idx hb hi.1 hf hn;(try simp only [inR]);omega),by (intros;omega),fun hg0=>⟨by with_reducible assumption,by with_reducible assumption,by (intros;omega)⟩,trivial⟩ ?_
    revert hR;refine cd (fun hc1 hR=>?_) fun hc1 hR=>?_
    ·
      refine rg ⟨by (have h9:=year_idx hb hi.1 hf hn;(try simp only [inR]);omega),by (intros;omega),by ((try clear hR);intros;(try simp only [decide_eq_true_eq,decide_eq_false_iff_not,Bool.or_eq_true,Bool.and_eq_true,or_f_iff,not_f_iff,not_t_iff,Bool.not_eq_true',inR] at *);(repeat' apply And.intro) <;> (have h9:=year_idx hb hi.1 hf hn;have h8:=at_mod hb (i:=x1 + 2) (by omega) 3 (by omega);intros;(try simp only [inR,decide_eq_true_eq] at *);omega)),by ((try clear hR);intros;(try simp only [decide_eq_true_eq,decide_eq_false_iff_not,Bool.or_eq_true,Bool.and_eq_true,or_f_iff,not_f_iff,not_t_iff,Bool.not_eq_true',inR] at *);(repeat' apply And.intro) <;> (have h9:=year_idx hb hi.1 hf hn;have h8:=at_mod hb (i:=x1 + 2) (by omega) 3 (by omega);intros;(try simp only [inR,decide_eq_true_eq] at *);omega)),⟨by with_reducible assumption,by with_reducible assumption,by (intros;omega)⟩,trivial⟩ ?_
      exact congrArg C20 hR
    ·
      refine rg ⟨by (have h9:=year_idx hb hi.1 hf hn;(try simp only [inR]);omega),by (intros;omega),by (have h9:=year_idx hb hi.1 hf hn;have h8:=at_mod hb (i:=x1 + 1) (by omega) 4 (by omega);(try simp only [inR,List.length_cons,List.length_nil]);omega),by (have h9:=year_idx hb hi.1 hf hn;have h8:=at_mod hb (i:=x1 + 1) (by omega) 4 (by omega);have h7:=four_rng (i:=((at1 x0 (x1 + 1)).tmod 4).toNat) (by omega);(try simp only [inR]);omega),trivial,⟨by with_reducible assumption,by with_reducible assumption,by (intros;omega)⟩,trivial⟩ ?_
      exact congrArg C20 hR
  exact Fn.go 50 Try.func20 (by kernel_rfl) (by kernel_rfl) (by simp [C20,Frs,FrsL]) (A20 x0 x1 x2) (by kernel_rfl) (aux _ rfl)
def k20 (x0 : List Int) (x1 : Int) (x2 : Family) : Cl:=(hres (C20 (lawYear x0 x1 x2)),k5 (ok_laws_year x0 x1 x2))
theorem wrap_u8 (n : Int) : 0 ≤ IntKind.wrap .u8 n ∧ IntKind.wrap .u8 n ≤ 255 := by
  simp only [IntKind.wrap,IntKind.signed,IntKind.bits]
  simp
  omega
theorem fresh1 (x : Int) : ∀ y ∈ [IntKind.wrap .u8 x],0 ≤ y ∧ y ≤ 255:=fun y hy=>by rw [List.mem_singleton.1 hy];exact wrap_u8 x
theorem fresh2 {l : List Int} (h : ∀ y ∈ l, 0 ≤ y ∧ y ≤ 255) (x : Int) : ∀ y ∈ l ++ [IntKind.wrap .u8 x], 0 ≤ y ∧ y ≤ 255 := fun y hy => by
  rcases List.mem_append.1 hy with hy | hy
  · exact h y hy
  · exact fresh1 x y hy
def C17 (R : (List Int)) : LV × List (Nat × BC):=(.own 0,[(0,.arr 1 R.length (rowOf (cInt .u8) R))])
def lawFresh (x0 : List Int) (x1 : Int) : (List Int):=loopW (fun (v1 : (List Int) × Int) next=>bif ((decide (v1.2 < ((x0.length : Nat) : Int))) && (decide (v1.2 < 600))) then (next ((v1.1 ++ [IntKind.wrap .u8 (((IntKind.wrap .i64 (x0.getD v1.2.toNat default)) * 3) + (x1 * ((v1.2.tmod 7) + 1)))]),v1.2 + 1)) else v1.1) ((600 - (0 : Int)).toNat + 1) ([IntKind.wrap .u8 x1],0)
def D17b1 (x0 : List Int) (x1 : Int) (v1 : (List Int) × Int) : Dl:=⟨[(5,.own 20005),(6,.int .i64 v1.2)],[(20005,.arr 1 v1.1.length (rowOf (cInt .u8) v1.1))]⟩
def A17b1 (x0 : List Int) (x1 : Int) (v1 : (List Int) × Int) : Ann:=.reg 1 [] [] [0,1,4,5,6,17] [20005] [decide (v1.2 < ((x0.length : Nat) : Int))] [] [] [1,1] (cn ((decide (v1.2 < ((x0.length : Nat) : Int))) && (decide (v1.2 < 600))) (.reg 1 [(5,.wrap),(13,.wrap)] [(14,bsC 34 (cInt .u8) ([IntKind.wrap .u8 (((IntKind.wrap .i64 (x0.getD v1.2.toNat default)) * 3) + (x1 * ((v1.2.tmod 7) + 1)))] : List Int)),(15,ap1 35 (cInt .u8) 1 v1.1 (IntKind.wrap .u8 (((IntKind.wrap .i64 (x0.getD v1.2.toNat default)) * 3) + (x1 * ((v1.2.tmod 7) + 1)))))] [0,1,4,5,6] [35] [] [pf (0 ≤ (v1.2 : Int) ∧ (v1.2 : Int) < ((x0.length : Nat) : Int)),pf (inR .i64 ((IntKind.wrap .i64 (x0.getD v1.2.toNat default)) * 3)),pf ((7 : Int) ≠ 0),pf (inR .i64 ((v1.2.tmod 7) + 1)),pf (inR .i64 (x1 * ((v1.2.tmod 7) + 1))),pf (inR .i64 (((IntKind.wrap .i64 (x0.getD v1.2.toNat default)) * 3) + (x1 * ((v1.2.tmod 7) + 1))))] [] [0,4,8,12,16,20,24,28] (r1 1 [0,1,4,5,6] [35] [pf (inR .i64 (v1.2 + 1))] [0] (.next 0 [(20005,some 35)] (D17b1 x0 x1 ((v1.1 ++ [IntKind.wrap .u8 (((IntKind.wrap .i64 (x0.getD v1.2.toNat default)) * 3) + (x1 * ((v1.2.tmod 7) + 1)))]),v1.2 + 1))))) (r0 1 [4] [20005] (rt [(0,some 20005)] (C17 v1.1))))
def A17 (x0 : List Int) (x1 : Int) : Ann:=.reg 2 [(1001,.wrap)] [(1002,bsC 9 (cInt .u8) ([IntKind.wrap .u8 x1] : List Int))] [0,1,4,5] [9] [] [] [] [0] (r0 1 [0,1,4,5,6] [9] (.loop ((List Int) × Int) (D17b1 x0 x1) [] [9] [(20005,some 9)] (D17b1 x0 x1 ([IntKind.wrap .u8 x1],0)) (A17b1 x0 x1)))
theorem fresh_ok (b : List Int) (s : Int) : (lawFresh b s).length ≤ 1048576 ∧ ∀ y ∈ lawFresh b s, 0 ≤ y ∧ y ≤ 255 := by
  unfold lawFresh
  refine loopW_to (fun (v : (List Int) × Int)=>(0 ≤ v.2 ∧ v.2 ≤ 600 ∧ v.1.length = v.2.toNat + 1) ∧ ∀ y ∈ v.1,0 ≤ y ∧ y ≤ 255) (fun v=>(600 - v.2).toNat) (fun (r : List Int)=>r.length ≤ 1048576 ∧ ∀ y ∈ r,0 ≤ y ∧ y ≤ 255) (fun v next hv hn=>?_) _ _ (Nat.lt_succ_self _) ⟨by simp,fresh1 s⟩
  refine cond_both (p:=fun (r : List Int)=>r.length ≤ 1048576 ∧ ∀ y ∈ r,0 ≤ y ∧ y ≤ 255) (fun c=>?_) (fun _=>⟨by omega,hv.2⟩)
  simp only [Bool.and_eq_true,decide_eq_true_eq] at c
  exact hn _ ⟨by simp only [List.length_append,List.length_singleton];omega,fresh2 hv.2 _⟩ (by dsimp only;omega)
theorem ok_laws_fresh (x0 : List Int) (x1 : Int) (hx : x0.length ≤ 1048576) (hb : ∀ y ∈ x0, 0 ≤ y ∧ y ≤ 255) (hs : 0 ≤ x1 ∧ x1 ≤ 255) : FnT Try.prog 17 [.ro false 1 x0.length (rowOf (cInt .u8) x0), .int .i64 x1] (C17 (lawFresh x0 x1)) := by
  have aux : ∀ R, lawFresh x0 x1 = R → slim (C17 R) (A17 x0 x1) [] := by
    intro R hR
    refine rg ⟨trivial,trivial⟩ ?_
    refine rg trivial ?_
    revert hR;refine lW (fun v=>(0 ≤ v.2 ∧ v.2 ≤ 600 ∧ v.1.length = v.2.toNat + 1) ∧ ∀ y ∈ v.1,0 ≤ y ∧ y ≤ 255) (fun v=>(600 - (v.2 : Int)).toNat) (by (exact ⟨by simp,fresh1 x1⟩)) (Nat.lt_succ_self _) rfl fun m1 v1 F1 hI1 hM1 hR hK1=>?_
    refine rg trivial ?_
    revert hR;refine cd (fun hc1 hR=>?_) fun hc1 hR=>?_
    ·
      refine rg ⟨by (simp only [Bool.and_eq_true,decide_eq_true_eq] at hc1;(try dsimp only);(try simp only [inR]);omega),by (simp only [Bool.and_eq_true,decide_eq_true_eq] at hc1;have h9:=getD_byte hb v1.2.toNat;have h8 : (v1.2).tmod 7 = v1.2 % 7:=Int.tmod_eq_emod_of_nonneg (by omega);have h7:=wrap_small (n:=x0.getD v1.2.toNat default) (by omega);have h6 : 0 ≤ x1 * (v1.2 % 7 + 1) ∧ x1 * (v1.2 % 7 + 1) ≤ 255 * 7:=⟨Int.mul_nonneg (by omega) (by omega),Int.mul_le_mul (by omega) (by omega) (by omega) (by omega)⟩;(first | rw [h7,h8] | rw [h7] | rw [h8]);simp only [inR];omega),by (intros;omega),by (simp only [Bool.and_eq_true,decide_eq_true_eq] at hc1;have h9:=getD_byte hb v1.2.toNat;have h8 : (v1.2).tmod 7 = v1.2 % 7:=Int.tmod_eq_emod_of_nonneg (by omega);have h7:=wrap_small (n:=x0.getD v1.2.toNat default) (by omega);have h6 : 0 ≤ x1 * (v1.2 % 7 + 1) ∧ x1 * (v1.2 % 7 + 1) ≤ 255 * 7:=⟨Int.mul_nonneg (by omega) (by omega),Int.mul_le_mul (by omega) (by omega) (by omega) (by omega)⟩;(first | rw [h7,h8] | rw [h7] | rw [h8]);simp only [inR];omega),by (simp only [Bool.and_eq_true,decide_eq_true_eq] at hc1;have h9:=getD_byte hb v1.2.toNat;have h8 : (v1.2).tmod 7 = v1.2 % 7:=Int.tmod_eq_emod_of_nonneg (by omega);have h7:=wrap_small (n:=x0.getD v1.2.toNat default) (by omega);have h6 : 0 ≤ x1 * (v1.2 % 7 + 1) ∧ x1 * (v1.2 % 7 + 1) ≤ 255 * 7:=⟨Int.mul_nonneg (by omega) (by omega),Int.mul_le_mul (by omega) (by omega) (by omega) (by omega)⟩;(first | rw [h7,h8] | rw [h7] | rw [h8]);simp only [inR];omega),by (simp only [Bool.and_eq_true,decide_eq_true_eq] at hc1;have h9:=getD_byte hb v1.2.toNat;have h8 : (v1.2).tmod 7 = v1.2 % 7:=Int.tmod_eq_emod_of_nonneg (by omega);have h7:=wrap_small (n:=x0.getD v1.2.toNat default) (by omega);have h6 : 0 ≤ x1 * (v1.2 % 7 + 1) ∧ x1 * (v1.2 % 7 + 1) ≤ 255 * 7:=⟨Int.mul_nonneg (by omega) (by omega),Int.mul_le_mul (by omega) (by omega) (by omega) (by omega)⟩;(first | rw [h7,h8] | rw [h7] | rw [h8]);simp only [inR];omega),trivial,by omega,trivial⟩ ?_
      refine rg ⟨by (simp only [Bool.and_eq_true,decide_eq_true_eq] at hc1;(try dsimp only);(try simp only [inR]);omega),trivial⟩ ?_
      exact hK1 ((v1.1 ++ [IntKind.wrap .u8 (((IntKind.wrap .i64 (x0.getD v1.2.toNat default)) * 3) + (x1 * ((v1.2.tmod 7) + 1)))]),v1.2 + 1) (by (simp only [Bool.and_eq_true,decide_eq_true_eq] at hc1;dsimp only;exact ⟨by simp only [List.length_append,List.length_singleton];omega,fresh2 hI1.2 _⟩)) (by (simp only [Bool.and_eq_true,decide_eq_true_eq] at hc1;(try dsimp only);(try simp only [inR]);omega)) hR
    ·
      refine rg trivial ?_
      exact congrArg C17 hR
  exact Fn.go 37 Try.func17 (by kernel_rfl) (by kernel_rfl) (by simp [C17,Frs,FrsL,FrsB,rowOf,cInt,cBool,cStr,cSl,FrsL_app,cPerson,cUnion,cFamily,cLaw,cl01Cur]) (A17 x0 x1) (by kernel_rfl) (aux _ rfl)
def k17 (x0 : List Int) (x1 : Int) : Cl:=(hres (C17 (lawFresh x0 x1)),k3 (ok_laws_fresh x0 x1))
end Go.Proofs.Ytkkijpibajigfaa
