import Derived.Test.YtaageiiodlfeiaaM45
set_option maxHeartbeats 4000000
set_option linter.unusedSimpArgs false
set_option linter.unusedVariables false
namespace Go.Proofs.Ytaageiiodlfeiaa
open Go Go.Lite Go.Proofs
def C132 (R : (List Int)) : LV × List (Nat × BC):=(.own 0,[(0,.arr 1 R.length (rowOf (cInt .i64) R))])
def l1Children (x0 : Family) (x1 : Int) : (List Int):=loopN (fun i1 (v1 : (List Int)) next=>bif ((decide (((x0.people.getD i1 default).father) = x1)) || (decide (((x0.people.getD i1 default).mother) = x1))) then (next (l1ByAge x0 v1 ((i1 : Nat) : Int))) else (next v1)) (fun (v1 : (List Int))=>v1) x0.people.length 0 ([] : List Int)
def D132b1 (x0 : Family) (x1 : Int) (i1 : Nat) (v1 : (List Int)) : Dl:=⟨[(12,.int .i64 ((i1 : Nat) : Int)),(5,.own 20005)],[(20005,.arr 1 v1.length (rowOf (cInt .i64) v1))]⟩
def A132b1 (x0 : Family) (x1 : Int) (i1 : Nat) (v1 : (List Int)) : Ann:=r0 1 [1,2,4,5,10,11,12,13] [2,20005] (cn (decide (((i1 : Nat) : Int) < ((x0.people.length : Nat) : Int))) (.reg 2 [] [] [1,2,4,5,6,10,11,12,26] [2,20005] [!(decide (((x0.people.getD i1 default).father) = x1)),decide (((x0.people.getD i1 default).father) = x1)] [pf (0 ≤ (((i1 : Nat) : Int) : Int) ∧ (((i1 : Nat) : Int) : Int) < ((x0.people.length : Nat) : Int))] [] [0,1,1,1,6] (cn ((decide (((x0.people.getD i1 default).father) = x1)) || (decide (((x0.people.getD i1 default).mother) = x1))) (.reg 1 [] [(3,k173 x0 v1 ((i1 : Nat) : Int))] [1,2,4,5,10,11,12] [2,1030] [] [] [] [0] (r1 1 [1,2,4,5,10,11,12] [2,1030] [pf (inR .i64 (((i1 : Nat) : Int) + 1))] [0] (.next 0 [(20005,some 1030)] (D132b1 x0 x1 (i1 + 1) (l1ByAge x0 v1 ((i1 : Nat) : Int)))))) (r1 1 [1,2,4,5,10,11,12] [2,20005] [pf (inR .i64 (((i1 : Nat) : Int) + 1))] [0] (.next 0 [(20005,some 20005)] (D132b1 x0 x1 (i1 + 1) v1))))) (r0 1 [4] [20005] (rt [(0,some 20005)] (C132 v1))))
def A132 (x0 : Family) (x1 : Int) : Ann:=.reg 2 [] [(1000,bsC 8 (cInt .i64) ([] : List Int))] [1,2,4,5] [2,8] [] [] [] [0] (r0 1 [1,2,4,5,10,11,12] [2,8] (lp (D132b1 x0 x1) [] [8] [(20005,some 8)] (D132b1 x0 x1 0 ([] : List Int)) (A132b1 x0 x1)))
theorem ok_spec_l1Children (x0 : Family) (x1 : Int) (hx : x0.people.length ≤ 1048576) : FnT Try.prog 132 [.agg (cFamily false x0), .int .i64 x1] (C132 (l1Children x0 x1)) := by
  have aux : ∀ R, l1Children x0 x1 = R → slim (C132 R) (A132 x0 x1) [] := by
    intro R hR
    refine rg ⟨trivial,trivial⟩ ?_
    refine rg trivial ?_
    revert hR;refine lN (fun i v=>v.length ≤ i ∧ ∀ y ∈ v,0 ≤ y ∧ y < x0.people.length) (by (refine ⟨by (first | (simp only [List.length_nil];omega) | omega),fun y hy=>?_⟩;first | exact hI1.2 y hy | cases hy)) rfl fun i1 v1 F1 hn1 hI1 hR hK1=>?_
    refine rg trivial ?_
    refine ⟨fun hc1=>?_,fun hc1=>?_⟩
    · have hii1 : i1 < x0.people.length:=by have:=of_decide_eq_true hc1;omega
      replace hR:=loopN_step hR hii1
      refine rg ⟨by (intros;omega),trivial⟩ ?_
      revert hR;refine cd (fun hc2 hR=>?_) fun hc2 hR=>?_
      ·
        refine rg ⟨⟨by trivial,by (exact hI1.2),by (intros;omega),by (intros;omega)⟩,trivial⟩ ?_
        refine rg ⟨by ( intros;simp only [inR];omega),trivial⟩ ?_
        exact hK1 (l1ByAge x0 v1 ((i1 : Nat) : Int)) hii1 (by (refine ⟨by (rw [l1ByAge_len];omega),fun y hy=>?_⟩;exact Or.elim ((l1ByAge_mem _ _ _ y).1 hy) (fun h9=>by omega) (fun h9=>hI1.2 y h9))) hR
      ·
        refine rg ⟨by ( intros;simp only [inR];omega),trivial⟩ ?_
        exact hK1 v1 hii1 (by (refine ⟨by (first | (simp only [List.length_nil];omega) | omega),fun y hy=>?_⟩;first | exact hI1.2 y hy | cases hy)) hR
    · obtain rfl : i1 = x0.people.length:=by have:=of_decide_eq_false hc1;omega
      replace hR:=loopN_end hR (Nat.lt_irrefl _)
      refine rg trivial ?_
      exact congrArg C132 hR
  exact Fn.go 33 Try.func132 (by kernel_rfl) (by kernel_rfl) (by simp [C132,Frs,FrsL,FrsB,rowOf,cInt,cBool,cStr,cSl,FrsL_app,cPerson,cUnion,cFamily,cClasses,cl01Cur]) (A132 x0 x1) (by kernel_rfl) (aux _ rfl)
def k132 (x0 : Family) (x1 : Int) : Cl:=(hres (C132 (l1Children x0 x1)),k1 (ok_spec_l1Children x0 x1))
theorem l1Children_mem (x : Family) (p y : Int) : y ∈ l1Children x p ↔ ∃ c : Nat, c < x.people.length ∧ y = c ∧ ((x.people.getD c default).father = p ∨ (x.people.getD c default).mother = p) := by
  unfold l1Children
  refine loopN_to (fun i (v : List Int)=>y ∈ v ↔ ∃ c : Nat,c < i ∧ y = c ∧ ((x.people.getD c default).father = p ∨ (x.people.getD c default).mother = p)) (fun (r : List Int)=>y ∈ r ↔ ∃ c : Nat,c < x.people.length ∧ y = c ∧ ((x.people.getD c default).father = p ∨ (x.people.getD c default).mother = p)) (by simp) (fun i v next hi hv hn=>?_) (fun v hv=>hv)
  refine cond_both (p:=fun (r : List Int)=>y ∈ r ↔ ∃ c : Nat,c < x.people.length ∧ y = c ∧ ((x.people.getD c default).father = p ∨ (x.people.getD c default).mother = p)) (fun c=>hn _ ?_) (fun c=>hn _ ?_)
  · simp only [Bool.or_eq_true,decide_eq_true_eq] at c
    rw [l1ByAge_mem,hv]
    constructor
    · rintro (h | ⟨d,h1,h2,h3⟩)
      · exact ⟨i,by omega,h,c⟩
      · exact ⟨d,by omega,h2,h3⟩
    · rintro ⟨d,h1,h2,h3⟩
      by_cases e : d = i
      · exact .inl (by rw [h2,e])
      · exact .inr ⟨d,by omega,h2,h3⟩
  · simp only [or_f_iff,decide_eq_false_iff_not] at c
    rw [hv]
    constructor
    · rintro ⟨d,h1,h2,h3⟩;exact ⟨d,by omega,h2,h3⟩
    · rintro ⟨d,h1,h2,h3⟩
      by_cases e : d = i
      · subst e;exact absurd h3 (by rintro (q | q);exact c.1 q;exact c.2 q)
      · exact ⟨d,by omega,h2,h3⟩
theorem l1Children_rng {x : Family} {p : Int} {j : Nat} (h : j < (l1Children x p).length) : 0 ≤ (l1Children x p).getD j default ∧ (l1Children x p).getD j default < x.people.length := by
  obtain ⟨c,h1,h2,_⟩:=(l1Children_mem x p _).1 (getD_lt_mem h)
  rw [h2];omega
theorem l1Children_len (x : Family) (p : Int) : (l1Children x p).length ≤ x.people.length := by
  unfold l1Children
  refine loopN_to (fun i (v : List Int)=>v.length ≤ i) (fun (r : List Int)=>r.length ≤ x.people.length) (by simp) (fun i v next hi hv hn=>?_) (fun v hv=>hv)
  exact cond_both (p:=fun (r : List Int)=>r.length ≤ x.people.length) (fun _=>hn _ (by rw [l1ByAge_len];omega)) (fun _=>hn _ (by omega))
theorem die_ok {l v : List Person} (hk : Mk l) (hd : Dying l v) {k : Nat} (h : k < l.length) {u : List Union} {t x : Int} (hl : Last v (l1Children ⟨v, u⟩ (k : Int)) k (l1Children ⟨v, u⟩ (k : Int)).length t) (hx : 0 ≤ x ∧ x ≤ 60) :
    Dying l (v.set k ⟨(v.getD k default).name,(v.getD k default).sex,(v.getD k default).father,(v.getD k default).mother,(v.getD k default).born,t + x⟩):=by
  have hb:=last_bd hk hd h hl
  have hs:=hd.same k h
  refine hd.set h ⟨by have:=hl.1;rw [hs.2.2.2.2] at this;omega,by omega⟩ fun c hc hp=>?_
  have hsc:=hd.same c hc
  have hm : ((c : Int)) ∈ l1Children ⟨v,u⟩ (k : Int):=(l1Children_mem _ _ _).2 ⟨c,by simp only [hd.len];exact hc,rfl,by rw [hsc.2.2.1,hsc.2.2.2.1];exact hp⟩
  obtain ⟨i,hi,e⟩:=List.getElem_of_mem hm
  have:=hl.2.2 i hi
  rw [show (l1Children ⟨v,u⟩ (k : Int)).getD i default = (c : Int) by rw [List.getD_eq_getElem?_getD,List.getElem?_eq_getElem hi,Option.getD_some,e],Int.toNat_natCast,hsc.2.2.2.2] at this
  omega
end Go.Proofs.Ytaageiiodlfeiaa
