import Derived.Test.YtaageiiodlfeiaaPR7
set_option maxHeartbeats 4000000
set_option linter.unusedSimpArgs false
set_option linter.unusedVariables false
namespace Go.Proofs.Ytaageiiodlfeiaa
open Go Go.Lite Go.Proofs
theorem isRel_ok {r : Relation} (h : implIsRel r = true) : (0 ≤ r.size ∧ r.size ≤ 40) ∧ (r.rows.length : Int) = r.size ∧ ∀ y ∈ r.rows, ∀ b ∈ y, 0 ≤ b ∧ b < r.size := by
  revert h
  unfold implIsRel
  refine cond_both (p:=fun (b : Bool)=>b = true → (0 ≤ r.size ∧ r.size ≤ 40) ∧ (r.rows.length : Int) = r.size ∧ ∀ y ∈ r.rows,∀ b ∈ y,0 ≤ b ∧ b < r.size) (fun _ h=>nomatch h) (fun c=>?_)
  simp only [or_f_iff,decide_eq_false_iff_not,not_f_iff,decide_eq_true_eq] at c
  refine loopN_to (fun i _=>∀ k,k < i → ∀ b ∈ r.rows.getD k default,0 ≤ b ∧ b < r.size) (fun (b : Bool)=>b = true → (0 ≤ r.size ∧ r.size ≤ 40) ∧ (r.rows.length : Int) = r.size ∧ ∀ y ∈ r.rows,∀ b ∈ y,0 ≤ b ∧ b < r.size) (fun k hk=>absurd hk (Nat.not_lt_zero _)) (fun i v next hi hv hn=>?_) (fun v hv _=>⟨⟨by omega,by omega⟩,c.2,fun y hy=>?_⟩)
  · refine loopN_to (fun j _=>∀ k,k < j → 0 ≤ (r.rows.getD i default).getD k default ∧ (r.rows.getD i default).getD k default < r.size) (fun (b : Bool)=>b = true → (0 ≤ r.size ∧ r.size ≤ 40) ∧ (r.rows.length : Int) = r.size ∧ ∀ y ∈ r.rows,∀ b ∈ y,0 ≤ b ∧ b < r.size) (fun k hk=>absurd hk (Nat.not_lt_zero _)) (fun j w next2 hj hw hn2=>?_) (fun w hw=>hn _ fun k hk=>?_)
    · refine cond_both (p:=fun (b : Bool)=>b = true → (0 ≤ r.size ∧ r.size ≤ 40) ∧ (r.rows.length : Int) = r.size ∧ ∀ y ∈ r.rows,∀ b ∈ y,0 ≤ b ∧ b < r.size) (fun _ h=>nomatch h) (fun c2=>hn2 _ fun k hk=>?_)
      simp only [or_f_iff,decide_eq_false_iff_not] at c2
      by_cases e : k = j
      · subst e;omega
      · exact hw k (by omega)
    · by_cases e : k = i
      · subst e
        intro b hb
        obtain ⟨m,hm,e2⟩:=mem_getD (d:=default) hb
        rw [← e2];exact hw m hm
      · exact hv k (by omega)
  · obtain ⟨k,hk,e⟩:=mem_getD (d:=default) hy
    rw [← e];exact hv k hk
theorem two_ok {r s : Relation} (h : twoRel r s = true) : (0 ≤ r.size ∧ r.size ≤ 40) ∧ (r.rows.length : Int) = r.size ∧ (s.rows.length : Int) = r.size ∧ ∀ y ∈ r.rows, ∀ b ∈ y, 0 ≤ b ∧ b < s.rows.length := by
  unfold twoRel at h
  simp only [Bool.and_eq_true,decide_eq_true_eq] at h
  obtain ⟨⟨h1,h2⟩,h3⟩:=h
  have h1:=isRel_ok h1
  have h2:=isRel_ok h2
  exact ⟨h1.1,h1.2.1,by omega,fun y hy b hb=>by have:=h1.2.2 y hy b hb;omega⟩
/-- Rows as they are built. -/
def relRows (n : Nat) (is : Int → Int → Bool) : List (List Int):=(List.range n).map fun (a : Nat)=>((List.range n).filter fun (b : Nat)=>is (a : Int) (b : Int)).map fun b=>((b : Nat) : Int)
theorem rel_row (n : Nat) (p : Nat → Bool) {α : Type} (k : List Int → α) : loopN (fun i2 (v2 : List Int) next => bif p i2 then next (v2 ++ [((i2 : Nat) : Int)]) else next v2) k n 0 [] = k (((List.range n).filter p).map fun b => ((b : Nat) : Int)) := by
  have : ∀ (m i : Nat) (l : List Int), i + m = n → l = ((List.range i).filter p).map (fun b => ((b : Nat) : Int)) → loopN (fun i2 (v2 : List Int) next => bif p i2 then next (v2 ++ [((i2 : Nat) : Int)]) else next v2) k m i l = k (((List.range n).filter p).map fun b => ((b : Nat) : Int)) := by
    intro m
    induction m with
    | zero=>intro i l h1 h2;simp only [loopN];rw [h2,show i = n by omega]
    | succ m ih =>
      intro i l h1 h2
      simp only [loopN]
      cases c : p i with
      | true=>exact ih (i + 1) _ (by omega) (by rw [h2,List.range_succ,List.filter_append];simp [c])
      | false=>exact ih (i + 1) _ (by omega) (by rw [h2,List.range_succ,List.filter_append];simp [c])
  exact this n 0 [] (by omega) rfl
theorem rel_loop (n : Nat) (is : Int → Int → Bool) {α : Type} (k : List (List Int) → α) : loopN (fun i1 (v1 : List (List Int)) nx1 => loopN (fun i2 (v2 : List Int) next => bif is ((i1 : Nat) : Int) ((i2 : Nat) : Int) then next (v2 ++ [((i2 : Nat) : Int)]) else next v2) (fun (v2 : List Int) => nx1 (v1 ++ [v2])) n 0 ([] : List Int)) k n 0 ([] : List (List Int)) = k (relRows n is) := by
  have : ∀ (m i : Nat) (l : List (List Int)), i + m = n → l = (List.range i).map (fun (a : Nat) => ((List.range n).filter fun (b : Nat) => is (a : Int) (b : Int)).map fun b => ((b : Nat) : Int)) → loopN (fun i1 (v1 : List (List Int)) nx1 => loopN (fun i2 (v2 : List Int) next => bif is ((i1 : Nat) : Int) ((i2 : Nat) : Int) then next (v2 ++ [((i2 : Nat) : Int)]) else next v2) (fun (v2 : List Int) => nx1 (v1 ++ [v2])) n 0 ([] : List Int)) k m i l = k (relRows n is) := by
    intro m
    induction m with
    | zero=>intro i l h1 h2;simp only [loopN];rw [h2,show i = n by omega];rfl
    | succ m ih =>
      intro i l h1 h2
      simp only [loopN]
      rw [rel_row n (fun (b : Nat)=>is (i : Int) (b : Int))]
      exact ih (i + 1) _ (by omega) (by rw [h2,List.range_succ,List.map_append];rfl)
  exact this n 0 [] (by omega) rfl
theorem relRows_len (n : Nat) (is : Int → Int → Bool) : (relRows n is).length = n:=by simp [relRows]
theorem relRows_get (n : Nat) (is : Int → Int → Bool) {a : Nat} (h : a < n) : (relRows n is).getD a default = ((List.range n).filter fun (b : Nat) => is (a : Int) (b : Int)).map fun b => ((b : Nat) : Int) := by
  unfold relRows
  rw [List.getD_eq_getElem?_getD,List.getElem?_map,List.getElem?_range h];rfl
theorem relRows_row (n : Nat) (is : Int → Int → Bool) {y : List Int} (h : y ∈ relRows n is) : y.length ≤ n := by
  unfold relRows at h
  obtain ⟨a,_,rfl⟩:=List.mem_map.1 h
  rw [List.length_map]
  exact Nat.le_trans (List.length_filter_le _ _) (by rw [List.length_range];exact Nat.le_refl _)
theorem relRows_mem {n : Nat} {is : Int → Int → Bool} {a : Nat} (h : a < n) {b : Int} : b ∈ (relRows n is).getD a default ↔ (0 ≤ b ∧ b < n) ∧ is (a : Int) b = true := by
  rw [relRows_get n is h,List.mem_map]
  constructor
  · rintro ⟨c,hc,rfl⟩
    rw [List.mem_filter,List.mem_range] at hc
    exact ⟨⟨by omega,by omega⟩,hc.2⟩
  · rintro ⟨h1,h2⟩
    refine ⟨b.toNat,?_,by omega⟩
    rw [List.mem_filter,List.mem_range]
    have e : ((b.toNat : Nat) : Int) = b:=by omega
    exact ⟨by omega,by rw [e];exact h2⟩
theorem relatedF_eq (n : Int) (c : KinType × Family) : relatedF n c = Relation.mk n (relRows n.toNat fun a b=>relForL a b c.1 c.2):=rel_loop n.toNat (fun a b=>relForL a b c.1 c.2) _
theorem relatedC_eq (n : Int) (c : Relation × Relation) : relatedC n c = Relation.mk n (relRows n.toNat fun a b=>relCompL a b c.1 c.2):=rel_loop n.toNat (fun a b=>relCompL a b c.1 c.2) _
theorem relatedS_eq (n : Int) (c : Family × Step × (KV → Option Bool)) : relatedS n c = Relation.mk n (relRows n.toNat fun a b=>relStepL a b c.1 c.2.1 c.2.2):=rel_loop n.toNat (fun a b=>relStepL a b c.1 c.2.1 c.2.2) _
/-- Sizes of what is related. -/
def RelOk (n : Nat) (r : Relation) : Prop:=r.rows.length ≤ n ∧ ∀ y ∈ r.rows,y.length ≤ n
theorem relRows_ok {n m : Nat} (h : n ≤ m) (s : Int) (is : Int → Int → Bool) : RelOk m (Relation.mk s (relRows n is)):=⟨by rw [show (Relation.mk s (relRows n is)).rows = relRows n is from rfl,relRows_len];exact h,fun y hy=>Nat.le_trans (relRows_row n is hy) h⟩
def C99 (R : Relation) : LV × List (Nat × BC):=(.agg [.int .i64 R.size,.own 0],[(0,.nest true 1 R.rows.length (nrOf (cInt .i64) R.rows))])
def stepRelP (x0 : Family) (x1 : Step) : Relation:=loopN (fun i1 (v1 : (KV → Option Bool)) next=>bif (decide (x1.kind = 7)) then (next (mset v1 (KV.p ((x0.unions.getD i1 default).woman) ((x0.unions.getD i1 default).man)) true)) else (bif (decide (x1.kind = 8)) then (next (mset v1 (KV.p ((x0.unions.getD i1 default).man) ((x0.unions.getD i1 default).woman)) true)) else (next v1))) (fun (v1 : (KV → Option Bool))=>(relatedS ((x0.people.length : Nat) : Int) (x0,x1,v1))) x0.unions.length 0 (fun _=>none)
def D99b1 (x0 : Family) (x1 : Step) (i1 : Nat) (v1 : (KV → Option Bool)) : Dl:=⟨[(12,.int .i64 ((i1 : Nat) : Int))],[(30500,.mp .pair (.b v1)),(5,.var [.mp 30500])]⟩
def A99b1 (x0 : Family) (x1 : Step) (i1 : Nat) (v1 : (KV → Option Bool)) : Ann:=r0 1 [2,3,4,5,10,11,12,13] [2,3,4,5,30500] (cn (decide (((i1 : Nat) : Int) < ((x0.unions.length : Nat) : Int))) (r1 2 [2,3,4,5,7,10,11,12,17] [2,3,4,5,7,30500] [pf (0 ≤ (((i1 : Nat) : Int) : Int) ∧ (((i1 : Nat) : Int) : Int) < ((x0.unions.length : Nat) : Int))] [0] (r0 1 [2,3,4,5,7,10,11,12,17,18] [2,3,4,5,7,30500] (cn (decide (x1.kind = 7)) (r0 1 [2,3,4,5,10,11,12] [2,3,4,5,30500] (r1 1 [2,3,4,5,10,11,12] [2,3,4,5,30500] [pf (inR .i64 (((i1 : Nat) : Int) + 1))] [0] (.next 0 [(30500,some 30500)] (D99b1 x0 x1 (i1 + 1) (mset v1 (KV.p ((x0.unions.getD i1 default).woman) ((x0.unions.getD i1 default).man)) true))))) (r0 1 [2,3,4,5,7,10,11,12,26] [2,3,4,5,7,30500] (cn (decide (x1.kind = 8)) (r0 1 [2,3,4,5,10,11,12] [2,3,4,5,30500] (r1 1 [2,3,4,5,10,11,12] [2,3,4,5,30500] [pf (inR .i64 (((i1 : Nat) : Int) + 1))] [0] (.next 0 [(30500,some 30500)] (D99b1 x0 x1 (i1 + 1) (mset v1 (KV.p ((x0.unions.getD i1 default).man) ((x0.unions.getD i1 default).woman)) true))))) (r1 1 [2,3,4,5,10,11,12] [2,3,4,5,30500] [pf (inR .i64 (((i1 : Nat) : Int) + 1))] [0] (.next 0 [(30500,some 30500)] (D99b1 x0 x1 (i1 + 1) v1)))))))) (.reg 1 [] [(4,k96S ((x0.people.length : Nat) : Int) (x0,x1,v1))] [4] [4,1039] [] [] [] [0] (rt [(0,some 1039)] (C99 (relatedS ((x0.people.length : Nat) : Int) (x0,x1,v1))))))
def A99 (x0 : Family) (x1 : Step) : Ann:=r0 2 [2,3,4,5] [2,3,4,5,8] (r0 1 [2,3,4,5,10,11,12] [2,3,4,5,8] (lp (D99b1 x0 x1) [] [8] [(30500,some 8)] (D99b1 x0 x1 0 (fun _=>none)) (A99b1 x0 x1)))
theorem ok_impl_stepRelation (x0 : Family) (x1 : Step) (hx : x0.people.length ≤ 1048576) (hu : x0.unions.length ≤ 1048576) : FnT Try.prog 99 [.agg (cFamily false x0), .agg (cStep false x1)] (C99 (stepRelP x0 x1)) := by
  have aux : ∀ R, stepRelP x0 x1 = R → slim (C99 R) (A99 x0 x1) [] := by
    intro R hR
    refine rg trivial ?_
    refine rg trivial ?_
    revert hR;refine lN (fun i v=>True) (by trivial) rfl fun i1 v1 F1 hn1 hI1 hR hK1=>?_
    refine rg trivial ?_
    refine ⟨fun hc1=>?_,fun hc1=>?_⟩
    · have hii1 : i1 < x0.unions.length:=by have:=of_decide_eq_true hc1;omega
      replace hR:=loopN_step hR hii1
      refine rg ⟨by (intros;omega),trivial⟩ ?_
      refine rg trivial ?_
      revert hR;refine cd (fun hc2 hR=>?_) fun hc2 hR=>?_
      ·
        refine rg trivial ?_
        refine rg ⟨by ( intros;simp only [inR];omega),trivial⟩ ?_
        exact hK1 (mset v1 (KV.p ((x0.unions.getD i1 default).woman) ((x0.unions.getD i1 default).man)) true) hii1 (by trivial) hR
      ·
        refine rg trivial ?_
        revert hR;refine cd (fun hc3 hR=>?_) fun hc3 hR=>?_
        ·
          refine rg trivial ?_
          refine rg ⟨by ( intros;simp only [inR];omega),trivial⟩ ?_
          exact hK1 (mset v1 (KV.p ((x0.unions.getD i1 default).man) ((x0.unions.getD i1 default).woman)) true) hii1 (by trivial) hR
        ·
          refine rg ⟨by ( intros;simp only [inR];omega),trivial⟩ ?_
          exact hK1 v1 hii1 (by trivial) hR
    · obtain rfl : i1 = x0.unions.length:=by have:=of_decide_eq_false hc1;omega
      replace hR:=loopN_end hR (Nat.lt_irrefl _)
      refine rg ⟨⟨by ( intros;simp only [inR];omega),by trivial⟩,trivial⟩ ?_
      exact congrArg C99 hR
  exact Fn.go 40 Try.func99 (by kernel_rfl) (by kernel_rfl) (by simp [C99,FrsN,nrOf,Frs,FrsL,FrsB,rowOf,cInt,cBool,cStr,cSl,FrsL_app,cPerson,cUnion,cFamily,cClasses,cl01Cur,cStep,cKinType,cRule,cRelation]) (A99 x0 x1) (by kernel_rfl) (aux _ rfl)
def k99 (x0 : Family) (x1 : Step) : Cl:=(hres (C99 (stepRelP x0 x1)),k2 (ok_impl_stepRelation x0 x1))
def C98 (R : Relation) : LV × List (Nat × BC):=(.agg [.int .i64 R.size,.own 0],[(0,.nest true 1 R.rows.length (nrOf (cInt .i64) R.rows))])
def compRel (x0 : Relation) (x1 : Relation) : Relation:=bif (!(twoRel x0 x1)) then (Relation.mk 0 ([] : List (List Int))) else (relatedC x0.size (x0,x1))
def A98 (x0 : Relation) (x1 : Relation) : Ann:=r0 1 [2,3,4] [2,3,4] (.reg 1 [] [(2,k146 x0 x1)] [2,3,4,8] [2,3,4] [] [] [] [0] (cn (!(twoRel x0 x1)) (r0 1 [2,3,4] [2,3,4] (rt [(0,none)] (C98 (Relation.mk 0 ([] : List (List Int)))))) (.reg 1 [] [(3,k96C x0.size (x0,x1))] [4] [4,1013] [] [] [] [0] (rt [(0,some 1013)] (C98 (relatedC x0.size (x0,x1)))))))
theorem ok_impl_ComposeRelations (x0 : Relation) (x1 : Relation) (hx : x0.rows.length ≤ 1048576 ∧ ∀ y ∈ x0.rows, y.length ≤ 1048576) (hy : x1.rows.length ≤ 1048576 ∧ ∀ y ∈ x1.rows, y.length ≤ 1048576) : FnT Try.prog 98 [.agg (cRelation false x0), .agg (cRelation false x1)] (C98 (compRel x0 x1)) := by
  have aux : ∀ R, compRel x0 x1 = R → slim (C98 R) (A98 x0 x1) [] := by
    intro R hR
    refine rg trivial ?_
    refine rg ⟨⟨by with_reducible assumption,by with_reducible assumption⟩,trivial⟩ ?_
    revert hR;refine cd (fun hc1 hR=>?_) fun hc1 hR=>?_
    ·
      refine rg trivial ?_
      exact congrArg C98 hR
    ·
      refine rg ⟨⟨by ((try clear hR);intros;(try simp only [decide_eq_true_eq,decide_eq_false_iff_not,Bool.or_eq_true,Bool.and_eq_true,or_f_iff,not_f_iff,not_t_iff,Bool.not_eq_true',inR] at *);(repeat' apply And.intro) <;> (have h9:=two_ok (by simpa using hc1);omega)),by (have h9:=two_ok (by simpa using hc1);exact fun y h8=>⟨hx.2 y h8,h9.2.2.2 y h8⟩),by (exact hy.2)⟩,trivial⟩ ?_
      exact congrArg C98 hR
  exact Fn.go 14 Try.func98 (by kernel_rfl) (by kernel_rfl) (by simp [C98,FrsN,nrOf,Frs,FrsL,FrsB,rowOf,cInt,cBool,cStr,cSl,FrsL_app,cPerson,cUnion,cFamily,cClasses,cl01Cur,cStep,cKinType,cRule,cRelation]) (A98 x0 x1) (by kernel_rfl) (aux _ rfl)
def k98 (x0 : Relation) (x1 : Relation) : Cl:=(hres (C98 (compRel x0 x1)),k2 (ok_impl_ComposeRelations x0 x1))
theorem relatedF_ok {n : Int} {c : KinType × Family} (h : n ≤ 1048576) : RelOk 1048576 (relatedF n c):=by rw [relatedF_eq];exact relRows_ok (by omega) _ _
/-- The unions as pairs. -/
def relPairs (x : Family) (s : Step) : KV → Option Bool:=loopN (fun i1 (v1 : (KV → Option Bool)) next=>bif (decide (s.kind = 7)) then (next (mset v1 (KV.p ((x.unions.getD i1 default).woman) ((x.unions.getD i1 default).man)) true)) else (bif (decide (s.kind = 8)) then (next (mset v1 (KV.p ((x.unions.getD i1 default).man) ((x.unions.getD i1 default).woman)) true)) else (next v1))) (fun v=>v) x.unions.length 0 (fun _=>none)
theorem loopN_out {S α : Type} (g : Nat → S → (S → α) → α) (f : Nat → S → S) (hg : ∀ i s next, g i s next = next (f i s)) (k : S → α) : ∀ m i s, loopN g k m i s = k (loopN (fun i s next => next (f i s)) (fun s => s) m i s)
  | 0,i,s=>rfl
  | m + 1,i,s=>by simp only [loopN];rw [hg];exact loopN_out g f hg k m (i + 1) (f i s)
theorem stepRelP_eq (x : Family) (s : Step) : stepRelP x s = Relation.mk (x.people.length : Int) (relRows x.people.length fun a b => relStepL a b x s (relPairs x s)) := by
  have hg : ∀ {α : Type} (i : Nat) (v : KV → Option Bool) (next : (KV → Option Bool) → α),(bif (decide (s.kind = 7)) then (next (mset v (KV.p ((x.unions.getD i default).woman) ((x.unions.getD i default).man)) true)) else (bif (decide (s.kind = 8)) then (next (mset v (KV.p ((x.unions.getD i default).man) ((x.unions.getD i default).woman)) true)) else (next v))) = next (bif (decide (s.kind = 7)) then (mset v (KV.p ((x.unions.getD i default).woman) ((x.unions.getD i default).man)) true) else (bif (decide (s.kind = 8)) then (mset v (KV.p ((x.unions.getD i default).man) ((x.unions.getD i default).woman)) true) else v)):=fun i v next=>by cases decide (s.kind = 7) <;> cases decide (s.kind = 8) <;> rfl
  have e : stepRelP x s = relatedS ((x.people.length : Nat) : Int) (x, s, relPairs x s) := by
    unfold stepRelP relPairs
    rw [loopN_out _ _ (fun i v next=>hg i v next),loopN_out (fun i1 (v1 : (KV → Option Bool)) next=>bif (decide (s.kind = 7)) then (next (mset v1 (KV.p ((x.unions.getD i1 default).woman) ((x.unions.getD i1 default).man)) true)) else (bif (decide (s.kind = 8)) then (next (mset v1 (KV.p ((x.unions.getD i1 default).man) ((x.unions.getD i1 default).woman)) true)) else (next v1))) _ (fun i v next=>hg i v next) (fun v=>v)]
  rw [e,relatedS_eq];rfl
theorem stepRelP_ok {x : Family} (h : x.people.length ≤ 1048576) (s : Step) : RelOk 1048576 (stepRelP x s):=by rw [stepRelP_eq];exact relRows_ok h _ _
theorem compRel_ok {r s : Relation} : RelOk 1048576 (compRel r s) := by
  unfold compRel
  refine cond_both (p:=RelOk 1048576) (fun _=>⟨Nat.zero_le _,fun y hy=>absurd hy List.not_mem_nil⟩) (fun c=>?_)
  have h:=two_ok (r:=r) (s:=s) (by simpa using c)
  rw [relatedC_eq];exact relRows_ok (by omega) _ _
theorem ge_getD {α : Type} (l : List α) (k : Nat) (d : α) (h : k < l.length) : l[k] = l.getD k d:=by rw [List.getD_eq_getElem?_getD,List.getElem?_eq_getElem h];rfl
/-- Rows that were built are a relation. -/
theorem isRel_rows {n : Nat} (h : n ≤ 40) (is : Int → Int → Bool) : implIsRel (Relation.mk (n : Int) (relRows n is)) = true := by
  unfold implIsRel
  refine cond_both (p:=fun (b : Bool)=>b = true) (fun c=>?_) (fun _=>?_)
  · exfalso
    dsimp only at c
    simp only [relRows_len,Bool.or_eq_true,decide_eq_true_eq,Bool.not_eq_true',decide_eq_false_iff_not] at c
    rcases c with (c | c) | c
    · omega
    · omega
    · exact c trivial
  · refine loopN_to (fun _ _=>True) (fun (b : Bool)=>b = true) trivial (fun i v next hi _ hn=>?_) (fun _ _=>rfl)
    rw [show (Relation.mk (n : Int) (relRows n is)).rows = relRows n is from rfl,relRows_len] at hi
    refine (loopN_all _ _ _).2 ⟨fun j hj=>?_,hn _ trivial⟩
    have hs : ((relRows n is).getD i default).Pairwise (· < ·) := by
      rw [relRows_get n is hi,List.pairwise_map]
      exact (List.pairwise_lt_range.filter _).imp (fun {a b} h=>by omega)
    have hm:=(relRows_mem (is:=is) hi).1 (getD_mem (d:=default) hj)
    simp only [or_f_iff,decide_eq_false_iff_not]
    refine ⟨⟨by omega,by omega⟩,?_⟩
    cases c : decide (0 < ((j : Nat) : Int)) with
    | false=>rfl
    | true =>
      have c:=of_decide_eq_true c
      have hj : j < ((relRows n is).getD i default).length:=hj
      have h1:=List.pairwise_iff_getElem.1 hs (j - 1) j (by omega) hj (by omega)
      rw [ge_getD _ _ default,ge_getD _ _ default] at h1
      rw [Bool.true_and,decide_eq_false_iff_not,show (((j : Nat) : Int) - 1).toNat = j - 1 by omega]
      omega
theorem compRel_rows {n : Nat} (h : n ≤ 40) (p q : Int → Int → Bool) : compRel (Relation.mk (n : Int) (relRows n p)) (Relation.mk (n : Int) (relRows n q)) = Relation.mk (n : Int) (relRows n fun a b => relCompL a b (Relation.mk (n : Int) (relRows n p)) (Relation.mk (n : Int) (relRows n q))) := by
  unfold compRel twoRel
  rw [isRel_rows h,isRel_rows h,decide_eq_true rfl,relatedC_eq]
  rfl
/-- What a type's relation is after some steps. -/
def relIs (x : Family) (t : KinType) : Nat → Int → Int → Bool
  | 0=>fun a b=>relForL a b t x
  | i + 1=>fun a b=>relCompL a b (Relation.mk (x.people.length : Int) (relRows x.people.length (relIs x t i))) (stepRelP x (t.steps.getD i default))
end Go.Proofs.Ytaageiiodlfeiaa
