import Derived.Test.YtikfeeaapenplaaM131
set_option maxHeartbeats 4000000
set_option linter.unusedSimpArgs false
set_option linter.unusedVariables false
namespace Go.Proofs.Ytikfeeaapenplaa
open Go Go.Lite Go.Proofs
def C61 (R : (List Int)) : LV × List (Nat × BC):=(.own 0,[(0,.arr 1 R.length (rowOf (cInt .i64) R))])
def implSucc (x0 : Family) (x1 : Custom) (x2 : Int) (x3 : Int) : (List Int):=loopW (fun (v1 : Int × (List Int) × (KV → Option Bool) × (KV → Option Bool)) next=>bif (decide (0 ≤ v1.1)) then (next (wayUp x0 x1 v1.1,(below (heirList.mk ((newHeirs x0 x1 x3).f) ((newHeirs x0 x1 x3).custom) ((newHeirs x0 x1 x3).year) v1.2.1 v1.2.2.1 v1.2.2.2) v1.1).1,(below (heirList.mk ((newHeirs x0 x1 x3).f) ((newHeirs x0 x1 x3).custom) ((newHeirs x0 x1 x3).year) v1.2.1 v1.2.2.1 v1.2.2.2) v1.1).2.1,(below (heirList.mk ((newHeirs x0 x1 x3).f) ((newHeirs x0 x1 x3).custom) ((newHeirs x0 x1 x3).year) v1.2.1 v1.2.2.1 v1.2.2.2) v1.1).2.2)) else v1.2.1) ((x2 + 1).toNat + 1) (x2,(newHeirs x0 x1 x3).list,mset ((newHeirs x0 x1 x3).listed) (KV.i x2) true,(newHeirs x0 x1 x3).gone)
def D61b1 (x0 : Family) (x1 : Custom) (x2 : Int) (x3 : Int) (v1 : Int × (List Int) × (KV → Option Bool) × (KV → Option Bool)) : Dl:=⟨[(10,.int .i64 v1.1)],[(131406,.arr 1 v1.2.1.length (rowOf (cInt .i64) v1.2.1)),(131407,.mp (.int .i64) (.b v1.2.2.1)),(131408,.mp (.int .i64) (.b v1.2.2.2)),(1014,.var [.ro false 6 ((((newHeirs x0 x1 x3).f).people).length) (rowOf (cPerson false) (((newHeirs x0 x1 x3).f).people)),.ro false 4 ((((newHeirs x0 x1 x3).f).unions).length) (rowOf (cUnion false) (((newHeirs x0 x1 x3).f).unions)),.int .i64 (((newHeirs x0 x1 x3).custom).prefer),.bool (((newHeirs x0 x1 x3).custom).youngest),.bool (((newHeirs x0 x1 x3).custom).represent),.int .i64 ((newHeirs x0 x1 x3).year),.own 131406,.mp 131407,.mp 131408])]⟩
def A61b1 (x0 : Family) (x1 : Custom) (x2 : Int) (x3 : Int) (v1 : Int × (List Int) × (KV → Option Bool) × (KV → Option Bool)) : Ann:=r0 1 [4,5,8,9,10,22] [4,5,1014,131406,131407,131408] (cn (decide (0 ≤ v1.1)) (.reg 1 [] [(2,k92 29 [1014,131406,131407,131408] (heirList.mk ((newHeirs x0 x1 x3).f) ((newHeirs x0 x1 x3).custom) ((newHeirs x0 x1 x3).year) v1.2.1 v1.2.2.1 v1.2.2.2) v1.1)] [4,5,8,9,10] [4,5,1014,1029,131407,131408] [] [] [] [0] (.reg 1 [] [(3,k91 x0 x1 v1.1)] [4,5,8,9,10] [4,5,1014,1029,131407,131408] [] [] [] [0] (.next 0 [(131406,some 1029),(131407,some 131407),(131408,some 131408)] (D61b1 x0 x1 x2 x3 (wayUp x0 x1 v1.1,(below (heirList.mk ((newHeirs x0 x1 x3).f) ((newHeirs x0 x1 x3).custom) ((newHeirs x0 x1 x3).year) v1.2.1 v1.2.2.1 v1.2.2.2) v1.1).1,(below (heirList.mk ((newHeirs x0 x1 x3).f) ((newHeirs x0 x1 x3).custom) ((newHeirs x0 x1 x3).year) v1.2.1 v1.2.2.1 v1.2.2.2) v1.1).2.1,(below (heirList.mk ((newHeirs x0 x1 x3).f) ((newHeirs x0 x1 x3).custom) ((newHeirs x0 x1 x3).year) v1.2.1 v1.2.2.1 v1.2.2.2) v1.1).2.2))))) (r0 1 [8] [131406] (rt [(0,some 131406)] (C61 v1.2.1))))
def A61 (x0 : Family) (x1 : Custom) (x2 : Int) (x3 : Int) : Ann:=r0 1 [2,3,4,5,8] [4,5] (.reg 1 [] [(3,k90 14 [] x0 x1 x3)] [2,4,5,8,9] [4,5,1014,2014,3014,4014] [] [] [] [0] (r0 1 [2,4,5,8,9] [4,5,1014,2014,3014,4014] (r0 1 [4,5,8,9,10] [4,5,1014,2014,3014,4014] (.loop (Int × (List Int) × (KV → Option Bool) × (KV → Option Bool)) (D61b1 x0 x1 x2 x3) [] [2014,3014,4014] [(131406,some 2014),(131407,some 3014),(131408,some 4014)] (D61b1 x0 x1 x2 x3 (x2,(newHeirs x0 x1 x3).list,mset ((newHeirs x0 x1 x3).listed) (KV.i x2) true,(newHeirs x0 x1 x3).gone)) (A61b1 x0 x1 x2 x3)))))
theorem ok_impl_successionOrder (x0 : Family) (x1 : Custom) (x2 : Int) (x3 : Int) (hf : specIsFamily x0 = true) (hp : 0 ≤ x2 ∧ x2 < x0.people.length) : FnT Try.prog 61 [.agg (cFamily false x0), .agg (cCustom false x1), .int .i64 x2, .int .i64 x3] (C61 (implSucc x0 x1 x2 x3)) := by
  have aux : ∀ R, implSucc x0 x1 x2 x3 = R → slim (C61 R) (A61 x0 x1 x2 x3) [] := by
    intro R hR
    refine rg trivial ?_
    refine rg ⟨trivial,trivial⟩ ?_
    refine rg trivial ?_
    refine rg trivial ?_
    revert hR;refine lW (fun v=>(-1 ≤ v.1 ∧ v.1 < x0.people.length) ∧ HOk x0 v.2.1 (mk2 v.2.2.1)) (fun v=>(v.1 + 1).toNat) (by (dsimp only [newHeirs];with_reducible exact ⟨by omega,HOk.nil _ _⟩)) (Nat.lt_succ_self _) rfl fun m1 v1 F1 hI1 hM1 hR hK1=>?_
    refine rg trivial ?_
    revert hR;refine cd (fun hc1 hR=>?_) fun hc1 hR=>?_
    ·
      refine rg ⟨⟨by (dsimp only [newHeirs];with_reducible exact hf),by (have h8:=of_decide_eq_true hc1;dsimp only [newHeirs];with_reducible exact ⟨h8,hI1.1.2⟩),by (dsimp only [newHeirs];with_reducible exact hI1.2)⟩,trivial⟩ ?_
      refine rg ⟨⟨by (have h9:=fam_n hf;omega),by (have h8:=of_decide_eq_true hc1;with_reducible exact ⟨h8,hI1.1.2⟩)⟩,trivial⟩ ?_
      exact hK1 (wayUp x0 x1 v1.1,(below (heirList.mk ((newHeirs x0 x1 x3).f) ((newHeirs x0 x1 x3).custom) ((newHeirs x0 x1 x3).year) v1.2.1 v1.2.2.1 v1.2.2.2) v1.1).1,(below (heirList.mk ((newHeirs x0 x1 x3).f) ((newHeirs x0 x1 x3).custom) ((newHeirs x0 x1 x3).year) v1.2.1 v1.2.2.1 v1.2.2.2) v1.1).2.1,(below (heirList.mk ((newHeirs x0 x1 x3).f) ((newHeirs x0 x1 x3).custom) ((newHeirs x0 x1 x3).year) v1.2.1 v1.2.2.1 v1.2.2.2) v1.1).2.2) (by (have h8:=of_decide_eq_true hc1;have h9:=fam_n hf;have h7:=way_lt hf x1 ⟨h8,hI1.1.2⟩;have h6:=way_ge hf x1 ⟨h8,hI1.1.2⟩;dsimp only [newHeirs,below];with_reducible exact ⟨by omega,(below_hok 100 (heirList.mk x0 x1 x3 v1.2.1 v1.2.2.1 v1.2.2.2) v1.1 hf ⟨h8,hI1.1.2⟩ (by dsimp only;omega) hI1.2).1⟩)) (by (have h8:=of_decide_eq_true hc1;have h7:=way_lt hf x1 ⟨h8,hI1.1.2⟩;dsimp only;omega)) hR
    ·
      refine rg trivial ?_
      exact congrArg C61 hR
  exact Fn.go 34 Try.func61 (by kernel_rfl) (by kernel_rfl) (by simp [C61,Frs,FrsL,FrsB,rowOf,cInt,cBool,cStr,cSl,FrsL_app,cPerson,cUnion,cFamily,cl01Cur,cCustom]) (A61 x0 x1 x2 x3) (by kernel_rfl) (aux _ rfl)
def k61 (x0 : Family) (x1 : Custom) (x2 : Int) (x3 : Int) : Cl:=(hres (C61 (implSucc x0 x1 x2 x3)),k2 (ok_impl_successionOrder x0 x1 x2 x3))
def C62 (R : (List Int)) : LV × List (Nat × BC):=(.own 0,[(0,.arr 1 R.length (rowOf (cInt .i64) R))])
def implSuccO (x0 : Family) (x1 : Custom) (x2 : Int) (x3 : Int) : (List Int):=bif ((!(implHas x0 [x2])) || (!(implIsCustom x1))) then ([] : List Int) else (implSucc x0 x1 x2 x3)
def A62 (x0 : Family) (x1 : Custom) (x2 : Int) (x3 : Int) : Ann:=r0 1 [2,3,4,5,8] [4,5] (.reg 1 [] [(2,bsC 11 (cInt .i64) ([x2] : List Int)),(3,k43 x0 [x2]),(7,cg (!(!(implHas x0 [x2]))) (k60 x1))] [2,3,4,5,8,18] [4,5] [!(!(implHas x0 [x2])),!(implHas x0 [x2])] [] [] [0,4,1,8,1,6] (cn ((!(implHas x0 [x2])) || (!(implIsCustom x1))) (r0 1 [2,3,4,5,8] [4,5] (rt [(0,none)] (C62 ([] : List Int)))) (.reg 1 [] [(4,k61 x0 x1 x2 x3)] [8] [1023] [] [] [] [0] (rt [(0,some 1023)] (C62 (implSucc x0 x1 x2 x3))))))
theorem ok_impl_SuccessionOrder (x0 : Family) (x1 : Custom) (x2 : Int) (x3 : Int) (hx : x0.people.length ≤ 1048576) (hu : x0.unions.length ≤ 1048576) (hn : ∀ p ∈ x0.people, p.name.length ≤ 1048576) : FnT Try.prog 62 [.agg (cFamily false x0), .agg (cCustom false x1), .int .i64 x2, .int .i64 x3] (C62 (implSuccO x0 x1 x2 x3)) := by
  have aux : ∀ R, implSuccO x0 x1 x2 x3 = R → slim (C62 R) (A62 x0 x1 x2 x3) [] := by
    intro R hR
    refine rg trivial ?_
    refine rg ⟨trivial,⟨by with_reducible assumption,by with_reducible assumption,by with_reducible assumption,by ((simp only [List.length_singleton];omega))⟩,fun hg0=>trivial,trivial⟩ ?_
    revert hR;refine cd (fun hc1 hR=>?_) fun hc1 hR=>?_
    ·
      refine rg trivial ?_
      exact congrArg C62 hR
    ·
      refine rg ⟨⟨by (have h9:=ord_pre2 hc1;with_reducible exact h9.1.1),by (have h9:=ord_pre2 hc1;with_reducible exact h9.2)⟩,trivial⟩ ?_
      exact congrArg C62 hR
  exact Fn.go 24 Try.func62 (by kernel_rfl) (by kernel_rfl) (by simp [C62,Frs,FrsL,FrsB,rowOf,cInt,cBool,cStr,cSl,FrsL_app,cPerson,cUnion,cFamily,cl01Cur,cCustom]) (A62 x0 x1 x2 x3) (by kernel_rfl) (aux _ rfl)
def k62 (x0 : Family) (x1 : Custom) (x2 : Int) (x3 : Int) : Cl:=(hres (C62 (implSuccO x0 x1 x2 x3)),k3 (ok_impl_SuccessionOrder x0 x1 x2 x3))
def specSuccO (x0 : Family) (x1 : Custom) (x2 : Int) (x3 : Int) : (List Int):=bif ((!(specIsCustom x1)) || (!(l1Has x0 x2))) then ([] : List Int) else (loopW (fun (v1 : (List Bool) × (List Int) × Int) next=>bif (decide (0 ≤ v1.2.2)) then (next ((l10Below x0 x1 v1.2.2 x3 v1.1 v1.2.1).2,(l10Below x0 x1 v1.2.2 x3 v1.1 v1.2.1).1,l10Next x0 x1 v1.2.2)) else v1.2.1) ((x2 + 1).toNat + 1) (((List.replicate x0.people.length (default : Bool)).set x2.toNat true),([] : List Int),x2))
/-! ### The order of succession -/
def sucI (f : Family) (x : Custom) (y : Int) (v1 : Int × (List Int) × (KV → Option Bool) × (KV → Option Bool)) (next : Int × (List Int) × (KV → Option Bool) × (KV → Option Bool) → List Int) : List Int:=bif (decide (0 ≤ v1.1)) then (next (wayUp f x v1.1,(below (heirList.mk f x y v1.2.1 v1.2.2.1 v1.2.2.2) v1.1).1,(below (heirList.mk f x y v1.2.1 v1.2.2.1 v1.2.2.2) v1.1).2.1,(below (heirList.mk f x y v1.2.1 v1.2.2.1 v1.2.2.2) v1.1).2.2)) else v1.2.1
def sucS (f : Family) (x : Custom) (y : Int) (v1 : (List Bool) × (List Int) × Int) (next : (List Bool) × (List Int) × Int → List Int) : List Int:=bif (decide (0 ≤ v1.2.2)) then (next ((l10Below f x v1.2.2 y v1.1 v1.2.1).2,(l10Below f x v1.2.2 y v1.1 v1.2.1).1,l10Next f x v1.2.2)) else v1.2.1
theorem suc_same {f : Family} (hf : specIsFamily f = true) (x : Custom) (y : Int) : ∀ (m : Nat) (q : Int) (s : List Bool) (o : List Int) (g gone : KV → Option Bool), (-1 ≤ q ∧ q < f.people.length) → (q + 1).toNat < m → s.length = f.people.length → (∀ c : Int, 0 ≤ c → c < f.people.length → mk2 g c = mk1 s c) → (∀ q, mk2 gone q = true → Dn f x y (mk1 s) q) →
    loopW (sucI f x y) m (q,o,g,gone) = loopW (sucS f x y) m (s,o,q):=by
  intro m
  induction m with
  | zero=>intro q s o g gone _ hm;exact absurd hm (Nat.not_lt_zero _)
  | succ m ih =>
    intro q s o g gone hq hm hs hr hG
    have hn:=(fam_n hf).1
    show sucI f x y (q,o,g,gone) (loopW (sucI f x y) m) = sucS f x y (s,o,q) (loopW (sucS f x y) m)
    unfold sucI sucS
    dsimp only
    cases hc : decide (0 ≤ q) with
    | false=>rfl
    | true =>
      have hc:=of_decide_eq_true hc
      rw [cond_true,cond_true,next_way]
      have h:=below_same hf x y 100 q s o g gone ⟨hc,hq.2⟩ (by omega) hs hr fun q' h1 _=>hG q' h1
      have hd:=l10Below_done hf x y 100 q s o ⟨hc,hq.2⟩ (by omega) hs
      have h7:=way_lt hf x ⟨hc,hq.2⟩
      have h6:=way_ge hf x ⟨hc,hq.2⟩
      unfold below l10Below
      rw [h.1]
      exact ih (wayUp f x q) _ _ _ _ (by omega) (by omega) (hd.1.trans hs) h.2.1 fun q' h1 => by
        rcases h.2.2 q' h1 with h2 | h2
        · exact (hG q' h2).mono hd.2.1
        · exact h2.2
theorem mk1_rep (n : Nat) (c : Int) : mk1 (List.replicate n (default : Bool)) c = false := by
  unfold mk1
  rw [getD_rep]
  split <;> rfl
theorem implSucc_eq {f : Family} (hf : specIsFamily f = true) (x : Custom) {p : Int} (hp : 0 ≤ p ∧ p < f.people.length) (y : Int) : implSucc f x p y = loopW (sucS f x y) ((p + 1).toNat + 1) (((List.replicate f.people.length (default : Bool)).set p.toNat true), ([] : List Int), p) := by
  refine Eq.trans ?_ (suc_same hf x y ((p + 1).toNat + 1) p ((List.replicate f.people.length (default : Bool)).set p.toNat true) [] (mset (fun _=>none) (KV.i p) true) (fun _=>none) (by omega) (by omega) (by simp only [List.length_set,List.length_replicate]) (fun c h1 h2=>?_) fun q h=>?_)
  · rfl
  · rw [mk2_set, mk1_set (List.replicate f.people.length (default : Bool)) (c := p) true (by simp only [List.length_replicate]; omega) h1]
    split
    · rfl
    · rw [mk1_rep];rfl
  · cases h
theorem succ_eq (f : Family) (x : Custom) (p y : Int) : implSuccO f x p y = specSuccO f x p y := by
  unfold implSuccO specSuccO
  have e : ((!(implHas f [p])) || (!(implIsCustom x))) = ((!(specIsCustom x)) || (!(l1Has f p))) := by
    rw [isCustom_eq,has1_eq,Bool.or_comm]
  rw [e]
  cases h : ((!(specIsCustom x)) || (!(l1Has f p))) with
  | true=>rfl
  | false =>
    simp only [or_f_iff,not_f_iff,l1Has_iff] at h
    exact implSucc_eq h.2.2 x h.2.1 y
theorem specSuccO_ok (f : Family) (x : Custom) (p y : Int) : (specSuccO f x p y).length ≤ 40 ∧ ∀ c ∈ specSuccO f x p y, 0 ≤ c ∧ c < f.people.length := by
  unfold specSuccO
  refine cond_both (p:=fun (r : List Int)=>r.length ≤ 40 ∧ ∀ c ∈ r,0 ≤ c ∧ c < f.people.length) (fun _=>by simp) (fun h=>?_)
  simp only [or_f_iff,not_f_iff,l1Has_iff] at h
  have hf:=h.2.2
  have hn:=(fam_n hf).1
  refine loopW_to (fun (v : (List Bool) × (List Int) × Int)=>(-1 ≤ v.2.2 ∧ v.2.2 < f.people.length) ∧ v.1.length = f.people.length ∧ HOk f v.2.1 (mk1 v.1)) (fun v=>(v.2.2 + 1).toNat) (fun (r : List Int)=>r.length ≤ 40 ∧ ∀ c ∈ r,0 ≤ c ∧ c < f.people.length) (fun v next hv hnx=>?_) _ _ (by dsimp only;omega) ⟨by dsimp only;omega,by simp only [List.length_set,List.length_replicate],HOk.nil _ _⟩
  obtain ⟨h1,h2,h3⟩:=hv
  refine cond_both (p:=fun (r : List Int)=>r.length ≤ 40 ∧ ∀ c ∈ r,0 ≤ c ∧ c < f.people.length) (fun hc=>?_) (fun _=>⟨by have:=h3.len;omega,fun c hc=>(h3.rg c hc).1⟩)
  have hc:=of_decide_eq_true hc
  have h7:=way_lt hf x ⟨hc,h1.2⟩
  have h6:=way_ge hf x ⟨hc,h1.2⟩
  have h5:=l10Below_hok 100 f x v.2.2 y v.1 v.2.1 hf ⟨hc,h1.2⟩ (by omega) h2 h3
  refine hnx _ ⟨?_,h5.1.trans h2,h5.2.1⟩ ?_
  · dsimp only;rw [next_way];omega
  · dsimp only;rw [next_way];omega
def C36 (R : Int × Bool) : LV × List (Nat × BC):=(.tup [.int .i64 R.1,.bool R.2],[])
def implHeirOf (x0 : Family) (x1 : Custom) (x2 : Int) (x3 : Int) : Int × Bool:=bif (decide ((((implSuccO x0 x1 x2 x3).length : Nat) : Int) = 0)) then (0,false) else (((implSuccO x0 x1 x2 x3).getD 0 default),true)
def A36 (x0 : Family) (x1 : Custom) (x2 : Int) (x3 : Int) : Ann:=.reg 2 [] [(1004,k62 x0 x1 x2 x3)] [8,9,10] [1015] [] [] [] [0] (r0 1 [8,9,10,18] [1015] (cn (decide ((((implSuccO x0 x1 x2 x3).length : Nat) : Int) = 0)) (r0 1 [8,9,10] [1015] (rt [] (C36 (0,false)))) (r1 1 [8,9] [] [pf (0 ≤ (0 : Int) ∧ (0 : Int) < (((implSuccO x0 x1 x2 x3).length : Nat) : Int))] [0] (rt [] (C36 (((implSuccO x0 x1 x2 x3).getD 0 default),true))))))
theorem ok_impl_HeirOf (x0 : Family) (x1 : Custom) (x2 : Int) (x3 : Int) (hx : x0.people.length ≤ 1048576) (hu : x0.unions.length ≤ 1048576) (hn : ∀ p ∈ x0.people, p.name.length ≤ 1048576) : FnT Try.prog 36 [.agg (cFamily false x0), .agg (cCustom false x1), .int .i64 x2, .int .i64 x3] (C36 (implHeirOf x0 x1 x2 x3)) := by
  have aux : ∀ R, implHeirOf x0 x1 x2 x3 = R → slim (C36 R) (A36 x0 x1 x2 x3) [] := by
    intro R hR
    refine rg ⟨⟨by trivial,by trivial,by trivial⟩,trivial⟩ ?_
    refine rg trivial ?_
    revert hR;refine cd (fun hc1 hR=>?_) fun hc1 hR=>?_
    ·
      refine rg trivial ?_
      exact congrArg C36 hR
    ·
      refine rg ⟨by ((try clear hR);intros;(try simp only [decide_eq_true_eq,decide_eq_false_iff_not,Bool.or_eq_true,Bool.and_eq_true,or_f_iff,not_f_iff,not_t_iff,Bool.not_eq_true',inR] at *);(repeat' apply And.intro) <;> (intros;omega)),trivial⟩ ?_
      exact congrArg C36 hR
  exact Fn.go 22 Try.func36 (by kernel_rfl) (by kernel_rfl) (by simp [C36,Frs,FrsL]) (A36 x0 x1 x2 x3) (by kernel_rfl) (aux _ rfl)
def k36 (x0 : Family) (x1 : Custom) (x2 : Int) (x3 : Int) : Cl:=(hres (C36 (implHeirOf x0 x1 x2 x3)),k3 (ok_impl_HeirOf x0 x1 x2 x3))
def specHeirOf (x0 : Family) (x1 : Custom) (x2 : Int) (x3 : Int) : Int × Bool:=bif (decide ((((specSuccO x0 x1 x2 x3).length : Nat) : Int) = 0)) then (0,false) else (((specSuccO x0 x1 x2 x3).getD 0 default),true)
/-! ### Holders -/
theorem l10Below_alive {f : Family} (hf : specIsFamily f = true) (x : Custom) (y : Int) : ∀ (m : Nat) (p : Int) (s : List Bool) (o : List Int), (0 ≤ p ∧ p < f.people.length) → (f.people.length - p).toNat < m → (∀ c ∈ o, l1Alive f c y = true) → ∀ c ∈ (l10Below_r m f x p y s o).1, l1Alive f c y = true := by
  intro m
  induction m with
  | zero=>intro p s o _ hm;exact absurd hm (Nat.not_lt_zero _)
  | succ m ih =>
    intro p s o hp hm ho
    rw [l10Below_r]
    refine loopN_to (fun i (v : (List Bool) × (List Int))=>∀ c ∈ v.2,l1Alive f c y = true) (fun (r : (List Int) × (List Bool))=>∀ c ∈ r.1,l1Alive f c y = true) ho (fun i v next hi hv hn=>?_) (fun v hv=>hv)
    have hc:=l10_at hf (x:=x) hp.1 hi
    refine cond_both (p:=fun (r : (List Int) × (List Bool))=>∀ c ∈ r.1,l1Alive f c y = true) (fun _=>hn _ hv) (fun _=>?_)
    refine jn_to (fun (j : (List Bool) × (List Int))=>∀ c ∈ j.2,l1Alive f c y = true) (fun (r : (List Int) × (List Bool))=>∀ c ∈ r.1,l1Alive f c y = true) (fun K hK=>?_) (fun j hj=>?_)
    · refine cond_both (p := fun (r : (List Int) × (List Bool)) => ∀ c ∈ r.1, l1Alive f c y = true) (fun c => hK _ fun d hd => ?_) (fun _ => hK _ hv)
      simp only [Bool.and_eq_true] at c
      rcases List.mem_append.1 hd with hd | hd
      · exact hv d hd
      · rw [List.mem_singleton.1 hd];exact c.1
    · exact cond_both (p:=fun (r : (List Int) × (List Bool))=>∀ c ∈ r.1,l1Alive f c y = true) (fun _=>hn _ (ih ((l10Children f x p).getD i default) j.1 j.2 (by omega) (by omega) hj)) (fun _=>hn _ hj)
theorem specSuccO_alive (f : Family) (x : Custom) (p y : Int) : ∀ c ∈ specSuccO f x p y, l1Alive f c y = true := by
  unfold specSuccO
  refine cond_both (p:=fun (r : List Int)=>∀ c ∈ r,l1Alive f c y = true) (fun _=>by simp) (fun h=>?_)
  simp only [or_f_iff,not_f_iff,l1Has_iff] at h
  have hf:=h.2.2
  have hn:=(fam_n hf).1
  refine loopW_to (fun (v : (List Bool) × (List Int) × Int)=>(-1 ≤ v.2.2 ∧ v.2.2 < f.people.length) ∧ ∀ c ∈ v.2.1,l1Alive f c y = true) (fun v=>(v.2.2 + 1).toNat) (fun (r : List Int)=>∀ c ∈ r,l1Alive f c y = true) (fun v next hv hnx=>?_) _ _ (by dsimp only;omega) ⟨by dsimp only;omega,by simp⟩
  obtain ⟨h1,h2⟩:=hv
  refine cond_both (p:=fun (r : List Int)=>∀ c ∈ r,l1Alive f c y = true) (fun hc=>?_) (fun _=>h2)
  have hc:=of_decide_eq_true hc
  have h7:=way_lt hf x ⟨hc,h1.2⟩
  have h6:=way_ge hf x ⟨hc,h1.2⟩
  refine hnx _ ⟨?_,l10Below_alive hf x y 100 v.2.2 v.1 v.2.1 ⟨hc,h1.2⟩ (by omega) h2⟩ ?_
  · dsimp only;rw [next_way];omega
  · dsimp only;rw [next_way];omega
theorem custom_of {f : Family} {x : Custom} {p : Int} (h : ((!(implHas f [p])) || (!(implIsCustom x))) = false) : specIsCustom x = true := by
  simp only [or_f_iff,not_f_iff] at h
  rw [← isCustom_eq];exact h.2
end Go.Proofs.Ytikfeeaapenplaa
