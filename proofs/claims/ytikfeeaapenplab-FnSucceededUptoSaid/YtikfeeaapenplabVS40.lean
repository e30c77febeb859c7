import Derived.Test.YtikfeeaapenplabVS21
set_option maxHeartbeats 4000000
set_option linter.unusedSimpArgs false
set_option linter.unusedVariables false
namespace Go.Proofs.Ytikfeeaapenplab
open Go Go.Lite Go.Proofs
/-! ### The order of succession -/
def sucI (f : Family) (x : Custom) (y : Int) (v1 : Int × (List Int) × (KV → Option Bool) × (KV → Option Bool)) (next : Int × (List Int) × (KV → Option Bool) × (KV → Option Bool) → List Int) : List Int:=bif (decide (0 ≤ v1.1)) then (next (wayUp f x v1.1,(below (heirList.mk f x y v1.2.1 v1.2.2.1 v1.2.2.2) v1.1).1,(below (heirList.mk f x y v1.2.1 v1.2.2.1 v1.2.2.2) v1.1).2.1,(below (heirList.mk f x y v1.2.1 v1.2.2.1 v1.2.2.2) v1.1).2.2)) else v1.2.1
def sucS (f : Family) (x : Custom) (y : Int) (v1 : (List Bool) × (List Int) × Int) (next : (List Bool) × (List Int) × Int → List Int) : List Int:=bif (decide (0 ≤ v1.2.2)) then (next ((l10Below f x v1.2.2 y v1.1 v1.2.1).2,(l10Below f x v1.2.2 y v1.1 v1.2.1).1,l10Next f x v1.2.2)) else v1.2.1
theorem suc_same {f : Family} (hf : specIsFamily f = true) (x : Custom) (y : Int) : ∀ (m : Nat) (q : Int) (s : List Bool) (o : List Int) (g gone : KV → Option Bool), (-1 ≤ q ∧ q < f.people.length) → (q + 1).toNat < m → s.length = f.people.length → (∀ c : Int, 0 ≤ c → c < f.people.length → mk2 g c = mk1 s c) → (∀ q, mk2 gone q = true → Dn f x y (mk1 s) q) →
    loopW (sucI f x y) m (q,o,g,gone) = loopW (sucS f x y) m (s,o,q):=by
  intro m
  induction m with
  | zero=>intro q s o g gone _ hm;exact absurd hm (Nat.not_lt_zero _)
  | succ m ih =>
    intro q s o g gone hq hm hs hr hG
    have hn:=(fam_n hf).1
    show sucI f x y (q,o,g,gone) (loopW (sucI f x y) m) = sucS f x y (s,o,q) (loopW (sucS f x y) m)
    unfold sucI sucS
    dsimp only
    cases hc : decide (0 ≤ q) with
    | false=>rfl
    | true =>
      have hc:=of_decide_eq_true hc
      rw [cond_true,cond_true,next_way]
      have h:=below_same hf x y 100 q s o g gone ⟨hc,hq.2⟩ (by omega) hs hr fun q' h1 _=>hG q' h1
      have hd:=l10Below_done hf x y 100 q s o ⟨hc,hq.2⟩ (by omega) hs
      have h7:=way_lt hf x ⟨hc,hq.2⟩
      have h6:=way_ge hf x ⟨hc,hq.2⟩
      unfold below l10Below
      rw [h.1]
      exact ih (wayUp f x q) _ _ _ _ (by omega) (by omega) (hd.1.trans hs) h.2.1 fun q' h1 => by
        rcases h.2.2 q' h1 with h2 | h2
        · exact (hG q' h2).mono hd.2.1
        · exact h2.2
theorem mk1_rep (n : Nat) (c : Int) : mk1 (List.replicate n (default : Bool)) c = false := by
  unfold mk1
  rw [getD_rep]
  split <;> rfl
theorem implSucc_eq {f : Family} (hf : specIsFamily f = true) (x : Custom) {p : Int} (hp : 0 ≤ p ∧ p < f.people.length) (y : Int) : implSucc f x p y = loopW (sucS f x y) ((p + 1).toNat + 1) (((List.replicate f.people.length (default : Bool)).set p.toNat true), ([] : List Int), p) := by
  refine Eq.trans ?_ (suc_same hf x y ((p + 1).toNat + 1) p ((List.replicate f.people.length (default : Bool)).set p.toNat true) [] (mset (fun _=>none) (KV.i p) true) (fun _=>none) (by omega) (by omega) (by simp only [List.length_set,List.length_replicate]) (fun c h1 h2=>?_) fun q h=>?_)
  · rfl
  · rw [mk2_set, mk1_set (List.replicate f.people.length (default : Bool)) (c := p) true (by simp only [List.length_replicate]; omega) h1]
    split
    · rfl
    · rw [mk1_rep];rfl
  · cases h
theorem succ_eq (f : Family) (x : Custom) (p y : Int) : implSuccO f x p y = specSuccO f x p y := by
  unfold implSuccO specSuccO
  have e : ((!(implHas f [p])) || (!(implIsCustom x))) = ((!(specIsCustom x)) || (!(l1Has f p))) := by
    rw [isCustom_eq,has1_eq,Bool.or_comm]
  rw [e]
  cases h : ((!(specIsCustom x)) || (!(l1Has f p))) with
  | true=>rfl
  | false =>
    simp only [or_f_iff,not_f_iff,l1Has_iff] at h
    exact implSucc_eq h.2.2 x h.2.1 y
theorem specSuccO_ok (f : Family) (x : Custom) (p y : Int) : (specSuccO f x p y).length ≤ 40 ∧ ∀ c ∈ specSuccO f x p y, 0 ≤ c ∧ c < f.people.length := by
  unfold specSuccO
  refine cond_both (p:=fun (r : List Int)=>r.length ≤ 40 ∧ ∀ c ∈ r,0 ≤ c ∧ c < f.people.length) (fun _=>by simp) (fun h=>?_)
  simp only [or_f_iff,not_f_iff,l1Has_iff] at h
  have hf:=h.2.2
  have hn:=(fam_n hf).1
  refine loopW_to (fun (v : (List Bool) × (List Int) × Int)=>(-1 ≤ v.2.2 ∧ v.2.2 < f.people.length) ∧ v.1.length = f.people.length ∧ HOk f v.2.1 (mk1 v.1)) (fun v=>(v.2.2 + 1).toNat) (fun (r : List Int)=>r.length ≤ 40 ∧ ∀ c ∈ r,0 ≤ c ∧ c < f.people.length) (fun v next hv hnx=>?_) _ _ (by dsimp only;omega) ⟨by dsimp only;omega,by simp only [List.length_set,List.length_replicate],HOk.nil _ _⟩
  obtain ⟨h1,h2,h3⟩:=hv
  refine cond_both (p:=fun (r : List Int)=>r.length ≤ 40 ∧ ∀ c ∈ r,0 ≤ c ∧ c < f.people.length) (fun hc=>?_) (fun _=>⟨by have:=h3.len;omega,fun c hc=>(h3.rg c hc).1⟩)
  have hc:=of_decide_eq_true hc
  have h7:=way_lt hf x ⟨hc,h1.2⟩
  have h6:=way_ge hf x ⟨hc,h1.2⟩
  have h5:=l10Below_hok 100 f x v.2.2 y v.1 v.2.1 hf ⟨hc,h1.2⟩ (by omega) h2 h3
  refine hnx _ ⟨?_,h5.1.trans h2,h5.2.1⟩ ?_
  · dsimp only;rw [next_way];omega
  · dsimp only;rw [next_way];omega
def C26 (R : Int × Bool) : LV × List (Nat × BC):=(.tup [.int .i64 R.1,.bool R.2],[])
def implHeirOf (x0 : Family) (x1 : Custom) (x2 : Int) (x3 : Int) : Int × Bool:=bif (decide ((((implSuccO x0 x1 x2 x3).length : Nat) : Int) = 0)) then (0,false) else (((implSuccO x0 x1 x2 x3).getD 0 default),true)
def A26 (x0 : Family) (x1 : Custom) (x2 : Int) (x3 : Int) : Ann:=.reg 2 [] [(1004,k23 x0 x1 x2 x3)] [8,9,10] [1015] [] [] [] [0] (r0 1 [8,9,10,18] [1015] (cn (decide ((((implSuccO x0 x1 x2 x3).length : Nat) : Int) = 0)) (r0 1 [8,9,10] [1015] (rt [] (C26 (0,false)))) (r1 1 [8,9] [] [pf (0 ≤ (0 : Int) ∧ (0 : Int) < (((implSuccO x0 x1 x2 x3).length : Nat) : Int))] [0] (rt [] (C26 (((implSuccO x0 x1 x2 x3).getD 0 default),true))))))
theorem ok_impl_HeirOf (x0 : Family) (x1 : Custom) (x2 : Int) (x3 : Int) (hx : x0.people.length ≤ 1048576) (hu : x0.unions.length ≤ 1048576) (hn : ∀ p ∈ x0.people, p.name.length ≤ 1048576) : FnT Try.prog 26 [.agg (cFamily false x0), .agg (cCustom false x1), .int .i64 x2, .int .i64 x3] (C26 (implHeirOf x0 x1 x2 x3)) := by
  have aux : ∀ R, implHeirOf x0 x1 x2 x3 = R → slim (C26 R) (A26 x0 x1 x2 x3) [] := by
    intro R hR
    refine rg ⟨⟨by trivial,by trivial,by trivial⟩,trivial⟩ ?_
    refine rg trivial ?_
    revert hR;refine cd (fun hc1 hR=>?_) fun hc1 hR=>?_
    ·
      refine rg trivial ?_
      exact congrArg C26 hR
    ·
      refine rg ⟨by ((try clear hR);intros;(try simp only [decide_eq_true_eq,decide_eq_false_iff_not,Bool.or_eq_true,Bool.and_eq_true,or_f_iff,not_f_iff,not_t_iff,Bool.not_eq_true',inR] at *);(repeat' apply And.intro) <;> (intros;omega)),trivial⟩ ?_
      exact congrArg C26 hR
  exact Fn.go 22 Try.func26 (by kernel_rfl) (by kernel_rfl) (by simp [C26,Frs,FrsL]) (A26 x0 x1 x2 x3) (by kernel_rfl) (aux _ rfl)
def k26 (x0 : Family) (x1 : Custom) (x2 : Int) (x3 : Int) : Cl:=(hres (C26 (implHeirOf x0 x1 x2 x3)),k3 (ok_impl_HeirOf x0 x1 x2 x3))
def C24 (R : (List Int)) : LV × List (Nat × BC):=(.own 0,[(0,.arr 1 R.length (rowOf (cInt .i64) R))])
def implHeirs (x0 : Family) (x1 : Custom) (x2 : Int) (x3 : Int) : (List Int):=bif ((!(implHas x0 [x2])) || (!(implIsCustom x1))) then ([] : List Int) else (jn (fun K1=>K1 ((below (heirList.mk ((newHeirs x0 x1 x3).f) ((newHeirs x0 x1 x3).custom) ((newHeirs x0 x1 x3).year) ((newHeirs x0 x1 x3).list) ((newHeirs x0 x1 x3).listed) ((newHeirs x0 x1 x3).gone)) x2).1,(below (heirList.mk ((newHeirs x0 x1 x3).f) ((newHeirs x0 x1 x3).custom) ((newHeirs x0 x1 x3).year) ((newHeirs x0 x1 x3).list) ((newHeirs x0 x1 x3).listed) ((newHeirs x0 x1 x3).gone)) x2).2.1,(below (heirList.mk ((newHeirs x0 x1 x3).f) ((newHeirs x0 x1 x3).custom) ((newHeirs x0 x1 x3).year) ((newHeirs x0 x1 x3).list) ((newHeirs x0 x1 x3).listed) ((newHeirs x0 x1 x3).gone)) x2).2.2)) (fun (j1 : (List Int) × (KV → Option Bool) × (KV → Option Bool))=>j1.1))
def D24j1 (x0 : Family) (x1 : Custom) (x2 : Int) (x3 : Int) (j1 : (List Int) × (KV → Option Bool) × (KV → Option Bool)) : Dl:=⟨[],[(132306,.arr 1 j1.1.length (rowOf (cInt .i64) j1.1)),(132307,.mp (.int .i64) (.b j1.2.1)),(132308,.mp (.int .i64) (.b j1.2.2)),(1023,.var [.ro false 6 ((((newHeirs x0 x1 x3).f).people).length) (rowOf (cPerson false) (((newHeirs x0 x1 x3).f).people)),.ro false 4 ((((newHeirs x0 x1 x3).f).unions).length) (rowOf (cUnion false) (((newHeirs x0 x1 x3).f).unions)),.int .i64 (((newHeirs x0 x1 x3).custom).prefer),.bool (((newHeirs x0 x1 x3).custom).youngest),.bool (((newHeirs x0 x1 x3).custom).represent),.int .i64 ((newHeirs x0 x1 x3).year),.own 132306,.mp 132307,.mp 132308])]⟩
def A24j1 (x0 : Family) (x1 : Custom) (x2 : Int) (x3 : Int) (j1 : (List Int) × (KV → Option Bool) × (KV → Option Bool)) : Ann:=r0 1 [8] [132306] (rt [(0,some 132306)] (C24 j1.1))
def A24 (x0 : Family) (x1 : Custom) (x2 : Int) (x3 : Int) : Ann:=r0 1 [2,3,4,5,8] [4,5] (.reg 1 [] [(2,bsC 12 (cInt .i64) ([x2] : List Int)),(3,k39 x0 [x2]),(7,cg (!(!(implHas x0 [x2]))) (k53 x1))] [2,3,4,5,8,19] [4,5] [!(!(implHas x0 [x2])),!(implHas x0 [x2])] [] [] [0,4,1,8,1,6] (cn ((!(implHas x0 [x2])) || (!(implIsCustom x1))) (r0 1 [2,3,4,5,8] [4,5] (rt [(0,none)] (C24 ([] : List Int)))) (.reg 1 [] [(3,k55 23 [] x0 x1 x3)] [2,8,9] [1023,2023,3023,4023] [] [] [] [0] (.join 0 ((List Int) × (KV → Option Bool) × (KV → Option Bool)) (D24j1 x0 x1 x2 x3) [8,9] [1023] (.reg 1 [] [(2,k56 26 [1023,2023,3023,4023] (heirList.mk ((newHeirs x0 x1 x3).f) ((newHeirs x0 x1 x3).custom) ((newHeirs x0 x1 x3).year) ((newHeirs x0 x1 x3).list) ((newHeirs x0 x1 x3).listed) ((newHeirs x0 x1 x3).gone)) x2)] [8,9] [1023,1026,3023,4023] [] [] [] [0] (.next 0 [(132306,some 1026),(132307,some 3023),(132308,some 4023)] (D24j1 x0 x1 x2 x3 ((below (heirList.mk ((newHeirs x0 x1 x3).f) ((newHeirs x0 x1 x3).custom) ((newHeirs x0 x1 x3).year) ((newHeirs x0 x1 x3).list) ((newHeirs x0 x1 x3).listed) ((newHeirs x0 x1 x3).gone)) x2).1,(below (heirList.mk ((newHeirs x0 x1 x3).f) ((newHeirs x0 x1 x3).custom) ((newHeirs x0 x1 x3).year) ((newHeirs x0 x1 x3).list) ((newHeirs x0 x1 x3).listed) ((newHeirs x0 x1 x3).gone)) x2).2.1,(below (heirList.mk ((newHeirs x0 x1 x3).f) ((newHeirs x0 x1 x3).custom) ((newHeirs x0 x1 x3).year) ((newHeirs x0 x1 x3).list) ((newHeirs x0 x1 x3).listed) ((newHeirs x0 x1 x3).gone)) x2).2.2)))) (A24j1 x0 x1 x2 x3)))))
theorem ok_impl_HeirsBelow (x0 : Family) (x1 : Custom) (x2 : Int) (x3 : Int) (hx : x0.people.length ≤ 1048576) (hu : x0.unions.length ≤ 1048576) (hn : ∀ p ∈ x0.people, p.name.length ≤ 1048576) : FnT Try.prog 24 [.agg (cFamily false x0), .agg (cCustom false x1), .int .i64 x2, .int .i64 x3] (C24 (implHeirs x0 x1 x2 x3)) := by
  have aux : ∀ R, implHeirs x0 x1 x2 x3 = R → slim (C24 R) (A24 x0 x1 x2 x3) [] := by
    intro R hR
    refine rg trivial ?_
    refine rg ⟨trivial,⟨by with_reducible assumption,by with_reducible assumption,by with_reducible assumption,by ((simp only [List.length_singleton];omega))⟩,fun hg0=>trivial,trivial⟩ ?_
    revert hR;refine cd (fun hc1 hR=>?_) fun hc1 hR=>?_
    ·
      refine rg trivial ?_
      exact congrArg C24 hR
    ·
      refine rg ⟨trivial,trivial⟩ ?_
      revert hR;refine jN (fun v=>True) (fun F101 hR hJ101=>?_) (fun j1 hR hJ1=>?_)
      ·
        refine rg ⟨⟨by (have h9:=ord_pre2 hc1;dsimp only [newHeirs];with_reducible exact h9.1.1),by (have h9:=ord_pre2 hc1;dsimp only [newHeirs];with_reducible exact h9.2),by (dsimp only [newHeirs];with_reducible exact HOk.nil _ _)⟩,trivial⟩ ?_
        exact hJ101 ((below (heirList.mk ((newHeirs x0 x1 x3).f) ((newHeirs x0 x1 x3).custom) ((newHeirs x0 x1 x3).year) ((newHeirs x0 x1 x3).list) ((newHeirs x0 x1 x3).listed) ((newHeirs x0 x1 x3).gone)) x2).1,(below (heirList.mk ((newHeirs x0 x1 x3).f) ((newHeirs x0 x1 x3).custom) ((newHeirs x0 x1 x3).year) ((newHeirs x0 x1 x3).list) ((newHeirs x0 x1 x3).listed) ((newHeirs x0 x1 x3).gone)) x2).2.1,(below (heirList.mk ((newHeirs x0 x1 x3).f) ((newHeirs x0 x1 x3).custom) ((newHeirs x0 x1 x3).year) ((newHeirs x0 x1 x3).list) ((newHeirs x0 x1 x3).listed) ((newHeirs x0 x1 x3).gone)) x2).2.2) hR (by exact True.intro)
      ·
        refine rg trivial ?_
        exact congrArg C24 hR
  exact Fn.go 31 Try.func24 (by kernel_rfl) (by kernel_rfl) (by simp [C24,Frs,FrsL,FrsB,rowOf,cInt,cBool,cStr,cSl,FrsL_app,cPerson,cUnion,cFamily,cl01Cur,cCustom]) (A24 x0 x1 x2 x3) (by kernel_rfl) (aux _ rfl)
def k24 (x0 : Family) (x1 : Custom) (x2 : Int) (x3 : Int) : Cl:=(hres (C24 (implHeirs x0 x1 x2 x3)),k3 (ok_impl_HeirsBelow x0 x1 x2 x3))
def specHeirs (x0 : Family) (x1 : Custom) (x2 : Int) (x3 : Int) : (List Int):=bif ((!(specIsCustom x1)) || (!(l1Has x0 x2))) then ([] : List Int) else ((l10Below x0 x1 x2 x3 (List.replicate x0.people.length (default : Bool)) ([] : List Int)).1)
theorem heirs_eq (f : Family) (x : Custom) (p y : Int) : implHeirs f x p y = specHeirs f x p y := by
  unfold implHeirs specHeirs
  have e : ((!(implHas f [p])) || (!(implIsCustom x))) = ((!(specIsCustom x)) || (!(l1Has f p))) := by
    rw [isCustom_eq,has1_eq,Bool.or_comm]
  rw [e]
  cases h : ((!(specIsCustom x)) || (!(l1Has f p))) with
  | true=>rfl
  | false =>
    simp only [or_f_iff,not_f_iff,l1Has_iff] at h
    have hn:=(fam_n h.2.2).1
    exact (below_same h.2.2 x y 100 p (List.replicate f.people.length (default : Bool)) [] (fun _=>none) (fun _=>none) h.2.1 (by omega) (by simp only [List.length_replicate]) (fun c _ _=>by rw [mk1_rep];rfl) (fun q h=>by cases h)).1
theorem specHeirs_ok (f : Family) (x : Custom) (p y : Int) : (specHeirs f x p y).length ≤ 40 := by
  unfold specHeirs
  refine cond_both (p:=fun (r : List Int)=>r.length ≤ 40) (fun _=>by simp) (fun h=>?_)
  simp only [or_f_iff,not_f_iff,l1Has_iff] at h
  have hn:=(fam_n h.2.2).1
  have:=(l10Below_hok 100 f x p y (List.replicate f.people.length (default : Bool)) [] h.2.2 h.2.1 (by omega) (by simp only [List.length_replicate]) (HOk.nil _ _)).2.1.len
  unfold l10Below
  omega
theorem year_idx {b : List Int} (hb : ∀ y ∈ b, 0 ≤ y ∧ y ≤ 255) {i : Int} (hi : 0 ≤ i) {x : Family} (hf : specIsFamily x = true) (hn : 0 < x.people.length) : (0 ≤ (at1 b i).tmod (x.people.length : Int) ∧ (at1 b i).tmod (x.people.length : Int) < (x.people.length : Int)) ∧ (0 ≤ (x.people.getD ((at1 b i).tmod (x.people.length : Int)).toNat default).born ∧ (x.people.getD ((at1 b i).tmod (x.people.length : Int)).toNat default).born ≤ 9999) ∧ ((x.people.getD ((at1 b i).tmod (x.people.length : Int)).toNat default).died ≤ 9999) := by
  have h9 : 0 ≤ (at1 b i).tmod (x.people.length : Int) ∧ (at1 b i).tmod (x.people.length : Int) < (x.people.length : Int):=who_rng hb hi hn
  have h7:=fam_p hf (k:=((at1 b i).tmod (x.people.length : Int)).toNat) (by omega)
  have h6:=h7.born;have h5:=h7.died
  exact ⟨h9,h6,by omega⟩
theorem at_mod {b : List Int} (hb : ∀ y ∈ b, 0 ≤ y ∧ y ≤ 255) {i : Int} (hi : 0 ≤ i) (n : Int) (hn : 0 < n) : 0 ≤ (at1 b i).tmod n ∧ (at1 b i).tmod n < n := by
  rw [Int.tmod_eq_emod_of_nonneg (at1_rng hb hi).1]
  exact ⟨Int.emod_nonneg _ (by omega),Int.emod_lt_of_pos _ hn⟩
theorem four_rng {i : Nat} (h : i < 4) : 0 ≤ ([0, 1, 20, 45] : List Int).getD i default ∧ ([0, 1, 20, 45] : List Int).getD i default ≤ 45 := by
  match i,h with
  | 0,_=>decide
  | 1,_=>decide
  | 2,_=>decide
  | 3,_=>decide
def C17 (R : Int) : LV × List (Nat × BC):=(.int .i64 R,[])
def lawYear (x0 : List Int) (x1 : Int) (x2 : Family) : Int:=bif ((decide (0 ≤ ((x2.people.getD (((at1 x0 x1).tmod ((x2.people.length : Nat) : Int)).toNat) default).died))) && (decide (((at1 x0 (x1 + 1)).tmod 2) = 0))) then ((((x2.people.getD (((at1 x0 x1).tmod ((x2.people.length : Nat) : Int)).toNat) default).died) + ((at1 x0 (x1 + 2)).tmod 3)) - 1) else (((x2.people.getD (((at1 x0 x1).tmod ((x2.people.length : Nat) : Int)).toNat) default).born) + ([0,1,20,45].getD (((at1 x0 (x1 + 1)).tmod 4).toNat) default))
def A17 (x0 : List Int) (x1 : Int) (x2 : Family) : Ann:=.reg 2 [] [(1004,k22 x0 x1)] [0,1,6,7] [7] [] [pf ((((x2.people.length : Nat) : Int) : Int) ≠ 0),pf (0 ≤ ((at1 x0 x1).tmod ((x2.people.length : Nat) : Int) : Int) ∧ ((at1 x0 x1).tmod ((x2.people.length : Nat) : Int) : Int) < ((x2.people.length : Nat) : Int))] [] [8,0,4] (.reg 1 [] [(7,cg (decide (0 ≤ ((x2.people.getD (((at1 x0 x1).tmod ((x2.people.length : Nat) : Int)).toNat) default).died))) (k22 x0 (x1 + 1)))] [0,1,6,7,29] [7] [decide (0 ≤ ((x2.people.getD (((at1 x0 x1).tmod ((x2.people.length : Nat) : Int)).toNat) default).died))] [gt (decide (0 ≤ ((x2.people.getD (((at1 x0 x1).tmod ((x2.people.length : Nat) : Int)).toNat) default).died))) (pf (inR .i64 (x1 + 1))),gt (decide (0 ≤ ((x2.people.getD (((at1 x0 x1).tmod ((x2.people.length : Nat) : Int)).toNat) default).died))) (pf ((2 : Int) ≠ 0))] [] [1,0,1,1,8,1,4,1,1] (cn ((decide (0 ≤ ((x2.people.getD (((at1 x0 x1).tmod ((x2.people.length : Nat) : Int)).toNat) default).died))) && (decide (((at1 x0 (x1 + 1)).tmod 2) = 0))) (.reg 1 [] [(5,k22 x0 (x1 + 2))] [0,1,6,7] [7] [] [pf (inR .i64 (x1 + 2)),pf ((3 : Int) ≠ 0),pf (inR .i64 (((x2.people.getD (((at1 x0 x1).tmod ((x2.people.length : Nat) : Int)).toNat) default).died) + ((at1 x0 (x1 + 2)).tmod 3))),pf (inR .i64 ((((x2.people.getD (((at1 x0 x1).tmod ((x2.people.length : Nat) : Int)).toNat) default).died) + ((at1 x0 (x1 + 2)).tmod 3)) - 1))] [] [0,16,4,8,12] (rt [] (C17 ((((x2.people.getD (((at1 x0 x1).tmod ((x2.people.length : Nat) : Int)).toNat) default).died) + ((at1 x0 (x1 + 2)).tmod 3)) - 1)))) (.reg 1 [] [(2,bsC 41 (cInt .i64) ([0,1,20,45] : List Int)),(6,k22 x0 (x1 + 1))] [6] [] [] [pf (inR .i64 (x1 + 1)),pf ((4 : Int) ≠ 0),pf (0 ≤ ((at1 x0 (x1 + 1)).tmod 4 : Int) ∧ ((at1 x0 (x1 + 1)).tmod 4 : Int) < ((4 : Nat) : Int)),pf (inR .i64 (((x2.people.getD (((at1 x0 x1).tmod ((x2.people.length : Nat) : Int)).toNat) default).born) + ([0,1,20,45].getD (((at1 x0 (x1 + 1)).tmod 4).toNat) default)))] [] [16,0,20,4,8,12] (rt [] (C17 (((x2.people.getD (((at1 x0 x1).tmod ((x2.people.length : Nat) : Int)).toNat) default).born) + ([0,1,20,45].getD (((at1 x0 (x1 + 1)).tmod 4).toNat) default)))))))
theorem ok_laws_year (x0 : List Int) (x1 : Int) (x2 : Family) (hx : x0.length ≤ 1048576) (hb : ∀ y ∈ x0, 0 ≤ y ∧ y ≤ 255) (hi : 0 ≤ x1 ∧ x1 ≤ 900) (hf : specIsFamily x2 = true) (hn : 0 < x2.people.length) : FnT Try.prog 17 [.ro false 1 x0.length (rowOf (cInt .u8) x0), .int .i64 x1, .agg (cFamily false x2)] (C17 (lawYear x0 x1 x2)) := by
  have aux : ∀ R, lawYear x0 x1 x2 = R → slim (C17 R) (A17 x0 x1 x2) [] := by
    intro R hR
    refine rg ⟨by (intros;omega),by (have h9:=year_idx hb hi.1 hf hn;(try simp only [inR]);omega),⟨by with_reducible assumption,by with_reducible assumption,by (intros;omega)⟩,trivial⟩ ?_
    refine rg ⟨by (have h9:=year_idx hb hi.1 hf hn;(try simp only [inR]);omega),by (intros;omega),fun hg0=>⟨by with_reducible assumption,by with_reducible assumption,by (intros;omega)⟩,trivial⟩ ?_
    revert hR;refine cd (fun hc1 hR=>?_) fun hc1 hR=>?_
    ·
      refine rg ⟨by (have h9:=year_idx hb hi.1 hf hn;(try simp only [inR]);omega),by (intros;omega),by ((try clear hR);intros;(try simp only [decide_eq_true_eq,decide_eq_false_iff_not,Bool.or_eq_true,Bool.and_eq_true,or_f_iff,not_f_iff,not_t_iff,Bool.not_eq_true',inR] at *);(repeat' apply And.intro) <;> (have h9:=year_idx hb hi.1 hf hn;have h8:=at_mod hb (i:=x1 + 2) (by omega) 3 (by omega);intros;(try simp only [inR,decide_eq_true_eq] at *);omega)),by ((try clear hR);intros;(try simp only [decide_eq_true_eq,decide_eq_false_iff_not,Bool.or_eq_true,Bool.and_eq_true,or_f_iff,not_f_iff,not_t_iff,Bool.not_eq_true',inR] at *);(repeat' apply And.intro) <;> (have h9:=year_idx hb hi.1 hf hn;have h8:=at_mod hb (i:=x1 + 2) (by omega) 3 (by omega);intros;(try simp only [inR,decide_eq_true_eq] at *);omega)),⟨by with_reducible assumption,by with_reducible assumption,by (intros;omega)⟩,trivial⟩ ?_
      exact congrArg C17 hR
    ·
      refine rg ⟨by (have h9:=year_idx hb hi.1 hf hn;(try simp only [inR]);omega),by (intros;omega),by (have h9:=year_idx hb hi.1 hf hn;have h8:=at_mod hb (i:=x1 + 1) (by omega) 4 (by omega);(try simp only [inR,List.length_cons,List.length_nil]);omega),by (have h9:=year_idx hb hi.1 hf hn;have h8:=at_mod hb (i:=x1 + 1) (by omega) 4 (by omega);have h7:=four_rng (i:=((at1 x0 (x1 + 1)).tmod 4).toNat) (by omega);(try simp only [inR]);omega),trivial,⟨by with_reducible assumption,by with_reducible assumption,by (intros;omega)⟩,trivial⟩ ?_
      exact congrArg C17 hR
  exact Fn.go 50 Try.func17 (by kernel_rfl) (by kernel_rfl) (by simp [C17,Frs,FrsL]) (A17 x0 x1 x2) (by kernel_rfl) (aux _ rfl)
def k17 (x0 : List Int) (x1 : Int) (x2 : Family) : Cl:=(hres (C17 (lawYear x0 x1 x2)),k5 (ok_laws_year x0 x1 x2))
def C25 (R : Bool) : LV × List (Nat × BC):=(.bool R,[])
def lawInts (x0 : List Int) (x1 : List Int) : Bool:=bif (!decide (((x0.length : Nat) : Int) = ((x1.length : Nat) : Int))) then false else (loopN (fun i1 (v1 : Unit) next=>bif (!decide ((x0.getD i1 default) = (x1.getD i1 default))) then false else (next ())) (fun (v1 : Unit)=>true) x0.length 0 ())
def D25b1 (x0 : List Int) (x1 : List Int) (i1 : Nat) (v1 : Unit) : Dl:=⟨[(13,.int .i64 ((i1 : Nat) : Int))],[]⟩
def A25b1 (x0 : List Int) (x1 : List Int) (i1 : Nat) (v1 : Unit) : Ann:=r0 1 [0,1,4,12,13,14] [] (cn (decide (((i1 : Nat) : Int) < ((x0.length : Nat) : Int))) (r1 2 [0,1,4,12,13,24] [] [pf (0 ≤ (((i1 : Nat) : Int) : Int) ∧ (((i1 : Nat) : Int) : Int) < ((x0.length : Nat) : Int)),pf (0 ≤ (((i1 : Nat) : Int) : Int) ∧ (((i1 : Nat) : Int) : Int) < ((x1.length : Nat) : Int))] [0,4] (cn (!decide ((x0.getD i1 default) = (x1.getD i1 default))) (r0 1 [0,1,4,12,13] [] (rt [] (C25 false))) (r1 1 [0,1,4,12,13] [] [pf (inR .i64 (((i1 : Nat) : Int) + 1))] [0] (.next 0 [] (D25b1 x0 x1 (i1 + 1) ()))))) (r0 1 [4] [] (rt [] (C25 true))))
def A25 (x0 : List Int) (x1 : List Int) : Ann:=r0 1 [0,1,4] [] (r0 1 [0,1,4,10] [] (cn (!decide (((x0.length : Nat) : Int) = ((x1.length : Nat) : Int))) (r0 1 [0,1,4] [] (rt [] (C25 false))) (r0 1 [0,1,4,12,13] [] (lp (D25b1 x0 x1) [] [] [] (D25b1 x0 x1 0 ()) (A25b1 x0 x1)))))
theorem ok_laws_ints (x0 : List Int) (x1 : List Int) (hx : x0.length ≤ 1048576) : FnT Try.prog 25 [.ro false 1 x0.length (rowOf (cInt .i64) x0), .ro false 1 x1.length (rowOf (cInt .i64) x1)] (C25 (lawInts x0 x1)) := by
  have aux : ∀ R, lawInts x0 x1 = R → slim (C25 R) (A25 x0 x1) [] := by
    intro R hR
    refine rg trivial ?_
    refine rg trivial ?_
    revert hR;refine cd (fun hc1 hR=>?_) fun hc1 hR=>?_
    ·
      refine rg trivial ?_
      exact congrArg C25 hR
    ·
      refine rg trivial ?_
      revert hR;refine lN (fun i v=>True) (by trivial) rfl fun i1 v1 F1 hn1 hI1 hR hK1=>?_
      refine rg trivial ?_
      refine ⟨fun hc2=>?_,fun hc2=>?_⟩
      · have hii1 : i1 < x0.length := by have := of_decide_eq_true hc2; omega
        replace hR:=loopN_step hR hii1
        refine rg ⟨by (intros;omega),by ((try clear hR hK1);intros;(try simp only [decide_eq_true_eq,decide_eq_false_iff_not,Bool.or_eq_true,Bool.and_eq_true,or_f_iff,not_f_iff,not_t_iff,Bool.not_eq_true',inR] at *);(repeat' apply And.intro) <;> (intros;omega)),trivial⟩ ?_
        revert hR;refine cd (fun hc3 hR=>?_) fun hc3 hR=>?_
        ·
          refine rg trivial ?_
          exact congrArg C25 hR
        ·
          refine rg ⟨by ( intros;simp only [inR];omega),trivial⟩ ?_
          exact hK1 () hii1 (by trivial) hR
      · obtain rfl : i1 = x0.length := by have := of_decide_eq_false hc2; omega
        replace hR:=loopN_end hR (Nat.lt_irrefl _)
        refine rg trivial ?_
        exact congrArg C25 hR
  exact Fn.go 26 Try.func25 (by kernel_rfl) (by kernel_rfl) (by simp [C25,Frs,FrsL]) (A25 x0 x1) (by kernel_rfl) (aux _ rfl)
def k25 (x0 : List Int) (x1 : List Int) : Cl:=(hres (C25 (lawInts x0 x1)),k1 (ok_laws_ints x0 x1))
def C20 (R : Bool) : LV × List (Nat × BC):=(.bool R,[])
def specAlive (x0 : Family) (x1 : Int) (x2 : Int) : Bool:=(l1Has x0 x1) && (l1Alive x0 x1 x2)
def A20 (x0 : Family) (x1 : Int) (x2 : Int) : Ann:=.reg 2 [] [(1002,k41 x0 x1),(1007,cg (l1Has x0 x1) (k52 x0 x1 x2))] [6] [] [l1Has x0 x1] [] [] [0,1,1,1,4,1] (rt [] (C20 ((l1Has x0 x1) && (l1Alive x0 x1 x2))))
theorem ok_spec_IsAlive (x0 : Family) (x1 : Int) (x2 : Int) (hx : x0.people.length ≤ 1048576) (hu : x0.unions.length ≤ 1048576) (hn : ∀ p ∈ x0.people, p.name.length ≤ 1048576) : FnT Try.prog 20 [.agg (cFamily false x0), .int .i64 x1, .int .i64 x2] (C20 (specAlive x0 x1 x2)) := by
  have aux : ∀ R, specAlive x0 x1 x2 = R → slim (C20 R) (A20 x0 x1 x2) [] := by
    intro R hR
    refine rg ⟨⟨by trivial,by trivial,by trivial⟩,fun hg0=>⟨by trivial,by (have h9:=(l1Has_iff x0 x1).1 hg0;omega)⟩,trivial⟩ ?_
    exact congrArg C20 hR
  exact Fn.go 16 Try.func20 (by kernel_rfl) (by kernel_rfl) (by simp [C20,Frs,FrsL]) (A20 x0 x1 x2) (by kernel_rfl) (aux _ rfl)
def k20 (x0 : Family) (x1 : Int) (x2 : Int) : Cl:=(hres (C20 (specAlive x0 x1 x2)),k3 (ok_spec_IsAlive x0 x1 x2))
end Go.Proofs.Ytikfeeaapenplab
