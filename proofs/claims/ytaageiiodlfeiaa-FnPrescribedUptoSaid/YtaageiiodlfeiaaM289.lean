import Derived.Test.YtaageiiodlfeiaaM286
set_option maxHeartbeats 4000000
set_option linter.unusedSimpArgs false
set_option linter.unusedVariables false
namespace Go.Proofs.Ytaageiiodlfeiaa
open Go Go.Lite Go.Proofs
/-- Classes that were given to all, and fit. -/
structure Clsd (x : Family) (c : Classes) (L : List Int) : Prop where
  k : MkOk x c L
  f : FitP x c L
  p : ∀ j : Nat,j < x.people.length → 0 ≤ L.getD j default
theorem assign_done {x : Family} {c : Classes} {g : List Int} (hs : Samp c) : (assignC x c g).2 = true → Clsd x c (assignC x c g).1 := by
  unfold assignC jn
  refine cond_both (p:=fun (r : List Int × Bool)=>r.2 = true → Clsd x c r.1) (fun _ h=>nomatch h) (fun c1=>?_)
  have hm : MkOk x c g:=given_mk hs (by simpa using c1)
  have h7:=samp_link hs
  have s0:=spread_fit hm
  have m0:=l7Spread_ok hm
  refine cond_both (p:=fun (r : List Int × Bool)=>r.2 = true → Clsd x c r.1) (fun _ h=>nomatch h) (fun c2=>?_)
  have f0:=s0.2 (by simpa using c2)
  have hl:=m0.l
  refine loopN_to (fun i (v : List Int)=>MkOk x c v ∧ FitP x c v ∧ ∀ j : Nat,j < i → 0 ≤ v.getD j default) (fun (r : List Int × Bool)=>r.2 = true → Clsd x c r.1) ⟨m0,f0,fun j hj=>absurd hj (Nat.not_lt_zero _)⟩ (fun i v next hi hv hn=>?_) (fun v hv _=>⟨hv.1,hv.2.1,fun j hj=>hv.2.2 j (by rw [show ([] ++ g : List Int) = g from rfl,hl];exact hj)⟩)
  rw [show ([] ++ g : List Int) = g from rfl,hl] at hi
  refine loopW_to (fun (w : List Int × Bool × Int)=>(0 ≤ w.2.2 ∧ w.2.2 ≤ 8) ∧ MkOk x c w.1 ∧ FitP x c w.1 ∧ (∀ j : Nat,j < i → 0 ≤ w.1.getD j default) ∧ (w.2.1 = true → 0 ≤ w.1.getD i default)) (fun w=>(9 - w.2.2).toNat) (fun (r : List Int × Bool)=>r.2 = true → Clsd x c r.1) (fun w next2 hw hn2=>?_) _ _ (Nat.lt_succ_self _) ⟨by dsimp only;omega,hv.1,hv.2.1,hv.2.2,fun h=>of_decide_eq_true h⟩
  obtain ⟨hw0,hw1,hw2,hw3,hw4⟩:=hw
  refine cond_both (p:=fun (r : List Int × Bool)=>r.2 = true → Clsd x c r.1) (fun c3=>?_) (fun _=>?_)
  · have c3:=of_decide_eq_true ((Bool.and_eq_true _ _).mp c3).1
    have m1 : MkOk x c (w.1.set i w.2.2):=mk_set hw1 c3
    have s1:=spread_fit m1
    have m2:=l7Spread_ok m1
    have e1:=hw1.l
    have p1 : ∀ j : Nat, j < i + 1 → 0 ≤ (w.1.set i w.2.2).getD j default := fun j hj => by
      rw [getD_set]
      split
      · exact hw0.1
      · exact hw3 j (by omega)
    refine cond_both (p:=fun (r : List Int × Bool)=>r.2 = true → Clsd x c r.1) (fun c4=>hn2 _ ⟨by dsimp only;omega,m2,s1.2 c4,fun j hj=>s1.1 j (p1 j (by omega)) (by rw [List.length_set];omega),fun _=>s1.1 i (p1 i (by omega)) (by rw [List.length_set];omega)⟩ (by dsimp only;omega)) (fun c4=>hn2 _ ⟨by dsimp only;omega,hw1,hw2,hw3,fun h=>?_⟩ (by dsimp only;omega))
    have h : (l7Spread x c (w.1.set i w.2.2)).1 = true:=h
    have c4 : (l7Spread x c (w.1.set i w.2.2)).1 = false:=c4
    rw [c4] at h;cases h
  · refine cond_both (p:=fun (r : List Int × Bool)=>r.2 = true → Clsd x c r.1) (fun _ h=>nomatch h) (fun c4=>hn _ ⟨hw1,hw2,fun j hj=>?_⟩)
    have c4 : w.2.1 = true:=by simpa using c4
    by_cases e : j = i
    · subst e;exact hw4 c4
    · exact hw3 j (by omega)
/-- What the classes' permutations do. -/
structure ClF (c : Classes) : Prop where
  dad : ∀ y : Int,0 ≤ y → y < c.wife.length → (inverseP c.child).getD (c.child.getD y.toNat default).toNat default = y
  mum : ∀ y : Int,0 ≤ y → y < c.wife.length → (composedP (inverseP c.child) c.wife).getD ((l6Compose (specInvPerm c.wife) c.child).getD y.toNat default).toNat default = y
  wom : composedP (inverseP c.wife) c.child = l6Compose (specInvPerm c.wife) c.child
  hus : ∀ y : Int,0 ≤ y → y < c.wife.length → (inverseP c.wife).getD (c.wife.getD y.toNat default).toNat default = y
  idn : ∀ y : Int,0 ≤ y → y < c.wife.length → (identL (c.wife.length : Int)).getD y.toNat default = y
  ok : ClOk c
theorem y4 {y : Int} {p : Int → Prop} (h0 : 0 ≤ y) (h1 : y < (4 : Nat)) (q0 : p 0) (q1 : p 1) (q2 : p 2) (q3 : p 3) : p y := by
  have : y = 0 ∨ y = 1 ∨ y = 2 ∨ y = 3:=by omega
  rcases this with rfl | rfl | rfl | rfl <;> assumption
theorem y2 {y : Int} {p : Int → Prop} (h0 : 0 ≤ y) (h1 : y < (2 : Nat)) (q0 : p 0) (q1 : p 1) : p y := by
  have : y = 0 ∨ y = 1:=by omega
  rcases this with rfl | rfl <;> assumption
theorem samp_f {c : Classes} (h : Samp c) : ClF c := by
  rcases h with rfl | rfl | rfl
  · exact ⟨fun y h0 h1=>y4 (p:=fun y=>(inverseP [3,2,1,0]).getD (([3,2,1,0] : List Int).getD y.toNat default).toNat default = y) h0 h1 rfl rfl rfl rfl,fun y h0 h1=>y4 (p:=fun y=>(composedP (inverseP [3,2,1,0]) [1,0,3,2]).getD ((l6Compose (specInvPerm [1,0,3,2]) [3,2,1,0]).getD y.toNat default).toNat default = y) h0 h1 (by decide) (by decide) (by decide) (by decide),by decide,fun y h0 h1=>y4 (p:=fun y=>(inverseP [1,0,3,2]).getD (([1,0,3,2] : List Int).getD y.toNat default).toNat default = y) h0 h1 rfl rfl rfl rfl,fun y h0 h1=>y4 (p:=fun y=>(identL 4).getD y.toNat default = y) h0 h1 rfl rfl rfl rfl,(cls_ok (by decide)).1⟩
  · exact ⟨fun y h0 h1=>y4 (p:=fun y=>(inverseP [0,1,2,3]).getD (([0,1,2,3] : List Int).getD y.toNat default).toNat default = y) h0 h1 rfl rfl rfl rfl,fun y h0 h1=>y4 (p:=fun y=>(composedP (inverseP [0,1,2,3]) [1,2,3,0]).getD ((l6Compose (specInvPerm [1,2,3,0]) [0,1,2,3]).getD y.toNat default).toNat default = y) h0 h1 (by decide) (by decide) (by decide) (by decide),by decide,fun y h0 h1=>y4 (p:=fun y=>(inverseP [1,2,3,0]).getD (([1,2,3,0] : List Int).getD y.toNat default).toNat default = y) h0 h1 rfl rfl rfl rfl,fun y h0 h1=>y4 (p:=fun y=>(identL 4).getD y.toNat default = y) h0 h1 rfl rfl rfl rfl,(cls_ok (by decide)).1⟩
  · exact ⟨fun y h0 h1=>y2 (p:=fun y=>(inverseP [0,1]).getD (([0,1] : List Int).getD y.toNat default).toNat default = y) h0 h1 rfl rfl,fun y h0 h1=>y2 (p:=fun y=>(composedP (inverseP [0,1]) [1,0]).getD ((l6Compose (specInvPerm [1,0]) [0,1]).getD y.toNat default).toNat default = y) h0 h1 (by decide) (by decide),by decide,fun y h0 h1=>y2 (p:=fun y=>(inverseP [1,0]).getD (([1,0] : List Int).getD y.toNat default).toNat default = y) h0 h1 rfl rfl,fun y h0 h1=>y2 (p:=fun y=>(identL 2).getD y.toNat default = y) h0 h1 rfl rfl,(cls_ok (by decide)).1⟩
theorem fit_val {m : List Int} {a b : Int} {p : List Int} (h : Fit m a b p) (ha : 0 ≤ m.getD a.toNat default) : m.getD b.toNat default = p.getD (m.getD a.toNat default).toNat default := by
  rcases h with h | h
  · omega
  · exact h.2.2
/-- Unions as pairs. -/
theorem pairs_of (x : Family) (s : Step) (a b : Int) (h : (relPairs x s (KV.p a b)).getD false = true) : (s.kind = 7 ∧ ∃ k : Nat, k < x.unions.length ∧ (x.unions.getD k default).woman = a ∧ (x.unions.getD k default).man = b) ∨ (s.kind = 8 ∧ ∃ k : Nat, k < x.unions.length ∧ (x.unions.getD k default).man = a ∧ (x.unions.getD k default).woman = b) := by
  revert h
  unfold relPairs
  refine loopN_to (fun i (v : KV → Option Bool)=>(v (KV.p a b)).getD false = true → (s.kind = 7 ∧ ∃ k : Nat,k < i ∧ (x.unions.getD k default).woman = a ∧ (x.unions.getD k default).man = b) ∨ (s.kind = 8 ∧ ∃ k : Nat,k < i ∧ (x.unions.getD k default).man = a ∧ (x.unions.getD k default).woman = b)) (fun (v : KV → Option Bool)=>(v (KV.p a b)).getD false = true → (s.kind = 7 ∧ ∃ k : Nat,k < x.unions.length ∧ (x.unions.getD k default).woman = a ∧ (x.unions.getD k default).man = b) ∨ (s.kind = 8 ∧ ∃ k : Nat,k < x.unions.length ∧ (x.unions.getD k default).man = a ∧ (x.unions.getD k default).woman = b)) (fun h=>nomatch h) (fun i v next hi hv hn=>?_) (fun v hv=>hv)
  have up : (v (KV.p a b)).getD false = true → (s.kind = 7 ∧ ∃ k : Nat, k < i + 1 ∧ (x.unions.getD k default).woman = a ∧ (x.unions.getD k default).man = b) ∨ (s.kind = 8 ∧ ∃ k : Nat, k < i + 1 ∧ (x.unions.getD k default).man = a ∧ (x.unions.getD k default).woman = b) := fun h => by
    rcases hv h with ⟨h1,k,h2,h3⟩ | ⟨h1,k,h2,h3⟩
    · exact .inl ⟨h1,k,by omega,h3⟩
    · exact .inr ⟨h1,k,by omega,h3⟩
  refine cond_both (p:=fun (v : KV → Option Bool)=>(v (KV.p a b)).getD false = true → (s.kind = 7 ∧ ∃ k : Nat,k < x.unions.length ∧ (x.unions.getD k default).woman = a ∧ (x.unions.getD k default).man = b) ∨ (s.kind = 8 ∧ ∃ k : Nat,k < x.unions.length ∧ (x.unions.getD k default).man = a ∧ (x.unions.getD k default).woman = b)) (fun c1=>hn _ fun h=>?_) (fun c1=>cond_both (p:=fun (v : KV → Option Bool)=>(v (KV.p a b)).getD false = true → (s.kind = 7 ∧ ∃ k : Nat,k < x.unions.length ∧ (x.unions.getD k default).woman = a ∧ (x.unions.getD k default).man = b) ∨ (s.kind = 8 ∧ ∃ k : Nat,k < x.unions.length ∧ (x.unions.getD k default).man = a ∧ (x.unions.getD k default).woman = b)) (fun c2=>hn _ fun h=>?_) (fun _=>hn _ up))
  · by_cases e : KV.p a b = KV.p (x.unions.getD i default).woman (x.unions.getD i default).man
    · injection e with e1 e2
      exact .inl ⟨of_decide_eq_true c1,i,by omega,e1.symm,e2.symm⟩
    · rw [mset,if_neg e] at h;exact up h
  · by_cases e : KV.p a b = KV.p (x.unions.getD i default).man (x.unions.getD i default).woman
    · injection e with e1 e2
      exact .inr ⟨of_decide_eq_true c2,i,by omega,e1.symm,e2.symm⟩
    · rw [mset,if_neg e] at h;exact up h
/-- A step leads to the class that its permutation says, and to its sex. -/
theorem step_cls {x : Family} {c : Classes} {L : List Int} (hd : Clsd x c L) {s : Step} (hk : 1 ≤ s.kind ∧ s.kind ≤ 8) {a b : Int} (ha : 0 ≤ a ∧ a < x.people.length) (hb : 0 ≤ b ∧ b < x.people.length) (h : relStepL a b x s (relPairs x s) = true) :
    L.getD b.toNat default = (stepPermP c s.kind (x.people.getD a.toNat default).sex).getD (L.getD a.toNat default).toNat default ∧ (x.people.getD b.toNat default).sex = stepSex s.kind:=by
  have hf:=hd.k.f
  have hc:=samp_f hd.k.s
  have hl:=hd.k.l
  have ra : ∀ {q : Int},0 ≤ q ∧ q < x.people.length → 0 ≤ L.getD q.toNat default ∧ L.getD q.toNat default < c.wife.length:=fun {q} hq=>⟨hd.p _ (by omega),hd.k.r _ (getD_mem (by omega))⟩
  have na : ∀ {q : Int},0 ≤ q → ((q.toNat : Nat) : Int) = q:=fun hq=>by omega
  have pa:=fam_p hf (k:=a.toNat) (by omega)
  have pb:=fam_p hf (k:=b.toNat) (by omega)
  have ka:=dad_rng hf (k:=a.toNat) (by omega)
  obtain ⟨k,ag⟩:=s
  have pr:=pairs_of x ⟨k,ag⟩ a b
  have hk : k = 1 ∨ k = 2 ∨ k = 3 ∨ k = 4 ∨ k = 5 ∨ k = 6 ∨ k = 7 ∨ k = 8:=by dsimp only at hk;omega
  have full : areFull x a b = true → L.getD b.toNat default = (identL (c.wife.length : Int)).getD (L.getD a.toNat default).toNat default := fun h2 => by
    unfold areFull at h2
    simp only [Bool.and_eq_true,decide_eq_true_eq] at h2
    obtain ⟨⟨⟨⟨_,h3⟩,_⟩,h4⟩,_⟩:=h2
    rw [hc.idn _ (ra ha).1 (ra ha).2]
    have f1:=fit_val (hd.f.fa a.toNat (by omega) h3) (ra ⟨h3,ka.1⟩).1
    have f2:=fit_val (hd.f.fa b.toNat (by omega) (by rw [← h4];exact h3)) (ra ⟨by rw [← h4];exact h3,by rw [← h4];exact ka.1⟩).1
    simp only [Int.toNat_natCast] at f1 f2
    rw [f1,f2,h4]
  have kid : implParent x a b = true → L.getD b.toNat default = (bif decide ((x.people.getD a.toNat default).sex = 1) then c.child else composedP (inverseP c.wife) c.child).getD (L.getD a.toNat default).toNat default := fun h2 => by
    unfold implParent at h2
    simp only [Bool.or_eq_true,decide_eq_true_eq] at h2
    rcases h2 with e | e
    · rcases pb.fa with e0 | e0
      · omega
      · rw [e] at e0
        have f1:=fit_val (hd.f.fa b.toNat (by omega) (by omega)) (by rw [e];exact (ra ha).1)
        rw [e] at f1
        rw [decide_eq_true e0.2.2.1]
        simp only [Int.toNat_natCast] at f1
        exact f1
    · rcases pb.mo with e0 | e0
      · omega
      · rw [e] at e0
        have f1:=fit_val (hd.f.mo b.toNat (by omega) (by omega)) (by rw [e];exact (ra ha).1)
        rw [e] at f1
        rw [decide_eq_false (by rw [e0.2.2.1];decide),hc.wom]
        simp only [Int.toNat_natCast] at f1
        exact f1
  rcases hk with rfl | rfl | rfl | rfl | rfl | rfl | rfl | rfl
  · have e : (x.people.getD a.toNat default).father = b:=of_decide_eq_true h
    have f1:=fit_val (hd.f.fa a.toNat (by omega) (by omega)) (by rw [e];exact (ra hb).1)
    rw [e] at f1
    simp only [Int.toNat_natCast] at f1
    refine ⟨?_,?_⟩
    · show _ = (inverseP c.child).getD _ _
      rw [f1,hc.dad _ (ra hb).1 (ra hb).2]
    · rcases pa.fa with e0 | e0
      · omega
      · rw [e] at e0;rw [e0.2.2.1];rfl
  · have e : (x.people.getD a.toNat default).mother = b:=of_decide_eq_true h
    have f1:=fit_val (hd.f.mo a.toNat (by omega) (by omega)) (by rw [e];exact (ra hb).1)
    rw [e] at f1
    simp only [Int.toNat_natCast] at f1
    refine ⟨?_,?_⟩
    · show _ = (composedP (inverseP c.child) c.wife).getD _ _
      rw [f1,hc.mum _ (ra hb).1 (ra hb).2]
    · rcases pa.mo with e0 | e0
      · omega
      · rw [e] at e0;rw [e0.2.2.1];rfl
  · have h : ((((decide (((x.people.getD b.toNat default).sex) = (stepSex 3))) && (areFull x a b)) && ((!decide (ag = 1)) || (implElder x b a))) && ((!decide (ag = 2)) || (implElder x a b))) = true:=h
    simp only [Bool.and_eq_true,decide_eq_true_eq] at h
    exact ⟨full h.1.1.2,h.1.1.1⟩
  · have h : ((((decide (((x.people.getD b.toNat default).sex) = (stepSex 4))) && (areFull x a b)) && ((!decide (ag = 1)) || (implElder x b a))) && ((!decide (ag = 2)) || (implElder x a b))) = true:=h
    simp only [Bool.and_eq_true,decide_eq_true_eq] at h
    exact ⟨full h.1.1.2,h.1.1.1⟩
  · have h : ((decide (((x.people.getD b.toNat default).sex) = (stepSex 5))) && (implParent x a b)) = true:=h
    simp only [Bool.and_eq_true,decide_eq_true_eq] at h
    exact ⟨kid h.2,h.1⟩
  · have h : ((decide (((x.people.getD b.toNat default).sex) = (stepSex 6))) && (implParent x a b)) = true:=h
    simp only [Bool.and_eq_true,decide_eq_true_eq] at h
    exact ⟨kid h.2,h.1⟩
  · rcases pr h with ⟨_,k,h1,h2,h3⟩ | ⟨h0,_⟩
    · have u:=fam_u hf h1
      have f1:=fit_val (hd.f.wfit k h1) (by rw [h3];exact (ra hb).1)
      rw [h2,h3] at f1
      refine ⟨?_,?_⟩
      · show _ = (inverseP c.wife).getD _ _
        rw [f1,hc.hus _ (ra hb).1 (ra hb).2]
      · rw [← h3,u.msex];rfl
    · exact absurd (show (7 : Int) = 8 from h0) (by decide)
  · rcases pr h with ⟨h0,_⟩ | ⟨_,k,h1,h2,h3⟩
    · exact absurd (show (8 : Int) = 7 from h0) (by decide)
    · have u:=fam_u hf h1
      have f1:=fit_val (hd.f.wfit k h1) (by rw [h2];exact (ra ha).1)
      rw [h2,h3] at f1
      exact ⟨f1,by rw [← h3,u.wsex];rfl⟩
theorem composedP_get {p q : List Int} {k : Nat} (h : k < p.length) : (composedP p q).getD k default = q.getD (p.getD k default).toNat default := by
  unfold composedP
  refine loopN_to (fun i (v : List Int)=>v.length = i ∧ ∀ j,j < i → v.getD j default = q.getD (p.getD j default).toNat default) (fun (r : List Int)=>r.getD k default = q.getD (p.getD k default).toNat default) ⟨rfl,fun j hj=>absurd hj (Nat.not_lt_zero _)⟩ (fun i v next hi hv hn=>hn _ ⟨by rw [List.length_append,hv.1];rfl,fun j hj=>?_⟩) (fun v hv=>hv.2 k h)
  by_cases e : j = i
  · subst e;rw [snoc_last (d:=default) hv.1.symm]
  · rw [snoc_lt' (by omega)];exact hv.2 j (by omega)
/-- How a type changes classes, after some of its steps. -/
def permN (c : Classes) (t : KinType) : Nat → List Int
  | 0=>identL (c.wife.length : Int)
  | i + 1=>composedP (permN c t i) (stepPermP c ((t.steps.getD i default).kind) (sexBefore t (i : Int)))
theorem permN_ok {c : Classes} (hc : ClOk c) (t : KinType) : ∀ i, (permN c t i).length = c.wife.length ∧ ∀ x ∈ permN c t i, 0 ≤ x ∧ x < c.wife.length
  | 0 => by
    have h:=identL_ok (c.wife.length : Int) (Int.natCast_nonneg _)
    exact ⟨by show (identL _).length = _;rw [h.1];omega,h.2⟩
  | i + 1 => by
    have ih:=permN_ok hc t i
    have h8:=stepPermP_ok hc (t.steps.getD i default).kind (sexBefore t (i : Int))
    have h7:=composedP_ok (p:=permN c t i) (by rw [h8.1];exact ih.2) h8.2
    exact ⟨h7.1.trans ih.1,h7.2⟩
theorem typeP_val {c : Classes} {t : KinType} (h : (typePermP c t).2 = true) : (typePermP c t).1 = permN c t t.steps.length ∧ implIsType t = true := by
  revert h
  unfold typePermP
  refine cond_both (p:=fun (r : List Int × Bool)=>r.2 = true → r.1 = permN c t t.steps.length ∧ implIsType t = true) (fun _ h=>nomatch h) (fun c1=>?_)
  simp only [or_f_iff,not_f_iff] at c1
  exact loopN_to (fun i (v : List Int)=>v = permN c t i) (fun (r : List Int × Bool)=>r.2 = true → r.1 = permN c t t.steps.length ∧ implIsType t = true) rfl (fun i v next hi hv hn=>hn _ (by rw [hv];rfl)) (fun v hv _=>⟨hv,c1.1.2⟩)
theorem hasInt_iff (l : List Int) (y : Int) : hasInt l y = true ↔ y ∈ l := by
  unfold hasInt
  rw [loopN_any]
  constructor
  · rintro (⟨j,h1,h2⟩ | h)
    · rw [← of_decide_eq_true h2];exact getD_mem h1
    · cases h
  · intro h
    obtain ⟨k,h1,h2⟩:=mem_getD (d:=default) h
    exact .inl ⟨k,h1,decide_eq_true h2⟩
theorem relComp_iff (a b : Int) (r s : Relation) : relCompL a b r s = true ↔ ∃ q ∈ r.rows.getD a.toNat default, b ∈ s.rows.getD q.toNat default := by
  unfold relCompL
  rw [loopN_any]
  constructor
  · rintro (⟨j,h1,h2⟩ | h)
    · exact ⟨_,getD_mem h1,(hasInt_iff _ _).1 h2⟩
    · cases h
  · rintro ⟨q,h1,h2⟩
    obtain ⟨k,h3,h4⟩:=mem_getD (d:=default) h1
    exact .inl ⟨k,h3,(hasInt_iff _ _).2 (by rw [h4];exact h2)⟩
/-- A type leads to the class that its permutation says. -/
theorem type_cls {x : Family} {c : Classes} {L : List Int} (hd : Clsd x c L) {t : KinType} (ht : specIsType t = true) {a : Int} (ha : 0 ≤ a ∧ a < x.people.length) (hs : (x.people.getD a.toNat default).sex = egoOf t) :
    ∀ i,i ≤ t.steps.length → ∀ b : Int,0 ≤ b ∧ b < x.people.length → relIs x t i a b = true → L.getD b.toNat default = (permN c t i).getD (L.getD a.toNat default).toNat default ∧ (x.people.getD b.toNat default).sex = sexBefore t (i : Int):=by
  have hc:=samp_f hd.k.s
  have hl:=hd.k.l
  have ra : 0 ≤ L.getD a.toNat default ∧ L.getD a.toNat default < c.wife.length:=⟨hd.p _ (by omega),hd.k.r _ (getD_mem (by omega))⟩
  intro i
  induction i with
  | zero =>
    intro _ b hb h
    have h : ((decide (a = b)) && ((decide (t.ego = 0)) || (decide (((x.people.getD a.toNat default).sex) = t.ego)))) = true:=h
    simp only [Bool.and_eq_true,decide_eq_true_eq] at h
    rw [← h.1]
    exact ⟨(hc.idn _ ra.1 ra.2).symm,hs⟩
  | succ i ih =>
    intro hi b hb h
    have h : relCompL a b (Relation.mk (x.people.length : Int) (relRows x.people.length (relIs x t i))) (stepRelP x (t.steps.getD i default)) = true:=h
    obtain ⟨q,h1,h2⟩:=(relComp_iff _ _ _ _).1 h
    have h1:=(relRows_mem (n:=x.people.length) (is:=relIs x t i) (a:=a.toNat) (by omega)).1 h1
    rw [show ((a.toNat : Nat) : Int) = a by omega] at h1
    rw [stepRelP_eq] at h2
    have h2:=(relRows_mem (n:=x.people.length) (is:=fun a b=>relStepL a b x (t.steps.getD i default) (relPairs x (t.steps.getD i default))) (a:=q.toNat) (by omega)).1 h2
    rw [show ((q.toNat : Nat) : Int) = q by omega] at h2
    have g:=ih (by omega) q h1.1 h1.2
    have g2:=step_cls hd (type_bd ht i (by omega)).1 h1.1 hb h2.2
    have po:=permN_ok hc.ok t i
    refine ⟨?_,?_⟩
    · show _ = (composedP (permN c t i) (stepPermP c ((t.steps.getD i default).kind) (sexBefore t (i : Int)))).getD _ _
      rw [composedP_get (by omega),← g.1,← g.2];exact g2.1
    · rw [g2.2]
      unfold sexBefore
      rw [decide_eq_false (by omega),show (((i + 1 : Nat) : Int) - 1).toNat = i by omega];rfl
theorem sameInts_eq {p q : List Int} (h : sameIntsP p q = true) : p = q := by
  unfold sameIntsP at h
  cases c1 : !decide (((p.length : Nat) : Int) = ((q.length : Nat) : Int)) with
  | true=>rw [c1] at h;cases h
  | false =>
    rw [c1] at h
    have h:=((loopN_all _ _ _).1 h).1
    have hl : p.length = q.length := by
      simp only [not_f_iff,decide_eq_true_eq] at c1;omega
    refine List.ext_getElem hl fun i h1 h2=>?_
    have:=h i h1
    simp only [not_f_iff,decide_eq_true_eq] at this
    rw [ge_getD _ _ default,ge_getD _ _ default];exact this
/-- A relative by an allowed type is a woman of the class that a man's class marries. -/
theorem allowed_rel {x : Family} {c : Classes} {L : List Int} (hd : Clsd x c L) {t : KinType} (h : allowsT c t = true) {a : Int} (ha : 0 ≤ a ∧ a < x.people.length) (hm : (x.people.getD a.toNat default).sex = 1) {b : Int} (hb : b ∈ relatives x a t) :
    (0 ≤ b ∧ b < x.people.length) ∧ L.getD b.toNat default = c.wife.getD (L.getD a.toNat default).toNat default ∧ (x.people.getD b.toNat default).sex = 2:=by
  unfold allowsT at h
  simp only [Bool.and_eq_true,decide_eq_true_eq] at h
  obtain ⟨⟨⟨h1,h2⟩,h3⟩,h4⟩:=h
  have hv:=typeP_val h1
  have h2:=sameInts_eq h2
  have ht : specIsType t = true:=by rw [← type_eq];exact hv.2
  unfold relatives at hb
  rw [(implHas1 x a).2 ⟨hd.k.f,ha⟩,hv.2] at hb
  simp only [Bool.not_true,Bool.or_false,cond_false] at hb
  rw [relFor_eq hd.k.f hv.2] at hb
  have hb:=(relRows_mem (n:=x.people.length) (a:=a.toNat) (by omega)).1 hb
  rw [show ((a.toNat : Nat) : Int) = a by omega] at hb
  have g:=type_cls hd ht ha (by rw [hm,h3]) t.steps.length (Nat.le_refl _) b hb.1 hb.2
  refine ⟨hb.1,?_,?_⟩
  · rw [g.1,← hv.1,h2]
  · rw [g.2,← h4]
    unfold sexOf sexBefore
    by_cases e : t.steps.length = 0
    · rw [decide_eq_true (by omega)]
      show egoOf t = t.ego
      have h4 : sexOf t = 2:=h4
      unfold sexOf at h4
      rw [decide_eq_true (by omega)] at h4
      have h4 : t.ego = 2:=h4
      unfold egoOf
      rw [h4];rfl
    · rw [decide_eq_false (by omega)];rfl
theorem allowed_mem {c : Classes} {n : Int} {t : KinType} (h : t ∈ allowedTy c n) : allowsT c t = true := by
  revert h
  unfold allowedTy
  refine cond_both (p:=fun (r : List KinType)=>t ∈ r → allowsT c t = true) (fun _ h=>absurd h List.not_mem_nil) (fun _=>?_)
  refine loopN_to (fun _ (v : List KinType)=>t ∈ v → allowsT c t = true) (fun (r : List KinType)=>t ∈ r → allowsT c t = true) (fun h=>absurd h List.not_mem_nil) (fun i v next hi hv hn=>?_) (fun v hv=>hv)
  refine cond_both (p:=fun (r : List KinType)=>t ∈ r → allowsT c t = true) (fun c1=>hn _ fun h=>?_) (fun _=>hn _ hv)
  rcases List.mem_append.1 h with h | h
  · exact hv h
  · rw [List.mem_singleton.1 h];exact c1
theorem samp_at {n : Int} (h : 0 ≤ n) : Samp (sampCls (([[107, 97, 114, 105, 101, 114, 97], [99, 105, 114, 99, 108, 101], [109, 111, 105, 101, 116, 105, 101, 115]] : List (List UInt8)).getD ((n.tmod 3).toNat) default)) := by
  rw [Int.tmod_eq_emod_of_nonneg h]
  have : (n % 3).toNat = 0 ∨ (n % 3).toNat = 1 ∨ (n % 3).toNat = 2:=by omega
  rcases this with e | e | e <;> rw [e]
  · exact .inl rfl
  · exact .inr (.inl rfl)
  · exact .inr (.inr rfl)
theorem samp_len {c : Classes} (h : Samp c) : c.wife.length ≤ 1048576 ∧ c.child.length ≤ 1048576:=by have:=samp_link h;omega
theorem relatives_len (x : Family) (p : Int) (t : KinType) (hn : x.people.length ≤ 40) : (relatives x p t).length ≤ 1048576 := by
  unfold relatives
  refine cond_both (p:=fun (r : List Int)=>r.length ≤ 1048576) (fun _=>Nat.zero_le _) (fun c=>?_)
  simp only [or_f_iff,not_f_iff] at c
  have h1:=(implHas1 x p).1 c.1
  rw [relFor_eq h1.1 c.2]
  exact Nat.le_trans (relRows_row _ _ (getD_mem (d:=[]) (by rw [relRows_len];omega))) (by omega)
theorem allowed_le {c : Classes} {n : Int} {t : KinType} (h : t ∈ allowedTy c n) : t.steps.length ≤ 3 := by
  revert h
  unfold allowedTy
  refine cond_both (p:=fun (r : List KinType)=>t ∈ r → t.steps.length ≤ 3) (fun _ h=>absurd h List.not_mem_nil) (fun _=>?_)
  refine loopN_to (fun _ (v : List KinType)=>t ∈ v → t.steps.length ≤ 3) (fun (r : List KinType)=>t ∈ r → t.steps.length ≤ 3) (fun h=>absurd h List.not_mem_nil) (fun i v next hi hv hn=>?_) (fun v hv=>hv)
  refine cond_both (p:=fun (r : List KinType)=>t ∈ r → t.steps.length ≤ 3) (fun c1=>hn _ fun h=>?_) (fun _=>hn _ hv)
  rcases List.mem_append.1 h with h | h
  · exact hv h
  · rw [List.mem_singleton.1 h];exact (typesFrom_ok 1 n).2 _ (getD_mem hi)
theorem cpart_mem {x : Family} {c : Classes} {L : List Int} (hd : Clsd x c L) {a : Int} (ha : 0 ≤ a ∧ a < x.people.length) {b : Int} : b ∈ implClassPartners x c L a ↔ (0 ≤ b ∧ b < x.people.length) ∧
    (((x.people.getD a.toNat default).sex = 1 ∧ (x.people.getD b.toNat default).sex = 2 ∧ L.getD b.toNat default = c.wife.getD (L.getD a.toNat default).toNat default) ∨ ((x.people.getD a.toNat default).sex = 2 ∧ (x.people.getD b.toNat default).sex = 1 ∧ c.wife.getD (L.getD b.toNat default).toNat default = L.getD a.toNat default)):=by
  have hl:=hd.k.l
  have hc : specIsClasses c = true:=by rcases hd.k.s with e | e | e <;> rw [e] <;> decide
  have hg : areGiven x c L 0 = true := by
    rw [given_eq]
    refine (l7Given_iff x c L 0).2 ⟨hd.k.f,hc,hl,fun j hj=>⟨hd.p j (by omega),hd.k.r _ (getD_mem hj)⟩⟩
  unfold implClassPartners
  rw [(implHas1 x a).2 ⟨hd.k.f,ha⟩,hg]
  simp only [Bool.not_true,Bool.or_false,cond_false]
  rw [fLoop_mem (f:=fun i=>((i : Nat) : Int))]
  constructor
  · rintro ⟨i,h1,h2,rfl⟩
    simp only [Bool.or_eq_true,Bool.and_eq_true,decide_eq_true_eq,and_assoc] at h2
    rw [Int.toNat_natCast]
    exact ⟨⟨by omega,by omega⟩,h2⟩
  · rintro ⟨h1,h2⟩
    refine ⟨b.toNat,by omega,?_,by omega⟩
    simp only [Bool.or_eq_true,Bool.and_eq_true,decide_eq_true_eq,and_assoc]
    exact h2
theorem cpart_len {x : Family} {c : Classes} {L : List Int} {a : Int} : (implClassPartners x c L a).length ≤ x.people.length:=by rw [classPartners_eq];exact specClassPartners_len x c L a
theorem allowedTy_len {c : Classes} {n : Int} : (allowedTy c n).length ≤ 3000 := by
  unfold allowedTy
  refine cond_both (p:=fun (r : List KinType)=>r.length ≤ 3000) (fun _=>Nat.zero_le _) (fun _=>?_)
  refine loopN_to (fun i (v : List KinType)=>v.length ≤ i) (fun (r : List KinType)=>r.length ≤ 3000) (Nat.le_refl _) (fun i v next hi hv hn=>?_) (fun v hv=>Nat.le_trans hv (typesFrom_ok 1 n).1)
  exact cond_both (p:=fun (r : List KinType)=>r.length ≤ 3000) (fun _=>hn _ (by simp only [List.length_append,List.length_cons,List.length_nil];omega)) (fun _=>hn _ (by omega))
theorem subset_mem (l m : List Int) : lawSubset l m = true ↔ ∀ q ∈ l, q ∈ m := by
  unfold lawSubset
  rw [loopN_all]
  simp only [and_true,not_f_iff,lawHas_iff]
  constructor
  · intro h q hq
    obtain ⟨k,hk,e⟩:=mem_getD (d:=default) hq
    rw [← e];exact h k hk
  · exact fun h j hj=>h _ (getD_mem hj)
end Go.Proofs.Ytaageiiodlfeiaa
