import Derived.Test.YtikfeeaapenplabVS40
set_option maxHeartbeats 4000000
set_option linter.unusedSimpArgs false
set_option linter.unusedVariables false
namespace Go.Proofs.Ytikfeeaapenplab
open Go Go.Lite Go.Proofs
/-! ### Heirs as one list, each named once -/
/-- Whom the reference meets below a person, in its order. -/
def Lst (f : Family) (x : Custom) (y : Int) : Nat → Int → List Int
  | 0,_=>[]
  | m + 1,p=>(l10Children f x p).flatMap fun c=>bif decide (y < (f.people.getD c.toNat default).born) then [] else (bif l1Alive f c y then [c] else []) ++ (bif l1Alive f c y || x.represent then Lst f x y m c else [])
def addL (v : List Bool × List Int) (q : Int) : List Bool × List Int:=bif mk1 v.1 q then v else (v.1.set q.toNat true,v.2 ++ [q])
theorem below_fold {f : Family} (hf : specIsFamily f = true) (x : Custom) (y : Int) : ∀ (m : Nat) (p : Int) (s : List Bool) (o : List Int), (0 ≤ p ∧ p < f.people.length) → (f.people.length - p).toNat < m → l10Below_r m f x p y s o = (((Lst f x y m p).foldl addL (s, o)).2, ((Lst f x y m p).foldl addL (s, o)).1) := by
  intro m
  induction m with
  | zero=>intro p s o _ hm;exact absurd hm (Nat.not_lt_zero _)
  | succ m ih =>
    intro p s o hp hm
    rw [l10Below_r]
    refine loopN_to (fun i (v : (List Bool) × (List Int))=>v = (((l10Children f x p).take i).flatMap fun c=>bif decide (y < (f.people.getD c.toNat default).born) then [] else (bif l1Alive f c y then [c] else []) ++ (bif l1Alive f c y || x.represent then Lst f x y m c else [])).foldl addL (s,o)) (fun (r : (List Int) × (List Bool))=>r = (((Lst f x y (m + 1) p).foldl addL (s,o)).2,((Lst f x y (m + 1) p).foldl addL (s,o)).1)) (by simp) (fun i v next hi hv hn=>?_) (fun v hv=>by rw [List.take_length] at hv;rw [hv];rfl)
    have hc:=l10_at hf (x:=x) hp.1 hi
    refine cond_both (p:=fun (r : (List Int) × (List Bool))=>r = (((Lst f x y (m + 1) p).foldl addL (s,o)).2,((Lst f x y (m + 1) p).foldl addL (s,o)).1)) (fun hb=>hn _ ?_) (fun hb=>?_)
    · rw [take_snoc _ default hi, List.flatMap_append, List.foldl_append, ← hv]
      simp only [List.flatMap_cons,List.flatMap_nil,List.append_nil]
      rw [hb];rfl
    refine jn_to (fun (j : (List Bool) × (List Int))=>j = (bif l1Alive f ((l10Children f x p).getD i default) y then [(l10Children f x p).getD i default] else []).foldl addL v) (fun (r : (List Int) × (List Bool))=>r = (((Lst f x y (m + 1) p).foldl addL (s,o)).2,((Lst f x y (m + 1) p).foldl addL (s,o)).1)) (fun K hK=>?_) (fun j hj=>?_)
    · refine cond_both (p := fun (r : (List Int) × (List Bool)) => r = (((Lst f x y (m + 1) p).foldl addL (s, o)).2, ((Lst f x y (m + 1) p).foldl addL (s, o)).1)) (fun h => hK _ ?_) (fun h => hK _ ?_)
      · simp only [Bool.and_eq_true, Bool.not_eq_true'] at h
        have h2 : mk1 v.1 ((l10Children f x p).getD i default) = false:=h.2
        rw [h.1]
        simp only [cond_true,List.foldl_cons,List.foldl_nil,addL,h2,cond_false]
      · cases ha : l1Alive f ((l10Children f x p).getD i default) y with
        | false=>rfl
        | true =>
          rw [ha,Bool.true_and] at h
          have h2 : mk1 v.1 ((l10Children f x p).getD i default) = true:=not_f_iff.1 h
          simp only [cond_true,List.foldl_cons,List.foldl_nil,addL,h2]
    · have e : ∀ z, (((l10Children f x p).take (i + 1)).flatMap fun c => bif decide (y < (f.people.getD c.toNat default).born) then [] else (bif l1Alive f c y then [c] else []) ++ (bif l1Alive f c y || x.represent then Lst f x y m c else [])).foldl addL (s, o) = z ↔ (bif l1Alive f ((l10Children f x p).getD i default) y || x.represent then Lst f x y m ((l10Children f x p).getD i default) else []).foldl addL j = z := fun z => by
        rw [take_snoc _ default hi,List.flatMap_append,List.foldl_append,← hv]
        simp only [List.flatMap_cons,List.flatMap_nil,List.append_nil]
        rw [hb,cond_false,List.foldl_append,← hj]
      refine cond_both (p:=fun (r : (List Int) × (List Bool))=>r = (((Lst f x y (m + 1) p).foldl addL (s,o)).2,((Lst f x y (m + 1) p).foldl addL (s,o)).1)) (fun h=>hn _ ?_) (fun h=>hn _ ?_)
      · refine ((e _).2 ?_).symm
        rw [h,cond_true,ih _ _ _ (by omega) (by omega)]
      · refine ((e _).2 ?_).symm
        rw [h];rfl
/-- From a person on the way up. -/
def Chn (f : Family) (x : Custom) (y : Int) : Nat → Int → List Int
  | 0,_=>[]
  | m + 1,q=>bif decide (0 ≤ q) then Lst f x y 100 q ++ Chn f x y m (l10Next f x q) else []
theorem addL_t {v : List Bool × List Int} {q : Int} (h : mk1 v.1 q = true) : addL v q = v:=by rw [addL,h];rfl
theorem addL_f {v : List Bool × List Int} {q : Int} (h : mk1 v.1 q = false) : addL v q = (v.1.set q.toNat true,v.2 ++ [q]):=by rw [addL,h];rfl
theorem foldL_pre : ∀ (L : List Int) (v : List Bool × List Int), ∃ t, (L.foldl addL v).2 = v.2 ++ t
  | [],v=>⟨[],by simp⟩
  | q :: L, v => by
    obtain ⟨t,h⟩:=foldL_pre L (addL v q)
    rw [List.foldl_cons,h]
    unfold addL
    cases mk1 v.1 q with
    | true=>exact ⟨t,rfl⟩
    | false=>exact ⟨q :: t,by simp⟩
theorem foldL_mem : ∀ (L : List Int) (s : List Bool) (o : List Int), (∀ q ∈ L, 0 ≤ q ∧ q < s.length) → ∀ c, c ∈ (L.foldl addL (s, o)).2 ↔ c ∈ o ∨ (c ∈ L ∧ mk1 s c = false)
  | [],s,o,_,c=>by simp
  | q :: L, s, o, h, c => by
    have hq:=h q (by simp)
    rw [List.foldl_cons]
    cases hm : mk1 s q with
    | true =>
      rw [addL_t hm,foldL_mem L s o (fun d hd=>h d (by simp [hd]))]
      constructor
      · rintro (h1 | ⟨h1, h2⟩)
        · exact .inl h1
        · exact .inr ⟨by simp [h1],h2⟩
      · rintro (h1 | ⟨h1, h2⟩)
        · exact .inl h1
        · rcases List.mem_cons.1 h1 with e | h1
          · rw [e,hm] at h2;cases h2
          · exact .inr ⟨h1,h2⟩
    | false =>
      rw [addL_f hm,foldL_mem L (s.set q.toNat true) (o ++ [q]) (fun d hd=>by rw [List.length_set];exact h d (by simp [hd]))]
      simp only [List.mem_append,List.mem_cons,List.not_mem_nil,or_false]
      constructor
      · rintro ((h1 | h1) | ⟨h1, h2⟩)
        · exact .inl h1
        · subst h1;exact .inr ⟨.inl rfl,hm⟩
        · rw [mk1_set s true hq (h c (by simp [h1])).1] at h2
          by_cases e : c = q
          · rw [if_pos e] at h2;cases h2
          · rw [if_neg e] at h2;exact .inr ⟨.inr h1,h2⟩
      · rintro (h1 | ⟨h1 | h1, h2⟩)
        · exact .inl (.inl h1)
        · exact .inl (.inr h1)
        · by_cases e : c = q
          · exact .inl (.inr e)
          · refine .inr ⟨h1, ?_⟩
            rw [mk1_set s true hq (h c (by simp [h1])).1,if_neg e];exact h2
/-- One who is not met may be marked. -/
theorem foldL_off (p : Int) : ∀ (L : List Int) (s s' : List Bool) (o : List Int), (∀ q ∈ L, 0 ≤ q ∧ q < s.length) → s.length = s'.length → (∀ c, 0 ≤ c → c ≠ p → mk1 s c = mk1 s' c) → p ∉ L → (L.foldl addL (s, o)).2 = (L.foldl addL (s', o)).2
  | [],_,_,_,_,_,_,_=>rfl
  | q :: L, s, s', o, h, hl, he, hp => by
    have hq:=h q (by simp)
    have hqp : q ≠ p:=fun e=>hp (by simp [e])
    have e1:=he q hq.1 hqp
    rw [List.foldl_cons,List.foldl_cons]
    cases hm : mk1 s' q with
    | true =>
      rw [addL_t (v:=(s',o)) hm,addL_t (v:=(s,o)) (e1.trans hm)]
      exact foldL_off p L s s' o (fun d hd=>h d (by simp [hd])) hl he (fun h=>hp (by simp [h]))
    | false =>
      rw [addL_f (v:=(s',o)) hm,addL_f (v:=(s,o)) (e1.trans hm)]
      refine foldL_off p L _ _ _ (fun d hd=>by rw [List.length_set];exact h d (by simp [hd])) (by simp [hl]) (fun c h0 hc=>?_) (fun h=>hp (by simp [h]))
      rw [mk1_set s true hq h0,mk1_set s' true (by omega) h0,he c h0 hc]
theorem foldL_app (L M : List Int) (v : List Bool × List Int) : ∃ t, ((L ++ M).foldl addL v).2 = (L.foldl addL v).2 ++ t := by
  rw [List.foldl_append];exact foldL_pre M _
theorem foldL_nodup : ∀ (L : List Int) (s : List Bool) (o : List Int), (∀ q ∈ L, 0 ≤ q ∧ q < s.length) → o.Nodup → (∀ c ∈ o, 0 ≤ c ∧ mk1 s c = true) → (L.foldl addL (s, o)).2.Nodup
  | [],_,_,_,h,_=>h
  | q :: L, s, o, hr, h, ho => by
    have hq:=hr q (by simp)
    rw [List.foldl_cons]
    cases hm : mk1 s q with
    | true=>rw [addL_t hm];exact foldL_nodup L s o (fun d hd=>hr d (by simp [hd])) h ho
    | false =>
      rw [addL_f hm]
      refine foldL_nodup L _ _ (fun d hd=>by rw [List.length_set];exact hr d (by simp [hd])) ?_ (fun c hc=>?_)
      · rw [List.nodup_append]
        refine ⟨h,by simp,fun a ha b hb e=>?_⟩
        rw [List.mem_singleton.1 hb] at e
        subst e
        rw [(ho a ha).2] at hm;cases hm
      · rcases List.mem_append.1 hc with hc | hc
        · refine ⟨(ho c hc).1, ?_⟩
          rw [mk1_set s true hq (ho c hc).1];split
          · rfl
          · exact (ho c hc).2
        · rw [List.mem_singleton.1 hc]
          refine ⟨hq.1,?_⟩
          rw [mk1_set s true hq hq.1,if_pos rfl]
theorem l10Of_sex {f : Family} {x : Custom} {l : List Int} {s c : Int} (hs : s ≠ 0) (h : c ∈ l10Of f x l s) : (f.people.getD c.toNat default).sex = s := by
  rw [l10Of_val] at h
  have h2 : c ∈ l.filter (ofSex0 f s) := by
    cases hy : x.youngest <;> rw [hy] at h <;> simpa using h
  have h3:=(List.mem_filter.1 h2).2
  simp only [ofSex0,ofSex,Bool.or_eq_true,decide_eq_true_eq] at h3
  omega
theorem l10_sex {f : Family} {x : Custom} {p c : Int} (h : c ∈ l10Children f x p) : (x.prefer = 3 → (f.people.getD c.toNat default).sex = 1) ∧ (x.prefer = 4 → (f.people.getD c.toNat default).sex = 2) := by
  constructor <;> intro e <;> unfold l10Children at h <;> rw [e] at h <;> exact l10Of_sex (by decide) h
theorem lst_mem {f : Family} (hf : specIsFamily f = true) (x : Custom) (y : Int) : ∀ (m : Nat) (p : Int), 0 ≤ p → ∀ q ∈ Lst f x y m p, (p < q ∧ q < f.people.length) ∧ l1Alive f q y = true ∧ (x.prefer = 3 → (f.people.getD q.toNat default).sex = 1) ∧ (x.prefer = 4 → (f.people.getD q.toNat default).sex = 2)
  | 0,p,_,q,hq=>by cases hq
  | m + 1, p, hp, q, hq => by
    obtain ⟨c,hc,hq⟩:=List.mem_flatMap.1 hq
    have h1:=l10_lt hf (x:=x) hp hc
    have h2:=l10_sex hc
    cases hb : decide (y < (f.people.getD c.toNat default).born) with
    | true=>rw [hb] at hq;cases hq
    | false =>
      rw [hb,cond_false] at hq
      rcases List.mem_append.1 hq with hq | hq
      · cases ha : l1Alive f c y with
        | false=>rw [ha] at hq;cases hq
        | true =>
          rw [ha] at hq
          have e:=List.mem_singleton.1 hq
          subst e
          exact ⟨h1,ha,h2⟩
      · cases ha : (l1Alive f c y || x.represent) with
        | false=>rw [ha] at hq;cases hq
        | true =>
          rw [ha] at hq
          have:=lst_mem hf x y m c (by omega) q hq
          exact ⟨by omega,this.2⟩
theorem chn_mem {f : Family} (hf : specIsFamily f = true) (x : Custom) (y : Int) : ∀ (m : Nat) (p : Int), ∀ q ∈ Chn f x y m p, (0 ≤ q ∧ q < f.people.length) ∧ l1Alive f q y = true ∧ (x.prefer = 3 → (f.people.getD q.toNat default).sex = 1) ∧ (x.prefer = 4 → (f.people.getD q.toNat default).sex = 2)
  | 0,p,q,hq=>by cases hq
  | m + 1, p, q, hq => by
    unfold Chn at hq
    cases h : decide (0 ≤ p) with
    | false=>rw [h] at hq;cases hq
    | true =>
      rw [h] at hq
      rcases List.mem_append.1 hq with hq | hq
      · have h1 := lst_mem hf x y 100 p (of_decide_eq_true h) q hq
        have h2:=of_decide_eq_true h
        exact ⟨by omega,h1.2⟩
      · exact chn_mem hf x y m _ q hq
theorem par_kid {f : Family} {a q : Int} (ha : 0 ≤ a ∧ a < f.people.length) (h : q ∈ l1Parents f a) : a ∈ l1Children f q ∧ 0 ≤ q ∧ (q = (f.people.getD a.toNat default).father ∨ q = (f.people.getD a.toNat default).mother) := by
  obtain ⟨k,hk,e⟩:=mem_getD (d:=default) h
  have h1:=(l1Parents_rng f a).2 k hk
  rw [e] at h1
  refine ⟨(l1Children_mem f q a).2 ⟨a.toNat,by omega,by omega,?_⟩,h1.1,by omega⟩
  omega
theorem par_born_lt {f : Family} (hf : specIsFamily f = true) {a q : Int} (ha : 0 ≤ a ∧ a < f.people.length) (h : q ∈ l1Parents f a) : (f.people.getD q.toNat default).born < (f.people.getD a.toNat default).born := by
  have h1:=par_kid ha h
  have h2:=fam_p hf (k:=a.toNat) (by omega)
  have h3:=h2.fa;have h4:=h2.mo
  rcases h1.2.2 with e | e
  · rcases h3 with h3 | h3
    · omega
    · rw [e];omega
  · rcases h4 with h4 | h4
    · omega
    · rw [e];omega
theorem up_born {f : Family} (hf : specIsFamily f = true) {q : Int} (hq : 0 ≤ q ∧ q < f.people.length) {n : Nat} {a : Int} (h : Up f q n a) : (f.people.getD a.toNat default).born ≤ (f.people.getD q.toNat default).born := by
  induction h with
  | zero=>exact Int.le_refl _
  | step h hp ih =>
    have h1:=h.rng (isFamily_par f hf) hq
    have:=par_born_lt hf ⟨h1.1,h1.2.1⟩ hp
    omega
theorem l10Of_mem {f : Family} {x : Custom} {l : List Int} {s c : Int} : c ∈ l10Of f x l s ↔ c ∈ l ∧ ofSex0 f s c = true := by
  rw [l10Of_val]
  cases x.youngest <;> simp [List.mem_filter]
theorem l10_all {f : Family} (hf : specIsFamily f = true) {x : Custom} (hx : x.prefer ≤ 2) {p c : Int} (h : c ∈ l1Children f p) : c ∈ l10Children f x p := by
  have hk:=(l1Children_okl f p).1 c h
  have hs:=(fam_p hf (k:=c.toNat) (by omega)).sex
  have key : c ∈ l10Of f x (l1Children f p) 1 ∨ c ∈ l10Of f x (l1Children f p) 2 := by
    simp only [l10Of_mem,ofSex0,ofSex,Bool.or_eq_true,decide_eq_true_eq]
    rcases (show _ = (1 : Int) ∨ _ = (2 : Int) by omega : (f.people.getD c.toNat default).sex = 1 ∨ (f.people.getD c.toNat default).sex = 2) with e | e
    · exact .inl ⟨h,.inr e⟩
    · exact .inr ⟨h,.inr e⟩
  unfold l10Children
  refine cond_both (p:=fun r=>c ∈ r) (fun _=>List.mem_append.2 key) (fun _=>?_)
  refine cond_both (p:=fun r=>c ∈ r) (fun _=>List.mem_append.2 key.symm) (fun _=>?_)
  refine cond_both (p:=fun r=>c ∈ r) (fun h3=>absurd (of_decide_eq_true h3) (by omega)) (fun _=>?_)
  refine cond_both (p:=fun r=>c ∈ r) (fun h3=>absurd (of_decide_eq_true h3) (by omega)) (fun _=>?_)
  exact l10Of_mem.2 ⟨h,by simp [ofSex0]⟩
/-- With representation, and both sexes, each living descendant is met. -/
theorem up_lst {f : Family} (hf : specIsFamily f = true) {x : Custom} (hx : x.prefer ≤ 2) (hr : x.represent = true) {y q : Int} (hq : 0 ≤ q ∧ q < f.people.length) (ha : l1Alive f q y = true) {n : Nat} {p : Int} (h : Up f q n p) : 0 < n → ∀ m : Nat, (f.people.length - p).toNat < m → q ∈ Lst f x y m p := by
  have hb : (f.people.getD q.toNat default).born ≤ y := by
    simp only [l1Alive,Bool.and_eq_true,decide_eq_true_eq] at ha;omega
  induction h with
  | zero=>intro h;exact absurd h (Nat.lt_irrefl _)
  | @step n a p h hp ih =>
    intro _ m hm
    have h1:=h.rng (isFamily_par f hf) hq
    have h2:=par_kid ⟨h1.1,h1.2.1⟩ hp
    have h3:=parent_lt (isFamily_par f hf) ⟨h1.1,h1.2.1⟩ hp
    have h4:=up_born hf hq h
    match m,hm with
    | 0,hm=>exact absurd hm (Nat.not_lt_zero _)
    | m + 1, hm =>
      refine List.mem_flatMap.2 ⟨a,l10_all hf hx h2.1,?_⟩
      rw [decide_eq_false (by omega),cond_false,hr,Bool.or_true,cond_true]
      by_cases e : n = 0
      · subst e
        have : a = q:=by cases h;rfl
        subst this
        rw [ha];simp
      · exact List.mem_append.2 (.inr (ih (by omega) m (by omega)))
theorem desc_up {f : Family} (hf : specIsFamily f = true) {p : Int} (hp : 0 ≤ p ∧ p < f.people.length) {q : Int} (h : q ∈ specDescendants f p) : (0 ≤ q ∧ q < f.people.length) ∧ ∃ n, 0 < n ∧ Up f q n p := by
  unfold specDescendants at h
  rw [(l1Has_iff f p).2 ⟨hp,hf⟩,Bool.not_true,cond_false,fLoop_mem (f:=fun i=>((i : Nat) : Int))] at h
  obtain ⟨i,h1,h2,rfl⟩:=h
  have h3:=l8Up_dist f (i : Int) (isFamily_par f hf) ⟨by omega,by omega⟩
  have h2:=of_decide_eq_true h2
  have h4:=(h3.yes p.toNat (by omega) (by omega)).1
  rw [show ((p.toNat : Nat) : Int) = p by omega] at h4
  exact ⟨⟨by omega,by omega⟩,_,by omega,h4⟩
theorem succ_loop {f : Family} (hf : specIsFamily f = true) (x : Custom) (y : Int) : ∀ (m : Nat) (s : List Bool) (o : List Int) (q : Int), (-1 ≤ q ∧ q < f.people.length) → (q + 1).toNat < m →
    loopW (fun (v1 : (List Bool) × (List Int) × Int) next=>bif (decide (0 ≤ v1.2.2)) then (next ((l10Below f x v1.2.2 y v1.1 v1.2.1).2,(l10Below f x v1.2.2 y v1.1 v1.2.1).1,l10Next f x v1.2.2)) else v1.2.1) m (s,o,q) = ((Chn f x y m q).foldl addL (s,o)).2
  | 0,s,o,q,_,hm=>absurd hm (Nat.not_lt_zero _)
  | m + 1, s, o, q, hq, hm => by
    have hn:=(fam_n hf).1
    rw [Chn]
    show (bif decide (0 ≤ q) then loopW _ m ((l10Below f x q y s o).2,(l10Below f x q y s o).1,l10Next f x q) else o) = _
    cases h : decide (0 ≤ q) with
    | false=>rfl
    | true =>
      have h:=of_decide_eq_true h
      have h1:=way_lt hf x ⟨h,hq.2⟩
      have h2:=way_ge hf x ⟨h,hq.2⟩
      rw [cond_true,cond_true,succ_loop hf x y m _ _ _ (by rw [next_way];omega) (by rw [next_way];omega),List.foldl_append]
      unfold l10Below
      rw [below_fold hf x y 100 q s o ⟨h,hq.2⟩ (by omega)]
theorem specSuccO_fold {f : Family} (hf : specIsFamily f = true) {x : Custom} (hx : specIsCustom x = true) {p : Int} (hp : 0 ≤ p ∧ p < f.people.length) (y : Int) :
    specSuccO f x p y = ((Lst f x y 100 p ++ Chn f x y (p + 1).toNat (l10Next f x p)).foldl addL ((List.replicate f.people.length (default : Bool)).set p.toNat true,[])).2:=by
  unfold specSuccO
  rw [hx,(l1Has_iff f p).2 ⟨hp,hf⟩,Bool.not_true,Bool.or_false,cond_false,succ_loop hf x y _ _ _ _ (by omega) (Nat.lt_succ_self _),Chn,decide_eq_true hp.1,cond_true]
theorem specHeirs_fold {f : Family} (hf : specIsFamily f = true) {x : Custom} (hx : specIsCustom x = true) {p : Int} (hp : 0 ≤ p ∧ p < f.people.length) (y : Int) :
    specHeirs f x p y = ((Lst f x y 100 p).foldl addL (List.replicate f.people.length (default : Bool),[])).2:=by
  have hn:=(fam_n hf).1
  unfold specHeirs
  rw [hx,(l1Has_iff f p).2 ⟨hp,hf⟩,Bool.not_true,Bool.or_false,cond_false]
  unfold l10Below
  rw [below_fold hf x y 100 p _ _ hp (by omega)]
/-- What is told of those who may succeed. -/
theorem succ_facts {f : Family} (hf : specIsFamily f = true) {x : Custom} (hx : specIsCustom x = true) {p : Int} (hp : 0 ≤ p ∧ p < f.people.length) (y : Int) :
    (∃ t,implSuccO f x p y = implHeirs f x p y ++ t) ∧ (implSuccO f x p y).Nodup ∧ (∀ q ∈ implSuccO f x p y,q ≠ p ∧ (0 ≤ q ∧ q < f.people.length) ∧ l1Alive f q y = true ∧ (x.prefer = 3 → (f.people.getD q.toNat default).sex = 1) ∧ (x.prefer = 4 → (f.people.getD q.toNat default).sex = 2)) ∧
    (x.represent = true → x.prefer ≤ 2 → ∀ q ∈ specDescendants f p,(l1Alive f q y = true ↔ q ∈ implHeirs f x p y)):=by
  have hn:=(fam_n hf).1
  rw [succ_eq,heirs_eq,specSuccO_fold hf hx hp,specHeirs_fold hf hx hp]
  have hL:=lst_mem hf x y 100 p hp.1
  have hl : ((List.replicate f.people.length (default : Bool)).set p.toNat true).length = f.people.length:=by simp
  have hr : (List.replicate f.people.length (default : Bool)).length = f.people.length:=by simp
  have hA : ∀ q ∈ Lst f x y 100 p ++ Chn f x y (p + 1).toNat (l10Next f x p), (0 ≤ q ∧ q < f.people.length) ∧ l1Alive f q y = true ∧ (x.prefer = 3 → (f.people.getD q.toNat default).sex = 1) ∧ (x.prefer = 4 → (f.people.getD q.toNat default).sex = 2) := fun q hq => by
    rcases List.mem_append.1 hq with hq | hq
    · have:=hL q hq;exact ⟨by omega,this.2⟩
    · exact chn_mem hf x y _ _ q hq
  have hp1 : mk1 ((List.replicate f.people.length (default : Bool)).set p.toNat true) p = true:=by rw [mk1_set _ _ (by omega) hp.1,if_pos rfl]
  have hoff:=foldL_off p (Lst f x y 100 p) ((List.replicate f.people.length (default : Bool)).set p.toNat true) (List.replicate f.people.length (default : Bool)) [] (fun q hq=>by rw [hl];have:=hL q hq;omega) (by rw [hl,hr]) (fun c h0 hc=>by rw [mk1_set _ _ (by omega) h0,if_neg hc]) (fun h=>by have:=hL p h;omega)
  have hm:=foldL_mem (Lst f x y 100 p) (List.replicate f.people.length (default : Bool)) [] (fun q hq=>by rw [hr];have:=hL q hq;omega)
  have hm2:=foldL_mem (Lst f x y 100 p ++ Chn f x y (p + 1).toNat (l10Next f x p)) ((List.replicate f.people.length (default : Bool)).set p.toNat true) [] (fun q hq=>by rw [hl];have:=hA q hq;omega)
  refine ⟨?_,?_,fun q hq=>?_,fun h1 h2 q hq=>?_⟩
  · rw [← hoff];exact foldL_app _ _ _
  · exact foldL_nodup _ _ _ (fun q hq=>by rw [hl];have:=hA q hq;omega) List.nodup_nil (fun c hc=>by cases hc)
  · rcases (hm2 q).1 hq with h | ⟨h, h3⟩
    · cases h
    · exact ⟨fun e=>(by rw [e,hp1] at h3;cases h3),hA q h⟩
  · obtain ⟨g1, n, g2, g3⟩ := desc_up hf hp hq
    rw [hm]
    constructor
    · intro ha
      exact .inr ⟨up_lst hf h2 h1 g1 ha g3 g2 100 (by omega),by unfold mk1;rw [getD_rep];split <;> rfl⟩
    · rintro (h | ⟨h, _⟩)
      · cases h
      · exact (hL q h).2.1
theorem lawInts_eq {a b : List Int} (h : a = b) : lawInts a b = true := by
  subst h
  unfold lawInts
  rw [decide_eq_true rfl,Bool.not_true,cond_false,loopN_all]
  exact ⟨fun j _=>by simp,rfl⟩
theorem specAlive_val {f : Family} (hf : specIsFamily f = true) {q : Int} (hq : 0 ≤ q ∧ q < f.people.length) (y : Int) : specAlive f q y = l1Alive f q y := by
  unfold specAlive
  rw [(l1Has_iff f q).2 ⟨hq,hf⟩,Bool.true_and]
theorem nodup_take {l : List Int} (h : l.Nodup) {i : Nat} (hi : i < l.length) : l.getD i default ∉ l.take i := fun hm => by
  obtain ⟨k,hk,e⟩:=List.mem_iff_getElem.1 hm
  rw [List.getElem_take] at e
  simp only [List.length_take] at hk
  rw [List.getD_eq_getElem?_getD,List.getElem?_eq_getElem hi,Option.getD_some] at e
  have:=(List.getElem_inj h).1 e
  omega
theorem custom_ok {n : Int} (h : 0 ≤ n ∧ n < 5) (a b : Bool) : specIsCustom ⟨n, a, b⟩ = true := by
  simp only [specIsCustom,l1In,Bool.and_eq_true,decide_eq_true_eq];omega
theorem succ_at (f : Family) (x : Custom) (p y : Int) {i : Nat} (h : i < (implSuccO f x p y).length) : 0 ≤ (implSuccO f x p y).getD i default ∧ (implSuccO f x p y).getD i default < f.people.length := by
  rw [succ_eq] at *
  exact (specSuccO_ok f x p y).2 _ (getD_mem h)
theorem succ_le (f : Family) (x : Custom) (p y : Int) : (implSuccO f x p y).length ≤ 40:=by rw [succ_eq];exact (specSuccO_ok f x p y).1
theorem heirs_le (f : Family) (x : Custom) (p y : Int) : (implHeirs f x p y).length ≤ 40:=by rw [heirs_eq];exact specHeirs_ok f x p y
theorem cut_le (l : List Int) (a n : Nat) : ((l.drop a).take n).length ≤ l.length:=by simp only [List.length_take,List.length_drop];omega
theorem heirOf_pos {f : Family} {x : Custom} {p y : Int} (h : (implHeirOf f x p y).2 = true) : 0 < (implSuccO f x p y).length := by
  unfold implHeirOf at h
  cases hl : decide ((((implSuccO f x p y).length : Nat) : Int) = 0) with
  | true=>rw [hl] at h;cases h
  | false=>have:=of_decide_eq_false hl;omega
end Go.Proofs.Ytikfeeaapenplab
