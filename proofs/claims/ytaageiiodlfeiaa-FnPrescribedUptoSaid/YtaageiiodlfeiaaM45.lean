import Derived.Test.YtaageiiodlfeiaaV45
set_option maxHeartbeats 4000000
set_option linter.unusedSimpArgs false
set_option linter.unusedVariables false
namespace Go.Proofs.Ytaageiiodlfeiaa
open Go Go.Lite Go.Proofs
theorem l1ByAge_mem (x : Family) (l : List Int) (p y : Int) : y ∈ l1ByAge x l p ↔ y = p ∨ y ∈ l := by
  unfold l1ByAge
  refine loopN_to (fun i (v : List Int × Bool)=>i ≤ l.length ∧ (y ∈ v.1 ↔ (v.2 = true ∧ y = p) ∨ y ∈ l.take i)) (fun (r : List Int)=>y ∈ r ↔ y = p ∨ y ∈ l) ⟨Nat.zero_le _,by simp⟩ (fun i v next hi hv hn=>?_) (fun v hv=>?_)
  · have e : l.take (i + 1) = l.take i ++ [l.getD i default] := by
      rw [List.take_add_one,List.getD_eq_getElem?_getD,List.getElem?_eq_getElem hi];rfl
    obtain ⟨w,d⟩:=v
    obtain ⟨h1,h2⟩:=hv
    refine cond_both (p:=fun (r : List Int)=>y ∈ r ↔ y = p ∨ y ∈ l) (fun c=>hn _ ⟨hi,?_⟩) (fun c=>hn _ ⟨hi,?_⟩)
    · simp only [Bool.and_eq_true,not_t_iff] at c
      simp only at h2
      simp only [List.mem_append,List.mem_singleton,h2,c.1,e,Bool.false_eq_true,false_and,false_or,true_and]
      constructor
      · rintro ((h | h) | h)
        · exact .inr (.inl h)
        · exact .inl h
        · exact .inr (.inr h)
      · rintro (h | h | h)
        · exact .inl (.inr h)
        · exact .inl (.inl h)
        · exact .inr h
    · simp only at h2
      simp only [List.mem_append,List.mem_singleton,h2,e,or_assoc]
  · have e : l.take l.length = l:=List.take_length
    rw [e] at hv
    refine cond_both (p:=fun (r : List Int)=>y ∈ r ↔ y = p ∨ y ∈ l) (fun c=>?_) (fun c=>?_)
    · simp only [not_t_iff] at c
      simp only [List.mem_append,List.mem_singleton,hv.2,c,Bool.false_eq_true,false_and,false_or]
      exact Or.comm
    · simp only [not_f_iff] at c
      rw [hv.2,c];simp
theorem l1ByAge_len (x : Family) (l : List Int) (p : Int) : (l1ByAge x l p).length = l.length + 1 := by
  unfold l1ByAge
  refine loopN_to (fun i (v : List Int × Bool)=>v.1.length = i + (bif v.2 then 1 else 0)) (fun (r : List Int)=>r.length = l.length + 1) (by simp) (fun i v next hi hv hn=>?_) (fun v hv=>?_)
  · obtain ⟨w,d⟩:=v
    refine cond_both (p:=fun (r : List Int)=>r.length = l.length + 1) (fun c=>hn _ ?_) (fun c=>hn _ ?_)
    · simp only [Bool.and_eq_true,not_t_iff] at c
      simp only [c.1,cond_false] at hv
      simp only [List.length_append,List.length_singleton,hv,cond_true]
    · simp only at hv
      simp only [List.length_append,List.length_singleton,hv]
      omega
  · obtain ⟨w,d⟩:=v
    cases d
    · simp only [Bool.not_false,cond_true,List.length_append,List.length_singleton];simp only [cond_false] at hv;omega
    · simp only [Bool.not_true,cond_false];simp only [cond_true] at hv;omega
def depN (d : List Int) (p : Person) : Int :=
  bif decide (0 ≤ p.father) then (bif decide (0 ≤ p.mother) then Max.max (d.getD p.father.toNat default + 1) (d.getD p.mother.toNat default + 1) else d.getD p.father.toNat default + 1) else (bif decide (0 ≤ p.mother) then Max.max 0 (d.getD p.mother.toNat default + 1) else 0)
theorem l1Depths_fold (x : Family) : l1Depths x = (List.range' 0 x.people.length).foldl (fun v i => v ++ [depN v (x.people.getD i default)]) [] := by
  have e:=loopN_fold (fun i (v : List Int)=>v ++ [depN v (x.people.getD i default)]) (fun (v : List Int)=>v) x.people.length 0 []
  rw [← e]
  unfold l1Depths
  congr 1
  funext i v next
  unfold depN
  cases decide (0 ≤ (x.people.getD i default).father) <;> cases decide (0 ≤ (x.people.getD i default).mother) <;> rfl
theorem dep_snoc (l : List Person) (p : Person) (u u' : List Union) : l1Depths ⟨l ++ [p], u⟩ = l1Depths ⟨l, u'⟩ ++ [depN (l1Depths ⟨l, u'⟩) p] := by
  rw [l1Depths_fold,l1Depths_fold]
  simp only [List.length_append,List.length_singleton]
  rw [List.range'_concat,List.foldl_append]
  simp only [Nat.one_mul,Nat.zero_add,List.foldl_cons,List.foldl_nil]
  have h : (List.range' 0 l.length).foldl (fun v i => v ++ [depN v ((l ++ [p]).getD i default)]) [] = (List.range' 0 l.length).foldl (fun v i => v ++ [depN v (l.getD i default)]) [] := by
    have : ∀ (r : List Nat) (s : List Int), (∀ i ∈ r, i < l.length) → r.foldl (fun v i => v ++ [depN v ((l ++ [p]).getD i default)]) s = r.foldl (fun v i => v ++ [depN v (l.getD i default)]) s := by
      intro r
      induction r with
      | nil=>intro s _;rfl
      | cons a r ih =>
        intro s hr
        simp only [List.foldl_cons]
        rw [snoc_lt' (hr a (by simp)),ih _ fun i hi=>hr i (by simp [hi])]
    exact this _ _ fun i hi=>by have:=List.mem_range'_1.1 hi;omega
  rw [h,snoc_last rfl]
/-- A family in the making: nobody died, births within bounds. -/
def dp (l : List Person) (k : Nat) : Int:=(l1Depths ⟨l,[]⟩).getD k default
theorem dp_of (l : List Person) (u : List Union) (k : Nat) : (l1Depths ⟨l, u⟩).getD k default = dp l k := by
  unfold dp;rw [l1Depths_fold,l1Depths_fold]
theorem dp_len (l : List Person) : (l1Depths ⟨l,[]⟩).length = l.length:=l1Depths_len ⟨l,[]⟩
theorem dp_lt (l : List Person) (p : Person) {k : Nat} (hk : k < l.length) : dp (l ++ [p]) k = dp l k := by
  unfold dp;rw [dep_snoc l p [] [],snoc_lt' (by rw [dp_len];exact hk)]
theorem dp_last (l : List Person) (p : Person) {k : Nat} (hk : k = l.length) : dp (l ++ [p]) k = depN (l1Depths ⟨l, []⟩) p := by
  unfold dp;rw [dep_snoc l p [] [],snoc_last (by rw [dp_len];exact hk)]
/-- Who may be a parent of one that comes next. -/
def PaOk (l : List Person) (q s : Int) (n : Nat) : Prop:=q = -1 ∨ 0 ≤ q ∧ q < n ∧ (l.getD q.toNat default).sex = s
structure Mk (l : List Person) : Prop where
  len : l.length ≤ 40
  name : ∀ k : Nat,k < l.length → (l.getD k default).name = l1Called (k : Int)
  sex : ∀ k : Nat,k < l.length → 1 ≤ (l.getD k default).sex ∧ (l.getD k default).sex ≤ 2
  died : ∀ k : Nat,k < l.length → (l.getD k default).died = -1
  fa : ∀ k : Nat,k < l.length → PaOk l (l.getD k default).father 1 k
  mo : ∀ k : Nat,k < l.length → PaOk l (l.getD k default).mother 2 k
  faB : ∀ k : Nat,k < l.length → 0 ≤ (l.getD k default).father → (l.getD (l.getD k default).father.toNat default).born < (l.getD k default).born
  moB : ∀ k : Nat,k < l.length → 0 ≤ (l.getD k default).mother → (l.getD (l.getD k default).mother.toNat default).born < (l.getD k default).born
  dep : ∀ k : Nat,k < l.length → 0 ≤ dp l k ∧ dp l k ≤ 10
  born : ∀ k : Nat,k < l.length → 0 ≤ (l.getD k default).born ∧ (l.getD k default).born ≤ 400
def MkB (l : List Person) : Prop:=∀ k : Nat,k < l.length → (l.getD k default).born ≤ 11 + 30 * dp l k
theorem Mk.nil : Mk []:=⟨by simp,fun k hk=>absurd hk (Nat.not_lt_zero _),fun k hk=>absurd hk (Nat.not_lt_zero _),fun k hk=>absurd hk (Nat.not_lt_zero _),fun k hk=>absurd hk (Nat.not_lt_zero _),fun k hk=>absurd hk (Nat.not_lt_zero _),fun k hk=>absurd hk (Nat.not_lt_zero _),fun k hk=>absurd hk (Nat.not_lt_zero _),fun k hk=>absurd hk (Nat.not_lt_zero _),fun k hk=>absurd hk (Nat.not_lt_zero _)⟩
theorem MkB.nil : MkB []:=fun k hk=>absurd hk (Nat.not_lt_zero _)
theorem depN_bd {l : List Person} {p : Person} {D : Int} (hD : 0 ≤ D) (hl : ∀ k : Nat, k < l.length → 0 ≤ dp l k) (hf : p.father = -1 ∨ 0 ≤ p.father ∧ p.father < l.length ∧ dp l p.father.toNat < D) (hm : p.mother = -1 ∨ 0 ≤ p.mother ∧ p.mother < l.length ∧ dp l p.mother.toNat < D) :
    0 ≤ depN (l1Depths ⟨l,[]⟩) p ∧ depN (l1Depths ⟨l,[]⟩) p ≤ D ∧ (0 ≤ p.father → dp l p.father.toNat + 1 ≤ depN (l1Depths ⟨l,[]⟩) p) ∧ (0 ≤ p.mother → dp l p.mother.toNat + 1 ≤ depN (l1Depths ⟨l,[]⟩) p):=by
  have h1 : 0 ≤ p.father → 0 ≤ dp l p.father.toNat:=fun h=>hl _ (by omega)
  have h2 : 0 ≤ p.mother → 0 ≤ dp l p.mother.toNat:=fun h=>hl _ (by omega)
  unfold depN
  show 0 ≤ (bif decide (0 ≤ p.father) then (bif decide (0 ≤ p.mother) then Max.max (dp l p.father.toNat + 1) (dp l p.mother.toNat + 1) else dp l p.father.toNat + 1) else (bif decide (0 ≤ p.mother) then Max.max 0 (dp l p.mother.toNat + 1) else 0)) ∧ _
  change _ ∧ (bif decide (0 ≤ p.father) then (bif decide (0 ≤ p.mother) then Max.max (dp l p.father.toNat + 1) (dp l p.mother.toNat + 1) else dp l p.father.toNat + 1) else (bif decide (0 ≤ p.mother) then Max.max 0 (dp l p.mother.toNat + 1) else 0)) ≤ D ∧ (_ → _ ≤ (bif decide (0 ≤ p.father) then (bif decide (0 ≤ p.mother) then Max.max (dp l p.father.toNat + 1) (dp l p.mother.toNat + 1) else dp l p.father.toNat + 1) else (bif decide (0 ≤ p.mother) then Max.max 0 (dp l p.mother.toNat + 1) else 0))) ∧ (_ → _ ≤ (bif decide (0 ≤ p.father) then (bif decide (0 ≤ p.mother) then Max.max (dp l p.father.toNat + 1) (dp l p.mother.toNat + 1) else dp l p.father.toNat + 1) else (bif decide (0 ≤ p.mother) then Max.max 0 (dp l p.mother.toNat + 1) else 0)))
  cases c1 : decide (0 ≤ p.father) <;> cases c2 : decide (0 ≤ p.mother) <;> simp only [cond_true,cond_false] <;> simp only [decide_eq_true_eq,decide_eq_false_iff_not] at c1 c2 <;> omega
theorem Mk.snoc {l : List Person} (h : Mk l) {p : Person} (hl : l.length < 40) (hn : p.name = l1Called (l.length : Int)) (hs : 1 ≤ p.sex ∧ p.sex ≤ 2) (hd : p.died = -1) (hb : 0 ≤ p.born ∧ p.born ≤ 400) (hf : PaOk l p.father 1 l.length) (hm : PaOk l p.mother 2 l.length)
    (hfb : 0 ≤ p.father → (l.getD p.father.toNat default).born < p.born ∧ dp l p.father.toNat < 10) (hmb : 0 ≤ p.mother → (l.getD p.mother.toNat default).born < p.born ∧ dp l p.mother.toNat < 10) : Mk (l ++ [p]):=by
  have step : ∀ {P : Nat → Prop}, (∀ k, k < l.length → P k) → P l.length → ∀ k, k < (l ++ [p]).length → P k := fun h1 h2 k hk => by
    rcases Nat.lt_or_ge k l.length with e | e
    · exact h1 k e
    · have e2 : k = l.length:=by simp at hk;omega
      rw [e2];exact h2
  have g0 : (l ++ [p]).getD l.length default = p:=snoc_last rfl
  have par : ∀ {q s : Int} {n : Nat},n ≤ l.length → PaOk l q s n → PaOk (l ++ [p]) q s n:=fun hn hq=>hq.imp id fun hq=>⟨hq.1,hq.2.1,by rw [snoc_lt' (by omega)];exact hq.2.2⟩
  refine ⟨by simp; omega, step (fun k hk => by rw [snoc_lt' hk]; exact h.name k hk) (by rw [g0]; exact hn), step (fun k hk => by rw [snoc_lt' hk]; exact h.sex k hk) (by rw [g0]; exact hs), step (fun k hk => by rw [snoc_lt' hk]; exact h.died k hk) (by rw [g0]; exact hd),
    step (fun k hk=>by rw [snoc_lt' hk];exact par (by omega) (h.fa k hk)) (by rw [g0];exact par (Nat.le_refl _) hf),step (fun k hk=>by rw [snoc_lt' hk];exact par (by omega) (h.mo k hk)) (by rw [g0];exact par (Nat.le_refl _) hm),
    step (fun k hk h0=>?_) ?_,step (fun k hk h0=>?_) ?_,step (fun k hk=>by rw [dp_lt l p hk];exact h.dep k hk) ?_,step (fun k hk=>by rw [snoc_lt' hk];exact h.born k hk) (by rw [g0];exact hb)⟩
  · rw [snoc_lt' hk] at h0 ⊢
    rcases h.fa k hk with e | e
    · omega
    · rw [snoc_lt' (by omega)];exact h.faB k hk h0
  · rw [g0];intro h0
    rcases hf with e | e
    · omega
    · rw [snoc_lt' (by omega)];exact (hfb h0).1
  · rw [snoc_lt' hk] at h0 ⊢
    rcases h.mo k hk with e | e
    · omega
    · rw [snoc_lt' (by omega)];exact h.moB k hk h0
  · rw [g0];intro h0
    rcases hm with e | e
    · omega
    · rw [snoc_lt' (by omega)];exact (hmb h0).1
  · rw [dp_last l p rfl]
    have:=depN_bd (l:=l) (p:=p) (D:=10) (by omega) (fun k hk=>(h.dep k hk).1) (hf.imp id fun e=>⟨e.1,e.2.1,(hfb e.1).2⟩) (hm.imp id fun e=>⟨e.1,e.2.1,(hmb e.1).2⟩)
    exact ⟨this.1,this.2.1⟩
theorem par_mem {p : Person} {l : List Person} {u : List Union} {q : Int} : q ∈ l1Parents ⟨[p], u⟩ 0 ↔ (0 ≤ p.father ∧ q = p.father) ∨ (0 ≤ p.mother ∧ q = p.mother) := by
  unfold l1Parents
  have e : ([p] : List Person).getD (Int.toNat 0) default = p:=rfl
  simp only [e]
  cases c1 : decide (0 ≤ p.father) <;> cases c2 : decide (0 ≤ p.mother) <;> simp only [cond_true,cond_false] <;> simp only [decide_eq_true_eq,decide_eq_false_iff_not] at c1 c2 <;> simp [c1,c2]
/-- One more, of the general draw. -/
theorem Mk.grow {l : List Person} (h : Mk l) (hB : MkB l) (hl : l.length < 40) {s f m b0 b d0 : Int} {n0 : List UInt8} {u : List Union} (hs : 1 ≤ s ∧ s ≤ 2) (hf : PaOk l f 1 l.length) (hm : PaOk l m 2 l.length) (hfd : 0 ≤ f → dp l f.toNat < 10) (hmd : 0 ≤ m → dp l m.toNat < 10)
    (hb0 : 0 ≤ b) (hb : b ≤ 11 ∨ ∃ q ∈ l1Parents ⟨[⟨n0,s,f,m,b0,d0⟩],u⟩ 0,b ≤ (l.getD q.toNat default).born + 30) (hp : ∀ q ∈ l1Parents ⟨[⟨n0,s,f,m,b0,d0⟩],u⟩ 0,(l.getD q.toNat default).born < b) :
    Mk (l ++ [⟨l1Called (l.length : Int),s,f,m,b,-1⟩]) ∧ MkB (l ++ [⟨l1Called (l.length : Int),s,f,m,b,-1⟩]):=by
  simp only [par_mem (l:=l)] at hb hp
  have hd:=depN_bd (l:=l) (p:=⟨l1Called (l.length : Int),s,f,m,b,-1⟩) (D:=10) (by omega) (fun k hk=>(h.dep k hk).1) (hf.imp id fun e=>⟨e.1,e.2.1,hfd e.1⟩) (hm.imp id fun e=>⟨e.1,e.2.1,hmd e.1⟩)
  simp only at hd
  have hb2 : b ≤ 11 + 30 * depN (l1Depths ⟨l, []⟩) ⟨l1Called (l.length : Int), s, f, m, b, -1⟩ := by
    rcases hb with e | ⟨q,hq,e⟩
    · omega
    · rcases hq with ⟨h0,rfl⟩ | ⟨h0,rfl⟩
      · rcases hf with e2 | e2
        · omega
        · have:=hB q.toNat (by omega);have:=hd.2.2.1 h0;omega
      · rcases hm with e2 | e2
        · omega
        · have:=hB q.toNat (by omega);have:=hd.2.2.2 h0;omega
  refine ⟨h.snoc hl rfl hs rfl ⟨hb0,show b ≤ 400 by omega⟩ hf hm (fun h0=>⟨hp f (.inl ⟨h0,rfl⟩),hfd h0⟩) (fun h0=>⟨hp m (.inr ⟨h0,rfl⟩),hmd h0⟩),fun k hk=>?_⟩
  rcases Nat.lt_or_ge k l.length with e | e
  · rw [snoc_lt' e,dp_lt l _ e];exact hB k e
  · have e2 : k = l.length:=by simp at hk;omega
    rw [snoc_last e2,dp_last l _ e2];exact hb2
/-- Some of those of a family in the making have died. -/
structure Dying (l : List Person) (v : List Person) : Prop where
  len : v.length = l.length
  same : ∀ k : Nat,k < l.length → (v.getD k default).name = (l.getD k default).name ∧ (v.getD k default).sex = (l.getD k default).sex ∧ (v.getD k default).father = (l.getD k default).father ∧ (v.getD k default).mother = (l.getD k default).mother ∧ (v.getD k default).born = (l.getD k default).born
  died : ∀ k : Nat,k < l.length → (v.getD k default).died = -1 ∨ (l.getD k default).born ≤ (v.getD k default).died ∧ (v.getD k default).died ≤ 500 ∧ ∀ c : Nat,c < l.length → (l.getD c default).father = k ∨ (l.getD c default).mother = k → (l.getD c default).born ≤ (v.getD k default).died
theorem Dying.refl {l : List Person} (h : Mk l) : Dying l l:=⟨rfl,fun k hk=>⟨rfl,rfl,rfl,rfl,rfl⟩,fun k hk=>.inl (h.died k hk)⟩
theorem Dying.set {l v : List Person} (h : Dying l v) {k : Nat} (hk : k < l.length) {y : Int} (h1 : (l.getD k default).born ≤ y ∧ y ≤ 500) (h2 : ∀ c : Nat, c < l.length → (l.getD c default).father = k ∨ (l.getD c default).mother = k → (l.getD c default).born ≤ y) :
    Dying l (v.set k ⟨(v.getD k default).name,(v.getD k default).sex,(v.getD k default).father,(v.getD k default).mother,(v.getD k default).born,y⟩):=by
  refine ⟨by simp [h.len],fun i hi=>?_,fun i hi=>?_⟩
  · rw [getD_set]
    split
    · rename_i e;rw [e.1];exact h.same k hk
    · exact h.same i hi
  · rw [getD_set]
    split
    · rename_i e;rw [e.1];exact .inr ⟨h1.1,h1.2,h2⟩
    · exact h.died i hi
theorem called_ok : ((List.range 40).all fun k=>specIsName (l1Called (k : Int)) && (List.range 40).all fun j=>(j == k) || (l1Called (j : Int) != l1Called (k : Int))) = true:=by kernel_rfl
theorem called_name {k : Nat} (h : k < 40) : specIsName (l1Called (k : Int)) = true := by
  have:=List.all_eq_true.1 called_ok k (List.mem_range.2 h)
  rw [Bool.and_eq_true] at this
  exact this.1
theorem called_inj {j k : Nat} (h1 : j < 40) (h2 : k < 40) (h : j ≠ k) : l1Called (j : Int) ≠ l1Called (k : Int) := by
  have:=List.all_eq_true.1 called_ok k (List.mem_range.2 h2)
  rw [Bool.and_eq_true] at this
  have:=List.all_eq_true.1 this.2 j (List.mem_range.2 h1)
  simp only [Bool.or_eq_true,beq_iff_eq,bne_iff_ne] at this
  rcases this with e | e
  · exact absurd e h
  · exact e
theorem dep_same {l v : List Person} (u : List Union) (hl : v.length = l.length) (h : ∀ k : Nat, k < l.length → (v.getD k default).father = (l.getD k default).father ∧ (v.getD k default).mother = (l.getD k default).mother) : l1Depths ⟨v, u⟩ = l1Depths ⟨l, []⟩ := by
  rw [l1Depths_fold,l1Depths_fold]
  simp only [hl]
  have : ∀ (r : List Nat) (s : List Int), (∀ i ∈ r, i < l.length) → r.foldl (fun w i => w ++ [depN w (v.getD i default)]) s = r.foldl (fun w i => w ++ [depN w (l.getD i default)]) s := by
    intro r
    induction r with
    | nil=>intro s _;rfl
    | cons a r ih =>
      intro s hr
      simp only [List.foldl_cons]
      have e : depN s (v.getD a default) = depN s (l.getD a default):=by unfold depN;rw [(h a (hr a (by simp))).1,(h a (hr a (by simp))).2]
      rw [e,ih _ fun i hi=>hr i (by simp [hi])]
  exact this _ _ fun i hi=>by have:=List.mem_range'_1.1 hi;omega
/-- Such a family is valid. -/
theorem Dying.valid {l v : List Person} (h : Mk l) (hd : Dying l v) : specIsFamily ⟨v, []⟩ = true := by
  refine (fam_iff _).2 ⟨⟨by simp only [hd.len];exact h.len,by simp⟩,fun k hk=>?_,fun k hk=>?_,fun k hk=>absurd hk (Nat.not_lt_zero _)⟩
  · simp only [hd.len] at hk
    have hl:=h.len
    obtain ⟨e1,e2,e3,e4,e5⟩:=hd.same k hk
    have hb:=h.born k hk
    refine ⟨?_,?_,?_,?_,fun j hj=>?_,?_,?_⟩
    · simp only [e1,h.name k hk];exact called_name (by omega)
    · simp only [e2];exact h.sex k hk
    · simp only [e5];omega
    · simp only [e5];exact (hd.died k hk).imp id fun e=>⟨e.1,by omega⟩
    · simp only [e1,h.name k hk,(hd.same j (by omega)).1,h.name j (by omega)]
      exact called_inj (by omega) (by omega) (by omega)
    · simp only [e3,e5]
      refine (h.fa k hk).imp id fun e=>?_
      have hq : (l.getD k default).father.toNat < l.length:=by omega
      obtain ⟨f1,f2,f3,f4,f5⟩:=hd.same _ hq
      refine ⟨e.1,e.2.1,by rw [f2];exact e.2.2,by rw [f5];exact h.faB k hk e.1,(hd.died _ hq).imp id fun g=>?_⟩
      have:=g.2.2 k hk (.inl (by omega));omega
    · simp only [e4,e5]
      refine (h.mo k hk).imp id fun e=>?_
      have hq : (l.getD k default).mother.toNat < l.length:=by omega
      obtain ⟨f1,f2,f3,f4,f5⟩:=hd.same _ hq
      refine ⟨e.1,e.2.1,by rw [f2];exact e.2.2,by rw [f5];exact h.moB k hk e.1,(hd.died _ hq).imp id fun g=>?_⟩
      exact g.2.2 k hk (.inr (by omega))
  · simp only [hd.len] at hk
    rw [dep_same [] hd.len fun i hi=>⟨(hd.same i hi).2.2.1,(hd.same i hi).2.2.2.1⟩]
    exact (h.dep k hk).2
theorem mem4 {n : Int} (h : n ∈ ([1, 7, 20, 25] : List Int)) : 1 ≤ n ∧ n ≤ 25 := by
  simp only [List.mem_cons,List.not_mem_nil,or_false] at h;omega
theorem mem3b {n : Int} (h : n ∈ ([3, 5, 9] : List Int)) : 1 ≤ n ∧ n ≤ 9 := by
  simp only [List.mem_cons,List.not_mem_nil,or_false] at h;omega
theorem mem5b {n : Int} (h : n ∈ ([0, 1, 5, 30, 60] : List Int)) : 0 ≤ n ∧ n ≤ 60 := by
  simp only [List.mem_cons,List.not_mem_nil,or_false] at h;omega
def PaDp (l : List Person) (q s : Int) : Prop:=PaOk l q s l.length ∧ (0 ≤ q → dp l q.toNat < 10)
/-- A year of birth, behind the first i parents. -/
def Born (l : List Person) (ps : List Int) (i : Nat) (b : Int) : Prop:=0 ≤ b ∧ (b ≤ 11 ∨ ∃ q ∈ ps,b ≤ (l.getD q.toNat default).born + 30) ∧ ∀ j : Nat,j < i → (l.getD (ps.getD j default).toNat default).born < b
/-- A year behind the births of the first i children. -/
def Last (l : List Person) (cs : List Int) (k i : Nat) (t : Int) : Prop:=(l.getD k default).born ≤ t ∧ t ≤ 400 ∧ ∀ j : Nat,j < i → (l.getD (cs.getD j default).toNat default).born ≤ t
/-- Generations that marry among themselves: w wide, g of them still to come. -/
structure Gen (w g : Int) (l : List Person) : Prop where
  ok : Mk l
  gb : 0 ≤ g ∧ g ≤ 10
  big : l ≠ [] → w ≤ l.length
  full : l ≠ [] → (l.getD ((l.length : Int) - w).toNat default).sex = 1 ∧ (l.getD ((l.length : Int) - w + 1).toNat default).sex = 2
  old : ∀ k : Nat,k < l.length → (l.getD k default).born ≤ 25 * (11 - g) ∧ dp l k ≤ 9 - g
/-- The i-th of a generation comes next. -/
structure GenI (w g : Int) (l0 : List Person) (i : Nat) (l : List Person) : Prop where
  ok : Mk l
  len : l.length = l0.length + i
  same : ∀ k : Nat,k < l0.length → l.getD k default = l0.getD k default ∧ dp l k = dp l0 k
  new : ∀ k : Nat,k < i → (l.getD (l0.length + k) default).sex = 1 + (k : Int).tmod 2 ∧ (l.getD (l0.length + k) default).born = 25 * (12 - g) ∧ dp l (l0.length + k) ≤ 10 - g
theorem none_ok (l : List Person) (s : Int) : PaDp l (-1) s:=⟨.inl rfl,fun h=>absurd h (by omega)⟩
theorem some_ok {c : l01Cur} (h : CurOk c) {l : List Person} (hk : Mk l) (u : List Union) (s : Int) : CurOk ⟨c.b, (l1Some c ⟨l, u⟩ (l1Depths ⟨l, u⟩) s).2.1, (l1Some c ⟨l, u⟩ (l1Depths ⟨l, u⟩) s).2.2⟩ ∧ PaDp l (l1Some c ⟨l, u⟩ (l1Depths ⟨l, u⟩) s).1 s := by
  have h9:=l1Some_ok h (f:=⟨l,u⟩) (d:=l1Depths ⟨l,u⟩) hk.len s
  refine ⟨h9.2,h9.1.imp id fun e=>⟨e.1,e.2.1,e.2.2.1⟩,fun h0=>?_⟩
  rcases h9.1 with e | e
  · omega
  · rw [← dp_of l u];exact e.2.2.2
theorem Mk.par {l : List Person} (h : Mk l) (u : List Union) : ∀ k : Nat, k < (Family.mk l u).people.length → ((Family.mk l u).people.getD k default).father < k ∧ ((Family.mk l u).people.getD k default).mother < k := fun k hk => by
  have h1:=h.fa k hk;have h2:=h.mo k hk
  unfold PaOk at h1 h2
  dsimp only
  omega
theorem born0 {l : List Person} {ps : List Int} {b : Int} (h : 0 ≤ b ∧ b ≤ 11) : Born l ps 0 b:=⟨h.1,.inl h.2,fun j hj=>absurd hj (Nat.not_lt_zero _)⟩
theorem getD_lt_mem {ps : List Int} {j : Nat} (h : j < ps.length) : ps.getD j default ∈ ps:=getD_mem h
theorem par_rng {l : List Person} {f m s b d : Int} {n : List UInt8} {u : List Union} {j : Nat} (hf : PaDp l f 1) (hm : PaDp l m 2) (hj : j < (l1Parents ⟨[⟨n, s, f, m, b, d⟩], u⟩ 0).length) :
    0 ≤ (l1Parents ⟨[⟨n,s,f,m,b,d⟩],u⟩ 0).getD j default ∧ (l1Parents ⟨[⟨n,s,f,m,b,d⟩],u⟩ 0).getD j default < l.length:=by
  have h:=(par_mem (l:=l)).1 (getD_lt_mem hj)
  have h1:=hf.1;have h2:=hm.1
  unfold PaOk at h1 h2
  rcases h with ⟨h0,e⟩ | ⟨h0,e⟩ <;> rw [e] <;> simp only at h0 ⊢ <;> omega
theorem par_born {l : List Person} (hk : Mk l) {f m s b d : Int} {n : List UInt8} {u : List Union} {j : Nat} (hf : PaDp l f 1) (hm : PaDp l m 2) (hj : j < (l1Parents ⟨[⟨n, s, f, m, b, d⟩], u⟩ 0).length) :
    0 ≤ (l.getD ((l1Parents ⟨[⟨n,s,f,m,b,d⟩],u⟩ 0).getD j default).toNat default).born ∧ (l.getD ((l1Parents ⟨[⟨n,s,f,m,b,d⟩],u⟩ 0).getD j default).toNat default).born ≤ 400:=by
  have h:=par_rng hf hm hj
  exact hk.born _ (by omega)
theorem born_step {l : List Person} {ps : List Int} {i : Nat} {b st x : Int} (h : Born l ps i b) (hi : i < ps.length) (hs : 1 ≤ st ∧ st ≤ 25) (hx : 0 ≤ x ∧ x < 6) : Born l ps (i + 1) (Max.max b ((l.getD (ps.getD i default).toNat default).born + st + x)) := by
  refine ⟨by have:=h.1;omega,?_,fun j hj=>?_⟩
  · rcases h.2.1 with e | ⟨q,hq,e⟩
    · by_cases c : b ≤ (l.getD (ps.getD i default).toNat default).born + st + x
      · exact .inr ⟨_,getD_lt_mem hi,by omega⟩
      · exact .inl (by omega)
    · by_cases c : b ≤ (l.getD (ps.getD i default).toNat default).born + st + x
      · exact .inr ⟨_,getD_lt_mem hi,by omega⟩
      · exact .inr ⟨q,hq,by omega⟩
  · rcases Nat.lt_or_ge j i with e | e
    · have:=h.2.2 j e;omega
    · have e2 : j = i:=by omega
      rw [e2];omega
theorem born_all {l : List Person} {ps : List Int} {b : Int} (h : Born l ps ps.length b) : ∀ q ∈ ps, (l.getD q.toNat default).born < b := fun q hq => by
  obtain ⟨i,hi,e⟩:=List.getElem_of_mem hq
  have:=h.2.2 i hi
  rw [show ps.getD i default = q by rw [List.getD_eq_getElem?_getD,List.getElem?_eq_getElem hi,Option.getD_some,e]] at this
  exact this
theorem last0 {l v : List Person} {cs : List Int} {k : Nat} (hk : Mk l) (hd : Dying l v) (h : k < l.length) : Last v cs k 0 (v.getD k default).born:=⟨Int.le_refl _,by rw [(hd.same k h).2.2.2.2];exact (hk.born k h).2,fun j hj=>absurd hj (Nat.not_lt_zero _)⟩
theorem dy_born {l v : List Person} (hk : Mk l) (hd : Dying l v) {k : Nat} (h : k < v.length) : 0 ≤ (v.getD k default).born ∧ (v.getD k default).born ≤ 400 := by
  have h' : k < l.length:=by rw [← hd.len];exact h
  rw [(hd.same k h').2.2.2.2];exact hk.born k h'
theorem last_step {v : List Person} {cs : List Int} {k i : Nat} {t : Int} (h : Last v cs k i t) (hb : (v.getD (cs.getD i default).toNat default).born ≤ 400) : Last v cs k (i + 1) (Max.max t (v.getD (cs.getD i default).toNat default).born) := by
  refine ⟨by have:=h.1;omega,by have:=h.2.1;omega,fun j hj=>?_⟩
  rcases Nat.lt_or_ge j i with e | e
  · have:=h.2.2 j e;omega
  · have e2 : j = i:=by omega
    rw [e2];omega
theorem last_bd {l v : List Person} {cs : List Int} {k i : Nat} {t : Int} (hk : Mk l) (hd : Dying l v) (h : k < l.length) (hl : Last v cs k i t) : 0 ≤ t ∧ t ≤ 400 := by
  have:=hl.1;have:=hl.2.1;have:=dy_born hk hd (k:=k) (by rw [hd.len];exact h);omega
theorem Dying.names {l v : List Person} (hk : Mk l) (hd : Dying l v) : ∀ p ∈ v, p.name.length ≤ 1048576 := fun p hp => by
  obtain ⟨i,hi,e⟩:=List.getElem_of_mem hp
  have h' : i < l.length:=by rw [← hd.len];exact hi
  have h1:=(hd.same i h').1
  rw [hk.name i h',List.getD_eq_getElem?_getD,List.getElem?_eq_getElem hi,Option.getD_some,e] at h1
  rw [h1];simp [l1Called]
theorem Gen.nil {w g : Int} (h : 0 ≤ g ∧ g ≤ 10) : Gen w g []:=⟨Mk.nil,h,fun h=>absurd rfl h,fun h=>absurd rfl h,fun k hk=>absurd hk (Nat.not_lt_zero _)⟩
theorem Gen.start {w g : Int} {l : List Person} (h : Gen w g l) : GenI w g l 0 l:=⟨h.ok,rfl,fun k hk=>⟨rfl,rfl⟩,fun k hk=>absurd hk (Nat.not_lt_zero _)⟩
theorem GenI.step {w g : Int} {l0 l : List Person} {i : Nat} (hg : Gen w g l0) (h : GenI w g l0 i l) (hg0 : 0 < g) (hw : 2 ≤ w ∧ w ≤ 3) (hn : (l0.length : Int) + w ≤ 40) (hi : i < w.toNat) {f m : Int} (hf : f = -1 ∨ 0 < l0.length ∧ f = (l0.length : Int) - w) (hm : m = -1 ∨ 0 < l0.length ∧ m = (l0.length : Int) - w + 1) :
    GenI w g l0 (i + 1) (l ++ [⟨l1Called ((l0.length : Int) + (i : Int)),1 + (i : Int).tmod 2,f,m,25 * (12 - g),-1⟩]):=by
  have hl:=h.len
  have hgb:=hg.gb
  have he : ((l0.length : Int) + (i : Int)) = (l.length : Int):=by omega
  have ht : (i : Int).tmod 2 = (i : Int) % 2:=Int.tmod_eq_emod_of_nonneg (by omega)
  have hne : 0 < l0.length → l0 ≠ []:=fun h e=>by rw [e] at h;exact absurd h (by simp)
  have pf : PaOk l f 1 l.length ∧ (0 ≤ f → (l.getD f.toNat default).born < 25 * (12 - g) ∧ dp l f.toNat ≤ 9 - g) := by
    rcases hf with e | ⟨e0,e⟩
    · exact ⟨.inl e,fun h=>absurd h (by omega)⟩
    · have hb:=hg.big (hne e0)
      have hs:=h.same f.toNat (by omega)
      have ho:=hg.old f.toNat (by omega)
      refine ⟨.inr ⟨by omega,by omega,?_⟩,fun _=>⟨?_,?_⟩⟩
      · rw [hs.1,e];exact (hg.full (hne e0)).1
      · rw [hs.1];omega
      · rw [hs.2];exact ho.2
  have pm : PaOk l m 2 l.length ∧ (0 ≤ m → (l.getD m.toNat default).born < 25 * (12 - g) ∧ dp l m.toNat ≤ 9 - g) := by
    rcases hm with e | ⟨e0,e⟩
    · exact ⟨.inl e,fun h=>absurd h (by omega)⟩
    · have hb:=hg.big (hne e0)
      have hs:=h.same m.toNat (by omega)
      have ho:=hg.old m.toNat (by omega)
      refine ⟨.inr ⟨by omega,by omega,?_⟩,fun _=>⟨?_,?_⟩⟩
      · rw [hs.1,e];exact (hg.full (hne e0)).2
      · rw [hs.1];omega
      · rw [hs.2];exact ho.2
  have hmk : Mk (l ++ [⟨l1Called ((l0.length : Int) + (i : Int)), 1 + (i : Int).tmod 2, f, m, 25 * (12 - g), -1⟩]) :=
    h.ok.snoc (by omega) (by rw [he]) (by simp only [ht];omega) rfl (by simp only;omega) pf.1 pm.1 (fun h0=>⟨(pf.2 h0).1,by have:=(pf.2 h0).2;simp only at this ⊢;omega⟩) (fun h0=>⟨(pm.2 h0).1,by have:=(pm.2 h0).2;simp only at this ⊢;omega⟩)
  refine ⟨hmk,by simp [hl];omega,fun k hk=>⟨by rw [snoc_lt' (by omega)];exact (h.same k hk).1,by rw [dp_lt _ _ (by omega)];exact (h.same k hk).2⟩,fun k hk=>?_⟩
  rcases Nat.lt_or_ge k i with e | e
  · rw [snoc_lt' (by omega),dp_lt _ _ (by omega)];exact h.new k e
  · have e2 : k = i:=by omega
    subst e2
    rw [snoc_last (by omega),dp_last _ _ (by omega)]
    have:=depN_bd (l:=l) (p:=⟨l1Called ((l0.length : Int) + (k : Int)),1 + (k : Int).tmod 2,f,m,25 * (12 - g),-1⟩) (D:=10 - g) (by omega) (fun k hk=>(h.ok.dep k hk).1) (pf.1.imp id fun e=>⟨e.1,e.2.1,by have:=(pf.2 e.1).2;simp only at this ⊢;omega⟩) (pm.1.imp id fun e=>⟨e.1,e.2.1,by have:=(pm.2 e.1).2;simp only at this ⊢;omega⟩)
    exact ⟨rfl,rfl,this.2.1⟩
theorem GenI.done {w g : Int} {l0 l : List Person} (hg : Gen w g l0) (h : GenI w g l0 w.toNat l) (hg0 : 0 < g) (hw : 2 ≤ w ∧ w ≤ 3) : Gen w (g - 1) l := by
  have hl:=h.len
  have hgb:=hg.gb
  have n0:=h.new 0 (by omega);have n1:=h.new 1 (by omega)
  refine ⟨h.ok,by omega,fun _=>by omega,fun _=>⟨?_,?_⟩,fun k hk=>?_⟩
  · rw [show ((l.length : Int) - w).toNat = l0.length + 0 by omega];exact n0.1
  · rw [show ((l.length : Int) - w + 1).toNat = l0.length + 1 by omega];exact n1.1
  · rcases Nat.lt_or_ge k l0.length with e | e
    · have hs:=h.same k e;have ho:=hg.old k e
      rw [hs.1,hs.2];omega
    · have hn:=h.new (k - l0.length) (by omega)
      rw [show l0.length + (k - l0.length) = k by omega] at hn
      omega
end Go.Proofs.Ytaageiiodlfeiaa
