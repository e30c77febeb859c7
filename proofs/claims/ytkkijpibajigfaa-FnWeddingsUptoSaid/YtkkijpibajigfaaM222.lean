import Derived.Test.YtkkijpibajigfaaM218
set_option maxHeartbeats 4000000
set_option linter.unusedSimpArgs false
set_option linter.unusedVariables false
namespace Go.Proofs.Ytkkijpibajigfaa
open Go Go.Lite Go.Proofs
/-! ### The same partners by both ways -/
theorem wed_r_eq : ∀ (m : Nat) (may : List (List Int)) (hus : List Int) (a : Int) (tr : List Bool), wed_r m may hus a tr = wedG (fun a => may.getD a.toNat default) m hus a tr
  | 0,_,_,_,_=>rfl
  | m + 1, may, hus, a, tr => by
    unfold wed_r wedG
    refine loopN_goL (F:=wedF (wedG (fun a=>may.getD a.toNat default) m) a) fun i v next=>?_
    have ih:=wed_r_eq m may
    simp only [wedF,ih]
    cases v.2.getD ((may.getD a.toNat default).getD i default).toNat default with
    | true=>rfl
    | false =>
      cases decide (v.1.getD ((may.getD a.toNat default).getD i default).toNat default < 0) with
      | true=>rfl
      | false=>simp only [cond_false,Bool.not_false,cond_true,Bool.false_or]
/-- A table's rows as lists. -/
def adjM (x : List (List Bool)) (a : Int) : List Int:=((List.range x.length).filter fun b=>(x.getD a.toNat default).getD b default).map fun b=>((b : Nat) : Int)
/-- Who may go with whom. -/
def adjC (c : Nat → Nat → Bool) (n : Nat) (a : Int) : List Int:=if a.toNat < n then rowTo c a.toNat n else []
theorem adjC_bd (c : Nat → Nat → Bool) (n : Nat) : ∀ a, ∀ b ∈ adjC c n a, 0 ≤ b ∧ b < n := fun a b hb => by
  unfold adjC at hb
  split at hb
  · exact rowTo_mem hb
  · exact absurd hb (by simp)
theorem adjC_mem {c : Nat → Nat → Bool} {n a b : Nat} : ((b : Nat) : Int) ∈ adjC c n ((a : Nat) : Int) ↔ a < n ∧ b < n ∧ c a b = true := by
  unfold adjC rowTo
  rw [Int.toNat_natCast]
  split
  · rename_i h
    simp only [List.mem_map,List.mem_filter,List.mem_range]
    constructor
    · rintro ⟨x,⟨h1,h2⟩,h3⟩
      have : x = b:=by omega
      subst this
      exact ⟨h,h1,h2⟩
    · rintro ⟨_,h1,h2⟩;exact ⟨b,⟨h1,h2⟩,rfl⟩
  · rename_i h
    simp [h]
theorem MayI.adj {c : Nat → Nat → Bool} {n : Nat} {v : List (List Int)} (h : MayI c n n 0 v) : (fun a : Int => v.getD a.toNat default) = adjC c n := by
  funext a
  unfold adjC
  split
  · rename_i ha;exact h.all ha
  · rename_i ha
    rw [List.getD_eq_getElem?_getD,List.getElem?_eq_none (by have:=h.len;omega)];rfl
theorem MatI.adj {c : Nat → Nat → Bool} {n : Nat} {v : List (List Bool)} (h : MatI c n n 0 v) : adjM v = adjC c n := by
  funext a
  unfold adjC adjM
  rw [h.len]
  split
  · rename_i ha
    unfold rowTo
    congr 1
    refine List.filter_congr fun b hb=>?_
    have hb:=List.mem_range.1 hb
    have:=h.cell a.toNat b ha hb
    rw [if_pos (.inl ha)] at this
    exact this
  · rename_i ha
    rw [List.getD_eq_getElem?_getD,List.getElem?_eq_none (by have:=h.len;omega)]
    have : (List.range n).filter (fun b => ((none : Option (List Bool)).getD default).getD b default) = [] := by
      rw [List.filter_eq_nil_iff]
      intro b _
      exact Bool.false_ne_true
    rw [this];rfl
/-- The number that is found. -/
def mostN (adj : Int → List Int) (n : Nat) : Int:=loopN (fun i (v : List Int × Int) next=>next ((wedG adj 100 v.1 ((i : Nat) : Int) (List.replicate n (default : Bool))).2.1,v.2 + bif (wedG adj 100 v.1 ((i : Nat) : Int) (List.replicate n (default : Bool))).1 then 1 else 0)) (fun v=>v.2) n 0 (List.replicate n (-1),0)
theorem mostN_MI {adj : Int → List Int} {n : Nat} (hA : ∀ a, ∀ b ∈ adj a, 0 ≤ b ∧ b < n) (hn : n ≤ 40) : ∃ h, MI adj n n h (mostN adj n) :=
  loopN_to (fun i (v : List Int × Int)=>MI adj n i v.1 v.2) (fun r=>∃ h,MI adj n n h r) (MI.start adj n) (fun i v next hi hv hk=>hk _ (hv.step hA hi (by omega))) (fun v hv=>⟨v.1,hv⟩)
theorem most_count {adj : Int → List Int} {n : Nat} {F : List Int → Int → Bool × List Int} (hF : ∀ h i, F h i = ((wedG adj 100 h i (List.replicate n (default : Bool))).1, (wedG adj 100 h i (List.replicate n (default : Bool))).2.1)) :
    loopN (fun i4 (v4 : (List Int) × Int) next=>bif (F v4.1 ((i4 : Nat) : Int)).1 then next ((F v4.1 ((i4 : Nat) : Int)).2,v4.2 + 1) else next ((F v4.1 ((i4 : Nat) : Int)).2,v4.2)) (fun (v4 : (List Int) × Int)=>v4.2) n 0 (List.replicate n (-1),0) = mostN adj n:=by
  unfold mostN
  refine loopN_rel0 (fun _ (s t : List Int × Int)=>s = t) (fun x y=>x = y) rfl (fun i s t n1 n2 hi e hn=>?_) (fun s t e=>by rw [e])
  subst e
  rw [hF]
  cases (wedG adj 100 s.1 ((i : Nat) : Int) (List.replicate n (default : Bool))).1 with
  | true=>exact hn _ _ rfl
  | false=>exact hn _ _ (by rw [cond_false,Int.add_zero])
theorem implMost_val {x : Family} {l : Law} (hf : specIsFamily x = true) (hl : specIsLaw l = true) (y : Int) : implMost x l y = mostN (adjC (canI x l y) x.people.length) x.people.length := by
  unfold implMost
  rw [isFamily_eq,isLaw_eq,hf,hl]
  simp only [Bool.not_true,Bool.or_false,cond_false]
  refine loopN_to (fun i (v : List (List Int))=>MayI (canI x l y) x.people.length i 0 v) (fun (r : Int)=>r = mostN (adjC (canI x l y) x.people.length) x.people.length) (MayI.start _ _) (fun i v next hi hv hn=>?_) (fun v hv=>?_)
  · exact loopN_to (fun j (v : List (List Int))=>MayI (canI x l y) x.people.length i j v) (fun (r : Int)=>r = mostN (adjC (canI x l y) x.people.length) x.people.length) hv (fun j w next2 hj hw hn2=>cond_both (p:=fun (r : Int)=>r = mostN (adjC (canI x l y) x.people.length) x.people.length) (fun c=>hn2 _ (hw.put hi c)) (fun c=>hn2 _ (hw.skip c))) (fun w hw=>hn w hw.next)
  · refine loopN_to (fun i (h : List Int)=>h.length = x.people.length ∧ ∀ k : Nat,k < i → h.getD k default = -1) (fun (r : Int)=>r = mostN (adjC (canI x l y) x.people.length) x.people.length) ⟨by simp,fun k hk=>absurd hk (Nat.not_lt_zero _)⟩ (fun i w next hi hw hn=>hn _ (minus_set hw hi)) (fun h hh=>?_)
    rw [minus_rep hh]
    exact most_count (F:=fun h i=>((wed v h i (List.replicate x.people.length (default : Bool))).1,(wed v h i (List.replicate x.people.length (default : Bool))).2.1)) fun h i=>by unfold wed;rw [wed_r_eq,hv.adj]
/-! ### Weddings found one by one -/
theorem part_iff {x : Family} {l : Law} (hf : specIsFamily x = true) (hl : specIsLaw l = true) {p : Nat} (hp : p < x.people.length) (hs : (x.people.getD p default).sex = 1) (y c : Int) : c ∈ implPartners x l ((p : Nat) : Int) y ↔ ∃ q : Nat, c = ((q : Nat) : Int) ∧ q < x.people.length ∧ canI x l y p q = true := by
  rw [partners_eq]
  unfold specPartners
  rw [hl,(l1Has_iff x ((p : Nat) : Int)).2 ⟨⟨by omega,by omega⟩,hf⟩]
  simp only [Bool.not_true,Bool.or_false,cond_false]
  refine loopN_to (fun i (v : List Int)=>c ∈ v ↔ ∃ q : Nat,c = ((q : Nat) : Int) ∧ q < i ∧ canI x l y p q = true) (fun (r : List Int)=>c ∈ r ↔ ∃ q : Nat,c = ((q : Nat) : Int) ∧ q < x.people.length ∧ canI x l y p q = true) ?_ (fun i v next hi hv hn=>?_) (fun v hv=>hv)
  · constructor
    · intro h;exact absurd h (by simp)
    · rintro ⟨q,_,h,_⟩;exact absurd h (Nat.not_lt_zero _)
  have e : ((decide ((x.people.getD ((p : Nat) : Int).toNat default).sex = 1) && specMay x l ((p : Nat) : Int) ((i : Nat) : Int) y) || (decide ((x.people.getD ((p : Nat) : Int).toNat default).sex = 2) && specMay x l ((i : Nat) : Int) ((p : Nat) : Int) y)) = canI x l y p i := by
    rw [Int.toNat_natCast,hs,may_of hl hf ⟨by omega,by omega⟩ ⟨by omega,by omega⟩]
    unfold canI
    rw [hs]
    simp only [decide_true,Bool.true_and,show decide ((1 : Int) = 2) = false from rfl,Bool.false_and,Bool.or_false]
    rw [Bool.eq_iff_iff]
    simp only [Bool.and_eq_true,decide_eq_true_eq]
    refine ⟨fun h=>⟨?_,h⟩,fun h=>h.2⟩
    have h0 : impediments x l ((p : Nat) : Int) ((i : Nat) : Int) y = []:=List.length_eq_zero_iff.1 (by omega)
    rw [imp_core hf (p:=((p : Nat) : Int)) (q:=((i : Nat) : Int)) ⟨by omega,by omega⟩ ⟨by omega,by omega⟩] at h0
    have h1:=listed_nil h0 (k:=1) (by rw [l9Bars_len];decide)
    rw [(bars_get x l ((p : Nat) : Int) ((i : Nat) : Int) y).1] at h1
    simp only [Int.toNat_natCast,Bool.or_eq_false_iff,Bool.not_eq_false',decide_eq_true_eq] at h1
    exact h1.2
  revert hn
  have step : ∀ (z : Bool), z = canI x l y p i → (∀ s', (c ∈ s' ↔ ∃ q : Nat, c = ((q : Nat) : Int) ∧ q < i + 1 ∧ canI x l y p q = true) → (c ∈ next s' ↔ ∃ q : Nat, c = ((q : Nat) : Int) ∧ q < x.people.length ∧ canI x l y p q = true)) → (c ∈ (bif z then next (v ++ [((i : Nat) : Int)]) else next v) ↔ ∃ q : Nat, c = ((q : Nat) : Int) ∧ q < x.people.length ∧ canI x l y p q = true) := by
    intro z hz hn
    cases z with
    | true =>
      refine hn _ ?_
      rw [List.mem_append,List.mem_singleton,hv]
      constructor
      · rintro (⟨q,h1,h2,h3⟩ | h)
        · exact ⟨q,h1,by omega,h3⟩
        · exact ⟨i,h,by omega,hz.symm⟩
      · rintro ⟨q,h1,h2,h3⟩
        by_cases c : q = i
        · right;rw [h1,c]
        · exact .inl ⟨q,h1,by omega,h3⟩
    | false =>
      refine hn _ ?_
      rw [hv]
      constructor
      · rintro ⟨q,h1,h2,h3⟩;exact ⟨q,h1,by omega,h3⟩
      · rintro ⟨q,h1,h2,h3⟩
        by_cases c : q = i
        · rw [c,← hz] at h3;cases h3
        · exact ⟨q,h1,by omega,h3⟩
  exact step _ e
/-- The weddings so far. -/
structure GrI (c : Nat → Nat → Bool) (N i : Nat) (t : List Int) (n : Int) : Prop where
  ex : ∃ P : List (Nat × Nat), ((P.length : Nat) : Int) = n ∧ (P.map fun p => ((p.2 : Nat) : Int)) = t ∧ (P.map Prod.fst).Nodup ∧ (P.map Prod.snd).Nodup ∧ (∀ p ∈ P, p.1 < i ∧ p.2 < N ∧ c p.1 p.2 = true) ∧
    ∀ a b : Nat,a < i → b < N → c a b = true → a ∈ P.map Prod.fst ∨ b ∈ P.map Prod.snd
theorem GrI.start (c : Nat → Nat → Bool) (N : Nat) : GrI c N 0 [] 0:=⟨⟨[],rfl,rfl,List.nodup_nil,List.nodup_nil,fun p hp=>absurd hp (by simp),fun a b ha=>absurd ha (Nat.not_lt_zero _)⟩⟩
theorem GrI.skip {c : Nat → Nat → Bool} {N i : Nat} {t : List Int} {n : Int} (h : GrI c N i t n) (hs : ∀ b : Nat, b < N → c i b = true → ((b : Nat) : Int) ∈ t) : GrI c N (i + 1) t n := by
  obtain ⟨P,h1,h2,h3,h4,h5,h6⟩:=h.ex
  refine ⟨P,h1,h2,h3,h4,fun p hp=>⟨by have:=(h5 p hp).1;omega,(h5 p hp).2⟩,fun a b ha hb hc=>?_⟩
  by_cases e : a = i
  · subst e
    have:=hs b hb hc
    rw [← h2] at this
    obtain ⟨p,hp,e⟩:=List.mem_map.1 this
    exact .inr (List.mem_map.2 ⟨p,hp,by omega⟩)
  · exact h6 a b (by omega) hb hc
theorem GrI.wed {c : Nat → Nat → Bool} {N i b : Nat} {t : List Int} {n : Int} (h : GrI c N i t n) (hb : b < N) (hc : c i b = true) (ht : ((b : Nat) : Int) ∉ t) : GrI c N (i + 1) (t ++ [((b : Nat) : Int)]) (n + 1) := by
  obtain ⟨P,h1,h2,h3,h4,h5,h6⟩:=h.ex
  refine ⟨P ++ [(i,b)],by simp;omega,by rw [List.map_append,h2];rfl,?_,?_,fun p hp=>?_,fun x y hx hy hc=>?_⟩
  · rw [List.map_append,List.nodup_append]
    refine ⟨h3,by simp,fun x hx y hy=>?_⟩
    obtain ⟨p,hp,rfl⟩:=List.mem_map.1 hx
    have:=(h5 p hp).1
    simp only [List.map_cons,List.map_nil,List.mem_singleton] at hy
    omega
  · rw [List.map_append,List.nodup_append]
    refine ⟨h4,by simp,fun x hx y hy e=>?_⟩
    simp only [List.map_cons,List.map_nil,List.mem_singleton] at hy
    obtain ⟨p,hp,hpe⟩:=List.mem_map.1 hx
    exact ht (by rw [← h2];exact List.mem_map.2 ⟨p,hp,by omega⟩)
  · rcases List.mem_append.1 hp with q | q
    · exact ⟨by have:=(h5 p q).1;omega,(h5 p q).2⟩
    · rw [List.mem_singleton] at q;subst q;exact ⟨by dsimp only;omega,hb,hc⟩
  · rw [List.map_append,List.map_append]
    by_cases e : x = i
    · subst e;exact .inl (List.mem_append_right _ (by simp))
    · rcases h6 x y (by omega) hy hc with q | q
      · exact .inl (List.mem_append_left _ q)
      · exact .inr (List.mem_append_left _ q)
theorem filter_two {α : Type} (p : α → Bool) : ∀ l : List α, l.length = (l.filter p).length + (l.filter fun x => !p x).length
  | []=>rfl
  | x :: l => by
    have:=filter_two p l
    rw [List.filter_cons,List.filter_cons]
    cases p x <;> simp <;> omega
theorem GrI.two {c : Nat → Nat → Bool} {N : Nat} {t : List Int} {n r : Int} {h : List Int} (g : GrI c N N t n) (M : MI (adjC c N) N N h r) : n ≤ r ∧ r ≤ 2 * n := by
  obtain ⟨P,h1,h2,h3,h4,h5,h6⟩:=g.ex
  refine ⟨by rw [← h1];exact M.most h3 h4 fun p hp=>⟨(h5 p hp).1,(h5 p hp).2.1,adjC_mem.2 ⟨(h5 p hp).1,(h5 p hp).2.1,(h5 p hp).2.2⟩⟩,?_⟩
  obtain ⟨p1,p2,p3,p4⟩:=M.gotPairs
  have k1 := nodup_sub_len (l := ((gotP h N).filter fun p => decide (p.1 ∈ P.map Prod.fst)).map Prod.fst) (m := P.map Prod.fst) (List.Nodup.sublist (List.Sublist.map _ List.filter_sublist) p1) fun x hx => by
    obtain ⟨q,hq,e⟩:=List.mem_map.1 hx
    rw [← e];exact of_decide_eq_true (List.mem_filter.1 hq).2
  have k2 := nodup_sub_len (l := ((gotP h N).filter fun p => !decide (p.1 ∈ P.map Prod.fst)).map Prod.snd) (m := P.map Prod.snd) (List.Nodup.sublist (List.Sublist.map _ List.filter_sublist) p2) fun x hx => by
    obtain ⟨q,hq,e⟩:=List.mem_map.1 hx
    obtain ⟨hq1,hq2⟩:=List.mem_filter.1 hq
    have q3:=p3 q hq1
    simp only [Bool.not_eq_true',decide_eq_false_iff_not] at hq2
    rcases h6 q.1 q.2 q3.1 q3.2.1 (adjC_mem.1 q3.2.2).2.2 with z | z
    · exact absurd z hq2
    · rw [← e];exact z
  have k3:=filter_two (fun p : Nat × Nat=>decide (p.1 ∈ P.map Prod.fst)) (gotP h N)
  rw [List.length_map,List.length_map] at k1 k2
  omega
theorem weddings_ok {x : Family} {l : Law} (hf : specIsFamily x = true) (hl : specIsLaw l = true) {y : Int} {t : List Int} {n : Int} (g : GrI (canI x l y) x.people.length x.people.length t n) : ((decide (n ≤ (implMost x l y))) && (decide ((implMost x l y) ≤ (2 * n)))) = true := by
  rw [implMost_val hf hl]
  obtain ⟨h,M⟩:=mostN_MI (adjC_bd (canI x l y) x.people.length) (fam_n hf).1
  have:=g.two M
  rw [decide_eq_true this.1,decide_eq_true this.2];rfl
end Go.Proofs.Ytkkijpibajigfaa
