import Derived.Test.YtaageiiodlfeiaaV6
set_option maxHeartbeats 4000000
set_option linter.unusedSimpArgs false
set_option linter.unusedVariables false
namespace Go.Proofs.Ytaageiiodlfeiaa
open Go Go.Lite Go.Proofs
theorem isName_eq (s : List UInt8) : implIsName s = specIsName s := by
  rw [Bool.eq_iff_iff]
  simp only [implIsName,specIsName,cond_f_iff,or_f_iff,loopN_all,l1In,Bool.and_eq_true,decide_eq_true_eq,decide_eq_false_iff_not,and_true]
  constructor
  · rintro ⟨⟨h1,h2⟩,h3⟩;exact ⟨h3,by omega,by omega⟩
  · rintro ⟨h3,h1,h2⟩;exact ⟨⟨by omega,by omega⟩,h3⟩
/-- The two ways to reckon depths agree where parents stand ahead. -/
theorem depths_eq (x : Family) (hp : ∀ (k : Nat), k < x.people.length → (x.people.getD k default).father < k ∧ (x.people.getD k default).mother < k) : depths x.people = l1Depths x := by
  unfold depths l1Depths
  refine loopN_rel0 (fun i (v u : List Int)=>u.length = i ∧ v.length = x.people.length ∧ (∀ k,k < i → v.getD k default = u.getD k default ∧ 0 ≤ u.getD k default) ∧ ∀ k,i ≤ k → v.getD k default = 0) Eq ⟨rfl,by simp,fun k hk=>absurd hk (Nat.not_lt_zero _),fun k _=>?_⟩ ?_ ?_
  · rw [getD_rep];split <;> rfl
  · rintro i v u n1 n2 hi ⟨h1,h2,h3,h4⟩ hn
    obtain ⟨p1,p2⟩:=hp i hi
    have h5:=h4 i (Nat.le_refl _)
    have key : ∀ d : Int, 0 ≤ d → n1 (v.set i d) = n2 (u ++ [d]) := fun d hd => by
      refine hn _ _ ⟨by simp [h1],by simp [h2],fun k hk=>?_,fun k hk=>?_⟩
      · rw [getD_set,getD_snoc,h1]
        by_cases e : k = i
        · subst e;simp [h2,hi,hd]
        · rw [if_neg (by omega),if_pos (by omega)];exact h3 k (by omega)
      · rw [getD_set,if_neg (by omega)];exact h4 k (by omega)
    have hv : v.set i 0 = v := by
      apply List.ext_getElem (by simp)
      intro k hk1 hk2
      rw [List.getElem_set]
      split
      · rename_i e;subst e;rw [List.getD_eq_getElem?_getD,List.getElem?_eq_getElem hk2] at h5;simpa using h5.symm
      · rfl
    simp only [loopN]
    have q0 : ∀ d : Int,[(x.people.getD i default).father,(x.people.getD i default).mother].getD 0 d = (x.people.getD i default).father:=fun _=>rfl
    have q1 : ∀ d : Int,[(x.people.getD i default).father,(x.people.getD i default).mother].getD (0 + 1) d = (x.people.getD i default).mother:=fun _=>rfl
    simp only [q0,q1]
    generalize (x.people.getD i default).father = a at p1 ⊢
    generalize (x.people.getD i default).mother = b at p2 ⊢
    have ge : ∀ (d : Int) (j : Int), 0 ≤ j → j < i → (v.set i d).getD j.toNat default = u.getD j.toNat default ∧ 0 ≤ u.getD j.toNat default := fun d j j0 j1 => by
      rw [getD_set,if_neg (by omega)];exact h3 _ (by omega)
    have gi : ∀ d : Int,(v.set i d).getD i default = d:=fun d=>by rw [getD_set,if_pos ⟨rfl,by omega⟩]
    by_cases c1 : 0 ≤ a <;> by_cases c2 : 0 ≤ b
    · obtain ⟨g1,g2⟩:=h3 a.toNat (by omega)
      obtain ⟨g3,g4⟩:=ge (max 0 (u.getD a.toNat default + 1)) b c2 p2
      simp only [c1,c2,decide_true,cond_true,h5,g1,g3,gi,List.set_set]
      have:=key (max (u.getD a.toNat default + 1) (u.getD b.toNat default + 1)) (by omega)
      rw [show max (max 0 (u.getD a.toNat default + 1)) (u.getD b.toNat default + 1) = max (u.getD a.toNat default + 1) (u.getD b.toNat default + 1) by omega]
      exact this
    · obtain ⟨g1,g2⟩:=h3 a.toNat (by omega)
      simp only [c1,c2,decide_true,decide_false,cond_true,cond_false,h5,g1]
      rw [show max 0 (u.getD a.toNat default + 1) = u.getD a.toNat default + 1 by omega]
      exact key _ (by omega)
    · obtain ⟨g1,g2⟩:=h3 b.toNat (by omega)
      simp only [c1,c2,decide_true,decide_false,cond_true,cond_false,h5,g1]
      exact key _ (by omega)
    · simp only [c1,c2,decide_false,cond_false]
      have:=key 0 (by omega)
      rw [hv] at this
      exact this
  · rintro v u ⟨h1,h2,h3,h4⟩
    apply List.ext_getElem (by omega)
    intro k hk1 hk2
    have:=(h3 k (by omega)).1
    rw [List.getD_eq_getElem?_getD,List.getD_eq_getElem?_getD,List.getElem?_eq_getElem hk1,List.getElem?_eq_getElem hk2] at this
    simpa using this
theorem forall_lt_two {p : Nat → Prop} : (∀ j, j < 2 → p j) ↔ p 0 ∧ p 1 :=
  ⟨fun h => ⟨h 0 (by omega), h 1 (by omega)⟩, fun h j hj => by
    match j,hj with
    | 0,_=>exact h.1
    | 1,_=>exact h.2⟩
theorem unionFits_eq (x : Family) (k : Nat) (hv : ∀ j : Nat, (x.people.getD j default).died = -1 ∨ 0 ≤ (x.people.getD j default).died) : unionFits x k = l1Union x k := by
  rw [Bool.eq_iff_iff]
  simp only [unionFits,l1Union,cond_f_iff,or_f_iff,loopN_all,l1In,Bool.and_eq_true,Bool.or_eq_true,not_f_iff,not_t_iff,and_f_iff,decide_eq_true_eq,decide_eq_false_iff_not,forall_lt_two,Int.toNat_natCast,Nat.zero_add,Nat.sub_zero,and_true]
  have q0 : ∀ {α : Type} (a b d : α),[a,b].getD 0 d = a:=fun _ _ _=>rfl
  have q1 : ∀ {α : Type} (a b d : α),[a,b].getD 1 d = b:=fun _ _ _=>rfl
  simp only [q0,q1]
  generalize (∀ j,j < k → (x.unions.getD j default).man = (x.unions.getD k default).man → ¬(x.unions.getD j default).woman = (x.unions.getD k default).woman) = Z
  have h1:=hv (x.unions.getD k default).man.toNat
  have h2:=hv (x.unions.getD k default).woman.toNat
  generalize x.people.getD (x.unions.getD k default).man.toNat default = a at *
  generalize x.people.getD (x.unions.getD k default).woman.toNat default = b at *
  generalize x.unions.getD k default = u at *
  by_cases hz : Z <;> simp only [hz,and_true,and_false]
  omega
theorem person_died (x : Family) (k : Nat) (h : l1Person x k = true) : (x.people.getD k default).died = -1 ∨ 0 ≤ (x.people.getD k default).died := by
  obtain ⟨_,_,h1,h2,_⟩:=(l1Person_iff x k).1 h
  simp only [Int.toNat_natCast] at h1 h2
  omega
theorem two_gates {c d X : Bool} (h : c = false ∧ d = false) : (bif c then false else bif d then false else X) = X:=by rw [h.1,h.2];rfl
/-- THE TWO TESTS OF A FAMILY AGREE. -/
theorem isFamily_eq (x : Family) : implIsFamily x = specIsFamily x := by
  unfold implIsFamily specIsFamily
  generalize (decide (40 < ((x.people.length : Nat) : Int)) || decide (60 < ((x.unions.length : Nat) : Int))) = c
  cases c
  · simp only [cond_false]
    refine loopN_rel0 (fun i (m : KV → Option Bool) (_ : Unit)=>(∀ s,(m (KV.s s)).getD false = true ↔ ∃ j,j < i ∧ (x.people.getD j default).name = s) ∧ ∀ j : Nat,j < i → l1Person x j = true) Eq ⟨fun s=>by simp,fun j hj=>absurd hj (Nat.not_lt_zero _)⟩ ?_ ?_
    · rintro i m _ n1 n2 hi ⟨h1,h2⟩ hn
      have hp:=l1Person_iff x i
      simp only [Int.toNat_natCast] at hp
      have hnm:=h1 (x.people.getD i default).name
      simp only [parentFits_eq,isName_eq]
      have hdup : (m (KV.s (x.people.getD i default).name)).getD false = false ↔ ∀ j, j < i → (x.people.getD j default).name ≠ (x.people.getD i default).name := by
        rw [← Bool.not_eq_true,hnm]
        exact ⟨fun h j hj he=>h ⟨j,hj,he⟩,fun h ⟨j,hj,he⟩=>h j hj he⟩
      cases hq : l1Person x i
      · simp only [Bool.not_false,cond_true]
        refine Bool.eq_false_iff.2 fun hh=>?_
        refine Bool.false_ne_true (hq.symm.trans (hp.2 ?_))
        simp only [cond_f_iff,or_f_iff,not_f_iff,not_t_iff,and_f_iff,decide_eq_true_eq,decide_eq_false_iff_not,hdup] at hh
        obtain ⟨⟨⟨⟨⟨⟨g1,g2⟩,g3⟩,g4⟩,g5⟩,g6⟩,⟨g7,g8⟩,_⟩:=hh
        exact ⟨g1,by omega,by omega,by omega,g2,g7,g8⟩
      · simp only [Bool.not_true,cond_false]
        obtain ⟨g1,g3,g4,g5,g2,g7,g8⟩:=hp.1 hq
        refine (two_gates ?_).trans (hn _ () ⟨fun s=>?_,fun j hj=>?_⟩)
        · simp only [or_f_iff,not_f_iff,not_t_iff,and_f_iff,decide_eq_true_eq,decide_eq_false_iff_not,hdup]
          exact ⟨⟨⟨⟨⟨⟨g1,g2⟩,by omega⟩,by omega⟩,by omega⟩,by omega⟩,g7,g8⟩
        · simp only [mset]
          by_cases e : s = (x.people.getD i default).name
          · subst e;simp only [if_true,Option.getD_some,true_iff];exact ⟨i,by omega,rfl⟩
          · rw [if_neg (fun q=>e (by injection q)),h1 s]
            refine ⟨fun ⟨j,hj,he⟩=>⟨j,by omega,he⟩,fun ⟨j,hj,he⟩=>⟨j,?_,he⟩⟩
            by_cases e2 : j = i
            · subst e2;exact absurd he.symm e
            · omega
        · by_cases e : j = i
          · rw [e];exact hq
          · exact h2 j (by omega)
    · rintro m _ ⟨h1,h2⟩
      have hpar:=fun k hk=>l1Person_par x k (h2 k hk)
      rw [depths_eq x hpar]
      have hu : ∀ k : Nat, unionFits x k = l1Union x k := fun k => unionFits_eq x k fun j => by
        rcases Nat.lt_or_ge j x.people.length with h | h
        · exact person_died x j (h2 j h)
        · rw [List.getD_eq_getElem?_getD,List.getElem?_eq_none h];right;decide
      simp only [hu]
  · rfl
def neg (l : List Int) : Nat:=l.countP fun x=>decide (x < 0)
theorem neg_set : ∀ (l : List Int) (i : Nat) (x : Int), i < l.length → l.getD i default < 0 → 0 ≤ x → neg (l.set i x) + 1 = neg l
  | [],i,x,h,_,_=>absurd h (Nat.not_lt_zero _)
  | a :: l, 0, x, _, h, hx => by
    have h : a < 0:=h
    simp [neg,List.countP_cons,h,show ¬ x < 0 by omega]
  | a :: l, i + 1, x, hi, h, hx => by
    have:=neg_set l i x (by simpa using hi) h hx
    simp only [neg,List.set_cons_succ,List.countP_cons] at this ⊢
    omega
/-- What holds of the steps found so far and of those that wait. -/
structure StepsInv (x : Family) (o t : List Int) : Prop where
  rg : Rg o x.people.length fun k v=>-1 ≤ v ∧ v + k ≤ x.people.length
  wait : ∀ j,j < t.length → 0 ≤ t.getD j default ∧ t.getD j default < x.people.length
  cnt : t.length + neg o ≤ x.people.length
theorem neg_all {l : List Int} (h : ∀ k, k < l.length → l.getD k default = -1) : neg l = l.length := by
  unfold neg
  rw [List.countP_eq_length]
  intro a ha
  obtain ⟨k,hk,e⟩:=List.getElem_of_mem ha
  have:=h k hk
  rw [List.getD_eq_getElem?_getD,List.getElem?_eq_getElem hk] at this
  simp only [Option.getD_some] at this
  rw [← e,this];decide
theorem StepsInv.start {x : Family} {p : Int} (hp : 0 ≤ p ∧ p < x.people.length) {v : List Int} (hv : Rg v x.people.length fun k v => k < x.people.length → v = -1) : StepsInv x (v.set p.toNat 0) [p] where
  rg:=Rg.set (hv.mono fun k y hk hy=>by have:=hy hk;omega) (fun h=>by omega)
  wait := fun j hj => by
    simp at hj;subst hj;exact hp
  cnt := by
    have h1:=neg_all (l:=v) (fun k hk=>hv.get k (by rw [← hv.len];exact hk) (by rw [← hv.len];exact hk))
    have h2:=hv.get p.toNat (by omega) (by omega)
    have h3:=neg_set v p.toNat 0 (by rw [hv.len];omega) (by omega) (by omega)
    have:=hv.len
    simp only [List.length_singleton]
    omega
theorem StepsInv.push {x : Family} {o t : List Int} (h : StepsInv x o t) {a q : Int} (ha : 0 ≤ a ∧ a < x.people.length) (hq : 0 ≤ q ∧ q < a) (hn : o.getD q.toNat default < 0) :
    StepsInv x (o.set q.toNat (o.getD a.toNat default + 1)) (t ++ [q]) ∧ (t ++ [q]).length + neg (o.set q.toNat (o.getD a.toNat default + 1)) = t.length + neg o:=by
  have h1:=h.rg.get a.toNat (by omega)
  have h3:=neg_set o q.toNat (o.getD a.toNat default + 1) (by rw [h.rg.len];omega) hn (by omega)
  have h4 : (t ++ [q]).length = t.length + 1:=by simp
  refine ⟨⟨Rg.set h.rg fun _=>by omega,fun j hj=>?_,by have:=h.cnt;omega⟩,by omega⟩
  rw [getD_snoc]
  split
  · exact h.wait j (by assumption)
  · rw [if_pos (by omega)];omega
theorem implHas_iff (x : Family) (l : List Int) : implHas x l = true ↔ specIsFamily x = true ∧ ∀ j, j < l.length → 0 ≤ l.getD j default ∧ l.getD j default < x.people.length := by
  simp only [implHas,isFamily_eq,cond_f_iff,loopN_all,not_f_iff,or_f_iff,decide_eq_false_iff_not,Int.not_lt,Int.not_le,and_true]
theorem implHas1 (x : Family) (p : Int) : implHas x [p] = true ↔ specIsFamily x = true ∧ 0 ≤ p ∧ p < x.people.length := by
  rw [implHas_iff]
  refine and_congr_right' ⟨fun h=>h 0 (by simp),fun h j hj=>?_⟩
  simp at hj;subst hj;exact h
end Go.Proofs.Ytaageiiodlfeiaa
