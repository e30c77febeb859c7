import Derived.Test.YtikfeeaapenplaaVS20
set_option maxHeartbeats 4000000
set_option linter.unusedSimpArgs false
set_option linter.unusedVariables false
namespace Go.Proofs.Ytikfeeaapenplaa
open Go Go.Lite Go.Proofs
/-! ### Heirs: both ways list the same -/
theorem way_lt {f : Family} (hf : specIsFamily f = true) (x : Custom) {p : Int} (hp : 0 ≤ p ∧ p < f.people.length) : wayUp f x p < p := by
  have h:=fam_p hf (k:=p.toNat) (by omega)
  have h1:=h.fa;have h2:=h.mo
  unfold wayUp
  repeat' refine cond_both (p:=fun (r : Int)=>r < p) (fun _=>?_) (fun _=>?_)
  all_goals omega
theorem way_ge {f : Family} (hf : specIsFamily f = true) (x : Custom) {p : Int} (hp : 0 ≤ p ∧ p < f.people.length) : -1 ≤ wayUp f x p := by
  have h:=fam_p hf (k:=p.toNat) (by omega)
  have h1:=h.fa;have h2:=h.mo
  unfold wayUp
  repeat' refine cond_both (p:=fun (r : Int)=>-1 ≤ r) (fun _=>?_) (fun _=>?_)
  all_goals omega
theorem next_way (f : Family) (x : Custom) (p : Int) : l10Next f x p = wayUp f x p := by
  unfold l10Next wayUp
  by_cases h3 : x.prefer = 3
  · rw [h3];simp
  · by_cases h4 : x.prefer = 4
    · rw [h4];simp
    · rw [decide_eq_false h3, decide_eq_false h4]
      simp only [Bool.false_or,Bool.not_false,Bool.and_true,cond_false]
      by_cases h : 0 ≤ (f.people.getD p.toNat default).father
      · rw [decide_eq_true h,decide_eq_false (by omega)];rfl
      · rw [decide_eq_false h,decide_eq_true (by omega)];rfl
/-- Who is met below a person. -/
inductive Rch (f : Family) (x : Custom) (y : Int) : Int → Int → Prop
  | kid {p c : Int} (h : c ∈ l10Children f x p) (hb : ¬ y < (f.people.getD c.toNat default).born) : Rch f x y p c
  | step {p c q : Int} (h : c ∈ l10Children f x p) (hb : ¬ y < (f.people.getD c.toNat default).born) (ha : (l1Alive f c y || x.represent) = true) (hr : Rch f x y c q) : Rch f x y p q
def Dn (f : Family) (x : Custom) (y : Int) (m : Int → Bool) (p : Int) : Prop:=∀ q,Rch f x y p q → l1Alive f q y = true → m q = true
theorem Dn.mono {f : Family} {x : Custom} {y : Int} {m m' : Int → Bool} {p : Int} (h : Dn f x y m p) (hm : ∀ c,m c = true → m' c = true) : Dn f x y m' p:=fun q h1 h2=>hm q (h q h1 h2)
theorem alive_eq (f : Family) (p y : Int) : implAlive f p y = l1Alive f p y:=rfl
/-- The reference, once more below one whose heirs are listed. -/
theorem l10Below_same {f : Family} (hf : specIsFamily f = true) (x : Custom) (y : Int) : ∀ (m : Nat) (p : Int) (s : List Bool) (o : List Int), (0 ≤ p ∧ p < f.people.length) → (f.people.length - p).toNat < m → Dn f x y (mk1 s) p → l10Below_r m f x p y s o = (o, s) := by
  intro m
  induction m with
  | zero=>intro p s o _ hm;exact absurd hm (Nat.not_lt_zero _)
  | succ m ih =>
    intro p s o hp hm hd
    rw [l10Below_r]
    refine loopN_to (fun i (v : (List Bool) × (List Int))=>v = (s,o)) (fun (r : (List Int) × (List Bool))=>r = (o,s)) rfl (fun i v next hi hv hn=>?_) (fun v hv=>by rw [hv])
    subst hv
    have hm':=getD_mem (l:=l10Children f x p) (k:=i) (d:=default) hi
    have hc:=l10_at hf (x:=x) hp.1 hi
    refine cond_both (p:=fun (r : (List Int) × (List Bool))=>r = (o,s)) (fun _=>hn _ rfl) (fun hb=>?_)
    have hb:=of_decide_eq_false hb
    refine jn_to (fun (j : (List Bool) × (List Int))=>j = (s,o)) (fun (r : (List Int) × (List Bool))=>r = (o,s)) (fun K hK=>?_) (fun j hj=>?_)
    · refine cond_both (p := fun (r : (List Int) × (List Bool)) => r = (o, s)) (fun c => ?_) (fun _ => hK _ rfl)
      simp only [Bool.and_eq_true,Bool.not_eq_true'] at c
      have h1:=hd _ (.kid hm' hb) c.1
      have h2 : mk1 s ((l10Children f x p).getD i default) = false:=c.2
      rw [h1] at h2;cases h2
    · subst hj
      refine cond_both (p:=fun (r : (List Int) × (List Bool))=>r = (o,s)) (fun c=>?_) (fun _=>hn _ rfl)
      have:=ih ((l10Children f x p).getD i default) s o (by omega) (by omega) fun q h1 h2=>hd q (.step hm' hb c h1) h2
      dsimp only
      rw [this]
      exact hn _ rfl
/-- What the reference leaves: all who are met and alive are marked. -/
theorem l10Below_done {f : Family} (hf : specIsFamily f = true) (x : Custom) (y : Int) : ∀ (m : Nat) (p : Int) (s : List Bool) (o : List Int), (0 ≤ p ∧ p < f.people.length) → (f.people.length - p).toNat < m → s.length = f.people.length → (l10Below_r m f x p y s o).2.length = s.length ∧ (∀ c, mk1 s c = true → mk1 (l10Below_r m f x p y s o).2 c = true) ∧ Dn f x y (mk1 (l10Below_r m f x p y s o).2) p := by
  intro m
  induction m with
  | zero=>intro p s o _ hm;exact absurd hm (Nat.not_lt_zero _)
  | succ m ih =>
    intro p s o hp hm hs
    rw [l10Below_r]
    refine loopN_to (fun i (v : (List Bool) × (List Int)) => v.1.length = s.length ∧ (∀ c, mk1 s c = true → mk1 v.1 c = true) ∧ ∀ j : Nat, j < i → (¬ y < (f.people.getD ((l10Children f x p).getD j default).toNat default).born) → (l1Alive f ((l10Children f x p).getD j default) y = true → mk1 v.1 ((l10Children f x p).getD j default) = true) ∧ ((l1Alive f ((l10Children f x p).getD j default) y || x.represent) = true → Dn f x y (mk1 v.1) ((l10Children f x p).getD j default)))
      (fun (r : (List Int) × (List Bool))=>r.2.length = s.length ∧ (∀ c,mk1 s c = true → mk1 r.2 c = true) ∧ Dn f x y (mk1 r.2) p) ⟨rfl,fun _ h=>h,fun j hj=>absurd hj (Nat.not_lt_zero _)⟩ (fun i v next hi hv hn=>?_) (fun v hv=>⟨hv.1,hv.2.1,fun q h1 h2=>?_⟩)
    · obtain ⟨v1, v2, v3⟩ := hv
      have hc:=l10_at hf (x:=x) hp.1 hi
      refine cond_both (p:=fun (r : (List Int) × (List Bool))=>r.2.length = s.length ∧ (∀ c,mk1 s c = true → mk1 r.2 c = true) ∧ Dn f x y (mk1 r.2) p) (fun hb=>hn _ ⟨v1,v2,fun j hj hb'=>?_⟩) (fun hb=>?_)
      · by_cases e : j = i
        · subst e;exact absurd (of_decide_eq_true hb) hb'
        · exact v3 j (by omega) hb'
      have hb:=of_decide_eq_false hb
      refine jn_to (fun (j : (List Bool) × (List Int))=>j.1.length = s.length ∧ (∀ c,mk1 v.1 c = true → mk1 j.1 c = true) ∧ (l1Alive f ((l10Children f x p).getD i default) y = true → mk1 j.1 ((l10Children f x p).getD i default) = true)) (fun (r : (List Int) × (List Bool))=>r.2.length = s.length ∧ (∀ c,mk1 s c = true → mk1 r.2 c = true) ∧ Dn f x y (mk1 r.2) p) (fun K hK=>?_) (fun j hj=>?_)
      · refine cond_both (p := fun (r : (List Int) × (List Bool)) => r.2.length = s.length ∧ (∀ c, mk1 s c = true → mk1 r.2 c = true) ∧ Dn f x y (mk1 r.2) p) (fun c => hK _ ⟨by simp only [List.length_set]; exact v1, mk1_mono _ _, fun _ => ?_⟩) (fun c => hK _ ⟨v1, fun _ h => h, fun ha => ?_⟩)
        · rw [mk1_set _ _ (by omega) (by omega),if_pos rfl]
        · rw [ha, Bool.true_and] at c
          exact not_f_iff.1 c
      · obtain ⟨j1, j2, j3⟩ := hj
        refine cond_both (p:=fun (r : (List Int) × (List Bool))=>r.2.length = s.length ∧ (∀ c,mk1 s c = true → mk1 r.2 c = true) ∧ Dn f x y (mk1 r.2) p) (fun c=>?_) (fun c=>hn _ ⟨j1,fun d hd=>j2 d (v2 d hd),fun k hk hb'=>?_⟩)
        · have h := ih ((l10Children f x p).getD i default) j.1 j.2 (by omega) (by omega) (j1.trans hs)
          refine hn _ ⟨h.1.trans j1,fun d hd=>h.2.1 d (j2 d (v2 d hd)),fun k hk hb'=>?_⟩
          by_cases e : k = i
          · subst e;exact ⟨fun ha=>h.2.1 _ (j3 ha),fun _=>h.2.2⟩
          · have h4 := v3 k (by omega) hb'
            exact ⟨fun ha=>h.2.1 _ (j2 _ (h4.1 ha)),fun ha=>(h4.2 ha).mono fun d hd=>h.2.1 d (j2 d hd)⟩
        · by_cases e : k = i
          · subst e;exact ⟨j3,fun ha=>by rw [ha] at c;cases c⟩
          · have h4 := v3 k (by omega) hb'
            exact ⟨fun ha=>j2 _ (h4.1 ha),fun ha=>(h4.2 ha).mono j2⟩
    · have key : ∀ c, c ∈ l10Children f x p → ∃ j : Nat, j < (l10Children f x p).length ∧ (l10Children f x p).getD j default = c := fun c hc => by
        obtain ⟨j,hj,e⟩:=List.mem_iff_getElem.1 hc
        exact ⟨j,hj,by rw [List.getD_eq_getElem?_getD,List.getElem?_eq_getElem hj,← e];rfl⟩
      cases h1 with
      | kid h hb =>
        obtain ⟨j,hj,e⟩:=key _ h
        subst e
        exact (hv.2.2 j hj hb).1 h2
      | step h hb ha hr =>
        obtain ⟨j,hj,e⟩:=key _ h
        subst e
        exact (hv.2.2 j hj hb).2 ha q hr h2
/-- The program and the reference below a person. -/
theorem below_same {f : Family} (hf : specIsFamily f = true) (x : Custom) (y : Int) : ∀ (m : Nat) (p : Int) (s : List Bool) (o : List Int) (g gone : KV → Option Bool), (0 ≤ p ∧ p < f.people.length) → (f.people.length - p).toNat < m → s.length = f.people.length → (∀ c : Int, 0 ≤ c → c < f.people.length → mk2 g c = mk1 s c) → (∀ q, mk2 gone q = true → p ≤ q → Dn f x y (mk1 s) q) →
    (below_r m ⟨f,x,y,o,g,gone⟩ p).1 = (l10Below_r m f x p y s o).1 ∧ (∀ c : Int,0 ≤ c → c < f.people.length → mk2 (below_r m ⟨f,x,y,o,g,gone⟩ p).2.1 c = mk1 (l10Below_r m f x p y s o).2 c) ∧ ∀ q,mk2 (below_r m ⟨f,x,y,o,g,gone⟩ p).2.2 q = true → mk2 gone q = true ∨ (p ≤ q ∧ Dn f x y (mk1 (l10Below_r m f x p y s o).2) q):=by
  intro m
  induction m with
  | zero=>intro p s o g gone _ hm;exact absurd hm (Nat.not_lt_zero _)
  | succ m ih =>
    intro p s o g gone hp hm hs hr hG
    have hD:=(l10Below_done hf x y (m + 1) p s o hp hm hs).2.2
    have hS:=l10Below_same hf x y (m + 1) p s o hp hm
    suffices h : (below_r (m + 1) ⟨f, x, y, o, g, gone⟩ p).1 = (l10Below_r (m + 1) f x p y s o).1 ∧ (∀ c : Int, 0 ≤ c → c < f.people.length → mk2 (below_r (m + 1) ⟨f, x, y, o, g, gone⟩ p).2.1 c = mk1 (l10Below_r (m + 1) f x p y s o).2 c) ∧ ∀ q, mk2 (below_r (m + 1) ⟨f, x, y, o, g, gone⟩ p).2.2 q = true → mk2 gone q = true ∨ q = p ∨ (p < q ∧ Dn f x y (mk1 (l10Below_r (m + 1) f x p y s o).2) q) by
      refine ⟨h.1,h.2.1,fun q hq=>?_⟩
      rcases h.2.2 q hq with h1 | h1 | h1
      · exact .inl h1
      · subst h1;exact .inr ⟨Int.le_refl _,hD⟩
      · exact .inr ⟨by omega,h1.2⟩
    clear hD
    rw [below_r]
    cases hg : ((heirList.mk f x y o g gone).gone (KV.i p)).getD false with
    | true =>
      have:=hS (hG p hg (Int.le_refl _))
      rw [this]
      exact ⟨rfl,hr,fun q hq=>.inl hq⟩
    | false =>
      rw [l10Below_r,cond_false]
      dsimp only
      rw [implOrder_val f x p (fam_n hf).1]
      refine loopN_rel0 (fun i (v : (List Int) × (KV → Option Bool) × (KV → Option Bool)) (w : (List Bool) × (List Int)) => v.1 = w.2 ∧ w.1.length = f.people.length ∧ (∀ c : Int, 0 ≤ c → c < f.people.length → mk2 v.2.1 c = mk1 w.1 c) ∧ (∀ c, mk1 s c = true → mk1 w.1 c = true) ∧ ∀ q, mk2 v.2.2 q = true → mk2 gone q = true ∨ q = p ∨ (p < q ∧ Dn f x y (mk1 w.1) q))
        (fun (a : (List Int) × (KV → Option Bool) × (KV → Option Bool)) (b : (List Int) × (List Bool))=>a.1 = b.1 ∧ (∀ c : Int,0 ≤ c → c < f.people.length → mk2 a.2.1 c = mk1 b.2 c) ∧ ∀ q,mk2 a.2.2 q = true → mk2 gone q = true ∨ q = p ∨ (p < q ∧ Dn f x y (mk1 b.2) q)) ⟨rfl,hs,hr,fun _ h=>h,fun q hq=>?_⟩ ?_ (fun v w hv=>⟨hv.1,hv.2.2.1,hv.2.2.2.2⟩)
      rotate_left
      · intro i v w n1 n2 hi hv hn
        obtain ⟨v1,v2,v3,v4,v5⟩:=hv
        have hc:=l10_at hf (x:=x) hp.1 hi
        cases hb : decide (y < (f.people.getD ((l10Children f x p).getD i default).toNat default).born) with
        | true=>exact hn _ _ ⟨v1,v2,v3,v4,v5⟩
        | false =>
          have go : ∀ (l : List Int) (g1 : KV → Option Bool) (s1 : List Bool), s1.length = f.people.length → (∀ c : Int, 0 ≤ c → c < f.people.length → mk2 g1 c = mk1 s1 c) → (∀ c, mk1 w.1 c = true → mk1 s1 c = true) →
              (fun (a : (List Int) × (KV → Option Bool) × (KV → Option Bool)) (b : (List Int) × (List Bool))=>a.1 = b.1 ∧ (∀ c : Int,0 ≤ c → c < f.people.length → mk2 a.2.1 c = mk1 b.2 c) ∧ ∀ q,mk2 a.2.2 q = true → mk2 gone q = true ∨ q = p ∨ (p < q ∧ Dn f x y (mk1 b.2) q))
              (bif ((implAlive f ((l10Children f x p).getD i default) y) || x.represent) then (n1 ((below_r m (heirList.mk f x y l g1 v.2.2) ((l10Children f x p).getD i default)).1,(below_r m (heirList.mk f x y l g1 v.2.2) ((l10Children f x p).getD i default)).2.1,(below_r m (heirList.mk f x y l g1 v.2.2) ((l10Children f x p).getD i default)).2.2)) else (n1 (l,g1,v.2.2)))
              (bif ((l1Alive f ((l10Children f x p).getD i default) y) || x.represent) then (n2 ((l10Below_r m f x ((l10Children f x p).getD i default) y s1 l).2,(l10Below_r m f x ((l10Children f x p).getD i default) y s1 l).1)) else (n2 (s1,l))):=by
            intro l g1 s1 k1 k2 k3
            rw [alive_eq]
            cases ha : (l1Alive f ((l10Children f x p).getD i default) y || x.represent) with
            | false=>exact hn _ _ ⟨rfl,k1,k2,fun c h=>k3 c (v4 c h),fun q hq=>(v5 q hq).imp_right (Or.imp_right fun h=>⟨h.1,h.2.mono k3⟩)⟩
            | true =>
              have hd:=l10Below_done hf x y m ((l10Children f x p).getD i default) s1 l (by omega) (by omega) k1
              have h := ih ((l10Children f x p).getD i default) s1 l g1 v.2.2 (by omega) (by omega) k1 k2 fun q hq hle => by
                rcases v5 q hq with h1 | h1 | h1
                · exact (hG q h1 (by omega)).mono fun c hc=>k3 c (v4 c hc)
                · omega
                · exact h1.2.mono k3
              refine hn _ _ ⟨h.1,hd.1.trans k1,h.2.1,fun c hc=>hd.2.1 c (k3 c (v4 c hc)),fun q hq=>?_⟩
              rcases h.2.2 q hq with h1 | h1
              · exact (v5 q h1).imp_right (Or.imp_right fun h2=>⟨h2.1,h2.2.mono fun c hc=>hd.2.1 c (k3 c hc)⟩)
              · exact .inr (.inr ⟨by omega,h1.2⟩)
          have e : mk2 v.2.1 ((l10Children f x p).getD i default) = mk1 w.1 ((l10Children f x p).getD i default):=v3 ((l10Children f x p).getD i default) (by omega) (by omega)
          have e' : (v.2.1 (KV.i ((l10Children f x p).getD i default))).getD false = w.1.getD ((l10Children f x p).getD i default).toNat default:=e
          simp only [jn,cond_false,e',alive_eq,v1]
          cases hA : (l1Alive f ((l10Children f x p).getD i default) y && !(w.1.getD ((l10Children f x p).getD i default).toNat default)) with
          | true =>
            refine go (w.2 ++ [(l10Children f x p).getD i default]) (mset v.2.1 (KV.i ((l10Children f x p).getD i default)) true) (w.1.set ((l10Children f x p).getD i default).toNat true) (by simp only [List.length_set];exact v2) (fun c h1 h2=>?_) (mk1_mono _ _)
            rw [mk2_set,mk1_set w.1 (c:=(l10Children f x p).getD i default) true (by omega) h1,v3 c h1 h2]
          | false=>exact go w.2 v.2.1 w.1 v2 v3 fun _ h=>h
      · rw [mk2_set] at hq
        split at hq
        · rename_i e;exact .inr (.inl e)
        · exact .inl hq
end Go.Proofs.Ytikfeeaapenplaa
