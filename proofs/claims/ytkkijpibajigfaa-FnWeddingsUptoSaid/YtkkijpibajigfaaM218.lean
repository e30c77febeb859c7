import Derived.Test.YtkkijpibajigfaaVM4
set_option maxHeartbeats 4000000
set_option linter.unusedSimpArgs false
set_option linter.unusedVariables false
namespace Go.Proofs.Ytkkijpibajigfaa
open Go Go.Lite Go.Proofs
/-! ### Partners found one after another, by lists -/
/-- What is done for each one of a list until it ends. -/
def goL {α S R : Type} (F : α → S → (S → R) → R) (k : S → R) : List α → S → R
  | [],s=>k s
  | x :: xs,s=>F x s (goL F k xs)
theorem loopN_goL_from {α S R : Type} [Inhabited α] (F : α → S → (S → R) → R) (k : S → R) : ∀ (l p : List α) (s : S), loopN (fun i s next => F ((p ++ l).getD i default) s next) k l.length p.length s = goL F k l s
  | [],p,s=>rfl
  | x :: xs, p, s => by
    simp only [List.length_cons,loopN,goL]
    have e : (p ++ x :: xs).getD p.length default = x:=by simp
    rw [e];congr 1;funext s'
    have:=loopN_goL_from F k xs (p ++ [x]) s'
    simpa using this
theorem loopN_goL {α S R : Type} [Inhabited α] {body : Nat → S → (S → R) → R} {F : α → S → (S → R) → R} {k : S → R} {l : List α} {s : S} (h : ∀ i s next, body i s next = F (l.getD i default) s next) : loopN body k l.length 0 s = goL F k l s := by
  have e : body = fun i s next=>F (([] ++ l).getD i default) s next:=by funext i s next;rw [h];rfl
  rw [e]
  exact loopN_goL_from F k l [] s
/-- One candidate. -/
def wedF (rec : List Int → Int → List Bool → Bool × List Int × List Bool) (a : Int) (b : Int) (v : List Int × List Bool) (next : List Int × List Bool → Bool × List Int × List Bool) : Bool × List Int × List Bool :=
  bif v.2.getD b.toNat default then next v
  else bif decide (v.1.getD b.toNat default < 0) then (true,v.1.set b.toNat a,v.2.set b.toNat true)
  else bif (rec v.1 (v.1.getD b.toNat default) (v.2.set b.toNat true)).1 then (true,(rec v.1 (v.1.getD b.toNat default) (v.2.set b.toNat true)).2.1.set b.toNat a,(rec v.1 (v.1.getD b.toNat default) (v.2.set b.toNat true)).2.2)
  else next ((rec v.1 (v.1.getD b.toNat default) (v.2.set b.toNat true)).2.1,(rec v.1 (v.1.getD b.toNat default) (v.2.set b.toNat true)).2.2)
def wedG (adj : Int → List Int) : Nat → List Int → Int → List Bool → Bool × List Int × List Bool
  | 0,_,_,_=>default
  | m + 1,h,a,t=>goL (wedF (wedG adj m) a) (fun v=>(false,v.1,v.2)) (adj a) (h,t)
/-- What is known when one has been tried. -/
structure WPost (adj : Int → List Int) (n : Nat) (h : List Int) (a : Int) (L : List Int) (t : List Bool) (r : Bool × List Int × List Bool) : Prop where
  hl : r.2.1.length = n
  inn : ∀ y ∈ r.2.1,-1 ≤ y ∧ y < n
  tl : r.2.2.length = n
  cnt : r.2.2.count false ≤ t.count false
  mono : ∀ b : Nat,t.getD b default = true → r.2.2.getD b default = true
  no : r.1 = false → r.2.1 = h ∧ (∀ b : Nat,r.2.2.getD b default = true → t.getD b default = false → 0 ≤ h.getD b default ∧ ∀ b' ∈ adj (h.getD b default),r.2.2.getD b'.toNat default = true) ∧ ∀ b ∈ L,r.2.2.getD b.toNat default = true
  old : r.1 = true → ∀ b : Nat,t.getD b default = true → r.2.1.getD b default = h.getD b default
  ct : r.1 = true → ∀ x : Int,r.2.1.count x + (if x = -1 then 1 else 0) = h.count x + (if x = a then 1 else 0)
  edge : r.1 = true → ∀ b : Nat,r.2.1.getD b default = h.getD b default ∨ ((b : Nat) : Int) ∈ adj (r.2.1.getD b default)
  cls : r.1 = true → ∀ T : Nat → Bool,(∀ b : Nat,T b = true → 0 ≤ h.getD b default ∧ ∀ b' ∈ adj (h.getD b default),T b'.toNat = true) → (∀ b : Nat,T b = true → r.2.1.getD b default = h.getD b default) ∧ ¬ ∀ b ∈ L,T b.toNat = true
theorem set_count {l : List Int} {b : Nat} (hb : b < l.length) (a x : Int) : (l.set b a).count x + (if x = l.getD b default then 1 else 0) = l.count x + (if x = a then 1 else 0) := by
  have e : l.getD b default = l[b]:=by rw [List.getD_eq_getElem?_getD,List.getElem?_eq_getElem hb];rfl
  rw [List.count_set hb,e]
  have h1 : l[b] = x → 0 < l.count x:=fun q=>List.count_pos_iff.2 (by rw [← q];exact List.getElem_mem hb)
  by_cases c1 : l[b] = x
  · have h1:=h1 c1
    by_cases c2 : a = x
    · simp [c1,c2];omega
    · have c3 : ¬ x = a:=fun q=>c2 q.symm
      simp [c1,c2,c3];omega
  · have c4 : ¬ x = l[b]:=fun q=>c1 q.symm
    by_cases c2 : a = x
    · simp [c1,c2,c4]
    · have c3 : ¬ x = a:=fun q=>c2 q.symm
      simp [c1,c2,c3,c4]
theorem set_inn {l : List Int} {n : Nat} (h : ∀ y ∈ l, -1 ≤ y ∧ y < n) {a : Int} (ha : 0 ≤ a ∧ a < n) (b : Nat) : ∀ y ∈ l.set b a, -1 ≤ y ∧ y < n := fun y hy => by
  rcases List.mem_or_eq_of_mem_set hy with q | q
  · exact h y q
  · omega
theorem getD_set2 {α : Type} [Inhabited α] {l : List α} {b c : Nat} (hb : b < l.length) (a : α) : (l.set b a).getD c default = if b = c then a else l.getD c default := by
  rw [List.getD_eq_getElem?_getD,List.getD_eq_getElem?_getD,List.getElem?_set]
  by_cases e : b = c
  · subst e;simp [hb]
  · simp [e]
theorem wedL_post {adj : Int → List Int} {n : Nat} (hA : ∀ a, ∀ b ∈ adj a, 0 ≤ b ∧ b < n) {m : Nat} {h : List Int} {a : Int} (hl : h.length = n) (hi : ∀ y ∈ h, -1 ≤ y ∧ y < n) (ha : 0 ≤ a ∧ a < n)
    (IH : ∀ (a' : Int) (t : List Bool),0 ≤ a' ∧ a' < n → t.length = n → t.count false < m → WPost adj n h a' (adj a') t (wedG adj m h a' t)) :
    ∀ (L : List Int) (t : List Bool),(∀ b ∈ L,b ∈ adj a) → t.length = n → t.count false < m + 1 → WPost adj n h a L t (goL (wedF (wedG adj m) a) (fun v=>(false,v.1,v.2)) L (h,t))
  | [],t,_,ht,_=>⟨hl,hi,ht,Nat.le_refl _,fun _ q=>q,fun _=>⟨rfl,fun b p q=>(by simp only [goL] at p;rw [q] at p;cases p),fun b q=>absurd q (by simp)⟩,fun q=>by simp [goL] at q,fun q=>by simp [goL] at q,fun q=>by simp [goL] at q,fun q=>by simp [goL] at q⟩
  | b :: L, t, hL, ht, hm => by
    have hL2 : ∀ b ∈ L,b ∈ adj a:=fun x q=>hL x (List.mem_cons_of_mem _ q)
    have hba:=hL b (List.mem_cons_self ..)
    have hb:=hA a b hba
    obtain ⟨k,rfl⟩:=Int.eq_ofNat_of_zero_le hb.1
    have hk : k < n:=by omega
    simp only [goL,wedF,Int.toNat_natCast]
    cases ht1 : t.getD k default with
    | true =>
      simp only [cond_true]
      have q:=wedL_post hA hl hi ha IH L t hL2 ht hm
      refine ⟨q.hl,q.inn,q.tl,q.cnt,q.mono,fun z=>⟨(q.no z).1,(q.no z).2.1,fun x hx=>?_⟩,q.old,q.ct,q.edge,fun z T hT=>⟨(q.cls z T hT).1,fun hh=>(q.cls z T hT).2 fun x hx=>hh x (List.mem_cons_of_mem _ hx)⟩⟩
      rcases List.mem_cons.1 hx with e | e
      · rw [e];exact q.mono k ht1
      · exact (q.no z).2.2 x e
    | false =>
      simp only [cond_false]
      have hkt : k < t.length:=by omega
      have hkh : k < h.length:=by omega
      have hcm:=count_mark hkt ht1
      have hy:=hi (h.getD k default) (getD_mem hkh)
      cases hn : decide (h.getD k default < 0) with
      | true =>
        simp only [cond_true]
        have hn:=of_decide_eq_true hn
        have hn1 : h.getD k default = -1:=by omega
        refine ⟨by simp [hl],set_inn hi ha k,by simp [ht],by dsimp only;omega,fun x hx=>?_,fun z=>(by cases z),fun _ x hx=>?_,fun _ x=>?_,fun _ x=>?_,fun _ T hT=>⟨fun x hx=>?_,fun hh=>?_⟩⟩
        · rw [getD_set2 hkt];split
          · rfl
          · exact hx
        · rw [getD_set2 hkh,if_neg (fun e=>by rw [e,hx] at ht1;cases ht1)]
        · have:=set_count hkh a x
          rw [hn1] at this
          exact this
        · by_cases e : k = x
          · subst e;right;rw [getD_set2 hkh,if_pos rfl];exact hba
          · left;rw [getD_set2 hkh,if_neg e]
        · rw [getD_set2 hkh,if_neg (fun e=>by have:=(hT x hx).1;rw [← e] at this;omega)]
        · have:=(hT k (hh _ (List.mem_cons_self ..))).1;omega
      | false =>
        simp only [cond_false]
        have hn:=of_decide_eq_false hn
        have R:=IH (h.getD k default) (t.set k true) (by omega) (by simp [ht]) (by omega)
        have hk1 : (t.set k true).getD k default = true:=by rw [getD_set2 hkt,if_pos rfl]
        have ht2 : ∀ x : Nat, t.getD x default = true → (t.set k true).getD x default = true := fun x hx => by
          rw [getD_set2 hkt];split
          · rfl
          · exact hx
        generalize wedG adj m h (h.getD k default) (t.set k true) = r at R
        obtain ⟨r1,rh,rt⟩:=r
        cases r1 with
        | true =>
          simp only [cond_true]
          have R1:=R.old rfl;have R2:=R.ct rfl;have R3:=R.edge rfl;have R4:=R.cls rfl;have R5:=R.hl;have R6:=R.cnt;dsimp only at R1 R2 R3 R4 R5 R6
          have hkr : k < rh.length:=by omega
          have e0:=R1 k hk1
          refine ⟨by simp [R5],set_inn R.inn ha k,R.tl,by dsimp only;omega,fun x hx=>R.mono x (ht2 x hx),fun z=>(by cases z),fun _ x hx=>?_,fun _ x=>?_,fun _ x=>?_,fun _ T hT=>?_⟩
          · rw [getD_set2 hkr,if_neg (fun e=>by rw [e,hx] at ht1;cases ht1)];exact R1 x (ht2 x hx)
          · have q1:=set_count hkr a x
            have q2:=R2 x
            rw [e0] at q1
            dsimp only
            omega
          · by_cases e : k = x
            · subst e;right;rw [getD_set2 hkr,if_pos rfl];exact hba
            · rw [getD_set2 hkr,if_neg e];exact R3 x
          · have hTk : T k ≠ true:=fun q=>(R4 T hT).2 (hT k q).2
            exact ⟨fun x hx=>by rw [getD_set2 hkr,if_neg (fun e=>hTk (by rw [e];exact hx))];exact (R4 T hT).1 x hx,fun hh=>hTk (hh _ (List.mem_cons_self ..))⟩
        | false =>
          simp only [cond_false]
          obtain ⟨n1,n2,n3⟩:=R.no rfl
          have R5:=R.tl;have R6:=R.cnt;have R7:=R.mono;dsimp only at n1 n2 n3 R5 R6 R7
          subst n1
          have q:=wedL_post hA hl hi ha IH L rt hL2 R5 (by omega)
          refine ⟨q.hl,q.inn,q.tl,by have:=q.cnt;omega,fun x hx=>q.mono x (R7 x (ht2 x hx)),fun z=>⟨(q.no z).1,fun x hx hx2=>?_,fun x hx=>?_⟩,fun z x hx=>q.old z x (R7 x (ht2 x hx)),q.ct,q.edge,fun z T hT=>⟨(q.cls z T hT).1,fun hh=>(q.cls z T hT).2 fun x hx=>hh x (List.mem_cons_of_mem _ hx)⟩⟩
          · cases hr : rt.getD x default with
            | false=>exact (q.no z).2.1 x hx hr
            | true =>
              by_cases e : k = x
              · subst e;exact ⟨by omega,fun x hx=>q.mono _ (n3 x hx)⟩
              · have:=n2 x hr (by rw [getD_set2 hkt,if_neg e];exact hx2)
                exact ⟨this.1,fun x hx=>q.mono _ (this.2 x hx)⟩
          · rcases List.mem_cons.1 hx with e | e
            · rw [e];exact q.mono k (R7 k hk1)
            · exact (q.no z).2.2 x e
theorem wedG_post {adj : Int → List Int} {n : Nat} (hA : ∀ a, ∀ b ∈ adj a, 0 ≤ b ∧ b < n) {h : List Int} (hl : h.length = n) (hi : ∀ y ∈ h, -1 ≤ y ∧ y < n) : ∀ (m : Nat) (a : Int) (t : List Bool), 0 ≤ a ∧ a < n → t.length = n → t.count false < m → WPost adj n h a (adj a) t (wedG adj m h a t)
  | 0,_,_,_,_,h0=>absurd h0 (Nat.not_lt_zero _)
  | m + 1,a,t,ha,ht,hm=>wedL_post hA hl hi ha (fun a' t' h1 h2 h3=>wedG_post hA hl hi m a' t' h1 h2 h3) (adj a) t (fun _ q=>q) ht hm
/-! ### The greatest number -/
structure MI (adj : Int → List Int) (n a : Nat) (h : List Int) (c : Int) : Prop where
  len : h.length = n
  inn : ∀ y ∈ h,-1 ≤ y ∧ y < n
  edge : ∀ b : Nat,b < n → 0 ≤ h.getD b default → ((b : Nat) : Int) ∈ adj (h.getD b default)
  one : ∀ x : Int,0 ≤ x → h.count x ≤ 1
  lt : ∀ x : Int,((a : Nat) : Int) ≤ x → h.count x = 0
  cc : c + (h.count (-1) : Int) = n
  sat : ∃ T : Nat → Bool,(∀ b : Nat,T b = true → b < n) ∧ (∀ b : Nat,T b = true → 0 ≤ h.getD b default ∧ ∀ b' ∈ adj (h.getD b default),T b'.toNat = true) ∧ ∀ x : Nat,x < a → h.count ((x : Nat) : Int) = 1 ∨ ∀ b ∈ adj ((x : Nat) : Int),T b.toNat = true
theorem MI.start (adj : Int → List Int) (n : Nat) : MI adj n 0 (List.replicate n (-1)) 0 := by
  refine ⟨by simp,fun y hy=>?_,fun b hb h0=>?_,fun x hx=>?_,fun x hx=>?_,by simp,⟨fun _=>false,fun b q=>(by cases q),fun b q=>(by cases q),fun x hx=>absurd hx (Nat.not_lt_zero _)⟩⟩
  · have:=List.eq_of_mem_replicate hy;omega
  · rw [List.getD_eq_getElem?_getD,List.getElem?_replicate,if_pos hb] at h0
    exact absurd h0 (by simp)
  · rw [List.count_replicate];split
    · rename_i e;have:=eq_of_beq e;omega
    · omega
  · rw [List.count_replicate];split
    · rename_i e;have:=eq_of_beq e;omega
    · rfl
theorem MI.step {adj : Int → List Int} {n a : Nat} (hA : ∀ a, ∀ b ∈ adj a, 0 ≤ b ∧ b < n) {h : List Int} {c : Int} (M : MI adj n a h c) (ha : a < n) {m : Nat} (hm : n < m) : MI adj n (a + 1) (wedG adj m h ((a : Nat) : Int) (List.replicate n (default : Bool))).2.1 (c + bif (wedG adj m h ((a : Nat) : Int) (List.replicate n (default : Bool))).1 then 1 else 0) := by
  have P:=wedG_post hA M.len M.inn m ((a : Nat) : Int) (List.replicate n (default : Bool)) (by omega) (by simp) (by have:=List.count_le_length (a:=false) (l:=List.replicate n (default : Bool));simp only [List.length_replicate] at this;omega)
  have hrep : ∀ b : Nat, (List.replicate n (default : Bool)).getD b default = false := fun b => by
    rw [List.getD_eq_getElem?_getD,List.getElem?_replicate];split <;> rfl
  generalize wedG adj m h ((a : Nat) : Int) (List.replicate n (default : Bool)) = r at P
  obtain ⟨r1,rh,rt⟩:=r
  obtain ⟨T,T0,T1,T2⟩:=M.sat
  cases r1 with
  | true =>
    have P1:=P.ct rfl;have P2:=P.edge rfl;have P3:=P.cls rfl T T1;have P4:=P.hl;dsimp only at P1 P2 P3 P4 ⊢
    refine ⟨P4,P.inn,fun b hb h0=>?_,fun x hx=>?_,fun x hx=>?_,?_,⟨T,T0,fun b hb=>?_,fun x hx=>?_⟩⟩
    · rcases P2 b with e | e
      · rw [e] at h0 ⊢;exact M.edge b hb h0
      · exact e
    · have h1:=P1 x;rw [if_neg (by omega)] at h1
      by_cases e : x = ((a : Nat) : Int)
      · rw [if_pos e] at h1;have h2:=M.lt x (by omega);omega
      · rw [if_neg e] at h1;have h2:=M.one x hx;omega
    · have h1:=P1 x;rw [if_neg (by omega),if_neg (by omega)] at h1;have h2:=M.lt x (by omega);omega
    · have h1:=P1 (-1);rw [if_pos rfl,if_neg (by omega)] at h1;have h2:=M.cc
      simp only [cond_true];omega
    · rw [P3.1 b hb];exact T1 b hb
    · have h1:=P1 ((x : Nat) : Int);rw [if_neg (by omega)] at h1
      by_cases e : ((x : Nat) : Int) = ((a : Nat) : Int)
      · left;rw [if_pos e] at h1;have h2:=M.lt ((x : Nat) : Int) (by omega);omega
      · rw [if_neg e] at h1
        rcases T2 x (by omega) with q | q
        · left;omega
        · exact .inr q
  | false =>
    obtain ⟨n1,n2,n3⟩:=P.no rfl
    have P4:=P.tl
    dsimp only at n1 n2 n3 P4 ⊢
    subst n1
    refine ⟨M.len,M.inn,M.edge,M.one,fun x hx=>M.lt x (by omega),by have:=M.cc;simp only [cond_false];omega,⟨fun b=>T b || rt.getD b default,fun b hb=>?_,fun b hb=>?_,fun x hx=>?_⟩⟩
    · simp only [Bool.or_eq_true] at hb
      rcases hb with q | q
      · exact T0 b q
      · rcases Nat.lt_or_ge b n with z | z
        · exact z
        · rw [List.getD_eq_getElem?_getD,List.getElem?_eq_none (by omega)] at q;cases q
    · simp only [Bool.or_eq_true] at hb ⊢
      rcases hb with q | q
      · exact ⟨(T1 b q).1,fun b' hb'=>.inl ((T1 b q).2 b' hb')⟩
      · exact ⟨(n2 b q (hrep b)).1,fun b' hb'=>.inr ((n2 b q (hrep b)).2 b' hb')⟩
    · simp only [Bool.or_eq_true]
      by_cases e : x = a
      · subst e;exact .inr fun b hb=>.inr (n3 b hb)
      · rcases T2 x (by omega) with q | q
        · exact .inl q
        · exact .inr fun b hb=>.inl (q b hb)
theorem nodup_sub_len {α : Type} [DecidableEq α] : ∀ {l m : List α}, l.Nodup → (∀ x ∈ l, x ∈ m) → l.length ≤ m.length
  | [],m,_,_=>Nat.zero_le _
  | x :: l, m, h, hs => by
    have h1:=List.nodup_cons.1 h
    have hx:=hs x (List.mem_cons_self ..)
    have:=nodup_sub_len (l:=l) (m:=m.erase x) h1.2 fun y hy=>(List.mem_erase_of_ne (fun e=>h1.1 (by rw [← e];exact hy))).2 (hs y (List.mem_cons_of_mem _ hy))
    rw [List.length_erase_of_mem hx] at this
    have:=List.length_pos_of_mem hx
    simp only [List.length_cons];omega
theorem count_one_idx {l : List Int} {x : Int} (h : l.count x ≤ 1) {i j : Nat} (hi : i < l.length) (hj : j < l.length) (ei : l.getD i default = x) (ej : l.getD j default = x) : i = j := by
  induction l generalizing i j with
  | nil=>exact absurd hi (Nat.not_lt_zero _)
  | cons y l ih =>
    rw [List.count_cons] at h
    match i,j with
    | 0,0=>rfl
    | 0, j + 1 =>
      simp only [List.getD_cons_zero] at ei
      simp only [List.getD_cons_succ] at ej
      have h2 : 0 < l.count x:=List.count_pos_iff.2 (by rw [← ej];exact getD_mem (by simp only [List.length_cons] at hj;omega))
      rw [if_pos (by simp [ei])] at h;omega
    | i + 1, 0 =>
      simp only [List.getD_cons_zero] at ej
      simp only [List.getD_cons_succ] at ei
      have h2 : 0 < l.count x:=List.count_pos_iff.2 (by rw [← ei];exact getD_mem (by simp only [List.length_cons] at hi;omega))
      rw [if_pos (by simp [ej])] at h;omega
    | i + 1, j + 1 =>
      simp only [List.getD_cons_succ] at ei ej
      simp only [List.length_cons] at hi hj
      rw [ih (by omega) (by omega) (by omega) ei ej]
theorem nodup_mapOn {α β : Type} {f : α → β} : ∀ {l : List α}, l.Nodup → (∀ x ∈ l, ∀ y ∈ l, f x = f y → x = y) → (l.map f).Nodup
  | [],_,_=>List.nodup_nil
  | x :: l, h, hf => by
    have h1:=List.nodup_cons.1 h
    refine List.nodup_cons.2 ⟨fun hm=>?_,nodup_mapOn h1.2 fun a ha b hb=>hf a (List.mem_cons_of_mem _ ha) b (List.mem_cons_of_mem _ hb)⟩
    obtain ⟨y,hy,e⟩:=List.mem_map.1 hm
    have:=hf y (List.mem_cons_of_mem _ hy) x (List.mem_cons_self ..) e
    rw [this] at hy;exact h1.1 hy
/-- The places that are taken. -/
def gotB (h : List Int) (n : Nat) : List Nat:=(List.range n).filter fun b=>decide (0 ≤ h.getD b default)
theorem gotB_mem {h : List Int} {n b : Nat} : b ∈ gotB h n ↔ b < n ∧ 0 ≤ h.getD b default:=by simp [gotB]
theorem gotB_nodup (h : List Int) (n : Nat) : (gotB h n).Nodup:=List.Pairwise.filter _ (List.nodup_range)
theorem gotB_len_from : ∀ (h : List Int), (∀ y ∈ h, -1 ≤ y) → (gotB h h.length).length + h.count (-1) = h.length := fun h => by
  have key : ∀ (l p : List Int), (∀ y ∈ l, -1 ≤ y) → ((List.range' p.length l.length).filter fun b => decide (0 ≤ (p ++ l).getD b default)).length + l.count (-1) = l.length := by
    intro l
    induction l with
    | nil=>intro p _;rfl
    | cons x l ih =>
      intro p hl
      have h1:=ih (p ++ [x]) fun y hy=>hl y (List.mem_cons_of_mem _ hy)
      simp only [List.length_append,List.length_singleton,List.append_assoc,List.singleton_append] at h1
      have hx:=hl x (List.mem_cons_self ..)
      have e : (p ++ x :: l).getD p.length default = x:=by simp
      rw [List.length_cons,List.range'_succ,List.filter_cons,e,List.count_cons]
      by_cases c : 0 ≤ x
      · rw [if_pos (decide_eq_true c),if_neg (by simp;omega)]
        simp only [List.length_cons];omega
      · rw [if_neg (by simp;omega),if_pos (by simp;omega)];omega
  intro hh
  have:=key h [] hh
  rw [List.length_nil,List.nil_append] at this
  unfold gotB
  rw [List.range_eq_range']
  exact this
theorem MI.gotN {adj : Int → List Int} {n a : Nat} {h : List Int} {c : Int} (M : MI adj n a h c) : c = ((gotB h n).length : Int) := by
  have h1:=gotB_len_from h fun y hy=>(M.inn y hy).1
  have h2:=M.cc
  rw [M.len] at h1
  omega
/-- No set of pairs is greater. -/
theorem MI.most {adj : Int → List Int} {n : Nat} {h : List Int} {c : Int} (M : MI adj n n h c) {P : List (Nat × Nat)} (h1 : (P.map Prod.fst).Nodup) (h2 : (P.map Prod.snd).Nodup) (he : ∀ p ∈ P, p.1 < n ∧ p.2 < n ∧ ((p.2 : Nat) : Int) ∈ adj ((p.1 : Nat) : Int)) : ((P.length : Nat) : Int) ≤ c := by
  obtain ⟨T,T0,T1,T2⟩:=M.sat
  rw [M.gotN]
  have hnd : P.Nodup := by
    have : ∀ {l : List (Nat × Nat)}, (l.map Prod.fst).Nodup → l.Nodup := fun {l} => by
      induction l with
      | nil=>exact fun _=>List.nodup_nil
      | cons x l ih =>
        intro q
        have q:=List.nodup_cons.1 q
        exact List.nodup_cons.2 ⟨fun z=>q.1 (List.mem_map.2 ⟨x,z,rfl⟩),ih q.2⟩
    exact this h1
  have inj : ∀ {f : Nat × Nat → Nat} {l : List (Nat × Nat)}, (l.map f).Nodup → ∀ x ∈ l, ∀ y ∈ l, f x = f y → x = y := fun {f l} => by
    induction l with
    | nil=>exact fun _ x hx=>absurd hx (by simp)
    | cons z l ih =>
      intro q x hx y hy e
      have q:=List.nodup_cons.1 q
      rcases List.mem_cons.1 hx with e1 | hx <;> rcases List.mem_cons.1 hy with e2 | hy
      · rw [e1,e2]
      · exact absurd (List.mem_map.2 ⟨y,hy,by rw [← e,e1]⟩) q.1
      · exact absurd (List.mem_map.2 ⟨x,hx,by rw [e,e2]⟩) q.1
      · exact ih q.2 x hx y hy e
  have w : ∀ x : Nat, x < n → (h.count ((x : Nat) : Int) = 1) → ∃ b : Nat, b < n ∧ h.getD b default = ((x : Nat) : Int) := fun x _ hx => by
    have : ((x : Nat) : Int) ∈ h:=List.count_pos_iff.1 (by omega)
    obtain ⟨b,hb,e⟩:=mem_getD (d:=(default : Int)) this
    exact ⟨b,by have:=M.len;omega,e⟩
  have ex : ∀ p : Nat × Nat, ∃ b : Nat, p ∈ P → b ∈ gotB h n ∧ (T p.2 = true → b = p.2) ∧ (T p.2 ≠ true → h.getD b default = ((p.1 : Nat) : Int) ∧ T b ≠ true) := fun p => by
    by_cases hp : p ∈ P
    · obtain ⟨e1,e2,e3⟩:=he p hp
      by_cases hT : T p.2 = true
      · exact ⟨p.2,fun _=>⟨gotB_mem.2 ⟨e2,(T1 _ hT).1⟩,fun _=>rfl,fun q=>absurd hT q⟩⟩
      · rcases T2 p.1 e1 with q | q
        · obtain ⟨b,hb,e⟩:=w p.1 e1 q
          exact ⟨b,fun _=>⟨gotB_mem.2 ⟨hb,by omega⟩,fun z=>absurd z hT,fun _=>⟨e,fun z=>hT (by have:=(T1 b z).2 ((p.2 : Nat) : Int) (by rw [e];exact e3);simpa using this)⟩⟩⟩
        · exact absurd (by have:=q _ e3;simpa using this) hT
    · exact ⟨0,fun q=>absurd q hp⟩
  obtain ⟨φ,hφ⟩:=Classical.axiomOfChoice ex
  have hm:=nodup_sub_len (l:=P.map φ) (m:=gotB h n) (nodup_mapOn hnd fun x hx y hy e=>?_) (fun b hb=>?_)
  · rw [List.length_map] at hm;omega
  · obtain ⟨_,x1,x2⟩:=hφ x hx
    obtain ⟨_,y1,y2⟩:=hφ y hy
    by_cases tx : T x.2 = true <;> by_cases ty : T y.2 = true
    · exact inj h2 x hx y hy (by rw [← x1 tx,← y1 ty,e])
    · exact absurd (by rw [← e,x1 tx];exact tx) (y2 ty).2
    · exact absurd (by rw [e,y1 ty];exact ty) (x2 tx).2
    · have e1:=(x2 tx).1;have e2:=(y2 ty).1
      rw [e,e2] at e1
      exact inj h1 x hx y hy (by show x.1 = y.1;omega)
  · obtain ⟨p,hp,e⟩:=List.mem_map.1 hb
    rw [← e];exact (hφ p hp).1
/-- Its own pairs. -/
def gotP (h : List Int) (n : Nat) : List (Nat × Nat):=(gotB h n).map fun b=>((h.getD b default).toNat,b)
theorem MI.gotPairs {adj : Int → List Int} {n a : Nat} {h : List Int} {c : Int} (M : MI adj n a h c) : ((gotP h n).map Prod.fst).Nodup ∧ ((gotP h n).map Prod.snd).Nodup ∧ (∀ p ∈ gotP h n, p.1 < n ∧ p.2 < n ∧ ((p.2 : Nat) : Int) ∈ adj ((p.1 : Nat) : Int)) ∧ (((gotP h n).length : Nat) : Int) = c := by
  have e : ∀ b,b ∈ gotB h n → (((h.getD b default).toNat : Nat) : Int) = h.getD b default:=fun b hb=>by have:=(gotB_mem.1 hb).2;omega
  refine ⟨?_,?_,fun p hp=>?_,by rw [M.gotN];simp [gotP]⟩
  · unfold gotP
    rw [List.map_map]
    refine nodup_mapOn (gotB_nodup h n) fun x hx y hy q=>?_
    have q : (h.getD x default).toNat = (h.getD y default).toNat:=q
    have h1:=gotB_mem.1 hx;have h2:=gotB_mem.1 hy
    exact count_one_idx (M.one (h.getD x default) h1.2) (by have:=M.len;omega) (by have:=M.len;omega) rfl (by omega)
  · unfold gotP
    rw [List.map_map]
    exact nodup_mapOn (gotB_nodup h n) fun x hx y hy q=>q
  · obtain ⟨b,hb,rfl⟩:=List.mem_map.1 hp
    have h1:=gotB_mem.1 hb
    have h2:=M.inn (h.getD b default) (getD_mem (by have:=M.len;omega))
    dsimp only
    rw [e b hb]
    exact ⟨by omega,h1.1,M.edge b h1.1 h1.2⟩
end Go.Proofs.Ytkkijpibajigfaa
