import Derived.Test.YtkkijpibajigfaaM218
set_option maxHeartbeats 4000000
set_option linter.unusedSimpArgs false
set_option linter.unusedVariables false
namespace Go.Proofs.Ytkkijpibajigfaa
open Go Go.Lite Go.Proofs
/-! ### The same partners by both ways -/
theorem wed_r_eq : ∀ (m : Nat) (may : List (List Int)) (hus : List Int) (a : Int) (tr : List Bool), wed_r m may hus a tr = wedG (fun a => may.getD a.toNat default) m hus a tr
  | 0, _, _, _, _ => rfl
  | m + 1, may, hus, a, tr => by
    unfold wed_r wedG
    refine loopN_goL (F := wedF (wedG (fun a => may.getD a.toNat default) m) a) fun i v next => ?_
    have ih := wed_r_eq m may
    simp only [wedF, ih]
    cases v.2.getD ((may.getD a.toNat default).getD i default).toNat default with
    | true => rfl
    | false =>
      cases decide (v.1.getD ((may.getD a.toNat default).getD i default).toNat default < 0) with
      | true => rfl
      | false => simp only [cond_false, Bool.not_false, cond_true, Bool.false_or]
/-- A table's rows as lists. -/
def adjM (x : List (List Bool)) (a : Int) : List Int := ((List.range x.length).filter fun b => (x.getD a.toNat default).getD b default).map fun b => ((b : Nat) : Int)
def swp (r : Bool × List Int × List Bool) : Bool × List Bool × List Int := (r.1, r.2.2, r.2.1)
def augF (rec : List Int → Int → List Bool → Bool × List Int × List Bool) (a : Int) (b : Int) (v : List Bool × List Int) (next : List Bool × List Int → Bool × List Bool × List Int) : Bool × List Bool × List Int :=
  bif v.1.getD b.toNat default then next v
  else bif decide (v.2.getD b.toNat default < 0) then (true, v.1.set b.toNat true, v.2.set b.toNat a)
  else bif (rec v.2 (v.2.getD b.toNat default) (v.1.set b.toNat true)).1 then (true, (rec v.2 (v.2.getD b.toNat default) (v.1.set b.toNat true)).2.2, (rec v.2 (v.2.getD b.toNat default) (v.1.set b.toNat true)).2.1.set b.toNat a)
  else next ((rec v.2 (v.2.getD b.toNat default) (v.1.set b.toNat true)).2.2, (rec v.2 (v.2.getD b.toNat default) (v.1.set b.toNat true)).2.1)
theorem augF_goL (rec : List Int → Int → List Bool → Bool × List Int × List Bool) (a : Int) : ∀ (l : List Int) (h : List Int) (t : List Bool), goL (augF rec a) (fun v => (false, v.1, v.2)) l (t, h) = swp (goL (wedF rec a) (fun v => (false, v.1, v.2)) l (h, t))
  | [], _, _ => rfl
  | b :: l, h, t => by
    simp only [goL, augF, wedF]
    cases t.getD b.toNat default with
    | true => exact augF_goL rec a l h t
    | false =>
      cases decide (h.getD b.toNat default < 0) with
      | true => rfl
      | false =>
        simp only [cond_false]
        generalize rec h (h.getD b.toNat default) (t.set b.toNat true) = r
        obtain ⟨r1, r2, r3⟩ := r
        cases r1 with
        | true => rfl
        | false => exact augF_goL rec a l r2 r3
theorem aug_r_eq : ∀ (m : Nat) (x : List (List Bool)) (a : Int) (t : List Bool) (h : List Int), l9Aug_r m x a t h = swp (wedG (adjM x) m h a t)
  | 0, _, _, _, _ => rfl
  | m + 1, x, a, t, h => by
    unfold l9Aug_r wedG
    rw [← augF_goL]
    refine loopN_filter (F := augF (wedG (adjM x) m) a) (c := fun b => (x.getD a.toNat default).getD b default) fun i v next _ => ?_
    have ih := aug_r_eq m x
    simp only [augF, ih, swp, Int.toNat_natCast]
    cases (x.getD a.toNat default).getD i default with
    | false => rfl
    | true =>
      cases v.1.getD i default with
      | true => rfl
      | false =>
        cases decide (v.2.getD i default < 0) with
        | true => rfl
        | false => simp only [cond_false, cond_true, Bool.not_false, Bool.not_true, Bool.false_or]
/-- Who may go with whom. -/
def adjC (c : Nat → Nat → Bool) (n : Nat) (a : Int) : List Int := if a.toNat < n then rowTo c a.toNat n else []
theorem adjC_congr {c d : Nat → Nat → Bool} {n : Nat} (h : ∀ a b, a < n → b < n → c a b = d a b) : adjC c n = adjC d n := by
  funext a
  unfold adjC
  split
  · rename_i ha
    unfold rowTo
    congr 1
    exact List.filter_congr fun b hb => h a.toNat b ha (List.mem_range.1 hb)
  · rfl
theorem MayI.adj {c : Nat → Nat → Bool} {n : Nat} {v : List (List Int)} (h : MayI c n n 0 v) : (fun a : Int => v.getD a.toNat default) = adjC c n := by
  funext a
  unfold adjC
  split
  · rename_i ha; exact h.all ha
  · rename_i ha
    rw [List.getD_eq_getElem?_getD, List.getElem?_eq_none (by have := h.len; omega)]; rfl
theorem MatI.adj {c : Nat → Nat → Bool} {n : Nat} {v : List (List Bool)} (h : MatI c n n 0 v) : adjM v = adjC c n := by
  funext a
  unfold adjC adjM
  rw [h.len]
  split
  · rename_i ha
    unfold rowTo
    congr 1
    refine List.filter_congr fun b hb => ?_
    have hb := List.mem_range.1 hb
    have := h.cell a.toNat b ha hb
    rw [if_pos (.inl ha)] at this
    exact this
  · rename_i ha
    rw [List.getD_eq_getElem?_getD, List.getElem?_eq_none (by have := h.len; omega)]
    have : (List.range n).filter (fun b => ((none : Option (List Bool)).getD default).getD b default) = [] := by
      rw [List.filter_eq_nil_iff]
      intro b _
      exact Bool.false_ne_true
    rw [this]; rfl
/-- The number that is found. -/
def mostN (adj : Int → List Int) (n : Nat) : Int := loopN (fun i (v : List Int × Int) next => next ((wedG adj 100 v.1 ((i : Nat) : Int) (List.replicate n (default : Bool))).2.1, v.2 + bif (wedG adj 100 v.1 ((i : Nat) : Int) (List.replicate n (default : Bool))).1 then 1 else 0)) (fun v => v.2) n 0 (List.replicate n (-1), 0)
theorem most_count {adj : Int → List Int} {n : Nat} {F : List Int → Int → Bool × List Int} (hF : ∀ h i, F h i = ((wedG adj 100 h i (List.replicate n (default : Bool))).1, (wedG adj 100 h i (List.replicate n (default : Bool))).2.1)) :
    loopN (fun i4 (v4 : (List Int) × Int) next => bif (F v4.1 ((i4 : Nat) : Int)).1 then next ((F v4.1 ((i4 : Nat) : Int)).2, v4.2 + 1) else next ((F v4.1 ((i4 : Nat) : Int)).2, v4.2)) (fun (v4 : (List Int) × Int) => v4.2) n 0 (List.replicate n (-1), 0) = mostN adj n := by
  unfold mostN
  refine loopN_rel0 (fun _ (s t : List Int × Int) => s = t) (fun x y => x = y) rfl (fun i s t n1 n2 hi e hn => ?_) (fun s t e => by rw [e])
  subst e
  rw [hF]
  cases (wedG adj 100 s.1 ((i : Nat) : Int) (List.replicate n (default : Bool))).1 with
  | true => exact hn _ _ rfl
  | false => exact hn _ _ (by rw [cond_false, Int.add_zero])
theorem implMost_val {x : Family} {l : Law} (hf : specIsFamily x = true) (hl : specIsLaw l = true) (y : Int) : implMost x l y = mostN (adjC (canI x l y) x.people.length) x.people.length := by
  unfold implMost
  rw [isFamily_eq, isLaw_eq, hf, hl]
  simp only [Bool.not_true, Bool.or_false, cond_false]
  refine loopN_to (fun i (v : List (List Int)) => MayI (canI x l y) x.people.length i 0 v) (fun (r : Int) => r = mostN (adjC (canI x l y) x.people.length) x.people.length) (MayI.start _ _) (fun i v next hi hv hn => ?_) (fun v hv => ?_)
  · exact loopN_to (fun j (v : List (List Int)) => MayI (canI x l y) x.people.length i j v) (fun (r : Int) => r = mostN (adjC (canI x l y) x.people.length) x.people.length) hv (fun j w next2 hj hw hn2 => cond_both (p := fun (r : Int) => r = mostN (adjC (canI x l y) x.people.length) x.people.length) (fun c => hn2 _ (hw.put hi c)) (fun c => hn2 _ (hw.skip c))) (fun w hw => hn w hw.next)
  · refine loopN_to (fun i (h : List Int) => h.length = x.people.length ∧ ∀ k : Nat, k < i → h.getD k default = -1) (fun (r : Int) => r = mostN (adjC (canI x l y) x.people.length) x.people.length) ⟨by simp, fun k hk => absurd hk (Nat.not_lt_zero _)⟩ (fun i w next hi hw hn => hn _ (minus_set hw hi)) (fun h hh => ?_)
    rw [minus_rep hh]
    exact most_count (F := fun h i => ((wed v h i (List.replicate x.people.length (default : Bool))).1, (wed v h i (List.replicate x.people.length (default : Bool))).2.1)) fun h i => by unfold wed; rw [wed_r_eq, hv.adj]
theorem specMost_val {x : Family} {l : Law} (hf : specIsFamily x = true) (hl : specIsLaw l = true) (y : Int) : specMost x l y = mostN (adjC (canS x l y) x.people.length) x.people.length := by
  unfold specMost
  rw [hf, hl]
  simp only [Bool.not_true, Bool.or_false, cond_false]
  rw [blank_len]
  refine loopN_to (fun i (v : List (List Bool) × List Int) => MatI (canS x l y) x.people.length i 0 v.1 ∧ v.2 = List.replicate i (-1)) (fun (r : Int) => r = mostN (adjC (canS x l y) x.people.length) x.people.length) ⟨MatI.start _ _, rfl⟩ (fun i v next hi hv hn => ?_) (fun v hv => ?_)
  · rw [hv.1.len]
    exact loopN_to (fun j (w : List (List Bool)) => MatI (canS x l y) x.people.length i j w) (fun (r : Int) => r = mostN (adjC (canS x l y) x.people.length) x.people.length) hv.1 (fun j w next2 hj hw hn2 => hn2 _ (hw.put hi)) (fun w hw => hn _ ⟨hw.next, by rw [hv.2, List.replicate_succ']⟩)
  · rw [hv.2, hv.1.len]
    exact most_count (F := fun h i => ((l9Aug v.1 i (List.replicate x.people.length (default : Bool)) h).1, (l9Aug v.1 i (List.replicate x.people.length (default : Bool)) h).2.2)) fun h i => by unfold l9Aug; rw [aug_r_eq, hv.1.adj]; rfl
theorem most_eq (x : Family) (l : Law) (y : Int) : implMost x l y = specMost x l y := by
  cases hf : specIsFamily x with
  | false => unfold implMost specMost; rw [isFamily_eq, isLaw_eq, hf]; simp
  | true =>
    cases hl : specIsLaw l with
    | false => unfold implMost specMost; rw [isFamily_eq, isLaw_eq, hl]; simp
    | true =>
      rw [implMost_val hf hl, specMost_val hf hl, adjC_congr fun a b ha hb => (can_eq hf hl y ha hb)]
end Go.Proofs.Ytkkijpibajigfaa
