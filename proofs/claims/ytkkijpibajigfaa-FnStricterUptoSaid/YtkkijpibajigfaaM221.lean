import Derived.Test.YtkkijpibajigfaaM218
set_option maxHeartbeats 4000000
set_option linter.unusedSimpArgs false
set_option linter.unusedVariables false
namespace Go.Proofs.Ytkkijpibajigfaa
open Go Go.Lite Go.Proofs
/-! ### The same partners by both ways -/
theorem wed_r_eq : ∀ (m : Nat) (may : List (List Int)) (hus : List Int) (a : Int) (tr : List Bool), wed_r m may hus a tr = wedG (fun a => may.getD a.toNat default) m hus a tr
  | 0, _, _, _, _ => rfl
  | m + 1, may, hus, a, tr => by
    unfold wed_r wedG
    refine loopN_goL (F := wedF (wedG (fun a => may.getD a.toNat default) m) a) fun i v next => ?_
    have ih := wed_r_eq m may
    simp only [wedF, ih]
    cases v.2.getD ((may.getD a.toNat default).getD i default).toNat default with
    | true => rfl
    | false =>
      cases decide (v.1.getD ((may.getD a.toNat default).getD i default).toNat default < 0) with
      | true => rfl
      | false => simp only [cond_false, Bool.not_false, cond_true, Bool.false_or]
/-- A table's rows as lists. -/
def adjM (x : List (List Bool)) (a : Int) : List Int := ((List.range x.length).filter fun b => (x.getD a.toNat default).getD b default).map fun b => ((b : Nat) : Int)
/-- Who may go with whom. -/
def adjC (c : Nat → Nat → Bool) (n : Nat) (a : Int) : List Int := if a.toNat < n then rowTo c a.toNat n else []
theorem adjC_bd (c : Nat → Nat → Bool) (n : Nat) : ∀ a, ∀ b ∈ adjC c n a, 0 ≤ b ∧ b < n := fun a b hb => by
  unfold adjC at hb
  split at hb
  · exact rowTo_mem hb
  · exact absurd hb (by simp)
theorem adjC_mem {c : Nat → Nat → Bool} {n a b : Nat} : ((b : Nat) : Int) ∈ adjC c n ((a : Nat) : Int) ↔ a < n ∧ b < n ∧ c a b = true := by
  unfold adjC rowTo
  rw [Int.toNat_natCast]
  split
  · rename_i h
    simp only [List.mem_map, List.mem_filter, List.mem_range]
    constructor
    · rintro ⟨x, ⟨h1, h2⟩, h3⟩
      have : x = b := by omega
      subst this
      exact ⟨h, h1, h2⟩
    · rintro ⟨_, h1, h2⟩; exact ⟨b, ⟨h1, h2⟩, rfl⟩
  · rename_i h
    simp [h]
theorem MayI.adj {c : Nat → Nat → Bool} {n : Nat} {v : List (List Int)} (h : MayI c n n 0 v) : (fun a : Int => v.getD a.toNat default) = adjC c n := by
  funext a
  unfold adjC
  split
  · rename_i ha; exact h.all ha
  · rename_i ha
    rw [List.getD_eq_getElem?_getD, List.getElem?_eq_none (by have := h.len; omega)]; rfl
theorem MatI.adj {c : Nat → Nat → Bool} {n : Nat} {v : List (List Bool)} (h : MatI c n n 0 v) : adjM v = adjC c n := by
  funext a
  unfold adjC adjM
  rw [h.len]
  split
  · rename_i ha
    unfold rowTo
    congr 1
    refine List.filter_congr fun b hb => ?_
    have hb := List.mem_range.1 hb
    have := h.cell a.toNat b ha hb
    rw [if_pos (.inl ha)] at this
    exact this
  · rename_i ha
    rw [List.getD_eq_getElem?_getD, List.getElem?_eq_none (by have := h.len; omega)]
    have : (List.range n).filter (fun b => ((none : Option (List Bool)).getD default).getD b default) = [] := by
      rw [List.filter_eq_nil_iff]
      intro b _
      exact Bool.false_ne_true
    rw [this]; rfl
/-- The number that is found. -/
def mostN (adj : Int → List Int) (n : Nat) : Int := loopN (fun i (v : List Int × Int) next => next ((wedG adj 100 v.1 ((i : Nat) : Int) (List.replicate n (default : Bool))).2.1, v.2 + bif (wedG adj 100 v.1 ((i : Nat) : Int) (List.replicate n (default : Bool))).1 then 1 else 0)) (fun v => v.2) n 0 (List.replicate n (-1), 0)
theorem mostN_MI {adj : Int → List Int} {n : Nat} (hA : ∀ a, ∀ b ∈ adj a, 0 ≤ b ∧ b < n) (hn : n ≤ 40) : ∃ h, MI adj n n h (mostN adj n) :=
  loopN_to (fun i (v : List Int × Int) => MI adj n i v.1 v.2) (fun r => ∃ h, MI adj n n h r) (MI.start adj n) (fun i v next hi hv hk => hk _ (hv.step hA hi (by omega))) (fun v hv => ⟨v.1, hv⟩)
theorem most_count {adj : Int → List Int} {n : Nat} {F : List Int → Int → Bool × List Int} (hF : ∀ h i, F h i = ((wedG adj 100 h i (List.replicate n (default : Bool))).1, (wedG adj 100 h i (List.replicate n (default : Bool))).2.1)) :
    loopN (fun i4 (v4 : (List Int) × Int) next => bif (F v4.1 ((i4 : Nat) : Int)).1 then next ((F v4.1 ((i4 : Nat) : Int)).2, v4.2 + 1) else next ((F v4.1 ((i4 : Nat) : Int)).2, v4.2)) (fun (v4 : (List Int) × Int) => v4.2) n 0 (List.replicate n (-1), 0) = mostN adj n := by
  unfold mostN
  refine loopN_rel0 (fun _ (s t : List Int × Int) => s = t) (fun x y => x = y) rfl (fun i s t n1 n2 hi e hn => ?_) (fun s t e => by rw [e])
  subst e
  rw [hF]
  cases (wedG adj 100 s.1 ((i : Nat) : Int) (List.replicate n (default : Bool))).1 with
  | true => exact hn _ _ rfl
  | false => exact hn _ _ (by rw [cond_false, Int.add_zero])
theorem implMost_val {x : Family} {l : Law} (hf : specIsFamily x = true) (hl : specIsLaw l = true) (y : Int) : implMost x l y = mostN (adjC (canI x l y) x.people.length) x.people.length := by
  unfold implMost
  rw [isFamily_eq, isLaw_eq, hf, hl]
  simp only [Bool.not_true, Bool.or_false, cond_false]
  refine loopN_to (fun i (v : List (List Int)) => MayI (canI x l y) x.people.length i 0 v) (fun (r : Int) => r = mostN (adjC (canI x l y) x.people.length) x.people.length) (MayI.start _ _) (fun i v next hi hv hn => ?_) (fun v hv => ?_)
  · exact loopN_to (fun j (v : List (List Int)) => MayI (canI x l y) x.people.length i j v) (fun (r : Int) => r = mostN (adjC (canI x l y) x.people.length) x.people.length) hv (fun j w next2 hj hw hn2 => cond_both (p := fun (r : Int) => r = mostN (adjC (canI x l y) x.people.length) x.people.length) (fun c => hn2 _ (hw.put hi c)) (fun c => hn2 _ (hw.skip c))) (fun w hw => hn w hw.next)
  · refine loopN_to (fun i (h : List Int) => h.length = x.people.length ∧ ∀ k : Nat, k < i → h.getD k default = -1) (fun (r : Int) => r = mostN (adjC (canI x l y) x.people.length) x.people.length) ⟨by simp, fun k hk => absurd hk (Nat.not_lt_zero _)⟩ (fun i w next hi hw hn => hn _ (minus_set hw hi)) (fun h hh => ?_)
    rw [minus_rep hh]
    exact most_count (F := fun h i => ((wed v h i (List.replicate x.people.length (default : Bool))).1, (wed v h i (List.replicate x.people.length (default : Bool))).2.1)) fun h i => by unfold wed; rw [wed_r_eq, hv.adj]
def C21 (R : Bool) : LV × List (Nat × BC) := (.bool R, [])
def implStricter (x0 : Law) (x1 : Law) : Bool := (((((((((implIsLaw x0) && (implIsLaw x1)) && (decide (x1.degree ≤ x0.degree))) && (decide (x1.canon ≤ x0.canon))) && (decide (x1.affinity ≤ x0.affinity))) && (decide (x1.age ≤ x0.age))) && (decide (x0.wives ≤ x1.wives))) && (decide (x0.husbands ≤ x1.husbands))) && (x0.patriline || (!x1.patriline))) && (x0.matriline || (!x1.matriline))
def A21 (x0 : Law) (x1 : Law) : Ann := .reg 2 [] [(1001, k50 x0), (1004, cg (implIsLaw x0) (k50 x1))] [4] [] [implIsLaw x0, (implIsLaw x0) && (implIsLaw x1), ((implIsLaw x0) && (implIsLaw x1)) && (decide (x1.degree ≤ x0.degree)), (((implIsLaw x0) && (implIsLaw x1)) && (decide (x1.degree ≤ x0.degree))) && (decide (x1.canon ≤ x0.canon)), ((((implIsLaw x0) && (implIsLaw x1)) && (decide (x1.degree ≤ x0.degree))) && (decide (x1.canon ≤ x0.canon))) && (decide (x1.affinity ≤ x0.affinity)), (((((implIsLaw x0) && (implIsLaw x1)) && (decide (x1.degree ≤ x0.degree))) && (decide (x1.canon ≤ x0.canon))) && (decide (x1.affinity ≤ x0.affinity))) && (decide (x1.age ≤ x0.age)), ((((((implIsLaw x0) && (implIsLaw x1)) && (decide (x1.degree ≤ x0.degree))) && (decide (x1.canon ≤ x0.canon))) && (decide (x1.affinity ≤ x0.affinity))) && (decide (x1.age ≤ x0.age))) && (decide (x0.wives ≤ x1.wives)), (((((((implIsLaw x0) && (implIsLaw x1)) && (decide (x1.degree ≤ x0.degree))) && (decide (x1.canon ≤ x0.canon))) && (decide (x1.affinity ≤ x0.affinity))) && (decide (x1.age ≤ x0.age))) && (decide (x0.wives ≤ x1.wives))) && (decide (x0.husbands ≤ x1.husbands)), ((((((((implIsLaw x0) && (implIsLaw x1)) && (decide (x1.degree ≤ x0.degree))) && (decide (x1.canon ≤ x0.canon))) && (decide (x1.affinity ≤ x0.affinity))) && (decide (x1.age ≤ x0.age))) && (decide (x0.wives ≤ x1.wives))) && (decide (x0.husbands ≤ x1.husbands))) && (!x0.patriline), ((((((((implIsLaw x0) && (implIsLaw x1)) && (decide (x1.degree ≤ x0.degree))) && (decide (x1.canon ≤ x0.canon))) && (decide (x1.affinity ≤ x0.affinity))) && (decide (x1.age ≤ x0.age))) && (decide (x0.wives ≤ x1.wives))) && (decide (x0.husbands ≤ x1.husbands))) && (x0.patriline || (!x1.patriline)), (((((((((implIsLaw x0) && (implIsLaw x1)) && (decide (x1.degree ≤ x0.degree))) && (decide (x1.canon ≤ x0.canon))) && (decide (x1.affinity ≤ x0.affinity))) && (decide (x1.age ≤ x0.age))) && (decide (x0.wives ≤ x1.wives))) && (decide (x0.husbands ≤ x1.husbands))) && (x0.patriline || (!x1.patriline))) && (!x0.matriline)] [gt ((((((((implIsLaw x0) && (implIsLaw x1)) && (decide (x1.degree ≤ x0.degree))) && (decide (x1.canon ≤ x0.canon))) && (decide (x1.affinity ≤ x0.affinity))) && (decide (x1.age ≤ x0.age))) && (decide (x0.wives ≤ x1.wives))) && (decide (x0.husbands ≤ x1.husbands))) (gf x0.patriline (pf ((((((((((implIsLaw x0) && (implIsLaw x1)) && (decide (x1.degree ≤ x0.degree))) && (decide (x1.canon ≤ x0.canon))) && (decide (x1.affinity ≤ x0.affinity))) && (decide (x1.age ≤ x0.age))) && (decide (x0.wives ≤ x1.wives))) && (decide (x0.husbands ≤ x1.husbands))) && (!x0.patriline)) = true))), gt (((((((((implIsLaw x0) && (implIsLaw x1)) && (decide (x1.degree ≤ x0.degree))) && (decide (x1.canon ≤ x0.canon))) && (decide (x1.affinity ≤ x0.affinity))) && (decide (x1.age ≤ x0.age))) && (decide (x0.wives ≤ x1.wives))) && (decide (x0.husbands ≤ x1.husbands))) && (x0.patriline || (!x1.patriline))) (gf x0.matriline (pf (((((((((((implIsLaw x0) && (implIsLaw x1)) && (decide (x1.degree ≤ x0.degree))) && (decide (x1.canon ≤ x0.canon))) && (decide (x1.affinity ≤ x0.affinity))) && (decide (x1.age ≤ x0.age))) && (decide (x0.wives ≤ x1.wives))) && (decide (x0.husbands ≤ x1.husbands))) && (x0.patriline || (!x1.patriline))) && (!x0.matriline)) = true)))] [] [8, 1, 12, 1, 5, 5, 5, 5, 5, 9, 9, 9, 9, 9, 13, 13, 13, 13, 13, 17, 17, 17, 17, 17, 21, 21, 21, 21, 21, 25, 25, 25, 25, 25, 29, 29, 33, 33, 29, 0, 29, 37, 37, 41, 41, 37, 4, 37] (rt [] (C21 ((((((((((implIsLaw x0) && (implIsLaw x1)) && (decide (x1.degree ≤ x0.degree))) && (decide (x1.canon ≤ x0.canon))) && (decide (x1.affinity ≤ x0.affinity))) && (decide (x1.age ≤ x0.age))) && (decide (x0.wives ≤ x1.wives))) && (decide (x0.husbands ≤ x1.husbands))) && (x0.patriline || (!x1.patriline))) && (x0.matriline || (!x1.matriline)))))
theorem ok_impl_IsStricter (x0 : Law) (x1 : Law) : FnT Try.prog 21 [.agg (cLaw false x0), .agg (cLaw false x1)] (C21 (implStricter x0 x1)) := by
  have aux : ∀ R, implStricter x0 x1 = R → slim (C21 R) (A21 x0 x1) [] := by
    intro R hR
    refine rg ⟨by ((try clear hR); intros; (try simp only [decide_eq_true_eq, decide_eq_false_iff_not, Bool.or_eq_true, Bool.and_eq_true, or_f_iff, not_f_iff, not_t_iff, Bool.not_eq_true', inR] at *); (repeat' apply And.intro) <;> (first | (intros; omega) | (simp_all [inR]; done))), by ((try clear hR); intros; (try simp only [decide_eq_true_eq, decide_eq_false_iff_not, Bool.or_eq_true, Bool.and_eq_true, or_f_iff, not_f_iff, not_t_iff, Bool.not_eq_true', inR] at *); (repeat' apply And.intro) <;> (first | (intros; omega) | (simp_all [inR]; done))), trivial, fun hg0 => trivial, trivial⟩ ?_
    exact congrArg C21 hR
  exact Fn.go 71 Try.func21 (by kernel_rfl) (by kernel_rfl) (by simp [C21, Frs, FrsL]) (A21 x0 x1) (by kernel_rfl) (aux _ rfl)
def k21 (x0 : Law) (x1 : Law) : Cl := (hres (C21 (implStricter x0 x1)), k0 (ok_impl_IsStricter x0 x1))
/-! ### A stricter law -/
def barsC (x0 : Family) (x1 : Law) (x2 : Int) (x3 : Int) (x4 : Int) : List Bool := ((((((((((((List.replicate 13 (default : Bool)).set 1 ((!decide (((x0.people.getD x2.toNat default).sex) = 1)) || (!decide (((x0.people.getD x3.toNat default).sex) = 2)))).set 2 ((l9Life (x0.people.getD x2.toNat default) x4) || (l9Life (x0.people.getD x3.toNat default) x4))).set 3 ((decide (x4 < (((x0.people.getD x2.toNat default).born) + x1.age))) || (decide (x4 < (((x0.people.getD x3.toNat default).born) + x1.age))))).set 4 (decide (x1.wives ≤ (((specMarried x0 x2 x4).length : Nat) : Int)))).set 5 (decide (x1.husbands ≤ (((specMarried x0 x3 x4).length : Nat) : Int)))).set 6 ((decide (0 ≤ ((l8Up x0 x2).getD x3.toNat default))) || (decide (0 ≤ ((l8Up x0 x3).getD x2.toNat default))))).set 7 ((!decide (x1.degree = 0)) && (l9Close x0 x2 x3 x1.degree))).set 8 (((!decide (x1.canon = 0)) && ((specCanon x0 x2 x3).2)) && (decide (((specCanon x0 x2 x3).1) ≤ x1.canon)))).set 9 (x1.patriline && (decide ((l7Founder x0 x2 1) = (l7Founder x0 x3 1))))).set 10 (x1.matriline && (decide ((l7Founder x0 x2 2) = (l7Founder x0 x3 2))))).set 11 ((!decide (x1.affinity = 0)) && ((l9Affine x0 x2 x3 x4 x1.affinity) || (l9Affine x0 x3 x2 x4 x1.affinity))))
theorem barsC_list (x0 : Family) (x1 : Law) (x2 : Int) (x3 : Int) (x4 : Int) : barsC x0 x1 x2 x3 x4 = [false, ((!decide (((x0.people.getD x2.toNat default).sex) = 1)) || (!decide (((x0.people.getD x3.toNat default).sex) = 2))), ((l9Life (x0.people.getD x2.toNat default) x4) || (l9Life (x0.people.getD x3.toNat default) x4)), ((decide (x4 < (((x0.people.getD x2.toNat default).born) + x1.age))) || (decide (x4 < (((x0.people.getD x3.toNat default).born) + x1.age)))), (decide (x1.wives ≤ (((specMarried x0 x2 x4).length : Nat) : Int))), (decide (x1.husbands ≤ (((specMarried x0 x3 x4).length : Nat) : Int))), ((decide (0 ≤ ((l8Up x0 x2).getD x3.toNat default))) || (decide (0 ≤ ((l8Up x0 x3).getD x2.toNat default)))), ((!decide (x1.degree = 0)) && (l9Close x0 x2 x3 x1.degree)), (((!decide (x1.canon = 0)) && ((specCanon x0 x2 x3).2)) && (decide (((specCanon x0 x2 x3).1) ≤ x1.canon))), (x1.patriline && (decide ((l7Founder x0 x2 1) = (l7Founder x0 x3 1)))), (x1.matriline && (decide ((l7Founder x0 x2 2) = (l7Founder x0 x3 2)))), ((!decide (x1.affinity = 0)) && ((l9Affine x0 x2 x3 x4 x1.affinity) || (l9Affine x0 x3 x2 x4 x1.affinity))), false] := rfl
theorem barsC_get (x : Family) (l : Law) (p q y : Int) : ∀ i : Nat, i ≠ 12 → (l9Bars x l p q y).getD i default = (barsC x l p q y).getD i default := by
  unfold l9Bars
  refine loopN_to (fun _ (v : List Bool) => ∀ i : Nat, i ≠ 12 → v.getD i default = (barsC x l p q y).getD i default) (fun (v : List Bool) => ∀ i : Nat, i ≠ 12 → v.getD i default = (barsC x l p q y).getD i default) (fun i hi => rfl) (fun j v next hj hv hn => hn _ fun i hi => ?_) (fun v hv => hv)
  rw [getD_set, if_neg (fun h => hi h.1)]
  exact hv i hi
/-- Law h is as strict as l at least. -/
structure Str (h l : Law) : Prop where
  deg : 0 ≤ l.degree ∧ l.degree ≤ h.degree
  can : 0 ≤ l.canon ∧ l.canon ≤ h.canon
  aff : 0 ≤ l.affinity ∧ l.affinity ≤ h.affinity
  age : l.age ≤ h.age
  wi : h.wives ≤ l.wives
  hu : h.husbands ≤ l.husbands
  pa : l.patriline = true → h.patriline = true
  ma : l.matriline = true → h.matriline = true
theorem imp_cons {a b : Bool} {u v : List Bool} (h1 : a = true → b = true) (h2 : ∀ i : Nat, u.getD i default = true → v.getD i default = true) : ∀ i : Nat, (a :: u).getD i default = true → (b :: v).getD i default = true
  | 0 => by simpa using h1
  | i + 1 => by simpa using h2 i
theorem close_mono {x : Family} {p q d e : Int} (h : d ≤ e) (c : l9Close x p q d = true) : l9Close x p q e = true := by
  unfold l9Close at c ⊢
  simp only [Bool.and_eq_true, decide_eq_true_eq] at c ⊢
  exact ⟨c.1, by omega⟩
theorem affine_mono {x : Family} {p q y d e : Int} (h : d ≤ e) (c : l9Affine x p q y d = true) : l9Affine x p q y e = true := by
  unfold l9Affine at c ⊢
  rw [loopN_any] at c ⊢
  rcases c with ⟨j, hj, c⟩ | c
  · simp only [Bool.and_eq_true] at c ⊢
    exact .inl ⟨j, hj, c.1, close_mono h c.2⟩
  · exact .inr c
theorem bars_mono {h l : Law} (s : Str h l) (x : Family) (p q y : Int) (i : Nat) (c : (l9Bars x l p q y).getD i default = true) : (l9Bars x h p q y).getD i default = true := by
  by_cases hi : i = 12
  · subst hi
    exact (bars_get x h p q y).2.2.2 ((bars_get x l p q y).2.2.1 c)
  · rw [barsC_get _ _ _ _ _ i hi, barsC_list] at c ⊢
    obtain ⟨s1, s2, s3, s4, s5, s6, s7, s8⟩ := s
    revert c
    refine imp_cons id (imp_cons id (imp_cons id (imp_cons ?_ (imp_cons ?_ (imp_cons ?_ (imp_cons id (imp_cons ?_ (imp_cons ?_ (imp_cons ?_ (imp_cons ?_ (imp_cons ?_ (imp_cons id fun _ => id)))))))))))) i
    · simp only [Bool.or_eq_true, decide_eq_true_eq]; omega
    · simp only [decide_eq_true_eq]; omega
    · simp only [decide_eq_true_eq]; omega
    · simp only [Bool.and_eq_true, Bool.not_eq_true', decide_eq_false_iff_not]
      exact fun c => ⟨by omega, close_mono s1.2 c.2⟩
    · simp only [Bool.and_eq_true, Bool.not_eq_true', decide_eq_false_iff_not, decide_eq_true_eq]
      exact fun c => ⟨⟨by omega, c.1.2⟩, by omega⟩
    · simp only [Bool.and_eq_true]
      exact fun c => ⟨s7 c.1, c.2⟩
    · simp only [Bool.and_eq_true]
      exact fun c => ⟨s8 c.1, c.2⟩
    · simp only [Bool.and_eq_true, Bool.or_eq_true, Bool.not_eq_true', decide_eq_false_iff_not]
      exact fun c => ⟨by omega, c.2.imp (affine_mono s3.2) (affine_mono s3.2)⟩
theorem imp_mono {h l : Law} (s : Str h l) {x : Family} (hf : specIsFamily x = true) {p q : Int} (hp : 0 ≤ p ∧ p < x.people.length) (hq : 0 ≤ q ∧ q < x.people.length) (y z : Int) (hz : z ∈ impediments x l p q y) : z ∈ impediments x h p q y := by
  rw [imp_core hf hp hq] at hz ⊢
  have h0 : 0 ≤ z := by
    unfold l3Listed at hz
    revert hz
    refine loopN_to (fun _ (v : List Int) => z ∈ v → 0 ≤ z) (fun (r : List Int) => z ∈ r → 0 ≤ z) (fun h => by simp at h) (fun i v next hi hv hn => ?_) (fun v hv => hv)
    refine cond_both (p := fun (r : List Int) => z ∈ r → 0 ≤ z) (fun _ => hn _ fun h => ?_) (fun _ => hn _ hv)
    rcases List.mem_append.1 h with h | h
    · exact hv h
    · rw [List.mem_singleton] at h; omega
  obtain ⟨k, rfl⟩ := Int.eq_ofNat_of_zero_le h0
  obtain ⟨h1, h2⟩ := (listed_mem _ k).1 hz
  refine (listed_mem _ k).2 ⟨?_, bars_mono s x p q y k h2⟩
  rw [l9Bars_len] at h1 ⊢; exact h1
theorem can_mono {h l : Law} (s : Str h l) {x : Family} (hf : specIsFamily x = true) (y : Int) {a b : Nat} (ha : a < x.people.length) (hb : b < x.people.length) (c : canI x h y a b = true) : canI x l y a b = true := by
  unfold canI at c ⊢
  simp only [Bool.and_eq_true, decide_eq_true_eq] at c ⊢
  refine ⟨c.1, ?_⟩
  have e : impediments x h ((a : Nat) : Int) ((b : Nat) : Int) y = [] := List.length_eq_zero_iff.1 (by omega)
  have : impediments x l ((a : Nat) : Int) ((b : Nat) : Int) y = [] := List.eq_nil_iff_forall_not_mem.2 fun z hz => by
    have := imp_mono s hf (p := ((a : Nat) : Int)) (q := ((b : Nat) : Int)) (by omega) (by omega) y z hz
    rw [e] at this; exact absurd this (by simp)
  rw [this]; rfl
theorem most_mono {h l : Law} (s : Str h l) {x : Family} (hf : specIsFamily x = true) (h1 : specIsLaw h = true) (h2 : specIsLaw l = true) (y : Int) : implMost x h y ≤ implMost x l y := by
  rw [implMost_val hf h1, implMost_val hf h2]
  obtain ⟨a, A⟩ := mostN_MI (adjC_bd (canI x h y) x.people.length) (fam_n hf).1
  obtain ⟨b, B⟩ := mostN_MI (adjC_bd (canI x l y) x.people.length) (fam_n hf).1
  obtain ⟨p1, p2, p3, p4⟩ := A.gotPairs
  rw [← p4]
  refine B.most p1 p2 fun p hp => ?_
  obtain ⟨q1, q2, q3⟩ := p3 p hp
  exact ⟨q1, q2, adjC_mem.2 ⟨q1, q2, can_mono s hf y q1 q2 (adjC_mem.1 q3).2.2⟩⟩
theorem Str.is {h l : Law} (s : Str h l) (h1 : specIsLaw h = true) (h2 : specIsLaw l = true) : implStricter h l = true := by
  unfold implStricter
  rw [isLaw_eq, isLaw_eq, h1, h2]
  obtain ⟨s1, s2, s3, s4, s5, s6, s7, s8⟩ := s
  simp only [Bool.true_and, Bool.and_eq_true, Bool.or_eq_true, decide_eq_true_eq, Bool.not_eq_true']
  have t7 : h.patriline = true ∨ l.patriline = false := by cases c : l.patriline with
    | true => exact .inl (s7 c)
    | false => exact .inr rfl
  have t8 : h.matriline = true ∨ l.matriline = false := by cases c : l.matriline with
    | true => exact .inl (s8 c)
    | false => exact .inr rfl
  refine ⟨⟨⟨⟨⟨⟨⟨?_, ?_⟩, ?_⟩, ?_⟩, ?_⟩, ?_⟩, t7⟩, t8⟩ <;> omega
theorem law_rngs {l : Law} (h : specIsLaw l = true) : ((0 ≤ l.degree ∧ l.degree ≤ 20) ∧ (0 ≤ l.canon ∧ l.canon ≤ 10) ∧ (0 ≤ l.affinity ∧ l.affinity ≤ 20)) ∧ (0 ≤ l.age ∧ l.age ≤ 99) ∧ (1 ≤ l.wives ∧ l.wives ≤ 9) ∧ 1 ≤ l.husbands ∧ l.husbands ≤ 9 := by
  unfold specIsLaw l1In at h
  simp only [Bool.and_eq_true, decide_eq_true_eq] at h
  omega
theorem law_of {l : Law} (h : ((0 ≤ l.degree ∧ l.degree ≤ 20) ∧ (0 ≤ l.canon ∧ l.canon ≤ 10) ∧ (0 ≤ l.affinity ∧ l.affinity ≤ 20)) ∧ (0 ≤ l.age ∧ l.age ≤ 99) ∧ (1 ≤ l.wives ∧ l.wives ≤ 9) ∧ 1 ≤ l.husbands ∧ l.husbands ≤ 9) : specIsLaw l = true := by
  unfold specIsLaw l1In
  simp only [Bool.and_eq_true, decide_eq_true_eq]
  omega
theorem imp_val {x : Family} (hf : specIsFamily x = true) {l : Law} (hl : specIsLaw l = true) {p q : Int} (hp : 0 ≤ p ∧ p < x.people.length) (hq : 0 ≤ q ∧ q < x.people.length) (y : Int) : implImp x l p q y = impediments x l p q y := by
  rw [imp_eq, specImp_of (by rw [hl, (l1Has_iff x p).2 ⟨hp, hf⟩, (l1Has_iff x q).2 ⟨hq, hf⟩]; rfl)]
/-- The harder law. -/
theorem hard_str {l : Law} (hl : specIsLaw l = true) {d c f a w : Int} {pp : Bool} (h : (0 ≤ d ∧ d < 7) ∧ (0 ≤ c ∧ c < 4) ∧ (0 ≤ f ∧ f < 4) ∧ (0 ≤ a ∧ a < 30) ∧ 0 ≤ w ∧ w < 3) :
    specIsLaw (Law.mk (Max.max l.degree d) (Max.max l.canon c) (Max.max l.affinity f) (Max.max l.age a) (Min.min l.wives (1 + w)) l.husbands (l.patriline || pp) l.matriline) = true ∧ Str (Law.mk (Max.max l.degree d) (Max.max l.canon c) (Max.max l.affinity f) (Max.max l.age a) (Min.min l.wives (1 + w)) l.husbands (l.patriline || pp) l.matriline) l := by
  have r := law_rngs hl
  refine ⟨law_of (by dsimp only; omega), ⟨by dsimp only; omega, by dsimp only; omega, by dsimp only; omega, by dsimp only; omega, by dsimp only; omega, by dsimp only; omega, fun c => by dsimp only; rw [c]; rfl, fun c => c⟩⟩
theorem subset_mem (l m : List Int) : lawSubset l m = true ↔ ∀ q ∈ l, q ∈ m := by
  unfold lawSubset
  rw [loopN_all]
  simp only [and_true, not_f_iff, lawHas_iff]
  constructor
  · intro h q hq
    obtain ⟨k, hk, e⟩ := mem_getD (d := default) hq
    rw [← e]; exact h k hk
  · intro h k hk; exact h _ (getD_mem hk)
end Go.Proofs.Ytkkijpibajigfaa
