import Derived.Test.YtepefimocflfkaaVS76
set_option maxHeartbeats 4000000
set_option linter.unusedSimpArgs false
set_option linter.unusedVariables false
namespace Go.Proofs.Ytepefimocflfkaa
open Go Go.Lite Go.Proofs
/-! ### The program's order of the years is the reference's -/
theorem lt_unique : ∀ {l m : List Int}, l.Pairwise (fun a b => a < b) → m.Pairwise (fun a b => a < b) → l.Perm m → l = m
  | [], m, _, _, hp => (List.Perm.nil_eq hp)
  | a :: l, [], _, _, hp => absurd hp.length_eq (by simp)
  | a :: l, b :: m, hl, hm, hp => by
    obtain ⟨hl1, hl2⟩ := List.pairwise_cons.1 hl
    obtain ⟨hm1, hm2⟩ := List.pairwise_cons.1 hm
    have h1 : a ∈ b :: m := hp.mem_iff.1 List.mem_cons_self
    have h2 : b ∈ a :: l := hp.mem_iff.2 List.mem_cons_self
    have hab : a = b := by
      rcases List.mem_cons.1 h1 with e | e
      · exact e
      · rcases List.mem_cons.1 h2 with e2 | e2
        · exact e2.symm
        · have := hm1 a e; have := hl1 b e2; omega
    subst hab
    rw [lt_unique hl2 hm2 (List.Perm.cons_inv hp)]
theorem upto_lt (n : Nat) : (upto n).Pairwise (fun a b => a < b) := by
  unfold upto
  rw [List.pairwise_map]
  exact List.pairwise_lt_range.imp fun h => by omega
theorem upto_getD {n k : Nat} (hk : k < n) : (upto n).getD k default = ((k : Nat) : Int) := by
  unfold upto
  rw [List.getD_eq_getElem?_getD, List.getElem?_map, List.getElem?_range hk]; rfl
theorem upto_map {α : Type} [Inhabited α] (l : List α) : (upto l.length).map (fun k => l.getD k.toNat default) = l := by
  refine ext_g (by rw [List.length_map, upto_len]) fun k hk => ?_
  rw [List.length_map, upto_len] at hk
  rw [getD_map (fun k : Int => l.getD k.toNat default) (by rw [upto_len]; exact hk), upto_getD hk, Int.toNat_natCast]
def byKey {α : Type} (f : α → Int) (u v : α) : Bool := decide (f u < f v)
theorem byKey_swo {α : Type} (f : α → Int) : SWO (byKey f) :=
  ⟨fun x => decide_eq_false (by omega), fun x y h => decide_eq_false (by have := of_decide_eq_true h; omega), fun x y z h1 h2 => decide_eq_false (by have := of_decide_eq_false h1; have := of_decide_eq_false h2; omega)⟩
theorem order_st {α : Type} [Inhabited α] (f : α → Int) (l : List α) : SrtL (byKey f) ((l11Order (l.map f)).map fun k => l.getD k.toNat default) ∧ StEq (byKey f) l ((l11Order (l.map f)).map fun k => l.getD k.toNat default) := by
  have ho := order_ok (l.map f)
  have hp := order_map f l
  have hk : ∀ a : Int, a ∈ l11Order (l.map f) → (l.map f).getD a.toNat default = f (l.getD a.toNat default) := fun a ha => getD_map f (by have := mem_upto.1 (hp.mem_iff.1 ha); omega)
  refine ⟨?_, fun z => ?_⟩
  · unfold SrtL
    rw [List.pairwise_map]
    refine ho.pw.imp_of_mem fun {a b} ha hb h => ?_
    unfold kLt at h
    rw [hk a ha, hk b hb] at h
    exact decide_eq_false (by omega)
  · have e : l.filter (eqc (byKey f) z) = ((upto l.length).map fun k => l.getD k.toNat default).filter (eqc (byKey f) z) := by rw [upto_map]
    rw [e, List.filter_map, List.filter_map]
    congr 1
    refine lt_unique ?_ ((upto_lt _).filter _) (hp.filter _)
    refine List.Pairwise.imp_of_mem (R := kLt (l.map f)) (fun {a b} ha hb h => ?_) (ho.pw.filter _)
    obtain ⟨ha1, ha2⟩ := List.mem_filter.1 ha
    obtain ⟨hb1, hb2⟩ := List.mem_filter.1 hb
    unfold kLt at h
    rw [hk a ha1, hk b hb1] at h
    simp only [Function.comp, eqc, byKey, Bool.and_eq_true, Bool.not_eq_true', decide_eq_false_iff_not] at ha2 hb2
    omega
/-- A stable sort by a key is the order by keys. -/
theorem stable_key {α : Type} [Inhabited α] (f : α → Int) {l m : List α} (h1 : SrtL (byKey f) m) (h2 : StEq (byKey f) l m) : m = (l11Order (l.map f)).map fun k => l.getD k.toNat default := by
  obtain ⟨g1, g2⟩ := order_st f l
  exact st_unique (byKey_swo f) h1 g1 fun x => (g2 x).trans (h2 x).symm
theorem gStb_key {α : Type} [Inhabited α] (f : α → Int) {l : List α} (h : l.length ≤ 255) : gStb (byKey f) l l.length = (l11Order (l.map f)).map fun k => l.getD k.toNat default := by
  obtain ⟨g1, g2⟩ := gStb_fin (byKey_swo f) h
  exact stable_key f g1 g2
theorem order_short {α : Type} [Inhabited α] (f : α → Int) {l : List α} (h : l.length ≤ 1) : l = (l11Order (l.map f)).map fun k => l.getD k.toNat default := by
  refine stable_key f ?_ (.refl _ l)
  match l, h with
  | [], _ => exact .nil
  | [a], _ => exact List.pairwise_singleton _ _
  | _ :: _ :: _, h => simp at h
theorem identL_val (n : Nat) : identL ((n : Nat) : Int) = upto n := by
  unfold identL
  rw [Int.toNat_natCast]
  refine loopN_to (fun i (v : List Int) => v = upto i) (fun v => v = upto n) (by simp [upto]) (fun i v next hi hv hn => hn _ ?_) (fun v hv => hv)
  rw [hv, upto_succ]
theorem ordered_val {x : Family} (hx : specIsFamily x = true) {o : List Int} (ho : o.Perm (upto x.people.length)) : ordered x o = reFamily x o := by
  have h := permOk ho
  have hlen := h.len
  have hnd := List.nodup_iff_pairwise_ne.1 (ho.nodup_iff.2 (upto_nodup _))
  unfold ordered
  refine loopN_to (fun i (v : List Int) => v.length = x.people.length ∧ ∀ k : Nat, k < i → v.getD (o.getD k default).toNat default = ((k : Nat) : Int)) (fun r => r = reFamily x o) ⟨by rw [List.length_replicate, hlen], fun k hk => absurd hk (Nat.not_lt_zero _)⟩ (fun i v next hi hv hn => hn _ ⟨by rw [List.length_set]; exact hv.1, fun k hk => ?_⟩) (fun v hv => ?_)
  · have hri := h.rng i hi
    rw [getD_set]
    by_cases c : k = i
    · subst c; rw [if_pos ⟨rfl, by rw [hv.1]; omega⟩]
    · have hrk := h.rng k (by omega)
      rw [if_neg (fun g => getD_pw hnd i hi k (by omega) (by omega))]
      exact hv.2 k (by omega)
  · have hpos : ∀ q : Int, 0 ≤ q → q < x.people.length → v.getD q.toNat default = (l1Inverse o ((x.people.length : Nat) : Int)).1.getD q.toNat default := fun q h0 h1 => by
      obtain ⟨g1, g2⟩ := h.pos q h0 h1
      have := hv.2 ((l1Inverse o ((x.people.length : Nat) : Int)).1.getD q.toNat default).toNat (by omega)
      rw [g2] at this
      omega
    refine loopN_to (fun i (w : List Person) => w = (o.take i).map fun i => rePerson (l1Inverse o ((x.people.length : Nat) : Int)).1 (x.people.getD i.toNat default)) (fun r => r = reFamily x o) rfl (fun i w next hi hw hn => ?_) (fun w hw => ?_)
    · have hri := h.rng i hi
      have p := fam_p hx (k := (o.getD i default).toNat) (by omega)
      have fa := p.fa
      have mo := p.mo
      rw [jn_cond]
      have key : ∀ q : Person, q = rePerson (l1Inverse o ((x.people.length : Nat) : Int)).1 (x.people.getD (o.getD i default).toNat default) → w ++ [q] = (o.take (i + 1)).map fun i => rePerson (l1Inverse o ((x.people.length : Nat) : Int)).1 (x.people.getD i.toNat default) := by
        intro q hq
        rw [take_snoc o default hi, List.map_append, ← hw, hq]; rfl
      have ef : (bif decide (0 ≤ (x.people.getD (o.getD i default).toNat default).father) then v.getD (x.people.getD (o.getD i default).toNat default).father.toNat default else (x.people.getD (o.getD i default).toNat default).father) = (rePerson (l1Inverse o ((x.people.length : Nat) : Int)).1 (x.people.getD (o.getD i default).toNat default)).father := by
        unfold rePerson
        dsimp only
        cases c : decide (0 ≤ (x.people.getD (o.getD i default).toNat default).father)
        · rfl
        · have c := of_decide_eq_true c
          simp only [cond_true]
          exact hpos _ c (by omega)
      rw [ef]
      cases c : decide (0 ≤ (x.people.getD (o.getD i default).toNat default).mother) <;> simp only [cond_true, cond_false]
      · exact hn _ (key _ (by unfold rePerson; rw [c]; rfl))
      · refine hn _ (key _ ?_)
        rw [hpos _ (of_decide_eq_true c) (by have := of_decide_eq_true c; omega)]
        unfold rePerson; rw [c]; rfl
    · refine loopN_to (fun i (u : List Union) => u = (x.unions.take i).map (reUnion (l1Inverse o ((x.people.length : Nat) : Int)).1)) (fun r => r = reFamily x o) rfl (fun i u next hi hu hn => hn _ ?_) (fun u hu => ?_)
      · have f := fam_u hx hi
        have hm := f.man
        have hwm := f.woman
        rw [take_snoc x.unions default hi, List.map_append, ← hu, hpos _ hm.1 hm.2, hpos _ hwm.1 hwm.2]; rfl
      · rw [List.take_length] at hw hu
        rw [hw, hu]; rfl
/-! ### What the program sorts -/
theorem id_len (n : Nat) : (identL ((n : Nat) : Int)).length = n := by rw [identL_val, upto_len]
theorem born_map (x : Family) : (upto x.people.length).map (fun u => (x.people.getD u.toNat default).born) = x.people.map fun p => p.born := by
  have e := congrArg (List.map fun p : Person => p.born) (upto_map x.people)
  rw [List.map_map] at e
  exact e
theorem birth_key (x : Family) : (l11Order ((upto x.people.length).map fun u => (x.people.getD u.toNat default).born)).map (fun k => (upto x.people.length).getD k.toNat default) = byBirth x := by
  rw [born_map]
  have h := byBirth_ok x
  refine ext_g (by rw [List.length_map]; rfl) fun k hk => ?_
  rw [List.length_map] at hk
  rw [getD_map (fun k : Int => (upto x.people.length).getD k.toNat default) hk]
  have hr := h.rng k hk
  have e : (l11Order (x.people.map fun p => p.born)).getD k default = (byBirth x).getD k default := rfl
  rw [e, upto_getD (by omega)]
  omega
theorem ps_val {x : Family} (hx : specIsFamily x = true) : sliceP (SrtP.mk x (identL ((x.people.length : Nat) : Int))) () = byBirth x := by
  rw [sliceP_eq, identL_val]
  have h := gStb_key (fun u : Int => (x.people.getD u.toNat default).born) (l := upto x.people.length) (by rw [upto_len]; have := fam_n hx; omega)
  rw [birth_key] at h
  exact h
theorem qs_val {x : Family} (h : decide (2 ≤ (identL ((x.people.length : Nat) : Int)).length) = false) : sliceQ (SrtQ.mk x (identL ((x.people.length : Nat) : Int))) () = byBirth x := by
  have hl := of_decide_eq_false h
  rw [id_len] at hl
  rw [sliceQ_eq, identL_val]
  have h := order_short (fun u : Int => (x.people.getD u.toNat default).born) (l := upto x.people.length) (by rw [upto_len]; omega)
  rw [birth_key] at h
  exact h
theorem id_lk (x : Family) : LkP (SrtP.mk x (identL ((x.people.length : Nat) : Int))) (SrtP.mk x (identL ((x.people.length : Nat) : Int))).l := by
  refine ⟨fun c hc => ?_, rfl⟩
  rw [identL_val] at hc
  exact mem_upto.1 hc
theorem ord_un {x : Family} (hx : specIsFamily x = true) : (ordered x (byBirth x)).unions.length ≤ 255 := by
  have e : ordered x (byBirth x) = reFamily x (byBirth x) := ordered_val hx (order_map (fun p : Person => p.born) x.people)
  rw [e]
  have := fam_n hx
  simp only [reFamily, List.length_map]; omega
theorem us_val {R : Family} (h : R.unions.length ≤ 255) : sliceU (SrtU.mk R.people R.unions) () = (byFrom R).map fun k => R.unions.getD k.toNat default := by
  rw [sliceU_eq]
  exact gStb_key (fun u : Union => u.from0) h
theorem vs_val {R : Family} (h : decide (2 ≤ R.unions.length) = false) : sliceV (SrtV.mk R.people R.unions) () = (byFrom R).map fun k => R.unions.getD k.toNat default := by
  rw [sliceV_eq]
  exact order_short (fun u : Union => u.from0) (l := R.unions) (by have := of_decide_eq_false h; omega)
def C65 (R : Family) : LV × List (Nat × BC) := (.agg [.own 0, .own 1], [(0, .arr 6 R.people.length (rowOf (cPerson true) R.people)), (1, .arr 4 R.unions.length (rowOf (cUnion true) R.unions))])
def chrono (x0 : Family) : Family := bif (decide (2 ≤ (identL ((x0.people.length : Nat) : Int)).length)) then (bif (decide (2 ≤ ((ordered x0 (sliceP (SrtP.mk x0 (identL ((x0.people.length : Nat) : Int))) ())).unions).length)) then (Family.mk ((ordered x0 (sliceP (SrtP.mk x0 (identL ((x0.people.length : Nat) : Int))) ())).people) (sliceU (SrtU.mk ((ordered x0 (sliceP (SrtP.mk x0 (identL ((x0.people.length : Nat) : Int))) ())).people) ((ordered x0 (sliceP (SrtP.mk x0 (identL ((x0.people.length : Nat) : Int))) ())).unions)) ())) else (Family.mk ((ordered x0 (sliceP (SrtP.mk x0 (identL ((x0.people.length : Nat) : Int))) ())).people) (sliceV (SrtV.mk ((ordered x0 (sliceP (SrtP.mk x0 (identL ((x0.people.length : Nat) : Int))) ())).people) ((ordered x0 (sliceP (SrtP.mk x0 (identL ((x0.people.length : Nat) : Int))) ())).unions)) ()))) else (bif (decide (2 ≤ ((ordered x0 (sliceQ (SrtQ.mk x0 (identL ((x0.people.length : Nat) : Int))) ())).unions).length)) then (Family.mk ((ordered x0 (sliceQ (SrtQ.mk x0 (identL ((x0.people.length : Nat) : Int))) ())).people) (sliceU (SrtU.mk ((ordered x0 (sliceQ (SrtQ.mk x0 (identL ((x0.people.length : Nat) : Int))) ())).people) ((ordered x0 (sliceQ (SrtQ.mk x0 (identL ((x0.people.length : Nat) : Int))) ())).unions)) ())) else (Family.mk ((ordered x0 (sliceQ (SrtQ.mk x0 (identL ((x0.people.length : Nat) : Int))) ())).people) (sliceV (SrtV.mk ((ordered x0 (sliceQ (SrtQ.mk x0 (identL ((x0.people.length : Nat) : Int))) ())).people) ((ordered x0 (sliceQ (SrtQ.mk x0 (identL ((x0.people.length : Nat) : Int))) ())).unions)) ())))
def A65 (x0 : Family) : Ann := .split (decide (2 ≤ (identL ((x0.people.length : Nat) : Int)).length)) (.split (decide (2 ≤ ((ordered x0 (sliceP (SrtP.mk x0 (identL ((x0.people.length : Nat) : Int))) ())).unions).length)) (.reg 6 [] [(1003, k118 ((x0.people.length : Nat) : Int)), (2003, k112P 12 [1008, 1, 3] (SrtP.mk x0 (identL ((x0.people.length : Nat) : Int))) ()), (3002, k120 x0 (sliceP (SrtP.mk x0 (identL ((x0.people.length : Nat) : Int))) ())), (4004, k112U 20 [2015, 4, 1015] (SrtU.mk ((ordered x0 (sliceP (SrtP.mk x0 (identL ((x0.people.length : Nat) : Int))) ())).people) ((ordered x0 (sliceP (SrtP.mk x0 (identL ((x0.people.length : Nat) : Int))) ())).unions)) ())] [2] [2, 1015, 2015] [] [] [] [0, 4, 8, 12] (rt [(0, some 1015), (1, some 2015)] (C65 (Family.mk ((ordered x0 (sliceP (SrtP.mk x0 (identL ((x0.people.length : Nat) : Int))) ())).people) (sliceU (SrtU.mk ((ordered x0 (sliceP (SrtP.mk x0 (identL ((x0.people.length : Nat) : Int))) ())).people) ((ordered x0 (sliceP (SrtP.mk x0 (identL ((x0.people.length : Nat) : Int))) ())).unions)) ()))))) (.reg 6 [] [(1003, k118 ((x0.people.length : Nat) : Int)), (2003, k112P 12 [1008, 1, 3] (SrtP.mk x0 (identL ((x0.people.length : Nat) : Int))) ()), (3002, k120 x0 (sliceP (SrtP.mk x0 (identL ((x0.people.length : Nat) : Int))) ())), (4004, k112V 20 [2015, 4, 1015] (SrtV.mk ((ordered x0 (sliceP (SrtP.mk x0 (identL ((x0.people.length : Nat) : Int))) ())).people) ((ordered x0 (sliceP (SrtP.mk x0 (identL ((x0.people.length : Nat) : Int))) ())).unions)) ())] [2] [2, 1015, 2015] [] [] [] [0, 4, 8, 12] (rt [(0, some 1015), (1, some 2015)] (C65 (Family.mk ((ordered x0 (sliceP (SrtP.mk x0 (identL ((x0.people.length : Nat) : Int))) ())).people) (sliceV (SrtV.mk ((ordered x0 (sliceP (SrtP.mk x0 (identL ((x0.people.length : Nat) : Int))) ())).people) ((ordered x0 (sliceP (SrtP.mk x0 (identL ((x0.people.length : Nat) : Int))) ())).unions)) ())))))) (.split (decide (2 ≤ ((ordered x0 (sliceQ (SrtQ.mk x0 (identL ((x0.people.length : Nat) : Int))) ())).unions).length)) (.reg 6 [] [(1003, k118 ((x0.people.length : Nat) : Int)), (2003, k112Q 12 [1008, 1, 3] (SrtQ.mk x0 (identL ((x0.people.length : Nat) : Int))) ()), (3002, k120 x0 (sliceQ (SrtQ.mk x0 (identL ((x0.people.length : Nat) : Int))) ())), (4004, k112U 20 [2015, 4, 1015] (SrtU.mk ((ordered x0 (sliceQ (SrtQ.mk x0 (identL ((x0.people.length : Nat) : Int))) ())).people) ((ordered x0 (sliceQ (SrtQ.mk x0 (identL ((x0.people.length : Nat) : Int))) ())).unions)) ())] [2] [2, 1015, 2015] [] [] [] [0, 4, 8, 12] (rt [(0, some 1015), (1, some 2015)] (C65 (Family.mk ((ordered x0 (sliceQ (SrtQ.mk x0 (identL ((x0.people.length : Nat) : Int))) ())).people) (sliceU (SrtU.mk ((ordered x0 (sliceQ (SrtQ.mk x0 (identL ((x0.people.length : Nat) : Int))) ())).people) ((ordered x0 (sliceQ (SrtQ.mk x0 (identL ((x0.people.length : Nat) : Int))) ())).unions)) ()))))) (.reg 6 [] [(1003, k118 ((x0.people.length : Nat) : Int)), (2003, k112Q 12 [1008, 1, 3] (SrtQ.mk x0 (identL ((x0.people.length : Nat) : Int))) ()), (3002, k120 x0 (sliceQ (SrtQ.mk x0 (identL ((x0.people.length : Nat) : Int))) ())), (4004, k112V 20 [2015, 4, 1015] (SrtV.mk ((ordered x0 (sliceQ (SrtQ.mk x0 (identL ((x0.people.length : Nat) : Int))) ())).people) ((ordered x0 (sliceQ (SrtQ.mk x0 (identL ((x0.people.length : Nat) : Int))) ())).unions)) ())] [2] [2, 1015, 2015] [] [] [] [0, 4, 8, 12] (rt [(0, some 1015), (1, some 2015)] (C65 (Family.mk ((ordered x0 (sliceQ (SrtQ.mk x0 (identL ((x0.people.length : Nat) : Int))) ())).people) (sliceV (SrtV.mk ((ordered x0 (sliceQ (SrtQ.mk x0 (identL ((x0.people.length : Nat) : Int))) ())).people) ((ordered x0 (sliceQ (SrtQ.mk x0 (identL ((x0.people.length : Nat) : Int))) ())).unions)) ()))))))
theorem ok_impl_chronological (x0 : Family) (hx : x0.people.length ≤ 1048576) (hu : x0.unions.length ≤ 1048576) (hn : ∀ p ∈ x0.people, p.name.length ≤ 1048576) (hf : specIsFamily x0 = true) : FnT Try.prog 65 [.agg (cFamily false x0)] (C65 (chrono x0)) := by
  have aux : ∀ R, chrono x0 = R → slim (C65 R) (A65 x0) [] := by
    intro R hR
    revert hR; refine cd (fun hs1 hR => ?_) fun hs1 hR => ?_
    ·
      revert hR; refine cd (fun hs2 hR => ?_) fun hs2 hR => ?_
      ·
        refine rg ⟨by (have h9 := fam_n hf; omega), ⟨by ((dsimp only; rw [id_len]; have h9 := fam_n hf; omega)), by (with_reducible exact id_lk x0), by (with_reducible exact of_decide_eq_true (by assumption))⟩, ⟨by with_reducible assumption, by with_reducible assumption, by with_reducible assumption, by with_reducible assumption, by (rw [ps_val hf]; exact (byBirth_ok x0).len), by (rw [ps_val hf]; exact (byBirth_ok x0).rng)⟩, ⟨by ((dsimp only; rw [ps_val hf]; exact ord_un hf)), by (exact ⟨trivial, rfl⟩), by (with_reducible exact of_decide_eq_true (by assumption))⟩, trivial⟩ ?_
        exact congrArg C65 hR
      ·
        refine rg ⟨by (have h9 := fam_n hf; omega), ⟨by ((dsimp only; rw [id_len]; have h9 := fam_n hf; omega)), by (with_reducible exact id_lk x0), by (with_reducible exact of_decide_eq_true (by assumption))⟩, ⟨by with_reducible assumption, by with_reducible assumption, by with_reducible assumption, by with_reducible assumption, by (rw [ps_val hf]; exact (byBirth_ok x0).len), by (rw [ps_val hf]; exact (byBirth_ok x0).rng)⟩, by ((dsimp only; exact Nat.le_of_lt_succ (Nat.lt_of_not_le (of_decide_eq_false (by assumption))))), trivial⟩ ?_
        exact congrArg C65 hR
    ·
      revert hR; refine cd (fun hs3 hR => ?_) fun hs3 hR => ?_
      ·
        refine rg ⟨by (have h9 := fam_n hf; omega), by ((dsimp only; exact Nat.le_of_lt_succ (Nat.lt_of_not_le (of_decide_eq_false (by assumption))))), ⟨by with_reducible assumption, by with_reducible assumption, by with_reducible assumption, by with_reducible assumption, by (rw [qs_val (by assumption)]; exact (byBirth_ok x0).len), by (rw [qs_val (by assumption)]; exact (byBirth_ok x0).rng)⟩, ⟨by ((dsimp only; rw [qs_val (by assumption)]; exact ord_un hf)), by (exact ⟨trivial, rfl⟩), by (with_reducible exact of_decide_eq_true (by assumption))⟩, trivial⟩ ?_
        exact congrArg C65 hR
      ·
        refine rg ⟨by (have h9 := fam_n hf; omega), by ((dsimp only; exact Nat.le_of_lt_succ (Nat.lt_of_not_le (of_decide_eq_false (by assumption))))), ⟨by with_reducible assumption, by with_reducible assumption, by with_reducible assumption, by with_reducible assumption, by (rw [qs_val (by assumption)]; exact (byBirth_ok x0).len), by (rw [qs_val (by assumption)]; exact (byBirth_ok x0).rng)⟩, by ((dsimp only; exact Nat.le_of_lt_succ (Nat.lt_of_not_le (of_decide_eq_false (by assumption))))), trivial⟩ ?_
        exact congrArg C65 hR
  exact Fn.go 22 Try.func65 (by kernel_rfl) (by kernel_rfl) (by simp [C65, Frs, FrsL, FrsB, rowOf, cInt, cBool, cStr, cSl, FrsL_app, cPerson, cUnion, cFamily, cEvent]) (A65 x0) (by kernel_rfl) (aux _ rfl)
def k65 (x0 : Family) : Cl := (hres (C65 (chrono x0)), k4 (ok_impl_chronological x0))
theorem chrono_eq {x : Family} (hx : specIsFamily x = true) : chrono x = l11Sorted x := by
  rw [sorted_val hx]
  have ho := ordered_val hx (order_map (fun p : Person => p.born) x.people)
  have ho2 : ordered x (byBirth x) = reFamily x (byBirth x) := ho
  have hu : (reFamily x (byBirth x)).unions.length ≤ 255 := by rw [← ho2]; exact ord_un hx
  unfold chrono
  cases c : decide (2 ≤ (identL ((x.people.length : Nat) : Int)).length) <;> simp only [cond_true, cond_false]
  · rw [qs_val c, ho2]
    cases d : decide (2 ≤ (reFamily x (byBirth x)).unions.length) <;> simp only [cond_true, cond_false]
    · rw [vs_val d]
    · rw [us_val hu]
  · rw [ps_val hx, ho2]
    cases d : decide (2 ≤ (reFamily x (byBirth x)).unions.length) <;> simp only [cond_true, cond_false]
    · rw [vs_val d]
    · rw [us_val hu]
/-! ### Bounds of events -/
theorem isName_len {s : List UInt8} (h : specIsName s = true) : s.length ≤ 12 := by
  unfold specIsName at h
  rw [loopN_all] at h
  have h2 := h.2
  unfold l1In at h2
  simp only [Bool.and_eq_true, decide_eq_true_eq] at h2
  omega
theorem fam_names {x : Family} (hx : specIsFamily x = true) : ∀ p ∈ x.people, p.name.length ≤ 1048576 := by
  intro p hp
  obtain ⟨k, hk, e⟩ := mem_getD (d := default) hp
  have := isName_len (fam_p hx hk).name
  rw [e] at this
  omega
structure EvI (n : Nat) (l : List Event) : Prop where
  len : l.length ≤ n
  rng : ∀ e ∈ l, (0 ≤ e.year ∧ e.year ≤ 9999) ∧ 1 ≤ e.kind ∧ e.kind ≤ 4
theorem EvI.nil : EvI 0 [] := ⟨Nat.le_refl _, fun e he => absurd he List.not_mem_nil⟩
theorem EvI.mono {n m : Nat} {l : List Event} (h : EvI n l) (hm : n ≤ m) : EvI m l := ⟨Nat.le_trans h.len hm, h.rng⟩
theorem EvI.snoc {n : Nat} {l : List Event} (h : EvI n l) {k y s a b : Int} {nm : List UInt8} (hy : 0 ≤ y ∧ y ≤ 9999) (hk : 1 ≤ k ∧ k ≤ 4) : EvI (n + 1) (l ++ [Event.mk k y nm s a b]) := by
  refine ⟨by rw [List.length_append, List.length_singleton]; have := h.len; omega, fun e he => ?_⟩
  rcases List.mem_append.1 he with he | he
  · exact h.rng e he
  · rw [List.mem_singleton.1 he]; exact ⟨hy, hk⟩
theorem EvI.at {n : Nat} {l : List Event} (h : EvI n l) {i : Nat} (hi : i < l.length) : (0 ≤ (l.getD i default).year ∧ (l.getD i default).year ≤ 9999) ∧ 1 ≤ (l.getD i default).kind ∧ (l.getD i default).kind ≤ 4 := h.rng _ (getD_mem hi)
theorem sorted_p {x : Family} (hx : specIsFamily x = true) : (l11Sorted x).people.length ≤ 1048576 := by have := sorted_ok hx; have := fam_n hx; omega
theorem sorted_u {x : Family} (hx : specIsFamily x = true) : (l11Sorted x).unions.length ≤ 1048576 := by have := sorted_ok hx; have := fam_n hx; omega
theorem sorted_nm {x : Family} (hx : specIsFamily x = true) : ∀ p ∈ (l11Sorted x).people, p.name.length ≤ 1048576 := fam_names (sorted_ok hx).1
theorem chrono_f {x : Family} (hx : specIsFamily x = true) : specIsFamily (chrono x) = true := by rw [chrono_eq hx]; exact (sorted_ok hx).1
end Go.Proofs.Ytepefimocflfkaa
