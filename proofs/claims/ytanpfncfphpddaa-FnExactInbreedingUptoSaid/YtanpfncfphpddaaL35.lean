/- The program's Inbreeding answers as the reference's does, for all arguments of bulk at most 1048576; no other conditions. -/
import Derived.Test.YtanpfncfphpddaaRows
import Derived.Test.YtanpfncfphpddaaM35
import Derived.Test.YtanpfncfphpddaaLiteR
import Derived.WalkKit
import Derived.ProofKit
import Derived.OpenShut
import Derived.JoinedCond
set_option maxHeartbeats 4000000
set_option linter.unusedSimpArgs false
set_option linter.unusedVariables false
namespace Go.Proofs.Ytanpfncfphpddaa
open Go Go.Lite Go.Proofs Go.ChangeShapes Go.WideShapes Go.ChangeAt Go.RowKit
def laws_FnExactInbreeding_m (x0 : Family) (x1 : Int) : Bool := bif (decide ((szFamily x0 1048576) < 0)) then true else (bif (!(eqDyad (implInbreeding x0 x1) (specInbreeding x0 x1))) then false else (bif (!(eqFamily x0 x0)) then false else true))
theorem aux_laws_FnExactInbreeding (x0 : Family) (x1 : Int) (hx : x0.people.length ≤ 1048576) (hu : x0.unions.length ≤ 1048576) (hn : ∀ p ∈ x0.people, p.name.length ≤ 1048576) (R : Bool) (hR : laws_FnExactInbreeding_m x0 x1 = R) : Lite.Fn Try.prog 7 [.agg (cFamily false x0), .int .i64 x1] (.bool R) [] := by
  refine Lite.Fn.intro 32 Try.func7 (by kernel_rfl) (by kernel_rfl) (by kernel_rfl) fun w0 a w hs => ?_
  refine W.linK hs 3 [(2002, .res (.int .i64 (szFamily x0 1048576)) [])] [1, 2, 4, 5] [2] (s2 := ⟨[(1, .int .i64 x1), (2, .vp 2 0), (4, .bool false), (5, .int .i64 (szFamily x0 1048576))], [(2, .var [.ro false 6 x0.people.length (rowOf (cPerson false) x0.people), .ro false 4 x0.unions.length (rowOf (cUnion false) x0.unions)])], [2]⟩) (vcs := [Lite.Fn Try.prog 9 [.agg [.ro false 6 x0.people.length (rowOf (cPerson false) x0.people), .ro false 4 x0.unions.length (rowOf (cUnion false) x0.unions)], .int .i64 1048576] (.int .i64 (szFamily x0 1048576)) []]) (by kernel_rfl) ⟨ok_laws_szFamily x0 1048576 (by trivial) (by trivial) (by trivial), trivial⟩ ?_
  clear hs; intro a w hs
  refine W.seq (by kernel_rfl) ?_
  refine W.linK hs 1 [] [1, 2, 4, 13] [2] (s2 := ⟨[(1, .int .i64 x1), (2, .vp 2 0), (4, .bool false), (13, .bool (decide ((szFamily x0 1048576) < 0)))], [(2, .var [.ro false 6 x0.people.length (rowOf (cPerson false) x0.people), .ro false 4 x0.unions.length (rowOf (cUnion false) x0.unions)])], [2]⟩) (vcs := []) (by kernel_rfl) trivial ?_
  clear hs; intro a w hs
  refine W.cond hs (by kernel_rfl) (b := decide ((szFamily x0 1048576) < 0)) (p := []) (by kernel_rfl) trivial (fun hc1 => ?_) (fun hc1 => ?_)
  ·
    replace hR := ct hR hc1
    refine W.linK hs 1 [] [1, 2, 4] [2] (s2 := ⟨[(1, .int .i64 x1), (2, .vp 2 0), (4, .bool true)], [(2, .var [.ro false 6 x0.people.length (rowOf (cPerson false) x0.people), .ro false 4 x0.unions.length (rowOf (cUnion false) x0.unions)])], [2]⟩) (vcs := []) (by kernel_rfl) trivial ?_
    clear hs; intro a w hs
    refine W.ret (by kernel_rfl) ?_
    subst hR
    exact ret_ok hs [] (vcs := [true = true, Frs (.bool true)]) (by kernel_rfl) ⟨rfl, by simp [Frs, FrsL], trivial⟩
  ·
    replace hR := cf hR hc1
    refine W.skip (by kernel_rfl) ?_
    refine W.linK hs 3 [(1, .res (.agg [.own 0, .own 1]) [(6, x0.people.length, (rowOf (cPerson true) x0.people)), (4, x0.unions.length, (rowOf (cUnion true) x0.unions))]), (3, .res (.agg [.int .i64 ((specInbreeding x0 x1).num), .int .i64 ((specInbreeding x0 x1).exp)]) []), (1001, .res (.agg [.own 0, .own 1]) [(6, x0.people.length, (rowOf (cPerson true) x0.people)), (4, x0.unions.length, (rowOf (cUnion true) x0.unions))]), (2002, .res (.agg [.int .i64 ((implInbreeding x0 x1).num), .int .i64 ((implInbreeding x0 x1).exp)]) [])] [2, 4, 6, 7, 8] [2, 6, 7, 8, 1019, 2019] (s2 := ⟨[(2, .vp 2 0), (4, .bool false), (6, .vp 6 0), (7, .vp 7 0), (8, .vp 8 0)], [(2, .var [.ro false 6 x0.people.length (rowOf (cPerson false) x0.people), .ro false 4 x0.unions.length (rowOf (cUnion false) x0.unions)]), (6, .var [.int .i64 ((specInbreeding x0 x1).num), .int .i64 ((specInbreeding x0 x1).exp)]), (7, .var [.own 1019, .own 2019]), (8, .var [.int .i64 ((implInbreeding x0 x1).num), .int .i64 ((implInbreeding x0 x1).exp)]), (1019, .arr 6 x0.people.length (rowOf (cPerson true) x0.people)), (2019, .arr 4 x0.unions.length (rowOf (cUnion true) x0.unions))], [8, 7, 1019, 2019, 6, 1015, 2015, 2]⟩) (vcs := [Lite.Fn Try.prog 11 [.agg [.ro false 6 x0.people.length (rowOf (cPerson false) x0.people), .ro false 4 x0.unions.length (rowOf (cUnion false) x0.unions)]] (.agg [.own 0, .own 1]) [.arr 6 x0.people.length (rowOf (cPerson true) x0.people), .arr 4 x0.unions.length (rowOf (cUnion true) x0.unions)], Lite.Fn Try.prog 21 [.agg [.ro false 6 x0.people.length (rowOf (cPerson false) x0.people), .ro false 4 x0.unions.length (rowOf (cUnion false) x0.unions)], .int .i64 x1] (.agg [.int .i64 ((specInbreeding x0 x1).num), .int .i64 ((specInbreeding x0 x1).exp)]) [], Lite.Fn Try.prog 11 [.agg [.ro false 6 x0.people.length (rowOf (cPerson false) x0.people), .ro false 4 x0.unions.length (rowOf (cUnion false) x0.unions)]] (.agg [.own 0, .own 1]) [.arr 6 x0.people.length (rowOf (cPerson true) x0.people), .arr 4 x0.unions.length (rowOf (cUnion true) x0.unions)], Lite.Fn Try.prog 22 [.agg [.ro false 6 x0.people.length (rowOf (cPerson false) x0.people), .ro false 4 x0.unions.length (rowOf (cUnion false) x0.unions)], .int .i64 x1] (.agg [.int .i64 ((implInbreeding x0 x1).num), .int .i64 ((implInbreeding x0 x1).exp)]) []]) (by kernel_rfl) ⟨ok_laws_toFamily x0 (by trivial), ok_spec_Inbreeding x0 x1 (by trivial) (by trivial) (by trivial), ok_laws_toFamily x0 (by trivial), ok_impl_Inbreeding x0 x1 (by trivial) (by trivial) (by trivial), trivial⟩ ?_
    clear hs; intro a w hs
    refine W.seq (by kernel_rfl) ?_
    refine W.linK hs 1 [(2, .res (.bool (eqDyad (implInbreeding x0 x1) (specInbreeding x0 x1))) [])] [2, 4, 7, 26] [2, 7, 1019, 2019] (s2 := ⟨[(2, .vp 2 0), (4, .bool false), (7, .vp 7 0), (26, .bool (!(eqDyad (implInbreeding x0 x1) (specInbreeding x0 x1))))], [(2, .var [.ro false 6 x0.people.length (rowOf (cPerson false) x0.people), .ro false 4 x0.unions.length (rowOf (cUnion false) x0.unions)]), (7, .var [.own 1019, .own 2019]), (1019, .arr 6 x0.people.length (rowOf (cPerson true) x0.people)), (2019, .arr 4 x0.unions.length (rowOf (cUnion true) x0.unions))], [8, 7, 1019, 2019, 6, 1015, 2015, 2]⟩) (vcs := [Lite.Fn Try.prog 18 [.agg [.int .i64 ((implInbreeding x0 x1).num), .int .i64 ((implInbreeding x0 x1).exp)], .agg [.int .i64 ((specInbreeding x0 x1).num), .int .i64 ((specInbreeding x0 x1).exp)]] (.bool (eqDyad (implInbreeding x0 x1) (specInbreeding x0 x1))) []]) (by kernel_rfl) ⟨ok_laws_eqDyad (implInbreeding x0 x1) (specInbreeding x0 x1), trivial⟩ ?_
    clear hs; intro a w hs
    refine W.cond hs (by kernel_rfl) (b := !(eqDyad (implInbreeding x0 x1) (specInbreeding x0 x1))) (p := []) (by kernel_rfl) trivial (fun hc2 => ?_) (fun hc2 => ?_)
    ·
      replace hR := ct hR hc2
      refine W.linK hs 1 [] [2, 4, 7] [2, 7, 1019, 2019] (s2 := ⟨[(2, .vp 2 0), (4, .bool false), (7, .vp 7 0)], [(2, .var [.ro false 6 x0.people.length (rowOf (cPerson false) x0.people), .ro false 4 x0.unions.length (rowOf (cUnion false) x0.unions)]), (7, .var [.own 1019, .own 2019]), (1019, .arr 6 x0.people.length (rowOf (cPerson true) x0.people)), (2019, .arr 4 x0.unions.length (rowOf (cUnion true) x0.unions))], [8, 7, 1019, 2019, 6, 1015, 2015, 2]⟩) (vcs := []) (by kernel_rfl) trivial ?_
      clear hs; intro a w hs
      refine W.ret (by kernel_rfl) ?_
      subst hR
      exact ret_ok hs [] (vcs := [false = false, Frs (.bool false)]) (by kernel_rfl) ⟨rfl, by simp [Frs, FrsL], trivial⟩
    ·
      replace hR := cf hR hc2
      refine W.skip (by kernel_rfl) ?_
      refine W.seq (by kernel_rfl) ?_
      refine W.seq (by kernel_rfl) ?_
      refine W.drawK hs (by kernel_rfl) (by kernel_rfl) [(2, .res (.agg [.own 0, .own 1]) [(6, x0.people.length, (rowOf (cPerson true) x0.people)), (4, x0.unions.length, (rowOf (cUnion true) x0.unions))]), (3, .res (.bool (eqFamily x0 x0)) [])] [4, 31] [] (s2 := ⟨[(4, .bool false), (31, .bool (!(eqFamily x0 x0)))], [], [1029, 2029, 8, 7, 1019, 2019, 6, 1015, 2015, 2]⟩) (vcs := [Lite.Fn Try.prog 11 [.agg [.ro false 6 x0.people.length (rowOf (cPerson false) x0.people), .ro false 4 x0.unions.length (rowOf (cUnion false) x0.unions)]] (.agg [.own 0, .own 1]) [.arr 6 x0.people.length (rowOf (cPerson true) x0.people), .arr 4 x0.unions.length (rowOf (cUnion true) x0.unions)], Lite.Fn Try.prog 13 [.agg [.ro false 6 x0.people.length (rowOf (cPerson false) x0.people), .ro false 4 x0.unions.length (rowOf (cUnion false) x0.unions)], .agg [.ro false 6 x0.people.length (rowOf (cPerson false) x0.people), .ro false 4 x0.unions.length (rowOf (cUnion false) x0.unions)]] (.bool (eqFamily x0 x0)) []]) (by kernel_rfl) ⟨ok_laws_toFamily x0 (by trivial), ok_laws_eqFamily x0 x0 (by trivial), trivial⟩ ?_
      clear hs; intro a w hs
      refine W.cond hs (by kernel_rfl) (b := !(eqFamily x0 x0)) (p := []) (by kernel_rfl) trivial (fun hc3 => ?_) (fun hc3 => ?_)
      ·
        replace hR := ct hR hc3
        refine W.linK hs 1 [] [4] [] (s2 := ⟨[(4, .bool false)], [], [1029, 2029, 8, 7, 1019, 2019, 6, 1015, 2015, 2]⟩) (vcs := []) (by kernel_rfl) trivial ?_
        clear hs; intro a w hs
        refine W.ret (by kernel_rfl) ?_
        subst hR
        exact ret_ok hs [] (vcs := [false = false, Frs (.bool false)]) (by kernel_rfl) ⟨rfl, by simp [Frs, FrsL], trivial⟩
      ·
        replace hR := cf hR hc3
        refine W.skip (by kernel_rfl) ?_
        refine W.linK hs 1 [] [4] [] (s2 := ⟨[(4, .bool true)], [], [1029, 2029, 8, 7, 1019, 2019, 6, 1015, 2015, 2]⟩) (vcs := []) (by kernel_rfl) trivial ?_
        clear hs; intro a w hs
        refine W.ret (by kernel_rfl) ?_
        subst hR
        exact ret_ok hs [] (vcs := [true = true, Frs (.bool true)]) (by kernel_rfl) ⟨rfl, by simp [Frs, FrsL], trivial⟩
theorem law_Inbreeding (x0 : Family) (x1 : Int) : laws_FnExactInbreeding_m x0 x1 = true := by
  unfold laws_FnExactInbreeding_m
  simp only [inbreeding_eq, eqDyad_self, eqFamily_self]
  cases decide (szFamily x0 1048576 < 0) <;> simp
theorem ok_laws_FnExactInbreeding (x0 : Family) (x1 : Int) (hx : x0.people.length ≤ 1048576) (hu : x0.unions.length ≤ 1048576) (hn : ∀ p ∈ x0.people, p.name.length ≤ 1048576) : Lite.Fn Try.prog 7 [.agg (cFamily false x0), .int .i64 x1] (.bool true) [] := aux_laws_FnExactInbreeding x0 x1 hx hu hn _ (law_Inbreeding x0 x1)
theorem bulk_pos {H : Type} (d : DataW H) : 1 ≤ Rows.uptoBulk d := by
  cases d with
  | lit l => cases l <;> simp [Rows.uptoBulk]
  | _ => simp [Rows.uptoBulk]
theorem bulkAll_len {H : Type} : ∀ l : List (DataW H), l.length ≤ Rows.uptoBulkAll l
  | [] => by simp
  | d :: l => by
    have := bulk_pos d
    have := bulkAll_len l
    simp only [Rows.uptoBulkAll, List.length_cons]
    omega
theorem bulkAll_mem {H : Type} : ∀ (l : List (DataW H)) (d : DataW H), d ∈ l → Rows.uptoBulk d ≤ Rows.uptoBulkAll l
  | [], d, h => by cases h
  | e :: l, d, h => by
    simp only [Rows.uptoBulkAll]
    rcases List.mem_cons.1 h with e | h
    · rw [e]; omega
    · have := bulkAll_mem l d h
      omega
theorem bulk {H : Type} : Bulk (Rows.uptoBulk (H := H)) where
  str := fun bs => by simp [Rows.uptoBulk]
  slen := fun es sp => by
    have := bulkAll_len es
    simp only [Rows.uptoBulk]
    omega
  sel := fun es sp e he => by
    have := bulkAll_mem es e he
    simp only [Rows.uptoBulk]
    omega
  agg := fun ps p hp => by
    have := bulkAll_mem ps p hp
    simp only [Rows.uptoBulk]
    omega
theorem own : ownKnob Try.prog.godebug = none := by kernel_rfl
theorem laidOut : laidOutB Try.prog = true := by kernel_rfl
def OkPerson (b : Nat) (x : Person) : Prop := (x.name.length ≤ b) ∧ (inR .i64 x.sex) ∧ (inR .i64 x.father) ∧ (inR .i64 x.mother) ∧ (inR .i64 x.born) ∧ (inR .i64 x.died) ∧ True
theorem okPerson_mono (b b' : Nat) (x : Person) (h : b ≤ b') (hx : OkPerson b x) : OkPerson b' x := by
  obtain ⟨h0, h1, h2, h3, h4, h5, _⟩ := hx
  exact ⟨mono_len _ _ _ h h0, mono_triv _ _ _ h h1, mono_triv _ _ _ h h2, mono_triv _ _ _ h h3, mono_triv _ _ _ h h4, mono_triv _ _ _ h h5, trivial⟩
theorem opens67 {H : Type} {enc : TypeId × Value → H} {bk : DataW H → Nat} (hb : Bulk bk) : Opens Try.prog enc bk 67 (cPerson false) OkPerson := by
  have h := opens_struct (enc := enc) hb Try.underlying67 (tot := 6) (by kernel_rfl) (opensF_cons (sz := 1) (tot := 5) mono_len rfl (by kernel_rfl) (opens_str hb Try.underlying9) (opensF_cons (sz := 1) (tot := 4) mono_triv rfl (by kernel_rfl) (opens_int Try.underlying3) (opensF_cons (sz := 1) (tot := 3) mono_triv rfl (by kernel_rfl) (opens_int Try.underlying3) (opensF_cons (sz := 1) (tot := 2) mono_triv rfl (by kernel_rfl) (opens_int Try.underlying3) (opensF_cons (sz := 1) (tot := 1) mono_triv rfl (by kernel_rfl) (opens_int Try.underlying3) (opensF_cons (sz := 1) (tot := 0) mono_triv rfl (by kernel_rfl) (opens_int Try.underlying3) (opensF_nil)))))))
  exact h.map (fun p => ⟨p.1, p.2.1, p.2.2.1, p.2.2.2.1, p.2.2.2.2.1, p.2.2.2.2.2.1⟩) (fun p => by simp [cPerson]) (fun b p hp => by simpa [OkPerson] using hp)
def OkUnion (b : Nat) (x : Union) : Prop := (inR .i64 x.man) ∧ (inR .i64 x.woman) ∧ (inR .i64 x.from0) ∧ (inR .i64 x.to) ∧ True
theorem okUnion_mono (b b' : Nat) (x : Union) (h : b ≤ b') (hx : OkUnion b x) : OkUnion b' x := by
  obtain ⟨h0, h1, h2, h3, _⟩ := hx
  exact ⟨mono_triv _ _ _ h h0, mono_triv _ _ _ h h1, mono_triv _ _ _ h h2, mono_triv _ _ _ h h3, trivial⟩
theorem opens74 {H : Type} {enc : TypeId × Value → H} {bk : DataW H → Nat} (hb : Bulk bk) : Opens Try.prog enc bk 74 (cUnion false) OkUnion := by
  have h := opens_struct (enc := enc) hb Try.underlying74 (tot := 4) (by kernel_rfl) (opensF_cons (sz := 1) (tot := 3) mono_triv rfl (by kernel_rfl) (opens_int Try.underlying3) (opensF_cons (sz := 1) (tot := 2) mono_triv rfl (by kernel_rfl) (opens_int Try.underlying3) (opensF_cons (sz := 1) (tot := 1) mono_triv rfl (by kernel_rfl) (opens_int Try.underlying3) (opensF_cons (sz := 1) (tot := 0) mono_triv rfl (by kernel_rfl) (opens_int Try.underlying3) (opensF_nil)))))
  exact h.map (fun p => ⟨p.1, p.2.1, p.2.2.1, p.2.2.2.1⟩) (fun p => by simp [cUnion]) (fun b p hp => by simpa [OkUnion] using hp)
def OkFamily (b : Nat) (x : Family) : Prop := (x.people.length ≤ b ∧ ∀ y ∈ x.people, OkPerson b y) ∧ (x.unions.length ≤ b ∧ ∀ y ∈ x.unions, OkUnion b y) ∧ True
theorem okFamily_mono (b b' : Nat) (x : Family) (h : b ≤ b') (hx : OkFamily b x) : OkFamily b' x := by
  obtain ⟨h0, h1, _⟩ := hx
  exact ⟨(mono_sl okPerson_mono) _ _ _ h h0, (mono_sl okUnion_mono) _ _ _ h h1, trivial⟩
theorem opens25 {H : Type} {enc : TypeId × Value → H} {bk : DataW H → Nat} (hb : Bulk bk) : Opens Try.prog enc bk 25 (cFamily false) OkFamily := by
  have h := opens_struct (enc := enc) hb Try.underlying25 (tot := 2) (by kernel_rfl) (opensF_cons (sz := 1) (tot := 1) (mono_sl okPerson_mono) rfl (by kernel_rfl) (opens_slice hb okPerson_mono Try.underlying22 (sz := 6) (by kernel_rfl) (by omega) (opens67 hb)) (opensF_cons (sz := 1) (tot := 0) (mono_sl okUnion_mono) rfl (by kernel_rfl) (opens_slice hb okUnion_mono Try.underlying23 (sz := 4) (by kernel_rfl) (by omega) (opens74 hb)) (opensF_nil)))
  exact h.map (fun p => ⟨p.1, p.2.1⟩) (fun p => by simp [cFamily]) (fun b p hp => by simpa [OkFamily] using hp)
set_option maxRecDepth 100000 in
theorem contract (H : Type) (enc : TypeId × Value → H) (W : World) (base : Nat) (args : Array Value) (ds gs : List (DataW H)) (before : List MemPlace)
    (hval : ∀ (j : Nat) t v, Try.f7.params[j]? = some t → args[j]? = some v → Value.okWide Try.prog W .any base t v)
    (hW : DataW.Whole enc Try.prog Try.f7.params.toList Rows.fnExactInbreedingSpec.vars false W args.toList ds gs before) (hk : Rows.uptoSmall H (ds ++ gs) = true) :
    Calls Try.prog 7 args W fun e W' => ∃ v, e = .returned v ∧ Rows.fnExactInbreedingSpec.post enc Try.prog Try.f7 false true false false W args v W' := by
  have hW' := hW
  obtain ⟨p, q, hA0, hV, hpq, hfz, hnd⟩ := hW
  have hA : DataW.TrodAll enc Try.prog W 0 (fun _ => true) true Try.f7.params.toList args.toList ds p := hA0
  clear hA0
  rw [Try.params7] at hA hval
  obtain ⟨v0, vs0, d0, ds0, p0, q0, hargs, rfl, rfl, h0, hA1⟩ := trodAll_cons hA
  obtain ⟨v1, vs1, d1, ds1, p1, q1, rfl, rfl, rfl, h1, hA2⟩ := trodAll_cons hA1
  obtain ⟨rfl, rfl, rfl⟩ := trodAll_nil hA2
  obtain rfl : args = #[v0, v1] := by cases args; simp_all
  obtain ⟨rfl, rfl⟩ := trodVars_none hV
  obtain ⟨x0, k0, r0⟩ := top_struct (opens25 bulk) Try.underlying25 (hval 0 25 v0 rfl rfl) h0
  obtain ⟨x1, k1, r1⟩ := top_int Try.underlying3 (hval 1 3 v1 rfl rfl) h1
  have hsmall : Rows.uptoBulk d0 ≤ 1048576 := by
    have h1 := of_decide_eq_true hk
    have h2 := bulkAll_mem ([d0, d1] ++ ([] ++ [])) d0 (by simp)
    exact Nat.le_trans h2 h1
  have kk := okFamily_mono _ _ x0 hsmall k0
  have b1 : x0.people.length ≤ 1048576 := kk.1.1
  have b2 : x0.unions.length ≤ 1048576 := kk.2.1.1
  have b3 : ∀ p ∈ x0.people, p.name.length ≤ 1048576 := fun p hp => (kk.1.2 p hp).1
  refine (Lite.Fn.true_of (ok_laws_FnExactInbreeding x0 x1 b1 b2 b3) (by rfl) fun i lv v hl hv => ?_).mono fun e W' ⟨he, hb⟩ => ⟨_, he, row_post laidOut (by kernel_rfl) rfl Try.underlying4 rfl rfl hW' hb⟩
  match i, hl, hv with
  | 0, hl, hv => cases hl; cases hv; exact r0
  | 1, hl, hv => cases hl; cases hv; exact r1
  | _ + 2, hl, _ => simp at hl
set_option maxRecDepth 100000 in
theorem lifted (os : Os) (started : os.Started) (H : Type) (enc : TypeId × Value → H) (F : Stop.Interp) :
    ReturnsInHanded {} Try.checked os 7 .any ((Rows.OpenSpec.upto Rows.fnExactInbreedingSpec).pre6 enc Try.prog Try.f7 Rows.fnExactInbreedingUptoRow.domain false) (((Rows.OpenSpec.upto Rows.fnExactInbreedingSpec).at F).post enc Try.prog Try.f7 false true false false) := by
  refine returnsInHanded_of_cond (C := Try.checked) (s := Rows.OpenSpec.upto Rows.fnExactInbreedingSpec) (k := Rows.uptoSmall) rfl own started (by kernel_rfl) Try.func7
    (OpenSpec.witness (enc := enc) (C := Try.checked) (s := Rows.OpenSpec.upto Rows.fnExactInbreedingSpec) (k := Rows.uptoSmall) rfl false ⟨#[], #[.agg #[.slice none 0 0, .slice none 0 0], .int .i64 0], []⟩ 12 (by kernel_rfl) (by kernel_rfl) (by kernel_rfl)
      (x := ([.agg [.nil, .nil], .lit (.int .i64 0)], [], [])) (by kernel_rfl) rfl (by kernel_rfl)) ?_
  intro W base args ds gs before hval hW _ hk _
  exact contract H enc W base args ds gs before hval hW hk
theorem proved : Rows.FnExactInbreedingUptoSaid :=
  OpenClaim.holds_of_cond 7 Try.f7 rfl rfl rfl rfl rfl rfl rfl ⟨rfl, rfl, rfl, rfl, rfl⟩ rfl rfl rfl rfl rfl (by kernel_rfl) Try.func7 (by kernel_rfl)
    (of_decide_eq_true (by kernel_rfl)) (by unfold Func.isWrapper; first | (rw [if_pos (by decide +kernel)]; kernel_rfl) | (rw [if_neg (by decide +kernel)]; exact ⟨rfl, rfl⟩))
    (fun os started H enc _ F => lifted os started H enc F)
end Go.Proofs.Ytanpfncfphpddaa
