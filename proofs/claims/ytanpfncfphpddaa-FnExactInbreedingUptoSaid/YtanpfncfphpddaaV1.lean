import Derived.Test.YtanpfncfphpddaaProg
import Derived.Test.YtanpfncfphpddaaLiteY
import Derived.Test.YtanpfncfphpddaaLiteI
import Derived.KernelRfl
set_option maxHeartbeats 4000000
set_option linter.unusedSimpArgs false
set_option linter.unusedVariables false
namespace Go.Proofs.Ytanpfncfphpddaa
open Go Go.Lite Go.Proofs
structure Person where
  name : List UInt8
  sex : Int
  father : Int
  mother : Int
  born : Int
  died : Int
  deriving Inhabited
def cPerson (fr : Bool) (x : Person) : List LV := cStr x.name ++ cInt .i64 x.sex ++ cInt .i64 x.father ++ cInt .i64 x.mother ++ cInt .i64 x.born ++ cInt .i64 x.died

structure Union where
  man : Int
  woman : Int
  from0 : Int
  to : Int
  deriving Inhabited
def cUnion (fr : Bool) (x : Union) : List LV := cInt .i64 x.man ++ cInt .i64 x.woman ++ cInt .i64 x.from0 ++ cInt .i64 x.to

structure Family where
  people : List Person
  unions : List Union
  deriving Inhabited
def cFamily (fr : Bool) (x : Family) : List LV := cSl fr 6 (cPerson fr) x.people ++ cSl fr 4 (cUnion fr) x.unions

def szPerson (x0 : Person) (x1 : Int) : Int := bif (decide ((x1 - ((x0.name.length : Nat) : Int)) < 0)) then (-1) else (x1 - ((x0.name.length : Nat) : Int))
theorem aux_laws_szPerson (x0 : Person) (x1 : Int) (hx : x0.name.length ≤ 1048576) (hw : -1 ≤ x1 ∧ x1 ≤ 1048576) (R : Int) (hR : szPerson x0 x1 = R) : Lite.Fn Try.prog 43 [.agg (cPerson false x0), .int .i64 x1] (.int .i64 R) [] := by
  refine Lite.Fn.intro 13 Try.func43 (by kernel_rfl) (by kernel_rfl) (by kernel_rfl) fun w0 a w hs => ?_
  refine W.linK hs 2 [] [1, 4] [] (s2 := ⟨[(1, .int .i64 (x1 - ((x0.name.length : Nat) : Int))), (4, .int .i64 0)], [], [2]⟩) (vcs := [inR .i64 (x1 - ((x0.name.length : Nat) : Int))]) (by kernel_rfl) ⟨by (clear hs; intros; simp only [inR]; omega), trivial⟩ ?_
  clear hs; intro a w hs
  refine W.seq (by kernel_rfl) ?_
  refine W.linK hs 1 [] [1, 4, 11] [] (s2 := ⟨[(1, .int .i64 (x1 - ((x0.name.length : Nat) : Int))), (4, .int .i64 0), (11, .bool (decide ((x1 - ((x0.name.length : Nat) : Int)) < 0)))], [], [2]⟩) (vcs := []) (by kernel_rfl) trivial ?_
  clear hs; intro a w hs
  refine W.cond hs (by kernel_rfl) (b := decide ((x1 - ((x0.name.length : Nat) : Int)) < 0)) (p := []) (by kernel_rfl) trivial (fun hc1 => ?_) (fun hc1 => ?_)
  ·
    replace hR := ct hR hc1
    refine W.linK hs 1 [] [1, 4] [] (s2 := ⟨[(1, .int .i64 (x1 - ((x0.name.length : Nat) : Int))), (4, .int .i64 (-1))], [], [2]⟩) (vcs := []) (by kernel_rfl) trivial ?_
    clear hs; intro a w hs
    refine W.ret (by kernel_rfl) ?_
    subst hR
    exact ret_ok hs [] (vcs := [((-1) : Int) = (-1), Frs (.int .i64 (-1))]) (by kernel_rfl) ⟨by first | rfl | omega | (simp; done), by simp [Frs, FrsL], trivial⟩
  ·
    replace hR := cf hR hc1
    refine W.skip (by kernel_rfl) ?_
    refine W.linK hs 1 [] [4] [] (s2 := ⟨[(4, .int .i64 (x1 - ((x0.name.length : Nat) : Int)))], [], [2]⟩) (vcs := []) (by kernel_rfl) trivial ?_
    clear hs; intro a w hs
    refine W.ret (by kernel_rfl) ?_
    subst hR
    exact ret_ok hs [] (vcs := [(x1 - ((x0.name.length : Nat) : Int) : Int) = (x1 - ((x0.name.length : Nat) : Int)), Frs (.int .i64 (x1 - ((x0.name.length : Nat) : Int)))]) (by kernel_rfl) ⟨by first | rfl | omega | (simp; done), by simp [Frs, FrsL], trivial⟩
theorem szPerson_rng (x : Person) (w : Int) : szPerson x w ≤ max w (-1) ∧ -1 ≤ szPerson x w := by
  unfold szPerson
  cases h : decide (w - (x.name.length : Int) < 0) <;> simp_all <;> omega
theorem ok_laws_szPerson (x0 : Person) (x1 : Int) (hx : x0.name.length ≤ 1048576) (hw : -1 ≤ x1 ∧ x1 ≤ 1048576) : Lite.Fn Try.prog 43 [.agg (cPerson false x0), .int .i64 x1] (.int .i64 (szPerson x0 x1)) [] := aux_laws_szPerson x0 x1 hx hw _ rfl
def szPersonS (x0 : List Person) (x1 : Int) : Int := bif (decide ((x1 - ((x0.length : Nat) : Int)) < 0)) then (-1) else (loopN (fun i1 (v1 : Int) next => bif (decide ((szPerson (x0.getD i1 default) v1) < 0)) then (-1) else (next (szPerson (x0.getD i1 default) v1))) (fun (v1 : Int) => v1) x0.length 0 (x1 - ((x0.length : Nat) : Int)))
theorem aux_laws_szPersonS (x0 : List Person) (x1 : Int) (hx : x0.length ≤ 1048576) (hy : ∀ p ∈ x0, p.name.length ≤ 1048576) (hw : -1 ≤ x1 ∧ x1 ≤ 1048576) (R : Int) (hR : szPersonS x0 x1 = R) : Lite.Fn Try.prog 25 [.ro false 6 x0.length (rowOf (cPerson false) x0), .int .i64 x1] (.int .i64 R) [] := by
  refine Lite.Fn.intro 27 Try.func25 (by kernel_rfl) (by kernel_rfl) (by kernel_rfl) fun w0 a w hs => ?_
  refine W.linK hs 2 [] [0, 1, 4] [] (s2 := ⟨[(0, .ro false 6 x0.length (rowOf (cPerson false) x0)), (1, .int .i64 (x1 - ((x0.length : Nat) : Int))), (4, .int .i64 0)], [], []⟩) (vcs := [inR .i64 (x1 - ((x0.length : Nat) : Int))]) (by kernel_rfl) ⟨by (clear hs; intros; simp only [inR]; omega), trivial⟩ ?_
  clear hs; intro a w hs
  refine W.seq (by kernel_rfl) ?_
  refine W.linK hs 1 [] [0, 1, 4, 11] [] (s2 := ⟨[(0, .ro false 6 x0.length (rowOf (cPerson false) x0)), (1, .int .i64 (x1 - ((x0.length : Nat) : Int))), (4, .int .i64 0), (11, .bool (decide ((x1 - ((x0.length : Nat) : Int)) < 0)))], [], []⟩) (vcs := []) (by kernel_rfl) trivial ?_
  clear hs; intro a w hs
  refine W.cond hs (by kernel_rfl) (b := decide ((x1 - ((x0.length : Nat) : Int)) < 0)) (p := []) (by kernel_rfl) trivial (fun hc1 => ?_) (fun hc1 => ?_)
  ·
    replace hR := ct hR hc1
    refine W.linK hs 1 [] [0, 1, 4] [] (s2 := ⟨[(0, .ro false 6 x0.length (rowOf (cPerson false) x0)), (1, .int .i64 (x1 - ((x0.length : Nat) : Int))), (4, .int .i64 (-1))], [], []⟩) (vcs := []) (by kernel_rfl) trivial ?_
    clear hs; intro a w hs
    refine W.ret (by kernel_rfl) ?_
    subst hR
    exact ret_ok hs [] (vcs := [((-1) : Int) = (-1), Frs (.int .i64 (-1))]) (by kernel_rfl) ⟨by first | rfl | omega | (simp; done), by simp [Frs, FrsL], trivial⟩
  ·
    replace hR := cf hR hc1
    refine W.skip (by kernel_rfl) ?_
    refine W.seq (by kernel_rfl) ?_
    refine W.linK hs 1 [] [0, 1, 4, 5] [] (s2 := ⟨[(0, .ro false 6 x0.length (rowOf (cPerson false) x0)), (1, .int .i64 (x1 - ((x0.length : Nat) : Int))), (4, .int .i64 0), (5, .int .i64 0)], [], []⟩) (vcs := []) (by kernel_rfl) trivial ?_
    clear hs; intro a w hs
    refine W.block 0 (by kernel_rfl) ?_
    refine W.loopN (s0 := x1 - ((x0.length : Nat) : Int)) hR (by kernel_rfl) (fun i v => ⟨[(0, .ro false 6 x0.length (rowOf (cPerson false) x0)), (1, .int .i64 v), (4, .int .i64 0), (5, .int .i64 ((i : Nat) : Int))], [], []⟩) (fun i v => -1 ≤ v ∧ v ≤ 1048576) (by (clear hs hR; intros; (try simp only [decide_eq_true_eq, decide_eq_false_iff_not, Bool.or_eq_true, Bool.and_eq_true, or_f_iff, not_f_iff, not_t_iff, Bool.not_eq_true', inR] at *); (repeat' apply And.intro) <;> (intros; omega))) (hs.le (T := ⟨[(0, .ro false 6 x0.length (rowOf (cPerson false) x0)), (1, .int .i64 (x1 - ((x0.length : Nat) : Int))), (4, .int .i64 0), (5, .int .i64 ((0 : Nat) : Int))], [], []⟩) [] (vcs := [rowsEq x0.length x0.length (rowOf (cPerson false) x0) (rowOf (cPerson false) x0), (x1 - ((x0.length : Nat) : Int) : Int) = (x1 - ((x0.length : Nat) : Int)), (0 : Int) = 0, (0 : Int) = ((0 : Nat) : Int)]) (by kernel_rfl) ⟨⟨rfl, fun _ _ => rfl⟩, by first | rfl | omega | (simp; done), by first | rfl | omega | (simp; done), by first | rfl | omega | (simp; done), trivial⟩) ?_
    intro i1 v1 a w hn1 hI1 hR hs
    replace hs : H 27 w0 noX ⟨[(0, .ro false 6 x0.length (rowOf (cPerson false) x0)), (1, .int .i64 v1), (4, .int .i64 0), (5, .int .i64 ((i1 : Nat) : Int))], [], []⟩ a w := hs
    refine W.seq (by kernel_rfl) ?_
    refine W.linK hs 1 [] [0, 1, 4, 5, 15] [] (s2 := ⟨[(0, .ro false 6 x0.length (rowOf (cPerson false) x0)), (1, .int .i64 v1), (4, .int .i64 0), (5, .int .i64 ((i1 : Nat) : Int)), (15, .bool (decide (((i1 : Nat) : Int) < ((x0.length : Nat) : Int))))], [], []⟩) (vcs := []) (by kernel_rfl) trivial ?_
    clear hs; intro a w hs
    refine W.cond hs (by kernel_rfl) (b := decide (((i1 : Nat) : Int) < ((x0.length : Nat) : Int))) (p := []) (by kernel_rfl) trivial (fun hc2 => ?_) (fun hc2 => ?_)
    ·
      have hii1 : i1 < x0.length := by have := of_decide_eq_true hc2; omega
      replace hR := loopN_step hR hii1
      refine W.skip (by kernel_rfl) ?_
      refine W.seq (by kernel_rfl) ?_
      refine W.block 1 (by kernel_rfl) ?_
      refine W.linK hs 2 [(5, .res (.int .i64 (szPerson (x0.getD i1 default) v1)) [])] [0, 1, 4, 5, 25] [] (s2 := ⟨[(0, .ro false 6 x0.length (rowOf (cPerson false) x0)), (1, .int .i64 (szPerson (x0.getD i1 default) v1)), (4, .int .i64 0), (5, .int .i64 ((i1 : Nat) : Int)), (25, .bool (decide ((szPerson (x0.getD i1 default) v1) < 0)))], [], []⟩) (vcs := [0 ≤ (((i1 : Nat) : Int) : Int) ∧ (((i1 : Nat) : Int) : Int) < ((x0.length : Nat) : Int), Lite.Fn Try.prog 43 [.agg [.str ((x0.getD i1 default).name), .int .i64 ((x0.getD i1 default).sex), .int .i64 ((x0.getD i1 default).father), .int .i64 ((x0.getD i1 default).mother), .int .i64 ((x0.getD i1 default).born), .int .i64 ((x0.getD i1 default).died)], .int .i64 v1] (.int .i64 (szPerson (x0.getD i1 default) v1)) []]) (by kernel_rfl) ⟨by (intros; omega), ok_laws_szPerson (x0.getD i1 default) v1 (by (clear hs hR; intros; (try simp only [decide_eq_true_eq, decide_eq_false_iff_not, Bool.or_eq_true, Bool.and_eq_true, or_f_iff, not_f_iff, not_t_iff, Bool.not_eq_true', inR] at *); (repeat' apply And.intro) <;> (simp_all [inR]; done))) (by trivial), trivial⟩ ?_
      clear hs; intro a w hs
      have hp1 := szPerson_rng (x0.getD i1 default) v1
      refine W.cond hs (by kernel_rfl) (b := decide ((szPerson (x0.getD i1 default) v1) < 0)) (p := []) (by kernel_rfl) trivial (fun hc3 => ?_) (fun hc3 => ?_)
      ·
        replace hR := ct hR hc3
        refine W.linK hs 1 [] [0, 1, 4, 5] [] (s2 := ⟨[(0, .ro false 6 x0.length (rowOf (cPerson false) x0)), (1, .int .i64 (szPerson (x0.getD i1 default) v1)), (4, .int .i64 (-1)), (5, .int .i64 ((i1 : Nat) : Int))], [], []⟩) (vcs := []) (by kernel_rfl) trivial ?_
        clear hs; intro a w hs
        refine W.ret (by kernel_rfl) ?_
        subst hR
        exact ret_ok hs [] (vcs := [((-1) : Int) = (-1), Frs (.int .i64 (-1))]) (by kernel_rfl) ⟨by first | rfl | omega | (simp; done), by simp [Frs, FrsL], trivial⟩
      ·
        replace hR := cf hR hc3
        refine W.skip (by kernel_rfl) ?_
        refine W.regK hs (by kernel_rfl) [] [0, 1, 4, 5] [] (s2 := ⟨[(0, .ro false 6 x0.length (rowOf (cPerson false) x0)), (1, .int .i64 (szPerson (x0.getD i1 default) v1)), (4, .int .i64 0), (5, .int .i64 (((i1 : Nat) : Int) + 1))], [], []⟩) (vcs := [inR .i64 (((i1 : Nat) : Int) + 1)]) (by kernel_rfl) ⟨by (clear hs; intros; simp only [inR]; omega), trivial⟩ ?_
        clear hs; intro a w hs
        exact ⟨szPerson (x0.getD i1 default) v1, hii1, by (intros; omega), hR, hs.le (T := ⟨[(0, .ro false 6 x0.length (rowOf (cPerson false) x0)), (1, .int .i64 (szPerson (x0.getD i1 default) v1)), (4, .int .i64 0), (5, .int .i64 (((i1 + 1) : Nat) : Int))], [], []⟩) [] (vcs := [rowsEq x0.length x0.length (rowOf (cPerson false) x0) (rowOf (cPerson false) x0), (szPerson (x0.getD i1 default) v1 : Int) = (szPerson (x0.getD i1 default) v1), (0 : Int) = 0, (((i1 : Nat) : Int) + 1 : Int) = (((i1 + 1) : Nat) : Int)]) (by kernel_rfl) ⟨⟨rfl, fun _ _ => rfl⟩, by first | rfl | omega | (simp; done), by first | rfl | omega | (simp; done), by first | rfl | omega | (simp; done), trivial⟩⟩
    ·
      obtain rfl : i1 = x0.length := by have := of_decide_eq_false hc2; omega
      replace hR := loopN_end hR (Nat.lt_irrefl _)
      refine W.exit 0 (by kernel_rfl) rfl ?_
      refine W.linK hs 1 [] [4] [] (s2 := ⟨[(4, .int .i64 v1)], [], []⟩) (vcs := []) (by kernel_rfl) trivial ?_
      clear hs; intro a w hs
      refine W.ret (by kernel_rfl) ?_
      subst hR
      exact ret_ok hs [] (vcs := [(v1 : Int) = v1, Frs (.int .i64 v1)]) (by kernel_rfl) ⟨by first | rfl | omega | (simp; done), by simp [Frs, FrsL], trivial⟩
theorem szPersonS_rng (x : List Person) (w : Int) : szPersonS x w ≤ max w (-1) ∧ -1 ≤ szPersonS x w := by
  unfold szPersonS
  cases h : decide (w - (x.length : Int) < 0)
  · refine loopN_inv (fun _ v => v ≤ max w (-1) ∧ -1 ≤ v) (fun r => r ≤ max w (-1) ∧ -1 ≤ r) (fun i v next hv hn => ?_) (fun _ v hv => hv) _ _ _ ?_
    · have := szPerson_rng (x.getD i default) v
      cases h2 : decide (szPerson (x.getD i default) v < 0)
      · exact hn _ (by omega)
      · simp only [cond_true]; omega
    · have := of_decide_eq_false h
      constructor <;> omega
  · simp only [cond_true]; omega
theorem ok_laws_szPersonS (x0 : List Person) (x1 : Int) (hx : x0.length ≤ 1048576) (hy : ∀ p ∈ x0, p.name.length ≤ 1048576) (hw : -1 ≤ x1 ∧ x1 ≤ 1048576) : Lite.Fn Try.prog 25 [.ro false 6 x0.length (rowOf (cPerson false) x0), .int .i64 x1] (.int .i64 (szPersonS x0 x1)) [] := aux_laws_szPersonS x0 x1 hx hy hw _ rfl
def szUnionS (x0 : List Union) (x1 : Int) : Int := bif (decide ((x1 - ((x0.length : Nat) : Int)) < 0)) then (-1) else (x1 - ((x0.length : Nat) : Int))
theorem aux_laws_szUnionS (x0 : List Union) (x1 : Int) (hx : x0.length ≤ 1048576) (hw : -1 ≤ x1 ∧ x1 ≤ 1048576) (R : Int) (hR : szUnionS x0 x1 = R) : Lite.Fn Try.prog 26 [.ro false 4 x0.length (rowOf (cUnion false) x0), .int .i64 x1] (.int .i64 R) [] := by
  refine Lite.Fn.intro 12 Try.func26 (by kernel_rfl) (by kernel_rfl) (by kernel_rfl) fun w0 a w hs => ?_
  refine W.linK hs 2 [] [1, 4] [] (s2 := ⟨[(1, .int .i64 (x1 - ((x0.length : Nat) : Int))), (4, .int .i64 0)], [], []⟩) (vcs := [inR .i64 (x1 - ((x0.length : Nat) : Int))]) (by kernel_rfl) ⟨by (clear hs; intros; simp only [inR]; omega), trivial⟩ ?_
  clear hs; intro a w hs
  refine W.seq (by kernel_rfl) ?_
  refine W.linK hs 1 [] [1, 4, 10] [] (s2 := ⟨[(1, .int .i64 (x1 - ((x0.length : Nat) : Int))), (4, .int .i64 0), (10, .bool (decide ((x1 - ((x0.length : Nat) : Int)) < 0)))], [], []⟩) (vcs := []) (by kernel_rfl) trivial ?_
  clear hs; intro a w hs
  refine W.cond hs (by kernel_rfl) (b := decide ((x1 - ((x0.length : Nat) : Int)) < 0)) (p := []) (by kernel_rfl) trivial (fun hc1 => ?_) (fun hc1 => ?_)
  ·
    replace hR := ct hR hc1
    refine W.linK hs 1 [] [1, 4] [] (s2 := ⟨[(1, .int .i64 (x1 - ((x0.length : Nat) : Int))), (4, .int .i64 (-1))], [], []⟩) (vcs := []) (by kernel_rfl) trivial ?_
    clear hs; intro a w hs
    refine W.ret (by kernel_rfl) ?_
    subst hR
    exact ret_ok hs [] (vcs := [((-1) : Int) = (-1), Frs (.int .i64 (-1))]) (by kernel_rfl) ⟨by first | rfl | omega | (simp; done), by simp [Frs, FrsL], trivial⟩
  ·
    replace hR := cf hR hc1
    refine W.skip (by kernel_rfl) ?_
    refine W.linK hs 1 [] [4] [] (s2 := ⟨[(4, .int .i64 (x1 - ((x0.length : Nat) : Int)))], [], []⟩) (vcs := []) (by kernel_rfl) trivial ?_
    clear hs; intro a w hs
    refine W.ret (by kernel_rfl) ?_
    subst hR
    exact ret_ok hs [] (vcs := [(x1 - ((x0.length : Nat) : Int) : Int) = (x1 - ((x0.length : Nat) : Int)), Frs (.int .i64 (x1 - ((x0.length : Nat) : Int)))]) (by kernel_rfl) ⟨by first | rfl | omega | (simp; done), by simp [Frs, FrsL], trivial⟩
theorem ok_laws_szUnionS (x0 : List Union) (x1 : Int) (hx : x0.length ≤ 1048576) (hw : -1 ≤ x1 ∧ x1 ≤ 1048576) : Lite.Fn Try.prog 26 [.ro false 4 x0.length (rowOf (cUnion false) x0), .int .i64 x1] (.int .i64 (szUnionS x0 x1)) [] := aux_laws_szUnionS x0 x1 hx hw _ rfl
def szFamily (x0 : Family) (x1 : Int) : Int := bif (decide ((szPersonS x0.people x1) < 0)) then (-1) else (bif (decide ((szUnionS x0.unions (szPersonS x0.people x1)) < 0)) then (-1) else (szUnionS x0.unions (szPersonS x0.people x1)))
theorem aux_laws_szFamily (x0 : Family) (x1 : Int) (hx : x0.people.length ≤ 1048576 ∧ x0.unions.length ≤ 1048576) (hy : ∀ p ∈ x0.people, p.name.length ≤ 1048576) (hw : -1 ≤ x1 ∧ x1 ≤ 1048576) (R : Int) (hR : szFamily x0 x1 = R) : Lite.Fn Try.prog 9 [.agg (cFamily false x0), .int .i64 x1] (.int .i64 R) [] := by
  refine Lite.Fn.intro 18 Try.func9 (by kernel_rfl) (by kernel_rfl) (by kernel_rfl) fun w0 a w hs => ?_
  refine W.linK hs 2 [(1003, .res (.int .i64 (szPersonS x0.people x1)) [])] [1, 2, 4] [2] (s2 := ⟨[(1, .int .i64 (szPersonS x0.people x1)), (2, .vp 2 0), (4, .int .i64 0)], [(2, .var [.ro false 6 x0.people.length (rowOf (cPerson false) x0.people), .ro false 4 x0.unions.length (rowOf (cUnion false) x0.unions)])], [2]⟩) (vcs := [Lite.Fn Try.prog 25 [.ro false 6 x0.people.length (rowOf (cPerson false) x0.people), .int .i64 x1] (.int .i64 (szPersonS x0.people x1)) []]) (by kernel_rfl) ⟨ok_laws_szPersonS x0.people x1 (by (intros; omega)) (by trivial) (by trivial), trivial⟩ ?_
  clear hs; intro a w hs
  have hp1 := szPersonS_rng x0.people x1
  refine W.seq (by kernel_rfl) ?_
  refine W.linK hs 1 [] [1, 2, 4, 10] [2] (s2 := ⟨[(1, .int .i64 (szPersonS x0.people x1)), (2, .vp 2 0), (4, .int .i64 0), (10, .bool (decide ((szPersonS x0.people x1) < 0)))], [(2, .var [.ro false 6 x0.people.length (rowOf (cPerson false) x0.people), .ro false 4 x0.unions.length (rowOf (cUnion false) x0.unions)])], [2]⟩) (vcs := []) (by kernel_rfl) trivial ?_
  clear hs; intro a w hs
  refine W.cond hs (by kernel_rfl) (b := decide ((szPersonS x0.people x1) < 0)) (p := []) (by kernel_rfl) trivial (fun hc1 => ?_) (fun hc1 => ?_)
  ·
    replace hR := ct hR hc1
    refine W.linK hs 1 [] [1, 2, 4] [2] (s2 := ⟨[(1, .int .i64 (szPersonS x0.people x1)), (2, .vp 2 0), (4, .int .i64 (-1))], [(2, .var [.ro false 6 x0.people.length (rowOf (cPerson false) x0.people), .ro false 4 x0.unions.length (rowOf (cUnion false) x0.unions)])], [2]⟩) (vcs := []) (by kernel_rfl) trivial ?_
    clear hs; intro a w hs
    refine W.ret (by kernel_rfl) ?_
    subst hR
    exact ret_ok hs [] (vcs := [((-1) : Int) = (-1), Frs (.int .i64 (-1))]) (by kernel_rfl) ⟨by first | rfl | omega | (simp; done), by simp [Frs, FrsL], trivial⟩
  ·
    replace hR := cf hR hc1
    refine W.skip (by kernel_rfl) ?_
    refine W.linK hs 1 [(3, .res (.int .i64 (szUnionS x0.unions (szPersonS x0.people x1))) [])] [1, 4] [] (s2 := ⟨[(1, .int .i64 (szUnionS x0.unions (szPersonS x0.people x1))), (4, .int .i64 0)], [], [2]⟩) (vcs := [Lite.Fn Try.prog 26 [.ro false 4 x0.unions.length (rowOf (cUnion false) x0.unions), .int .i64 (szPersonS x0.people x1)] (.int .i64 (szUnionS x0.unions (szPersonS x0.people x1))) []]) (by kernel_rfl) ⟨ok_laws_szUnionS x0.unions (szPersonS x0.people x1) (by (intros; omega)) (by (intros; omega)), trivial⟩ ?_
    clear hs; intro a w hs
    refine W.seq (by kernel_rfl) ?_
    refine W.linK hs 1 [] [1, 4, 16] [] (s2 := ⟨[(1, .int .i64 (szUnionS x0.unions (szPersonS x0.people x1))), (4, .int .i64 0), (16, .bool (decide ((szUnionS x0.unions (szPersonS x0.people x1)) < 0)))], [], [2]⟩) (vcs := []) (by kernel_rfl) trivial ?_
    clear hs; intro a w hs
    refine W.cond hs (by kernel_rfl) (b := decide ((szUnionS x0.unions (szPersonS x0.people x1)) < 0)) (p := []) (by kernel_rfl) trivial (fun hc2 => ?_) (fun hc2 => ?_)
    ·
      replace hR := ct hR hc2
      refine W.linK hs 1 [] [1, 4] [] (s2 := ⟨[(1, .int .i64 (szUnionS x0.unions (szPersonS x0.people x1))), (4, .int .i64 (-1))], [], [2]⟩) (vcs := []) (by kernel_rfl) trivial ?_
      clear hs; intro a w hs
      refine W.ret (by kernel_rfl) ?_
      subst hR
      exact ret_ok hs [] (vcs := [((-1) : Int) = (-1), Frs (.int .i64 (-1))]) (by kernel_rfl) ⟨by first | rfl | omega | (simp; done), by simp [Frs, FrsL], trivial⟩
    ·
      replace hR := cf hR hc2
      refine W.skip (by kernel_rfl) ?_
      refine W.linK hs 1 [] [4] [] (s2 := ⟨[(4, .int .i64 (szUnionS x0.unions (szPersonS x0.people x1)))], [], [2]⟩) (vcs := []) (by kernel_rfl) trivial ?_
      clear hs; intro a w hs
      refine W.ret (by kernel_rfl) ?_
      subst hR
      exact ret_ok hs [] (vcs := [(szUnionS x0.unions (szPersonS x0.people x1) : Int) = (szUnionS x0.unions (szPersonS x0.people x1)), Frs (.int .i64 (szUnionS x0.unions (szPersonS x0.people x1)))]) (by kernel_rfl) ⟨by first | rfl | omega | (simp; done), by simp [Frs, FrsL], trivial⟩
theorem ok_laws_szFamily (x0 : Family) (x1 : Int) (hx : x0.people.length ≤ 1048576 ∧ x0.unions.length ≤ 1048576) (hy : ∀ p ∈ x0.people, p.name.length ≤ 1048576) (hw : -1 ≤ x1 ∧ x1 ≤ 1048576) : Lite.Fn Try.prog 9 [.agg (cFamily false x0), .int .i64 x1] (.int .i64 (szFamily x0 x1)) [] := aux_laws_szFamily x0 x1 hx hy hw _ rfl
def laws_toPerson_m (x0 : Person) : Person := x0
theorem aux_laws_toPerson (x0 : Person) (R : Person) (hR : laws_toPerson_m x0 = R) : Lite.Fn Try.prog 46 [.agg (cPerson false x0)] (.agg [.str R.name, .int .i64 R.sex, .int .i64 R.father, .int .i64 R.mother, .int .i64 R.born, .int .i64 R.died]) [] := by
  refine Lite.Fn.intro 23 Try.func46 (by kernel_rfl) (by kernel_rfl) (by kernel_rfl) fun w0 a w hs => ?_
  refine W.linK hs 9 [] [2] [2] (s2 := ⟨[(2, .vp 2 0)], [(2, .var [.str x0.name, .int .i64 x0.sex, .int .i64 x0.father, .int .i64 x0.mother, .int .i64 x0.born, .int .i64 x0.died])], [3, 2, 1]⟩) (vcs := []) (by kernel_rfl) trivial ?_
  clear hs; intro a w hs
  refine W.ret (by kernel_rfl) ?_
  subst hR
  exact ret_ok hs [] (vcs := [x0.name = x0.name, (x0.sex : Int) = x0.sex, (x0.father : Int) = x0.father, (x0.mother : Int) = x0.mother, (x0.born : Int) = x0.born, (x0.died : Int) = x0.died, Frs (.agg [.str x0.name, .int .i64 x0.sex, .int .i64 x0.father, .int .i64 x0.mother, .int .i64 x0.born, .int .i64 x0.died])]) (by kernel_rfl) ⟨rfl, by first | rfl | omega | (simp; done), by first | rfl | omega | (simp; done), by first | rfl | omega | (simp; done), by first | rfl | omega | (simp; done), by first | rfl | omega | (simp; done), by simp [Frs, FrsL], trivial⟩
theorem ok_laws_toPerson (x0 : Person) : Lite.Fn Try.prog 46 [.agg (cPerson false x0)] (.agg [.str x0.name, .int .i64 x0.sex, .int .i64 x0.father, .int .i64 x0.mother, .int .i64 x0.born, .int .i64 x0.died]) [] := aux_laws_toPerson x0  _ rfl
def laws_toPersonS_m (x0 : List Person) : (List Person) := loopN (fun i1 (v1 : (List Person)) next => next (v1.set i1 (x0.getD i1 default))) (fun (v1 : (List Person)) => v1) x0.length 0 (List.replicate x0.length (default : Person))
theorem aux_laws_toPersonS (x0 : List Person) (hx : x0.length ≤ 1048576) (R : (List Person)) (hR : laws_toPersonS_m x0 = R) : Lite.Fn Try.prog 29 [.ro false 6 x0.length (rowOf (cPerson false) x0)] (.own 0) [.arr 6 R.length (rowOf (cPerson true) R)] := by
  refine Lite.Fn.intro 23 Try.func29 (by kernel_rfl) (by kernel_rfl) (by kernel_rfl) fun w0 a w hs => ?_
  refine W.linK hs 2 [] [0, 2, 3] [7] (s2 := ⟨[(0, .ro false 6 x0.length (rowOf (cPerson false) x0)), (2, .nilS), (3, .own 7)], [(7, .arr 6 x0.length (fun i => [.str ([] : List UInt8), .int .i64 0, .int .i64 0, .int .i64 0, .int .i64 0, .int .i64 0]))], [7]⟩) (vcs := [0 ≤ ((x0.length : Nat) : Int) ∧ ((x0.length : Nat) : Int) ≤ ((x0.length : Nat) : Int) ∧ ((56 : Nat) : Int) * ((x0.length : Nat) : Int) ≤ 281474976710656 ∧ ((x0.length : Nat) : Int) ≤ 9223372036854775807]) (by kernel_rfl) ⟨by (intros; omega), trivial⟩ ?_
  clear hs; intro a w hs
  refine W.seq (by kernel_rfl) ?_
  refine W.linK hs 1 [] [0, 2, 3, 4] [7] (s2 := ⟨[(0, .ro false 6 x0.length (rowOf (cPerson false) x0)), (2, .nilS), (3, .own 7), (4, .int .i64 0)], [(7, .arr 6 x0.length (fun i => [.str ([] : List UInt8), .int .i64 0, .int .i64 0, .int .i64 0, .int .i64 0, .int .i64 0]))], [7]⟩) (vcs := []) (by kernel_rfl) trivial ?_
  clear hs; intro a w hs
  refine W.block 0 (by kernel_rfl) ?_
  refine W.loopN (s0 := (List.replicate x0.length (default : Person))) hR (by kernel_rfl) (fun i v => ⟨[(0, .ro false 6 x0.length (rowOf (cPerson false) x0)), (2, .nilS), (3, .own 5003), (4, .int .i64 ((i : Nat) : Int))], [(5003, .arr 6 v.length (rowOf (cPerson true) v))], [5003]⟩) (fun i v => v.length = x0.length) (by (clear hs hR; intros; (try simp only [decide_eq_true_eq, decide_eq_false_iff_not, Bool.or_eq_true, Bool.and_eq_true, or_f_iff, not_f_iff, not_t_iff, Bool.not_eq_true', inR] at *); (repeat' apply And.intro) <;> (simp_all [inR]; done))) (hs.le (T := ⟨[(0, .ro false 6 x0.length (rowOf (cPerson false) x0)), (2, .nilS), (3, .own 5003), (4, .int .i64 ((0 : Nat) : Int))], [(5003, .arr 6 ((List.replicate x0.length (default : Person)).length) (rowOf (cPerson true) (List.replicate x0.length (default : Person))))], [5003]⟩) [(5003, some 7)] (vcs := [rowsEq x0.length x0.length (rowOf (cPerson false) x0) (rowOf (cPerson false) x0), (0 : Int) = ((0 : Nat) : Int), rowsEq x0.length ((List.replicate x0.length (default : Person)).length) (fun i => [.str ([] : List UInt8), .int .i64 0, .int .i64 0, .int .i64 0, .int .i64 0, .int .i64 0]) (rowOf (cPerson true) (List.replicate x0.length (default : Person)))]) (by kernel_rfl) ⟨⟨rfl, fun _ _ => rfl⟩, by first | rfl | omega | (simp; done), ⟨by simp, fun k hk => (row_replicate (cPerson true) x0.length default k hk).symm⟩, trivial⟩) ?_
  intro i1 v1 a w hn1 hI1 hR hs
  replace hs : H 23 w0 noX ⟨[(0, .ro false 6 x0.length (rowOf (cPerson false) x0)), (2, .nilS), (3, .own 5003), (4, .int .i64 ((i1 : Nat) : Int))], [(5003, .arr 6 v1.length (rowOf (cPerson true) v1))], [5003]⟩ a w := hs
  refine W.seq (by kernel_rfl) ?_
  refine W.linK hs 1 [] [0, 2, 3, 4, 11] [5003] (s2 := ⟨[(0, .ro false 6 x0.length (rowOf (cPerson false) x0)), (2, .nilS), (3, .own 5003), (4, .int .i64 ((i1 : Nat) : Int)), (11, .bool (decide (((i1 : Nat) : Int) < ((x0.length : Nat) : Int))))], [(5003, .arr 6 v1.length (rowOf (cPerson true) v1))], [5003]⟩) (vcs := []) (by kernel_rfl) trivial ?_
  clear hs; intro a w hs
  refine W.cond hs (by kernel_rfl) (b := decide (((i1 : Nat) : Int) < ((x0.length : Nat) : Int))) (p := []) (by kernel_rfl) trivial (fun hc1 => ?_) (fun hc1 => ?_)
  ·
    have hii1 : i1 < x0.length := by have := of_decide_eq_true hc1; omega
    replace hR := loopN_step hR hii1
    refine W.skip (by kernel_rfl) ?_
    refine W.seq (by kernel_rfl) ?_
    refine W.block 1 (by kernel_rfl) ?_
    refine W.regK hs (by kernel_rfl) [(6, .res (.agg [.str ((x0.getD i1 default).name), .int .i64 ((x0.getD i1 default).sex), .int .i64 ((x0.getD i1 default).father), .int .i64 ((x0.getD i1 default).mother), .int .i64 ((x0.getD i1 default).born), .int .i64 ((x0.getD i1 default).died)]) []), (8, .row (rowOf (cPerson true) (v1.set i1 (x0.getD i1 default))))] [0, 2, 3, 4] [5003] (s2 := ⟨[(0, .ro false 6 x0.length (rowOf (cPerson false) x0)), (2, .nilS), (3, .own 5003), (4, .int .i64 ((i1 : Nat) : Int))], [(5003, .arr 6 v1.length (rowOf (cPerson true) (v1.set i1 (x0.getD i1 default))))], [5003]⟩) (vcs := [0 ≤ (((i1 : Nat) : Int) : Int) ∧ (((i1 : Nat) : Int) : Int) < ((x0.length : Nat) : Int), Lite.Fn Try.prog 46 [.agg [.str ((x0.getD i1 default).name), .int .i64 ((x0.getD i1 default).sex), .int .i64 ((x0.getD i1 default).father), .int .i64 ((x0.getD i1 default).mother), .int .i64 ((x0.getD i1 default).born), .int .i64 ((x0.getD i1 default).died)]] (.agg [.str ((x0.getD i1 default).name), .int .i64 ((x0.getD i1 default).sex), .int .i64 ((x0.getD i1 default).father), .int .i64 ((x0.getD i1 default).mother), .int .i64 ((x0.getD i1 default).born), .int .i64 ((x0.getD i1 default).died)]) [], 0 ≤ (((i1 : Nat) : Int) : Int) ∧ (((i1 : Nat) : Int) : Int) < ((v1.length : Nat) : Int), ∀ k, k < v1.length → (rowOf (cPerson true) (v1.set i1 (x0.getD i1 default))) k = bif Nat.beq k i1 then setSeg ((rowOf (cPerson true) v1) k) 0 [.str ((x0.getD i1 default).name), .int .i64 ((x0.getD i1 default).sex), .int .i64 ((x0.getD i1 default).father), .int .i64 ((x0.getD i1 default).mother), .int .i64 ((x0.getD i1 default).born), .int .i64 ((x0.getD i1 default).died)] else (rowOf (cPerson true) v1) k]) (by kernel_rfl) ⟨by (intros; omega), ok_laws_toPerson (x0.getD i1 default), by (intros; omega), row_set (cPerson true) v1 i1 (x0.getD i1 default) (by (intros; omega)), trivial⟩ ?_
    clear hs; intro a w hs
    refine W.regK hs (by kernel_rfl) [] [0, 2, 3, 4] [5003] (s2 := ⟨[(0, .ro false 6 x0.length (rowOf (cPerson false) x0)), (2, .nilS), (3, .own 5003), (4, .int .i64 (((i1 : Nat) : Int) + 1))], [(5003, .arr 6 v1.length (rowOf (cPerson true) (v1.set i1 (x0.getD i1 default))))], [5003]⟩) (vcs := [inR .i64 (((i1 : Nat) : Int) + 1)]) (by kernel_rfl) ⟨by (clear hs; intros; simp only [inR]; omega), trivial⟩ ?_
    clear hs; intro a w hs
    exact ⟨(v1.set i1 (x0.getD i1 default)), hii1, by (clear hs hR; intros; (try simp only [decide_eq_true_eq, decide_eq_false_iff_not, Bool.or_eq_true, Bool.and_eq_true, or_f_iff, not_f_iff, not_t_iff, Bool.not_eq_true', inR] at *); (repeat' apply And.intro) <;> (simp_all [inR]; done)), hR, hs.le (T := ⟨[(0, .ro false 6 x0.length (rowOf (cPerson false) x0)), (2, .nilS), (3, .own 5003), (4, .int .i64 (((i1 + 1) : Nat) : Int))], [(5003, .arr 6 ((v1.set i1 (x0.getD i1 default)).length) (rowOf (cPerson true) (v1.set i1 (x0.getD i1 default))))], [5003]⟩) [(5003, some 5003)] (vcs := [rowsEq x0.length x0.length (rowOf (cPerson false) x0) (rowOf (cPerson false) x0), (((i1 : Nat) : Int) + 1 : Int) = (((i1 + 1) : Nat) : Int), rowsEq v1.length ((v1.set i1 (x0.getD i1 default)).length) (rowOf (cPerson true) (v1.set i1 (x0.getD i1 default))) (rowOf (cPerson true) (v1.set i1 (x0.getD i1 default)))]) (by kernel_rfl) ⟨⟨rfl, fun _ _ => rfl⟩, by first | rfl | omega | (simp; done), ⟨by (simp; done), fun _ _ => rfl⟩, trivial⟩⟩
  ·
    obtain rfl : i1 = x0.length := by have := of_decide_eq_false hc1; omega
    replace hR := loopN_end hR (Nat.lt_irrefl _)
    refine W.exit 0 (by kernel_rfl) rfl ?_
    refine W.linK hs 1 [] [2] [5003] (s2 := ⟨[(2, .own 5003)], [(5003, .arr 6 v1.length (rowOf (cPerson true) v1))], [5003]⟩) (vcs := []) (by kernel_rfl) trivial ?_
    clear hs; intro a w hs
    refine W.ret (by kernel_rfl) ?_
    subst hR
    exact ret_ok hs [(0, some 5003)] (vcs := [rowsEq v1.length v1.length (rowOf (cPerson true) v1) (rowOf (cPerson true) v1), Frs (.own 0), FrsB (.arr 6 v1.length (rowOf (cPerson true) v1))]) (by kernel_rfl) ⟨⟨rfl, fun _ _ => rfl⟩, by simp [Frs, FrsL], by intro k hk; simp [rowOf, cInt, cBool, cStr, cSl, FrsL, Frs, FrsL_app, cPerson, cUnion, cFamily], trivial⟩
theorem toPersonS_id (x : List Person) : laws_toPersonS_m x = x := loopN_copy x _ _ _ _ (by simp) (by simp) (fun k hk => absurd hk (by omega))
theorem ok_laws_toPersonS (x0 : List Person) (hx : x0.length ≤ 1048576) : Lite.Fn Try.prog 29 [.ro false 6 x0.length (rowOf (cPerson false) x0)] (.own 0) [.arr 6 x0.length (rowOf (cPerson true) x0)] := aux_laws_toPersonS x0 hx _ (toPersonS_id x0)
def laws_toUnion_m (x0 : Union) : Union := x0
theorem aux_laws_toUnion (x0 : Union) (R : Union) (hR : laws_toUnion_m x0 = R) : Lite.Fn Try.prog 47 [.agg (cUnion false x0)] (.agg [.int .i64 R.man, .int .i64 R.woman, .int .i64 R.from0, .int .i64 R.to]) [] := by
  refine Lite.Fn.intro 17 Try.func47 (by kernel_rfl) (by kernel_rfl) (by kernel_rfl) fun w0 a w hs => ?_
  refine W.linK hs 7 [] [2] [2] (s2 := ⟨[(2, .vp 2 0)], [(2, .var [.int .i64 x0.man, .int .i64 x0.woman, .int .i64 x0.from0, .int .i64 x0.to])], [3, 2, 1]⟩) (vcs := []) (by kernel_rfl) trivial ?_
  clear hs; intro a w hs
  refine W.ret (by kernel_rfl) ?_
  subst hR
  exact ret_ok hs [] (vcs := [(x0.man : Int) = x0.man, (x0.woman : Int) = x0.woman, (x0.from0 : Int) = x0.from0, (x0.to : Int) = x0.to, Frs (.agg [.int .i64 x0.man, .int .i64 x0.woman, .int .i64 x0.from0, .int .i64 x0.to])]) (by kernel_rfl) ⟨by first | rfl | omega | (simp; done), by first | rfl | omega | (simp; done), by first | rfl | omega | (simp; done), by first | rfl | omega | (simp; done), by simp [Frs, FrsL], trivial⟩
theorem ok_laws_toUnion (x0 : Union) : Lite.Fn Try.prog 47 [.agg (cUnion false x0)] (.agg [.int .i64 x0.man, .int .i64 x0.woman, .int .i64 x0.from0, .int .i64 x0.to]) [] := aux_laws_toUnion x0  _ rfl
def laws_toUnionS_m (x0 : List Union) : (List Union) := loopN (fun i1 (v1 : (List Union)) next => next (v1.set i1 (x0.getD i1 default))) (fun (v1 : (List Union)) => v1) x0.length 0 (List.replicate x0.length (default : Union))
theorem aux_laws_toUnionS (x0 : List Union) (hx : x0.length ≤ 1048576) (R : (List Union)) (hR : laws_toUnionS_m x0 = R) : Lite.Fn Try.prog 30 [.ro false 4 x0.length (rowOf (cUnion false) x0)] (.own 0) [.arr 4 R.length (rowOf (cUnion true) R)] := by
  refine Lite.Fn.intro 23 Try.func30 (by kernel_rfl) (by kernel_rfl) (by kernel_rfl) fun w0 a w hs => ?_
  refine W.linK hs 2 [] [0, 2, 3] [7] (s2 := ⟨[(0, .ro false 4 x0.length (rowOf (cUnion false) x0)), (2, .nilS), (3, .own 7)], [(7, .arr 4 x0.length (fun i => [.int .i64 0, .int .i64 0, .int .i64 0, .int .i64 0]))], [7]⟩) (vcs := [0 ≤ ((x0.length : Nat) : Int) ∧ ((x0.length : Nat) : Int) ≤ ((x0.length : Nat) : Int) ∧ ((32 : Nat) : Int) * ((x0.length : Nat) : Int) ≤ 281474976710656 ∧ ((x0.length : Nat) : Int) ≤ 9223372036854775807]) (by kernel_rfl) ⟨by (intros; omega), trivial⟩ ?_
  clear hs; intro a w hs
  refine W.seq (by kernel_rfl) ?_
  refine W.linK hs 1 [] [0, 2, 3, 4] [7] (s2 := ⟨[(0, .ro false 4 x0.length (rowOf (cUnion false) x0)), (2, .nilS), (3, .own 7), (4, .int .i64 0)], [(7, .arr 4 x0.length (fun i => [.int .i64 0, .int .i64 0, .int .i64 0, .int .i64 0]))], [7]⟩) (vcs := []) (by kernel_rfl) trivial ?_
  clear hs; intro a w hs
  refine W.block 0 (by kernel_rfl) ?_
  refine W.loopN (s0 := (List.replicate x0.length (default : Union))) hR (by kernel_rfl) (fun i v => ⟨[(0, .ro false 4 x0.length (rowOf (cUnion false) x0)), (2, .nilS), (3, .own 5003), (4, .int .i64 ((i : Nat) : Int))], [(5003, .arr 4 v.length (rowOf (cUnion true) v))], [5003]⟩) (fun i v => v.length = x0.length) (by (clear hs hR; intros; (try simp only [decide_eq_true_eq, decide_eq_false_iff_not, Bool.or_eq_true, Bool.and_eq_true, or_f_iff, not_f_iff, not_t_iff, Bool.not_eq_true', inR] at *); (repeat' apply And.intro) <;> (simp_all [inR]; done))) (hs.le (T := ⟨[(0, .ro false 4 x0.length (rowOf (cUnion false) x0)), (2, .nilS), (3, .own 5003), (4, .int .i64 ((0 : Nat) : Int))], [(5003, .arr 4 ((List.replicate x0.length (default : Union)).length) (rowOf (cUnion true) (List.replicate x0.length (default : Union))))], [5003]⟩) [(5003, some 7)] (vcs := [rowsEq x0.length x0.length (rowOf (cUnion false) x0) (rowOf (cUnion false) x0), (0 : Int) = ((0 : Nat) : Int), rowsEq x0.length ((List.replicate x0.length (default : Union)).length) (fun i => [.int .i64 0, .int .i64 0, .int .i64 0, .int .i64 0]) (rowOf (cUnion true) (List.replicate x0.length (default : Union)))]) (by kernel_rfl) ⟨⟨rfl, fun _ _ => rfl⟩, by first | rfl | omega | (simp; done), ⟨by simp, fun k hk => (row_replicate (cUnion true) x0.length default k hk).symm⟩, trivial⟩) ?_
  intro i1 v1 a w hn1 hI1 hR hs
  replace hs : H 23 w0 noX ⟨[(0, .ro false 4 x0.length (rowOf (cUnion false) x0)), (2, .nilS), (3, .own 5003), (4, .int .i64 ((i1 : Nat) : Int))], [(5003, .arr 4 v1.length (rowOf (cUnion true) v1))], [5003]⟩ a w := hs
  refine W.seq (by kernel_rfl) ?_
  refine W.linK hs 1 [] [0, 2, 3, 4, 11] [5003] (s2 := ⟨[(0, .ro false 4 x0.length (rowOf (cUnion false) x0)), (2, .nilS), (3, .own 5003), (4, .int .i64 ((i1 : Nat) : Int)), (11, .bool (decide (((i1 : Nat) : Int) < ((x0.length : Nat) : Int))))], [(5003, .arr 4 v1.length (rowOf (cUnion true) v1))], [5003]⟩) (vcs := []) (by kernel_rfl) trivial ?_
  clear hs; intro a w hs
  refine W.cond hs (by kernel_rfl) (b := decide (((i1 : Nat) : Int) < ((x0.length : Nat) : Int))) (p := []) (by kernel_rfl) trivial (fun hc1 => ?_) (fun hc1 => ?_)
  ·
    have hii1 : i1 < x0.length := by have := of_decide_eq_true hc1; omega
    replace hR := loopN_step hR hii1
    refine W.skip (by kernel_rfl) ?_
    refine W.seq (by kernel_rfl) ?_
    refine W.block 1 (by kernel_rfl) ?_
    refine W.regK hs (by kernel_rfl) [(6, .res (.agg [.int .i64 ((x0.getD i1 default).man), .int .i64 ((x0.getD i1 default).woman), .int .i64 ((x0.getD i1 default).from0), .int .i64 ((x0.getD i1 default).to)]) []), (8, .row (rowOf (cUnion true) (v1.set i1 (x0.getD i1 default))))] [0, 2, 3, 4] [5003] (s2 := ⟨[(0, .ro false 4 x0.length (rowOf (cUnion false) x0)), (2, .nilS), (3, .own 5003), (4, .int .i64 ((i1 : Nat) : Int))], [(5003, .arr 4 v1.length (rowOf (cUnion true) (v1.set i1 (x0.getD i1 default))))], [5003]⟩) (vcs := [0 ≤ (((i1 : Nat) : Int) : Int) ∧ (((i1 : Nat) : Int) : Int) < ((x0.length : Nat) : Int), Lite.Fn Try.prog 47 [.agg [.int .i64 ((x0.getD i1 default).man), .int .i64 ((x0.getD i1 default).woman), .int .i64 ((x0.getD i1 default).from0), .int .i64 ((x0.getD i1 default).to)]] (.agg [.int .i64 ((x0.getD i1 default).man), .int .i64 ((x0.getD i1 default).woman), .int .i64 ((x0.getD i1 default).from0), .int .i64 ((x0.getD i1 default).to)]) [], 0 ≤ (((i1 : Nat) : Int) : Int) ∧ (((i1 : Nat) : Int) : Int) < ((v1.length : Nat) : Int), ∀ k, k < v1.length → (rowOf (cUnion true) (v1.set i1 (x0.getD i1 default))) k = bif Nat.beq k i1 then setSeg ((rowOf (cUnion true) v1) k) 0 [.int .i64 ((x0.getD i1 default).man), .int .i64 ((x0.getD i1 default).woman), .int .i64 ((x0.getD i1 default).from0), .int .i64 ((x0.getD i1 default).to)] else (rowOf (cUnion true) v1) k]) (by kernel_rfl) ⟨by (intros; omega), ok_laws_toUnion (x0.getD i1 default), by (intros; omega), row_set (cUnion true) v1 i1 (x0.getD i1 default) (by (intros; omega)), trivial⟩ ?_
    clear hs; intro a w hs
    refine W.regK hs (by kernel_rfl) [] [0, 2, 3, 4] [5003] (s2 := ⟨[(0, .ro false 4 x0.length (rowOf (cUnion false) x0)), (2, .nilS), (3, .own 5003), (4, .int .i64 (((i1 : Nat) : Int) + 1))], [(5003, .arr 4 v1.length (rowOf (cUnion true) (v1.set i1 (x0.getD i1 default))))], [5003]⟩) (vcs := [inR .i64 (((i1 : Nat) : Int) + 1)]) (by kernel_rfl) ⟨by (clear hs; intros; simp only [inR]; omega), trivial⟩ ?_
    clear hs; intro a w hs
    exact ⟨(v1.set i1 (x0.getD i1 default)), hii1, by (clear hs hR; intros; (try simp only [decide_eq_true_eq, decide_eq_false_iff_not, Bool.or_eq_true, Bool.and_eq_true, or_f_iff, not_f_iff, not_t_iff, Bool.not_eq_true', inR] at *); (repeat' apply And.intro) <;> (simp_all [inR]; done)), hR, hs.le (T := ⟨[(0, .ro false 4 x0.length (rowOf (cUnion false) x0)), (2, .nilS), (3, .own 5003), (4, .int .i64 (((i1 + 1) : Nat) : Int))], [(5003, .arr 4 ((v1.set i1 (x0.getD i1 default)).length) (rowOf (cUnion true) (v1.set i1 (x0.getD i1 default))))], [5003]⟩) [(5003, some 5003)] (vcs := [rowsEq x0.length x0.length (rowOf (cUnion false) x0) (rowOf (cUnion false) x0), (((i1 : Nat) : Int) + 1 : Int) = (((i1 + 1) : Nat) : Int), rowsEq v1.length ((v1.set i1 (x0.getD i1 default)).length) (rowOf (cUnion true) (v1.set i1 (x0.getD i1 default))) (rowOf (cUnion true) (v1.set i1 (x0.getD i1 default)))]) (by kernel_rfl) ⟨⟨rfl, fun _ _ => rfl⟩, by first | rfl | omega | (simp; done), ⟨by (simp; done), fun _ _ => rfl⟩, trivial⟩⟩
  ·
    obtain rfl : i1 = x0.length := by have := of_decide_eq_false hc1; omega
    replace hR := loopN_end hR (Nat.lt_irrefl _)
    refine W.exit 0 (by kernel_rfl) rfl ?_
    refine W.linK hs 1 [] [2] [5003] (s2 := ⟨[(2, .own 5003)], [(5003, .arr 4 v1.length (rowOf (cUnion true) v1))], [5003]⟩) (vcs := []) (by kernel_rfl) trivial ?_
    clear hs; intro a w hs
    refine W.ret (by kernel_rfl) ?_
    subst hR
    exact ret_ok hs [(0, some 5003)] (vcs := [rowsEq v1.length v1.length (rowOf (cUnion true) v1) (rowOf (cUnion true) v1), Frs (.own 0), FrsB (.arr 4 v1.length (rowOf (cUnion true) v1))]) (by kernel_rfl) ⟨⟨rfl, fun _ _ => rfl⟩, by simp [Frs, FrsL], by intro k hk; simp [rowOf, cInt, cBool, cStr, cSl, FrsL, Frs, FrsL_app, cPerson, cUnion, cFamily], trivial⟩
theorem toUnionS_id (x : List Union) : laws_toUnionS_m x = x := loopN_copy x _ _ _ _ (by simp) (by simp) (fun k hk => absurd hk (by omega))
theorem ok_laws_toUnionS (x0 : List Union) (hx : x0.length ≤ 1048576) : Lite.Fn Try.prog 30 [.ro false 4 x0.length (rowOf (cUnion false) x0)] (.own 0) [.arr 4 x0.length (rowOf (cUnion true) x0)] := aux_laws_toUnionS x0 hx _ (toUnionS_id x0)
def laws_toFamily_m (x0 : Family) : Family := x0
theorem aux_laws_toFamily (x0 : Family) (hx : x0.people.length ≤ 1048576 ∧ x0.unions.length ≤ 1048576) (R : Family) (hR : laws_toFamily_m x0 = R) : Lite.Fn Try.prog 11 [.agg (cFamily false x0)] (.agg [.own 0, .own 1]) [.arr 6 R.people.length (rowOf (cPerson true) R.people), .arr 4 R.unions.length (rowOf (cUnion true) R.unions)] := by
  refine Lite.Fn.intro 13 Try.func11 (by kernel_rfl) (by kernel_rfl) (by kernel_rfl) fun w0 a w hs => ?_
  refine W.linK hs 5 [(2002, .res (.own 0) [(6, x0.people.length, (rowOf (cPerson true) x0.people))]), (3002, .res (.own 0) [(4, x0.unions.length, (rowOf (cUnion true) x0.unions))])] [2] [2, 1006, 1010] (s2 := ⟨[(2, .vp 2 0)], [(2, .var [.own 1006, .own 1010]), (1006, .arr 6 x0.people.length (rowOf (cPerson true) x0.people)), (1010, .arr 4 x0.unions.length (rowOf (cUnion true) x0.unions))], [1010, 1006, 3, 2, 1]⟩) (vcs := [Lite.Fn Try.prog 29 [.ro false 6 x0.people.length (rowOf (cPerson false) x0.people)] (.own 0) [.arr 6 x0.people.length (rowOf (cPerson true) x0.people)], Lite.Fn Try.prog 30 [.ro false 4 x0.unions.length (rowOf (cUnion false) x0.unions)] (.own 0) [.arr 4 x0.unions.length (rowOf (cUnion true) x0.unions)]]) (by kernel_rfl) ⟨ok_laws_toPersonS x0.people (by (intros; omega)), ok_laws_toUnionS x0.unions (by (intros; omega)), trivial⟩ ?_
  clear hs; intro a w hs
  refine W.ret (by kernel_rfl) ?_
  subst hR
  exact ret_ok hs [(0, some 1006), (1, some 1010)] (vcs := [rowsEq x0.people.length x0.people.length (rowOf (cPerson true) x0.people) (rowOf (cPerson true) x0.people), rowsEq x0.unions.length x0.unions.length (rowOf (cUnion true) x0.unions) (rowOf (cUnion true) x0.unions), Frs (.agg [.own 0, .own 1]), FrsB (.arr 6 x0.people.length (rowOf (cPerson true) x0.people)), FrsB (.arr 4 x0.unions.length (rowOf (cUnion true) x0.unions))]) (by kernel_rfl) ⟨⟨rfl, fun _ _ => rfl⟩, ⟨rfl, fun _ _ => rfl⟩, by simp [Frs, FrsL], by intro k hk; simp [rowOf, cInt, cBool, cStr, cSl, FrsL, Frs, FrsL_app, cPerson, cUnion, cFamily], by intro k hk; simp [rowOf, cInt, cBool, cStr, cSl, FrsL, Frs, FrsL_app, cPerson, cUnion, cFamily], trivial⟩
theorem ok_laws_toFamily (x0 : Family) (hx : x0.people.length ≤ 1048576 ∧ x0.unions.length ≤ 1048576) : Lite.Fn Try.prog 11 [.agg (cFamily false x0)] (.agg [.own 0, .own 1]) [.arr 6 x0.people.length (rowOf (cPerson true) x0.people), .arr 4 x0.unions.length (rowOf (cUnion true) x0.unions)] := aux_laws_toFamily x0 hx _ rfl
def eqPerson (x0 : Person) (x1 : Person) : Bool := bif (!(x0.name == x1.name)) then false else (bif (!decide (x0.sex = x1.sex)) then false else (bif (!decide (x0.father = x1.father)) then false else (bif (!decide (x0.mother = x1.mother)) then false else (bif (!decide (x0.born = x1.born)) then false else (bif (!decide (x0.died = x1.died)) then false else true)))))
theorem aux_laws_eqPerson (x0 : Person) (x1 : Person) (R : Bool) (hR : eqPerson x0 x1 = R) : Lite.Fn Try.prog 50 [.agg (cPerson false x0), .agg (cPerson false x1)] (.bool R) [] := by
  refine Lite.Fn.intro 35 Try.func50 (by kernel_rfl) (by kernel_rfl) (by kernel_rfl) fun w0 a w hs => ?_
  refine W.linK hs 1 [] [2, 3, 4] [2, 3] (s2 := ⟨[(2, .vp 2 0), (3, .vp 3 0), (4, .bool false)], [(2, .var [.str x0.name, .int .i64 x0.sex, .int .i64 x0.father, .int .i64 x0.mother, .int .i64 x0.born, .int .i64 x0.died]), (3, .var [.str x1.name, .int .i64 x1.sex, .int .i64 x1.father, .int .i64 x1.mother, .int .i64 x1.born, .int .i64 x1.died])], [3, 2]⟩) (vcs := []) (by kernel_rfl) trivial ?_
  clear hs; intro a w hs
  refine W.seq (by kernel_rfl) ?_
  refine W.linK hs 1 [] [2, 3, 4, 9] [2, 3] (s2 := ⟨[(2, .vp 2 0), (3, .vp 3 0), (4, .bool false), (9, .bool (!(x0.name == x1.name)))], [(2, .var [.str x0.name, .int .i64 x0.sex, .int .i64 x0.father, .int .i64 x0.mother, .int .i64 x0.born, .int .i64 x0.died]), (3, .var [.str x1.name, .int .i64 x1.sex, .int .i64 x1.father, .int .i64 x1.mother, .int .i64 x1.born, .int .i64 x1.died])], [3, 2]⟩) (vcs := []) (by kernel_rfl) trivial ?_
  clear hs; intro a w hs
  refine W.cond hs (by kernel_rfl) (b := !(x0.name == x1.name)) (p := []) (by kernel_rfl) trivial (fun hc1 => ?_) (fun hc1 => ?_)
  ·
    replace hR := ct hR hc1
    refine W.linK hs 1 [] [2, 3, 4] [2, 3] (s2 := ⟨[(2, .vp 2 0), (3, .vp 3 0), (4, .bool false)], [(2, .var [.str x0.name, .int .i64 x0.sex, .int .i64 x0.father, .int .i64 x0.mother, .int .i64 x0.born, .int .i64 x0.died]), (3, .var [.str x1.name, .int .i64 x1.sex, .int .i64 x1.father, .int .i64 x1.mother, .int .i64 x1.born, .int .i64 x1.died])], [3, 2]⟩) (vcs := []) (by kernel_rfl) trivial ?_
    clear hs; intro a w hs
    refine W.ret (by kernel_rfl) ?_
    subst hR
    exact ret_ok hs [] (vcs := [false = false, Frs (.bool false)]) (by kernel_rfl) ⟨rfl, by simp [Frs, FrsL], trivial⟩
  ·
    replace hR := cf hR hc1
    refine W.skip (by kernel_rfl) ?_
    refine W.seq (by kernel_rfl) ?_
    refine W.linK hs 1 [] [2, 3, 4, 14] [2, 3] (s2 := ⟨[(2, .vp 2 0), (3, .vp 3 0), (4, .bool false), (14, .bool (!decide (x0.sex = x1.sex)))], [(2, .var [.str x0.name, .int .i64 x0.sex, .int .i64 x0.father, .int .i64 x0.mother, .int .i64 x0.born, .int .i64 x0.died]), (3, .var [.str x1.name, .int .i64 x1.sex, .int .i64 x1.father, .int .i64 x1.mother, .int .i64 x1.born, .int .i64 x1.died])], [3, 2]⟩) (vcs := []) (by kernel_rfl) trivial ?_
    clear hs; intro a w hs
    refine W.cond hs (by kernel_rfl) (b := !decide (x0.sex = x1.sex)) (p := []) (by kernel_rfl) trivial (fun hc2 => ?_) (fun hc2 => ?_)
    ·
      replace hR := ct hR hc2
      refine W.linK hs 1 [] [2, 3, 4] [2, 3] (s2 := ⟨[(2, .vp 2 0), (3, .vp 3 0), (4, .bool false)], [(2, .var [.str x0.name, .int .i64 x0.sex, .int .i64 x0.father, .int .i64 x0.mother, .int .i64 x0.born, .int .i64 x0.died]), (3, .var [.str x1.name, .int .i64 x1.sex, .int .i64 x1.father, .int .i64 x1.mother, .int .i64 x1.born, .int .i64 x1.died])], [3, 2]⟩) (vcs := []) (by kernel_rfl) trivial ?_
      clear hs; intro a w hs
      refine W.ret (by kernel_rfl) ?_
      subst hR
      exact ret_ok hs [] (vcs := [false = false, Frs (.bool false)]) (by kernel_rfl) ⟨rfl, by simp [Frs, FrsL], trivial⟩
    ·
      replace hR := cf hR hc2
      refine W.skip (by kernel_rfl) ?_
      refine W.seq (by kernel_rfl) ?_
      refine W.linK hs 1 [] [2, 3, 4, 19] [2, 3] (s2 := ⟨[(2, .vp 2 0), (3, .vp 3 0), (4, .bool false), (19, .bool (!decide (x0.father = x1.father)))], [(2, .var [.str x0.name, .int .i64 x0.sex, .int .i64 x0.father, .int .i64 x0.mother, .int .i64 x0.born, .int .i64 x0.died]), (3, .var [.str x1.name, .int .i64 x1.sex, .int .i64 x1.father, .int .i64 x1.mother, .int .i64 x1.born, .int .i64 x1.died])], [3, 2]⟩) (vcs := []) (by kernel_rfl) trivial ?_
      clear hs; intro a w hs
      refine W.cond hs (by kernel_rfl) (b := !decide (x0.father = x1.father)) (p := []) (by kernel_rfl) trivial (fun hc3 => ?_) (fun hc3 => ?_)
      ·
        replace hR := ct hR hc3
        refine W.linK hs 1 [] [2, 3, 4] [2, 3] (s2 := ⟨[(2, .vp 2 0), (3, .vp 3 0), (4, .bool false)], [(2, .var [.str x0.name, .int .i64 x0.sex, .int .i64 x0.father, .int .i64 x0.mother, .int .i64 x0.born, .int .i64 x0.died]), (3, .var [.str x1.name, .int .i64 x1.sex, .int .i64 x1.father, .int .i64 x1.mother, .int .i64 x1.born, .int .i64 x1.died])], [3, 2]⟩) (vcs := []) (by kernel_rfl) trivial ?_
        clear hs; intro a w hs
        refine W.ret (by kernel_rfl) ?_
        subst hR
        exact ret_ok hs [] (vcs := [false = false, Frs (.bool false)]) (by kernel_rfl) ⟨rfl, by simp [Frs, FrsL], trivial⟩
      ·
        replace hR := cf hR hc3
        refine W.skip (by kernel_rfl) ?_
        refine W.seq (by kernel_rfl) ?_
        refine W.linK hs 1 [] [2, 3, 4, 24] [2, 3] (s2 := ⟨[(2, .vp 2 0), (3, .vp 3 0), (4, .bool false), (24, .bool (!decide (x0.mother = x1.mother)))], [(2, .var [.str x0.name, .int .i64 x0.sex, .int .i64 x0.father, .int .i64 x0.mother, .int .i64 x0.born, .int .i64 x0.died]), (3, .var [.str x1.name, .int .i64 x1.sex, .int .i64 x1.father, .int .i64 x1.mother, .int .i64 x1.born, .int .i64 x1.died])], [3, 2]⟩) (vcs := []) (by kernel_rfl) trivial ?_
        clear hs; intro a w hs
        refine W.cond hs (by kernel_rfl) (b := !decide (x0.mother = x1.mother)) (p := []) (by kernel_rfl) trivial (fun hc4 => ?_) (fun hc4 => ?_)
        ·
          replace hR := ct hR hc4
          refine W.linK hs 1 [] [2, 3, 4] [2, 3] (s2 := ⟨[(2, .vp 2 0), (3, .vp 3 0), (4, .bool false)], [(2, .var [.str x0.name, .int .i64 x0.sex, .int .i64 x0.father, .int .i64 x0.mother, .int .i64 x0.born, .int .i64 x0.died]), (3, .var [.str x1.name, .int .i64 x1.sex, .int .i64 x1.father, .int .i64 x1.mother, .int .i64 x1.born, .int .i64 x1.died])], [3, 2]⟩) (vcs := []) (by kernel_rfl) trivial ?_
          clear hs; intro a w hs
          refine W.ret (by kernel_rfl) ?_
          subst hR
          exact ret_ok hs [] (vcs := [false = false, Frs (.bool false)]) (by kernel_rfl) ⟨rfl, by simp [Frs, FrsL], trivial⟩
        ·
          replace hR := cf hR hc4
          refine W.skip (by kernel_rfl) ?_
          refine W.seq (by kernel_rfl) ?_
          refine W.linK hs 1 [] [2, 3, 4, 29] [2, 3] (s2 := ⟨[(2, .vp 2 0), (3, .vp 3 0), (4, .bool false), (29, .bool (!decide (x0.born = x1.born)))], [(2, .var [.str x0.name, .int .i64 x0.sex, .int .i64 x0.father, .int .i64 x0.mother, .int .i64 x0.born, .int .i64 x0.died]), (3, .var [.str x1.name, .int .i64 x1.sex, .int .i64 x1.father, .int .i64 x1.mother, .int .i64 x1.born, .int .i64 x1.died])], [3, 2]⟩) (vcs := []) (by kernel_rfl) trivial ?_
          clear hs; intro a w hs
          refine W.cond hs (by kernel_rfl) (b := !decide (x0.born = x1.born)) (p := []) (by kernel_rfl) trivial (fun hc5 => ?_) (fun hc5 => ?_)
          ·
            replace hR := ct hR hc5
            refine W.linK hs 1 [] [2, 3, 4] [2, 3] (s2 := ⟨[(2, .vp 2 0), (3, .vp 3 0), (4, .bool false)], [(2, .var [.str x0.name, .int .i64 x0.sex, .int .i64 x0.father, .int .i64 x0.mother, .int .i64 x0.born, .int .i64 x0.died]), (3, .var [.str x1.name, .int .i64 x1.sex, .int .i64 x1.father, .int .i64 x1.mother, .int .i64 x1.born, .int .i64 x1.died])], [3, 2]⟩) (vcs := []) (by kernel_rfl) trivial ?_
            clear hs; intro a w hs
            refine W.ret (by kernel_rfl) ?_
            subst hR
            exact ret_ok hs [] (vcs := [false = false, Frs (.bool false)]) (by kernel_rfl) ⟨rfl, by simp [Frs, FrsL], trivial⟩
          ·
            replace hR := cf hR hc5
            refine W.skip (by kernel_rfl) ?_
            refine W.seq (by kernel_rfl) ?_
            refine W.linK hs 1 [] [4, 34] [] (s2 := ⟨[(4, .bool false), (34, .bool (!decide (x0.died = x1.died)))], [], [3, 2]⟩) (vcs := []) (by kernel_rfl) trivial ?_
            clear hs; intro a w hs
            refine W.cond hs (by kernel_rfl) (b := !decide (x0.died = x1.died)) (p := []) (by kernel_rfl) trivial (fun hc6 => ?_) (fun hc6 => ?_)
            ·
              replace hR := ct hR hc6
              refine W.linK hs 1 [] [4] [] (s2 := ⟨[(4, .bool false)], [], [3, 2]⟩) (vcs := []) (by kernel_rfl) trivial ?_
              clear hs; intro a w hs
              refine W.ret (by kernel_rfl) ?_
              subst hR
              exact ret_ok hs [] (vcs := [false = false, Frs (.bool false)]) (by kernel_rfl) ⟨rfl, by simp [Frs, FrsL], trivial⟩
            ·
              replace hR := cf hR hc6
              refine W.skip (by kernel_rfl) ?_
              refine W.linK hs 1 [] [4] [] (s2 := ⟨[(4, .bool true)], [], [3, 2]⟩) (vcs := []) (by kernel_rfl) trivial ?_
              clear hs; intro a w hs
              refine W.ret (by kernel_rfl) ?_
              subst hR
              exact ret_ok hs [] (vcs := [true = true, Frs (.bool true)]) (by kernel_rfl) ⟨rfl, by simp [Frs, FrsL], trivial⟩
theorem eqPerson_self (x : Person) : eqPerson x x = true := by simp [eqPerson]
theorem ok_laws_eqPerson (x0 : Person) (x1 : Person) : Lite.Fn Try.prog 50 [.agg (cPerson false x0), .agg (cPerson false x1)] (.bool (eqPerson x0 x1)) [] := aux_laws_eqPerson x0 x1  _ rfl
def eqPersonS (x0 : List Person) (x1 : List Person) : Bool := bif (!decide (((x0.length : Nat) : Int) = ((x1.length : Nat) : Int))) then false else (loopN (fun i1 (v1 : Unit) next => bif (!(eqPerson (x0.getD i1 default) (x1.getD i1 default))) then false else (next ())) (fun (v1 : Unit) => true) x0.length 0 ())
theorem aux_laws_eqPersonS (x0 : List Person) (x1 : List Person) (hx : x0.length ≤ 1048576) (R : Bool) (hR : eqPersonS x0 x1 = R) : Lite.Fn Try.prog 33 [.ro false 6 x0.length (rowOf (cPerson false) x0), .ro false 6 x1.length (rowOf (cPerson false) x1)] (.bool R) [] := by
  refine Lite.Fn.intro 27 Try.func33 (by kernel_rfl) (by kernel_rfl) (by kernel_rfl) fun w0 a w hs => ?_
  refine W.linK hs 1 [] [0, 1, 4] [] (s2 := ⟨[(0, .ro false 6 x0.length (rowOf (cPerson false) x0)), (1, .ro false 6 x1.length (rowOf (cPerson false) x1)), (4, .bool false)], [], []⟩) (vcs := []) (by kernel_rfl) trivial ?_
  clear hs; intro a w hs
  refine W.seq (by kernel_rfl) ?_
  refine W.linK hs 1 [] [0, 1, 4, 10] [] (s2 := ⟨[(0, .ro false 6 x0.length (rowOf (cPerson false) x0)), (1, .ro false 6 x1.length (rowOf (cPerson false) x1)), (4, .bool false), (10, .bool (!decide (((x0.length : Nat) : Int) = ((x1.length : Nat) : Int))))], [], []⟩) (vcs := []) (by kernel_rfl) trivial ?_
  clear hs; intro a w hs
  refine W.cond hs (by kernel_rfl) (b := !decide (((x0.length : Nat) : Int) = ((x1.length : Nat) : Int))) (p := []) (by kernel_rfl) trivial (fun hc1 => ?_) (fun hc1 => ?_)
  ·
    replace hR := ct hR hc1
    refine W.linK hs 1 [] [0, 1, 4] [] (s2 := ⟨[(0, .ro false 6 x0.length (rowOf (cPerson false) x0)), (1, .ro false 6 x1.length (rowOf (cPerson false) x1)), (4, .bool false)], [], []⟩) (vcs := []) (by kernel_rfl) trivial ?_
    clear hs; intro a w hs
    refine W.ret (by kernel_rfl) ?_
    subst hR
    exact ret_ok hs [] (vcs := [false = false, Frs (.bool false)]) (by kernel_rfl) ⟨rfl, by simp [Frs, FrsL], trivial⟩
  ·
    replace hR := cf hR hc1
    refine W.skip (by kernel_rfl) ?_
    refine W.seq (by kernel_rfl) ?_
    refine W.linK hs 1 [] [0, 1, 4, 5] [] (s2 := ⟨[(0, .ro false 6 x0.length (rowOf (cPerson false) x0)), (1, .ro false 6 x1.length (rowOf (cPerson false) x1)), (4, .bool false), (5, .int .i64 0)], [], []⟩) (vcs := []) (by kernel_rfl) trivial ?_
    clear hs; intro a w hs
    refine W.block 0 (by kernel_rfl) ?_
    refine W.loopN (s0 := ()) hR (by kernel_rfl) (fun i v => ⟨[(0, .ro false 6 x0.length (rowOf (cPerson false) x0)), (1, .ro false 6 x1.length (rowOf (cPerson false) x1)), (4, .bool false), (5, .int .i64 ((i : Nat) : Int))], [], []⟩) (fun i v => True) (by trivial) (hs.le (T := ⟨[(0, .ro false 6 x0.length (rowOf (cPerson false) x0)), (1, .ro false 6 x1.length (rowOf (cPerson false) x1)), (4, .bool false), (5, .int .i64 ((0 : Nat) : Int))], [], []⟩) [] (vcs := [rowsEq x0.length x0.length (rowOf (cPerson false) x0) (rowOf (cPerson false) x0), rowsEq x1.length x1.length (rowOf (cPerson false) x1) (rowOf (cPerson false) x1), false = false, (0 : Int) = ((0 : Nat) : Int)]) (by kernel_rfl) ⟨⟨rfl, fun _ _ => rfl⟩, ⟨rfl, fun _ _ => rfl⟩, rfl, by first | rfl | omega | (simp; done), trivial⟩) ?_
    intro i1 v1 a w hn1 hI1 hR hs
    replace hs : H 27 w0 noX ⟨[(0, .ro false 6 x0.length (rowOf (cPerson false) x0)), (1, .ro false 6 x1.length (rowOf (cPerson false) x1)), (4, .bool false), (5, .int .i64 ((i1 : Nat) : Int))], [], []⟩ a w := hs
    refine W.seq (by kernel_rfl) ?_
    refine W.linK hs 1 [] [0, 1, 4, 5, 14] [] (s2 := ⟨[(0, .ro false 6 x0.length (rowOf (cPerson false) x0)), (1, .ro false 6 x1.length (rowOf (cPerson false) x1)), (4, .bool false), (5, .int .i64 ((i1 : Nat) : Int)), (14, .bool (decide (((i1 : Nat) : Int) < ((x0.length : Nat) : Int))))], [], []⟩) (vcs := []) (by kernel_rfl) trivial ?_
    clear hs; intro a w hs
    refine W.cond hs (by kernel_rfl) (b := decide (((i1 : Nat) : Int) < ((x0.length : Nat) : Int))) (p := []) (by kernel_rfl) trivial (fun hc2 => ?_) (fun hc2 => ?_)
    ·
      have hii1 : i1 < x0.length := by have := of_decide_eq_true hc2; omega
      replace hR := loopN_step hR hii1
      refine W.skip (by kernel_rfl) ?_
      refine W.seq (by kernel_rfl) ?_
      refine W.block 1 (by kernel_rfl) ?_
      refine W.seq (by kernel_rfl) ?_
      refine W.drawK hs (by kernel_rfl) (by kernel_rfl) [(8, .res (.bool (eqPerson (x0.getD i1 default) (x1.getD i1 default))) [])] [0, 1, 4, 5, 26] [] (s2 := ⟨[(0, .ro false 6 x0.length (rowOf (cPerson false) x0)), (1, .ro false 6 x1.length (rowOf (cPerson false) x1)), (4, .bool false), (5, .int .i64 ((i1 : Nat) : Int)), (26, .bool (!(eqPerson (x0.getD i1 default) (x1.getD i1 default))))], [], []⟩) (vcs := [0 ≤ (((i1 : Nat) : Int) : Int) ∧ (((i1 : Nat) : Int) : Int) < ((x0.length : Nat) : Int), 0 ≤ (((i1 : Nat) : Int) : Int) ∧ (((i1 : Nat) : Int) : Int) < ((x1.length : Nat) : Int), Lite.Fn Try.prog 50 [.agg [.str ((x0.getD i1 default).name), .int .i64 ((x0.getD i1 default).sex), .int .i64 ((x0.getD i1 default).father), .int .i64 ((x0.getD i1 default).mother), .int .i64 ((x0.getD i1 default).born), .int .i64 ((x0.getD i1 default).died)], .agg [.str ((x1.getD i1 default).name), .int .i64 ((x1.getD i1 default).sex), .int .i64 ((x1.getD i1 default).father), .int .i64 ((x1.getD i1 default).mother), .int .i64 ((x1.getD i1 default).born), .int .i64 ((x1.getD i1 default).died)]] (.bool (eqPerson (x0.getD i1 default) (x1.getD i1 default))) []]) (by kernel_rfl) ⟨by (intros; omega), by (clear hs hR; intros; (try simp only [decide_eq_true_eq, decide_eq_false_iff_not, Bool.or_eq_true, Bool.and_eq_true, or_f_iff, not_f_iff, not_t_iff, Bool.not_eq_true', inR] at *); (repeat' apply And.intro) <;> (intros; omega)), ok_laws_eqPerson (x0.getD i1 default) (x1.getD i1 default), trivial⟩ ?_
      clear hs; intro a w hs
      refine W.cond hs (by kernel_rfl) (b := !(eqPerson (x0.getD i1 default) (x1.getD i1 default))) (p := []) (by kernel_rfl) trivial (fun hc3 => ?_) (fun hc3 => ?_)
      ·
        replace hR := ct hR hc3
        refine W.linK hs 1 [] [0, 1, 4, 5] [] (s2 := ⟨[(0, .ro false 6 x0.length (rowOf (cPerson false) x0)), (1, .ro false 6 x1.length (rowOf (cPerson false) x1)), (4, .bool false), (5, .int .i64 ((i1 : Nat) : Int))], [], []⟩) (vcs := []) (by kernel_rfl) trivial ?_
        clear hs; intro a w hs
        refine W.ret (by kernel_rfl) ?_
        subst hR
        exact ret_ok hs [] (vcs := [false = false, Frs (.bool false)]) (by kernel_rfl) ⟨rfl, by simp [Frs, FrsL], trivial⟩
      ·
        replace hR := cf hR hc3
        refine W.skip (by kernel_rfl) ?_
        refine W.regK hs (by kernel_rfl) [] [0, 1, 4, 5] [] (s2 := ⟨[(0, .ro false 6 x0.length (rowOf (cPerson false) x0)), (1, .ro false 6 x1.length (rowOf (cPerson false) x1)), (4, .bool false), (5, .int .i64 (((i1 : Nat) : Int) + 1))], [], []⟩) (vcs := [inR .i64 (((i1 : Nat) : Int) + 1)]) (by kernel_rfl) ⟨by (clear hs; intros; simp only [inR]; omega), trivial⟩ ?_
        clear hs; intro a w hs
        exact ⟨(), hii1, by trivial, hR, hs.le (T := ⟨[(0, .ro false 6 x0.length (rowOf (cPerson false) x0)), (1, .ro false 6 x1.length (rowOf (cPerson false) x1)), (4, .bool false), (5, .int .i64 (((i1 + 1) : Nat) : Int))], [], []⟩) [] (vcs := [rowsEq x0.length x0.length (rowOf (cPerson false) x0) (rowOf (cPerson false) x0), rowsEq x1.length x1.length (rowOf (cPerson false) x1) (rowOf (cPerson false) x1), false = false, (((i1 : Nat) : Int) + 1 : Int) = (((i1 + 1) : Nat) : Int)]) (by kernel_rfl) ⟨⟨rfl, fun _ _ => rfl⟩, ⟨rfl, fun _ _ => rfl⟩, rfl, by first | rfl | omega | (simp; done), trivial⟩⟩
    ·
      obtain rfl : i1 = x0.length := by have := of_decide_eq_false hc2; omega
      replace hR := loopN_end hR (Nat.lt_irrefl _)
      refine W.exit 0 (by kernel_rfl) rfl ?_
      refine W.linK hs 1 [] [4] [] (s2 := ⟨[(4, .bool true)], [], []⟩) (vcs := []) (by kernel_rfl) trivial ?_
      clear hs; intro a w hs
      refine W.ret (by kernel_rfl) ?_
      subst hR
      exact ret_ok hs [] (vcs := [true = true, Frs (.bool true)]) (by kernel_rfl) ⟨rfl, by simp [Frs, FrsL], trivial⟩
theorem eqPersonS_self (x : List Person) : eqPersonS x x = true := by
  simp only [eqPersonS, decide_true, Bool.not_true, cond_false]
  exact loopN_inv (fun _ _ => True) (fun r => r = true) (fun i v next _ hn => by simp only [eqPerson_self, Bool.not_true, cond_false]; exact hn _ trivial) (fun _ _ _ => rfl) _ _ _ trivial
theorem ok_laws_eqPersonS (x0 : List Person) (x1 : List Person) (hx : x0.length ≤ 1048576) : Lite.Fn Try.prog 33 [.ro false 6 x0.length (rowOf (cPerson false) x0), .ro false 6 x1.length (rowOf (cPerson false) x1)] (.bool (eqPersonS x0 x1)) [] := aux_laws_eqPersonS x0 x1 hx _ rfl
def eqUnion (x0 : Union) (x1 : Union) : Bool := bif (!decide (x0.man = x1.man)) then false else (bif (!decide (x0.woman = x1.woman)) then false else (bif (!decide (x0.from0 = x1.from0)) then false else (bif (!decide (x0.to = x1.to)) then false else true)))
theorem aux_laws_eqUnion (x0 : Union) (x1 : Union) (R : Bool) (hR : eqUnion x0 x1 = R) : Lite.Fn Try.prog 51 [.agg (cUnion false x0), .agg (cUnion false x1)] (.bool R) [] := by
  refine Lite.Fn.intro 25 Try.func51 (by kernel_rfl) (by kernel_rfl) (by kernel_rfl) fun w0 a w hs => ?_
  refine W.linK hs 1 [] [2, 3, 4] [2, 3] (s2 := ⟨[(2, .vp 2 0), (3, .vp 3 0), (4, .bool false)], [(2, .var [.int .i64 x0.man, .int .i64 x0.woman, .int .i64 x0.from0, .int .i64 x0.to]), (3, .var [.int .i64 x1.man, .int .i64 x1.woman, .int .i64 x1.from0, .int .i64 x1.to])], [3, 2]⟩) (vcs := []) (by kernel_rfl) trivial ?_
  clear hs; intro a w hs
  refine W.seq (by kernel_rfl) ?_
  refine W.linK hs 1 [] [2, 3, 4, 9] [2, 3] (s2 := ⟨[(2, .vp 2 0), (3, .vp 3 0), (4, .bool false), (9, .bool (!decide (x0.man = x1.man)))], [(2, .var [.int .i64 x0.man, .int .i64 x0.woman, .int .i64 x0.from0, .int .i64 x0.to]), (3, .var [.int .i64 x1.man, .int .i64 x1.woman, .int .i64 x1.from0, .int .i64 x1.to])], [3, 2]⟩) (vcs := []) (by kernel_rfl) trivial ?_
  clear hs; intro a w hs
  refine W.cond hs (by kernel_rfl) (b := !decide (x0.man = x1.man)) (p := []) (by kernel_rfl) trivial (fun hc1 => ?_) (fun hc1 => ?_)
  ·
    replace hR := ct hR hc1
    refine W.linK hs 1 [] [2, 3, 4] [2, 3] (s2 := ⟨[(2, .vp 2 0), (3, .vp 3 0), (4, .bool false)], [(2, .var [.int .i64 x0.man, .int .i64 x0.woman, .int .i64 x0.from0, .int .i64 x0.to]), (3, .var [.int .i64 x1.man, .int .i64 x1.woman, .int .i64 x1.from0, .int .i64 x1.to])], [3, 2]⟩) (vcs := []) (by kernel_rfl) trivial ?_
    clear hs; intro a w hs
    refine W.ret (by kernel_rfl) ?_
    subst hR
    exact ret_ok hs [] (vcs := [false = false, Frs (.bool false)]) (by kernel_rfl) ⟨rfl, by simp [Frs, FrsL], trivial⟩
  ·
    replace hR := cf hR hc1
    refine W.skip (by kernel_rfl) ?_
    refine W.seq (by kernel_rfl) ?_
    refine W.linK hs 1 [] [2, 3, 4, 14] [2, 3] (s2 := ⟨[(2, .vp 2 0), (3, .vp 3 0), (4, .bool false), (14, .bool (!decide (x0.woman = x1.woman)))], [(2, .var [.int .i64 x0.man, .int .i64 x0.woman, .int .i64 x0.from0, .int .i64 x0.to]), (3, .var [.int .i64 x1.man, .int .i64 x1.woman, .int .i64 x1.from0, .int .i64 x1.to])], [3, 2]⟩) (vcs := []) (by kernel_rfl) trivial ?_
    clear hs; intro a w hs
    refine W.cond hs (by kernel_rfl) (b := !decide (x0.woman = x1.woman)) (p := []) (by kernel_rfl) trivial (fun hc2 => ?_) (fun hc2 => ?_)
    ·
      replace hR := ct hR hc2
      refine W.linK hs 1 [] [2, 3, 4] [2, 3] (s2 := ⟨[(2, .vp 2 0), (3, .vp 3 0), (4, .bool false)], [(2, .var [.int .i64 x0.man, .int .i64 x0.woman, .int .i64 x0.from0, .int .i64 x0.to]), (3, .var [.int .i64 x1.man, .int .i64 x1.woman, .int .i64 x1.from0, .int .i64 x1.to])], [3, 2]⟩) (vcs := []) (by kernel_rfl) trivial ?_
      clear hs; intro a w hs
      refine W.ret (by kernel_rfl) ?_
      subst hR
      exact ret_ok hs [] (vcs := [false = false, Frs (.bool false)]) (by kernel_rfl) ⟨rfl, by simp [Frs, FrsL], trivial⟩
    ·
      replace hR := cf hR hc2
      refine W.skip (by kernel_rfl) ?_
      refine W.seq (by kernel_rfl) ?_
      refine W.linK hs 1 [] [2, 3, 4, 19] [2, 3] (s2 := ⟨[(2, .vp 2 0), (3, .vp 3 0), (4, .bool false), (19, .bool (!decide (x0.from0 = x1.from0)))], [(2, .var [.int .i64 x0.man, .int .i64 x0.woman, .int .i64 x0.from0, .int .i64 x0.to]), (3, .var [.int .i64 x1.man, .int .i64 x1.woman, .int .i64 x1.from0, .int .i64 x1.to])], [3, 2]⟩) (vcs := []) (by kernel_rfl) trivial ?_
      clear hs; intro a w hs
      refine W.cond hs (by kernel_rfl) (b := !decide (x0.from0 = x1.from0)) (p := []) (by kernel_rfl) trivial (fun hc3 => ?_) (fun hc3 => ?_)
      ·
        replace hR := ct hR hc3
        refine W.linK hs 1 [] [2, 3, 4] [2, 3] (s2 := ⟨[(2, .vp 2 0), (3, .vp 3 0), (4, .bool false)], [(2, .var [.int .i64 x0.man, .int .i64 x0.woman, .int .i64 x0.from0, .int .i64 x0.to]), (3, .var [.int .i64 x1.man, .int .i64 x1.woman, .int .i64 x1.from0, .int .i64 x1.to])], [3, 2]⟩) (vcs := []) (by kernel_rfl) trivial ?_
        clear hs; intro a w hs
        refine W.ret (by kernel_rfl) ?_
        subst hR
        exact ret_ok hs [] (vcs := [false = false, Frs (.bool false)]) (by kernel_rfl) ⟨rfl, by simp [Frs, FrsL], trivial⟩
      ·
        replace hR := cf hR hc3
        refine W.skip (by kernel_rfl) ?_
        refine W.seq (by kernel_rfl) ?_
        refine W.linK hs 1 [] [4, 24] [] (s2 := ⟨[(4, .bool false), (24, .bool (!decide (x0.to = x1.to)))], [], [3, 2]⟩) (vcs := []) (by kernel_rfl) trivial ?_
        clear hs; intro a w hs
        refine W.cond hs (by kernel_rfl) (b := !decide (x0.to = x1.to)) (p := []) (by kernel_rfl) trivial (fun hc4 => ?_) (fun hc4 => ?_)
        ·
          replace hR := ct hR hc4
          refine W.linK hs 1 [] [4] [] (s2 := ⟨[(4, .bool false)], [], [3, 2]⟩) (vcs := []) (by kernel_rfl) trivial ?_
          clear hs; intro a w hs
          refine W.ret (by kernel_rfl) ?_
          subst hR
          exact ret_ok hs [] (vcs := [false = false, Frs (.bool false)]) (by kernel_rfl) ⟨rfl, by simp [Frs, FrsL], trivial⟩
        ·
          replace hR := cf hR hc4
          refine W.skip (by kernel_rfl) ?_
          refine W.linK hs 1 [] [4] [] (s2 := ⟨[(4, .bool true)], [], [3, 2]⟩) (vcs := []) (by kernel_rfl) trivial ?_
          clear hs; intro a w hs
          refine W.ret (by kernel_rfl) ?_
          subst hR
          exact ret_ok hs [] (vcs := [true = true, Frs (.bool true)]) (by kernel_rfl) ⟨rfl, by simp [Frs, FrsL], trivial⟩
theorem eqUnion_self (x : Union) : eqUnion x x = true := by simp [eqUnion]
theorem ok_laws_eqUnion (x0 : Union) (x1 : Union) : Lite.Fn Try.prog 51 [.agg (cUnion false x0), .agg (cUnion false x1)] (.bool (eqUnion x0 x1)) [] := aux_laws_eqUnion x0 x1  _ rfl
def eqUnionS (x0 : List Union) (x1 : List Union) : Bool := bif (!decide (((x0.length : Nat) : Int) = ((x1.length : Nat) : Int))) then false else (loopN (fun i1 (v1 : Unit) next => bif (!(eqUnion (x0.getD i1 default) (x1.getD i1 default))) then false else (next ())) (fun (v1 : Unit) => true) x0.length 0 ())
theorem aux_laws_eqUnionS (x0 : List Union) (x1 : List Union) (hx : x0.length ≤ 1048576) (R : Bool) (hR : eqUnionS x0 x1 = R) : Lite.Fn Try.prog 34 [.ro false 4 x0.length (rowOf (cUnion false) x0), .ro false 4 x1.length (rowOf (cUnion false) x1)] (.bool R) [] := by
  refine Lite.Fn.intro 27 Try.func34 (by kernel_rfl) (by kernel_rfl) (by kernel_rfl) fun w0 a w hs => ?_
  refine W.linK hs 1 [] [0, 1, 4] [] (s2 := ⟨[(0, .ro false 4 x0.length (rowOf (cUnion false) x0)), (1, .ro false 4 x1.length (rowOf (cUnion false) x1)), (4, .bool false)], [], []⟩) (vcs := []) (by kernel_rfl) trivial ?_
  clear hs; intro a w hs
  refine W.seq (by kernel_rfl) ?_
  refine W.linK hs 1 [] [0, 1, 4, 10] [] (s2 := ⟨[(0, .ro false 4 x0.length (rowOf (cUnion false) x0)), (1, .ro false 4 x1.length (rowOf (cUnion false) x1)), (4, .bool false), (10, .bool (!decide (((x0.length : Nat) : Int) = ((x1.length : Nat) : Int))))], [], []⟩) (vcs := []) (by kernel_rfl) trivial ?_
  clear hs; intro a w hs
  refine W.cond hs (by kernel_rfl) (b := !decide (((x0.length : Nat) : Int) = ((x1.length : Nat) : Int))) (p := []) (by kernel_rfl) trivial (fun hc1 => ?_) (fun hc1 => ?_)
  ·
    replace hR := ct hR hc1
    refine W.linK hs 1 [] [0, 1, 4] [] (s2 := ⟨[(0, .ro false 4 x0.length (rowOf (cUnion false) x0)), (1, .ro false 4 x1.length (rowOf (cUnion false) x1)), (4, .bool false)], [], []⟩) (vcs := []) (by kernel_rfl) trivial ?_
    clear hs; intro a w hs
    refine W.ret (by kernel_rfl) ?_
    subst hR
    exact ret_ok hs [] (vcs := [false = false, Frs (.bool false)]) (by kernel_rfl) ⟨rfl, by simp [Frs, FrsL], trivial⟩
  ·
    replace hR := cf hR hc1
    refine W.skip (by kernel_rfl) ?_
    refine W.seq (by kernel_rfl) ?_
    refine W.linK hs 1 [] [0, 1, 4, 5] [] (s2 := ⟨[(0, .ro false 4 x0.length (rowOf (cUnion false) x0)), (1, .ro false 4 x1.length (rowOf (cUnion false) x1)), (4, .bool false), (5, .int .i64 0)], [], []⟩) (vcs := []) (by kernel_rfl) trivial ?_
    clear hs; intro a w hs
    refine W.block 0 (by kernel_rfl) ?_
    refine W.loopN (s0 := ()) hR (by kernel_rfl) (fun i v => ⟨[(0, .ro false 4 x0.length (rowOf (cUnion false) x0)), (1, .ro false 4 x1.length (rowOf (cUnion false) x1)), (4, .bool false), (5, .int .i64 ((i : Nat) : Int))], [], []⟩) (fun i v => True) (by trivial) (hs.le (T := ⟨[(0, .ro false 4 x0.length (rowOf (cUnion false) x0)), (1, .ro false 4 x1.length (rowOf (cUnion false) x1)), (4, .bool false), (5, .int .i64 ((0 : Nat) : Int))], [], []⟩) [] (vcs := [rowsEq x0.length x0.length (rowOf (cUnion false) x0) (rowOf (cUnion false) x0), rowsEq x1.length x1.length (rowOf (cUnion false) x1) (rowOf (cUnion false) x1), false = false, (0 : Int) = ((0 : Nat) : Int)]) (by kernel_rfl) ⟨⟨rfl, fun _ _ => rfl⟩, ⟨rfl, fun _ _ => rfl⟩, rfl, by first | rfl | omega | (simp; done), trivial⟩) ?_
    intro i1 v1 a w hn1 hI1 hR hs
    replace hs : H 27 w0 noX ⟨[(0, .ro false 4 x0.length (rowOf (cUnion false) x0)), (1, .ro false 4 x1.length (rowOf (cUnion false) x1)), (4, .bool false), (5, .int .i64 ((i1 : Nat) : Int))], [], []⟩ a w := hs
    refine W.seq (by kernel_rfl) ?_
    refine W.linK hs 1 [] [0, 1, 4, 5, 14] [] (s2 := ⟨[(0, .ro false 4 x0.length (rowOf (cUnion false) x0)), (1, .ro false 4 x1.length (rowOf (cUnion false) x1)), (4, .bool false), (5, .int .i64 ((i1 : Nat) : Int)), (14, .bool (decide (((i1 : Nat) : Int) < ((x0.length : Nat) : Int))))], [], []⟩) (vcs := []) (by kernel_rfl) trivial ?_
    clear hs; intro a w hs
    refine W.cond hs (by kernel_rfl) (b := decide (((i1 : Nat) : Int) < ((x0.length : Nat) : Int))) (p := []) (by kernel_rfl) trivial (fun hc2 => ?_) (fun hc2 => ?_)
    ·
      have hii1 : i1 < x0.length := by have := of_decide_eq_true hc2; omega
      replace hR := loopN_step hR hii1
      refine W.skip (by kernel_rfl) ?_
      refine W.seq (by kernel_rfl) ?_
      refine W.block 1 (by kernel_rfl) ?_
      refine W.seq (by kernel_rfl) ?_
      refine W.drawK hs (by kernel_rfl) (by kernel_rfl) [(8, .res (.bool (eqUnion (x0.getD i1 default) (x1.getD i1 default))) [])] [0, 1, 4, 5, 26] [] (s2 := ⟨[(0, .ro false 4 x0.length (rowOf (cUnion false) x0)), (1, .ro false 4 x1.length (rowOf (cUnion false) x1)), (4, .bool false), (5, .int .i64 ((i1 : Nat) : Int)), (26, .bool (!(eqUnion (x0.getD i1 default) (x1.getD i1 default))))], [], []⟩) (vcs := [0 ≤ (((i1 : Nat) : Int) : Int) ∧ (((i1 : Nat) : Int) : Int) < ((x0.length : Nat) : Int), 0 ≤ (((i1 : Nat) : Int) : Int) ∧ (((i1 : Nat) : Int) : Int) < ((x1.length : Nat) : Int), Lite.Fn Try.prog 51 [.agg [.int .i64 ((x0.getD i1 default).man), .int .i64 ((x0.getD i1 default).woman), .int .i64 ((x0.getD i1 default).from0), .int .i64 ((x0.getD i1 default).to)], .agg [.int .i64 ((x1.getD i1 default).man), .int .i64 ((x1.getD i1 default).woman), .int .i64 ((x1.getD i1 default).from0), .int .i64 ((x1.getD i1 default).to)]] (.bool (eqUnion (x0.getD i1 default) (x1.getD i1 default))) []]) (by kernel_rfl) ⟨by (intros; omega), by (clear hs hR; intros; (try simp only [decide_eq_true_eq, decide_eq_false_iff_not, Bool.or_eq_true, Bool.and_eq_true, or_f_iff, not_f_iff, not_t_iff, Bool.not_eq_true', inR] at *); (repeat' apply And.intro) <;> (intros; omega)), ok_laws_eqUnion (x0.getD i1 default) (x1.getD i1 default), trivial⟩ ?_
      clear hs; intro a w hs
      refine W.cond hs (by kernel_rfl) (b := !(eqUnion (x0.getD i1 default) (x1.getD i1 default))) (p := []) (by kernel_rfl) trivial (fun hc3 => ?_) (fun hc3 => ?_)
      ·
        replace hR := ct hR hc3
        refine W.linK hs 1 [] [0, 1, 4, 5] [] (s2 := ⟨[(0, .ro false 4 x0.length (rowOf (cUnion false) x0)), (1, .ro false 4 x1.length (rowOf (cUnion false) x1)), (4, .bool false), (5, .int .i64 ((i1 : Nat) : Int))], [], []⟩) (vcs := []) (by kernel_rfl) trivial ?_
        clear hs; intro a w hs
        refine W.ret (by kernel_rfl) ?_
        subst hR
        exact ret_ok hs [] (vcs := [false = false, Frs (.bool false)]) (by kernel_rfl) ⟨rfl, by simp [Frs, FrsL], trivial⟩
      ·
        replace hR := cf hR hc3
        refine W.skip (by kernel_rfl) ?_
        refine W.regK hs (by kernel_rfl) [] [0, 1, 4, 5] [] (s2 := ⟨[(0, .ro false 4 x0.length (rowOf (cUnion false) x0)), (1, .ro false 4 x1.length (rowOf (cUnion false) x1)), (4, .bool false), (5, .int .i64 (((i1 : Nat) : Int) + 1))], [], []⟩) (vcs := [inR .i64 (((i1 : Nat) : Int) + 1)]) (by kernel_rfl) ⟨by (clear hs; intros; simp only [inR]; omega), trivial⟩ ?_
        clear hs; intro a w hs
        exact ⟨(), hii1, by trivial, hR, hs.le (T := ⟨[(0, .ro false 4 x0.length (rowOf (cUnion false) x0)), (1, .ro false 4 x1.length (rowOf (cUnion false) x1)), (4, .bool false), (5, .int .i64 (((i1 + 1) : Nat) : Int))], [], []⟩) [] (vcs := [rowsEq x0.length x0.length (rowOf (cUnion false) x0) (rowOf (cUnion false) x0), rowsEq x1.length x1.length (rowOf (cUnion false) x1) (rowOf (cUnion false) x1), false = false, (((i1 : Nat) : Int) + 1 : Int) = (((i1 + 1) : Nat) : Int)]) (by kernel_rfl) ⟨⟨rfl, fun _ _ => rfl⟩, ⟨rfl, fun _ _ => rfl⟩, rfl, by first | rfl | omega | (simp; done), trivial⟩⟩
    ·
      obtain rfl : i1 = x0.length := by have := of_decide_eq_false hc2; omega
      replace hR := loopN_end hR (Nat.lt_irrefl _)
      refine W.exit 0 (by kernel_rfl) rfl ?_
      refine W.linK hs 1 [] [4] [] (s2 := ⟨[(4, .bool true)], [], []⟩) (vcs := []) (by kernel_rfl) trivial ?_
      clear hs; intro a w hs
      refine W.ret (by kernel_rfl) ?_
      subst hR
      exact ret_ok hs [] (vcs := [true = true, Frs (.bool true)]) (by kernel_rfl) ⟨rfl, by simp [Frs, FrsL], trivial⟩
theorem eqUnionS_self (x : List Union) : eqUnionS x x = true := by
  simp only [eqUnionS, decide_true, Bool.not_true, cond_false]
  exact loopN_inv (fun _ _ => True) (fun r => r = true) (fun i v next _ hn => by simp only [eqUnion_self, Bool.not_true, cond_false]; exact hn _ trivial) (fun _ _ _ => rfl) _ _ _ trivial
theorem ok_laws_eqUnionS (x0 : List Union) (x1 : List Union) (hx : x0.length ≤ 1048576) : Lite.Fn Try.prog 34 [.ro false 4 x0.length (rowOf (cUnion false) x0), .ro false 4 x1.length (rowOf (cUnion false) x1)] (.bool (eqUnionS x0 x1)) [] := aux_laws_eqUnionS x0 x1 hx _ rfl
def eqFamily (x0 : Family) (x1 : Family) : Bool := bif (!(eqPersonS x0.people x1.people)) then false else (bif (!(eqUnionS x0.unions x1.unions)) then false else true)
theorem aux_laws_eqFamily (x0 : Family) (x1 : Family) (hx : x0.people.length ≤ 1048576 ∧ x0.unions.length ≤ 1048576) (R : Bool) (hR : eqFamily x0 x1 = R) : Lite.Fn Try.prog 13 [.agg (cFamily false x0), .agg (cFamily false x1)] (.bool R) [] := by
  refine Lite.Fn.intro 17 Try.func13 (by kernel_rfl) (by kernel_rfl) (by kernel_rfl) fun w0 a w hs => ?_
  refine W.linK hs 1 [] [2, 3, 4] [2, 3] (s2 := ⟨[(2, .vp 2 0), (3, .vp 3 0), (4, .bool false)], [(2, .var [.ro false 6 x0.people.length (rowOf (cPerson false) x0.people), .ro false 4 x0.unions.length (rowOf (cUnion false) x0.unions)]), (3, .var [.ro false 6 x1.people.length (rowOf (cPerson false) x1.people), .ro false 4 x1.unions.length (rowOf (cUnion false) x1.unions)])], [3, 2]⟩) (vcs := []) (by kernel_rfl) trivial ?_
  clear hs; intro a w hs
  refine W.seq (by kernel_rfl) ?_
  refine W.linK hs 1 [(4, .res (.bool (eqPersonS x0.people x1.people)) [])] [2, 3, 4, 10] [2, 3] (s2 := ⟨[(2, .vp 2 0), (3, .vp 3 0), (4, .bool false), (10, .bool (!(eqPersonS x0.people x1.people)))], [(2, .var [.ro false 6 x0.people.length (rowOf (cPerson false) x0.people), .ro false 4 x0.unions.length (rowOf (cUnion false) x0.unions)]), (3, .var [.ro false 6 x1.people.length (rowOf (cPerson false) x1.people), .ro false 4 x1.unions.length (rowOf (cUnion false) x1.unions)])], [3, 2]⟩) (vcs := [Lite.Fn Try.prog 33 [.ro false 6 x0.people.length (rowOf (cPerson false) x0.people), .ro false 6 x1.people.length (rowOf (cPerson false) x1.people)] (.bool (eqPersonS x0.people x1.people)) []]) (by kernel_rfl) ⟨ok_laws_eqPersonS x0.people x1.people (by (intros; omega)), trivial⟩ ?_
  clear hs; intro a w hs
  refine W.cond hs (by kernel_rfl) (b := !(eqPersonS x0.people x1.people)) (p := []) (by kernel_rfl) trivial (fun hc1 => ?_) (fun hc1 => ?_)
  ·
    replace hR := ct hR hc1
    refine W.linK hs 1 [] [2, 3, 4] [2, 3] (s2 := ⟨[(2, .vp 2 0), (3, .vp 3 0), (4, .bool false)], [(2, .var [.ro false 6 x0.people.length (rowOf (cPerson false) x0.people), .ro false 4 x0.unions.length (rowOf (cUnion false) x0.unions)]), (3, .var [.ro false 6 x1.people.length (rowOf (cPerson false) x1.people), .ro false 4 x1.unions.length (rowOf (cUnion false) x1.unions)])], [3, 2]⟩) (vcs := []) (by kernel_rfl) trivial ?_
    clear hs; intro a w hs
    refine W.ret (by kernel_rfl) ?_
    subst hR
    exact ret_ok hs [] (vcs := [false = false, Frs (.bool false)]) (by kernel_rfl) ⟨rfl, by simp [Frs, FrsL], trivial⟩
  ·
    replace hR := cf hR hc1
    refine W.skip (by kernel_rfl) ?_
    refine W.seq (by kernel_rfl) ?_
    refine W.linK hs 1 [(4, .res (.bool (eqUnionS x0.unions x1.unions)) [])] [4, 16] [] (s2 := ⟨[(4, .bool false), (16, .bool (!(eqUnionS x0.unions x1.unions)))], [], [3, 2]⟩) (vcs := [Lite.Fn Try.prog 34 [.ro false 4 x0.unions.length (rowOf (cUnion false) x0.unions), .ro false 4 x1.unions.length (rowOf (cUnion false) x1.unions)] (.bool (eqUnionS x0.unions x1.unions)) []]) (by kernel_rfl) ⟨ok_laws_eqUnionS x0.unions x1.unions (by (intros; omega)), trivial⟩ ?_
    clear hs; intro a w hs
    refine W.cond hs (by kernel_rfl) (b := !(eqUnionS x0.unions x1.unions)) (p := []) (by kernel_rfl) trivial (fun hc2 => ?_) (fun hc2 => ?_)
    ·
      replace hR := ct hR hc2
      refine W.linK hs 1 [] [4] [] (s2 := ⟨[(4, .bool false)], [], [3, 2]⟩) (vcs := []) (by kernel_rfl) trivial ?_
      clear hs; intro a w hs
      refine W.ret (by kernel_rfl) ?_
      subst hR
      exact ret_ok hs [] (vcs := [false = false, Frs (.bool false)]) (by kernel_rfl) ⟨rfl, by simp [Frs, FrsL], trivial⟩
    ·
      replace hR := cf hR hc2
      refine W.skip (by kernel_rfl) ?_
      refine W.linK hs 1 [] [4] [] (s2 := ⟨[(4, .bool true)], [], [3, 2]⟩) (vcs := []) (by kernel_rfl) trivial ?_
      clear hs; intro a w hs
      refine W.ret (by kernel_rfl) ?_
      subst hR
      exact ret_ok hs [] (vcs := [true = true, Frs (.bool true)]) (by kernel_rfl) ⟨rfl, by simp [Frs, FrsL], trivial⟩
theorem eqFamily_self (x : Family) : eqFamily x x = true := by simp [eqFamily, eqPersonS_self, eqUnionS_self]
theorem ok_laws_eqFamily (x0 : Family) (x1 : Family) (hx : x0.people.length ≤ 1048576 ∧ x0.unions.length ≤ 1048576) : Lite.Fn Try.prog 13 [.agg (cFamily false x0), .agg (cFamily false x1)] (.bool (eqFamily x0 x1)) [] := aux_laws_eqFamily x0 x1 hx _ rfl
end Go.Proofs.Ytanpfncfphpddaa
