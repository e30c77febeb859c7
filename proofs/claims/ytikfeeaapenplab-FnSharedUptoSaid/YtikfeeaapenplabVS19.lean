import Derived.Test.YtikfeeaapenplabM120
set_option maxHeartbeats 4000000
set_option linter.unusedSimpArgs false
set_option linter.unusedVariables false
namespace Go.Proofs.Ytikfeeaapenplab
open Go Go.Lite Go.Proofs
structure Custom where
  prefer:Int
  youngest:Bool
  represent:Bool
  deriving Inhabited
def cCustom (fr:Bool) (x:Custom):List LV:=cInt .i64 x.prefer++cBool x.youngest++cBool x.represent

theorem take_snoc {α : Type} (l : List α) (d : α) {i : Nat} (hi : i < l.length) : l.take (i + 1) = l.take i ++ [l.getD i d] := by
  rw [List.take_add_one,List.getD_eq_getElem?_getD,List.getElem?_eq_getElem hi];rfl
theorem filter_snoc {α : Type} (p : α → Bool) (l : List α) (x : α) : (l ++ [x]).filter p = l.filter p ++ (bif p x then [x] else []) := by
  rw [List.filter_append]
  cases h:p x <;> simp [h]
theorem kid_lt {f : Family} (hf : specIsFamily f = true) {p c : Int} (hp : 0 ≤ p) (h : c ∈ l1Children f p) : p < c ∧ c < f.people.length := by
  obtain ⟨k,h1,h2,h3⟩:=(l1Children_mem f p c).1 h
  have h4:=fam_p hf h1
  have h5:=h4.fa;have h6:=h4.mo
  omega
def C86 (R:Bool):LV×List (Nat×BC):=(.bool R,[])
def implAlive (x0:Family) (x1:Int) (x2:Int):Bool:=(decide (((x0.people.getD x1.toNat default).born)≤x2)) && ((decide (((x0.people.getD x1.toNat default).died)=(-1))) || (decide (x2<((x0.people.getD x1.toNat default).died))))
def A86 (x0:Family) (x1:Int) (x2:Int):Ann:=.reg 3 [] [] [6] [] [decide (((x0.people.getD x1.toNat default).born)≤x2),(decide (((x0.people.getD x1.toNat default).born)≤x2)) && (!(decide (((x0.people.getD x1.toNat default).died)=(-1))))] [pf (0≤(x1:Int)∧(x1:Int)<((x0.people.length:Nat):Int)),gt (decide (((x0.people.getD x1.toNat default).born)≤x2)) (gf (decide (((x0.people.getD x1.toNat default).died)=(-1))) (pf (((decide (((x0.people.getD x1.toNat default).born)≤x2)) && (!(decide (((x0.people.getD x1.toNat default).died)=(-1)))))=true)))] [] [0,1,1,1,5,5,5,1,4,1] (rt [] (C86 ((decide (((x0.people.getD x1.toNat default).born)≤x2)) && ((decide (((x0.people.getD x1.toNat default).died)=(-1))) || (decide (x2<((x0.people.getD x1.toNat default).died)))))))
theorem ok_impl_isAlive (x0 : Family) (x1 : Int) (x2 : Int) (hx : x0.people.length ≤ 1048576) (h1 : 0 ≤ x1 ∧ x1 < x0.people.length) : FnT Try.prog 86 [.agg (cFamily false x0), .int .i64 x1, .int .i64 x2] (C86 (implAlive x0 x1 x2)) := by
  have aux : ∀ R, implAlive x0 x1 x2 = R → slim (C86 R) (A86 x0 x1 x2) [] := by
    intro R hR
    refine rg ⟨by trivial,by ((try clear hR);intros;(try simp only [decide_eq_true_eq,decide_eq_false_iff_not,Bool.or_eq_true,Bool.and_eq_true,or_f_iff,not_f_iff,not_t_iff,Bool.not_eq_true',inR] at *);(repeat' apply And.intro) <;> (intros;omega)),trivial⟩ ?_
    exact congrArg C86 hR
  exact Fn.go 28 Try.func86 (by kernel_rfl) (by kernel_rfl) (by simp [C86,Frs,FrsL]) (A86 x0 x1 x2) (by kernel_rfl) (aux _ rfl)
def k86 (x0:Family) (x1:Int) (x2:Int):Cl:=(hres (C86 (implAlive x0 x1 x2)),k2 (ok_impl_isAlive x0 x1 x2))
def C52 (R:Bool):LV×List (Nat×BC):=(.bool R,[])
def l1Alive (x0:Family) (x1:Int) (x2:Int):Bool:=(decide (((x0.people.getD x1.toNat default).born)≤x2)) && ((decide (((x0.people.getD x1.toNat default).died)=(-1))) || (decide (x2<((x0.people.getD x1.toNat default).died))))
def A52 (x0:Family) (x1:Int) (x2:Int):Ann:=.reg 3 [] [] [6] [] [decide (((x0.people.getD x1.toNat default).born)≤x2),(decide (((x0.people.getD x1.toNat default).born)≤x2)) && (!(decide (((x0.people.getD x1.toNat default).died)=(-1))))] [pf (0≤(x1:Int)∧(x1:Int)<((x0.people.length:Nat):Int)),gt (decide (((x0.people.getD x1.toNat default).born)≤x2)) (gf (decide (((x0.people.getD x1.toNat default).died)=(-1))) (pf (((decide (((x0.people.getD x1.toNat default).born)≤x2)) && (!(decide (((x0.people.getD x1.toNat default).died)=(-1)))))=true)))] [] [0,1,1,1,5,5,5,1,4,1] (rt [] (C52 ((decide (((x0.people.getD x1.toNat default).born)≤x2)) && ((decide (((x0.people.getD x1.toNat default).died)=(-1))) || (decide (x2<((x0.people.getD x1.toNat default).died)))))))
theorem ok_spec_l1Alive (x0 : Family) (x1 : Int) (x2 : Int) (hx : x0.people.length ≤ 1048576) (h1 : 0 ≤ x1 ∧ x1 < x0.people.length) : FnT Try.prog 52 [.agg (cFamily false x0), .int .i64 x1, .int .i64 x2] (C52 (l1Alive x0 x1 x2)) := by
  have aux : ∀ R, l1Alive x0 x1 x2 = R → slim (C52 R) (A52 x0 x1 x2) [] := by
    intro R hR
    refine rg ⟨by trivial,by ((try clear hR);intros;(try simp only [decide_eq_true_eq,decide_eq_false_iff_not,Bool.or_eq_true,Bool.and_eq_true,or_f_iff,not_f_iff,not_t_iff,Bool.not_eq_true',inR] at *);(repeat' apply And.intro) <;> (intros;omega)),trivial⟩ ?_
    exact congrArg C52 hR
  exact Fn.go 28 Try.func52 (by kernel_rfl) (by kernel_rfl) (by simp [C52,Frs,FrsL]) (A52 x0 x1 x2) (by kernel_rfl) (aux _ rfl)
def k52 (x0:Family) (x1:Int) (x2:Int):Cl:=(hres (C52 (l1Alive x0 x1 x2)),k2 (ok_spec_l1Alive x0 x1 x2))
end Go.Proofs.Ytikfeeaapenplab
