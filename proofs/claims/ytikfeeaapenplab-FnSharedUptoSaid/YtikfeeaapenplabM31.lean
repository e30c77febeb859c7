import Derived.Test.YtikfeeaapenplabM30
set_option maxHeartbeats 4000000
set_option linter.unusedSimpArgs false
set_option linter.unusedVariables false
namespace Go.Proofs.Ytikfeeaapenplab
open Go Go.Lite Go.Proofs
theorem snoc_lt {l : List Int} {z : Int} {k : Nat} (h : k < l.length) : (l ++ [z]).getD k default = l.getD k default := by
  simp [List.getD_eq_getElem?_getD,List.getElem?_append_left h]
theorem snoc_eq {l : List Int} {z : Int} {k : Nat} (h : k = l.length) : (l ++ [z]).getD k default = z := by
  subst h;simp [List.getD_eq_getElem?_getD]
def dd (x:Family) (a:Int):Int:=(l1Depths x).getD a.toNat default
theorem l1Depths_par (x : Family) (hp : ∀ (k : Nat), k < x.people.length → (x.people.getD k default).father < k ∧ (x.people.getD k default).mother < k) :
    ∀ k:Nat,k<x.people.length→0≤(l1Depths x).getD k default∧(0≤(x.people.getD k default).father→(l1Depths x).getD (x.people.getD k default).father.toNat default+1≤(l1Depths x).getD k default)∧(0≤(x.people.getD k default).mother→(l1Depths x).getD (x.people.getD k default).mother.toNat default+1≤(l1Depths x).getD k default):=by
  unfold l1Depths
  refine loopN_to (fun i (v : List Int) => v.length = i ∧ ∀ k : Nat, k < i → 0 ≤ v.getD k default ∧ (0 ≤ (x.people.getD k default).father → v.getD (x.people.getD k default).father.toNat default + 1 ≤ v.getD k default) ∧ (0 ≤ (x.people.getD k default).mother → v.getD (x.people.getD k default).mother.toNat default + 1 ≤ v.getD k default))
    (fun (v:List Int)=>∀ k:Nat,k<x.people.length→0≤v.getD k default∧(0≤(x.people.getD k default).father→v.getD (x.people.getD k default).father.toNat default+1≤v.getD k default)∧(0≤(x.people.getD k default).mother→v.getD (x.people.getD k default).mother.toNat default+1≤v.getD k default)) ⟨rfl,fun k hk=>absurd hk (Nat.not_lt_zero _)⟩ (fun i v next hi hv hn=>?_) (fun v hv=>hv.2)
  have key : ∀ z : Int, 0 ≤ z → (0 ≤ (x.people.getD i default).father → v.getD (x.people.getD i default).father.toNat default + 1 ≤ z) → (0 ≤ (x.people.getD i default).mother → v.getD (x.people.getD i default).mother.toNat default + 1 ≤ z) →
      (v++[z]).length=i+1∧∀ k:Nat,k<i+1→0≤(v++[z]).getD k default∧(0≤(x.people.getD k default).father→(v++[z]).getD (x.people.getD k default).father.toNat default+1≤(v++[z]).getD k default)∧(0≤(x.people.getD k default).mother→(v++[z]).getD (x.people.getD k default).mother.toNat default+1≤(v++[z]).getD k default):=by
    intro z hz h1 h2
    refine ⟨by simp [hv.1],fun k hk=>?_⟩
    have hpk:=hp k (by omega)
    have hl:=hv.1
    by_cases c:k=i
    · subst c
      rw [snoc_eq (by omega)]
      refine ⟨hz,fun h=>?_,fun h=>?_⟩
      · rw [snoc_lt (by omega)];exact h1 h
      · rw [snoc_lt (by omega)];exact h2 h
    · rw [snoc_lt (k := k) (by omega)]
      have h3:=hv.2 k (by omega)
      refine ⟨h3.1,fun h=>?_,fun h=>?_⟩
      · rw [snoc_lt (by omega)];exact h3.2.1 h
      · rw [snoc_lt (by omega)];exact h3.2.2 h
  have h0:∀ q:Int,0≤q→q<i→0≤v.getD q.toNat default:=fun q h1 h2=>(hv.2 q.toNat (by omega)).1
  have hpi:=hp i hi
  cases c1:decide (0≤(x.people.getD i default).father) <;> cases c2:decide (0≤(x.people.getD i default).mother) <;> simp only [cond_true,cond_false] <;> simp only [decide_eq_true_eq,decide_eq_false_iff_not] at c1 c2 <;> refine hn _ (key _ ?_ ?_ ?_)
  all_goals first
    | omega
    | (have:=h0 _ c1 hpi.1;omega)
    | (have:=h0 _ c2 hpi.2;omega)
theorem dd_rng {x : Family} (hf : specIsFamily x = true) {a : Int} (ha : 0 ≤ a ∧ a < x.people.length) : 0 ≤ dd x a ∧ dd x a ≤ 10 :=
  ⟨(l1Depths_par x (isFamily_par x hf) a.toNat (by omega)).1,((specIsFamily_iff x).1 hf).2.2.1 a.toNat (by omega)⟩
theorem dd_par {x : Family} (hf : specIsFamily x = true) {a : Int} (ha : 0 ≤ a ∧ a < x.people.length) {q : Int} (hq : 0 ≤ q ∧ (q = (x.people.getD a.toNat default).father ∨ q = (x.people.getD a.toNat default).mother)) : q < a ∧ dd x q + 1 ≤ dd x a := by
  have h1:=l1Depths_par x (isFamily_par x hf) a.toNat (by omega)
  have h2:=isFamily_par x hf a.toNat (by omega)
  obtain ⟨hq,rfl | rfl⟩:=hq
  · exact ⟨by omega,h1.2.1 hq⟩
  · exact ⟨by omega,h1.2.2 hq⟩
def sumTo (f : Nat → Int) : Nat → Int
  | 0=>0
  | n+1=>sumTo f n+f n
def kf (x : Family) : Nat → Int → Int → Int
  | 0,_,_=>0
  | m + 1, a, b =>
    bif decide (Max.max a b=Min.min a b) then 549755813888+(bif decide (0≤(x.people.getD (Max.max a b).toNat default).father) && decide (0≤(x.people.getD (Max.max a b).toNat default).mother) then kf x m (x.people.getD (Max.max a b).toNat default).father (x.people.getD (Max.max a b).toNat default).mother / 2 else 0)
    else sumTo (fun i=>kf x m ((l1Parents x (Max.max a b)).getD i default) (Min.min a b) / 2) (l1Parents x (Max.max a b)).length
theorem kf_comm (x : Family) (m : Nat) (a b : Int) : kf x m a b = kf x m b a := by
  cases m with
  | zero=>rfl
  | succ m=>simp only [kf,Int.max_comm a b,Int.min_comm a b]
def kn (x:Family) (a b:Int):Int:=kf x 100 a b
theorem kn_comm (x:Family) (a b:Int):kn x a b=kn x b a:=kf_comm x 100 a b
def Tab (x:Family) (out:List (List Dyad)) (n:Nat):Prop:=out.length=n∧∀ a:Nat,a<n→(out.getD a default).length=a+1∧∀ b:Nat,b≤a→(out.getD a default).getD b default=dy (kn x a b)
theorem Tab.at {x : Family} {out : List (List Dyad)} {n : Nat} (h : Tab x out n) {q b : Int} (hq : 0 ≤ q ∧ q < n) (hb : 0 ≤ b ∧ b < n) :
    (0≤Max.max q b∧Max.max q b<out.length)∧(0≤Min.min q b∧Min.min q b<(out.getD (Max.max q b).toNat default).length)∧(out.getD (Max.max q b).toNat default).getD (Min.min q b).toNat default=dy (kn x q b):=by
  have h1:=h.1
  have h2:=h.2 (Max.max q b).toNat (by omega)
  refine ⟨by omega,by omega,?_⟩
  rw [h2.2 (Min.min q b).toNat (by omega)]
  congr 1
  rcases Int.le_total q b with e | e
  · rw [Int.max_eq_right e,Int.min_eq_left e,kn_comm x q b];congr 1 <;> omega
  · rw [Int.max_eq_left e,Int.min_eq_right e];congr 1 <;> omega
end Go.Proofs.Ytikfeeaapenplab
