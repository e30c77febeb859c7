import Derived.Test.YtkkijpibajigfaaV10
set_option maxHeartbeats 4000000
set_option linter.unusedSimpArgs false
set_option linter.unusedVariables false
namespace Go.Proofs.Ytkkijpibajigfaa
open Go Go.Lite Go.Proofs
theorem linkOf_core (x : Family) (a b : Int) (hf : specIsFamily x = true) (ha : 0 ≤ a ∧ a < x.people.length) (hb : 0 ≤ b ∧ b < x.people.length) : linkOf x a b = specLinkOf x a b := by
  have hp:=isFamily_par x hf
  unfold linkOf specLinkOf
  rw [specCommon_of hf ha hb,commonAncestors_eq x a b hp ha hb,stepsUp_eq x a hp ha,stepsUp_eq x b hp hb]
  refine loopN_rel0 (fun i (v : Int × Int × Bool) (u : Int × Int)=>(v.2.2 = false → v = (0,0,false) ∧ u = (-1,-1)) ∧ (v.2.2 = true → v.1 = u.1 ∧ v.2.1 = u.2 ∧ 0 ≤ u.1 ∧ 0 ≤ u.2)) Eq ⟨fun _=>⟨rfl,rfl⟩,fun h=>by cases h⟩ (fun i v u n1 n2 hi hv hn=>?_) (fun v u hv=>?_)
  · obtain ⟨g1,g2,g3,g4⟩:=(l8Common_mem x a b).2 _ (getD_mem (d:=default) hi)
    generalize (l8Common x a b).getD i default = q at g1 g2 g3 g4 ⊢
    generalize (l8Up x a).getD q.toNat default = n at g3 ⊢
    generalize (l8Up x b).getD q.toNat default = m at g4 ⊢
    obtain ⟨v1,v2,v3⟩:=v
    obtain ⟨u1,u2⟩:=u
    cases v3
    · obtain ⟨h1,h2⟩:=hv.1 rfl
      cases h2
      simp only [Bool.not_false,cond_true]
      have : decide ((-1 : Int) < 0) = true:=rfl
      simp only [this,Bool.true_or,cond_true]
      exact hn _ _ ⟨fun h=>by simp at h,fun _=>⟨rfl,rfl,g3,g4⟩⟩
    · obtain ⟨h1,h2,h3,h4⟩:=hv.2 rfl
      simp only at h1 h2 h3 h4 ⊢
      subst h1;subst h2
      simp only [Bool.not_true,cond_false]
      have keep : n1 (v1,v2,true) = n2 (v1,v2):=hn _ _ ⟨fun h=>by simp at h,fun _=>⟨rfl,rfl,h3,h4⟩⟩
      have take : n1 (n,m,true) = n2 (n,m):=hn _ _ ⟨fun h=>by simp at h,fun _=>⟨rfl,rfl,g3,g4⟩⟩
      have hneg : decide (v1 < 0) = false:=decide_eq_false (by omega)
      simp only [hneg,Bool.false_or]
      by_cases c1 : n + m = v1 + v2
      · by_cases c2 : max n m = max v1 v2
        · by_cases c3 : v1 ≤ n
          · simp only [c1,c2,c3,decide_true,Bool.not_true,cond_false,cond_true,Int.lt_irrefl,decide_false,Bool.false_or,Bool.true_and,show ¬ n < v1 by omega];exact keep
          · simp only [c1,c2,c3,decide_true,Bool.not_true,cond_false,cond_true,Int.lt_irrefl,decide_false,Bool.false_or,Bool.true_and,show n < v1 by omega];exact take
        · by_cases c3 : max v1 v2 < max n m
          · simp only [c1,c2,c3,decide_true,decide_false,Bool.not_true,Bool.not_false,cond_false,cond_true,Int.lt_irrefl,Bool.false_or,Bool.true_and,Bool.false_and,Bool.or_false,show ¬ max n m < max v1 v2 by omega];exact keep
          · simp only [c1,c2,c3,decide_true,decide_false,Bool.not_true,Bool.not_false,cond_false,cond_true,Int.lt_irrefl,Bool.false_or,Bool.true_and,Bool.false_and,Bool.or_false,show max n m < max v1 v2 by omega];exact take
      · by_cases c3 : v1 + v2 < n + m
        · simp only [c1,c3,decide_true,decide_false,Bool.not_false,cond_true,show ¬ n + m < v1 + v2 by omega,Bool.false_or,Bool.false_and,cond_false];exact keep
        · simp only [c1,c3,decide_true,decide_false,Bool.not_false,cond_true,show n + m < v1 + v2 by omega,Bool.true_or,cond_false];exact take
  · obtain ⟨v1,v2,v3⟩:=v
    obtain ⟨u1,u2⟩:=u
    cases v3
    · obtain ⟨h1,h2⟩:=hv.1 rfl
      cases h2;cases h1
      rfl
    · obtain ⟨h1,h2,h3,h4⟩:=hv.2 rfl
      simp only at h1 h2 h3 h4 ⊢
      subst h1;subst h2
      simp only [show ¬ v1 < 0 by omega,decide_false,cond_false]
theorem canon_core (x : Family) (a b : Int) (hf : specIsFamily x = true) (ha : 0 ≤ a ∧ a < x.people.length) (hb : 0 ≤ b ∧ b < x.people.length) : canonDegree x a b = specCanon x a b := by
  have hp:=isFamily_par x hf
  unfold canonDegree specCanon
  rw [specCommon_of hf ha hb,commonAncestors_eq x a b hp ha hb,stepsUp_eq x a hp ha,stepsUp_eq x b hp hb]
  refine loopN_rel0 (fun i (v : Int × Bool) (u : Int)=>(v.2 = false → v = (0,false) ∧ u = -1) ∧ (v.2 = true → v.1 = u ∧ 0 ≤ u)) Eq ⟨fun _=>⟨rfl,rfl⟩,fun h=>by cases h⟩ (fun i v u n1 n2 hi hv hn=>?_) (fun v u hv=>?_)
  · obtain ⟨g1,g2,g3,g4⟩:=(l8Common_mem x a b).2 _ (getD_mem (d:=default) hi)
    generalize (l8Common x a b).getD i default = q at g1 g2 g3 g4 ⊢
    generalize (l8Up x a).getD q.toNat default = n at g3 ⊢
    generalize (l8Up x b).getD q.toNat default = m at g4 ⊢
    obtain ⟨v1,v2⟩:=v
    cases v2
    · obtain ⟨h1,h2⟩:=hv.1 rfl
      subst h2
      simp only [Bool.not_false,Bool.true_or,cond_true,show decide ((-1 : Int) < 0) = true from rfl]
      exact hn _ _ ⟨fun h=>by simp at h,fun _=>⟨rfl,by show 0 ≤ max n m;omega⟩⟩
    · obtain ⟨h1,h2⟩:=hv.2 rfl
      simp only at h1 h2 ⊢
      subst h1
      simp only [Bool.not_true,Bool.false_or,show decide (v1 < 0) = false from decide_eq_false (by omega)]
      by_cases c : max n m < v1
      · simp only [c,decide_true,cond_true];exact hn _ _ ⟨fun h=>by simp at h,fun _=>⟨rfl,by show 0 ≤ max n m;omega⟩⟩
      · simp only [c,decide_false,cond_false];exact hn _ _ ⟨fun h=>by simp at h,fun _=>⟨rfl,h2⟩⟩
  · obtain ⟨v1,v2⟩:=v
    cases v2
    · obtain ⟨h1,h2⟩:=hv.1 rfl
      subst h2;cases h1;rfl
    · obtain ⟨h1,h2⟩:=hv.2 rfl
      simp only at h1 h2 ⊢
      subst h1
      simp only [show ¬ v1 < 0 by omega,decide_false,cond_false]

end Go.Proofs.Ytkkijpibajigfaa
