import Derived.Test.YtkkijpibajigfaaV102
set_option maxHeartbeats 4000000
set_option linter.unusedSimpArgs false
set_option linter.unusedVariables false
namespace Go.Proofs.Ytkkijpibajigfaa
open Go Go.Lite Go.Proofs
theorem up_zero {x : Family} (hf : specIsFamily x = true) {p q : Int} (hp : 0 ≤ p ∧ p < x.people.length) (hq : 0 ≤ q ∧ q < x.people.length) : 0 ≤ (l8Up x p).getD q.toNat default ↔ q = p ∨ 0 < (l8Up x p).getD q.toNat default := by
  have hd:=l8Up_dist x p (isFamily_par x hf) hp
  constructor
  · intro h
    have h1:=(hd.yes q.toNat (by omega) h).1
    by_cases h2 : (l8Up x p).getD q.toNat default = 0
    · rw [h2,Int.toNat_of_nonneg hq.1] at h1
      cases h1
      exact .inl rfl
    · exact .inr (by omega)
  · rintro (h | h)
    · rcases Int.lt_or_le ((l8Up x p).getD q.toNat default) 0 with c | c
      · have:=(hd.no q.toNat (by omega) c).2 0
        rw [Int.toNat_of_nonneg hq.1,h] at this
        exact absurd .zero this
      · exact c
    · omega
theorem anc_eq {x : Family} (hf : specIsFamily x = true) {p q : Int} (hp : 0 ≤ p ∧ p < x.people.length) (hq : 0 ≤ q ∧ q < x.people.length) :
    (((decide (p = q)) || (isAncestor x p q)) || (isAncestor x q p)) = ((decide (0 ≤ ((l8Up x p).getD q.toNat default))) || (decide (0 ≤ ((l8Up x q).getD p.toNat default)))):=by
  rw [isAncestor_eq hf hq,isAncestor_eq hf hp,Bool.eq_iff_iff]
  simp only [Bool.or_eq_true,decide_eq_true_eq]
  rw [up_zero hf hp hq,up_zero hf hq hp]
  constructor
  · rintro ((h | h) | h)
    · exact .inl (.inl h.symm)
    · exact .inr (.inr h)
    · exact .inl (.inr h)
  · rintro ((h | h) | (h | h))
    · exact .inl (.inl h.symm)
    · exact .inr h
    · exact .inl (.inl h)
    · exact .inl (.inr h)
/-- THE IMPEDIMENTS, by the two programs. -/
theorem imp_core {x : Family} (hf : specIsFamily x = true) {p q : Int} (hp : 0 ≤ p ∧ p < x.people.length) (hq : 0 ≤ q ∧ q < x.people.length) (l : Law) (y : Int) : impediments x l p q y = l3Listed (l9Bars x l p q y) := by
  unfold impediments l9Bars
  rw [← married_eq hf hp y,← married_eq hf hq y,← closeKin_eq hf hp hq,← canon_core x p q hf hp hq,← founder_eq x p 1 (.inl rfl),← founder_eq x q 1 (.inl rfl),← founder_eq x p 2 (.inr rfl),← founder_eq x q 2 (.inr rfl),← affine_eq hf hq l p y,← affine_eq hf hp l q y,← anc_eq hf hp hq,show l9Life = lacksLife from rfl]
  generalize ((!decide (((x.people.getD p.toNat default).sex) = 1)) || (!decide (((x.people.getD q.toNat default).sex) = 2))) = e1
  generalize ((lacksLife (x.people.getD p.toNat default) y) || (lacksLife (x.people.getD q.toNat default) y)) = e2
  generalize ((decide (y < (((x.people.getD p.toNat default).born) + l.age))) || (decide (y < (((x.people.getD q.toNat default).born) + l.age)))) = e3
  generalize (decide (l.wives ≤ (((marriedAt x p y).length : Nat) : Int))) = e4
  generalize (decide (l.husbands ≤ (((marriedAt x q y).length : Nat) : Int))) = e5
  generalize (((decide (p = q)) || (isAncestor x p q)) || (isAncestor x q p)) = e6
  generalize ((!decide (l.degree = 0)) && (closeKin x p q l.degree)) = e7
  generalize (((!decide (l.canon = 0)) && ((canonDegree x p q).2)) && (decide (((canonDegree x p q).1) ≤ l.canon))) = e8
  generalize (l.patriline && (decide ((founder x p 1) = (founder x q 1)))) = e9
  generalize (l.matriline && (decide ((founder x p 2) = (founder x q 2)))) = e10
  generalize ((!decide (l.affinity = 0)) && ((isAffine x l p q y) || (isAffine x l q p y))) = e11
  refine loopN_rel0 (fun i (v : Bool) (u : List Bool)=>u = [false,e1,e2,e3,e4,e5,e6,e7,e8,e9,e10,e11,v]) (fun (a : List Int) (b : List Bool)=>a = l3Listed b) rfl (fun i v u n1 n2 hi hr hn=>?_) (fun v u hr=>?_)
  · subst hr
    refine hn _ _ ?_
    have hu:=fam_u hf hi
    obtain ⟨o1,o2,o3⟩:=other_l1 (u:=x.unions.getD i default) p hu.man.1 hu.woman.1
    have : decide ((other (x.unions.getD i default) p) = q) = (((l1Other (x.unions.getD i default) p).2) && (decide (((l1Other (x.unions.getD i default) p).1) = q))) := by
      rw [o1]
      cases (l1Other (x.unions.getD i default) p).2
      · simp only [cond_false,Bool.false_and];exact decide_eq_false (by omega)
      · rfl
    rw [this]
    rfl
  · subst hr
    rfl
theorem imp_pre {x : Family} {l : Law} {p q : Int} (h : (((!(specIsLaw l)) || (!(l1Has x p))) || (!(l1Has x q))) = false) : specIsFamily x = true ∧ (0 ≤ p ∧ p < x.people.length) ∧ (0 ≤ q ∧ q < x.people.length) ∧ 0 ≤ l.age ∧ l.age ≤ 99 := by
  simp only [or_f_iff,not_f_iff,l1Has_iff] at h
  exact ⟨h.2.2,h.1.2.1,h.2.1,specIsLaw_age h.1.1⟩
theorem l9Bars_len (x : Family) (l : Law) (p q y : Int) : (l9Bars x l p q y).length = 13 := by
  unfold l9Bars
  exact loopN_to (fun i (v : List Bool)=>v.length = 13) (fun (r : List Bool)=>r.length = 13) (by simp) (fun i v next hi hv hn=>hn _ (by simp [hv])) (fun v hv=>hv)
def C86 (R : (List Int)) : LV × List (Nat × BC):=(.own 0,[(0,.arr 1 R.length (rowOf (cInt .i64) R))])
def specImp (x0 : Family) (x1 : Law) (x2 : Int) (x3 : Int) (x4 : Int) : (List Int):=bif (((!(specIsLaw x1)) || (!(l1Has x0 x2))) || (!(l1Has x0 x3))) then ([] : List Int) else (l3Listed (l9Bars x0 x1 x2 x3 x4))
def A86 (x0 : Family) (x1 : Law) (x2 : Int) (x3 : Int) (x4 : Int) : Ann:=r0 1 [2,3,4,5,6,10] [5,6] (.reg 1 [] [(1,k42 x1),(6,cg (!(!(specIsLaw x1))) (k60 x0 x2)),(12,cg (!((!(specIsLaw x1)) || (!(l1Has x0 x2)))) (k60 x0 x3))] [2,3,4,5,6,10,25] [5,6] [!(!(specIsLaw x1)),!(specIsLaw x1),!((!(specIsLaw x1)) || (!(l1Has x0 x2))),(!(specIsLaw x1)) || (!(l1Has x0 x2))] [] [] [0,1,1,4,1,6,9,9,8,9,14] (cn (((!(specIsLaw x1)) || (!(l1Has x0 x2))) || (!(l1Has x0 x3))) (r0 1 [2,3,4,5,6,10] [5,6] (rt [(0,none)] (C86 ([] : List Int)))) (.reg 1 [] [(5,k119 x0 x1 x2 x3 x4),(6,k118 (l9Bars x0 x1 x2 x3 x4))] [10] [1032] [] [] [] [0,4] (rt [(0,some 1032)] (C86 (l3Listed (l9Bars x0 x1 x2 x3 x4)))))))
theorem ok_spec_Impediments (x0 : Family) (x1 : Law) (x2 : Int) (x3 : Int) (x4 : Int) (hx : x0.people.length ≤ 1048576) (hu : x0.unions.length ≤ 1048576) (hn : ∀ p ∈ x0.people, p.name.length ≤ 1048576) : FnT Try.prog 86 [.agg (cFamily false x0), .agg (cLaw false x1), .int .i64 x2, .int .i64 x3, .int .i64 x4] (C86 (specImp x0 x1 x2 x3 x4)) := by
  have aux : ∀ R, specImp x0 x1 x2 x3 x4 = R → slim (C86 R) (A86 x0 x1 x2 x3 x4) [] := by
    intro R hR
    refine rg trivial ?_
    refine rg ⟨trivial,fun hg0=>⟨by trivial,by trivial,by trivial⟩,fun hg0=>⟨by trivial,by trivial,by trivial⟩,trivial⟩ ?_
    revert hR;refine cd (fun hc1 hR=>?_) fun hc1 hR=>?_
    ·
      refine rg trivial ?_
      exact congrArg C86 hR
    ·
      refine rg ⟨⟨by trivial,by trivial,by trivial,by (have h9:=imp_pre hc1;first | exact h9.1 | exact h9.2.1 | exact h9.2.2.1 | exact h9.2.2.2 | omega),by (have h9:=imp_pre hc1;first | exact h9.1 | exact h9.2.1 | exact h9.2.2.1 | exact h9.2.2.2 | omega),by (have h9:=imp_pre hc1;first | exact h9.1 | exact h9.2.1 | exact h9.2.2.1 | exact h9.2.2.2 | omega),by (have h9:=imp_pre hc1;first | exact h9.1 | exact h9.2.1 | exact h9.2.2.1 | exact h9.2.2.2 | omega)⟩,by (have h9:=l9Bars_len x0 x1 x2 x3 x4;omega),trivial⟩ ?_
      exact congrArg C86 hR
  exact Fn.go 33 Try.func86 (by kernel_rfl) (by kernel_rfl) (by simp [C86,Frs,FrsL,FrsB,rowOf,cInt,cBool,cStr,cSl,FrsL_app,cPerson,cUnion,cFamily,cLaw]) (A86 x0 x1 x2 x3 x4) (by kernel_rfl) (aux _ rfl)
def k86 (x0 : Family) (x1 : Law) (x2 : Int) (x3 : Int) (x4 : Int) : Cl:=(hres (C86 (specImp x0 x1 x2 x3 x4)),k3 (ok_spec_Impediments x0 x1 x2 x3 x4))
theorem specImp_of {x : Family} {l : Law} {p q y : Int} (h : (((!(specIsLaw l)) || (!(l1Has x p))) || (!(l1Has x q))) = false) : specImp x l p q y = impediments x l p q y := by
  obtain ⟨h1,h2,h3,_⟩:=imp_pre h
  unfold specImp
  rw [h]
  exact (imp_core h1 h2 h3 l y).symm
theorem par_pre {x : Family} {l : Law} {p : Int} (h : ((!(specIsLaw l)) || (!(l1Has x p))) = false) : specIsFamily x = true ∧ (0 ≤ p ∧ p < x.people.length) ∧ 0 ≤ l.age ∧ l.age ≤ 99 := by
  simp only [or_f_iff,not_f_iff,l1Has_iff] at h
  exact ⟨h.2.2,h.2.1,specIsLaw_age h.1⟩
theorem has_law1 (x : Family) (l : Law) (p : Int) : ((!(implHas x [p])) || (!(implIsLaw l))) = ((!(specIsLaw l)) || (!(l1Has x p))) := by
  rw [isLaw_eq,has1_eq]
  cases l1Has x p <;> cases specIsLaw l <;> rfl
theorem par_pre2 {x : Family} {l : Law} {p : Int} (h : ((!(implHas x [p])) || (!(implIsLaw l))) = false) : specIsFamily x = true ∧ (0 ≤ p ∧ p < x.people.length) ∧ 0 ≤ l.age ∧ l.age ≤ 99:=par_pre (by rw [← has_law1];exact h)
end Go.Proofs.Ytkkijpibajigfaa
