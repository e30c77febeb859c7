import Derived.Test.YtikfeeaapenplaaVS40
set_option maxHeartbeats 4000000
set_option linter.unusedSimpArgs false
set_option linter.unusedVariables false
namespace Go.Proofs.Ytikfeeaapenplaa
open Go Go.Lite Go.Proofs
theorem specAlive_val {f : Family} (hf : specIsFamily f = true) {q : Int} (hq : 0 ≤ q ∧ q < f.people.length) (y : Int) : specAlive f q y = l1Alive f q y := by
  unfold specAlive
  rw [(l1Has_iff f q).2 ⟨hq,hf⟩,Bool.true_and]
theorem custom_ok {n : Int} (h : 0 ≤ n ∧ n < 5) (a b : Bool) : specIsCustom ⟨n, a, b⟩ = true := by
  simp only [specIsCustom,l1In,Bool.and_eq_true,decide_eq_true_eq];omega
/-! ### Holders follow each other -/
def diedAt (f : Family) (p : Int) : Int:=(f.people.getD p.toNat default).died
structure Hol (f : Family) (x : Custom) (p : Int) (o : List Holder) : Prop where
  ne : 1 ≤ o.length
  first : o.getD 0 default = ⟨p,(f.people.getD p.toNat default).born⟩
  rg : ∀ k : Nat,k < o.length → 0 ≤ (o.getD k default).person ∧ (o.getD k default).person < f.people.length
  lk : ∀ k : Nat,k + 1 < o.length → 0 ≤ diedAt f (o.getD k default).person ∧ specHeirOf f x (o.getD k default).person (diedAt f (o.getD k default).person) = ((o.getD (k + 1) default).person,true) ∧ (o.getD (k + 1) default).from0 = diedAt f (o.getD k default).person
theorem Hol.snoc {f : Family} {x : Custom} {p : Int} {o : List Holder} (h : Hol f x p o) {c d : Int} (hc : 0 ≤ c ∧ c < f.people.length) (hd : d = diedAt f (lastH o).person) (h0 : 0 ≤ d) (hh : specHeirOf f x (lastH o).person d = (c, true)) : Hol f x p (o ++ [⟨c, d⟩]) := by
  have hne:=h.ne
  have hl : lastH o = o.getD (o.length - 1) default:=by unfold lastH;congr 1;omega
  rw [hl] at hd hh
  refine ⟨by simp,by rw [snoc_lt' (by omega)];exact h.first,fun k hk=>?_,fun k hk=>?_⟩
  · rw [List.length_append, List.length_singleton] at hk
    by_cases e : k < o.length
    · rw [snoc_lt' e];exact h.rg k e
    · rw [snoc_last (by omega)];exact hc
  · rw [List.length_append, List.length_singleton] at hk
    rw [snoc_lt' (k:=k) (by omega)]
    by_cases e : k + 1 < o.length
    · rw [snoc_lt' e];exact h.lk k e
    · rw [snoc_last (k := k + 1) (by omega)]
      obtain rfl : k = o.length - 1:=by omega
      rw [← hd]
      exact ⟨h0,hh,rfl⟩
theorem holders_all {f : Family} (hf : specIsFamily f = true) {x : Custom} (hx : specIsCustom x = true) {p : Int} (hp : 0 ≤ p ∧ p < f.people.length) :
    Hol f x p (specHolders f x p) ∧ (diedAt f (lastH (specHolders f x p)).person < 0 ∨ (specHeirOf f x (lastH (specHolders f x p)).person (diedAt f (lastH (specHolders f x p)).person)).2 = false):=by
  unfold specHolders
  rw [hx,(l1Has_iff f p).2 ⟨hp,hf⟩,Bool.not_true,Bool.or_false,cond_false]
  refine loopW_to (fun (v : Int × List Holder)=>(HldOk f v.2 ∧ v.1 = (lastH v.2).person) ∧ Hol f x p v.2) (fun v=>10003 - v.2.length) (fun (r : List Holder)=>Hol f x p r ∧ (diedAt f (lastH r).person < 0 ∨ (specHeirOf f x (lastH r).person (diedAt f (lastH r).person)).2 = false)) (fun v next hv hn=>?_) _ _ (Nat.lt_succ_self _) ⟨⟨HldOk.start hf hp,rfl⟩,Nat.le_refl _,rfl,fun k hk=>?_,fun k hk=>?_⟩
  · obtain ⟨⟨h1, h2⟩, h3⟩ := hv
    refine cond_both (p:=fun (r : List Holder)=>Hol f x p r ∧ (diedAt f (lastH r).person < 0 ∨ (specHeirOf f x (lastH r).person (diedAt f (lastH r).person)).2 = false)) (fun c1=>?_) (fun c1=>⟨h3,.inl ?_⟩)
    · refine cond_both (p := fun (r : List Holder) => Hol f x p r ∧ (diedAt f (lastH r).person < 0 ∨ (specHeirOf f x (lastH r).person (diedAt f (lastH r).person)).2 = false)) (fun c2 => ⟨h3, .inr ?_⟩) (fun c2 => ?_)
      · rw [← h2];simpa [diedAt] using c2
      · have h4 := h1.next2 hf h2 c1 c2
        have h5:=h4.rg
        rw [lastH_snoc] at h5
        have c1':=of_decide_eq_true c1
        refine hn _ ⟨⟨h4,by rw [lastH_snoc]⟩,h3.snoc h5 (by rw [← h2];rfl) c1' ?_⟩ ?_
        · rw [← h2]
          exact Prod.ext rfl (not_f_iff.1 c2)
        · have := h1.bd
          simp only [List.length_append,List.length_singleton];omega
    · rw [← h2];have:=of_decide_eq_false c1;unfold diedAt;omega
  · have : k = 0 := by simpa using hk
    subst this;exact hp
  · exact absurd hk (by simp)
theorem heirOf_alive {f : Family} {x : Custom} {p y c : Int} (h : specHeirOf f x p y = (c, true)) : (0 ≤ c ∧ c < f.people.length) ∧ l1Alive f c y = true := by
  unfold specHeirOf at h
  cases hl : decide ((((specSuccO f x p y).length : Nat) : Int) = 0) with
  | true=>rw [hl] at h;cases h
  | false =>
    rw [hl] at h
    have h1:=heir_ok x (of_decide_eq_false hl)
    have h2 : (specSuccO f x p y).getD 0 default = c:=congrArg Prod.fst h
    rw [h2] at h1;exact h1
theorem Hol.later {f : Family} {x : Custom} {p : Int} {o : List Holder} (h : Hol f x p o) {i : Nat} : ∀ j : Nat, i < j → j < o.length → diedAt f (o.getD j default).person = -1 ∨ diedAt f (o.getD i default).person < diedAt f (o.getD j default).person := by
  intro j
  induction j with
  | zero=>intro h;exact absurd h (Nat.not_lt_zero _)
  | succ j ih =>
    intro hi hj
    have h1:=h.lk j hj
    have h2:=(heirOf_alive h1.2.1).2
    simp only [l1Alive,Bool.and_eq_true,Bool.or_eq_true,decide_eq_true_eq] at h2
    have h3 : diedAt f (o.getD (j + 1) default).person = -1 ∨ diedAt f (o.getD j default).person < diedAt f (o.getD (j + 1) default).person:=h2.2
    by_cases e : i = j
    · subst e;exact h3
    · have h4 := ih (by omega) (by omega)
      omega
theorem Hol.nodup {f : Family} {x : Custom} {p : Int} {o : List Holder} (h : Hol f x p o) : (o.map (·.person)).Nodup := by
  rw [List.Nodup,List.pairwise_iff_getElem]
  intro i j hi hj hij e
  rw [List.getElem_map,List.getElem_map] at e
  rw [List.length_map] at hi hj
  have h1:=h.later j hij hj
  have h2:=(h.lk i (by omega)).1
  have e1 : o.getD i default = o[i]:=by rw [List.getD_eq_getElem?_getD,List.getElem?_eq_getElem hi];rfl
  have e2 : o.getD j default = o[j]:=by rw [List.getD_eq_getElem?_getD,List.getElem?_eq_getElem hj];rfl
  rw [e1,e2,e] at h1
  rw [e1,e] at h2
  omega
theorem Hol.len {f : Family} {x : Custom} {p : Int} {o : List Holder} (h : Hol f x p o) : o.length ≤ f.people.length := by
  have := nodup_le (m := (List.range f.people.length).map fun (c : Nat) => (c : Int)) h.nodup fun y hy => by
    obtain ⟨z,hz,rfl⟩:=List.mem_map.1 hy
    obtain ⟨k,hk,e⟩:=mem_getD (d:=default) hz
    have:=h.rg k hk
    rw [e] at this
    exact List.mem_map.2 ⟨z.person.toNat,List.mem_range.2 (by omega),by omega⟩
  simpa using this
theorem heirOf_eq2 (f : Family) (x : Custom) (p y : Int) : implHeirOf f x p y = specHeirOf f x p y := by
  unfold implHeirOf specHeirOf;rw [succ_eq]
theorem holders_le (f : Family) (x : Custom) (p : Int) : (implHolders f x p).length ≤ 10001:=by rw [holders_eq];exact specHolders_len f x p
end Go.Proofs.Ytikfeeaapenplaa
