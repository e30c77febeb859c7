import Derived.Test.YtaageiiodlfeiaaV7
set_option maxHeartbeats 4000000
set_option linter.unusedSimpArgs false
set_option linter.unusedVariables false
namespace Go.Proofs.Ytaageiiodlfeiaa
open Go Go.Lite Go.Proofs
/-! ### Steps up: what both ways of reckoning find -/
/-- A person is n steps above another one. -/
inductive Up (x : Family) (p : Int) : Nat → Int → Prop
  | zero : Up x p 0 p
  | step {n : Nat} {a q : Int} (h : Up x p n a) (hq : q ∈ l1Parents x a) : Up x p (n + 1) q
/-- The list of the least steps up. -/
structure IsDist (x : Family) (p : Int) (o : List Int) : Prop where
  len : o.length = x.people.length
  no : ∀ k : Nat,k < x.people.length → o.getD k default < 0 → o.getD k default = -1 ∧ ∀ m,¬ Up x p m k
  yes : ∀ k : Nat,k < x.people.length → 0 ≤ o.getD k default → Up x p (o.getD k default).toNat k ∧ ∀ m,Up x p m k → o.getD k default ≤ m
theorem IsDist.uniq {x : Family} {p : Int} {o o' : List Int} (h : IsDist x p o) (h' : IsDist x p o') : o = o' := by
  apply List.ext_getElem (by rw [h.len,h'.len])
  intro k hk hk'
  have hkn : k < x.people.length:=by rw [← h.len];exact hk
  have e : o.getD k default = o'.getD k default := by
    rcases Int.lt_or_le (o.getD k default) 0 with c | c
    · obtain ⟨a1,a2⟩:=h.no k hkn c
      rcases Int.lt_or_le (o'.getD k default) 0 with c' | c'
      · rw [a1,(h'.no k hkn c').1]
      · exact absurd (h'.yes k hkn c').1 (a2 _)
    · obtain ⟨a1,a2⟩:=h.yes k hkn c
      rcases Int.lt_or_le (o'.getD k default) 0 with c' | c'
      · exact absurd a1 ((h'.no k hkn c').2 _)
      · obtain ⟨b1,b2⟩:=h'.yes k hkn c'
        have:=a2 _ b1
        have:=b2 _ a1
        omega
  rw [List.getD_eq_getElem?_getD,List.getD_eq_getElem?_getD,List.getElem?_eq_getElem hk,List.getElem?_eq_getElem hk'] at e
  simpa using e
theorem mem_getD {α : Type} {l : List α} {q d : α} (h : q ∈ l) : ∃ k, k < l.length ∧ l.getD k d = q := by
  obtain ⟨k,hk,e⟩:=List.getElem_of_mem h
  exact ⟨k,hk,by rw [List.getD_eq_getElem?_getD,List.getElem?_eq_getElem hk,Option.getD_some,e]⟩
theorem getD_mem {α : Type} {l : List α} {k : Nat} {d : α} (hk : k < l.length) : l.getD k d ∈ l := by
  rw [List.getD_eq_getElem?_getD,List.getElem?_eq_getElem hk];exact List.getElem_mem hk
/-- A person of a valid family. -/
structure FamP (x : Family) (k : Nat) : Prop where
  name : specIsName (x.people.getD k default).name = true
  sex : 1 ≤ (x.people.getD k default).sex ∧ (x.people.getD k default).sex ≤ 2
  born : 0 ≤ (x.people.getD k default).born ∧ (x.people.getD k default).born ≤ 9999
  died : (x.people.getD k default).died = -1 ∨ (x.people.getD k default).born ≤ (x.people.getD k default).died ∧ (x.people.getD k default).died ≤ 9999
  uniq : ∀ j,j < k → (x.people.getD j default).name ≠ (x.people.getD k default).name
  fa : (x.people.getD k default).father = -1 ∨ 0 ≤ (x.people.getD k default).father ∧ (x.people.getD k default).father < k ∧ (x.people.getD (x.people.getD k default).father.toNat default).sex = 1 ∧ (x.people.getD (x.people.getD k default).father.toNat default).born < (x.people.getD k default).born ∧
    ((x.people.getD (x.people.getD k default).father.toNat default).died = -1 ∨ (x.people.getD k default).born ≤ (x.people.getD (x.people.getD k default).father.toNat default).died + 1)
  mo : (x.people.getD k default).mother = -1 ∨ 0 ≤ (x.people.getD k default).mother ∧ (x.people.getD k default).mother < k ∧ (x.people.getD (x.people.getD k default).mother.toNat default).sex = 2 ∧ (x.people.getD (x.people.getD k default).mother.toNat default).born < (x.people.getD k default).born ∧
    ((x.people.getD (x.people.getD k default).mother.toNat default).died = -1 ∨ (x.people.getD k default).born ≤ (x.people.getD (x.people.getD k default).mother.toNat default).died)
/-- A union of a valid family. -/
structure FamU (x : Family) (k : Nat) : Prop where
  man : 0 ≤ (x.unions.getD k default).man ∧ (x.unions.getD k default).man < x.people.length
  woman : 0 ≤ (x.unions.getD k default).woman ∧ (x.unions.getD k default).woman < x.people.length
  msex : (x.people.getD (x.unions.getD k default).man.toNat default).sex = 1
  wsex : (x.people.getD (x.unions.getD k default).woman.toNat default).sex = 2
  from0 : (x.people.getD (x.unions.getD k default).man.toNat default).born ≤ (x.unions.getD k default).from0 ∧ (x.people.getD (x.unions.getD k default).woman.toNat default).born ≤ (x.unions.getD k default).from0 ∧ (x.unions.getD k default).from0 ≤ 9999
  to : (x.unions.getD k default).to = -1 ∨ (x.unions.getD k default).from0 ≤ (x.unions.getD k default).to ∧ (x.unions.getD k default).to ≤ 9999
  mdied : (x.people.getD (x.unions.getD k default).man.toNat default).died = -1 ∨ (x.unions.getD k default).from0 ≤ (x.people.getD (x.unions.getD k default).man.toNat default).died ∧ (x.unions.getD k default).to ≤ (x.people.getD (x.unions.getD k default).man.toNat default).died
  wdied : (x.people.getD (x.unions.getD k default).woman.toNat default).died = -1 ∨ (x.unions.getD k default).from0 ≤ (x.people.getD (x.unions.getD k default).woman.toNat default).died ∧ (x.unions.getD k default).to ≤ (x.people.getD (x.unions.getD k default).woman.toNat default).died
  uniq : ∀ j,j < k → (x.unions.getD j default).man = (x.unions.getD k default).man → ¬ (x.unions.getD j default).woman = (x.unions.getD k default).woman
theorem l1Union_iff (x : Family) (k : Nat) : l1Union x k = true ↔ FamU x k := by
  have q0 : ∀ {α : Type} (a b d : α),[a,b].getD 0 d = a:=fun _ _ _=>rfl
  have q1 : ∀ {α : Type} (a b d : α),[a,b].getD 1 d = b:=fun _ _ _=>rfl
  have h2 : ∀ {p : Nat → Prop}, (∀ j, j < 2 → p j) ↔ p 0 ∧ p 1 := ⟨fun h => ⟨h 0 (by omega), h 1 (by omega)⟩, fun h j hj => by
    match j,hj with
    | 0,_=>exact h.1
    | 1,_=>exact h.2⟩
  have e : FamU x k ↔ (0 ≤ (x.unions.getD k default).man ∧ (x.unions.getD k default).man < x.people.length) ∧ (0 ≤ (x.unions.getD k default).woman ∧ (x.unions.getD k default).woman < x.people.length) ∧ (x.people.getD (x.unions.getD k default).man.toNat default).sex = 1 ∧
    (x.people.getD (x.unions.getD k default).woman.toNat default).sex = 2 ∧ ((x.people.getD (x.unions.getD k default).man.toNat default).born ≤ (x.unions.getD k default).from0 ∧ (x.people.getD (x.unions.getD k default).woman.toNat default).born ≤ (x.unions.getD k default).from0 ∧ (x.unions.getD k default).from0 ≤ 9999) ∧
    ((x.unions.getD k default).to = -1 ∨ (x.unions.getD k default).from0 ≤ (x.unions.getD k default).to ∧ (x.unions.getD k default).to ≤ 9999) ∧
    ((x.people.getD (x.unions.getD k default).man.toNat default).died = -1 ∨ (x.unions.getD k default).from0 ≤ (x.people.getD (x.unions.getD k default).man.toNat default).died ∧ (x.unions.getD k default).to ≤ (x.people.getD (x.unions.getD k default).man.toNat default).died) ∧
    ((x.people.getD (x.unions.getD k default).woman.toNat default).died = -1 ∨ (x.unions.getD k default).from0 ≤ (x.people.getD (x.unions.getD k default).woman.toNat default).died ∧ (x.unions.getD k default).to ≤ (x.people.getD (x.unions.getD k default).woman.toNat default).died) ∧
    (∀ j,j < k → (x.unions.getD j default).man = (x.unions.getD k default).man → ¬ (x.unions.getD j default).woman = (x.unions.getD k default).woman) :=
    ⟨fun h=>⟨h.man,h.woman,h.msex,h.wsex,h.from0,h.to,h.mdied,h.wdied,h.uniq⟩,fun ⟨h1,h2,h3,h4,h5,h6,h7,h8,h9⟩=>⟨h1,h2,h3,h4,h5,h6,h7,h8,h9⟩⟩
  rw [e]
  simp only [l1Union,cond_f_iff,or_f_iff,loopN_all,l1In,Bool.and_eq_true,Bool.or_eq_true,not_f_iff,not_t_iff,and_f_iff,decide_eq_true_eq,decide_eq_false_iff_not,h2,Int.toNat_natCast,q0,q1,and_true]
  generalize (∀ j,j < k → (x.unions.getD j default).man = (x.unions.getD k default).man → ¬(x.unions.getD j default).woman = (x.unions.getD k default).woman) = Z
  generalize x.people.getD (x.unions.getD k default).man.toNat default = a
  generalize x.people.getD (x.unions.getD k default).woman.toNat default = b
  generalize x.unions.getD k default = u
  by_cases hz : Z <;> simp only [hz,and_true,and_false]
  omega
theorem wrap_small {n : Int} (h : -1 ≤ n ∧ n ≤ 20000) : IntKind.wrap .i64 n = n:=wrap_of_inR (by simp only [inR];omega)
theorem l1Person_fam (x : Family) (k : Nat) (hd : ∀ j : Nat, j < k → (x.people.getD j default).died = -1 ∨ 0 ≤ (x.people.getD j default).died ∧ (x.people.getD j default).died ≤ 9999) : l1Person x k = true ↔ FamP x k := by
  have hw : ∀ (q : Int),0 ≤ q → q < k → ∀ l : Int,0 ≤ l ∧ l ≤ 1 → IntKind.wrap .i64 ((x.people.getD q.toNat default).died + l) = (x.people.getD q.toNat default).died + l:=fun q h0 h1 l hl=>wrap_small (by have:=hd q.toNat (by omega);omega)
  rw [l1Person_iff,l1Parent_iff,l1Parent_iff]
  simp only [Int.toNat_natCast]
  constructor
  · rintro ⟨h1,h2,h3,h4,h5,h6,h7⟩
    refine ⟨h1,h2,h3,h4,h5,h6.imp id fun h=>⟨h.1,h.2.1,h.2.2.1,h.2.2.2.1,?_⟩,h7.imp id fun h=>⟨h.1,h.2.1,h.2.2.1,h.2.2.2.1,?_⟩⟩
    · rw [← hw _ h.1 h.2.1 1 (by omega)];exact h.2.2.2.2
    · have:=h.2.2.2.2;rw [hw _ h.1 h.2.1 0 (by omega)] at this;simpa using this
  · rintro ⟨h1,h2,h3,h4,h5,h6,h7⟩
    refine ⟨h1,h2,h3,h4,h5,h6.imp id fun h=>⟨h.1,h.2.1,h.2.2.1,h.2.2.2.1,?_⟩,h7.imp id fun h=>⟨h.1,h.2.1,h.2.2.1,h.2.2.2.1,?_⟩⟩
    · rw [hw _ h.1 h.2.1 1 (by omega)];exact h.2.2.2.2
    · rw [hw _ h.1 h.2.1 0 (by omega)];simpa using h.2.2.2.2
/-- WHAT A VALID FAMILY IS. -/
theorem fam_iff (x : Family) : specIsFamily x = true ↔ (x.people.length ≤ 40 ∧ x.unions.length ≤ 60) ∧ (∀ k : Nat, k < x.people.length → FamP x k) ∧ (∀ k : Nat, k < x.people.length → (l1Depths x).getD k default ≤ 10) ∧ ∀ k : Nat, k < x.unions.length → FamU x k := by
  rw [specIsFamily_iff]
  have e1 : ∀ k : Nat,(l1Union x k = true ↔ FamU x k):=l1Union_iff x
  simp only [e1]
  refine and_congr_right fun _=>and_congr_left fun _=>?_
  constructor
  · intro h k hk
    refine (l1Person_fam x k fun j hj=>?_).1 (h k hk)
    obtain ⟨_,_,h1,h2,_⟩:=(l1Person_iff x j).1 (h j (by omega))
    simp only [Int.toNat_natCast] at h1 h2
    omega
  · intro h k hk
    refine (l1Person_fam x k fun j hj=>?_).2 (h k hk)
    have:=h j (by omega)
    have h1:=this.born;have h2:=this.died
    omega
theorem fam_p {x : Family} (h : specIsFamily x = true) {k : Nat} (hk : k < x.people.length) : FamP x k:=((fam_iff x).1 h).2.1 k hk
theorem fam_u {x : Family} (h : specIsFamily x = true) {k : Nat} (hk : k < x.unions.length) : FamU x k:=((fam_iff x).1 h).2.2.2 k hk
theorem fam_n {x : Family} (h : specIsFamily x = true) : x.people.length ≤ 40 ∧ x.unions.length ≤ 60:=((fam_iff x).1 h).1
theorem snoc_lt' {α : Type} {l : List α} {z d : α} {k : Nat} (h : k < l.length) : (l ++ [z]).getD k d = l.getD k d := by
  rw [getD_snoc,if_pos h]
theorem snoc_last {α : Type} {l : List α} {z d : α} {k : Nat} (h : k = l.length) : (l ++ [z]).getD k d = z := by
  rw [getD_snoc,if_neg (by omega),if_pos h]
/-- Numbers that are wrapped fit. -/
theorem wrap_inR (n : Int) : inR .i64 (IntKind.wrap .i64 n) := by
  simp only [inR,IntKind.wrap,IntKind.signed,IntKind.bits]
  simp
  omega
theorem and_small (x m : Int) (k : Nat) (hm : m = k) (hk : k < 9223372036854775808) : 0 ≤ bits .and .i64 x m ∧ bits .and .i64 x m ≤ m := by
  have h1 : (BitVec.ofInt 64 x &&& BitVec.ofInt 64 m).toNat ≤ k := by
    rw [BitVec.toNat_and]
    refine Nat.le_trans Nat.and_le_right ?_
    subst hm
    simp only [BitVec.toNat_ofInt]
    omega
  have e : bits .and .i64 x m = ((BitVec.ofInt 64 x &&& BitVec.ofInt 64 m).toNat : Int) := by
    show IntKind.wrap .i64 _ = _
    exact wrap_of_inR (n:=((BitVec.ofInt 64 x &&& BitVec.ofInt 64 m).toNat : Int)) (by simp only [inR];omega)
  rw [e]
  omega
theorem getD_byte {l : List Int} (h : ∀ y ∈ l, 0 ≤ y ∧ y ≤ 255) (k : Nat) : 0 ≤ l.getD k default ∧ l.getD k default ≤ 255 := by
  rcases Nat.lt_or_ge k l.length with hk | hk
  · have:=h _ (List.getElem_mem hk)
    simpa [List.getD_eq_getElem?_getD,List.getElem?_eq_getElem hk] using this
  · simp [List.getD_eq_getElem?_getD,List.getElem?_eq_none hk]
end Go.Proofs.Ytaageiiodlfeiaa
