import Derived.Test.YtikfeeaapenplaaM134
set_option maxHeartbeats 4000000
set_option linter.unusedSimpArgs false
set_option linter.unusedVariables false
namespace Go.Proofs.Ytikfeeaapenplaa
open Go Go.Lite Go.Proofs
structure Holder where
  person : Int
  from0 : Int
  deriving Inhabited
def cHolder (fr : Bool) (x : Holder) : List LV:=cInt .i64 x.person ++ cInt .i64 x.from0

def lastH (o : List Holder) : Holder:=o.getD (((o.length : Nat) : Int) - 1).toNat default
theorem lastH_snoc (o : List Holder) (h : Holder) : lastH (o ++ [h]) = h := by
  unfold lastH
  rw [getD_snoc,if_neg (by simp only [List.length_append,List.length_singleton];omega),if_pos (by simp only [List.length_append,List.length_singleton];omega)]
/-- Holders so far. -/
structure HldOk (f : Family) (o : List Holder) : Prop where
  ne : 1 ≤ o.length
  rg : 0 ≤ (lastH o).person ∧ (lastH o).person < f.people.length
  ln : (o.length : Int) ≤ (lastH o).from0 + 2 ∧ (lastH o).from0 ≤ 9999
  al : o.length = 1 ∧ (lastH o).from0 = (f.people.getD (lastH o).person.toNat default).born ∨ l1Alive f (lastH o).person (lastH o).from0 = true
theorem HldOk.start {f : Family} (hf : specIsFamily f = true) {p : Int} (hp : 0 ≤ p ∧ p < f.people.length) : HldOk f [Holder.mk p ((f.people.getD p.toNat default).born)] := by
  have h:=fam_p hf (k:=p.toNat) (by omega)
  have hb:=h.born
  have e : lastH [Holder.mk p ((f.people.getD p.toNat default).born)] = Holder.mk p ((f.people.getD p.toNat default).born):=rfl
  exact ⟨Nat.le_refl _,by rw [e];exact hp,by rw [e];simp only [List.length_singleton];omega,.inl ⟨rfl,by rw [e]⟩⟩
theorem HldOk.died {f : Family} (hf : specIsFamily f = true) {o : List Holder} (h : HldOk f o) : (f.people.getD (lastH o).person.toNat default).died = -1 ∨ (o.length : Int) ≤ (f.people.getD (lastH o).person.toNat default).died + 1 ∧ 0 ≤ (f.people.getD (lastH o).person.toNat default).died ∧ (f.people.getD (lastH o).person.toNat default).died ≤ 9999 := by
  have h9:=h.rg
  have hp:=fam_p hf (k:=(lastH o).person.toNat) (by omega)
  have hb:=hp.born;have hd:=hp.died;have h8:=h.ln
  rcases h.al with h1 | h1
  · omega
  · simp only [l1Alive, Bool.and_eq_true, Bool.or_eq_true, decide_eq_true_eq] at h1
    omega
theorem HldOk.step {f : Family} (hf : specIsFamily f = true) {o : List Holder} (h : HldOk f o) {c : Int} (hd : (f.people.getD (lastH o).person.toNat default).died ≠ -1) (hc : 0 ≤ c ∧ c < f.people.length) (ha : l1Alive f c ((f.people.getD (lastH o).person.toNat default).died) = true) : HldOk f (o ++ [Holder.mk c ((f.people.getD (lastH o).person.toNat default).died)]) := by
  have h1:=(h.died hf).resolve_left hd
  refine ⟨by simp,by rw [lastH_snoc];exact hc,by rw [lastH_snoc];simp only [List.length_append,List.length_singleton];omega,.inr (by rw [lastH_snoc];exact ha)⟩
theorem implSucc_val {f : Family} (hf : specIsFamily f = true) {x : Custom} (hx : specIsCustom x = true) {p : Int} (hp : 0 ≤ p ∧ p < f.people.length) (y : Int) : implSucc f x p y = specSuccO f x p y := by
  unfold specSuccO
  rw [(l1Has_iff f p).2 ⟨hp,hf⟩,hx]
  exact implSucc_eq hf x hp y
theorem getD_first {l : List Int} (h : ((l.length : Nat) : Int) ≠ 0) : l.getD 0 default ∈ l:=getD_mem (by omega)
theorem heir_ok {f : Family} (x : Custom) {p y : Int} (h : ((((specSuccO f x p y).length : Nat) : Int)) ≠ 0) : (0 ≤ (specSuccO f x p y).getD 0 default ∧ (specSuccO f x p y).getD 0 default < f.people.length) ∧ l1Alive f ((specSuccO f x p y).getD 0 default) y = true :=
  ⟨(specSuccO_ok f x p y).2 _ (getD_first h),specSuccO_alive f x p y _ (getD_first h)⟩
theorem HldOk.bd {f : Family} {o : List Holder} (h : HldOk f o) : 1 ≤ o.length ∧ o.length ≤ 10001 := by
  have h1:=h.ln;have h2:=h.ne;omega
theorem HldOk.at {f : Family} {o : List Holder} (h : HldOk f o) : 0 ≤ (o.getD ((((o.length : Nat) : Int) - 1).toNat) default).person ∧ (o.getD ((((o.length : Nat) : Int) - 1).toNat) default).person < f.people.length:=h.rg
theorem HldOk.next {f : Family} (hf : specIsFamily f = true) {x : Custom} (hx : specIsCustom x = true) {o : List Holder} (h : HldOk f o) (hd : decide (((f.people.getD (((o.getD ((((o.length : Nat) : Int) - 1).toNat) default).person).toNat) default).died) = (-1)) = false)
    (hl : decide ((((implSucc f x ((o.getD ((((o.length : Nat) : Int) - 1).toNat) default).person) ((f.people.getD (((o.getD ((((o.length : Nat) : Int) - 1).toNat) default).person).toNat) default).died)).length : Nat) : Int) = 0) = false) :
    HldOk f (o ++ [(Holder.mk ((implSucc f x ((o.getD ((((o.length : Nat) : Int) - 1).toNat) default).person) ((f.people.getD (((o.getD ((((o.length : Nat) : Int) - 1).toNat) default).person).toNat) default).died)).getD 0 default) ((f.people.getD (((o.getD ((((o.length : Nat) : Int) - 1).toNat) default).person).toNat) default).died))]):=by
  have hd:=of_decide_eq_false hd
  have hl:=of_decide_eq_false hl
  rw [implSucc_val hf hx h.at] at hl ⊢
  have h5:=heir_ok x hl
  exact h.step hf hd h5.1 h5.2
theorem HldOk.next2 {f : Family} (hf : specIsFamily f = true) {x : Custom} {o : List Holder} (h : HldOk f o) {p : Int} (e : p = (lastH o).person) (hd : decide (0 ≤ ((f.people.getD p.toNat default).died)) = true) (hl : (!((specHeirOf f x p ((f.people.getD p.toNat default).died)).2)) = false) :
    HldOk f (o ++ [(Holder.mk ((specHeirOf f x p ((f.people.getD p.toNat default).died)).1) ((f.people.getD p.toNat default).died))]):=by
  have hd:=of_decide_eq_true hd
  revert hl
  unfold specHeirOf
  cases hc : decide ((((specSuccO f x p ((f.people.getD p.toNat default).died)).length : Nat) : Int) = 0) with
  | true=>intro hl;cases hl
  | false =>
    intro _
    have hc:=of_decide_eq_false hc
    have h5:=heir_ok x hc
    subst e
    exact h.step hf (by omega) h5.1 h5.2

def C35 (R : (List Holder)) : LV × List (Nat × BC):=(.own 0,[(0,.arr 2 R.length (rowOf (cHolder true) R))])
def implHolders (x0 : Family) (x1 : Custom) (x2 : Int) : (List Holder):=bif ((!(implHas x0 [x2])) || (!(implIsCustom x1))) then ([] : List Holder) else (loopW (fun (v1 : (List Holder)) next=>bif (decide (((x0.people.getD (((v1.getD ((((v1.length : Nat) : Int) - 1).toNat) default).person).toNat) default).died) = (-1))) then v1 else (bif (decide ((((implSucc x0 x1 ((v1.getD ((((v1.length : Nat) : Int) - 1).toNat) default).person) ((x0.people.getD (((v1.getD ((((v1.length : Nat) : Int) - 1).toNat) default).person).toNat) default).died)).length : Nat) : Int) = 0)) then v1 else (next (v1 ++ [(Holder.mk ((implSucc x0 x1 ((v1.getD ((((v1.length : Nat) : Int) - 1).toNat) default).person) ((x0.people.getD (((v1.getD ((((v1.length : Nat) : Int) - 1).toNat) default).person).toNat) default).died)).getD 0 default) ((x0.people.getD (((v1.getD ((((v1.length : Nat) : Int) - 1).toNat) default).person).toNat) default).died))])))) ((10003 - [(Holder.mk x2 ((x0.people.getD x2.toNat default).born))].length) + 1) [(Holder.mk x2 ((x0.people.getD x2.toNat default).born))])
def D35b1 (x0 : Family) (x1 : Custom) (x2 : Int) (v1 : (List Holder)) : Dl:=⟨[(7,.own 20007)],[(20007,.arr 2 v1.length (rowOf (cHolder true) v1))]⟩
def A35b1 (x0 : Family) (x1 : Custom) (x2 : Int) (v1 : (List Holder)) : Ann:=r1 2 [3,4,6,7,8,9] [3,4,20007] [pf (inR .i64 (((v1.length : Nat) : Int) - 1)),pf (0 ≤ (((v1.length : Nat) : Int) - 1 : Int) ∧ (((v1.length : Nat) : Int) - 1 : Int) < ((v1.length : Nat) : Int)),pf (0 ≤ ((v1.getD ((((v1.length : Nat) : Int) - 1).toNat) default).person : Int) ∧ ((v1.getD ((((v1.length : Nat) : Int) - 1).toNat) default).person : Int) < ((x0.people.length : Nat) : Int))] [0,4,8] (r0 1 [3,4,6,7,8,9,44] [3,4,20007] (cn (decide (((x0.people.getD (((v1.getD ((((v1.length : Nat) : Int) - 1).toNat) default).person).toNat) default).died) = (-1))) (r0 1 [3,4,6,7,8,9] [3,4,20007] (rt [(0,some 20007)] (C35 v1))) (.reg 1 [] [(4,k61 x0 x1 ((v1.getD ((((v1.length : Nat) : Int) - 1).toNat) default).person) ((x0.people.getD (((v1.getD ((((v1.length : Nat) : Int) - 1).toNat) default).person).toNat) default).died))] [3,4,6,7,9,10] [3,4,1050,20007] [] [] [] [0] (r0 1 [3,4,6,7,9,10,53] [3,4,1050,20007] (cn (decide ((((implSucc x0 x1 ((v1.getD ((((v1.length : Nat) : Int) - 1).toNat) default).person) ((x0.people.getD (((v1.getD ((((v1.length : Nat) : Int) - 1).toNat) default).person).toNat) default).died)).length : Nat) : Int) = 0)) (r0 1 [3,4,6,7,9,10] [3,4,1050,20007] (rt [(0,some 20007)] (C35 v1))) (.reg 1 [] [(6,bsC 61 (cHolder true) ([(Holder.mk ((implSucc x0 x1 ((v1.getD ((((v1.length : Nat) : Int) - 1).toNat) default).person) ((x0.people.getD (((v1.getD ((((v1.length : Nat) : Int) - 1).toNat) default).person).toNat) default).died)).getD 0 default) ((x0.people.getD (((v1.getD ((((v1.length : Nat) : Int) - 1).toNat) default).person).toNat) default).died))] : List Holder)),(7,ap1 62 (cHolder true) 16 v1 (Holder.mk ((implSucc x0 x1 ((v1.getD ((((v1.length : Nat) : Int) - 1).toNat) default).person) ((x0.people.getD (((v1.getD ((((v1.length : Nat) : Int) - 1).toNat) default).person).toNat) default).died)).getD 0 default) ((x0.people.getD (((v1.getD ((((v1.length : Nat) : Int) - 1).toNat) default).person).toNat) default).died)))] [3,4,6,7] [3,4,62] [] [pf (0 ≤ (0 : Int) ∧ (0 : Int) < (((implSucc x0 x1 ((v1.getD ((((v1.length : Nat) : Int) - 1).toNat) default).person) ((x0.people.getD (((v1.getD ((((v1.length : Nat) : Int) - 1).toNat) default).person).toNat) default).died)).length : Nat) : Int))] [] [0,4,8] (.next 0 [(20007,some 62)] (D35b1 x0 x1 x2 (v1 ++ [(Holder.mk ((implSucc x0 x1 ((v1.getD ((((v1.length : Nat) : Int) - 1).toNat) default).person) ((x0.people.getD (((v1.getD ((((v1.length : Nat) : Int) - 1).toNat) default).person).toNat) default).died)).getD 0 default) ((x0.people.getD (((v1.getD ((((v1.length : Nat) : Int) - 1).toNat) default).person).toNat) default).died))])))))))))
def A35 (x0 : Family) (x1 : Custom) (x2 : Int) : Ann:=r0 1 [2,3,4,6] [3,4] (.reg 1 [] [(2,bsC 13 (cInt .i64) ([x2] : List Int)),(3,k43 x0 [x2]),(7,cg (!(!(implHas x0 [x2]))) (k60 x1))] [2,3,4,6,20] [3,4] [!(!(implHas x0 [x2])),!(implHas x0 [x2])] [] [] [0,4,1,8,1,6] (cn ((!(implHas x0 [x2])) || (!(implIsCustom x1))) (r0 1 [2,3,4,6] [3,4] (rt [(0,none)] (C35 ([] : List Holder)))) (.reg 1 [] [(8,bsC 29 (cHolder true) ([(Holder.mk x2 ((x0.people.getD x2.toNat default).born))] : List Holder))] [3,4,6,7] [3,4,29] [] [pf (0 ≤ (x2 : Int) ∧ (x2 : Int) < ((x0.people.length : Nat) : Int))] [] [0,4] (.loop (List Holder) (D35b1 x0 x1 x2) [] [29] [(20007,some 29)] (D35b1 x0 x1 x2 [(Holder.mk x2 ((x0.people.getD x2.toNat default).born))]) (A35b1 x0 x1 x2)))))
theorem ok_impl_HoldersOf (x0 : Family) (x1 : Custom) (x2 : Int) (hx : x0.people.length ≤ 1048576) (hu : x0.unions.length ≤ 1048576) (hn : ∀ p ∈ x0.people, p.name.length ≤ 1048576) : FnT Try.prog 35 [.agg (cFamily false x0), .agg (cCustom false x1), .int .i64 x2] (C35 (implHolders x0 x1 x2)) := by
  have aux : ∀ R, implHolders x0 x1 x2 = R → slim (C35 R) (A35 x0 x1 x2) [] := by
    intro R hR
    refine rg trivial ?_
    refine rg ⟨trivial,⟨by with_reducible assumption,by with_reducible assumption,by with_reducible assumption,by ((simp only [List.length_singleton];omega))⟩,fun hg0=>trivial,trivial⟩ ?_
    revert hR;refine cd (fun hc1 hR=>?_) fun hc1 hR=>?_
    ·
      refine rg trivial ?_
      exact congrArg C35 hR
    ·
      refine rg ⟨by (have h9:=ord_pre2 hc1;with_reducible exact h9.2),trivial,trivial⟩ ?_
      revert hR;refine lW (fun v=>HldOk x0 v) (fun v=>(10003 - v.length)) (by (have h9:=ord_pre2 hc1;with_reducible exact HldOk.start h9.1.1 h9.2)) (Nat.lt_succ_self _) rfl fun m1 v1 F1 hI1 hM1 hR hK1=>?_
      refine rg ⟨by (have h8:=hI1.bd;(try simp only [inR]);omega),by (have h8:=hI1.bd;(try simp only [inR]);omega),by (with_reducible exact hI1.at),trivial⟩ ?_
      refine rg trivial ?_
      revert hR;refine cd (fun hc2 hR=>?_) fun hc2 hR=>?_
      ·
        refine rg trivial ?_
        exact congrArg C35 hR
      ·
        refine rg ⟨⟨by (have h9:=ord_pre2 hc1;with_reducible exact h9.1.1),by (with_reducible exact hI1.at)⟩,trivial⟩ ?_
        refine rg trivial ?_
        revert hR;refine cd (fun hc3 hR=>?_) fun hc3 hR=>?_
        ·
          refine rg trivial ?_
          exact congrArg C35 hR
        ·
          refine rg ⟨by (have h8:=of_decide_eq_false hc3;omega),trivial,by (have h8:=hI1.bd;(try simp only [inR]);omega),trivial⟩ ?_
          exact hK1 (v1 ++ [(Holder.mk ((implSucc x0 x1 ((v1.getD ((((v1.length : Nat) : Int) - 1).toNat) default).person) ((x0.people.getD (((v1.getD ((((v1.length : Nat) : Int) - 1).toNat) default).person).toNat) default).died)).getD 0 default) ((x0.people.getD (((v1.getD ((((v1.length : Nat) : Int) - 1).toNat) default).person).toNat) default).died))]) (by (have h9:=ord_pre2 hc1;with_reducible exact hI1.next h9.1.1 (custom_of hc1) hc2 hc3)) (by (have h8:=hI1.bd;simp only [List.length_append,List.length_singleton];omega)) hR
  exact Fn.go 63 Try.func35 (by kernel_rfl) (by kernel_rfl) (by simp [C35,Frs,FrsL,FrsB,rowOf,cInt,cBool,cStr,cSl,FrsL_app,cPerson,cUnion,cFamily,cl01Cur,cCustom,cHolder]) (A35 x0 x1 x2) (by kernel_rfl) (aux _ rfl)
def k35 (x0 : Family) (x1 : Custom) (x2 : Int) : Cl:=(hres (C35 (implHolders x0 x1 x2)),k3 (ok_impl_HoldersOf x0 x1 x2))
def specHolders (x0 : Family) (x1 : Custom) (x2 : Int) : (List Holder):=bif ((!(specIsCustom x1)) || (!(l1Has x0 x2))) then ([] : List Holder) else (loopW (fun (v1 : Int × (List Holder)) next=>bif (decide (0 ≤ ((x0.people.getD v1.1.toNat default).died))) then (bif (!((specHeirOf x0 x1 v1.1 ((x0.people.getD v1.1.toNat default).died)).2)) then v1.2 else (next ((specHeirOf x0 x1 v1.1 ((x0.people.getD v1.1.toNat default).died)).1,(v1.2 ++ [(Holder.mk ((specHeirOf x0 x1 v1.1 ((x0.people.getD v1.1.toNat default).died)).1) ((x0.people.getD v1.1.toNat default).died))])))) else v1.2) ((10003 - [(Holder.mk x2 ((x0.people.getD x2.toNat default).born))].length) + 1) (x2,[(Holder.mk x2 ((x0.people.getD x2.toNat default).born))]))
def holI (f : Family) (x : Custom) (v1 : (List Holder)) (next : List Holder → List Holder) : List Holder:=bif (decide (((f.people.getD (((v1.getD ((((v1.length : Nat) : Int) - 1).toNat) default).person).toNat) default).died) = (-1))) then v1 else (bif (decide ((((implSucc f x ((v1.getD ((((v1.length : Nat) : Int) - 1).toNat) default).person) ((f.people.getD (((v1.getD ((((v1.length : Nat) : Int) - 1).toNat) default).person).toNat) default).died)).length : Nat) : Int) = 0)) then v1 else (next (v1 ++ [(Holder.mk ((implSucc f x ((v1.getD ((((v1.length : Nat) : Int) - 1).toNat) default).person) ((f.people.getD (((v1.getD ((((v1.length : Nat) : Int) - 1).toNat) default).person).toNat) default).died)).getD 0 default) ((f.people.getD (((v1.getD ((((v1.length : Nat) : Int) - 1).toNat) default).person).toNat) default).died))])))
def holS (f : Family) (x : Custom) (v1 : Int × (List Holder)) (next : Int × (List Holder) → List Holder) : List Holder:=bif (decide (0 ≤ ((f.people.getD v1.1.toNat default).died))) then (bif (!((specHeirOf f x v1.1 ((f.people.getD v1.1.toNat default).died)).2)) then v1.2 else (next ((specHeirOf f x v1.1 ((f.people.getD v1.1.toNat default).died)).1,(v1.2 ++ [(Holder.mk ((specHeirOf f x v1.1 ((f.people.getD v1.1.toNat default).died)).1) ((f.people.getD v1.1.toNat default).died))])))) else v1.2
theorem hol_same {f : Family} (hf : specIsFamily f = true) {x : Custom} (hx : specIsCustom x = true) : ∀ (m : Nat) (o : List Holder), HldOk f o → 10003 - o.length < m → loopW (holI f x) m o = loopW (holS f x) m ((lastH o).person, o) := by
  intro m
  induction m with
  | zero=>intro o _ hm;exact absurd hm (Nat.not_lt_zero _)
  | succ m ih =>
    intro o ho hm
    have hd:=ho.died hf
    have hb:=ho.bd
    have hr:=ho.rg
    have hs:=fun c=>ho.step hf (c:=c)
    show holI f x o (loopW (holI f x) m) = holS f x ((lastH o).person,o) (loopW (holS f x) m)
    unfold holI holS
    change (bif (decide (((f.people.getD (((lastH o).person).toNat) default).died) = (-1))) then o else (bif (decide ((((implSucc f x (lastH o).person ((f.people.getD (((lastH o).person).toNat) default).died)).length : Nat) : Int) = 0)) then o else (loopW (holI f x) m (o ++ [(Holder.mk ((implSucc f x (lastH o).person ((f.people.getD (((lastH o).person).toNat) default).died)).getD 0 default) ((f.people.getD (((lastH o).person).toNat) default).died))])))) = _
    rw [implSucc_val hf hx hr]
    unfold specHeirOf
    dsimp only
    revert hd hs
    generalize (f.people.getD (((lastH o).person).toNat) default).died = d
    intro hd hs
    by_cases h1 : d = -1
    · subst h1;rfl
    · rw [decide_eq_false h1, decide_eq_true (show 0 ≤ d by omega), cond_false, cond_true]
      by_cases h2 : (((specSuccO f x (lastH o).person d).length : Nat) : Int) = 0
      · rw [decide_eq_true h2];rfl
      · rw [decide_eq_false h2]
        have h5:=heir_ok x h2
        have h6:=hs _ h1 h5.1 h5.2
        have h7:=ih _ h6 (by simp only [List.length_append,List.length_singleton];omega)
        rw [lastH_snoc] at h7
        exact h7
theorem holders_eq (f : Family) (x : Custom) (p : Int) : implHolders f x p = specHolders f x p := by
  unfold implHolders specHolders
  have e : ((!(implHas f [p])) || (!(implIsCustom x))) = ((!(specIsCustom x)) || (!(l1Has f p))) := by
    rw [isCustom_eq,has1_eq,Bool.or_comm]
  rw [e]
  cases h : ((!(specIsCustom x)) || (!(l1Has f p))) with
  | true=>rfl
  | false =>
    simp only [or_f_iff,not_f_iff,l1Has_iff] at h
    rw [cond_false,cond_false]
    have hM : ∃ M,M = 10003 - [(Holder.mk p ((f.people.getD p.toNat default).born))].length + 1:=⟨_,rfl⟩
    obtain ⟨M,hM⟩:=hM
    rw [← hM]
    exact hol_same h.2.2 h.1 M _ (HldOk.start h.2.2 h.2.1) (by omega)
theorem specHolders_len (f : Family) (x : Custom) (p : Int) : (specHolders f x p).length ≤ 10001 := by
  unfold specHolders
  refine cond_both (p:=fun (r : List Holder)=>r.length ≤ 10001) (fun _=>by simp) (fun h=>?_)
  simp only [or_f_iff,not_f_iff,l1Has_iff] at h
  have hf:=h.2.2
  refine loopW_to (fun (v : Int × List Holder)=>HldOk f v.2 ∧ v.1 = (lastH v.2).person) (fun v=>10003 - v.2.length) (fun (r : List Holder)=>r.length ≤ 10001) (fun v next hv hn=>?_) _ _ (Nat.lt_succ_self _) ⟨HldOk.start hf h.2.1,rfl⟩
  refine cond_both (p:=fun (r : List Holder)=>r.length ≤ 10001) (fun c1=>?_) (fun _=>hv.1.bd.2)
  refine cond_both (p:=fun (r : List Holder)=>r.length ≤ 10001) (fun _=>hv.1.bd.2) (fun c2=>?_)
  refine hn _ ⟨hv.1.next2 hf hv.2 c1 c2,by rw [lastH_snoc]⟩ ?_
  have:=hv.1.bd
  simp only [List.length_append,List.length_singleton];omega
theorem at_mod {b : List Int} (hb : ∀ y ∈ b, 0 ≤ y ∧ y ≤ 255) {i : Int} (hi : 0 ≤ i) (n : Int) (hn : 0 < n) : 0 ≤ (at1 b i).tmod n ∧ (at1 b i).tmod n < n := by
  rw [Int.tmod_eq_emod_of_nonneg (at1_rng hb hi).1]
  exact ⟨Int.emod_nonneg _ (by omega),Int.emod_lt_of_pos _ hn⟩
def C37 (R : Bool) : LV × List (Nat × BC):=(.bool R,[])
def specAlive (x0 : Family) (x1 : Int) (x2 : Int) : Bool:=(l1Has x0 x1) && (l1Alive x0 x1 x2)
def A37 (x0 : Family) (x1 : Int) (x2 : Int) : Ann:=.reg 2 [] [(1002,k54 x0 x1),(1007,cg (l1Has x0 x1) (k63 x0 x1 x2))] [6] [] [l1Has x0 x1] [] [] [0,1,1,1,4,1] (rt [] (C37 ((l1Has x0 x1) && (l1Alive x0 x1 x2))))
theorem ok_spec_IsAlive (x0 : Family) (x1 : Int) (x2 : Int) (hx : x0.people.length ≤ 1048576) (hu : x0.unions.length ≤ 1048576) (hn : ∀ p ∈ x0.people, p.name.length ≤ 1048576) : FnT Try.prog 37 [.agg (cFamily false x0), .int .i64 x1, .int .i64 x2] (C37 (specAlive x0 x1 x2)) := by
  have aux : ∀ R, specAlive x0 x1 x2 = R → slim (C37 R) (A37 x0 x1 x2) [] := by
    intro R hR
    refine rg ⟨⟨by trivial,by trivial,by trivial⟩,fun hg0=>⟨by trivial,by (have h9:=(l1Has_iff x0 x1).1 hg0;omega)⟩,trivial⟩ ?_
    exact congrArg C37 hR
  exact Fn.go 16 Try.func37 (by kernel_rfl) (by kernel_rfl) (by simp [C37,Frs,FrsL]) (A37 x0 x1 x2) (by kernel_rfl) (aux _ rfl)
def k37 (x0 : Family) (x1 : Int) (x2 : Int) : Cl:=(hres (C37 (specAlive x0 x1 x2)),k3 (ok_spec_IsAlive x0 x1 x2))
end Go.Proofs.Ytikfeeaapenplaa
