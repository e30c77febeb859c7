import Derived.Test.YtikfeeaapenplaaVS19
set_option maxHeartbeats 4000000
set_option linter.unusedSimpArgs false
set_option linter.unusedVariables false
namespace Go.Proofs.Ytikfeeaapenplaa
open Go Go.Lite Go.Proofs
structure heirList where
  f : Family
  custom : Custom
  year : Int
  list : List Int
  listed : KV → Option Bool
  gone : KV → Option Bool
  deriving Inhabited

def C90 (x0 : Family) (x1 : Custom) (x2 : Int) (R : heirList) : LV × List (Nat × BC):=(.vp 0 0,[(0,.var [.ro false 6 R.f.people.length (rowOf (cPerson false) R.f.people),.ro false 4 R.f.unions.length (rowOf (cUnion false) R.f.unions),.int .i64 R.custom.prefer,.bool R.custom.youngest,.bool R.custom.represent,.int .i64 R.year,.own 1,.mp 2,.mp 3]),(1,.arr 1 R.list.length (rowOf (cInt .i64) R.list)),(2,.mp (.int .i64) (.b R.listed)),(3,.mp (.int .i64) (.b R.gone))])
def newHeirs (x0 : Family) (x1 : Custom) (x2 : Int) : heirList:=(heirList.mk x0 x1 x2 ([] : List Int) (fun _=>none) (fun _=>none))
def A90 (x0 : Family) (x1 : Custom) (x2 : Int) : Ann:=r0 2 [6] [10,11,13] (rt [(0,some 13),(1,none),(2,some 10),(3,some 11)] (C90 x0 x1 x2 (heirList.mk x0 x1 x2 ([] : List Int) (fun _=>none) (fun _=>none))))
theorem ok_impl_newHeirs (x0 : Family) (x1 : Custom) (x2 : Int) : FnMT Try.prog 90 [.agg (cFamily false x0), .agg (cCustom false x1), .int .i64 x2] [] (C90 x0 x1 x2 (newHeirs x0 x1 x2)) := by
  have aux : ∀ R, newHeirs x0 x1 x2 = R → slim (C90 x0 x1 x2 R) (A90 x0 x1 x2) [] := by
    intro R hR
    refine rg trivial ?_
    exact congrArg (C90 x0 x1 x2) hR
  exact FnM.go 14 Try.func90 (by kernel_rfl) (by kernel_rfl) (A90 x0 x1 x2) (by kernel_rfl) (aux _ rfl)
def k90 (d : Nat) (ids : List Nat) (x0 : Family) (x1 : Custom) (x2 : Int) : Cl:=(hresM d ids (C90 x0 x1 x2 (newHeirs x0 x1 x2)),k0 (ok_impl_newHeirs x0 x1 x2))
/-- Heirs listed once. -/
structure HOk (f : Family) (l : List Int) (m : Int → Bool) : Prop where
  nd : l.Nodup
  rg : ∀ c ∈ l,(0 ≤ c ∧ c < f.people.length) ∧ m c = true
theorem nodup_le : ∀ {l m : List Int}, l.Nodup → (∀ x ∈ l, x ∈ m) → l.length ≤ m.length
  | [],_,_,_=>Nat.zero_le _
  | a :: l, m, h, hs => by
    have h1:=List.nodup_cons.1 h
    have ha:=hs a (by simp)
    have:=nodup_le (m:=m.erase a) h1.2 fun x hx=>(List.mem_erase_of_ne (fun e=>h1.1 (by rw [← e];exact hx))).2 (hs x (by simp [hx]))
    rw [List.length_erase_of_mem ha] at this
    have:=List.length_pos_of_mem ha
    simp only [List.length_cons];omega
theorem HOk.len {f : Family} {l : List Int} {m : Int → Bool} (h : HOk f l m) : l.length ≤ f.people.length := by
  have := nodup_le (m := (List.range f.people.length).map fun (c : Nat) => (c : Int)) h.nd fun x hx => by
    have:=(h.rg x hx).1
    exact List.mem_map.2 ⟨x.toNat,List.mem_range.2 (by omega),by omega⟩
  simpa using this
theorem HOk.mono {f : Family} {l : List Int} {m m' : Int → Bool} (h : HOk f l m) (hm : ∀ c,m c = true → m' c = true) : HOk f l m':=⟨h.nd,fun c hc=>⟨(h.rg c hc).1,hm c (h.rg c hc).2⟩⟩
theorem HOk.snoc {f : Family} {l : List Int} {m m' : Int → Bool} (h : HOk f l m) {c : Int} (hc : 0 ≤ c ∧ c < f.people.length) (h0 : m c = false) (h1 : m' c = true) (hm : ∀ c, m c = true → m' c = true) : HOk f (l ++ [c]) m' := by
  refine ⟨?_,fun d hd=>?_⟩
  · rw [List.nodup_append]
    refine ⟨h.nd,by simp,fun a ha b hb e=>?_⟩
    rw [List.mem_singleton.1 hb] at e
    subst e
    have:=(h.rg a ha).2
    rw [h0] at this;cases this
  · rcases List.mem_append.1 hd with hd | hd
    · exact ⟨(h.rg d hd).1,hm d (h.rg d hd).2⟩
    · rw [List.mem_singleton.1 hd];exact ⟨hc,h1⟩
theorem HOk.nil (f : Family) (m : Int → Bool) : HOk f [] m:=⟨List.nodup_nil,fun c hc=>absurd hc List.not_mem_nil⟩
/-- Marks in a list, marks in a map. -/
def mk1 (l : List Bool) (c : Int) : Bool:=l.getD c.toNat default
def mk2 (g : KV → Option Bool) (c : Int) : Bool:=(g (KV.i c)).getD false
theorem mk2_set (g : KV → Option Bool) (c d : Int) (b : Bool) : mk2 (mset g (KV.i c) b) d = if d = c then b else mk2 g d := by
  unfold mk2 mset
  by_cases e : d = c
  · subst e;simp
  · rw [if_neg (by simpa using e),if_neg e]
theorem mk1_set (l : List Bool) {c d : Int} (b : Bool) (hc : 0 ≤ c ∧ c < l.length) (hd : 0 ≤ d) : mk1 (l.set c.toNat b) d = if d = c then b else mk1 l d := by
  unfold mk1
  rw [getD_set]
  by_cases e : d = c
  · subst e;rw [if_pos (by omega),if_pos rfl]
  · rw [if_neg (by omega),if_neg e]
theorem mk2_mono (g : KV → Option Bool) (c : Int) : ∀ d, mk2 g d = true → mk2 (mset g (KV.i c) true) d = true := fun d h => by
  rw [mk2_set];split
  · rfl
  · exact h
theorem mk1_mono (l : List Bool) (c : Int) : ∀ d, mk1 l d = true → mk1 (l.set c.toNat true) d = true := fun d h => by
  unfold mk1 at *
  rw [getD_set];split
  · rfl
  · exact h

def C92 (x0 : heirList) (x1 : Int) (R : (List Int) × (KV → Option Bool) × (KV → Option Bool)) : LV × List (Nat × BC):=(.tup [],[(900002,.mp (.int .i64) (.b R.2.1)),(900003,.mp (.int .i64) (.b R.2.2)),(900000,.var [.ro false 6 x0.f.people.length (rowOf (cPerson false) x0.f.people),.ro false 4 x0.f.unions.length (rowOf (cUnion false) x0.f.unions),.int .i64 x0.custom.prefer,.bool x0.custom.youngest,.bool x0.custom.represent,.int .i64 x0.year,.own 0,.mp 900002,.mp 900003]),(0,.arr 1 R.1.length (rowOf (cInt .i64) R.1))])
def below_r : Nat → heirList → Int → (List Int) × (KV → Option Bool) × (KV → Option Bool)
  | 0,_,_=>default
  | m + 1,x0,x1=>bif ((x0.gone (KV.i x1)).getD false) then (x0.list,x0.listed,x0.gone) else (loopN (fun i1 (v1 : (List Int) × (KV → Option Bool) × (KV → Option Bool)) nx1=>bif (decide (x0.year < ((x0.f.people.getD (((implOrder x0.f x0.custom x1).getD i1 default).toNat) default).born))) then (nx1 (v1.1,v1.2.1,v1.2.2)) else (jn (fun K1=>bif ((implAlive x0.f ((implOrder x0.f x0.custom x1).getD i1 default) x0.year) && (!((v1.2.1 (KV.i ((implOrder x0.f x0.custom x1).getD i1 default))).getD false))) then (K1 ((v1.1 ++ [((implOrder x0.f x0.custom x1).getD i1 default)]),mset v1.2.1 (KV.i ((implOrder x0.f x0.custom x1).getD i1 default)) true)) else (K1 (v1.1,v1.2.1))) (fun (j1 : (List Int) × (KV → Option Bool))=>bif ((implAlive x0.f ((implOrder x0.f x0.custom x1).getD i1 default) x0.year) || x0.custom.represent) then (nx1 ((below_r m (heirList.mk x0.f x0.custom x0.year j1.1 j1.2 v1.2.2) ((implOrder x0.f x0.custom x1).getD i1 default)).1,(below_r m (heirList.mk x0.f x0.custom x0.year j1.1 j1.2 v1.2.2) ((implOrder x0.f x0.custom x1).getD i1 default)).2.1,(below_r m (heirList.mk x0.f x0.custom x0.year j1.1 j1.2 v1.2.2) ((implOrder x0.f x0.custom x1).getD i1 default)).2.2)) else (nx1 (j1.1,j1.2,v1.2.2))))) (fun (v1 : (List Int) × (KV → Option Bool) × (KV → Option Bool))=>(v1.1,v1.2.1,v1.2.2)) ((implOrder x0.f x0.custom x1).length) 0 (x0.list,x0.listed,mset x0.gone (KV.i x1) true))
def below (x0 : heirList) (x1 : Int) : (List Int) × (KV → Option Bool) × (KV → Option Bool):=below_r 100 x0 x1
def kr92 (m d : Nat) (ids : List Nat) (x0 : heirList) (x1 : Int) : Cl:=(hresM d ids (C92 x0 x1 (below_r m x0 x1)),pf (FnMT Try.prog 92 [.vp 900000 0,.int .i64 x1] [.var [.ro false 6 x0.f.people.length (rowOf (cPerson false) x0.f.people),.ro false 4 x0.f.unions.length (rowOf (cUnion false) x0.f.unions),.int .i64 x0.custom.prefer,.bool x0.custom.youngest,.bool x0.custom.represent,.int .i64 x0.year,.own 900001,.mp 900002,.mp 900003],.arr 1 x0.list.length (rowOf (cInt .i64) x0.list),.mp (.int .i64) (.b x0.listed),.mp (.int .i64) (.b x0.gone)] (C92 x0 x1 (below_r m x0 x1))))
def D92b1 (m : Nat) (x0 : heirList) (x1 : Int) (i1 : Nat) (v1 : (List Int) × (KV → Option Bool) × (KV → Option Bool)) : Dl:=⟨[(29,.int .i64 ((i1 : Nat) : Int))],[(30006,.arr 1 v1.1.length (rowOf (cInt .i64) v1.1)),(900002,.mp (.int .i64) (.b v1.2.1)),(900003,.mp (.int .i64) (.b v1.2.2)),(900000,.var [.ro false 6 x0.f.people.length (rowOf (cPerson false) x0.f.people),.ro false 4 x0.f.unions.length (rowOf (cUnion false) x0.f.unions),.int .i64 x0.custom.prefer,.bool x0.custom.youngest,.bool x0.custom.represent,.int .i64 x0.year,.own 30006,.mp 900002,.mp 900003])]⟩
def D92j1 (m : Nat) (x0 : heirList) (x1 : Int) (i1 : Nat) (v1 : (List Int) × (KV → Option Bool) × (KV → Option Bool)) (j1 : (List Int) × (KV → Option Bool)) : Dl:=⟨[],[(40006,.arr 1 j1.1.length (rowOf (cInt .i64) j1.1)),(900002,.mp (.int .i64) (.b j1.2)),(900000,.var [.ro false 6 x0.f.people.length (rowOf (cPerson false) x0.f.people),.ro false 4 x0.f.unions.length (rowOf (cUnion false) x0.f.unions),.int .i64 x0.custom.prefer,.bool x0.custom.youngest,.bool x0.custom.represent,.int .i64 x0.year,.own 40006,.mp 900002,.mp 900003])]⟩
def A92j1 (m : Nat) (x0 : heirList) (x1 : Int) (i1 : Nat) (v1 : (List Int) × (KV → Option Bool) × (KV → Option Bool)) (j1 : (List Int) × (KV → Option Bool)) : Ann:=.reg 1 [] [] [0,5,27,28,29,89] [1027,40006,900000,900002,900003] [!(implAlive x0.f ((implOrder x0.f x0.custom x1).getD i1 default) x0.year),implAlive x0.f ((implOrder x0.f x0.custom x1).getD i1 default) x0.year] [] [] [1,1,1,1,6] (cn ((implAlive x0.f ((implOrder x0.f x0.custom x1).getD i1 default) x0.year) || x0.custom.represent) (.reg 1 [] [(2,kr92 m 92 [900000,40006,900002,900003] (heirList.mk x0.f x0.custom x0.year j1.1 j1.2 v1.2.2) ((implOrder x0.f x0.custom x1).getD i1 default))] [0,27,28,29] [1027,1092,900000,900002,900003] [] [] [] [0] (r1 1 [0,27,28,29] [1027,1092,900000,900002,900003] [pf (inR .i64 (((i1 : Nat) : Int) + 1))] [0] (.next 0 [(30006,some 1092),(900002,some 900002),(900003,some 900003)] (D92b1 m x0 x1 (i1 + 1) ((below_r m (heirList.mk x0.f x0.custom x0.year j1.1 j1.2 v1.2.2) ((implOrder x0.f x0.custom x1).getD i1 default)).1,(below_r m (heirList.mk x0.f x0.custom x0.year j1.1 j1.2 v1.2.2) ((implOrder x0.f x0.custom x1).getD i1 default)).2.1,(below_r m (heirList.mk x0.f x0.custom x0.year j1.1 j1.2 v1.2.2) ((implOrder x0.f x0.custom x1).getD i1 default)).2.2))))) (r1 1 [0,27,28,29] [1027,40006,900000,900002,900003] [pf (inR .i64 (((i1 : Nat) : Int) + 1))] [0] (.next 0 [(30006,some 40006),(900002,some 900002),(900003,some 900003)] (D92b1 m x0 x1 (i1 + 1) (j1.1,j1.2,v1.2.2)))))
def A92b1 (m : Nat) (x0 : heirList) (x1 : Int) (i1 : Nat) (v1 : (List Int) × (KV → Option Bool) × (KV → Option Bool)) : Ann:=r0 1 [0,27,28,29,30] [1027,30006,900000,900002,900003] (cn (decide (((i1 : Nat) : Int) < (((implOrder x0.f x0.custom x1).length : Nat) : Int))) (r1 1 [0,5,27,28,29] [1027,30006,900000,900002,900003] [pf (0 ≤ (((i1 : Nat) : Int) : Int) ∧ (((i1 : Nat) : Int) : Int) < (((implOrder x0.f x0.custom x1).length : Nat) : Int))] [0] (r1 1 [0,5,27,28,29,46] [1027,30006,900000,900002,900003] [pf (0 ≤ (((implOrder x0.f x0.custom x1).getD i1 default) : Int) ∧ (((implOrder x0.f x0.custom x1).getD i1 default) : Int) < ((x0.f.people.length : Nat) : Int))] [0] (cn (decide (x0.year < ((x0.f.people.getD (((implOrder x0.f x0.custom x1).getD i1 default).toNat) default).born))) (r1 1 [0,27,28,29] [1027,30006,900000,900002,900003] [pf (inR .i64 (((i1 : Nat) : Int) + 1))] [0] (.next 0 [(30006,some 30006),(900002,some 900002),(900003,some 900003)] (D92b1 m x0 x1 (i1 + 1) (v1.1,v1.2.1,v1.2.2)))) (.reg 1 [] [(9,k51 x0.f ((implOrder x0.f x0.custom x1).getD i1 default) x0.year)] [0,5,6,27,28,29] [1027,30006,900000,900002,900003] [] [] [] [0] (.join 0 ((List Int) × (KV → Option Bool)) (D92j1 m x0 x1 i1 v1) [0,5,6,27,28,29] [900000,900002,900003,1027] (.reg 1 [] [] [0,5,6,27,28,29,66] [1027,30006,900000,900002,900003] [implAlive x0.f ((implOrder x0.f x0.custom x1).getD i1 default) x0.year] [] [] [1,1,1,1,1,1,1] (cn ((implAlive x0.f ((implOrder x0.f x0.custom x1).getD i1 default) x0.year) && (!((v1.2.1 (KV.i ((implOrder x0.f x0.custom x1).getD i1 default))).getD false))) (r0 1 [0,5,6,27,28,29] [1027,30006,900000,900002,900003] (.reg 1 [] [(6,bsC 78 (cInt .i64) ([((implOrder x0.f x0.custom x1).getD i1 default)] : List Int)),(7,ap1 79 (cInt .i64) 8 v1.1 ((implOrder x0.f x0.custom x1).getD i1 default))] [0,5,6,27,28,29] [79,1027,900000,900002,900003] [] [] [] [0,4] (.next 0 [(40006,some 79),(900002,some 900002)] (D92j1 m x0 x1 i1 v1 ((v1.1 ++ [((implOrder x0.f x0.custom x1).getD i1 default)]),mset v1.2.1 (KV.i ((implOrder x0.f x0.custom x1).getD i1 default)) true))))) (.next 0 [(40006,some 30006),(900002,some 900002)] (D92j1 m x0 x1 i1 v1 (v1.1,v1.2.1))))) (A92j1 m x0 x1 i1 v1)))))) (rt [(900002,some 900002),(900003,some 900003),(900000,some 900000),(0,some 30006)] (C92 x0 x1 (v1.1,v1.2.1,v1.2.2))))
def A92 (m : Nat) (x0 : heirList) (x1 : Int) : Ann:=r0 1 [0,1,12] [900000,900001,900002,900003] (cn ((x0.gone (KV.i x1)).getD false) (rt [(900002,some 900002),(900003,some 900003),(900000,some 900000),(0,some 900001)] (C92 x0 x1 (x0.list,x0.listed,x0.gone))) (.reg 2 [] [(1009,k114 x0.f x0.custom x1)] [0,27,28,29] [1027,900000,900001,900002,900003] [] [] [] [0] (lp (D92b1 m x0 x1) [] [900001] [(30006,some 900001),(900002,some 900002),(900003,some 900003)] (D92b1 m x0 x1 0 (x0.list,x0.listed,mset x0.gone (KV.i x1) true)) (A92b1 m x0 x1))))
theorem below_hok : ∀ (m : Nat) (h : heirList) (p : Int), specIsFamily h.f = true → (0 ≤ p ∧ p < h.f.people.length) → (h.f.people.length - p).toNat < m → HOk h.f h.list (mk2 h.listed) → HOk h.f (below_r m h p).1 (mk2 (below_r m h p).2.1) ∧ ∀ c, mk2 h.listed c = true → mk2 (below_r m h p).2.1 c = true := by
  intro m
  induction m with
  | zero=>intro h p _ _ hm _;exact absurd hm (Nat.not_lt_zero _)
  | succ m ih =>
    intro h p hf hp hm hh
    rw [below_r]
    refine cond_both (p:=fun (r : (List Int) × (KV → Option Bool) × (KV → Option Bool))=>HOk h.f r.1 (mk2 r.2.1) ∧ ∀ c,mk2 h.listed c = true → mk2 r.2.1 c = true) (fun _=>⟨hh,fun _ h=>h⟩) (fun _=>?_)
    refine loopN_to (fun i (v : (List Int) × (KV → Option Bool) × (KV → Option Bool))=>HOk h.f v.1 (mk2 v.2.1) ∧ ∀ c,mk2 h.listed c = true → mk2 v.2.1 c = true) (fun (r : (List Int) × (KV → Option Bool) × (KV → Option Bool))=>HOk h.f r.1 (mk2 r.2.1) ∧ ∀ c,mk2 h.listed c = true → mk2 r.2.1 c = true) ⟨hh,fun _ h=>h⟩ (fun i v next hi hv hn=>?_) (fun v hv=>hv)
    have hc:=ord_at hf (x:=h.custom) hp.1 hi
    refine cond_both (p:=fun (r : (List Int) × (KV → Option Bool) × (KV → Option Bool))=>HOk h.f r.1 (mk2 r.2.1) ∧ ∀ c,mk2 h.listed c = true → mk2 r.2.1 c = true) (fun _=>hn _ hv) (fun _=>?_)
    refine jn_to (fun (j : (List Int) × (KV → Option Bool))=>HOk h.f j.1 (mk2 j.2) ∧ ∀ c,mk2 h.listed c = true → mk2 j.2 c = true) (fun (r : (List Int) × (KV → Option Bool) × (KV → Option Bool))=>HOk h.f r.1 (mk2 r.2.1) ∧ ∀ c,mk2 h.listed c = true → mk2 r.2.1 c = true) (fun K hK=>?_) (fun j hj=>?_)
    · refine cond_both (p := fun (r : (List Int) × (KV → Option Bool) × (KV → Option Bool)) => HOk h.f r.1 (mk2 r.2.1) ∧ ∀ c, mk2 h.listed c = true → mk2 r.2.1 c = true) (fun c => hK _ ?_) (fun _ => hK _ hv)
      simp only [Bool.and_eq_true,Bool.not_eq_true'] at c
      exact ⟨hv.1.snoc (by omega) c.2 (by rw [mk2_set,if_pos rfl]) (mk2_mono _ _),fun d hd=>mk2_mono _ _ d (hv.2 d hd)⟩
    · refine cond_both (p := fun (r : (List Int) × (KV → Option Bool) × (KV → Option Bool)) => HOk h.f r.1 (mk2 r.2.1) ∧ ∀ c, mk2 h.listed c = true → mk2 r.2.1 c = true) (fun c => hn _ ?_) (fun _ => hn _ hj)
      have:=ih (heirList.mk h.f h.custom h.year j.1 j.2 v.2.2) ((implOrder h.f h.custom p).getD i default) hf (by dsimp only;omega) (by dsimp only;omega) hj.1
      exact ⟨this.1,fun d hd=>this.2 d (hj.2 d hd)⟩

theorem ok_impl_heirList__below (x0 : heirList) (x1 : Int) (hf : specIsFamily x0.f = true) (hp : 0 ≤ x1 ∧ x1 < x0.f.people.length) (hl : HOk x0.f x0.list (mk2 x0.listed)) : FnMT Try.prog 92 [.vp 900000 0, .int .i64 x1] [.var [.ro false 6 x0.f.people.length (rowOf (cPerson false) x0.f.people), .ro false 4 x0.f.unions.length (rowOf (cUnion false) x0.f.unions), .int .i64 x0.custom.prefer, .bool x0.custom.youngest, .bool x0.custom.represent, .int .i64 x0.year, .own 900001, .mp 900002, .mp 900003], .arr 1 x0.list.length (rowOf (cInt .i64) x0.list), .mp (.int .i64) (.b x0.listed), .mp (.int .i64) (.b x0.gone)] (C92 x0 x1 (below x0 x1)) := by
  have all : ∀ (m : Nat) (x0 : heirList) (x1 : Int) (hf : specIsFamily x0.f = true) (hp : 0 ≤ x1 ∧ x1 < x0.f.people.length) (hl : HOk x0.f x0.list (mk2 x0.listed)) (hm : (x0.f.people.length - x1).toNat < m), FnMT Try.prog 92 [.vp 900000 0, .int .i64 x1] [.var [.ro false 6 x0.f.people.length (rowOf (cPerson false) x0.f.people), .ro false 4 x0.f.unions.length (rowOf (cUnion false) x0.f.unions), .int .i64 x0.custom.prefer, .bool x0.custom.youngest, .bool x0.custom.represent, .int .i64 x0.year, .own 900001, .mp 900002, .mp 900003], .arr 1 x0.list.length (rowOf (cInt .i64) x0.list), .mp (.int .i64) (.b x0.listed), .mp (.int .i64) (.b x0.gone)] (C92 x0 x1 (below_r m x0 x1)) := by
    intro m;induction m
    · intros;exact absurd (by assumption) (Nat.not_lt_zero _)
    rename_i m ih
    intro x0 x1 hf hp hl hm
    have aux : ∀ R, below_r (m + 1) x0 x1 = R → slim (C92 x0 x1 R) (A92 m x0 x1) [] := by
      intro R hR
      rw [below_r] at hR
      refine rg trivial ?_
      revert hR;refine cd (fun hc1 hR=>?_) fun hc1 hR=>?_
      ·
        exact congrArg (C92 x0 x1) hR
      ·
        refine rg ⟨by (with_reducible exact (fam_n hf).1),trivial⟩ ?_
        revert hR;refine lN (fun i v=>HOk x0.f v.1 (mk2 v.2.1)) (by with_reducible assumption) rfl fun i1 v1 F1 hn1 hI1 hR hK1=>?_
        refine rg trivial ?_
        refine ⟨fun hc2=>?_,fun hc2=>?_⟩
        · have hii1 : i1 < (implOrder x0.f x0.custom x1).length := by have := of_decide_eq_true hc2; omega
          replace hR:=loopN_step hR hii1
          refine rg ⟨by (intros;omega),trivial⟩ ?_
          refine rg ⟨by (have h9:=ord_at hf (x:=x0.custom) hp.1 hii1;have h8:=fam_n hf;omega),trivial⟩ ?_
          revert hR;refine cd (fun hc3 hR=>?_) fun hc3 hR=>?_
          ·
            refine rg ⟨by (have h9:=ord_len hf x0.custom x1;simp only [inR];omega),trivial⟩ ?_
            exact hK1 (v1.1,v1.2.1,v1.2.2) hii1 (by with_reducible assumption) hR
          ·
            refine rg ⟨⟨by (have h9:=fam_n hf;have h8:=hI1.len;omega),by (have h9:=ord_at hf (x:=x0.custom) hp.1 hii1;have h8:=fam_n hf;omega)⟩,trivial⟩ ?_
            revert hR;refine jN (fun v=>HOk x0.f v.1 (mk2 v.2)) (fun F101 hR hJ101=>?_) (fun j1 hR hJ1=>?_)
            ·
              refine rg trivial ?_
              revert hR;refine cd (fun hc4 hR=>?_) fun hc4 hR=>?_
              ·
                refine rg trivial ?_
                refine rg ⟨trivial,by (have h9:=fam_n hf;have h8:=hI1.len;omega),trivial⟩ ?_
                exact hJ101 ((v1.1 ++ [((implOrder x0.f x0.custom x1).getD i1 default)]),mset v1.2.1 (KV.i ((implOrder x0.f x0.custom x1).getD i1 default)) true) hR (by (have h9:=ord_at hf (x:=x0.custom) hp.1 hii1;simp only [Bool.and_eq_true,Bool.not_eq_true'] at hc4;have h8 : mk2 v1.2.1 ((implOrder x0.f x0.custom x1).getD i1 default) = false:=hc4.2;with_reducible exact hI1.snoc (by omega) h8 (by rw [mk2_set,if_pos rfl]) (mk2_mono _ _)))
              ·
                exact hJ101 (v1.1,v1.2.1) hR (by with_reducible assumption)
            ·
              refine rg trivial ?_
              revert hR;refine cd (fun hc5 hR=>?_) fun hc5 hR=>?_
              ·
                refine rg ⟨ih (heirList.mk x0.f x0.custom x0.year j1.1 j1.2 v1.2.2) ((implOrder x0.f x0.custom x1).getD i1 default) (by with_reducible assumption) (by (have h9:=ord_at hf (x:=x0.custom) hp.1 hii1;dsimp only;omega)) (by with_reducible assumption) (by (have h9:=ord_at hf (x:=x0.custom) hp.1 hii1;dsimp only;omega)),trivial⟩ ?_
                refine rg ⟨by (have h9:=ord_len hf x0.custom x1;simp only [inR];omega),trivial⟩ ?_
                exact hK1 ((below_r m (heirList.mk x0.f x0.custom x0.year j1.1 j1.2 v1.2.2) ((implOrder x0.f x0.custom x1).getD i1 default)).1,(below_r m (heirList.mk x0.f x0.custom x0.year j1.1 j1.2 v1.2.2) ((implOrder x0.f x0.custom x1).getD i1 default)).2.1,(below_r m (heirList.mk x0.f x0.custom x0.year j1.1 j1.2 v1.2.2) ((implOrder x0.f x0.custom x1).getD i1 default)).2.2) hii1 (by (have h9:=ord_at hf (x:=x0.custom) hp.1 hii1;with_reducible exact (below_hok m (heirList.mk x0.f x0.custom x0.year j1.1 j1.2 v1.2.2) ((implOrder x0.f x0.custom x1).getD i1 default) hf (by dsimp only;omega) (by dsimp only;omega) hJ1).1)) hR
              ·
                refine rg ⟨by (have h9:=ord_len hf x0.custom x1;simp only [inR];omega),trivial⟩ ?_
                exact hK1 (j1.1,j1.2,v1.2.2) hii1 (by with_reducible assumption) hR
        · obtain rfl : i1 = (implOrder x0.f x0.custom x1).length := by have := of_decide_eq_false hc2; omega
          replace hR:=loopN_end hR (Nat.lt_irrefl _)
          exact congrArg (C92 x0 x1) hR
    exact FnM.go 94 Try.func92 (by kernel_rfl) (by kernel_rfl) (A92 m x0 x1) (by kernel_rfl) (aux _ rfl)
  exact all 100 x0 x1 hf hp hl (by have h:=fam_n hf;omega)
def k92 (d : Nat) (ids : List Nat) (x0 : heirList) (x1 : Int) : Cl:=(hresM d ids (C92 x0 x1 (below x0 x1)),k3 (ok_impl_heirList__below x0 x1))
def C91 (R : Int) : LV × List (Nat × BC):=(.int .i64 R,[])
def wayUp (x0 : Family) (x1 : Custom) (x2 : Int) : Int:=bif (decide (x1.prefer = 3)) then ((x0.people.getD x2.toNat default).father) else (bif (decide (x1.prefer = 4)) then ((x0.people.getD x2.toNat default).mother) else (bif (decide (0 ≤ ((x0.people.getD x2.toNat default).father))) then ((x0.people.getD x2.toNat default).father) else ((x0.people.getD x2.toNat default).mother)))
def A91 (x0 : Family) (x1 : Custom) (x2 : Int) : Ann:=r0 1 [2,3,4,6] [3,4] (r0 1 [2,3,6,8] [3] (r0 1 [2,3,6,8,9] [3] (cn (decide (x1.prefer = 3)) (r1 1 [2,3,6] [3] [pf (0 ≤ (x2 : Int) ∧ (x2 : Int) < ((x0.people.length : Nat) : Int))] [0] (rt [] (C91 ((x0.people.getD x2.toNat default).father)))) (r0 1 [2,3,6,17] [3] (cn (decide (x1.prefer = 4)) (r1 1 [2,3,6] [3] [pf (0 ≤ (x2 : Int) ∧ (x2 : Int) < ((x0.people.length : Nat) : Int))] [0] (rt [] (C91 ((x0.people.getD x2.toNat default).mother)))) (r1 1 [2,3,6,31] [3] [pf (0 ≤ (x2 : Int) ∧ (x2 : Int) < ((x0.people.length : Nat) : Int))] [0] (cn (decide (0 ≤ ((x0.people.getD x2.toNat default).father))) (r1 1 [2,3,6] [3] [pf (0 ≤ (x2 : Int) ∧ (x2 : Int) < ((x0.people.length : Nat) : Int))] [0] (rt [] (C91 ((x0.people.getD x2.toNat default).father)))) (r1 1 [6] [] [pf (0 ≤ (x2 : Int) ∧ (x2 : Int) < ((x0.people.length : Nat) : Int))] [0] (rt [] (C91 ((x0.people.getD x2.toNat default).mother)))))))))))
theorem ok_impl_wayUp (x0 : Family) (x1 : Custom) (x2 : Int) (hx : x0.people.length ≤ 1048576) (h1 : 0 ≤ x2 ∧ x2 < x0.people.length) : FnT Try.prog 91 [.agg (cFamily false x0), .agg (cCustom false x1), .int .i64 x2] (C91 (wayUp x0 x1 x2)) := by
  have aux : ∀ R, wayUp x0 x1 x2 = R → slim (C91 R) (A91 x0 x1 x2) [] := by
    intro R hR
    refine rg trivial ?_
    refine rg trivial ?_
    refine rg trivial ?_
    revert hR;refine cd (fun hc1 hR=>?_) fun hc1 hR=>?_
    ·
      refine rg ⟨by trivial,trivial⟩ ?_
      exact congrArg C91 hR
    ·
      refine rg trivial ?_
      revert hR;refine cd (fun hc2 hR=>?_) fun hc2 hR=>?_
      ·
        refine rg ⟨by trivial,trivial⟩ ?_
        exact congrArg C91 hR
      ·
        refine rg ⟨by trivial,trivial⟩ ?_
        revert hR;refine cd (fun hc3 hR=>?_) fun hc3 hR=>?_
        ·
          refine rg ⟨by trivial,trivial⟩ ?_
          exact congrArg C91 hR
        ·
          refine rg ⟨by trivial,trivial⟩ ?_
          exact congrArg C91 hR
  exact Fn.go 44 Try.func91 (by kernel_rfl) (by kernel_rfl) (by simp [C91,Frs,FrsL]) (A91 x0 x1 x2) (by kernel_rfl) (aux _ rfl)
def k91 (x0 : Family) (x1 : Custom) (x2 : Int) : Cl:=(hres (C91 (wayUp x0 x1 x2)),k2 (ok_impl_wayUp x0 x1 x2))
def l10Next (x0 : Family) (x1 : Custom) (x2 : Int) : Int:=bif ((decide (x1.prefer = 4)) || ((decide (((x0.people.getD x2.toNat default).father) < 0)) && (!decide (x1.prefer = 3)))) then ((x0.people.getD x2.toNat default).mother) else ((x0.people.getD x2.toNat default).father)
def l10Below_r : Nat → Family → Custom → Int → Int → (List Bool) → (List Int) → (List Int) × (List Bool)
  | 0,_,_,_,_,_,_=>default
  | m + 1,x0,x1,x2,x3,x4,x5=>loopN (fun i1 (v1 : (List Bool) × (List Int)) nx1=>bif (decide (x3 < ((x0.people.getD (((l10Children x0 x1 x2).getD i1 default).toNat) default).born))) then (nx1 (v1.1,v1.2)) else (jn (fun K1=>bif ((l1Alive x0 ((l10Children x0 x1 x2).getD i1 default) x3) && (!(v1.1.getD (((l10Children x0 x1 x2).getD i1 default).toNat) default))) then (K1 ((v1.1.set (((l10Children x0 x1 x2).getD i1 default).toNat) true),(v1.2 ++ [((l10Children x0 x1 x2).getD i1 default)]))) else (K1 (v1.1,v1.2))) (fun (j1 : (List Bool) × (List Int))=>bif ((l1Alive x0 ((l10Children x0 x1 x2).getD i1 default) x3) || x1.represent) then (nx1 ((l10Below_r m x0 x1 ((l10Children x0 x1 x2).getD i1 default) x3 j1.1 j1.2).2,(l10Below_r m x0 x1 ((l10Children x0 x1 x2).getD i1 default) x3 j1.1 j1.2).1)) else (nx1 (j1.1,j1.2))))) (fun (v1 : (List Bool) × (List Int))=>(v1.2,v1.1)) ((l10Children x0 x1 x2).length) 0 (x4,x5)
def l10Below (x0 : Family) (x1 : Custom) (x2 : Int) (x3 : Int) (x4 : List Bool) (x5 : List Int) : (List Int) × (List Bool):=l10Below_r 100 x0 x1 x2 x3 x4 x5
theorem l10Below_hok : ∀ (m : Nat) (f : Family) (x : Custom) (p y : Int) (s : List Bool) (o : List Int), specIsFamily f = true → (0 ≤ p ∧ p < f.people.length) → (f.people.length - p).toNat < m → s.length = f.people.length → HOk f o (mk1 s) → (l10Below_r m f x p y s o).2.length = s.length ∧ HOk f (l10Below_r m f x p y s o).1 (mk1 (l10Below_r m f x p y s o).2) ∧ ∀ c, mk1 s c = true → mk1 (l10Below_r m f x p y s o).2 c = true := by
  intro m
  induction m with
  | zero=>intro f x p y s o _ _ hm;exact absurd hm (Nat.not_lt_zero _)
  | succ m ih =>
    intro f x p y s o hf hp hm hs hh
    rw [l10Below_r]
    refine loopN_to (fun i (v : (List Bool) × (List Int))=>v.1.length = s.length ∧ HOk f v.2 (mk1 v.1) ∧ ∀ c,mk1 s c = true → mk1 v.1 c = true) (fun (r : (List Int) × (List Bool))=>r.2.length = s.length ∧ HOk f r.1 (mk1 r.2) ∧ ∀ c,mk1 s c = true → mk1 r.2 c = true) ⟨rfl,hh,fun _ h=>h⟩ (fun i v next hi hv hn=>?_) (fun v hv=>hv)
    have hc:=l10_at hf (x:=x) hp.1 hi
    refine cond_both (p:=fun (r : (List Int) × (List Bool))=>r.2.length = s.length ∧ HOk f r.1 (mk1 r.2) ∧ ∀ c,mk1 s c = true → mk1 r.2 c = true) (fun _=>hn _ hv) (fun _=>?_)
    refine jn_to (fun (j : (List Bool) × (List Int))=>j.1.length = s.length ∧ HOk f j.2 (mk1 j.1) ∧ ∀ c,mk1 s c = true → mk1 j.1 c = true) (fun (r : (List Int) × (List Bool))=>r.2.length = s.length ∧ HOk f r.1 (mk1 r.2) ∧ ∀ c,mk1 s c = true → mk1 r.2 c = true) (fun K hK=>?_) (fun j hj=>?_)
    · refine cond_both (p := fun (r : (List Int) × (List Bool)) => r.2.length = s.length ∧ HOk f r.1 (mk1 r.2) ∧ ∀ c, mk1 s c = true → mk1 r.2 c = true) (fun c => hK _ ?_) (fun _ => hK _ hv)
      simp only [Bool.and_eq_true,Bool.not_eq_true'] at c
      refine ⟨by simp only [List.length_set];exact hv.1,hv.2.1.snoc (by omega) c.2 ?_ (mk1_mono _ _),fun d hd=>mk1_mono _ _ d (hv.2.2 d hd)⟩
      rw [mk1_set _ _ (by have:=hv.1;omega) (by omega),if_pos rfl]
    · refine cond_both (p := fun (r : (List Int) × (List Bool)) => r.2.length = s.length ∧ HOk f r.1 (mk1 r.2) ∧ ∀ c, mk1 s c = true → mk1 r.2 c = true) (fun c => hn _ ?_) (fun _ => hn _ hj)
      have:=ih f x ((l10Children f x p).getD i default) y j.1 j.2 hf (by omega) (by omega) (hj.1.trans hs) hj.2.1
      exact ⟨this.1.trans hj.1,this.2.1,fun d hd=>this.2.2 d (hj.2.2 d hd)⟩

end Go.Proofs.Ytikfeeaapenplaa
