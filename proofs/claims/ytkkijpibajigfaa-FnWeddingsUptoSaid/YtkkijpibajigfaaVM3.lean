import Derived.Test.YtkkijpibajigfaaVM1
set_option maxHeartbeats 4000000
set_option linter.unusedSimpArgs false
set_option linter.unusedVariables false
namespace Go.Proofs.Ytkkijpibajigfaa
open Go Go.Lite Go.Proofs
def l2Blank (x0 : Int) : (List (List Bool)):=loopN (fun i1 (v1 : (List (List Bool))) next=>next (v1 ++ [(List.replicate x0.toNat (default : Bool))])) (fun (v1 : (List (List Bool)))=>v1) x0.toNat 0 ([] : List (List Bool))
theorem blank_val (x : Int) : l2Blank x = List.replicate x.toNat (List.replicate x.toNat false) := by
  unfold l2Blank
  exact loopN_to (fun i (o : List (List Bool))=>o = List.replicate i (List.replicate x.toNat false)) (fun r=>r = List.replicate x.toNat (List.replicate x.toNat false)) rfl (fun i v next hi hv hn=>hn _ (by rw [hv,List.replicate_succ'];rfl)) (fun v hv=>hv)
/-! ### Who may wed whom -/
def canI (x : Family) (l : Law) (y : Int) (a b : Nat) : Bool:=((decide (((x.people.getD a default).sex) = 1)) && (decide (((x.people.getD b default).sex) = 2))) && (decide ((((impediments x l ((a : Nat) : Int) ((b : Nat) : Int) y).length : Nat) : Int) = 0))
/-- The first of k that go with a. -/
def rowTo (c : Nat → Nat → Bool) (a k : Nat) : List Int:=((List.range k).filter (c a)).map fun b=>((b : Nat) : Int)
theorem rowTo_succ (c : Nat → Nat → Bool) (a k : Nat) : rowTo c a (k + 1) = rowTo c a k ++ (bif c a k then [((k : Nat) : Int)] else []) := by
  unfold rowTo
  rw [List.range_succ,List.filter_append,List.map_append]
  cases h : c a k <;> simp [h]
theorem rowTo_len (c : Nat → Nat → Bool) (a k : Nat) : (rowTo c a k).length ≤ k := by
  unfold rowTo
  rw [List.length_map]
  exact Nat.le_trans (List.length_filter_le _ _) (by simp)
theorem rowTo_mem {c : Nat → Nat → Bool} {a k : Nat} {b : Int} (h : b ∈ rowTo c a k) : 0 ≤ b ∧ b < k := by
  unfold rowTo at h
  obtain ⟨z,hz,e⟩:=List.mem_map.1 h
  have:=List.mem_range.1 (List.mem_filter.1 hz).1
  omega
structure MayI (c : Nat → Nat → Bool) (n i j : Nat) (v : List (List Int)) : Prop where
  len : v.length = n
  row : ∀ a : Nat,a < n → v.getD a [] = if a < i then rowTo c a n else if a = i then rowTo c a j else []
theorem MayI.start (c : Nat → Nat → Bool) (n : Nat) : MayI c n 0 0 (List.replicate n []) := ⟨by simp, fun a ha => by
  rw [if_neg (Nat.not_lt_zero _),List.getD_eq_getElem?_getD,List.getElem?_replicate,if_pos ha]
  split <;> rfl⟩
theorem MayI.put {c : Nat → Nat → Bool} {n i j : Nat} {v : List (List Int)} (h : MayI c n i j v) (hi : i < n) (hc : c i j = true) : MayI c n i (j + 1) (v.set i (v.getD i [] ++ [((j : Nat) : Int)])) :=
  ⟨by rw [List.length_set]; exact h.len, fun a ha => by
    have hr:=h.row a ha
    rw [getD_set]
    split
    · rename_i e
      obtain ⟨rfl,_⟩:=e
      rw [hr,if_neg (Nat.lt_irrefl _),if_pos rfl,if_neg (Nat.lt_irrefl _),if_pos rfl,rowTo_succ,hc];rfl
    · rename_i e
      have hne : ¬ a = i:=fun q=>e ⟨q,by have:=h.len;omega⟩
      rw [hr,if_neg hne,if_neg hne]⟩
theorem MayI.skip {c : Nat → Nat → Bool} {n i j : Nat} {v : List (List Int)} (h : MayI c n i j v) (hc : c i j = false) : MayI c n i (j + 1) v :=
  ⟨h.len, fun a ha => by
    rw [h.row a ha]
    by_cases e : a = i
    · subst e
      rw [if_neg (Nat.lt_irrefl _),if_pos rfl,if_neg (Nat.lt_irrefl _),if_pos rfl,rowTo_succ,hc];simp
    · rw [if_neg e,if_neg e]⟩
theorem MayI.next {c : Nat → Nat → Bool} {n i : Nat} {v : List (List Int)} (h : MayI c n i n v) : MayI c n (i + 1) 0 v :=
  ⟨h.len, fun a ha => by
    rw [h.row a ha]
    by_cases e : a < i
    · rw [if_pos e,if_pos (by omega)]
    · by_cases e2 : a = i
      · rw [if_neg e,if_pos e2,if_pos (by omega)]
      · rw [if_neg e,if_neg e2,if_neg (by omega)]
        by_cases e3 : a = i + 1
        · rw [if_pos e3];rfl
        · rw [if_neg e3]⟩
theorem MayI.rowL {c : Nat → Nat → Bool} {n i j : Nat} {v : List (List Int)} (h : MayI c n i j v) (hi : i < n) : (v.getD i []).length ≤ j := by
  rw [h.row i hi,if_neg (Nat.lt_irrefl _),if_pos rfl]
  exact rowTo_len _ _ _
theorem MayI.all {c : Nat → Nat → Bool} {n : Nat} {v : List (List Int)} (h : MayI c n n 0 v) {a : Nat} (ha : a < n) : v.getD a [] = rowTo c a n:=by rw [h.row a ha,if_pos ha]
theorem MayI.bd {c : Nat → Nat → Bool} {n : Nat} {v : List (List Int)} (h : MayI c n n 0 v) : ∀ y ∈ v, y.length ≤ n ∧ ∀ b ∈ y, 0 ≤ b ∧ b < n := fun y hy => by
  obtain ⟨a,ha,e⟩:=mem_getD (d:=([] : List Int)) hy
  rw [h.len] at ha
  rw [← e,h.all ha]
  exact ⟨rowTo_len _ _ _,fun b hb=>rowTo_mem hb⟩
theorem MayI.wed {c : Nat → Nat → Bool} {n : Nat} {v : List (List Int)} (h : MayI c n n 0 v) (hn : n ≤ 40) {hus : List Int} (hh : hus.length = n ∧ ∀ y ∈ hus, -1 ≤ y ∧ y < n) {a : Nat} (ha : a < n) : WedOk v hus ((a : Nat) : Int) (List.replicate n (default : Bool)) := by
  have e : (List.replicate n (default : Bool)).length = n:=by simp
  exact ⟨by rw [e];exact hn,by rw [e];exact h.len,by rw [e];exact fun y hy=>⟨Nat.le_trans (h.bd y hy).1 hn,(h.bd y hy).2⟩,by rw [e];exact hh.1,by rw [e];exact hh.2,by rw [e];omega⟩
/-- The same as a table. -/
structure MatI (c : Nat → Nat → Bool) (n i j : Nat) (v : List (List Bool)) : Prop where
  len : v.length = n
  rowl : ∀ a : Nat,a < n → (v.getD a []).length = n
  cell : ∀ a b : Nat,a < n → b < n → (v.getD a []).getD b default = if a < i ∨ (a = i ∧ b < j) then c a b else false
theorem MatI.put {c : Nat → Nat → Bool} {n i j : Nat} {v : List (List Bool)} (h : MatI c n i j v) (hi : i < n) : MatI c n i (j + 1) (v.set i ((v.getD i []).set j (c i j))) := by
  have hl:=h.len
  refine ⟨by rw [List.length_set];exact hl,fun a ha=>?_,fun a b ha hb=>?_⟩
  · rw [getD_set]
    split
    · rw [List.length_set];exact h.rowl i hi
    · exact h.rowl a ha
  · rw [getD_set]
    split
    · rename_i e
      obtain ⟨rfl,_⟩:=e
      rw [getD_set]
      split
      · rename_i e2
        rw [if_pos (.inr ⟨rfl,by omega⟩),e2.1]
      · rename_i e2
        have hne : ¬ b = j:=fun q=>e2 ⟨q,by have:=h.rowl a ha;omega⟩
        rw [h.cell a b ha hb]
        by_cases q : b < j
        · rw [if_pos (.inr ⟨rfl,q⟩),if_pos (.inr ⟨rfl,by omega⟩)]
        · rw [if_neg (by omega),if_neg (by omega)]
    · rename_i e
      have hne : ¬ a = i:=fun q=>e ⟨q,by omega⟩
      rw [h.cell a b ha hb]
      by_cases q : a < i
      · rw [if_pos (.inl q),if_pos (.inl q)]
      · rw [if_neg (by omega),if_neg (by omega)]
theorem MatI.next {c : Nat → Nat → Bool} {n i : Nat} {v : List (List Bool)} (h : MatI c n i n v) : MatI c n (i + 1) 0 v :=
  ⟨h.len, h.rowl, fun a b ha hb => by
    rw [h.cell a b ha hb]
    by_cases q : a < i ∨ a = i
    · rw [if_pos (by omega),if_pos (by omega)]
    · rw [if_neg (by omega),if_neg (by omega)]⟩
theorem minus_set {n i : Nat} {h : List Int} (hl : h.length = n ∧ ∀ k : Nat, k < i → h.getD k default = -1) (hi : i < n) : (h.set i (-1)).length = n ∧ ∀ k : Nat, k < i + 1 → (h.set i (-1)).getD k default = -1 :=
  ⟨by rw [List.length_set]; exact hl.1, fun k hk => by
    rw [getD_set]
    split
    · rfl
    · rename_i e;exact hl.2 k (by omega)⟩
theorem minus_rep {n : Nat} {h : List Int} (hl : h.length = n ∧ ∀ k : Nat, k < n → h.getD k default = -1) : h = List.replicate n (-1) := by
  apply List.ext_getElem
  · simp [hl.1]
  · intro k h1 h2
    have:=hl.2 k (by omega)
    rw [List.getD_eq_getElem?_getD,List.getElem?_eq_getElem h1] at this
    simpa using this
theorem minus_ok (n : Nat) : (List.replicate n (-1 : Int)).length = n ∧ ∀ y ∈ List.replicate n (-1 : Int), -1 ≤ y ∧ y < n := ⟨by simp, fun y hy => by
  have:=List.eq_of_mem_replicate hy
  omega⟩
theorem wed_out {v : List (List Int)} {hus : List Int} {a : Int} {n : Nat} (h : WedOk v hus a (List.replicate n (default : Bool))) : (wed v hus a (List.replicate n (default : Bool))).2.1.length = n ∧ ∀ y ∈ (wed v hus a (List.replicate n (default : Bool))).2.1, -1 ≤ y ∧ y < n := by
  have w:=wed_ok 100 v hus a _ h h.fuel
  rw [List.length_replicate] at w
  exact ⟨w.hl,w.hin⟩
theorem MatI.start (c : Nat → Nat → Bool) (n : Nat) : MatI c n 0 0 (l2Blank ((n : Nat) : Int)) := by
  rw [blank_val,Int.toNat_natCast]
  have e : ∀ a : Nat, a < n → (List.replicate n (List.replicate n false)).getD a [] = List.replicate n false := fun a ha => by
    rw [List.getD_eq_getElem?_getD,List.getElem?_replicate,if_pos ha];rfl
  refine ⟨by simp,fun a ha=>by rw [e a ha];simp,fun a b ha hb=>?_⟩
  rw [e a ha,if_neg (by omega),List.getD_eq_getElem?_getD,List.getElem?_replicate,if_pos hb];rfl
theorem blank_len (n : Nat) : (l2Blank ((n : Nat) : Int)).length = n:=by rw [blank_val];simp
theorem MatI.blk {c : Nat → Nat → Bool} {n : Nat} {v : List (List Bool)} (h : MatI c n (l2Blank ((n : Nat) : Int)).length 0 v) : MatI c n n 0 v:=by rw [blank_len] at h;exact h
theorem au_pre2 {x : Family} {l : Law} (h : ((!(implIsFamily x)) || (!(implIsLaw l))) = false) : specIsFamily x = true ∧ specIsLaw l = true ∧ 0 ≤ l.age ∧ l.age ≤ 99 := by
  rw [or_f_iff,not_f_iff,not_f_iff,isFamily_eq,isLaw_eq] at h
  exact ⟨h.1,h.2,specIsLaw_age h.2⟩

def C13 (R : Int) : LV × List (Nat × BC):=(.int .i64 R,[])
def implMost (x0 : Family) (x1 : Law) (x2 : Int) : Int:=bif ((!(implIsFamily x0)) || (!(implIsLaw x1))) then 0 else (loopN (fun i1 (v1 : (List (List Int))) nx1=>loopN (fun i2 (v2 : (List (List Int))) next=>bif (((decide (((x0.people.getD i1 default).sex) = 1)) && (decide (((x0.people.getD i2 default).sex) = 2))) && (decide ((((impediments x0 x1 ((i1 : Nat) : Int) ((i2 : Nat) : Int) x2).length : Nat) : Int) = 0))) then (next (v2.set i1 ((v2.getD i1 []) ++ [((i2 : Nat) : Int)]))) else (next v2)) (fun (v2 : (List (List Int)))=>nx1 v2) x0.people.length 0 v1) (fun (v1 : (List (List Int)))=>loopN (fun i3 (v3 : (List Int)) next=>next (v3.set i3 (-1))) (fun (v3 : (List Int))=>loopN (fun i4 (v4 : (List Int) × Int) next=>bif ((wed v1 v4.1 ((i4 : Nat) : Int) (List.replicate x0.people.length (default : Bool))).1) then (next ((wed v1 v4.1 ((i4 : Nat) : Int) (List.replicate x0.people.length (default : Bool))).2.1,v4.2 + 1)) else (next ((wed v1 v4.1 ((i4 : Nat) : Int) (List.replicate x0.people.length (default : Bool))).2.1,v4.2))) (fun (v4 : (List Int) × Int)=>v4.2) x0.people.length 0 (v3,0)) x0.people.length 0 (List.replicate x0.people.length (default : Int))) x0.people.length 0 (List.replicate x0.people.length ([] : List Int)))
def D13b1 (x0 : Family) (x1 : Law) (x2 : Int) (i1 : Nat) (v1 : (List (List Int))) : Dl:=⟨[(29,.int .i64 ((i1 : Nat) : Int)),(8,.own 20008)],[(20008,.nest true 1 v1.length (nrOf (cInt .i64) v1))]⟩
def D13b2 (x0 : Family) (x1 : Law) (x2 : Int) (i1 : Nat) (v1 : (List (List Int))) (i2 : Nat) (v2 : (List (List Int))) : Dl:=⟨[(33,.int .i64 ((i2 : Nat) : Int)),(8,.own 30008)],[(30008,.nest true 1 v2.length (nrOf (cInt .i64) v2))]⟩
def A13b2 (x0 : Family) (x1 : Law) (x2 : Int) (i1 : Nat) (v1 : (List (List Int))) (i2 : Nat) (v2 : (List (List Int))) : Ann:=r0 1 [2,3,4,6,7,8,9,28,29,32,33,34] [3,4,30008] (cn (decide (((i2 : Nat) : Int) < ((x0.people.length : Nat) : Int))) (.reg 2 [] [(1022,cg ((decide (((x0.people.getD i1 default).sex) = 1)) && (decide (((x0.people.getD i2 default).sex) = 2))) (k51 x0 x1 ((i1 : Nat) : Int) ((i2 : Nat) : Int) x2))] [2,3,4,6,7,8,9,10,28,29,32,33,61] [3,4,30008] [decide (((x0.people.getD i1 default).sex) = 1),(decide (((x0.people.getD i1 default).sex) = 1)) && (decide (((x0.people.getD i2 default).sex) = 2))] [pf (0 ≤ (((i1 : Nat) : Int) : Int) ∧ (((i1 : Nat) : Int) : Int) < ((x0.people.length : Nat) : Int)),gt (decide (((x0.people.getD i1 default).sex) = 1)) (pf (0 ≤ (((i2 : Nat) : Int) : Int) ∧ (((i2 : Nat) : Int) : Int) < ((x0.people.length : Nat) : Int)))] [] [0,1,1,1,4,1,1,1,1,5,5,5,5,5,8,5,5,5] (cn (((decide (((x0.people.getD i1 default).sex) = 1)) && (decide (((x0.people.getD i2 default).sex) = 2))) && (decide ((((impediments x0 x1 ((i1 : Nat) : Int) ((i2 : Nat) : Int) x2).length : Nat) : Int) = 0))) (.reg 1 [] [(5,nTk (cInt .i64) v2 i1 67),(7,bsC 69 (cInt .i64) ([((i2 : Nat) : Int)] : List Int)),(8,ap1 70 (cInt .i64) 8 (v2.getD i1 []) ((i2 : Nat) : Int)),(10,nSt (cInt .i64) v2 ((v2.getD i1 []) ++ [((i2 : Nat) : Int)]) i1 67)] [2,3,4,6,7,8,9,28,29,32,33] [3,4,30008] [] [pf (0 ≤ (((i1 : Nat) : Int) : Int) ∧ (((i1 : Nat) : Int) : Int) < ((v2.length : Nat) : Int))] [] [0,4,8,12,0,16] (r1 1 [2,3,4,6,7,8,9,28,29,32,33] [3,4,30008] [pf (inR .i64 (((i2 : Nat) : Int) + 1))] [0] (.next 0 [(30008,some 30008)] (D13b2 x0 x1 x2 i1 v1 (i2 + 1) (v2.set i1 ((v2.getD i1 []) ++ [((i2 : Nat) : Int)])))))) (r1 1 [2,3,4,6,7,8,9,28,29,32,33] [3,4,30008] [pf (inR .i64 (((i2 : Nat) : Int) + 1))] [0] (.next 0 [(30008,some 30008)] (D13b2 x0 x1 x2 i1 v1 (i2 + 1) v2))))) (r1 1 [2,3,4,6,7,8,28,29] [3,4,30008] [pf (inR .i64 (((i1 : Nat) : Int) + 1))] [0] (.next 1 [(20008,some 30008)] (D13b1 x0 x1 x2 (i1 + 1) v2))))
def D13b3 (x0 : Family) (x1 : Law) (x2 : Int) (i1 : Nat) (v1 : (List (List Int))) (i3 : Nat) (v3 : (List Int)) : Dl:=⟨[(78,.int .i64 ((i3 : Nat) : Int)),(11,.own 20011)],[(20011,.arr 1 x0.people.length (rowOf (cInt .i64) v3))]⟩
def D13b4 (x0 : Family) (x1 : Law) (x2 : Int) (i1 : Nat) (v1 : (List (List Int))) (i3 : Nat) (v3 : (List Int)) (i4 : Nat) (v4 : (List Int) × Int) : Dl:=⟨[(86,.int .i64 ((i4 : Nat) : Int)),(11,.own 30011),(13,.int .i64 v4.2)],[(30011,.arr 1 v4.1.length (rowOf (cInt .i64) v4.1))]⟩
def A13b4 (x0 : Family) (x1 : Law) (x2 : Int) (i1 : Nat) (v1 : (List (List Int))) (i3 : Nat) (v3 : (List Int)) (i4 : Nat) (v4 : (List Int) × Int) : Ann:=r0 1 [6,7,8,11,13,85,86,87] [30011] (cn (decide (((i4 : Nat) : Int) < ((x0.people.length : Nat) : Int))) (.reg 2 [] [(1004,msL 93 (cBool) 1 ((x0.people.length : Nat) : Int) ((x0.people.length : Nat) : Int) x0.people.length (default : Bool) (rfl)),(1005,k52 94 [30011,93] v1 v4.1 ((i4 : Nat) : Int) (List.replicate x0.people.length (default : Bool)))] [6,7,8,11,13,85,86,94] [30011] [] [] [] [0,4] (cn ((wed v1 v4.1 ((i4 : Nat) : Int) (List.replicate x0.people.length (default : Bool))).1) (r1 1 [6,7,8,11,13,85,86] [30011] [pf (inR .i64 (v4.2 + 1))] [0] (r1 1 [6,7,8,11,13,85,86] [30011] [pf (inR .i64 (((i4 : Nat) : Int) + 1))] [0] (.next 0 [(30011,some 30011)] (D13b4 x0 x1 x2 i1 v1 i3 v3 (i4 + 1) ((wed v1 v4.1 ((i4 : Nat) : Int) (List.replicate x0.people.length (default : Bool))).2.1,v4.2 + 1))))) (r1 1 [6,7,8,11,13,85,86] [30011] [pf (inR .i64 (((i4 : Nat) : Int) + 1))] [0] (.next 0 [(30011,some 30011)] (D13b4 x0 x1 x2 i1 v1 i3 v3 (i4 + 1) ((wed v1 v4.1 ((i4 : Nat) : Int) (List.replicate x0.people.length (default : Bool))).2.1,v4.2)))))) (r0 1 [6] [] (rt [] (C13 v4.2))))
def A13b3 (x0 : Family) (x1 : Law) (x2 : Int) (i1 : Nat) (v1 : (List (List Int))) (i3 : Nat) (v3 : (List Int)) : Ann:=r0 1 [6,7,8,11,77,78,79] [20011] (cn (decide (((i3 : Nat) : Int) < ((x0.people.length : Nat) : Int))) (r0 1 [6,7,8,11,12,77,78] [20011] (.reg 1 [] [(3,stC 20011 (cInt .i64) x0.people.length v3 i3 (-1))] [6,7,8,11,77,78] [20011] [] [pf (0 ≤ (((i3 : Nat) : Int) : Int) ∧ (((i3 : Nat) : Int) : Int) < ((x0.people.length : Nat) : Int))] [] [0,4] (r1 1 [6,7,8,11,77,78] [20011] [pf (inR .i64 (((i3 : Nat) : Int) + 1))] [0] (.next 0 [(20011,some 20011)] (D13b3 x0 x1 x2 i1 v1 (i3 + 1) (v3.set i3 (-1))))))) (r0 1 [6,7,8,11,13] [20011] (r0 1 [6,7,8,11,13,85,86] [20011] (.co false 20011 v3.length (rowOf (cInt .i64) v3) [lnP (rowOf (cInt .i64) v3) x0.people.length v3.length] [] 0 (lp (D13b4 x0 x1 x2 i1 v1 i3 v3) [] [20011] [(30011,some 20011)] (D13b4 x0 x1 x2 i1 v1 i3 v3 0 (v3,0)) (A13b4 x0 x1 x2 i1 v1 i3 v3))))))
def A13b1 (x0 : Family) (x1 : Law) (x2 : Int) (i1 : Nat) (v1 : (List (List Int))) : Ann:=r0 1 [2,3,4,6,7,8,28,29,30] [3,4,20008] (cn (decide (((i1 : Nat) : Int) < ((x0.people.length : Nat) : Int))) (r0 2 [2,3,4,6,7,8,9,28,29,32,33] [3,4,20008] (lp (D13b2 x0 x1 x2 i1 v1) [] [20008] [(30008,some 20008)] (D13b2 x0 x1 x2 i1 v1 0 v1) (A13b2 x0 x1 x2 i1 v1))) (.reg 1 [] [(1,msC 75 (cInt .i64) 8 ((x0.people.length : Nat) : Int) ((x0.people.length : Nat) : Int) x0.people.length (default : Int) (rfl))] [6,7,8,11] [75,20008] [] [] [] [0] (r0 1 [6,7,8,11,77,78] [75,20008] (.fits [] [20008] [] ⟨[(8,.ro true 1 v1.length (rowOf (cSl true 1 (cInt .i64)) v1))],[]⟩ (lp (D13b3 x0 x1 x2 i1 v1) [] [75] [(20011,some 75)] (D13b3 x0 x1 x2 i1 v1 0 (List.replicate x0.people.length (default : Int))) (A13b3 x0 x1 x2 i1 v1))))))
def A13 (x0 : Family) (x1 : Law) (x2 : Int) : Ann:=r0 1 [2,3,4,6] [3,4] (.reg 1 [] [(1,k49 x0),(5,cg (!(!(implIsFamily x0))) (k50 x1))] [2,3,4,6,22] [3,4] [!(!(implIsFamily x0)),!(implIsFamily x0)] [] [] [0,1,4,1,6] (cn ((!(implIsFamily x0)) || (!(implIsLaw x1))) (r0 1 [2,3,4,6] [3,4] (rt [] (C13 0))) (.reg 2 [] [(1001,nMk (cInt .i64) 1 24 ((x0.people.length : Nat) : Int) ((x0.people.length : Nat) : Int) x0.people.length rfl)] [2,3,4,6,7,8] [3,4,27] [] [] [] [0] (r0 1 [2,3,4,6,7,8,28,29] [3,4,27] (lp (D13b1 x0 x1 x2) [] [27] [(20008,some 27)] (D13b1 x0 x1 x2 0 (List.replicate x0.people.length ([] : List Int))) (A13b1 x0 x1 x2))))))
theorem ok_impl_MostWeddings (x0 : Family) (x1 : Law) (x2 : Int) (hx : x0.people.length ≤ 1048576) (hu : x0.unions.length ≤ 1048576) (hn : ∀ p ∈ x0.people, p.name.length ≤ 1048576) : FnT Try.prog 13 [.agg (cFamily false x0), .agg (cLaw false x1), .int .i64 x2] (C13 (implMost x0 x1 x2)) := by
  have aux : ∀ R, implMost x0 x1 x2 = R → slim (C13 R) (A13 x0 x1 x2) [] := by
    intro R hR
    refine rg trivial ?_
    refine rg ⟨⟨by with_reducible assumption,by with_reducible assumption,by with_reducible assumption⟩,fun hg0=>trivial,trivial⟩ ?_
    revert hR;refine cd (fun hc1 hR=>?_) fun hc1 hR=>?_
    ·
      refine rg trivial ?_
      exact congrArg C13 hR
    ·
      refine rg ⟨by (intros;omega),trivial⟩ ?_
      refine rg trivial ?_
      revert hR;refine lN (fun i v=>MayI (canI x0 x1 x2) x0.people.length i 0 v) (by (exact MayI.start _ _)) rfl fun i1 v1 F1 hn1 hI1 hR hK1=>?_
      refine rg trivial ?_
      refine ⟨fun hc2=>?_,fun hc2=>?_⟩
      · have hii1 : i1 < x0.people.length:=by have:=of_decide_eq_true hc2;omega
        replace hR:=loopN_step hR hii1
        refine rg trivial ?_
        revert hR;refine lN (fun i v=>MayI (canI x0 x1 x2) x0.people.length i1 i v) (by with_reducible assumption) rfl fun i2 v2 F2 hn2 hI2 hR hK2=>?_
        refine rg trivial ?_
        refine ⟨fun hc3=>?_,fun hc3=>?_⟩
        · have hii2 : i2 < x0.people.length:=by have:=of_decide_eq_true hc3;omega
          replace hR:=loopN_step hR hii2
          refine rg ⟨by (intros;omega),by (intros;omega),fun hg0=>⟨by with_reducible assumption,by (have h9:=au_pre2 (by first | exact hc1 | (rw [Bool.or_comm];exact hc1));have h8:=fam_n h9.1;exact h9.1),by with_reducible assumption,by (intros;omega),by (intros;omega),by (have h9:=au_pre2 (by first | exact hc1 | (rw [Bool.or_comm];exact hc1));have h8:=fam_n h9.1;omega)⟩,trivial⟩ ?_
          revert hR;refine cd (fun hc4 hR=>?_) fun hc4 hR=>?_
          ·
            refine rg ⟨by (have h9:=au_pre2 (by first | exact hc1 | (rw [Bool.or_comm];exact hc1));have h8:=fam_n h9.1;have h7:=hI2.len;have h6:=hI2.rowL hii1;(try simp only [inR]);omega),trivial,trivial,by (have h9:=au_pre2 (by first | exact hc1 | (rw [Bool.or_comm];exact hc1));have h8:=fam_n h9.1;have h7:=hI2.len;have h6:=hI2.rowL hii1;(try simp only [inR]);omega),by (have h9:=au_pre2 (by first | exact hc1 | (rw [Bool.or_comm];exact hc1));have h8:=fam_n h9.1;have h7:=hI2.len;have h6:=hI2.rowL hii1;(try simp only [inR]);omega),trivial⟩ ?_
            refine rg ⟨by (have h9:=au_pre2 (by first | exact hc1 | (rw [Bool.or_comm];exact hc1));have h8:=fam_n h9.1;have h7:=hI2.len;have h6:=hI2.rowL hii1;(try simp only [inR]);omega),trivial⟩ ?_
            exact hK2 (v2.set i1 ((v2.getD i1 []) ++ [((i2 : Nat) : Int)])) hii2 (by (exact hI2.put hii1 hc4)) hR
          ·
            refine rg ⟨by (have h9:=au_pre2 (by first | exact hc1 | (rw [Bool.or_comm];exact hc1));have h8:=fam_n h9.1;have h7:=hI2.len;have h6:=hI2.rowL hii1;(try simp only [inR]);omega),trivial⟩ ?_
            exact hK2 v2 hii2 (by (exact hI2.skip hc4)) hR
        · obtain rfl : i2 = x0.people.length:=by have:=of_decide_eq_false hc3;omega
          replace hR:=loopN_end hR (Nat.lt_irrefl _)
          refine rg ⟨by (have h9:=au_pre2 (by first | exact hc1 | (rw [Bool.or_comm];exact hc1));have h8:=fam_n h9.1;have h7:=hI2.len;have h6:=hI2.rowL hii1;(try simp only [inR]);omega),trivial⟩ ?_
          exact hK1 v2 hii1 (by (exact hI2.next)) hR
      · obtain rfl : i1 = x0.people.length:=by have:=of_decide_eq_false hc2;omega
        replace hR:=loopN_end hR (Nat.lt_irrefl _)
        refine rg ⟨by (intros;omega),trivial⟩ ?_
        refine rg trivial ?_
        refine ft ?_
        revert hR;refine lN (fun i v=>v.length = x0.people.length ∧ ∀ k : Nat,k < i → v.getD k default = -1) (by (exact ⟨by simp,fun k hk=>absurd hk (Nat.not_lt_zero _)⟩)) rfl fun i3 v3 F3 hn3 hI3 hR hK3=>?_
        refine rg trivial ?_
        refine ⟨fun hc5=>?_,fun hc5=>?_⟩
        · have hii3 : i3 < x0.people.length:=by have:=of_decide_eq_true hc5;omega
          replace hR:=loopN_step hR hii3
          refine rg trivial ?_
          refine rg ⟨by (intros;omega),by (intros;omega),trivial⟩ ?_
          refine rg ⟨by (have h9:=au_pre2 (by first | exact hc1 | (rw [Bool.or_comm];exact hc1));have h8:=fam_n h9.1;(try simp only [inR]);omega),trivial⟩ ?_
          exact hK3 (v3.set i3 (-1)) hii3 (by (exact minus_set hI3 hii3)) hR
        · obtain rfl : i3 = x0.people.length:=by have:=of_decide_eq_false hc5;omega
          replace hR:=loopN_end hR (Nat.lt_irrefl _)
          refine rg trivial ?_
          refine rg trivial ?_
          refine og (by (intros;omega)) ?_
          revert hR;refine lN (fun i v=>(v.1.length = x0.people.length ∧ ∀ y ∈ v.1,-1 ≤ y ∧ y < ((x0.people.length : Nat) : Int)) ∧ 0 ≤ v.2 ∧ v.2 ≤ i) (by (refine ⟨?_,by simp,by simp⟩;rw [minus_rep hI3];exact minus_ok _)) rfl fun i4 v4 F4 hn4 hI4 hR hK4=>?_
          refine rg trivial ?_
          refine ⟨fun hc6=>?_,fun hc6=>?_⟩
          · have hii4 : i4 < x0.people.length:=by have:=of_decide_eq_true hc6;omega
            replace hR:=loopN_step hR hii4
            refine rg ⟨by (intros;omega),by (have h9:=au_pre2 (by first | exact hc1 | (rw [Bool.or_comm];exact hc1));have h8:=fam_n h9.1;exact hI1.wed h8.1 hI4.1 hii4),trivial⟩ ?_
            revert hR;refine cd (fun hc7 hR=>?_) fun hc7 hR=>?_
            ·
              refine rg ⟨by (have h9:=au_pre2 (by first | exact hc1 | (rw [Bool.or_comm];exact hc1));have h8:=fam_n h9.1;(try simp only [inR]);omega),trivial⟩ ?_
              refine rg ⟨by (have h9:=au_pre2 (by first | exact hc1 | (rw [Bool.or_comm];exact hc1));have h8:=fam_n h9.1;(try simp only [inR]);omega),trivial⟩ ?_
              exact hK4 ((wed v1 v4.1 ((i4 : Nat) : Int) (List.replicate x0.people.length (default : Bool))).2.1,v4.2 + 1) hii4 (by (have h9:=au_pre2 (by first | exact hc1 | (rw [Bool.or_comm];exact hc1));have h8:=fam_n h9.1;refine ⟨wed_out (hI1.wed h8.1 hI4.1 hii4),?_⟩;have h7:=hI4.2;dsimp only;omega)) hR
            ·
              refine rg ⟨by (have h9:=au_pre2 (by first | exact hc1 | (rw [Bool.or_comm];exact hc1));have h8:=fam_n h9.1;(try simp only [inR]);omega),trivial⟩ ?_
              exact hK4 ((wed v1 v4.1 ((i4 : Nat) : Int) (List.replicate x0.people.length (default : Bool))).2.1,v4.2) hii4 (by (have h9:=au_pre2 (by first | exact hc1 | (rw [Bool.or_comm];exact hc1));have h8:=fam_n h9.1;refine ⟨wed_out (hI1.wed h8.1 hI4.1 hii4),?_⟩;have h7:=hI4.2;dsimp only;omega)) hR
          · obtain rfl : i4 = x0.people.length:=by have:=of_decide_eq_false hc6;omega
            replace hR:=loopN_end hR (Nat.lt_irrefl _)
            refine rg trivial ?_
            exact congrArg C13 hR
  exact Fn.go 99 Try.func13 (by kernel_rfl) (by kernel_rfl) (by simp [C13,Frs,FrsL]) (A13 x0 x1 x2) (by kernel_rfl) (aux _ rfl)
def k13 (x0 : Family) (x1 : Law) (x2 : Int) : Cl:=(hres (C13 (implMost x0 x1 x2)),k3 (ok_impl_MostWeddings x0 x1 x2))
end Go.Proofs.Ytkkijpibajigfaa
