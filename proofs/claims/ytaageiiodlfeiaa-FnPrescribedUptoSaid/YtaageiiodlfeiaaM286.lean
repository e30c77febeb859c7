import Derived.Test.YtaageiiodlfeiaaPRC
set_option maxHeartbeats 4000000
set_option linter.unusedSimpArgs false
set_option linter.unusedVariables false
namespace Go.Proofs.Ytaageiiodlfeiaa
open Go Go.Lite Go.Proofs
theorem l7Spread_ok {x : Family} {c : Classes} {m : List Int} (h : MkOk x c m) : MkOk x c (l7Spread x c m).2 := by
  have h9:=samp_link h.s
  have h8:=fam_n h.f
  unfold l7Spread
  refine loopW_to (fun (v : List Int × Int)=>(0 ≤ v.2 ∧ v.2 ≤ 41) ∧ MkOk x c v.1) (fun v=>((41 : Int) - v.2).toNat) (fun (r : Bool × List Int)=>MkOk x c r.2) (fun v next hv hn=>?_) _ _ (by dsimp only;omega) ⟨by dsimp only;omega,h⟩
  refine cond_both (p:=fun (r : Bool × List Int)=>MkOk x c r.2) (fun c1=>?_) (fun _=>hv.2)
  have c1:=of_decide_eq_true c1
  have hl:=hv.2.l
  refine loopN_to (fun _ (w : List Int)=>MkOk x c w) (fun (r : Bool × List Int)=>MkOk x c r.2) hv.2 (fun i w next2 hi hw hn2=>?_) (fun w hw=>?_)
  · have h5:=dad_rng h.f hi
    have go : ∀ (u : List Int),MkOk x c u → ∀ q,decide (0 ≤ (x.people.getD i default).father) = true → q = x.people.getD i default → MkOk x c (l7Link u q.father (i : Int) c.child).2:=fun u hu q g1 e=>by subst e;exact link_mk hu ⟨of_decide_eq_true g1,h5.1⟩ ⟨by omega,by omega⟩ h9.1 h9.2.2.2.1
    have gm : ∀ (u : List Int),MkOk x c u → ∀ q,decide (0 ≤ (x.people.getD i default).mother) = true → q = x.people.getD i default → MkOk x c (l7Link u q.mother (i : Int) (l6Compose (specInvPerm c.wife) c.child)).2:=fun u hu q g1 e=>by subst e;exact link_mk hu ⟨of_decide_eq_true g1,h5.2⟩ ⟨by omega,by omega⟩ h9.2.2.1 h9.2.2.2.2.1
    refine cond_both (p:=fun (r : Bool × List Int)=>MkOk x c r.2) (fun g1=>?_) (fun g1=>?_)
    · refine cond_both (p:=fun (r : Bool × List Int)=>MkOk x c r.2) (fun g2=>?_) (fun g2=>?_)
      · have hm:=gm _ (go w hw _ g1 rfl) _ ((Bool.and_eq_true _ _).mp g2).2 rfl
        exact cond_both (p:=fun (r : Bool × List Int)=>MkOk x c r.2) (fun _=>hm) (fun _=>hn2 _ hm)
      · have hm:=go w hw _ g1 rfl
        exact cond_both (p:=fun (r : Bool × List Int)=>MkOk x c r.2) (fun _=>hm) (fun _=>hn2 _ hm)
    · refine cond_both (p:=fun (r : Bool × List Int)=>MkOk x c r.2) (fun g2=>?_) (fun g2=>?_)
      · have hm:=gm _ hw _ ((Bool.and_eq_true _ _).mp g2).2 rfl
        exact cond_both (p:=fun (r : Bool × List Int)=>MkOk x c r.2) (fun _=>hm) (fun _=>hn2 _ hm)
      · exact cond_both (p:=fun (r : Bool × List Int)=>MkOk x c r.2) (fun _=>hw) (fun _=>hn2 _ hw)
  · refine loopN_to (fun _ (u : List Int)=>MkOk x c u) (fun (r : Bool × List Int)=>MkOk x c r.2) hw (fun i u next3 hi hu hn3=>?_) (fun u hu=>hn _ ⟨by dsimp only;omega,hu⟩ (by dsimp only;omega))
    have h5:=wed_rng h.f hi
    have hm:=link_mk hu h5.1 h5.2 h9.2.1 rfl
    exact cond_both (p:=fun (r : Bool × List Int)=>MkOk x c r.2) (fun _=>hm) (fun _=>hn3 _ hm)
theorem given_mk {x : Family} {c : Classes} {g : List Int} (hs : Samp c) (h : l7Given x c g (-1) = true) : MkOk x c g := by
  obtain ⟨h1,h2,h3,h4⟩:=(l7Given_iff x c g (-1)).1 h
  refine ⟨h1,hs,h3,fun y hy=>?_⟩
  obtain ⟨k,hk,e⟩:=mem_getD (d:=default) hy
  rw [← e];exact (h4 k hk).2
def C14 (R : (List Int) × Bool) : LV × List (Nat × BC):=(.tup [.own 0,.bool R.2],[(0,.arr 1 R.1.length (rowOf (cInt .i64) R.1))])
def assignC (x0 : Family) (x1 : Classes) (x2 : List Int) : (List Int) × Bool:=bif (!(l7Given x0 x1 x2 (-1))) then (([] : List Int),false) else (jn (fun K1=>K1 ((l7Spread x0 x1 (([] : List Int) ++ x2)).2,!((l7Spread x0 x1 (([] : List Int) ++ x2)).1))) (fun (j1 : (List Int) × Bool)=>bif j1.2 then (([] : List Int),false) else (loopN (fun i1 (v1 : (List Int)) next=>jn (fun K2=>loopW (fun (v2 : (List Int) × Bool × Int) next=>bif ((decide (v2.2.2 < ((x1.wife.length : Nat) : Int))) && (!v2.2.1)) then (jn (fun K3=>K3 ((l7Spread x0 x1 ((([] : List Int) ++ v2.1).set i1 v2.2.2)).1,(l7Spread x0 x1 ((([] : List Int) ++ v2.1).set i1 v2.2.2)).2)) (fun (j3 : Bool × (List Int))=>bif j3.1 then (next (j3.2,j3.1,v2.2.2 + 1)) else (next (v2.1,j3.1,v2.2.2 + 1)))) else (K2 (v2.1,v2.2.1))) ((9 - (0 : Int)).toNat + 1) (v1,decide (0 ≤ (v1.getD i1 default)),0)) (fun (j2 : (List Int) × Bool)=>bif (!j2.2) then (([] : List Int),false) else (next j2.1))) (fun (v1 : (List Int))=>(v1,true)) j1.1.length 0 j1.1)))
def D14j1 (x0 : Family) (x1 : Classes) (x2 : List Int) (j1 : (List Int) × Bool) : Dl:=⟨[(8,.own 20008),(25,.bool j1.2)],[(20008,.arr 1 j1.1.length (rowOf (cInt .i64) j1.1))]⟩
def D14b1 (x0 : Family) (x1 : Classes) (x2 : List Int) (j1 : (List Int) × Bool) (i1 : Nat) (v1 : (List Int)) : Dl:=⟨[(28,.int .i64 ((i1 : Nat) : Int)),(8,.own 30008)],[(30008,.arr 1 v1.length (rowOf (cInt .i64) v1))]⟩
def D14j2 (x0 : Family) (x1 : Classes) (x2 : List Int) (j1 : (List Int) × Bool) (i1 : Nat) (v1 : (List Int)) (j2 : (List Int) × Bool) : Dl:=⟨[(8,.own 20008),(10,.bool j2.2)],[(20008,.arr 1 j2.1.length (rowOf (cInt .i64) j2.1))]⟩
def D14b2 (x0 : Family) (x1 : Classes) (x2 : List Int) (j1 : (List Int) × Bool) (i1 : Nat) (v1 : (List Int)) (v2 : (List Int) × Bool × Int) : Dl:=⟨[(8,.own 20008),(10,.bool v2.2.1),(11,.int .i64 v2.2.2)],[(20008,.arr 1 v2.1.length (rowOf (cInt .i64) v2.1))]⟩
def D14j3 (x0 : Family) (x1 : Classes) (x2 : List Int) (j1 : (List Int) × Bool) (i1 : Nat) (v1 : (List Int)) (v2 : (List Int) × Bool × Int) (j3 : Bool × (List Int)) : Dl:=⟨[(10,.bool j3.1),(12,.own 20012)],[(20012,.arr 1 j3.2.length (rowOf (cInt .i64) j3.2))]⟩
def A14j3 (x0 : Family) (x1 : Classes) (x2 : List Int) (j1 : (List Int) × Bool) (i1 : Nat) (v1 : (List Int)) (v2 : (List Int) × Bool × Int) (j3 : Bool × (List Int)) : Ann:=r0 1 [3,4,6,7,8,9,10,11,12,27,28,58] [3,4,20008,20012] (cn j3.1 (r0 1 [3,4,6,7,8,9,10,11,27,28] [3,4,20012] (r1 1 [3,4,6,7,8,9,10,11,27,28] [3,4,20012] [pf (inR .i64 (v2.2.2 + 1))] [0] (.next 0 [(20008,some 20012)] (D14b2 x0 x1 x2 j1 i1 v1 (j3.2,j3.1,v2.2.2 + 1))))) (r1 1 [3,4,6,7,8,9,10,11,27,28] [3,4,20008] [pf (inR .i64 (v2.2.2 + 1))] [0] (.next 0 [(20008,some 20008)] (D14b2 x0 x1 x2 j1 i1 v1 (v2.1,j3.1,v2.2.2 + 1)))))
def A14b2 (x0 : Family) (x1 : Classes) (x2 : List Int) (j1 : (List Int) × Bool) (i1 : Nat) (v1 : (List Int)) (v2 : (List Int) × Bool × Int) : Ann:=.reg 1 [] [] [3,4,6,7,8,9,10,11,27,28,44] [3,4,20008] [decide (v2.2.2 < ((x1.wife.length : Nat) : Int))] [] [] [1,1] (cn ((decide (v2.2.2 < ((x1.wife.length : Nat) : Int))) && (!v2.2.1)) (.reg 2 [] [(0,bsC 47 (cInt .i64) ([] : List Int)),(2,apC 49 (cInt .i64) 8 ([] : List Int) v2.1),(1004,stL 49 (cInt .i64) (([] : List Int) ++ v2.1) i1 v2.2.2)] [3,4,6,7,8,9,10,11,12,27,28] [3,4,49,20008] [] [pf (0 ≤ (((i1 : Nat) : Int) : Int) ∧ (((i1 : Nat) : Int) : Int) < (((([] : List Int) ++ v2.1).length : Nat) : Int))] [] [4,8,0,12] (.join 0 (Bool × (List Int)) (D14j3 x0 x1 x2 j1 i1 v1 v2) [3,4,6,7,8,9,10,11,12,27,28] [3,4,20008] (.reg 1 [] [(3,k38 57 [49] x0 x1 ((([] : List Int) ++ v2.1).set i1 v2.2.2))] [3,4,6,7,8,9,10,11,12,27,28] [3,4,49,20008] [] [] [] [0] (.next 0 [(20012,some 49)] (D14j3 x0 x1 x2 j1 i1 v1 v2 ((l7Spread x0 x1 ((([] : List Int) ++ v2.1).set i1 v2.2.2)).1,(l7Spread x0 x1 ((([] : List Int) ++ v2.1).set i1 v2.2.2)).2)))) (A14j3 x0 x1 x2 j1 i1 v1 v2))) (.next 1 [(20008,some 20008)] (D14j2 x0 x1 x2 j1 i1 v1 (v2.1,v2.2.1))))
def A14j2 (x0 : Family) (x1 : Classes) (x2 : List Int) (j1 : (List Int) × Bool) (i1 : Nat) (v1 : (List Int)) (j2 : (List Int) × Bool) : Ann:=r0 1 [3,4,6,7,8,27,28,61] [3,4,20008] (cn (!j2.2) (r0 1 [3,4,6,7,8,27,28] [3,4,20008] (rt [(0,none)] (C14 (([] : List Int),false)))) (r1 1 [3,4,6,7,8,27,28] [3,4,20008] [pf (inR .i64 (((i1 : Nat) : Int) + 1))] [0] (.next 0 [(30008,some 20008)] (D14b1 x0 x1 x2 j1 (i1 + 1) j2.1))))
def A14b1 (x0 : Family) (x1 : Classes) (x2 : List Int) (j1 : (List Int) × Bool) (i1 : Nat) (v1 : (List Int)) : Ann:=r0 1 [3,4,6,7,8,27,28,29] [3,4,30008] (cn (decide (((i1 : Nat) : Int) < ((j1.1.length : Nat) : Int))) (r1 2 [3,4,6,7,8,9,10,27,28] [3,4,30008] [pf (0 ≤ (((i1 : Nat) : Int) : Int) ∧ (((i1 : Nat) : Int) : Int) < ((v1.length : Nat) : Int))] [0] (.join 0 ((List Int) × Bool) (D14j2 x0 x1 x2 j1 i1 v1) [3,4,6,7,8,10,27,28] [3,4] (r0 1 [3,4,6,7,8,9,10,11,27,28] [3,4,30008] (.loop ((List Int) × Bool × Int) (D14b2 x0 x1 x2 j1 i1 v1) [] [30008] [(20008,some 30008)] (D14b2 x0 x1 x2 j1 i1 v1 (v1,decide (0 ≤ (v1.getD i1 default)),0)) (A14b2 x0 x1 x2 j1 i1 v1))) (A14j2 x0 x1 x2 j1 i1 v1))) (r0 1 [6,7] [30008] (rt [(0,some 30008)] (C14 (v1,true)))))
def A14j1 (x0 : Family) (x1 : Classes) (x2 : List Int) (j1 : (List Int) × Bool) : Ann:=cn j1.2 (r0 1 [3,4,6,7,8] [3,4,20008] (rt [(0,none)] (C14 (([] : List Int),false)))) (r0 1 [3,4,6,7,8,27,28] [3,4,20008] (lp (D14b1 x0 x1 x2 j1) [] [20008] [(30008,some 20008)] (D14b1 x0 x1 x2 j1 0 j1.1) (A14b1 x0 x1 x2 j1)))
def A14 (x0 : Family) (x1 : Classes) (x2 : List Int) : Ann:=r0 1 [2,3,4,6,7] [3,4] (.reg 1 [] [(3,k37 x0 x1 x2 (-1))] [2,3,4,6,7,17] [3,4] [] [] [] [0] (cn (!(l7Given x0 x1 x2 (-1))) (r0 1 [2,3,4,6,7] [3,4] (rt [(0,none)] (C14 (([] : List Int),false)))) (.reg 1 [] [(0,bsC 18 (cInt .i64) ([] : List Int)),(2,apC 20 (cInt .i64) 8 ([] : List Int) x2)] [3,4,6,7,8] [3,4,20] [] [] [] [0,4] (.join 1 ((List Int) × Bool) (D14j1 x0 x1 x2) [3,4,6,7,8] [3,4] (.reg 1 [] [(3,k38 24 [20] x0 x1 (([] : List Int) ++ x2))] [3,4,6,7,8,25] [3,4,20] [] [] [] [0] (.next 0 [(20008,some 20)] (D14j1 x0 x1 x2 ((l7Spread x0 x1 (([] : List Int) ++ x2)).2,!((l7Spread x0 x1 (([] : List Int) ++ x2)).1))))) (A14j1 x0 x1 x2)))))
theorem ok_spec_AssignClasses (x0 : Family) (x1 : Classes) (x2 : List Int) (hx : x0.people.length ≤ 1048576) (hu : x0.unions.length ≤ 1048576) (hn : ∀ p ∈ x0.people, p.name.length ≤ 1048576) (hc : Samp x1) (hg : x2.length ≤ 1048576) : FnT Try.prog 14 [.agg (cFamily false x0), .agg (cClasses false x1), .ro false 1 x2.length (rowOf (cInt .i64) x2)] (C14 (assignC x0 x1 x2)) := by
  have aux : ∀ R, assignC x0 x1 x2 = R → slim (C14 R) (A14 x0 x1 x2) [] := by
    intro R hR
    refine rg trivial ?_
    refine rg ⟨⟨by with_reducible assumption,by with_reducible assumption,by with_reducible assumption,by ((have h7:=samp_link hc;omega)),by with_reducible assumption⟩,trivial⟩ ?_
    revert hR;refine cd (fun hc1 hR=>?_) fun hc1 hR=>?_
    ·
      refine rg trivial ?_
      exact congrArg C14 hR
    ·
      refine rg ⟨trivial,by (simp;omega),trivial⟩ ?_
      revert hR;refine jN (fun v=>MkOk x0 x1 v.1) (fun F101 hR hJ101=>?_) (fun j1 hR hJ1=>?_)
      ·
        refine rg ⟨⟨by with_reducible assumption,by with_reducible assumption,by with_reducible assumption,by ((have h9:=given_mk hc (by simpa using hc1);have h8:=fam_n h9.f;(try have h2:=hJ1.l);have h7:=samp_link hc;(try have h6:=hI1.l);(try have h5:=hI2.2.l);(try have h4:=of_decide_eq_true ((Bool.and_eq_true _ _).mp hc4).1);(try have h3:=of_decide_eq_true ((Bool.and_eq_true _ _).mp hc3).1);exact h9))⟩,trivial⟩ ?_
        exact hJ101 ((l7Spread x0 x1 (([] : List Int) ++ x2)).2,!((l7Spread x0 x1 (([] : List Int) ++ x2)).1)) hR (by ((have h9:=given_mk hc (by simpa using hc1);have h8:=fam_n h9.f;(try have h2:=hJ1.l);have h7:=samp_link hc;(try have h6:=hI1.l);(try have h5:=hI2.2.l);(try have h4:=of_decide_eq_true ((Bool.and_eq_true _ _).mp hc4).1);(try have h3:=of_decide_eq_true ((Bool.and_eq_true _ _).mp hc3).1);exact l7Spread_ok h9)))
      ·
        revert hR;refine cd (fun hc2 hR=>?_) fun hc2 hR=>?_
        ·
          refine rg trivial ?_
          exact congrArg C14 hR
        ·
          refine rg trivial ?_
          revert hR;refine lN (fun i v=>MkOk x0 x1 v) (by with_reducible assumption) rfl fun i1 v1 F1 hn1 hI1 hR hK1=>?_
          refine rg trivial ?_
          refine ⟨fun hc3=>?_,fun hc3=>?_⟩
          · have hii1 : i1 < j1.1.length:=by have:=of_decide_eq_true hc3;omega
            replace hR:=loopN_step hR hii1
            refine rg ⟨by ((have h9:=given_mk hc (by simpa using hc1);have h8:=fam_n h9.f;(try have h2:=hJ1.l);have h7:=samp_link hc;(try have h6:=hI1.l);(try have h5:=hI2.2.l);(try have h4:=of_decide_eq_true ((Bool.and_eq_true _ _).mp hc4).1);(try have h3:=of_decide_eq_true ((Bool.and_eq_true _ _).mp hc3).1);omega)),trivial⟩ ?_
            revert hR;refine jN (fun v=>MkOk x0 x1 v.1) (fun F102 hR hJ102=>?_) (fun j2 hR hJ2=>?_)
            ·
              refine rg trivial ?_
              revert hR;refine lW (fun v=>(0 ≤ v.2.2 ∧ v.2.2 ≤ 8) ∧ MkOk x0 x1 v.1) (fun v=>(9 - (v.2.2 : Int)).toNat) (by ((try clear hR hK1 hJ102);intros;(try simp only [decide_eq_true_eq,decide_eq_false_iff_not,Bool.or_eq_true,Bool.and_eq_true,or_f_iff,not_f_iff,not_t_iff,Bool.not_eq_true',inR] at *);(repeat' apply And.intro) <;> (intros;omega))) (Nat.lt_succ_self _) rfl fun m2 v2 F2 hI2 hM2 hR hK2=>?_
              refine rg trivial ?_
              revert hR;refine cd (fun hc4 hR=>?_) fun hc4 hR=>?_
              ·
                refine rg ⟨by ((have h9:=given_mk hc (by simpa using hc1);have h8:=fam_n h9.f;(try have h2:=hJ1.l);have h7:=samp_link hc;(try have h6:=hI1.l);(try have h5:=hI2.2.l);(try have h4:=of_decide_eq_true ((Bool.and_eq_true _ _).mp hc4).1);(try have h3:=of_decide_eq_true ((Bool.and_eq_true _ _).mp hc3).1);((try simp only [List.length_set,List.length_append,List.length_nil]);omega))),trivial,by ((have h9:=given_mk hc (by simpa using hc1);have h8:=fam_n h9.f;(try have h2:=hJ1.l);have h7:=samp_link hc;(try have h6:=hI1.l);(try have h5:=hI2.2.l);(try have h4:=of_decide_eq_true ((Bool.and_eq_true _ _).mp hc4).1);(try have h3:=of_decide_eq_true ((Bool.and_eq_true _ _).mp hc3).1);((try simp only [List.length_set,List.length_append,List.length_nil]);omega))),by ((have h9:=given_mk hc (by simpa using hc1);have h8:=fam_n h9.f;(try have h2:=hJ1.l);have h7:=samp_link hc;(try have h6:=hI1.l);(try have h5:=hI2.2.l);(try have h4:=of_decide_eq_true ((Bool.and_eq_true _ _).mp hc4).1);(try have h3:=of_decide_eq_true ((Bool.and_eq_true _ _).mp hc3).1);((try simp only [List.length_set,List.length_append,List.length_nil]);omega))),trivial⟩ ?_
                revert hR;refine jN (fun v=>MkOk x0 x1 v.2) (fun F103 hR hJ103=>?_) (fun j3 hR hJ3=>?_)
                ·
                  refine rg ⟨⟨by with_reducible assumption,by with_reducible assumption,by with_reducible assumption,by ((have h9:=given_mk hc (by simpa using hc1);have h8:=fam_n h9.f;(try have h2:=hJ1.l);have h7:=samp_link hc;(try have h6:=hI1.l);(try have h5:=hI2.2.l);(try have h4:=of_decide_eq_true ((Bool.and_eq_true _ _).mp hc4).1);(try have h3:=of_decide_eq_true ((Bool.and_eq_true _ _).mp hc3).1);exact mk_set (m:=v2.1) hI2.2 h4))⟩,trivial⟩ ?_
                  exact hJ103 ((l7Spread x0 x1 ((([] : List Int) ++ v2.1).set i1 v2.2.2)).1,(l7Spread x0 x1 ((([] : List Int) ++ v2.1).set i1 v2.2.2)).2) hR (by ((have h9:=given_mk hc (by simpa using hc1);have h8:=fam_n h9.f;(try have h2:=hJ1.l);have h7:=samp_link hc;(try have h6:=hI1.l);(try have h5:=hI2.2.l);(try have h4:=of_decide_eq_true ((Bool.and_eq_true _ _).mp hc4).1);(try have h3:=of_decide_eq_true ((Bool.and_eq_true _ _).mp hc3).1);exact l7Spread_ok (mk_set (m:=v2.1) hI2.2 h4))))
                ·
                  refine rg trivial ?_
                  revert hR;refine cd (fun hc5 hR=>?_) fun hc5 hR=>?_
                  ·
                    refine rg trivial ?_
                    refine rg ⟨by ((have h9:=given_mk hc (by simpa using hc1);have h8:=fam_n h9.f;(try have h2:=hJ1.l);have h7:=samp_link hc;(try have h6:=hI1.l);(try have h5:=hI2.2.l);(try have h4:=of_decide_eq_true ((Bool.and_eq_true _ _).mp hc4).1);(try have h3:=of_decide_eq_true ((Bool.and_eq_true _ _).mp hc3).1);(simp only [inR];omega))),trivial⟩ ?_
                    exact hK2 (j3.2,j3.1,v2.2.2 + 1) (by ((have h9:=given_mk hc (by simpa using hc1);have h8:=fam_n h9.f;(try have h2:=hJ1.l);have h7:=samp_link hc;(try have h6:=hI1.l);(try have h5:=hI2.2.l);(try have h4:=of_decide_eq_true ((Bool.and_eq_true _ _).mp hc4).1);(try have h3:=of_decide_eq_true ((Bool.and_eq_true _ _).mp hc3).1);exact ⟨⟨by (dsimp only;omega),by (dsimp only;omega)⟩,hJ3⟩))) (by ((have h9:=given_mk hc (by simpa using hc1);have h8:=fam_n h9.f;(try have h2:=hJ1.l);have h7:=samp_link hc;(try have h6:=hI1.l);(try have h5:=hI2.2.l);(try have h4:=of_decide_eq_true ((Bool.and_eq_true _ _).mp hc4).1);(try have h3:=of_decide_eq_true ((Bool.and_eq_true _ _).mp hc3).1);(simp only [inR];omega)))) hR
                  ·
                    refine rg ⟨by ((have h9:=given_mk hc (by simpa using hc1);have h8:=fam_n h9.f;(try have h2:=hJ1.l);have h7:=samp_link hc;(try have h6:=hI1.l);(try have h5:=hI2.2.l);(try have h4:=of_decide_eq_true ((Bool.and_eq_true _ _).mp hc4).1);(try have h3:=of_decide_eq_true ((Bool.and_eq_true _ _).mp hc3).1);(simp only [inR];omega))),trivial⟩ ?_
                    exact hK2 (v2.1,j3.1,v2.2.2 + 1) (by ((have h9:=given_mk hc (by simpa using hc1);have h8:=fam_n h9.f;(try have h2:=hJ1.l);have h7:=samp_link hc;(try have h6:=hI1.l);(try have h5:=hI2.2.l);(try have h4:=of_decide_eq_true ((Bool.and_eq_true _ _).mp hc4).1);(try have h3:=of_decide_eq_true ((Bool.and_eq_true _ _).mp hc3).1);exact ⟨⟨by (dsimp only;omega),by (dsimp only;omega)⟩,hI2.2⟩))) (by ((have h9:=given_mk hc (by simpa using hc1);have h8:=fam_n h9.f;(try have h2:=hJ1.l);have h7:=samp_link hc;(try have h6:=hI1.l);(try have h5:=hI2.2.l);(try have h4:=of_decide_eq_true ((Bool.and_eq_true _ _).mp hc4).1);(try have h3:=of_decide_eq_true ((Bool.and_eq_true _ _).mp hc3).1);(simp only [inR];omega)))) hR
              ·
                exact hJ102 (v2.1,v2.2.1) hR (by (exact hI2.2))
            ·
              refine rg trivial ?_
              revert hR;refine cd (fun hc6 hR=>?_) fun hc6 hR=>?_
              ·
                refine rg trivial ?_
                exact congrArg C14 hR
              ·
                refine rg ⟨by ((have h9:=given_mk hc (by simpa using hc1);have h8:=fam_n h9.f;(try have h2:=hJ1.l);have h7:=samp_link hc;(try have h6:=hI1.l);(try have h5:=hI2.2.l);(try have h4:=of_decide_eq_true ((Bool.and_eq_true _ _).mp hc4).1);(try have h3:=of_decide_eq_true ((Bool.and_eq_true _ _).mp hc3).1);(simp only [inR];omega))),trivial⟩ ?_
                exact hK1 j2.1 hii1 (by with_reducible assumption) hR
          · obtain rfl : i1 = j1.1.length:=by have:=of_decide_eq_false hc3;omega
            replace hR:=loopN_end hR (Nat.lt_irrefl _)
            refine rg trivial ?_
            exact congrArg C14 hR
  exact Fn.go 64 Try.func14 (by kernel_rfl) (by kernel_rfl) (by simp [C14,Frs,FrsL,FrsB,rowOf,cInt,cBool,cStr,cSl,FrsL_app,cPerson,cUnion,cFamily,cClasses,cl01Cur,cStep,cKinType,cRule,cRelation]) (A14 x0 x1 x2) (by kernel_rfl) (aux _ rfl)
def k14 (x0 : Family) (x1 : Classes) (x2 : List Int) : Cl:=(hres (C14 (assignC x0 x1 x2)),k5 (ok_spec_AssignClasses x0 x1 x2))
/-- Two marks fit: none is known, or the second follows from the first. -/
def Fit (m : List Int) (a b : Int) (p : List Int) : Prop:=(m.getD a.toNat default < 0 ∧ m.getD b.toNat default < 0) ∨ (0 ≤ m.getD a.toNat default ∧ 0 ≤ m.getD b.toNat default ∧ m.getD b.toNat default = p.getD (m.getD a.toNat default).toNat default)
def unm (m : List Int) : Nat:=(m.filter fun y=>decide (y < 0)).length
theorem unm_set : ∀ {m : List Int} {k : Nat} {v : Int}, k < m.length → m.getD k default < 0 → 0 ≤ v → unm (m.set k v) < unm m
  | [],k,v,hk,_,_=>absurd hk (Nat.not_lt_zero _)
  | y :: m, 0, v, _, hy, hv => by
    have hy : y < 0:=hy
    show ((v :: m).filter fun y=>decide (y < 0)).length < ((y :: m).filter fun y=>decide (y < 0)).length
    rw [List.filter_cons_of_neg (by simp;omega),List.filter_cons_of_pos (by simp;omega)]
    exact Nat.lt_succ_self _
  | y :: m, k + 1, v, hk, hy, hv => by
    have ih:=unm_set (m:=m) (k:=k) (v:=v) (by simpa using hk) hy hv
    unfold unm at ih
    show ((y :: m.set k v).filter fun y=>decide (y < 0)).length < ((y :: m).filter fun y=>decide (y < 0)).length
    by_cases h : y < 0
    · rw [List.filter_cons_of_pos (by simp;omega),List.filter_cons_of_pos (by simp;omega)]
      exact Nat.succ_lt_succ ih
    · rw [List.filter_cons_of_neg (by simp;omega),List.filter_cons_of_neg (by simp;omega)]
      exact ih
def Pos (m m' : List Int) : Prop:=∀ j : Nat,0 ≤ m.getD j default → j < m.length → 0 ≤ m'.getD j default
theorem pos_set {m : List Int} {k : Nat} {v : Int} (hv : 0 ≤ v) : Pos m (m.set k v) := fun j h1 h2 => by
  rw [getD_set]
  split
  · exact hv
  · exact h1
theorem link_step {m : List Int} {a b : Int} {p : List Int} (ha : 0 ≤ a ∧ a < m.length) (hb : 0 ≤ b ∧ b < m.length) (hp : LinkP p) (hv : ∀ y ∈ m, y < p.length) :
    (l7Link m a b p).2.length = m.length ∧ Pos m (l7Link m a b p).2 ∧ ((l7Link m a b p).1 = true → ((l7Link m a b p).2 = m ∧ Fit m a b p) ∨ (unm (l7Link m a b p).2 < unm m ∧ ¬ Fit m a b p)):=by
  have hA:=hv _ (getD_mem (d:=default) (l:=m) (k:=a.toNat) (by omega))
  have hB:=hv _ (getD_mem (d:=default) (l:=m) (k:=b.toNat) (by omega))
  have e8:=specInvPerm_eq p
  unfold l7Link jn
  by_cases c1 : 0 ≤ m.getD a.toNat default
  · by_cases c2 : m.getD b.toNat default < 0
    · have hpv:=hp.2.2.1 _ (getD_mem (d:=default) (l:=p) (k:=(m.getD a.toNat default).toNat) (by omega))
      have hab : a.toNat ≠ b.toNat:=fun e=>by rw [e] at c1;omega
      have e1 : (m.set b.toNat (p.getD (m.getD a.toNat default).toNat default)).getD a.toNat default = m.getD a.toNat default:=by rw [getD_set];rw [if_neg (by omega)]
      have e2 : (m.set b.toNat (p.getD (m.getD a.toNat default).toNat default)).getD b.toNat default = p.getD (m.getD a.toNat default).toNat default:=by rw [getD_set];rw [if_pos ⟨rfl,by omega⟩]
      rw [decide_eq_true c1,decide_eq_true c2]
      simp only [Bool.and_self,cond_true,e1,e2,decide_eq_false (show ¬ m.getD a.toNat default < 0 by omega),Bool.and_false,cond_false]
      refine ⟨List.length_set,pos_set hpv.1,fun _=>.inr ⟨unm_set (by omega) c2 hpv.1,fun h=>?_⟩⟩
      rcases h with h | h <;> omega
    · simp only [decide_eq_false c2,Bool.and_false,cond_false,decide_eq_false (show ¬ m.getD a.toNat default < 0 by omega),Bool.false_or]
      refine ⟨trivial,fun j h _=>h,fun h=>.inl ⟨trivial,.inr ⟨c1,by omega,of_decide_eq_true h⟩⟩⟩
  · simp only [decide_eq_false c1,Bool.false_and,cond_false]
    by_cases c2 : 0 ≤ m.getD b.toNat default
    · have hpv:=hp.2.2.2 _ (getD_mem (d:=default) (l:=invP p) (k:=(m.getD b.toNat default).toNat) (by have:=hp.2.1;omega))
      rw [e8,decide_eq_true c2,decide_eq_true (show m.getD a.toNat default < 0 by omega)]
      simp only [Bool.and_self,cond_true]
      refine ⟨List.length_set,pos_set hpv.1,fun _=>.inr ⟨unm_set (by omega) (by omega) hpv.1,fun h=>?_⟩⟩
      rcases h with h | h <;> omega
    · simp only [decide_eq_false c2,Bool.false_and,cond_false]
      exact ⟨trivial,fun j h _=>h,fun _=>.inl ⟨trivial,.inl ⟨by omega,by omega⟩⟩⟩
/-- Everything fits. -/
structure FitP (x : Family) (c : Classes) (m : List Int) : Prop where
  fa : ∀ k : Nat,k < x.people.length → 0 ≤ (x.people.getD k default).father → Fit m (x.people.getD k default).father (k : Int) c.child
  mo : ∀ k : Nat,k < x.people.length → 0 ≤ (x.people.getD k default).mother → Fit m (x.people.getD k default).mother (k : Int) (l6Compose (specInvPerm c.wife) c.child)
  wfit : ∀ k : Nat,k < x.unions.length → Fit m (x.unions.getD k default).man (x.unions.getD k default).woman c.wife
/-- A round goes on: nothing has turned yet, or less is unknown. -/
def Rd (x : Family) (c : Classes) (m w : List Int) (F : Prop) : Prop:=MkOk x c w ∧ Pos m w ∧ ((w = m ∧ F) ∨ (unm w < unm m ∧ ¬ FitP x c m))
theorem Pos.trans {a b c : List Int} (h : Pos a b) (h2 : Pos b c) (hl : a.length = b.length) : Pos a c:=fun j h3 h4=>h2 j (h j h3 h4) (by omega)
theorem rd_step {x : Family} {c : Classes} {m w : List Int} {F G : Prop} {a b : Int} {p : List Int} (hm : MkOk x c m) (h : Rd x c m w F) (ha : 0 ≤ a ∧ a < x.people.length) (hb : 0 ≤ b ∧ b < x.people.length) (hp : LinkP p) (hl : p.length = c.wife.length)
    (hr : (l7Link w a b p).1 = true) (hG : F → Fit m a b p → G) (hn : FitP x c m → Fit m a b p) : Rd x c m (l7Link w a b p).2 G:=by
  obtain ⟨h1,h2,h3⟩:=h
  have hs:=link_step (m:=w) (a:=a) (b:=b) (by rw [h1.l];exact ha) (by rw [h1.l];exact hb) hp (mk_lt h1 hl)
  refine ⟨link_mk h1 ha hb hp hl,h2.trans hs.2.1 (by rw [h1.l,hm.l]),?_⟩
  rcases h3 with ⟨e,hF⟩ | ⟨h4,h5⟩
  · subst e
    rcases hs.2.2 hr with ⟨e,hf⟩ | ⟨hu,hf⟩
    · exact .inl ⟨e,hG hF hf⟩
    · exact .inr ⟨hu,fun h=>hf (hn h)⟩
  · refine .inr ⟨?_,h5⟩
    rcases hs.2.2 hr with ⟨e,_⟩ | ⟨hu,_⟩
    · rw [e];exact h4
    · omega
theorem Rd.mono {x : Family} {c : Classes} {m w : List Int} {F G : Prop} (h : Rd x c m w F) (hg : F → G) : Rd x c m w G:=⟨h.1,h.2.1,h.2.2.imp (fun q=>⟨q.1,hg q.2⟩) id⟩
def FaMo (x : Family) (c : Classes) (m : List Int) (i : Nat) : Prop:=∀ k : Nat,k < i → (0 ≤ (x.people.getD k default).father → Fit m (x.people.getD k default).father (k : Int) c.child) ∧ (0 ≤ (x.people.getD k default).mother → Fit m (x.people.getD k default).mother (k : Int) (l6Compose (specInvPerm c.wife) c.child))
theorem fm_succ {x : Family} {c : Classes} {m : List Int} {i : Nat} (h : FaMo x c m i) (h1 : 0 ≤ (x.people.getD i default).father → Fit m (x.people.getD i default).father (i : Int) c.child) (h2 : 0 ≤ (x.people.getD i default).mother → Fit m (x.people.getD i default).mother (i : Int) (l6Compose (specInvPerm c.wife) c.child)) : FaMo x c m (i + 1) := fun k hk => by
  by_cases e : k = i
  · subst e;exact ⟨h1,h2⟩
  · exact h k (by omega)
/-- A spread that comes to its end fits. -/
theorem spread_fit {x : Family} {c : Classes} {m : List Int} (h : MkOk x c m) : Pos m (l7Spread x c m).2 ∧ ((l7Spread x c m).1 = true → FitP x c (l7Spread x c m).2) := by
  have h9:=samp_link h.s
  have h8:=fam_n h.f
  have hu : unm m ≤ m.length:=List.length_filter_le _ _
  have hml:=h.l
  unfold l7Spread
  refine loopW_to (fun (v : List Int × Int)=>(0 ≤ v.2 ∧ v.2 ≤ 41) ∧ MkOk x c v.1 ∧ Pos m v.1 ∧ v.2 ≤ x.people.length + 1 ∧ (FitP x c v.1 ∨ (unm v.1 : Int) + v.2 ≤ x.people.length)) (fun v=>((41 : Int) - v.2).toNat) (fun (r : Bool × List Int)=>Pos m r.2 ∧ (r.1 = true → FitP x c r.2)) (fun v next hv hn=>?_) _ _ (by dsimp only;omega) ⟨by dsimp only;omega,h,fun j h1 _=>h1,by dsimp only;omega,.inr (by dsimp only;omega)⟩
  obtain ⟨hk,hmk,hpos,hk1,hfx⟩:=hv
  have hl:=hmk.l
  refine cond_both (p:=fun (r : Bool × List Int)=>Pos m r.2 ∧ (r.1 = true → FitP x c r.2)) (fun c1=>?_) (fun c1=>⟨hpos,fun _=>?_⟩)
  · have c1:=of_decide_eq_true c1
    have out : ∀ (w : List Int),Pos v.1 w → Pos m (false,w).2 ∧ ((false,w).1 = true → FitP x c (false,w).2):=fun w hw=>⟨hpos.trans hw (by rw [hml,hl]),fun h=>nomatch h⟩
    have lk : ∀ {w : List Int} {a b : Int} {p : List Int},MkOk x c w → Pos v.1 w → (0 ≤ a ∧ a < x.people.length) → (0 ≤ b ∧ b < x.people.length) → LinkP p → p.length = c.wife.length → Pos v.1 (l7Link w a b p).2:=fun {w a b p} hw hp ha hb h1 h2=>hp.trans (link_step (by rw [hw.l];exact ha) (by rw [hw.l];exact hb) h1 (mk_lt hw h2)).2.1 (by rw [hw.l,hl])
    refine loopN_to (fun i (w : List Int)=>Rd x c v.1 w (FaMo x c v.1 i)) (fun (r : Bool × List Int)=>Pos m r.2 ∧ (r.1 = true → FitP x c r.2)) ⟨hmk,fun j h1 _=>h1,.inl ⟨rfl,fun k hk=>absurd hk (Nat.not_lt_zero _)⟩⟩ (fun i w next2 hi hw hn2=>?_) (fun w hw=>?_)
    · have h5:=dad_rng h.f hi
      have bi : 0 ≤ (i : Int) ∧ (i : Int) < x.people.length:=⟨by omega,by omega⟩
      refine cond_both (p:=fun (r : Bool × List Int)=>Pos m r.2 ∧ (r.1 = true → FitP x c r.2)) (fun g1=>?_) (fun g1=>?_)
      · have af : 0 ≤ (x.people.getD i default).father ∧ (x.people.getD i default).father < x.people.length:=⟨of_decide_eq_true g1,h5.1⟩
        rw [g1]
        simp only [Bool.true_and]
        have s1 : (l7Link w (x.people.getD i default).father (i : Int) c.child).1 = true → ∀ {G : Prop},(FaMo x c v.1 i → Fit v.1 (x.people.getD i default).father (i : Int) c.child → G) → Rd x c v.1 (l7Link w (x.people.getD i default).father (i : Int) c.child).2 G:=fun hr G hG=>rd_step hmk hw af bi h9.1 h9.2.2.2.1 hr hG fun hf=>hf.fa i hi af.1
        refine cond_both (p:=fun (r : Bool × List Int)=>Pos m r.2 ∧ (r.1 = true → FitP x c r.2)) (fun g2=>?_) (fun g2=>?_)
        · obtain ⟨g2,g3⟩:=(Bool.and_eq_true _ _).mp g2
          have am : 0 ≤ (x.people.getD i default).mother ∧ (x.people.getD i default).mother < x.people.length:=⟨of_decide_eq_true g3,h5.2⟩
          rw [Bool.not_not] at g2
          refine cond_both (p:=fun (r : Bool × List Int)=>Pos m r.2 ∧ (r.1 = true → FitP x c r.2)) (fun _=>out _ (lk (link_mk hw.1 af bi h9.1 h9.2.2.2.1) (lk hw.1 hw.2.1 af bi h9.1 h9.2.2.2.1) am bi h9.2.2.1 h9.2.2.2.2.1)) (fun g4=>hn2 _ ?_)
          simp only [g2,g3,Bool.not_true,Bool.false_or,Bool.true_and,not_f_iff] at g4
          exact rd_step hmk (s1 g2 (G:=FaMo x c v.1 i ∧ Fit v.1 (x.people.getD i default).father (i : Int) c.child) fun q1 q2=>⟨q1,q2⟩) am bi h9.2.2.1 h9.2.2.2.2.1 g4 (fun q1 q2=>fm_succ q1.1 (fun _=>q1.2) fun _=>q2) fun hf=>hf.mo i hi am.1
        · refine cond_both (p:=fun (r : Bool × List Int)=>Pos m r.2 ∧ (r.1 = true → FitP x c r.2)) (fun _=>out _ (lk hw.1 hw.2.1 af bi h9.1 h9.2.2.2.1)) (fun g4=>hn2 _ ?_)
          simp only [or_f_iff,not_f_iff] at g4
          simp only [g4.1,Bool.not_true,Bool.not_false,Bool.true_and,decide_eq_false_iff_not] at g2
          exact s1 g4.1 fun q1 q2=>fm_succ q1 (fun _=>q2) fun q3=>absurd q3 g2
      · have nf:=of_decide_eq_false g1
        rw [g1]
        simp only [Bool.false_and,Bool.not_false,Bool.true_and,Bool.false_or]
        refine cond_both (p:=fun (r : Bool × List Int)=>Pos m r.2 ∧ (r.1 = true → FitP x c r.2)) (fun g2=>?_) (fun g2=>?_)
        · have am : 0 ≤ (x.people.getD i default).mother ∧ (x.people.getD i default).mother < x.people.length:=⟨of_decide_eq_true g2,h5.2⟩
          refine cond_both (p:=fun (r : Bool × List Int)=>Pos m r.2 ∧ (r.1 = true → FitP x c r.2)) (fun _=>out _ (lk hw.1 hw.2.1 am bi h9.2.2.1 h9.2.2.2.2.1)) (fun g4=>hn2 _ ?_)
          simp only [g2,Bool.true_and,not_f_iff] at g4
          exact rd_step hmk hw am bi h9.2.2.1 h9.2.2.2.2.1 g4 (fun q1 q2=>fm_succ q1 (fun q3=>absurd q3 nf) fun _=>q2) fun hf=>hf.mo i hi am.1
        · have nm:=of_decide_eq_false g2
          refine cond_both (p:=fun (r : Bool × List Int)=>Pos m r.2 ∧ (r.1 = true → FitP x c r.2)) (fun _=>out _ hw.2.1) (fun g4=>hn2 _ (hw.mono fun q1=>fm_succ q1 (fun q3=>absurd q3 nf) fun q3=>absurd q3 nm))
    · refine loopN_to (fun i (u : List Int)=>Rd x c v.1 u (FaMo x c v.1 x.people.length ∧ ∀ k : Nat,k < i → Fit v.1 (x.unions.getD k default).man (x.unions.getD k default).woman c.wife)) (fun (r : Bool × List Int)=>Pos m r.2 ∧ (r.1 = true → FitP x c r.2)) (hw.mono fun q=>⟨q,fun k hk=>absurd hk (Nat.not_lt_zero _)⟩) (fun i u next3 hi hu3 hn3=>?_) (fun u hu3=>?_)
      · have h5:=wed_rng h.f hi
        refine cond_both (p:=fun (r : Bool × List Int)=>Pos m r.2 ∧ (r.1 = true → FitP x c r.2)) (fun _=>out _ (lk hu3.1 hu3.2.1 h5.1 h5.2 h9.2.1 rfl)) (fun g4=>hn3 _ (rd_step hmk hu3 h5.1 h5.2 h9.2.1 rfl (by simpa using g4) (fun q1 q2=>⟨q1.1,fun k hk=>?_⟩) fun hf=>hf.wfit i hi))
        by_cases e : k = i
        · subst e;exact q2
        · exact q1.2 k (by omega)
      · refine hn _ ⟨by dsimp only;omega,hu3.1,hpos.trans hu3.2.1 (by rw [hml,hl]),by dsimp only;omega,?_⟩ (by dsimp only;omega)
        rcases hu3.2.2 with ⟨e,q1,q2⟩ | ⟨q1,q2⟩
        · left
          show FitP x c u
          rw [e]
          exact ⟨fun k hk=>(q1 k hk).1,fun k hk=>(q1 k hk).2,q2⟩
        · rcases hfx with hfx | hfx
          · exact absurd hfx q2
          · right;show (unm u : Int) + (v.2 + 1) ≤ _;omega
  · rcases hfx with hfx | hfx
    · exact hfx
    · have c1:=of_decide_eq_false c1
      omega
end Go.Proofs.Ytaageiiodlfeiaa
