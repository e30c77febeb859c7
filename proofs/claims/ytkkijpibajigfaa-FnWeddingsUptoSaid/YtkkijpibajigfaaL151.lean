/- The most weddings are at least those that are found one by one, and at most twice as many. -/
import Derived.Test.YtkkijpibajigfaaRows
import Derived.Test.YtkkijpibajigfaaM222
import Derived.Test.YtkkijpibajigfaaLiteR
import Derived.WalkKit
import Derived.ProofKit
import Derived.OpenShut
import Derived.JoinedCond
set_option maxHeartbeats 4000000
set_option linter.unusedSimpArgs false
set_option linter.unusedVariables false
namespace Go.Proofs.Ytkkijpibajigfaa
open Go Go.Lite Go.Proofs Go.ChangeShapes Go.WideShapes Go.ChangeAt Go.RowKit
def C5 (R : Bool) : LV × List (Nat × BC):=(.bool R,[])
def laws_FnWeddings_m (x0 : List Int) : Bool:=bif (decide (1048576 < ((x0.length : Nat) : Int))) then true else (loopN (fun i1 (v1 : (List Int) × Int) nx1=>bif (!decide (((((crowd x0 14).people).getD i1 default).sex) = 1)) then (nx1 (v1.1,v1.2)) else (bif (!decide ((((implPartners (crowd x0 14) (makeLaw (lawFresh x0 3)) ((i1 : Nat) : Int) (lawYear x0 1 (crowd x0 14))).length : Nat) : Int) = (((specPartners (crowd x0 14) (makeLaw (lawFresh x0 3)) ((i1 : Nat) : Int) (lawYear x0 1 (crowd x0 14))).length : Nat) : Int))) then false else (loopN (fun i2 (v2 : Unit) next=>bif (!(lawHas v1.1 ((implPartners (crowd x0 14) (makeLaw (lawFresh x0 3)) ((i1 : Nat) : Int) (lawYear x0 1 (crowd x0 14))).getD i2 default))) then (nx1 ((v1.1 ++ [((implPartners (crowd x0 14) (makeLaw (lawFresh x0 3)) ((i1 : Nat) : Int) (lawYear x0 1 (crowd x0 14))).getD i2 default)]),v1.2 + 1)) else (next ())) (fun (v2 : Unit)=>nx1 (v1.1,v1.2)) ((implPartners (crowd x0 14) (makeLaw (lawFresh x0 3)) ((i1 : Nat) : Int) (lawYear x0 1 (crowd x0 14))).length) 0 ()))) (fun (v1 : (List Int) × Int)=>(decide (v1.2 ≤ (implMost (crowd x0 14) (makeLaw (lawFresh x0 3)) (lawYear x0 1 (crowd x0 14))))) && (decide ((implMost (crowd x0 14) (makeLaw (lawFresh x0 3)) (lawYear x0 1 (crowd x0 14))) ≤ (2 * v1.2)))) (((crowd x0 14).people).length) 0 (([] : List Int),0))
def D5b1 (x0 : List Int) (i1 : Nat) (v1 : (List Int) × Int) : Dl:=⟨[(29,.int .i64 ((i1 : Nat) : Int)),(6,.own 20006),(7,.int .i64 v1.2)],[(20006,.arr 1 v1.1.length (rowOf (cInt .i64) v1.1))]⟩
def D5b2 (x0 : List Int) (i1 : Nat) (v1 : (List Int) × Int) (i2 : Nat) (v2 : Unit) : Dl:=⟨[(53,.int .i64 ((i2 : Nat) : Int))],[]⟩
def A5b2 (x0 : List Int) (i1 : Nat) (v1 : (List Int) × Int) (i2 : Nat) (v2 : Unit) : Ann:=r0 1 [2,3,4,5,6,7,27,28,29,51,52,53,54] [3,4,1018,1041,2018,20006] (cn (decide (((i2 : Nat) : Int) < (((implPartners (crowd x0 14) (makeLaw (lawFresh x0 3)) ((i1 : Nat) : Int) (lawYear x0 1 (crowd x0 14))).length : Nat) : Int))) (.reg 2 [] [(1002,k26 v1.1 ((implPartners (crowd x0 14) (makeLaw (lawFresh x0 3)) ((i1 : Nat) : Int) (lawYear x0 1 (crowd x0 14))).getD i2 default))] [2,3,4,5,6,7,12,27,28,29,51,52,53,60] [3,4,1018,1041,2018,20006] [] [pf (0 ≤ (((i2 : Nat) : Int) : Int) ∧ (((i2 : Nat) : Int) : Int) < (((implPartners (crowd x0 14) (makeLaw (lawFresh x0 3)) ((i1 : Nat) : Int) (lawYear x0 1 (crowd x0 14))).length : Nat) : Int))] [] [0,4] (cn (!(lawHas v1.1 ((implPartners (crowd x0 14) (makeLaw (lawFresh x0 3)) ((i1 : Nat) : Int) (lawYear x0 1 (crowd x0 14))).getD i2 default))) (.reg 2 [] [(2,bsC 63 (cInt .i64) ([((implPartners (crowd x0 14) (makeLaw (lawFresh x0 3)) ((i1 : Nat) : Int) (lawYear x0 1 (crowd x0 14))).getD i2 default)] : List Int)),(3,ap1 64 (cInt .i64) 8 v1.1 ((implPartners (crowd x0 14) (makeLaw (lawFresh x0 3)) ((i1 : Nat) : Int) (lawYear x0 1 (crowd x0 14))).getD i2 default))] [2,3,4,5,6,7,27,28,29,51,52,53] [3,4,64,1018,1041,2018] [] [pf (inR .i64 (v1.2 + 1))] [] [4,8,0] (r1 1 [2,3,4,5,6,7,27,28,29] [3,4,64,1018,2018] [pf (inR .i64 (((i1 : Nat) : Int) + 1))] [0] (.next 1 [(20006,some 64)] (D5b1 x0 (i1 + 1) ((v1.1 ++ [((implPartners (crowd x0 14) (makeLaw (lawFresh x0 3)) ((i1 : Nat) : Int) (lawYear x0 1 (crowd x0 14))).getD i2 default)]),v1.2 + 1))))) (r1 1 [2,3,4,5,6,7,27,28,29,51,52,53] [3,4,1018,1041,2018,20006] [pf (inR .i64 (((i2 : Nat) : Int) + 1))] [0] (.next 0 [] (D5b2 x0 i1 v1 (i2 + 1) ()))))) (r1 1 [2,3,4,5,6,7,27,28,29] [3,4,1018,2018,20006] [pf (inR .i64 (((i1 : Nat) : Int) + 1))] [0] (.next 1 [(20006,some 20006)] (D5b1 x0 (i1 + 1) (v1.1,v1.2)))))
def A5b1 (x0 : List Int) (i1 : Nat) (v1 : (List Int) × Int) : Ann:=r0 1 [2,3,4,5,6,7,27,28,29,30] [3,4,1018,2018,20006] (cn (decide (((i1 : Nat) : Int) < ((((crowd x0 14).people).length : Nat) : Int))) (r1 1 [2,3,4,5,6,7,8,9,27,28,29] [3,4,9,1018,2018,20006] [pf (0 ≤ (((i1 : Nat) : Int) : Int) ∧ (((i1 : Nat) : Int) : Int) < ((((crowd x0 14).people).length : Nat) : Int))] [0] (r0 1 [2,3,4,5,6,7,8,27,28,29,36] [3,4,1018,2018,20006] (cn (!decide (((((crowd x0 14).people).getD i1 default).sex) = 1)) (r1 1 [2,3,4,5,6,7,27,28,29] [3,4,1018,2018,20006] [pf (inR .i64 (((i1 : Nat) : Int) + 1))] [0] (.next 0 [(20006,some 20006)] (D5b1 x0 (i1 + 1) (v1.1,v1.2)))) (.reg 1 [] [(4,k24 (crowd x0 14) (makeLaw (lawFresh x0 3)) ((i1 : Nat) : Int) (lawYear x0 1 (crowd x0 14)))] [2,3,4,5,6,7,8,10,27,28,29] [3,4,1018,1041,2018,20006] [] [] [] [0] (.reg 1 [] [(6,k25 (crowd x0 14) (makeLaw (lawFresh x0 3)) ((i1 : Nat) : Int) (lawYear x0 1 (crowd x0 14)))] [2,3,4,5,6,7,10,27,28,29,50] [3,4,1018,1041,2018,20006] [] [] [] [0] (cn (!decide ((((implPartners (crowd x0 14) (makeLaw (lawFresh x0 3)) ((i1 : Nat) : Int) (lawYear x0 1 (crowd x0 14))).length : Nat) : Int) = (((specPartners (crowd x0 14) (makeLaw (lawFresh x0 3)) ((i1 : Nat) : Int) (lawYear x0 1 (crowd x0 14))).length : Nat) : Int))) (r0 1 [2,3,4,5,6,7,10,27,28,29] [3,4,1018,1041,2018,20006] (rt [] (C5 false))) (r0 1 [2,3,4,5,6,7,27,28,29,51,52,53] [3,4,1018,1041,2018,20006] (lp (D5b2 x0 i1 v1) [] [] [] (D5b2 x0 i1 v1 0 ()) (A5b2 x0 i1 v1))))))))) (.reg 2 [] [(3,k13 (crowd x0 14) (makeLaw (lawFresh x0 3)) (lawYear x0 1 (crowd x0 14)))] [2] [] [decide (v1.2 ≤ (implMost (crowd x0 14) (makeLaw (lawFresh x0 3)) (lawYear x0 1 (crowd x0 14))))] [gt (decide (v1.2 ≤ (implMost (crowd x0 14) (makeLaw (lawFresh x0 3)) (lawYear x0 1 (crowd x0 14))))) (pf (inR .i64 (2 * v1.2)))] [] [4,1,0,1,1,1] (rt [] (C5 ((decide (v1.2 ≤ (implMost (crowd x0 14) (makeLaw (lawFresh x0 3)) (lawYear x0 1 (crowd x0 14))))) && (decide ((implMost (crowd x0 14) (makeLaw (lawFresh x0 3)) (lawYear x0 1 (crowd x0 14))) ≤ (2 * v1.2))))))))
def A5 (x0 : List Int) : Ann:=r0 1 [0,2] [] (r0 1 [0,2,16] [] (cn (decide (1048576 < ((x0.length : Nat) : Int))) (r0 1 [0,2] [] (rt [] (C5 true))) (.reg 5 [] [(1,k15 x0 14),(1001,k17 x0 3),(1002,k16 (lawFresh x0 3)),(2002,k20 x0 1 (crowd x0 14)),(3000,bsC 25 (cInt .i64) ([] : List Int))] [2,3,4,5,6,7] [3,4,25,1018,2018] [] [] [] [0,4,8,12,16] (r0 1 [2,3,4,5,6,7,27,28,29] [3,4,25,1018,2018] (lp (D5b1 x0) [] [25] [(20006,some 25)] (D5b1 x0 0 (([] : List Int),0)) (A5b1 x0))))))
theorem law_FnWeddings {x0 : List Int} (hx : x0.length ≤ 1048576 ∧ ∀ y ∈ x0, inR .u8 y) : laws_FnWeddings_m x0 = true := by
  have hf:=(crowd_bd hx 14).1
  have hl:=makeLaw_ok (fresh_ok x0 3).1 (fresh_ok x0 3).2
  unfold laws_FnWeddings_m
  rw [decide_eq_false (by have:=hx.1;omega),cond_false]
  revert hf hl
  generalize lawYear x0 1 (crowd x0 14) = y
  generalize crowd x0 14 = f
  generalize makeLaw (lawFresh x0 3) = l
  intro hf hl
  refine loopN_to (fun i (v : List Int × Int)=>GrI (canI f l y) f.people.length i v.1 v.2) (fun (r : Bool)=>r = true) (GrI.start _ _) (fun i v nx hi hv hn=>?_) (fun v hv=>weddings_ok hf hl hv)
  refine cond_both (p:=fun (r : Bool)=>r = true) (fun c=>?_) (fun c=>?_)
  · refine hn _ (hv.skip fun b hb hc=>?_)
    unfold canI at hc
    simp only [Bool.not_eq_true',decide_eq_false_iff_not] at c
    simp only [Bool.and_eq_true,decide_eq_true_eq] at hc
    exact absurd hc.1.1 c
  · have hs : (f.people.getD i default).sex = 1:=by simpa using c
    rw [partners_eq,decide_eq_true rfl,← partners_eq]
    simp only [Bool.not_true,cond_false]
    have hm:=fun z=>part_iff hf hl hi hs y z
    generalize implPartners f l ((i : Nat) : Int) y = L at hm
    refine loopN_to (fun j (_ : Unit)=>∀ k : Nat,k < j → L.getD k default ∈ v.1) (fun (r : Bool)=>r = true) (fun k hk=>absurd hk (Nat.not_lt_zero _)) (fun j w next hj hw hn2=>?_) (fun w hw=>hn _ (hv.skip fun b hb hc=>?_))
    · refine cond_both (p:=fun (r : Bool)=>r = true) (fun c=>?_) (fun c=>hn2 _ fun k hk=>?_)
      · obtain ⟨q,e1,e2,e3⟩:=(hm _).1 (getD_mem (d:=default) hj)
        have c : lawHas v.1 (L.getD j default) = false:=by simpa using c
        rw [e1] at c ⊢
        exact hn _ (hv.wed e2 e3 fun z=>by rw [(lawHas_iff _ _).2 z] at c;cases c)
      · have c : lawHas v.1 (L.getD j default) = true:=by simpa using c
        by_cases e : k = j
        · rw [e];exact (lawHas_iff _ _).1 c
        · exact hw k (by omega)
    · obtain ⟨k,hk,e⟩:=mem_getD (d:=default) ((hm _).2 ⟨b,rfl,hb,hc⟩)
      rw [← e];exact hw k hk
theorem ok_laws_FnWeddings (x0 : List Int) (hx0 : x0.length ≤ 1048576 ∧ ∀ y ∈ x0, inR .u8 y) : FnT Try.prog 5 [.ro false 1 x0.length (rowOf (cInt .u8) x0)] (C5 true) := by
  have aux : ∀ R, laws_FnWeddings_m x0 = R → slim (C5 R) (A5 x0) [] := by
    intro R hR
    refine rg trivial ?_
    refine rg trivial ?_
    revert hR;refine cd (fun hc1 hR=>?_) fun hc1 hR=>?_
    ·
      refine rg trivial ?_
      exact congrArg C5 hR
    ·
      refine rg ⟨⟨by (intros;omega),by (with_reducible exact (bytes_ok hx0).2),by (intros;omega)⟩,⟨by (intros;omega),by (with_reducible exact (bytes_ok hx0).2),by (intros;omega)⟩,⟨by (exact (fresh_ok x0 3).1),by (exact (fresh_ok x0 3).2)⟩,⟨by (intros;omega),by (with_reducible exact (bytes_ok hx0).2),by (intros;omega),by (with_reducible exact (crowd_bd hx0 14).1),by (have h9:=crowd_bd hx0 14;omega)⟩,trivial,trivial⟩ ?_
      refine rg trivial ?_
      revert hR;refine lN (fun i v=>v.1.length ≤ i ∧ 0 ≤ v.2 ∧ v.2 ≤ i) (by (exact ⟨Nat.le_refl _,by decide,by decide⟩)) rfl fun i1 v1 F1 hn1 hI1 hR hK1=>?_
      refine rg trivial ?_
      refine ⟨fun hc2=>?_,fun hc2=>?_⟩
      · have hii1 : i1 < ((crowd x0 14).people).length:=by have:=of_decide_eq_true hc2;omega
        replace hR:=loopN_step hR hii1
        refine rg ⟨by (intros;omega),trivial⟩ ?_
        refine rg trivial ?_
        revert hR;refine cd (fun hc3 hR=>?_) fun hc3 hR=>?_
        ·
          refine rg ⟨by (have h9:=crowd_bd hx0 14;have h8:=hI1;intros;simp only [inR];omega),trivial⟩ ?_
          exact hK1 (v1.1,v1.2) hii1 (by (have h9:=crowd_bd hx0 14;have h8:=hI1;intros;simp only [inR];omega)) hR
        ·
          refine rg ⟨⟨by (have h9:=crowd_bd hx0 14;omega),by (have h9:=crowd_bd hx0 14;omega),by (with_reducible exact (crowd_bd hx0 14).2.2.2)⟩,trivial⟩ ?_
          refine rg ⟨⟨by (have h9:=crowd_bd hx0 14;omega),by (have h9:=crowd_bd hx0 14;omega),by (with_reducible exact (crowd_bd hx0 14).2.2.2)⟩,trivial⟩ ?_
          revert hR;refine cd (fun hc4 hR=>?_) fun hc4 hR=>?_
          ·
            refine rg trivial ?_
            exact congrArg C5 hR
          ·
            refine rg trivial ?_
            revert hR;refine lN (fun i v=>True) (by exact True.intro) rfl fun i2 v2 F2 hn2 hI2 hR hK2=>?_
            refine rg trivial ?_
            refine ⟨fun hc5=>?_,fun hc5=>?_⟩
            · have hii2 : i2 < (implPartners (crowd x0 14) (makeLaw (lawFresh x0 3)) ((i1 : Nat) : Int) (lawYear x0 1 (crowd x0 14))).length:=by have:=of_decide_eq_true hc5;omega
              replace hR:=loopN_step hR hii2
              refine rg ⟨by (intros;omega),by (have h9:=crowd_bd hx0 14;omega),trivial⟩ ?_
              revert hR;refine cd (fun hc6 hR=>?_) fun hc6 hR=>?_
              ·
                refine rg ⟨by (have h9:=crowd_bd hx0 14;have h8:=hI1;intros;simp only [inR];omega),trivial,by (have h9:=crowd_bd hx0 14;omega),trivial⟩ ?_
                refine rg ⟨by (have h9:=crowd_bd hx0 14;have h8:=hI1;intros;simp only [inR];omega),trivial⟩ ?_
                exact hK1 ((v1.1 ++ [((implPartners (crowd x0 14) (makeLaw (lawFresh x0 3)) ((i1 : Nat) : Int) (lawYear x0 1 (crowd x0 14))).getD i2 default)]),v1.2 + 1) hii1 (by (have h9:=hI1;simp only [List.length_append,List.length_singleton];omega)) hR
              ·
                refine rg ⟨by (have h7:=congrArg List.length (partners_eq (crowd x0 14) (makeLaw (lawFresh x0 3)) ((i1 : Nat) : Int) (lawYear x0 1 (crowd x0 14)));have h9:=specPartners_len (crowd x0 14) (makeLaw (lawFresh x0 3)) ((i1 : Nat) : Int) (lawYear x0 1 (crowd x0 14));have h8:=crowd_bd hx0 14;(try simp only [inR]);omega),trivial⟩ ?_
                exact hK2 () hii2 (by exact True.intro) hR
            · obtain rfl : i2 = (implPartners (crowd x0 14) (makeLaw (lawFresh x0 3)) ((i1 : Nat) : Int) (lawYear x0 1 (crowd x0 14))).length:=by have:=of_decide_eq_false hc5;omega
              replace hR:=loopN_end hR (Nat.lt_irrefl _)
              refine rg ⟨by (have h9:=crowd_bd hx0 14;have h8:=hI1;intros;simp only [inR];omega),trivial⟩ ?_
              exact hK1 (v1.1,v1.2) hii1 (by (have h9:=crowd_bd hx0 14;have h8:=hI1;intros;simp only [inR];omega)) hR
      · obtain rfl : i1 = ((crowd x0 14).people).length:=by have:=of_decide_eq_false hc2;omega
        replace hR:=loopN_end hR (Nat.lt_irrefl _)
        refine rg ⟨by (have h9:=crowd_bd hx0 14;have h8:=hI1;intros;simp only [inR];omega),⟨by (have h9:=crowd_bd hx0 14;omega),by (have h9:=crowd_bd hx0 14;omega),by (with_reducible exact (crowd_bd hx0 14).2.2.2)⟩,trivial⟩ ?_
        exact congrArg C5 hR
  exact Fn.go 82 Try.func5 (by kernel_rfl) (by kernel_rfl) (by simp [C5,Frs,FrsL]) (A5 x0) (by kernel_rfl) (aux _ (law_FnWeddings hx0))
theorem bulk_pos {H : Type} (d : DataW H) : 1 ≤ Rows.uptoBulk d := by
  cases d with
  | lit l=>cases l <;> simp [Rows.uptoBulk]
  | _=>simp [Rows.uptoBulk]
theorem bulkAll_len {H : Type} : ∀ l : List (DataW H), l.length ≤ Rows.uptoBulkAll l
  | []=>by simp
  | d :: l => by
    have:=bulk_pos d
    have:=bulkAll_len l
    simp only [Rows.uptoBulkAll,List.length_cons]
    omega
theorem bulkAll_mem {H : Type} : ∀ (l : List (DataW H)) (d : DataW H), d ∈ l → Rows.uptoBulk d ≤ Rows.uptoBulkAll l
  | [],d,h=>by cases h
  | e :: l, d, h => by
    simp only [Rows.uptoBulkAll]
    rcases List.mem_cons.1 h with e | h
    · rw [e];omega
    · have:=bulkAll_mem l d h
      omega
theorem bulk {H : Type} : Bulk (Rows.uptoBulk (H := H)) where
  str:=fun bs=>by simp [Rows.uptoBulk]
  slen := fun es sp => by
    have:=bulkAll_len es
    simp only [Rows.uptoBulk]
    omega
  sel := fun es sp e he => by
    have:=bulkAll_mem es e he
    simp only [Rows.uptoBulk]
    omega
  agg := fun ps p hp => by
    have:=bulkAll_mem ps p hp
    simp only [Rows.uptoBulk]
    omega
theorem own : ownKnob Try.prog.godebug = none:=by kernel_rfl
theorem laidOut : laidOutB Try.prog = true:=by kernel_rfl
set_option maxRecDepth 100000 in
theorem contract (H : Type) (enc : TypeId × Value → H) (W : World) (base : Nat) (args : Array Value) (ds gs : List (DataW H)) (before : List MemPlace)
    (hval : ∀ (j : Nat) t v,Try.f5.params[j]? = some t → args[j]? = some v → Value.okWide Try.prog W .any base t v)
    (hW : DataW.Whole enc Try.prog Try.f5.params.toList Rows.fnWeddingsSpec.vars false W args.toList ds gs before) (hk : Rows.uptoSmall H (ds ++ gs) = true) :
    Calls Try.prog 5 args W fun e W'=>∃ v,e = .returned v ∧ Rows.fnWeddingsSpec.post enc Try.prog Try.f5 false true false false W args v W':=by
  have hW':=hW
  obtain ⟨p,q,hA0,hV,hpq,hfz,hnd⟩:=hW
  have hA : DataW.TrodAll enc Try.prog W 0 (fun _=>true) true Try.f5.params.toList args.toList ds p:=hA0
  clear hA0
  rw [Try.params5] at hA hval
  obtain ⟨v0,vs0,d0,ds0,p0,q0,hargs,rfl,rfl,h0,hA1⟩:=trodAll_cons hA
  obtain ⟨rfl,rfl,rfl⟩:=trodAll_nil hA1
  obtain rfl : args = #[v0]:=by cases args;simp_all
  obtain ⟨rfl,rfl⟩:=trodVars_none hV
  obtain ⟨x0,k0,r0⟩:=top_slice (opens_slice bulk (mono_triv (p:=fun (n : Int)=>inR .u8 n)) Try.underlying39 (sz:=1) (by kernel_rfl) (by omega) (opens_int Try.underlying5)) Try.underlying39 (hval 0 39 v0 rfl rfl) h0
  have kk0:=((mono_sl (mono_triv (p:=fun (n : Int)=>inR .u8 n)))) _ _ x0 (show Rows.uptoBulk d0 ≤ 1048576 from Nat.le_trans (bulkAll_mem _ d0 (by simp)) (of_decide_eq_true hk)) k0
  refine (Lite.Fn.true_of (ok_laws_FnWeddings x0 kk0) trivial (by rfl) fun i lv v hl hv=>?_).mono fun e W' ⟨he,hb⟩=>⟨_,he,row_post laidOut (by kernel_rfl) rfl Try.underlying4 rfl rfl hW' hb⟩
  match i,hl,hv with
  | 0,hl,hv=>cases hl;cases hv;exact r0
  | _ + 1,hl,_=>simp at hl
set_option maxRecDepth 100000 in
theorem lifted (os : Os) (started : os.Started) (H : Type) (enc : TypeId × Value → H) (F : Stop.Interp) :
    ReturnsInHanded {} Try.checked os 5 .any ((Rows.OpenSpec.upto Rows.fnWeddingsSpec).pre6 enc Try.prog Try.f5 Rows.fnWeddingsUptoRow.domain false) (((Rows.OpenSpec.upto Rows.fnWeddingsSpec).at F).post enc Try.prog Try.f5 false true false false):=by
  refine returnsInHanded_of_cond (C := Try.checked) (s := Rows.OpenSpec.upto Rows.fnWeddingsSpec) (k := Rows.uptoSmall) rfl own started (by kernel_rfl) Try.func5
    (OpenSpec.witness (enc := enc) (C := Try.checked) (s := Rows.OpenSpec.upto Rows.fnWeddingsSpec) (k := Rows.uptoSmall) rfl false ⟨#[], #[.slice none 0 0], []⟩ 12 (by kernel_rfl) (by kernel_rfl) (by kernel_rfl)
      (x:=([.nil],[],[])) (by kernel_rfl) rfl (by kernel_rfl)) ?_
  intro W base args ds gs before hval hW _ hk _
  exact contract H enc W base args ds gs before hval hW hk
theorem proved : Rows.FnWeddingsUptoSaid :=
  OpenClaim.holds_of_cond 5 Try.f5 rfl rfl rfl rfl rfl rfl rfl ⟨rfl, rfl, rfl, rfl, rfl⟩ rfl rfl rfl rfl rfl (by kernel_rfl) Try.func5 (by kernel_rfl)
    (of_decide_eq_true (by kernel_rfl)) (by unfold Func.isWrapper;first | (rw [if_pos (by decide +kernel)];kernel_rfl) | (rw [if_neg (by decide +kernel)];exact ⟨rfl,rfl⟩))
    (fun os started H enc _ F=>lifted os started H enc F)
end Go.Proofs.Ytkkijpibajigfaa
