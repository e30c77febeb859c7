import Derived.Test.YtkkijpibajigfaaM216
set_option maxHeartbeats 4000000
set_option linter.unusedSimpArgs false
set_option linter.unusedVariables false
namespace Go.Proofs.Ytkkijpibajigfaa
open Go Go.Lite Go.Proofs
def C52 (x0 : List (List Int)) (x1 : List Int) (x2 : Int) (x3 : List Bool) (R : Bool × (List Int) × (List Bool)) : LV × List (Nat × BC):=(.bool R.1,[(900000,.arr 1 R.2.1.length (rowOf (cInt .i64) R.2.1)),(900001,.arr 1 R.2.2.length (rowOf (cBool) R.2.2))])
def wed_r : Nat → (List (List Int)) → (List Int) → Int → (List Bool) → Bool × (List Int) × (List Bool)
  | 0,_,_,_,_=>default
  | m + 1,x0,x1,x2,x3=>loopN (fun i1 (v1 : (List Int) × (List Bool)) next=>bif (v1.2.getD (((x0.getD x2.toNat default).getD i1 default).toNat) default) then (next (v1.1,v1.2)) else (bif (!(decide ((v1.1.getD (((x0.getD x2.toNat default).getD i1 default).toNat) default) < 0))) then (bif ((decide ((v1.1.getD (((x0.getD x2.toNat default).getD i1 default).toNat) default) < 0)) || ((wed_r m x0 v1.1 (v1.1.getD (((x0.getD x2.toNat default).getD i1 default).toNat) default) (v1.2.set (((x0.getD x2.toNat default).getD i1 default).toNat) true)).1)) then (true,(((wed_r m x0 v1.1 (v1.1.getD (((x0.getD x2.toNat default).getD i1 default).toNat) default) (v1.2.set (((x0.getD x2.toNat default).getD i1 default).toNat) true)).2.1).set (((x0.getD x2.toNat default).getD i1 default).toNat) x2),(wed_r m x0 v1.1 (v1.1.getD (((x0.getD x2.toNat default).getD i1 default).toNat) default) (v1.2.set (((x0.getD x2.toNat default).getD i1 default).toNat) true)).2.2) else (next ((wed_r m x0 v1.1 (v1.1.getD (((x0.getD x2.toNat default).getD i1 default).toNat) default) (v1.2.set (((x0.getD x2.toNat default).getD i1 default).toNat) true)).2.1,(wed_r m x0 v1.1 (v1.1.getD (((x0.getD x2.toNat default).getD i1 default).toNat) default) (v1.2.set (((x0.getD x2.toNat default).getD i1 default).toNat) true)).2.2))) else (bif ((decide ((v1.1.getD (((x0.getD x2.toNat default).getD i1 default).toNat) default) < 0)) || true) then (true,(v1.1.set (((x0.getD x2.toNat default).getD i1 default).toNat) x2),(v1.2.set (((x0.getD x2.toNat default).getD i1 default).toNat) true)) else (next (v1.1,(v1.2.set (((x0.getD x2.toNat default).getD i1 default).toNat) true)))))) (fun (v1 : (List Int) × (List Bool))=>(false,v1.1,v1.2)) ((x0.getD x2.toNat default).length) 0 (x1,x3)
def wed (x0 : List (List Int)) (x1 : List Int) (x2 : Int) (x3 : List Bool) : Bool × (List Int) × (List Bool):=wed_r 100 x0 x1 x2 x3
def kr52 (m d : Nat) (ids : List Nat) (x0 : List (List Int)) (x1 : List Int) (x2 : Int) (x3 : List Bool) : Cl:=(hresM d ids (C52 x0 x1 x2 x3 (wed_r m x0 x1 x2 x3)),pf (FnMT Try.prog 52 [.ro false 1 x0.length (rowOf (cSl false 1 (cInt .i64)) x0),.own 900000,.int .i64 x2,.own 900001] [.arr 1 x1.length (rowOf (cInt .i64) x1),.arr 1 x3.length (rowOf (cBool) x3)] (C52 x0 x1 x2 x3 (wed_r m x0 x1 x2 x3))))
def D52b1 (m : Nat) (x0 : List (List Int)) (x1 : List Int) (x2 : Int) (x3 : List Bool) (i1 : Nat) (v1 : (List Int) × (List Bool)) : Dl:=⟨[(16,.int .i64 ((i1 : Nat) : Int)),(1,.own 900000),(3,.own 900001)],[(900000,.arr 1 v1.1.length (rowOf (cInt .i64) v1.1)),(900001,.arr 1 v1.2.length (rowOf (cBool) v1.2))]⟩
def A52b1 (m : Nat) (x0 : List (List Int)) (x1 : List Int) (x2 : Int) (x3 : List Bool) (i1 : Nat) (v1 : (List Int) × (List Bool)) : Ann:=r0 1 [0,1,2,3,8,14,15,16,17] [900000,900001] (cn (decide (((i1 : Nat) : Int) < (((x0.getD x2.toNat default).length : Nat) : Int))) (r1 1 [0,1,2,3,8,10,14,15,16] [900000,900001] [pf (0 ≤ (((i1 : Nat) : Int) : Int) ∧ (((i1 : Nat) : Int) : Int) < (((x0.getD x2.toNat default).length : Nat) : Int))] [0] (r1 1 [0,1,2,3,8,10,14,15,16,23] [900000,900001] [pf (0 ≤ (((x0.getD x2.toNat default).getD i1 default) : Int) ∧ (((x0.getD x2.toNat default).getD i1 default) : Int) < ((v1.2.length : Nat) : Int))] [0] (cn (v1.2.getD (((x0.getD x2.toNat default).getD i1 default).toNat) default) (r1 1 [0,1,2,3,8,14,15,16] [900000,900001] [pf (inR .i64 (((i1 : Nat) : Int) + 1))] [0] (.next 0 [(900000,some 900000),(900001,some 900001)] (D52b1 m x0 x1 x2 x3 (i1 + 1) (v1.1,v1.2)))) (.split (!(decide ((v1.1.getD (((x0.getD x2.toNat default).getD i1 default).toNat) default) < 0))) (.reg 2 [] [(3,stL 900001 (cBool) v1.2 (((x0.getD x2.toNat default).getD i1 default).toNat) true),(1013,cT (kr52 m 40 [900000,900001] x0 v1.1 (v1.1.getD (((x0.getD x2.toNat default).getD i1 default).toNat) default) (v1.2.set (((x0.getD x2.toNat default).getD i1 default).toNat) true)))] [0,1,2,3,8,10,14,15,16,41] [900000,900001] [!(decide ((v1.1.getD (((x0.getD x2.toNat default).getD i1 default).toNat) default) < 0))] [pf (0 ≤ (((x0.getD x2.toNat default).getD i1 default) : Int) ∧ (((x0.getD x2.toNat default).getD i1 default) : Int) < ((v1.2.length : Nat) : Int)),pf (0 ≤ (((x0.getD x2.toNat default).getD i1 default) : Int) ∧ (((x0.getD x2.toNat default).getD i1 default) : Int) < ((v1.1.length : Nat) : Int)),gt (!(decide ((v1.1.getD (((x0.getD x2.toNat default).getD i1 default).toNat) default) < 0))) (pf (0 ≤ (((x0.getD x2.toNat default).getD i1 default) : Int) ∧ (((x0.getD x2.toNat default).getD i1 default) : Int) < ((v1.1.length : Nat) : Int))),pf ((!(decide ((v1.1.getD (((x0.getD x2.toNat default).getD i1 default).toNat) default) < 0))) = true)] [] [0,16,4,1,1,8,1,12,12,12,12,12,20] (cn ((decide ((v1.1.getD (((x0.getD x2.toNat default).getD i1 default).toNat) default) < 0)) || ((wed_r m x0 v1.1 (v1.1.getD (((x0.getD x2.toNat default).getD i1 default).toNat) default) (v1.2.set (((x0.getD x2.toNat default).getD i1 default).toNat) true)).1)) (.reg 2 [] [(4,stL 900000 (cInt .i64) ((wed_r m x0 v1.1 (v1.1.getD (((x0.getD x2.toNat default).getD i1 default).toNat) default) (v1.2.set (((x0.getD x2.toNat default).getD i1 default).toNat) true)).2.1) (((x0.getD x2.toNat default).getD i1 default).toNat) x2)] [0,1,2,3,8,14,15,16] [900000,900001] [] [pf (0 ≤ (((x0.getD x2.toNat default).getD i1 default) : Int) ∧ (((x0.getD x2.toNat default).getD i1 default) : Int) < ((((wed_r m x0 v1.1 (v1.1.getD (((x0.getD x2.toNat default).getD i1 default).toNat) default) (v1.2.set (((x0.getD x2.toNat default).getD i1 default).toNat) true)).2.1).length : Nat) : Int))] [] [0,4] (rt [(900000,some 900000),(900001,some 900001)] (C52 x0 x1 x2 x3 (true,(((wed_r m x0 v1.1 (v1.1.getD (((x0.getD x2.toNat default).getD i1 default).toNat) default) (v1.2.set (((x0.getD x2.toNat default).getD i1 default).toNat) true)).2.1).set (((x0.getD x2.toNat default).getD i1 default).toNat) x2),(wed_r m x0 v1.1 (v1.1.getD (((x0.getD x2.toNat default).getD i1 default).toNat) default) (v1.2.set (((x0.getD x2.toNat default).getD i1 default).toNat) true)).2.2)))) (r1 1 [0,1,2,3,8,14,15,16] [900000,900001] [pf (inR .i64 (((i1 : Nat) : Int) + 1))] [0] (.next 0 [(900000,some 900000),(900001,some 900001)] (D52b1 m x0 x1 x2 x3 (i1 + 1) ((wed_r m x0 v1.1 (v1.1.getD (((x0.getD x2.toNat default).getD i1 default).toNat) default) (v1.2.set (((x0.getD x2.toNat default).getD i1 default).toNat) true)).2.1,(wed_r m x0 v1.1 (v1.1.getD (((x0.getD x2.toNat default).getD i1 default).toNat) default) (v1.2.set (((x0.getD x2.toNat default).getD i1 default).toNat) true)).2.2)))))) (.reg 2 [(1013,.gF)] [(3,stL 900001 (cBool) v1.2 (((x0.getD x2.toNat default).getD i1 default).toNat) true)] [0,1,2,3,8,10,14,15,16,41] [900000,900001] [!(decide ((v1.1.getD (((x0.getD x2.toNat default).getD i1 default).toNat) default) < 0))] [pf (0 ≤ (((x0.getD x2.toNat default).getD i1 default) : Int) ∧ (((x0.getD x2.toNat default).getD i1 default) : Int) < ((v1.2.length : Nat) : Int)),pf (0 ≤ (((x0.getD x2.toNat default).getD i1 default) : Int) ∧ (((x0.getD x2.toNat default).getD i1 default) : Int) < ((v1.1.length : Nat) : Int)),gt (!(decide ((v1.1.getD (((x0.getD x2.toNat default).getD i1 default).toNat) default) < 0))) (pf (0 ≤ (((x0.getD x2.toNat default).getD i1 default) : Int) ∧ (((x0.getD x2.toNat default).getD i1 default) : Int) < ((v1.1.length : Nat) : Int))),pf ((!(decide ((v1.1.getD (((x0.getD x2.toNat default).getD i1 default).toNat) default) < 0))) = false),gf (decide ((v1.1.getD (((x0.getD x2.toNat default).getD i1 default).toNat) default) < 0)) (pf (false = true))] [] [0,20,4,1,1,8,1,12,16] (cn ((decide ((v1.1.getD (((x0.getD x2.toNat default).getD i1 default).toNat) default) < 0)) || true) (.reg 2 [] [(4,stL 900000 (cInt .i64) v1.1 (((x0.getD x2.toNat default).getD i1 default).toNat) x2)] [0,1,2,3,8,14,15,16] [900000,900001] [] [pf (0 ≤ (((x0.getD x2.toNat default).getD i1 default) : Int) ∧ (((x0.getD x2.toNat default).getD i1 default) : Int) < ((v1.1.length : Nat) : Int))] [] [0,4] (rt [(900000,some 900000),(900001,some 900001)] (C52 x0 x1 x2 x3 (true,(v1.1.set (((x0.getD x2.toNat default).getD i1 default).toNat) x2),(v1.2.set (((x0.getD x2.toNat default).getD i1 default).toNat) true))))) (r1 1 [0,1,2,3,8,14,15,16] [900000,900001] [pf (inR .i64 (((i1 : Nat) : Int) + 1))] [0] (.next 0 [(900000,some 900000),(900001,some 900001)] (D52b1 m x0 x1 x2 x3 (i1 + 1) (v1.1,(v1.2.set (((x0.getD x2.toNat default).getD i1 default).toNat) true))))))))))) (r0 1 [8] [900000,900001] (rt [(900000,some 900000),(900001,some 900001)] (C52 x0 x1 x2 x3 (false,v1.1,v1.2)))))
def A52 (m : Nat) (x0 : List (List Int)) (x1 : List Int) (x2 : Int) (x3 : List Bool) : Ann:=r0 1 [0,1,2,3,8] [900000,900001] (r1 1 [0,1,2,3,8,14,15,16] [900000,900001] [pf (0 ≤ (x2 : Int) ∧ (x2 : Int) < ((x0.length : Nat) : Int))] [0] (lp (D52b1 m x0 x1 x2 x3) [] [] [(900000,some 900000),(900001,some 900001)] (D52b1 m x0 x1 x2 x3 0 (x1,x3)) (A52b1 m x0 x1 x2 x3)))
theorem wed_ok : ∀ (m : Nat) (may : List (List Int)) (hus : List Int) (a : Int) (tr : List Bool), WedOk may hus a tr → tr.count false < m → WI tr.length (tr.count false) (wed_r m may hus a tr).2.1 (wed_r m may hus a tr).2.2
  | 0,_,_,_,_,_,h=>absurd h (Nat.not_lt_zero _)
  | m + 1, may, hus, a, tr, h, hm => by
    unfold wed_r
    refine loopN_to (fun i (v : List Int × List Bool)=>WI tr.length (tr.count false) v.1 v.2) (fun (r : Bool × List Int × List Bool)=>WI tr.length (tr.count false) r.2.1 r.2.2) h.start (fun i v next hi hv hn=>?_) (fun v hv=>hv)
    have hb:=h.b hi
    generalize (may.getD a.toNat default).getD i default = b at hb
    refine cond_both (p:=fun (r : Bool × List Int × List Bool)=>WI tr.length (tr.count false) r.2.1 r.2.2) (fun _=>hn _ hv) (fun c=>?_)
    have hb2 : b.toNat < tr.length:=by omega
    have hk:=hv.mark hb2 c
    have hk2:=hk.1.mono (show _ ≤ tr.count false by omega)
    refine cond_both (p:=fun (r : Bool × List Int × List Bool)=>WI tr.length (tr.count false) r.2.1 r.2.2) (fun c2=>?_) (fun c2=>?_)
    · have c2 : ¬ v.1.getD b.toNat default < 0:=by simpa using c2
      have hw:=wed_ok m may v.1 _ _ (h.call hv hb2 c2) (by omega)
      have e : (v.2.set b.toNat true).length = tr.length:=by rw [List.length_set];exact hv.tl
      rw [e] at hw
      have hw2:=hw.mono (show _ ≤ tr.count false by omega)
      exact cond_both (p:=fun (r : Bool × List Int × List Bool)=>WI tr.length (tr.count false) r.2.1 r.2.2) (fun _=>hw2.put h.ain _) (fun _=>hn _ hw2)
    · exact cond_both (p:=fun (r : Bool × List Int × List Bool)=>WI tr.length (tr.count false) r.2.1 r.2.2) (fun _=>hk2.put h.ain _) (fun _=>hn _ hk2)
theorem WedOk.again {may : List (List Int)} {hus : List Int} {a : Int} {tr : List Bool} (h : WedOk may hus a tr) {h' : List Int} {t' : List Bool} (w : WI tr.length (tr.count false) h' t') {m : Nat} (hm : tr.count false < m + 1) {b : Nat} (hb : b < tr.length) (hf : t'.getD b default = false) (hn : ¬ h'.getD b default < 0) :
    WI tr.length (tr.count false) (wed_r m may h' (h'.getD b default) (t'.set b true)).2.1 (wed_r m may h' (h'.getD b default) (t'.set b true)).2.2:=by
  have hk:=w.mark hb hf
  have hw:=wed_ok m may h' _ _ (h.call w hb hn) (by omega)
  rw [show (t'.set b true).length = tr.length by rw [List.length_set];exact w.tl] at hw
  exact hw.mono (by omega)

theorem ok_impl_wed (x0 : List (List Int)) (x1 : List Int) (x2 : Int) (x3 : List Bool) (h : WedOk x0 x1 x2 x3) : FnMT Try.prog 52 [.ro false 1 x0.length (rowOf (cSl false 1 (cInt .i64)) x0), .own 900000, .int .i64 x2, .own 900001] [.arr 1 x1.length (rowOf (cInt .i64) x1), .arr 1 x3.length (rowOf (cBool) x3)] (C52 x0 x1 x2 x3 (wed x0 x1 x2 x3)) := by
  have all : ∀ (m : Nat) (x0 : List (List Int)) (x1 : List Int) (x2 : Int) (x3 : List Bool) (h : WedOk x0 x1 x2 x3) (hm : x3.count false < m), FnMT Try.prog 52 [.ro false 1 x0.length (rowOf (cSl false 1 (cInt .i64)) x0), .own 900000, .int .i64 x2, .own 900001] [.arr 1 x1.length (rowOf (cInt .i64) x1), .arr 1 x3.length (rowOf (cBool) x3)] (C52 x0 x1 x2 x3 (wed_r m x0 x1 x2 x3)) := by
    intro m;induction m
    · intros;exact absurd (by assumption) (Nat.not_lt_zero _)
    rename_i m ih
    intro x0 x1 x2 x3 h hm
    have aux : ∀ R, wed_r (m + 1) x0 x1 x2 x3 = R → slim (C52 x0 x1 x2 x3 R) (A52 m x0 x1 x2 x3) [] := by
      intro R hR
      rw [wed_r] at hR
      refine rg trivial ?_
      refine rg ⟨by (have h6:=h.ain;have h5:=h.n40;have h4:=h.rowL;have h3:=h.ml;(try simp only [inR]);omega),trivial⟩ ?_
      revert hR;refine lN (fun i v=>WI x3.length (x3.count false) v.1 v.2) (by (exact h.start)) rfl fun i1 v1 F1 hn1 hI1 hR hK1=>?_
      refine rg trivial ?_
      refine ⟨fun hc1=>?_,fun hc1=>?_⟩
      · have hii1 : i1 < (x0.getD x2.toNat default).length:=by have:=of_decide_eq_true hc1;omega
        replace hR:=loopN_step hR hii1
        refine rg ⟨by (intros;omega),trivial⟩ ?_
        refine rg ⟨by (have h9:=h.b hii1;have h8:=hI1.hl;have h7:=hI1.tl;(try simp only [List.length_set]);omega),trivial⟩ ?_
        revert hR;refine cd (fun hc2 hR=>?_) fun hc2 hR=>?_
        ·
          refine rg ⟨by (have h9:=h.b hii1;have h8:=hI1.hl;have h7:=hI1.tl;have h6:=h.ain;have h5:=h.n40;have h4:=h.rowL;(try simp only [inR]);omega),trivial⟩ ?_
          exact hK1 (v1.1,v1.2) hii1 (by with_reducible assumption) hR
        ·
          revert hR;refine cd (fun hs3 hR=>?_) fun hs3 hR=>?_
          ·
            refine rg ⟨by (have h9:=h.b hii1;have h8:=hI1.hl;have h7:=hI1.tl;(try simp only [List.length_set]);omega),by (have h9:=h.b hii1;have h8:=hI1.hl;have h7:=hI1.tl;(try simp only [List.length_set]);omega),by (have h9:=h.b hii1;have h8:=hI1.hl;have h7:=hI1.tl;(try simp only [List.length_set]);omega),by with_reducible assumption,by (have h9:=h.b hii1;have h8:=hI1.hl;have h7:=hI1.tl;(try simp only [List.length_set]);omega),ih x0 v1.1 (v1.1.getD (((x0.getD x2.toNat default).getD i1 default).toNat) default) (v1.2.set (((x0.getD x2.toNat default).getD i1 default).toNat) true) (by (have h9:=h.b hii1;have h7 : (v1.2).getD ((x0.getD x2.toNat default).getD i1 default).toNat default = false:=(by first | exact hc2 | exact (or_f_iff.1 hc2).2 | exact hc2.2);have h6 : ¬ (v1.1).getD ((x0.getD x2.toNat default).getD i1 default).toNat default < 0:=(by first | exact hs3 | simpa using hs3);exact h.call hI1 (by omega) h6)) (by (have h9:=h.b hii1;have h7 : (v1.2).getD ((x0.getD x2.toNat default).getD i1 default).toNat default = false:=(by first | exact hc2 | exact (or_f_iff.1 hc2).2 | exact hc2.2);have h6 : ¬ (v1.1).getD ((x0.getD x2.toNat default).getD i1 default).toNat default < 0:=(by first | exact hs3 | simpa using hs3);have h8:=(hI1.mark (b:=((x0.getD x2.toNat default).getD i1 default).toNat) (by omega) h7).2;omega)),trivial⟩ ?_
            revert hR;refine cd (fun hc4 hR=>?_) fun hc4 hR=>?_
            ·
              refine rg ⟨by (have h9:=h.b hii1;have h7 : (v1.2).getD ((x0.getD x2.toNat default).getD i1 default).toNat default = false:=(by first | exact hc2 | exact (or_f_iff.1 hc2).2 | exact hc2.2);have h6 : ¬ (v1.1).getD ((x0.getD x2.toNat default).getD i1 default).toNat default < 0:=(by first | exact hs3 | simpa using hs3);have h8:=(h.again hI1 hm (b:=((x0.getD x2.toNat default).getD i1 default).toNat) (by omega) h7 h6).hl;omega),by (have h9:=h.b hii1;have h7 : (v1.2).getD ((x0.getD x2.toNat default).getD i1 default).toNat default = false:=(by first | exact hc2 | exact (or_f_iff.1 hc2).2 | exact hc2.2);have h6 : ¬ (v1.1).getD ((x0.getD x2.toNat default).getD i1 default).toNat default < 0:=(by first | exact hs3 | simpa using hs3);have h8:=(h.again hI1 hm (b:=((x0.getD x2.toNat default).getD i1 default).toNat) (by omega) h7 h6).hl;omega),trivial⟩ ?_
              exact congrArg (C52 x0 x1 x2 x3) hR
            ·
              refine rg ⟨by (have h9:=h.b hii1;have h8:=hI1.hl;have h7:=hI1.tl;have h6:=h.ain;have h5:=h.n40;have h4:=h.rowL;(try simp only [inR]);omega),trivial⟩ ?_
              exact hK1 ((wed_r m x0 v1.1 (v1.1.getD (((x0.getD x2.toNat default).getD i1 default).toNat) default) (v1.2.set (((x0.getD x2.toNat default).getD i1 default).toNat) true)).2.1,(wed_r m x0 v1.1 (v1.1.getD (((x0.getD x2.toNat default).getD i1 default).toNat) default) (v1.2.set (((x0.getD x2.toNat default).getD i1 default).toNat) true)).2.2) hii1 (by (have h9:=h.b hii1;have h7 : (v1.2).getD ((x0.getD x2.toNat default).getD i1 default).toNat default = false:=(by first | exact hc2 | exact (or_f_iff.1 hc2).2 | exact hc2.2);have h6 : ¬ (v1.1).getD ((x0.getD x2.toNat default).getD i1 default).toNat default < 0:=(by first | exact hs3 | simpa using hs3);exact h.again hI1 hm (by omega) h7 h6)) hR
          ·
            refine rg ⟨by (have h9:=h.b hii1;have h8:=hI1.hl;have h7:=hI1.tl;(try simp only [List.length_set]);omega),by (have h9:=h.b hii1;have h8:=hI1.hl;have h7:=hI1.tl;(try simp only [List.length_set]);omega),by (have h9:=h.b hii1;have h8:=hI1.hl;have h7:=hI1.tl;(try simp only [List.length_set]);omega),by with_reducible assumption,by (clear ih;(try clear hR hK1);intros;(try simp only [decide_eq_true_eq,decide_eq_false_iff_not,Bool.or_eq_true,Bool.and_eq_true,or_f_iff,not_f_iff,not_t_iff,Bool.not_eq_true',inR] at *);(repeat' apply And.intro) <;> (intros;omega)),by (have h9:=h.b hii1;have h8:=hI1.hl;have h7:=hI1.tl;(try simp only [List.length_set]);omega),trivial⟩ ?_
            revert hR;refine cd (fun hc5 hR=>?_) fun hc5 hR=>?_
            ·
              refine rg ⟨by (have h9:=h.b hii1;have h8:=hI1.hl;have h7:=hI1.tl;(try simp only [List.length_set]);omega),by (have h9:=h.b hii1;have h8:=hI1.hl;have h7:=hI1.tl;(try simp only [List.length_set]);omega),trivial⟩ ?_
              exact congrArg (C52 x0 x1 x2 x3) hR
            ·
              refine rg ⟨by (have h9:=h.b hii1;have h8:=hI1.hl;have h7:=hI1.tl;have h6:=h.ain;have h5:=h.n40;have h4:=h.rowL;(try simp only [inR]);omega),trivial⟩ ?_
              exact hK1 (v1.1,(v1.2.set (((x0.getD x2.toNat default).getD i1 default).toNat) true)) hii1 (by (have h9:=h.b hii1;have h7 : (v1.2).getD ((x0.getD x2.toNat default).getD i1 default).toNat default = false:=(by first | exact hc2 | exact (or_f_iff.1 hc2).2 | exact hc2.2);have h8:=hI1.mark (b:=((x0.getD x2.toNat default).getD i1 default).toNat) (by omega) h7;exact h8.1.mono (by omega))) hR
      · obtain rfl : i1 = (x0.getD x2.toNat default).length:=by have:=of_decide_eq_false hc1;omega
        replace hR:=loopN_end hR (Nat.lt_irrefl _)
        refine rg trivial ?_
        exact congrArg (C52 x0 x1 x2 x3) hR
    exact FnM.go 47 Try.func52 (by kernel_rfl) (by kernel_rfl) (A52 m x0 x1 x2 x3) (by kernel_rfl) (aux _ rfl)
  exact all 100 x0 x1 x2 x3 h (h.fuel)
def k52 (d : Nat) (ids : List Nat) (x0 : List (List Int)) (x1 : List Int) (x2 : Int) (x3 : List Bool) : Cl:=(hresM d ids (C52 x0 x1 x2 x3 (wed x0 x1 x2 x3)),k1 (ok_impl_wed x0 x1 x2 x3))
def l9Aug_r : Nat → (List (List Bool)) → Int → (List Bool) → (List Int) → Bool × (List Bool) × (List Int)
  | 0,_,_,_,_=>default
  | m + 1,x0,x1,x2,x3=>loopN (fun i1 (v1 : (List Bool) × (List Int)) next=>bif ((!((x0.getD x1.toNat default).getD i1 default)) || (v1.1.getD i1 default)) then (next (v1.1,v1.2)) else (bif (!(decide ((v1.2.getD i1 default) < 0))) then (bif ((decide ((v1.2.getD i1 default) < 0)) || ((l9Aug_r m x0 (v1.2.getD i1 default) (v1.1.set i1 true) v1.2).1)) then (true,(l9Aug_r m x0 (v1.2.getD i1 default) (v1.1.set i1 true) v1.2).2.1,(((l9Aug_r m x0 (v1.2.getD i1 default) (v1.1.set i1 true) v1.2).2.2).set i1 x1)) else (next ((l9Aug_r m x0 (v1.2.getD i1 default) (v1.1.set i1 true) v1.2).2.1,(l9Aug_r m x0 (v1.2.getD i1 default) (v1.1.set i1 true) v1.2).2.2))) else (bif ((decide ((v1.2.getD i1 default) < 0)) || true) then (true,(v1.1.set i1 true),(v1.2.set i1 x1)) else (next ((v1.1.set i1 true),v1.2))))) (fun (v1 : (List Bool) × (List Int))=>(false,v1.1,v1.2)) x0.length 0 (x2,x3)
theorem aug_ok : ∀ (m : Nat) (may : List (List Bool)) (a : Int) (met : List Bool) (of0 : List Int), AugOk may a met of0 → met.count false < m → WI met.length (met.count false) (l9Aug_r m may a met of0).2.2 (l9Aug_r m may a met of0).2.1
  | 0,_,_,_,_,_,h=>absurd h (Nat.not_lt_zero _)
  | m + 1, may, a, met, of0, h, hm => by
    unfold l9Aug_r
    refine loopN_to (fun i (v : List Bool × List Int)=>WI met.length (met.count false) v.2 v.1) (fun (r : Bool × List Bool × List Int)=>WI met.length (met.count false) r.2.2 r.2.1) h.start (fun i v next hi hv hn=>?_) (fun v hv=>hv)
    refine cond_both (p:=fun (r : Bool × List Bool × List Int)=>WI met.length (met.count false) r.2.2 r.2.1) (fun _=>hn _ hv) (fun c=>?_)
    rw [or_f_iff] at c
    have hb2 : i < met.length:=by have:=h.ml;omega
    have hk:=hv.mark hb2 c.2
    have hk2:=hk.1.mono (show _ ≤ met.count false by omega)
    refine cond_both (p:=fun (r : Bool × List Bool × List Int)=>WI met.length (met.count false) r.2.2 r.2.1) (fun c2=>?_) (fun c2=>?_)
    · have c2 : ¬ v.2.getD i default < 0:=by simpa using c2
      have hw:=aug_ok m may _ _ _ (h.call hv hb2 c2) (by omega)
      have e : (v.1.set i true).length = met.length:=by rw [List.length_set];exact hv.tl
      rw [e] at hw
      have hw2:=hw.mono (show _ ≤ met.count false by omega)
      exact cond_both (p:=fun (r : Bool × List Bool × List Int)=>WI met.length (met.count false) r.2.2 r.2.1) (fun _=>hw2.put h.ain _) (fun _=>hn _ hw2)
    · exact cond_both (p:=fun (r : Bool × List Bool × List Int)=>WI met.length (met.count false) r.2.2 r.2.1) (fun _=>hk2.put h.ain _) (fun _=>hn _ hk2)
theorem AugOk.again {may : List (List Bool)} {a : Int} {met : List Bool} {of0 : List Int} (h : AugOk may a met of0) {h' : List Int} {t' : List Bool} (w : WI met.length (met.count false) h' t') {m : Nat} (hm : met.count false < m + 1) {b : Nat} (hb : b < met.length) (hf : t'.getD b default = false) (hn : ¬ h'.getD b default < 0) :
    WI met.length (met.count false) (l9Aug_r m may (h'.getD b default) (t'.set b true) h').2.2 (l9Aug_r m may (h'.getD b default) (t'.set b true) h').2.1:=by
  have hk:=w.mark hb hf
  have hw:=aug_ok m may _ _ _ (h.call w hb hn) (by omega)
  rw [show (t'.set b true).length = met.length by rw [List.length_set];exact w.tl] at hw
  exact hw.mono (by omega)

end Go.Proofs.Ytkkijpibajigfaa
