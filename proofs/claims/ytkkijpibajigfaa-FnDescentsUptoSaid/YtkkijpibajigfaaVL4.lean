import Derived.Test.YtkkijpibajigfaaVL3
set_option maxHeartbeats 4000000
set_option linter.unusedSimpArgs false
set_option linter.unusedVariables false
namespace Go.Proofs.Ytkkijpibajigfaa
open Go Go.Lite Go.Proofs
def C158L (x0:SrtL) (x1:Int) (x2:Int) (R:(List (List Int))):LV×List (Nat×BC):=(.tup [],[(900000,.nest true 1 R.length (nrOf (cInt .i64) R)),(900001,.var [.own 900000])])
def reverseRangeL (x0:SrtL) (x1:Int) (x2:Int):(List (List Int)):=loopW (fun (v1:Int×Int×(List (List Int))) next=>bif (decide (v1.1<v1.2.1)) then (next (v1.1+1,v1.2.1 - 1,(swp v1.2.2 v1.1 v1.2.1))) else v1.2.2) ((x2 - 1 - (x1)+1).toNat+1) (x1,x2 - 1,x0.l)
def D158Lb1 (x0:SrtL) (x1:Int) (x2:Int) (v1:Int×Int×(List (List Int))):Dl:=⟨[(6,.int .i64 v1.1),(7,.int .i64 v1.2.1)],[(900000,.nest true 1 v1.2.2.length (nrOf (cInt .i64) v1.2.2))]⟩
def A158Lb1 (x0:SrtL) (x1:Int) (x2:Int) (v1:Int×Int×(List (List Int))):Ann:=r0 1 [3,6,7,13] [3,900000,900001] (cn (decide (v1.1<v1.2.1)) (.reg 2 [] [(4,kswL 503 [900000] v1.2.2 v1.1 v1.2.1)] [3,6,7] [3,900000,900001] [] [pf (inR .i64 (v1.1+1))] [] [4,0] (r1 1 [3,6,7] [3,900000,900001] [pf (inR .i64 (v1.2.1 - 1))] [0] (.next 0 [(900000,some 900000)] (D158Lb1 x0 x1 x2 (v1.1+1,v1.2.1 - 1,(swp v1.2.2 v1.1 v1.2.1)))))) (rt [(900000,some 900000),(900001,some 900001)] (C158L x0 x1 x2 v1.2.2)))
def A158L (x0:SrtL) (x1:Int) (x2:Int):Ann:=r1 3 [3,6,7] [3,900000,900001] [pf (inR .i64 (x2 - 1))] [0] (.loop (Int×Int×(List (List Int))) (D158Lb1 x0 x1 x2) [] [] [(900000,some 900000)] (D158Lb1 x0 x1 x2 (x1,x2 - 1,x0.l)) (A158Lb1 x0 x1 x2))
theorem reverseRangeL_sw (x0:SrtL) (x1 x2:Int) (h:0≤x1∧x1≤x2):Sw x1 x2 x0.l (reverseRangeL x0 x1 x2):=by
 unfold reverseRangeL
 refine loopW_to (fun v=>x1≤v.1∧v.2.1<x2∧Sw x1 x2 x0.l v.2.2) (fun v=>(v.2.1 - v.1+1).toNat) (fun l=>Sw x1 x2 x0.l l) (fun v next hv hn=>?_) _ _ (by dsimp only;omega) ⟨by simp,by dsimp only;omega,.refl⟩
 cases hc:decide (v.1<v.2.1) with
 | false=>exact hv.2.2
 | true =>
  have hc:=of_decide_eq_true hc
  exact hn _ ⟨by dsimp only;omega,by dsimp only;omega,.step hv.2.2 _ _ (by omega) (by omega)⟩ (by dsimp only;omega)

theorem ok_sort_reverseRange_func_L (x0:SrtL) (x1:Int) (x2:Int) (hx:x0.l.length≤255) (hok:OkL x0) (hab:0≤x1∧x1≤x2∧x2≤x0.l.length):FnMT Try.prog 158 [.agg [.clo 110 [.vp 900001 0],.clo 151 [.own 900000,.k Try.prog.globals.size 47]],.int .i64 x1,.int .i64 x2] [.nest true 1 x0.l.length (nrOf (cInt .i64) x0.l),.var [.own 900000]] (C158L x0 x1 x2 (reverseRangeL x0 x1 x2)):=by
 have aux:∀ R,reverseRangeL x0 x1 x2=R→slim (C158L x0 x1 x2 R) (A158L x0 x1 x2) []:=by
  intro R hR
  refine rg ⟨by ( intros;simp only [inR];omega),trivial⟩ ?_
  revert hR;refine lW (fun v=>(x1≤v.1∧v.1≤v.2.1+1∧v.2.1<x2)∧(Sw x1 x2 x0.l v.2.2∧v.2.2.length=x0.l.length)) (fun v=>(v.2.1 - (v.1)+1).toNat) (by (((try clear hR);(try clear hK1);intros;(try simp only [w1,w2,w3,w4,w5,w6,swp_len,inR,IntKind.bits] at *));refine ⟨by omega,?_,trivial⟩;((repeat first | refine Sw.step ?_ _ _ (by omega) (by omega)) <;> first | exact hI1.2.1 | exact Sw.refl | exact hI1.2.1.mono (by omega) (by omega)))) (Nat.lt_succ_self _) rfl fun m1 v1 F1 hI1 hM1 hR hK1=>?_
  refine rg trivial ?_
  revert hR;refine cd (fun hc1 hR=>?_) fun hc1 hR=>?_
  ·
    refine rg ⟨by ( intros;simp only [inR];omega),⟨by (((try clear hR);(try clear hK1);intros;(try simp only [w1,w2,w3,w4,w5,w6,swp_len,inR,IntKind.bits] at *));omega),by (((try clear hR);(try clear hK1);intros;(try simp only [w1,w2,w3,w4,w5,w6,swp_len,inR,IntKind.bits] at *));omega)⟩,trivial⟩ ?_
    refine rg ⟨by ( intros;simp only [inR];omega),trivial⟩ ?_
    exact hK1 (v1.1+1,v1.2.1 - 1,(swp v1.2.2 v1.1 v1.2.1)) (by (((try clear hR);(try clear hK1);intros;(try simp only [w1,w2,w3,w4,w5,w6,swp_len,inR,IntKind.bits] at *));(repeat' apply And.intro) <;> first | omega | ((repeat first | refine Sw.step ?_ _ _ (by omega) (by omega)) <;> first | exact hI1.2.1 | exact Sw.refl | exact hI1.2.1.mono (by omega) (by omega)))) (by (((try clear hR);(try clear hK1);intros;(try simp only [w1,w2,w3,w4,w5,w6,swp_len,inR,IntKind.bits] at *));omega)) hR
  ·
    exact congrArg (C158L x0 x1 x2) hR
 exact FnM.go 23 Try.func158 (by kernel_rfl) (by kernel_rfl) (A158L x0 x1 x2) (by kernel_rfl) (aux _ rfl)
def k158L (d:Nat) (ids:List Nat) (x0:SrtL) (x1:Int) (x2:Int):Cl:=(hresM d ids (C158L x0 x1 x2 (reverseRangeL x0 x1 x2)),k3 (ok_sort_reverseRange_func_L x0 x1 x2))
def C159L (x0:SrtL) (x1:Int) (x2:Int) (R:Bool×(List (List Int))):LV×List (Nat×BC):=(.bool R.1,[(900000,.nest true 1 R.2.length (nrOf (cInt .i64) R.2)),(900001,.var [.own 900000])])
def partInsL (x0:SrtL) (x1:Int) (x2:Int):Bool×(List (List Int)):=loopN (fun i1 (v1:Int×(List (List Int))) nx1=>loopW (fun (v2:Int) next=>bif ((decide (v2<x2)) && (!(lineLess v2 (v2 - 1) v1.2))) then (next (v2+1)) else (bif (decide (v2=x2)) then (true,v1.2) else (bif (decide ((x2 - x1)<50)) then (false,v1.2) else (jn (fun K1=>bif (decide (2≤(v2 - x1))) then (loopW (fun (v3:Int×(List (List Int))) next=>bif (decide (1≤v3.1)) then (bif (!(lineLess v3.1 (v3.1 - 1) v3.2)) then (K1 v3.2) else (next (v3.1 - 1,(swp v3.2 v3.1 (v3.1 - 1))))) else (K1 v3.2)) ((v2 - 1).toNat+1) (v2 - 1,(swp v1.2 v2 (v2 - 1)))) else (K1 (swp v1.2 v2 (v2 - 1)))) (fun (j1:(List (List Int)))=>bif (decide (2≤(x2 - v2))) then (loopW (fun (v4:Int×(List (List Int))) next=>bif (decide (v4.1<x2)) then (bif (!(lineLess v4.1 (v4.1 - 1) v4.2)) then (nx1 (v2,v4.2)) else (next (v4.1+1,(swp v4.2 v4.1 (v4.1 - 1))))) else (nx1 (v2,v4.2))) ((x2 - (v2+1)).toNat+1) (v2+1,j1)) else (nx1 (v2,j1))))))) ((x2 - (v1.1)).toNat+1) v1.1) (fun (v1:Int×(List (List Int)))=>(false,v1.2)) 5 0 (x1+1,x0.l)
def D159Lb1 (x0:SrtL) (x1:Int) (x2:Int) (i1:Nat) (v1:Int×(List (List Int))):Dl:=⟨[(8,.int .i64 ((i1:Nat):Int)),(7,.int .i64 v1.1)],[(900000,.nest true 1 v1.2.length (nrOf (cInt .i64) v1.2))]⟩
def D159Lb2 (x0:SrtL) (x1:Int) (x2:Int) (i1:Nat) (v1:Int×(List (List Int))) (v2:Int):Dl:=⟨[(7,.int .i64 v2)],[]⟩
def D159Lj1 (x0:SrtL) (x1:Int) (x2:Int) (i1:Nat) (v1:Int×(List (List Int))) (v2:Int) (j1:(List (List Int))):Dl:=⟨[],[(900000,.nest true 1 j1.length (nrOf (cInt .i64) j1))]⟩
def D159Lb3 (x0:SrtL) (x1:Int) (x2:Int) (i1:Nat) (v1:Int×(List (List Int))) (v2:Int) (v3:Int×(List (List Int))):Dl:=⟨[(9,.int .i64 v3.1)],[(900000,.nest true 1 v3.2.length (nrOf (cInt .i64) v3.2))]⟩
def A159Lb3 (x0:SrtL) (x1:Int) (x2:Int) (i1:Nat) (v1:Int×(List (List Int))) (v2:Int) (v3:Int×(List (List Int))):Ann:=r0 1 [1,2,3,6,7,8,9,51] [3,900000,900001] (cn (decide (1≤v3.1)) (.reg 1 [] [(5,k110 v3.1 (v3.1 - 1) v3.2)] [1,2,3,6,7,8,9,60] [3,900000,900001] [] [pf (inR .i64 (v3.1 - 1))] [] [0,4] (cn (!(lineLess v3.1 (v3.1 - 1) v3.2)) (.next 1 [(900000,some 900000)] (D159Lj1 x0 x1 x2 i1 v1 v2 v3.2)) (.reg 1 [] [(5,kswL 503 [900000] v3.2 v3.1 (v3.1 - 1))] [1,2,3,6,7,8,9] [3,900000,900001] [] [pf (inR .i64 (v3.1 - 1))] [] [0,4] (r1 1 [1,2,3,6,7,8,9] [3,900000,900001] [pf (inR .i64 (v3.1 - 1))] [0] (.next 0 [(900000,some 900000)] (D159Lb3 x0 x1 x2 i1 v1 v2 (v3.1 - 1,(swp v3.2 v3.1 (v3.1 - 1))))))))) (.next 1 [(900000,some 900000)] (D159Lj1 x0 x1 x2 i1 v1 v2 v3.2)))
def D159Lb4 (x0:SrtL) (x1:Int) (x2:Int) (i1:Nat) (v1:Int×(List (List Int))) (v2:Int) (j1:(List (List Int))) (v4:Int×(List (List Int))):Dl:=⟨[(10,.int .i64 v4.1)],[(900000,.nest true 1 v4.2.length (nrOf (cInt .i64) v4.2))]⟩
def A159Lb4 (x0:SrtL) (x1:Int) (x2:Int) (i1:Nat) (v1:Int×(List (List Int))) (v2:Int) (j1:(List (List Int))) (v4:Int×(List (List Int))):Ann:=r0 1 [1,2,3,6,7,8,10,75] [3,900000,900001] (cn (decide (v4.1<x2)) (.reg 1 [] [(5,k110 v4.1 (v4.1 - 1) v4.2)] [1,2,3,6,7,8,10,84] [3,900000,900001] [] [pf (inR .i64 (v4.1 - 1))] [] [0,4] (cn (!(lineLess v4.1 (v4.1 - 1) v4.2)) (r1 1 [1,2,3,6,7,8] [3,900000,900001] [pf (inR .i64 (((i1:Nat):Int)+1))] [0] (.next 2 [(900000,some 900000)] (D159Lb1 x0 x1 x2 (i1+1) (v2,v4.2)))) (.reg 1 [] [(5,kswL 503 [900000] v4.2 v4.1 (v4.1 - 1))] [1,2,3,6,7,8,10] [3,900000,900001] [] [pf (inR .i64 (v4.1 - 1))] [] [0,4] (r1 1 [1,2,3,6,7,8,10] [3,900000,900001] [pf (inR .i64 (v4.1+1))] [0] (.next 0 [(900000,some 900000)] (D159Lb4 x0 x1 x2 i1 v1 v2 j1 (v4.1+1,(swp v4.2 v4.1 (v4.1 - 1))))))))) (r1 1 [1,2,3,6,7,8] [3,900000,900001] [pf (inR .i64 (((i1:Nat):Int)+1))] [0] (.next 2 [(900000,some 900000)] (D159Lb1 x0 x1 x2 (i1+1) (v2,v4.2)))))
def A159Lj1 (x0:SrtL) (x1:Int) (x2:Int) (i1:Nat) (v1:Int×(List (List Int))) (v2:Int) (j1:(List (List Int))):Ann:=r1 1 [1,2,3,6,7,8,70] [3,900000,900001] [pf (inR .i64 (x2 - v2))] [0] (cn (decide (2≤(x2 - v2))) (r1 1 [1,2,3,6,7,8,10] [3,900000,900001] [pf (inR .i64 (v2+1))] [0] (.loop (Int×(List (List Int))) (D159Lb4 x0 x1 x2 i1 v1 v2 j1) [] [] [(900000,some 900000)] (D159Lb4 x0 x1 x2 i1 v1 v2 j1 (v2+1,j1)) (A159Lb4 x0 x1 x2 i1 v1 v2 j1))) (r1 1 [1,2,3,6,7,8] [3,900000,900001] [pf (inR .i64 (((i1:Nat):Int)+1))] [0] (.next 1 [(900000,some 900000)] (D159Lb1 x0 x1 x2 (i1+1) (v2,j1)))))
def A159Lb2 (x0:SrtL) (x1:Int) (x2:Int) (i1:Nat) (v1:Int×(List (List Int))) (v2:Int):Ann:=.reg 1 [] [(9,cg (decide (v2<x2)) (k110 v2 (v2 - 1) v1.2))] [1,2,3,6,7,8,28] [3,900000,900001] [decide (v2<x2)] [gt (decide (v2<x2)) (pf (inR .i64 (v2 - 1)))] [] [1,1,0,1,1,1,4,1,1] (cn ((decide (v2<x2)) && (!(lineLess v2 (v2 - 1) v1.2))) (r1 1 [1,2,3,6,7,8] [3,900000,900001] [pf (inR .i64 (v2+1))] [0] (.next 0 [] (D159Lb2 x0 x1 x2 i1 v1 (v2+1)))) (r0 1 [1,2,3,6,7,8,33] [3,900000,900001] (cn (decide (v2=x2)) (r0 1 [1,2,3,6,7,8] [3,900000,900001] (rt [(900000,some 900000),(900001,some 900001)] (C159L x0 x1 x2 (true,v1.2)))) (r1 1 [1,2,3,6,7,8,37] [3,900000,900001] [pf (inR .i64 (x2 - x1))] [0] (cn (decide ((x2 - x1)<50)) (r0 1 [1,2,3,6,7,8] [3,900000,900001] (rt [(900000,some 900000),(900001,some 900001)] (C159L x0 x1 x2 (false,v1.2)))) (.reg 1 [] [(5,kswL 503 [900000] v1.2 v2 (v2 - 1))] [1,2,3,6,7,8] [3,900000,900001] [] [pf (inR .i64 (v2 - 1))] [] [0,4] (.join 0 (List (List Int)) (D159Lj1 x0 x1 x2 i1 v1 v2) [1,2,3,6,7,8] [3,900001,900000] (r1 1 [1,2,3,6,7,8,47] [3,900000,900001] [pf (inR .i64 (v2 - x1))] [0] (cn (decide (2≤(v2 - x1))) (r1 1 [1,2,3,6,7,8,9] [3,900000,900001] [pf (inR .i64 (v2 - 1))] [0] (.loop (Int×(List (List Int))) (D159Lb3 x0 x1 x2 i1 v1 v2) [] [] [(900000,some 900000)] (D159Lb3 x0 x1 x2 i1 v1 v2 (v2 - 1,(swp v1.2 v2 (v2 - 1)))) (A159Lb3 x0 x1 x2 i1 v1 v2))) (.next 0 [(900000,some 900000)] (D159Lj1 x0 x1 x2 i1 v1 v2 (swp v1.2 v2 (v2 - 1)))))) (A159Lj1 x0 x1 x2 i1 v1 v2))))))))
def A159Lb1 (x0:SrtL) (x1:Int) (x2:Int) (i1:Nat) (v1:Int×(List (List Int))):Ann:=r0 1 [1,2,3,6,7,8,14] [3,900000,900001] (cn (decide (((i1:Nat):Int)<5)) (.loop Int (D159Lb2 x0 x1 x2 i1 v1) [14] [] [] (D159Lb2 x0 x1 x2 i1 v1 v1.1) (A159Lb2 x0 x1 x2 i1 v1)) (r0 1 [6] [900000,900001] (rt [(900000,some 900000),(900001,some 900001)] (C159L x0 x1 x2 (false,v1.2)))))
def A159L (x0:SrtL) (x1:Int) (x2:Int):Ann:=r1 2 [1,2,3,6,7] [3,900000,900001] [pf (inR .i64 (x1+1))] [0] (r0 1 [1,2,3,6,7,8] [3,900000,900001] (lp (D159Lb1 x0 x1 x2) [] [] [(900000,some 900000)] (D159Lb1 x0 x1 x2 0 (x1+1,x0.l)) (A159Lb1 x0 x1 x2)))
theorem partInsL_sw (x0:SrtL) (x1 x2:Int) (h:0≤x1∧x1<x2∧x2≤x0.l.length):Sw 0 x0.l.length x0.l (partInsL x0 x1 x2).2:=by
 unfold partInsL
 refine loopN_to (fun i (v:Int×List (List Int))=>(x1+1≤v.1∧v.1≤x2)∧Sw 0 x0.l.length x0.l v.2) (fun (r:Bool×List (List Int))=>Sw 0 x0.l.length x0.l r.2) ⟨by dsimp only;omega,.refl⟩ (fun i v nx hi hv hn=>?_) (fun v hv=>hv.2)
 obtain ⟨hvb,hvs⟩:=hv
 refine loopW_to (fun (w:Int)=>x1+1≤w∧w≤x2) (fun w=>(x2 - w).toNat) (fun (r:Bool×List (List Int))=>Sw 0 x0.l.length x0.l r.2) (fun w next hw hn2=>?_) _ _ (Nat.lt_succ_self _) hvb
 cases hd:decide (w<x2) && !(lineLess w (w - 1) v.2) with
 | true =>
  simp only [Bool.and_eq_true,decide_eq_true_eq] at hd
  exact hn2 _ (by omega) (by omega)
 | false =>
  cases hx:decide (w=x2) with
  | true=>exact hvs
  | false =>
   have hx:=of_decide_eq_false hx
   cases decide (x2 - x1<50) with
   | true=>exact hvs
   | false =>
    simp only [cond_false]
    refine jn_to (fun (j:List (List Int))=>Sw 0 x0.l.length x0.l j) (fun (r:Bool×List (List Int))=>Sw 0 x0.l.length x0.l r.2) (fun K hK=>?_) (fun j1 h1=>?_)
    ·cases decide (2≤w - x1) with
     | false=>exact hK _ (.step hvs _ _ (by omega) (by omega))
     | true =>
      refine loopW_to (fun (u:Int×List (List Int))=>u.1<x2∧Sw 0 x0.l.length x0.l u.2) (fun u=>u.1.toNat) (fun (r:Bool×List (List Int))=>Sw 0 x0.l.length x0.l r.2) (fun u next3 hu hn3=>?_) _ _ (by dsimp only;omega) ⟨by dsimp only;omega,.step hvs _ _ (by omega) (by omega)⟩
      cases hc:decide (1≤u.1) with
      | false=>exact hK _ hu.2
      | true =>
       have hc:=of_decide_eq_true hc
       cases !(lineLess u.1 (u.1 - 1) u.2) with
       | true=>exact hK _ hu.2
       | false=>exact hn3 _ ⟨by dsimp only;omega,.step hu.2 _ _ (by omega) (by omega)⟩ (by dsimp only;omega)
    ·cases decide (2≤x2 - w) with
     | false=>exact hn _ ⟨hw,h1⟩
     | true =>
      refine loopW_to (fun (u:Int×List (List Int))=>x1+2≤u.1∧Sw 0 x0.l.length x0.l u.2) (fun u=>(x2 - u.1).toNat) (fun (r:Bool×List (List Int))=>Sw 0 x0.l.length x0.l r.2) (fun u next4 hu hn4=>?_) _ _ (by dsimp only;omega) ⟨by dsimp only;omega,h1⟩
      cases hc:decide (u.1<x2) with
      | false=>exact hn _ ⟨hw,hu.2⟩
      | true =>
       have hc:=of_decide_eq_true hc
       cases !(lineLess u.1 (u.1 - 1) u.2) with
       | true=>exact hn _ ⟨hw,hu.2⟩
       | false=>exact hn4 _ ⟨by dsimp only;omega,.step hu.2 _ _ (by omega) (by omega)⟩ (by dsimp only;omega)

theorem ok_sort_partialInsertionSort_func_L (x0:SrtL) (x1:Int) (x2:Int) (hx:x0.l.length≤255) (hok:OkL x0) (hab:0≤x1∧x1≤x2∧x2≤x0.l.length∧x1<x2):FnMT Try.prog 159 [.agg [.clo 110 [.vp 900001 0],.clo 151 [.own 900000,.k Try.prog.globals.size 47]],.int .i64 x1,.int .i64 x2] [.nest true 1 x0.l.length (nrOf (cInt .i64) x0.l),.var [.own 900000]] (C159L x0 x1 x2 (partInsL x0 x1 x2)):=by
 have aux:∀ R,partInsL x0 x1 x2=R→slim (C159L x0 x1 x2 R) (A159L x0 x1 x2) []:=by
  intro R hR
  refine rg ⟨by ( intros;simp only [inR];omega),trivial⟩ ?_
  refine rg trivial ?_
  revert hR;refine lN (fun i v=>(x1+1≤v.1∧v.1≤x2)∧(Sw 0 x0.l.length x0.l v.2∧v.2.length=x0.l.length)) (by (((try clear hR);(try clear hK1);(try clear hK2);(try clear hK3);(try clear hK4);intros;(try simp only [w1,w2,w3,w4,w5,w6,swp_len,inR,IntKind.bits] at *));refine ⟨by omega,?_,trivial⟩;((repeat first | refine Sw.step ?_ _ _ (by omega) (by omega)) <;> first | exact hJ1.2.1 | exact hI4.2.1 | exact hI3.2.1 | exact hI1.2.1 | exact Sw.refl | exact hJ1.2.1.mono (by omega) (by omega) | exact hI4.2.1.mono (by omega) (by omega) | exact hI3.2.1.mono (by omega) (by omega) | exact hI1.2.1.mono (by omega) (by omega)))) rfl fun i1 v1 F1 hn1 hI1 hR hK1=>?_
  refine rg trivial ?_
  refine ⟨fun hc1=>?_,fun hc1=>?_⟩
  ·have hii1:i1<5:=by have:=of_decide_eq_true hc1;omega
   replace hR:=loopN_step hR hii1
   revert hR;refine lW (fun v=>x1+1≤v∧v≤x2) (fun v=>(x2 - (v)).toNat) (by (intros;omega)) (Nat.lt_succ_self _) rfl fun m2 v2 F2 hI2 hM2 hR hK2=>?_
   refine rg ⟨by ( intros;simp only [inR];omega),fun hg0=>⟨by (((try clear hR);(try clear hK1);(try clear hK2);(try clear hK3);(try clear hK4);intros;(try simp only [w1,w2,w3,w4,w5,w6,swp_len,inR,IntKind.bits] at *));omega),by (intros;omega),by (exact OkLL.sw (a:=0) (b:=x0.l.length) hok (by ((try clear hR);(try clear hK1);(try clear hK2);(try clear hK3);(try clear hK4);intros;(try simp only [w1,w2,w3,w4,w5,w6,swp_len,inR,IntKind.bits] at *));((repeat first | refine Sw.step ?_ _ _ (by omega) (by omega)) <;> first | exact hJ1.2.1 | exact hI4.2.1 | exact hI3.2.1 | exact hI1.2.1 | exact Sw.refl | exact hJ1.2.1.mono (by omega) (by omega) | exact hI4.2.1.mono (by omega) (by omega) | exact hI3.2.1.mono (by omega) (by omega) | exact hI1.2.1.mono (by omega) (by omega))) ⟨by omega,by omega⟩)⟩,trivial⟩ ?_
   revert hR;refine cd (fun hc2 hR=>?_) fun hc2 hR=>?_
   ·
     refine rg ⟨by ( intros;simp only [inR];omega),trivial⟩ ?_
     exact hK2 (v2+1) (by (((try clear hR);(try clear hK1);(try clear hK2);(try clear hK3);(try clear hK4);intros;(try simp only [w1,w2,w3,w4,w5,w6,swp_len,inR,IntKind.bits] at *));omega)) (by (((try clear hR);(try clear hK1);(try clear hK2);(try clear hK3);(try clear hK4);intros;(try simp only [w1,w2,w3,w4,w5,w6,swp_len,inR,IntKind.bits] at *));omega)) hR
   ·
     refine rg trivial ?_
     revert hR;refine cd (fun hc3 hR=>?_) fun hc3 hR=>?_
     ·
       refine rg trivial ?_
       exact congrArg (C159L x0 x1 x2) hR
     ·
       refine rg ⟨by ( intros;simp only [inR];omega),trivial⟩ ?_
       revert hR;refine cd (fun hc4 hR=>?_) fun hc4 hR=>?_
       ·
         refine rg trivial ?_
         exact congrArg (C159L x0 x1 x2) hR
       ·
         refine rg ⟨by ( intros;simp only [inR];omega),⟨by (((try clear hR);(try clear hK1);(try clear hK2);(try clear hK3);(try clear hK4);intros;(try simp only [w1,w2,w3,w4,w5,w6,swp_len,inR,IntKind.bits] at *));omega),by (intros;omega)⟩,trivial⟩ ?_
         revert hR;refine jN (fun v=>(Sw 0 x0.l.length x0.l v∧v.length=x0.l.length)) (fun F101 hR hJ101=>?_) (fun j1 hR hJ1=>?_)
         ·
           refine rg ⟨by ( intros;simp only [inR];omega),trivial⟩ ?_
           revert hR;refine cd (fun hc5 hR=>?_) fun hc5 hR=>?_
           ·
             refine rg ⟨by ( intros;simp only [inR];omega),trivial⟩ ?_
             revert hR;refine lW (fun v=>(0≤v.1∧v.1<x2)∧(Sw 0 x0.l.length x0.l v.2∧v.2.length=x0.l.length)) (fun v=>(v.1).toNat) (by (((try clear hR);(try clear hK1);(try clear hK2);(try clear hK3);(try clear hK4);intros;(try simp only [w1,w2,w3,w4,w5,w6,swp_len,inR,IntKind.bits] at *));(repeat' apply And.intro) <;> first | omega | ((repeat first | refine Sw.step ?_ _ _ (by omega) (by omega)) <;> first | exact hJ1.2.1 | exact hI4.2.1 | exact hI3.2.1 | exact hI1.2.1 | exact Sw.refl | exact hJ1.2.1.mono (by omega) (by omega) | exact hI4.2.1.mono (by omega) (by omega) | exact hI3.2.1.mono (by omega) (by omega) | exact hI1.2.1.mono (by omega) (by omega)))) (Nat.lt_succ_self _) rfl fun m3 v3 F3 hI3 hM3 hR hK3=>?_
             refine rg trivial ?_
             revert hR;refine cd (fun hc6 hR=>?_) fun hc6 hR=>?_
             ·
               refine rg ⟨by ( intros;simp only [inR];omega),⟨by (intros;omega),by (((try clear hR);(try clear hK1);(try clear hK2);(try clear hK3);(try clear hK4);intros;(try simp only [w1,w2,w3,w4,w5,w6,swp_len,inR,IntKind.bits] at *));omega),by (exact OkLL.sw (a:=0) (b:=x0.l.length) hok (by ((try clear hR);(try clear hK1);(try clear hK2);(try clear hK3);(try clear hK4);intros;(try simp only [w1,w2,w3,w4,w5,w6,swp_len,inR,IntKind.bits] at *));((repeat first | refine Sw.step ?_ _ _ (by omega) (by omega)) <;> first | exact hJ1.2.1 | exact hI4.2.1 | exact hI3.2.1 | exact hI1.2.1 | exact Sw.refl | exact hJ1.2.1.mono (by omega) (by omega) | exact hI4.2.1.mono (by omega) (by omega) | exact hI3.2.1.mono (by omega) (by omega) | exact hI1.2.1.mono (by omega) (by omega))) ⟨by omega,by omega⟩)⟩,trivial⟩ ?_
               revert hR;refine cd (fun hc7 hR=>?_) fun hc7 hR=>?_
               ·
                 exact hJ101 v3.2 hR (by (((try clear hR);(try clear hK1);(try clear hK2);(try clear hK3);(try clear hK4);intros;(try simp only [w1,w2,w3,w4,w5,w6,swp_len,inR,IntKind.bits] at *));(repeat' apply And.intro) <;> first | omega | ((repeat first | refine Sw.step ?_ _ _ (by omega) (by omega)) <;> first | exact hJ1.2.1 | exact hI4.2.1 | exact hI3.2.1 | exact hI1.2.1 | exact Sw.refl | exact hJ1.2.1.mono (by omega) (by omega) | exact hI4.2.1.mono (by omega) (by omega) | exact hI3.2.1.mono (by omega) (by omega) | exact hI1.2.1.mono (by omega) (by omega))))
               ·
                 refine rg ⟨by ( intros;simp only [inR];omega),⟨by (intros;omega),by (((try clear hR);(try clear hK1);(try clear hK2);(try clear hK3);(try clear hK4);intros;(try simp only [w1,w2,w3,w4,w5,w6,swp_len,inR,IntKind.bits] at *));omega)⟩,trivial⟩ ?_
                 refine rg ⟨by ( intros;simp only [inR];omega),trivial⟩ ?_
                 exact hK3 (v3.1 - 1,(swp v3.2 v3.1 (v3.1 - 1))) (by (((try clear hR);(try clear hK1);(try clear hK2);(try clear hK3);(try clear hK4);intros;(try simp only [w1,w2,w3,w4,w5,w6,swp_len,inR,IntKind.bits] at *));(repeat' apply And.intro) <;> first | omega | ((repeat first | refine Sw.step ?_ _ _ (by omega) (by omega)) <;> first | exact hJ1.2.1 | exact hI4.2.1 | exact hI3.2.1 | exact hI1.2.1 | exact Sw.refl | exact hJ1.2.1.mono (by omega) (by omega) | exact hI4.2.1.mono (by omega) (by omega) | exact hI3.2.1.mono (by omega) (by omega) | exact hI1.2.1.mono (by omega) (by omega)))) (by (((try clear hR);(try clear hK1);(try clear hK2);(try clear hK3);(try clear hK4);intros;(try simp only [w1,w2,w3,w4,w5,w6,swp_len,inR,IntKind.bits] at *));omega)) hR
             ·
               exact hJ101 v3.2 hR (by (((try clear hR);(try clear hK1);(try clear hK2);(try clear hK3);(try clear hK4);intros;(try simp only [w1,w2,w3,w4,w5,w6,swp_len,inR,IntKind.bits] at *));(repeat' apply And.intro) <;> first | omega | ((repeat first | refine Sw.step ?_ _ _ (by omega) (by omega)) <;> first | exact hJ1.2.1 | exact hI4.2.1 | exact hI3.2.1 | exact hI1.2.1 | exact Sw.refl | exact hJ1.2.1.mono (by omega) (by omega) | exact hI4.2.1.mono (by omega) (by omega) | exact hI3.2.1.mono (by omega) (by omega) | exact hI1.2.1.mono (by omega) (by omega))))
           ·
             exact hJ101 (swp v1.2 v2 (v2 - 1)) hR (by (((try clear hR);(try clear hK1);(try clear hK2);(try clear hK3);(try clear hK4);intros;(try simp only [w1,w2,w3,w4,w5,w6,swp_len,inR,IntKind.bits] at *));(repeat' apply And.intro) <;> first | omega | ((repeat first | refine Sw.step ?_ _ _ (by omega) (by omega)) <;> first | exact hJ1.2.1 | exact hI4.2.1 | exact hI3.2.1 | exact hI1.2.1 | exact Sw.refl | exact hJ1.2.1.mono (by omega) (by omega) | exact hI4.2.1.mono (by omega) (by omega) | exact hI3.2.1.mono (by omega) (by omega) | exact hI1.2.1.mono (by omega) (by omega))))
         ·
           refine rg ⟨by ( intros;simp only [inR];omega),trivial⟩ ?_
           revert hR;refine cd (fun hc8 hR=>?_) fun hc8 hR=>?_
           ·
             refine rg ⟨by ( intros;simp only [inR];omega),trivial⟩ ?_
             revert hR;refine lW (fun v=>(x1+2≤v.1∧v.1≤x2)∧(Sw 0 x0.l.length x0.l v.2∧v.2.length=x0.l.length)) (fun v=>(x2 - (v.1)).toNat) (by ((try clear hR hK1 hK2);intros;(try simp only [decide_eq_true_eq,decide_eq_false_iff_not,Bool.or_eq_true,Bool.and_eq_true,or_f_iff,not_f_iff,not_t_iff,Bool.not_eq_true',inR] at *);(repeat' apply And.intro) <;> (first | (intros;omega) | (simp_all [inR];done)))) (Nat.lt_succ_self _) rfl fun m4 v4 F4 hI4 hM4 hR hK4=>?_
             refine rg trivial ?_
             revert hR;refine cd (fun hc9 hR=>?_) fun hc9 hR=>?_
             ·
               refine rg ⟨by ( intros;simp only [inR];omega),⟨by (((try clear hR);(try clear hK1);(try clear hK2);(try clear hK3);(try clear hK4);intros;(try simp only [w1,w2,w3,w4,w5,w6,swp_len,inR,IntKind.bits] at *));omega),by (intros;omega),by (exact OkLL.sw (a:=0) (b:=x0.l.length) hok (by ((try clear hR);(try clear hK1);(try clear hK2);(try clear hK3);(try clear hK4);intros;(try simp only [w1,w2,w3,w4,w5,w6,swp_len,inR,IntKind.bits] at *));((repeat first | refine Sw.step ?_ _ _ (by omega) (by omega)) <;> first | exact hJ1.2.1 | exact hI4.2.1 | exact hI3.2.1 | exact hI1.2.1 | exact Sw.refl | exact hJ1.2.1.mono (by omega) (by omega) | exact hI4.2.1.mono (by omega) (by omega) | exact hI3.2.1.mono (by omega) (by omega) | exact hI1.2.1.mono (by omega) (by omega))) ⟨by omega,by omega⟩)⟩,trivial⟩ ?_
               revert hR;refine cd (fun hc10 hR=>?_) fun hc10 hR=>?_
               ·
                 refine rg ⟨by ( intros;simp only [inR];omega),trivial⟩ ?_
                 exact hK1 (v2,v4.2) hii1 (by (((try clear hR);(try clear hK1);(try clear hK2);(try clear hK3);(try clear hK4);intros;(try simp only [w1,w2,w3,w4,w5,w6,swp_len,inR,IntKind.bits] at *));refine ⟨by omega,Sw.both ?_⟩;((repeat first | refine Sw.step ?_ _ _ (by omega) (by omega)) <;> first | exact hJ1.2.1 | exact hI4.2.1 | exact hI3.2.1 | exact hI1.2.1 | exact Sw.refl | exact hJ1.2.1.mono (by omega) (by omega) | exact hI4.2.1.mono (by omega) (by omega) | exact hI3.2.1.mono (by omega) (by omega) | exact hI1.2.1.mono (by omega) (by omega)))) hR
               ·
                 refine rg ⟨by ( intros;simp only [inR];omega),⟨by (((try clear hR);(try clear hK1);(try clear hK2);(try clear hK3);(try clear hK4);intros;(try simp only [w1,w2,w3,w4,w5,w6,swp_len,inR,IntKind.bits] at *));omega),by (intros;omega)⟩,trivial⟩ ?_
                 refine rg ⟨by ( intros;simp only [inR];omega),trivial⟩ ?_
                 exact hK4 (v4.1+1,(swp v4.2 v4.1 (v4.1 - 1))) (by (((try clear hR);(try clear hK1);(try clear hK2);(try clear hK3);(try clear hK4);intros;(try simp only [w1,w2,w3,w4,w5,w6,swp_len,inR,IntKind.bits] at *));(repeat' apply And.intro) <;> first | omega | ((repeat first | refine Sw.step ?_ _ _ (by omega) (by omega)) <;> first | exact hJ1.2.1 | exact hI4.2.1 | exact hI3.2.1 | exact hI1.2.1 | exact Sw.refl | exact hJ1.2.1.mono (by omega) (by omega) | exact hI4.2.1.mono (by omega) (by omega) | exact hI3.2.1.mono (by omega) (by omega) | exact hI1.2.1.mono (by omega) (by omega)))) (by (((try clear hR);(try clear hK1);(try clear hK2);(try clear hK3);(try clear hK4);intros;(try simp only [w1,w2,w3,w4,w5,w6,swp_len,inR,IntKind.bits] at *));omega)) hR
             ·
               refine rg ⟨by ( intros;simp only [inR];omega),trivial⟩ ?_
               exact hK1 (v2,v4.2) hii1 (by (((try clear hR);(try clear hK1);(try clear hK2);(try clear hK3);(try clear hK4);intros;(try simp only [w1,w2,w3,w4,w5,w6,swp_len,inR,IntKind.bits] at *));refine ⟨by omega,Sw.both ?_⟩;((repeat first | refine Sw.step ?_ _ _ (by omega) (by omega)) <;> first | exact hJ1.2.1 | exact hI4.2.1 | exact hI3.2.1 | exact hI1.2.1 | exact Sw.refl | exact hJ1.2.1.mono (by omega) (by omega) | exact hI4.2.1.mono (by omega) (by omega) | exact hI3.2.1.mono (by omega) (by omega) | exact hI1.2.1.mono (by omega) (by omega)))) hR
           ·
             refine rg ⟨by ( intros;simp only [inR];omega),trivial⟩ ?_
             exact hK1 (v2,j1) hii1 (by trivial) hR
  ·obtain rfl:i1=5:=by have:=of_decide_eq_false hc1;omega
   replace hR:=loopN_end hR (Nat.lt_irrefl _)
   refine rg trivial ?_
   exact congrArg (C159L x0 x1 x2) hR
 exact FnM.go 91 Try.func159 (by kernel_rfl) (by kernel_rfl) (A159L x0 x1 x2) (by kernel_rfl) (aux _ rfl)
def k159L (d:Nat) (ids:List Nat) (x0:SrtL) (x1:Int) (x2:Int):Cl:=(hresM d ids (C159L x0 x1 x2 (partInsL x0 x1 x2)),k3 (ok_sort_partialInsertionSort_func_L x0 x1 x2))
end Go.Proofs.Ytkkijpibajigfaa
