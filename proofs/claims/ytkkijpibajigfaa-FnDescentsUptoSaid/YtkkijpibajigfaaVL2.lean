import Derived.Test.YtkkijpibajigfaaVL1
set_option maxHeartbeats 4000000
set_option linter.unusedSimpArgs false
set_option linter.unusedVariables false
namespace Go.Proofs.Ytkkijpibajigfaa
open Go Go.Lite Go.Proofs
def C166L (x0:SrtL) (x1:Int) (x2:Int) (x3:Int) (R:(List (List Int))):LV×List (Nat×BC):=(.tup [],[(900000,.nest true 1 R.length (nrOf (cInt .i64) R)),(900001,.var [.own 900000])])
def siftDownL (x0:SrtL) (x1:Int) (x2:Int) (x3:Int):(List (List Int)):=loopW (fun (v1:Int×(List (List Int))) next=>bif (decide (x2≤((2 * v1.1)+1))) then v1.2 else (bif ((decide ((((2 * v1.1)+1)+1)<x2)) && (lineLess (x3+((2 * v1.1)+1)) ((x3+((2 * v1.1)+1))+1) v1.2)) then (bif (!(lineLess (x3+v1.1) (x3+(((2 * v1.1)+1)+1)) v1.2)) then v1.2 else (next (((2 * v1.1)+1)+1,(swp v1.2 (x3+v1.1) (x3+(((2 * v1.1)+1)+1)))))) else (bif (!(lineLess (x3+v1.1) (x3+((2 * v1.1)+1)) v1.2)) then v1.2 else (next ((2 * v1.1)+1,(swp v1.2 (x3+v1.1) (x3+((2 * v1.1)+1)))))))) ((x2+255 - (x1)).toNat+1) (x1,x0.l)
def D166Lb1 (x0:SrtL) (x1:Int) (x2:Int) (x3:Int) (v1:Int×(List (List Int))):Dl:=⟨[(8,.int .i64 v1.1)],[(900000,.nest true 1 v1.2.length (nrOf (cInt .i64) v1.2))]⟩
def A166Lb1 (x0:SrtL) (x1:Int) (x2:Int) (x3:Int) (v1:Int×(List (List Int))):Ann:=r1 1 [2,3,4,8,9] [4,900000,900001] [pf (inR .i64 (2 * v1.1)),pf (inR .i64 ((2 * v1.1)+1))] [0,4] (r0 1 [2,3,4,8,9,16] [4,900000,900001] (cn (decide (x2≤((2 * v1.1)+1))) (rt [(900000,some 900000),(900001,some 900001)] (C166L x0 x1 x2 x3 v1.2)) (.reg 1 [] [(14,cg (decide ((((2 * v1.1)+1)+1)<x2)) (k110 (x3+((2 * v1.1)+1)) ((x3+((2 * v1.1)+1))+1) v1.2))] [2,3,4,8,9,32] [4,900000,900001] [decide ((((2 * v1.1)+1)+1)<x2)] [pf (inR .i64 (((2 * v1.1)+1)+1)),gt (decide ((((2 * v1.1)+1)+1)<x2)) (pf (inR .i64 (x3+((2 * v1.1)+1)))),gt (decide ((((2 * v1.1)+1)+1)<x2)) (pf (inR .i64 ((x3+((2 * v1.1)+1))+1)))] [] [0,1,1,1,4,1,1,4,1,8,1,1,1,12,1] (cn ((decide ((((2 * v1.1)+1)+1)<x2)) && (lineLess (x3+((2 * v1.1)+1)) ((x3+((2 * v1.1)+1))+1) v1.2)) (r1 1 [2,3,4,8,9] [4,900000,900001] [pf (inR .i64 (((2 * v1.1)+1)+1))] [0] (.reg 1 [] [(8,k110 (x3+v1.1) (x3+(((2 * v1.1)+1)+1)) v1.2)] [2,3,4,8,9,44] [4,900000,900001] [] [pf (inR .i64 (x3+v1.1)),pf (inR .i64 (x3+(((2 * v1.1)+1)+1)))] [] [0,4,8] (cn (!(lineLess (x3+v1.1) (x3+(((2 * v1.1)+1)+1)) v1.2)) (rt [(900000,some 900000),(900001,some 900001)] (C166L x0 x1 x2 x3 v1.2)) (.reg 1 [] [(8,kswL 503 [900000] v1.2 (x3+v1.1) (x3+(((2 * v1.1)+1)+1)))] [2,3,4,8,9] [4,900000,900001] [] [pf (inR .i64 (x3+v1.1)),pf (inR .i64 (x3+(((2 * v1.1)+1)+1)))] [] [0,4,8] (r0 1 [2,3,4,8] [4,900000,900001] (.next 0 [(900000,some 900000)] (D166Lb1 x0 x1 x2 x3 (((2 * v1.1)+1)+1,(swp v1.2 (x3+v1.1) (x3+(((2 * v1.1)+1)+1))))))))))) (.reg 1 [] [(8,k110 (x3+v1.1) (x3+((2 * v1.1)+1)) v1.2)] [2,3,4,8,9,44] [4,900000,900001] [] [pf (inR .i64 (x3+v1.1)),pf (inR .i64 (x3+((2 * v1.1)+1)))] [] [0,4,8] (cn (!(lineLess (x3+v1.1) (x3+((2 * v1.1)+1)) v1.2)) (rt [(900000,some 900000),(900001,some 900001)] (C166L x0 x1 x2 x3 v1.2)) (.reg 1 [] [(8,kswL 503 [900000] v1.2 (x3+v1.1) (x3+((2 * v1.1)+1)))] [2,3,4,8,9] [4,900000,900001] [] [pf (inR .i64 (x3+v1.1)),pf (inR .i64 (x3+((2 * v1.1)+1)))] [] [0,4,8] (r0 1 [2,3,4,8] [4,900000,900001] (.next 0 [(900000,some 900000)] (D166Lb1 x0 x1 x2 x3 ((2 * v1.1)+1,(swp v1.2 (x3+v1.1) (x3+((2 * v1.1)+1))))))))))))))
def A166L (x0:SrtL) (x1:Int) (x2:Int) (x3:Int):Ann:=r0 2 [2,3,4,8] [4,900000,900001] (.loop (Int×(List (List Int))) (D166Lb1 x0 x1 x2 x3) [] [] [(900000,some 900000)] (D166Lb1 x0 x1 x2 x3 (x1,x0.l)) (A166Lb1 x0 x1 x2 x3))
theorem siftDownL_sw (x0:SrtL) (x1 x2 x3:Int) (h:0≤x1):Sw (x3+x1) (x3+x2) x0.l (siftDownL x0 x1 x2 x3):=by
 unfold siftDownL
 refine loopW_to (fun v=>x1≤v.1∧Sw (x3+x1) (x3+x2) x0.l v.2) (fun v=>(x2+255 - v.1).toNat) (fun l=>Sw (x3+x1) (x3+x2) x0.l l) (fun v next hv hn=>?_) _ _ (by dsimp only;omega) ⟨by simp,.refl⟩
 cases hc:decide (x2≤2 * v.1+1) with
 | true=>exact hv.2
 | false =>
  simp only [decide_eq_false_iff_not] at hc
  cases hd:(decide (2 * v.1+1+1<x2)) && (lineLess (x3+(2 * v.1+1)) ((x3+(2 * v.1+1))+1) v.2) with
  | true =>
   simp only [Bool.and_eq_true,decide_eq_true_eq] at hd
   cases he:!(lineLess (x3+v.1) (x3+(2 * v.1+1+1)) v.2) with
   | true=>exact hv.2
   | false=>exact hn _ ⟨by dsimp only;omega,.step hv.2 _ _ (by omega) (by omega)⟩ (by dsimp only;omega)
  | false =>
   cases he:!(lineLess (x3+v.1) (x3+(2 * v.1+1)) v.2) with
   | true=>exact hv.2
   | false=>exact hn _ ⟨by dsimp only;omega,.step hv.2 _ _ (by omega) (by omega)⟩ (by dsimp only;omega)

theorem ok_sort_siftDown_func_L (x0:SrtL) (x1:Int) (x2:Int) (x3:Int) (hx:x0.l.length≤255) (hok:OkL x0) (hab:0≤x1∧0≤x3∧0≤x2∧x3+x2≤x0.l.length∧x1≤255):FnMT Try.prog 166 [.agg [.clo 110 [.vp 900001 0],.clo 151 [.own 900000,.k Try.prog.globals.size 47]],.int .i64 x1,.int .i64 x2,.int .i64 x3] [.nest true 1 x0.l.length (nrOf (cInt .i64) x0.l),.var [.own 900000]] (C166L x0 x1 x2 x3 (siftDownL x0 x1 x2 x3)):=by
 have aux:∀ R,siftDownL x0 x1 x2 x3=R→slim (C166L x0 x1 x2 x3 R) (A166L x0 x1 x2 x3) []:=by
  intro R hR
  refine rg trivial ?_
  revert hR;refine lW (fun v=>(x1≤v.1∧v.1≤255)∧(Sw (x3+x1) (x3+x2) x0.l v.2∧v.2.length=x0.l.length)) (fun v=>(x2+255 - (v.1)).toNat) (by (((try clear hR);(try clear hK1);intros;(try simp only [w1,w2,w3,w4,w5,w6,swp_len,inR,IntKind.bits] at *));refine ⟨by omega,?_,trivial⟩;((repeat first | refine Sw.step ?_ _ _ (by omega) (by omega)) <;> first | exact hI1.2.1 | exact Sw.refl | exact hI1.2.1.mono (by omega) (by omega)))) (Nat.lt_succ_self _) rfl fun m1 v1 F1 hI1 hM1 hR hK1=>?_
  refine rg ⟨by ( intros;simp only [inR];omega),by ( intros;simp only [inR];omega),trivial⟩ ?_
  refine rg trivial ?_
  revert hR;refine cd (fun hc1 hR=>?_) fun hc1 hR=>?_
  ·
    exact congrArg (C166L x0 x1 x2 x3) hR
  ·
    refine rg ⟨by ( intros;simp only [inR];omega),by ( intros;simp only [inR];omega),by ( intros;simp only [inR];omega),fun hg0=>⟨by (((try clear hR);(try clear hK1);intros;(try simp only [w1,w2,w3,w4,w5,w6,swp_len,inR,IntKind.bits] at *));omega),by (((try clear hR);(try clear hK1);intros;(try simp only [w1,w2,w3,w4,w5,w6,swp_len,inR,IntKind.bits] at *));omega),by (exact OkLL.sw (a:=0) (b:=x0.l.length) hok (by ((try clear hR);(try clear hK1);intros;(try simp only [w1,w2,w3,w4,w5,w6,swp_len,inR,IntKind.bits] at *));((repeat first | refine Sw.step ?_ _ _ (by omega) (by omega)) <;> first | exact hI1.2.1 | exact Sw.refl | exact hI1.2.1.mono (by omega) (by omega))) ⟨by omega,by omega⟩)⟩,trivial⟩ ?_
    revert hR;refine cd (fun hc2 hR=>?_) fun hc2 hR=>?_
    ·
      refine rg ⟨by ( intros;simp only [inR];omega),trivial⟩ ?_
      refine rg ⟨by ( intros;simp only [inR];omega),by ( intros;simp only [inR];omega),⟨by (((try clear hR);(try clear hK1);intros;(try simp only [w1,w2,w3,w4,w5,w6,swp_len,inR,IntKind.bits] at *));omega),by (((try clear hR);(try clear hK1);intros;(try simp only [w1,w2,w3,w4,w5,w6,swp_len,inR,IntKind.bits] at *));omega),by (exact OkLL.sw (a:=0) (b:=x0.l.length) hok (by ((try clear hR);(try clear hK1);intros;(try simp only [w1,w2,w3,w4,w5,w6,swp_len,inR,IntKind.bits] at *));((repeat first | refine Sw.step ?_ _ _ (by omega) (by omega)) <;> first | exact hI1.2.1 | exact Sw.refl | exact hI1.2.1.mono (by omega) (by omega))) ⟨by omega,by omega⟩)⟩,trivial⟩ ?_
      revert hR;refine cd (fun hc3 hR=>?_) fun hc3 hR=>?_
      ·
        exact congrArg (C166L x0 x1 x2 x3) hR
      ·
        refine rg ⟨by ( intros;simp only [inR];omega),by ( intros;simp only [inR];omega),⟨by (((try clear hR);(try clear hK1);intros;(try simp only [w1,w2,w3,w4,w5,w6,swp_len,inR,IntKind.bits] at *));omega),by (((try clear hR);(try clear hK1);intros;(try simp only [w1,w2,w3,w4,w5,w6,swp_len,inR,IntKind.bits] at *));omega)⟩,trivial⟩ ?_
        refine rg trivial ?_
        exact hK1 (((2 * v1.1)+1)+1,(swp v1.2 (x3+v1.1) (x3+(((2 * v1.1)+1)+1)))) (by (((try clear hR);(try clear hK1);intros;(try simp only [w1,w2,w3,w4,w5,w6,swp_len,inR,IntKind.bits] at *));(repeat' apply And.intro) <;> first | omega | ((repeat first | refine Sw.step ?_ _ _ (by omega) (by omega)) <;> first | exact hI1.2.1 | exact Sw.refl | exact hI1.2.1.mono (by omega) (by omega)))) (by (((try clear hR);(try clear hK1);intros;(try simp only [w1,w2,w3,w4,w5,w6,swp_len,inR,IntKind.bits] at *));omega)) hR
    ·
      refine rg ⟨by ( intros;simp only [inR];omega),by ( intros;simp only [inR];omega),⟨by (((try clear hR);(try clear hK1);intros;(try simp only [w1,w2,w3,w4,w5,w6,swp_len,inR,IntKind.bits] at *));omega),by (((try clear hR);(try clear hK1);intros;(try simp only [w1,w2,w3,w4,w5,w6,swp_len,inR,IntKind.bits] at *));omega),by (exact OkLL.sw (a:=0) (b:=x0.l.length) hok (by ((try clear hR);(try clear hK1);intros;(try simp only [w1,w2,w3,w4,w5,w6,swp_len,inR,IntKind.bits] at *));((repeat first | refine Sw.step ?_ _ _ (by omega) (by omega)) <;> first | exact hI1.2.1 | exact Sw.refl | exact hI1.2.1.mono (by omega) (by omega))) ⟨by omega,by omega⟩)⟩,trivial⟩ ?_
      revert hR;refine cd (fun hc4 hR=>?_) fun hc4 hR=>?_
      ·
        exact congrArg (C166L x0 x1 x2 x3) hR
      ·
        refine rg ⟨by ( intros;simp only [inR];omega),by ( intros;simp only [inR];omega),⟨by (((try clear hR);(try clear hK1);intros;(try simp only [w1,w2,w3,w4,w5,w6,swp_len,inR,IntKind.bits] at *));omega),by (((try clear hR);(try clear hK1);intros;(try simp only [w1,w2,w3,w4,w5,w6,swp_len,inR,IntKind.bits] at *));omega)⟩,trivial⟩ ?_
        refine rg trivial ?_
        exact hK1 ((2 * v1.1)+1,(swp v1.2 (x3+v1.1) (x3+((2 * v1.1)+1)))) (by (((try clear hR);(try clear hK1);intros;(try simp only [w1,w2,w3,w4,w5,w6,swp_len,inR,IntKind.bits] at *));(repeat' apply And.intro) <;> first | omega | ((repeat first | refine Sw.step ?_ _ _ (by omega) (by omega)) <;> first | exact hI1.2.1 | exact Sw.refl | exact hI1.2.1.mono (by omega) (by omega)))) (by (((try clear hR);(try clear hK1);intros;(try simp only [w1,w2,w3,w4,w5,w6,swp_len,inR,IntKind.bits] at *));omega)) hR
 exact FnM.go 55 Try.func166 (by kernel_rfl) (by kernel_rfl) (A166L x0 x1 x2 x3) (by kernel_rfl) (aux _ rfl)
def k166L (d:Nat) (ids:List Nat) (x0:SrtL) (x1:Int) (x2:Int) (x3:Int):Cl:=(hresM d ids (C166L x0 x1 x2 x3 (siftDownL x0 x1 x2 x3)),k3 (ok_sort_siftDown_func_L x0 x1 x2 x3))
def C155L (x0:SrtL) (x1:Int) (x2:Int) (R:(List (List Int))):LV×List (Nat×BC):=(.tup [],[(900000,.nest true 1 R.length (nrOf (cInt .i64) R)),(900001,.var [.own 900000])])
def heapSortL (x0:SrtL) (x1:Int) (x2:Int):(List (List Int)):=loopW (fun (v1:Int×(List (List Int))) next=>bif (decide (0≤v1.1)) then (next (v1.1 - 1,siftDownL (SrtL.mk v1.2) v1.1 (x2 - x1) x1)) else (loopW (fun (v2:Int×(List (List Int))) next=>bif (decide (0≤v2.1)) then (next (v2.1 - 1,siftDownL (SrtL.mk (swp v2.2 x1 (x1+v2.1))) 0 v2.1 x1)) else v2.2) (((x2 - x1) - 1+1).toNat+1) ((x2 - x1) - 1,v1.2))) ((((x2 - x1) - 1).tdiv 2+1).toNat+1) (((x2 - x1) - 1).tdiv 2,x0.l)
def D155Lb1 (x0:SrtL) (x1:Int) (x2:Int) (v1:Int×(List (List Int))):Dl:=⟨[(9,.int .i64 v1.1)],[(900000,.nest true 1 v1.2.length (nrOf (cInt .i64) v1.2))]⟩
def D155Lb2 (x0:SrtL) (x1:Int) (x2:Int) (v1:Int×(List (List Int))) (v2:Int×(List (List Int))):Dl:=⟨[(10,.int .i64 v2.1)],[(900000,.nest true 1 v2.2.length (nrOf (cInt .i64) v2.2))]⟩
def A155Lb2 (x0:SrtL) (x1:Int) (x2:Int) (v1:Int×(List (List Int))) (v2:Int×(List (List Int))):Ann:=r0 1 [3,6,7,10,30] [3,900000,900001] (cn (decide (0≤v2.1)) (.reg 1 [] [(6,kswL 503 [900000] v2.2 x1 (x1+v2.1))] [3,6,7,10] [3,900000,900001] [] [pf (inR .i64 (x1+v2.1))] [] [0,4] (.reg 1 [] [(4,k166L 44 [900000,900001] (SrtL.mk (swp v2.2 x1 (x1+v2.1))) 0 v2.1 x1)] [3,6,7,10] [3,900000,900001] [] [] [] [0] (r1 1 [3,6,7,10] [3,900000,900001] [pf (inR .i64 (v2.1 - 1))] [0] (.next 0 [(900000,some 900000)] (D155Lb2 x0 x1 x2 v1 (v2.1 - 1,siftDownL (SrtL.mk (swp v2.2 x1 (x1+v2.1))) 0 v2.1 x1)))))) (rt [(900000,some 900000),(900001,some 900001)] (C155L x0 x1 x2 v2.2)))
def A155Lb1 (x0:SrtL) (x1:Int) (x2:Int) (v1:Int×(List (List Int))):Ann:=r0 1 [3,6,7,8,9,19] [3,900000,900001] (cn (decide (0≤v1.1)) (.reg 1 [] [(4,k166L 26 [900000,900001] (SrtL.mk v1.2) v1.1 (x2 - x1) x1)] [3,6,7,8,9] [3,900000,900001] [] [] [] [0] (r1 1 [3,6,7,8,9] [3,900000,900001] [pf (inR .i64 (v1.1 - 1))] [0] (.next 0 [(900000,some 900000)] (D155Lb1 x0 x1 x2 (v1.1 - 1,siftDownL (SrtL.mk v1.2) v1.1 (x2 - x1) x1))))) (r1 1 [3,6,7,10] [3,900000,900001] [pf (inR .i64 ((x2 - x1) - 1))] [0] (.loop (Int×(List (List Int))) (D155Lb2 x0 x1 x2 v1) [] [] [(900000,some 900000)] (D155Lb2 x0 x1 x2 v1 ((x2 - x1) - 1,v1.2)) (A155Lb2 x0 x1 x2 v1))))
def A155L (x0:SrtL) (x1:Int) (x2:Int):Ann:=r1 4 [3,6,7,8] [3,900000,900001] [pf (inR .i64 (x2 - x1))] [0] (r1 1 [3,6,7,8,9] [3,900000,900001] [pf (inR .i64 ((x2 - x1) - 1)),pf ((2:Int) ≠ 0),pf (inR .i64 (((x2 - x1) - 1).tdiv 2))] [0,4,8] (.loop (Int×(List (List Int))) (D155Lb1 x0 x1 x2) [] [] [(900000,some 900000)] (D155Lb1 x0 x1 x2 (((x2 - x1) - 1).tdiv 2,x0.l)) (A155Lb1 x0 x1 x2)))
theorem heapSortL_sw (x0:SrtL) (x1 x2:Int) (h:0≤x1∧x1≤x2):Sw x1 x2 x0.l (heapSortL x0 x1 x2):=by
 unfold heapSortL
 refine loopW_to (fun v=>Sw x1 x2 x0.l v.2) (fun v=>(v.1+1).toNat) (fun l=>Sw x1 x2 x0.l l) (fun v next hv hn=>?_) _ _ (by dsimp only;omega) .refl
 cases hc:decide (0≤v.1) with
 | true =>
  simp only [decide_eq_true_eq] at hc
  exact hn _ (Sw.via (siftDownL_sw _ _ _ _ hc) hv (by omega) (by omega)) (by dsimp only;omega)
 | false =>
  refine loopW_to (fun v=>v.1<x2 - x1∧Sw x1 x2 x0.l v.2) (fun v=>(v.1+1).toNat) (fun l=>Sw x1 x2 x0.l l) (fun v next hv hn=>?_) _ _ (by dsimp only;omega) ⟨by dsimp only;omega,hv⟩
  cases hc:decide (0≤v.1) with
  | true =>
   simp only [decide_eq_true_eq] at hc
   exact hn _ ⟨by dsimp only;omega,Sw.via (siftDownL_sw _ _ _ _ (by omega)) (.step hv.2 _ _ (by omega) (by omega)) (by omega) (by omega)⟩ (by dsimp only;omega)
  | false=>exact hv.2

theorem ok_sort_heapSort_func_L (x0:SrtL) (x1:Int) (x2:Int) (hx:x0.l.length≤255) (hok:OkL x0) (hab:0≤x1∧x1≤x2∧x2≤x0.l.length):FnMT Try.prog 155 [.agg [.clo 110 [.vp 900001 0],.clo 151 [.own 900000,.k Try.prog.globals.size 47]],.int .i64 x1,.int .i64 x2] [.nest true 1 x0.l.length (nrOf (cInt .i64) x0.l),.var [.own 900000]] (C155L x0 x1 x2 (heapSortL x0 x1 x2)):=by
 have aux:∀ R,heapSortL x0 x1 x2=R→slim (C155L x0 x1 x2 R) (A155L x0 x1 x2) []:=by
  intro R hR
  refine rg ⟨by ( intros;simp only [inR];omega),trivial⟩ ?_
  refine rg ⟨by ( intros;simp only [inR];omega),by trivial,by (have h9:=tdiv2 (x2 - x1 - 1) (by omega);((try clear hR);(try clear hK1);(try clear hK2);intros;(try simp only [w1,w2,w3,w4,w5,w6,swp_len,inR,IntKind.bits] at *));omega),trivial⟩ ?_
  revert hR;refine lW (fun v=>(-1≤v.1∧v.1<x2 - x1+1)∧(Sw x1 x2 x0.l v.2∧v.2.length=x0.l.length)) (fun v=>(v.1+1).toNat) (by (have h9:=tdiv2 (x2 - x1 - 1) (by omega);((try clear hR);(try clear hK1);(try clear hK2);intros;(try simp only [w1,w2,w3,w4,w5,w6,swp_len,inR,IntKind.bits] at *));refine ⟨by omega,?_,trivial⟩;((repeat first | refine Sw.step ?_ _ _ (by omega) (by omega) | refine Sw.via (siftDownL_sw _ _ _ _ (by (try dsimp only);omega)) ?_ (by (try dsimp only);omega) (by (try dsimp only);omega)) <;> first | exact hI2.2.1 | exact hI1.2.1 | exact Sw.refl | exact hI2.2.1.mono (by omega) (by omega) | exact hI1.2.1.mono (by omega) (by omega)))) (Nat.lt_succ_self _) rfl fun m1 v1 F1 hI1 hM1 hR hK1=>?_
  refine rg trivial ?_
  revert hR;refine cd (fun hc1 hR=>?_) fun hc1 hR=>?_
  ·
    refine rg ⟨⟨by ( intros;simp only [inR];omega),by (exact OkLL.sw (a:=0) (b:=x0.l.length) hok (by ((try clear hR);(try clear hK1);(try clear hK2);intros;(try simp only [w1,w2,w3,w4,w5,w6,swp_len,inR,IntKind.bits] at *));((repeat first | refine Sw.step ?_ _ _ (by omega) (by omega) | refine Sw.via (siftDownL_sw _ _ _ _ (by (try dsimp only);omega)) ?_ (by (try dsimp only);omega) (by (try dsimp only);omega)) <;> first | exact hI2.2.1 | exact hI1.2.1 | exact Sw.refl | exact hI2.2.1.mono (by omega) (by omega) | exact hI1.2.1.mono (by omega) (by omega))) ⟨by omega,by omega⟩),by (((try clear hR);(try clear hK1);(try clear hK2);intros;(try simp only [w1,w2,w3,w4,w5,w6,swp_len,inR,IntKind.bits] at *));omega)⟩,trivial⟩ ?_
    refine rg ⟨by ( intros;simp only [inR];omega),trivial⟩ ?_
    exact hK1 (v1.1 - 1,siftDownL (SrtL.mk v1.2) v1.1 (x2 - x1) x1) (by (((try clear hR);(try clear hK1);(try clear hK2);intros;(try simp only [w1,w2,w3,w4,w5,w6,swp_len,inR,IntKind.bits] at *));refine ⟨by omega,Sw.both ?_⟩;((repeat first | refine Sw.step ?_ _ _ (by omega) (by omega) | refine Sw.via (siftDownL_sw _ _ _ _ (by (try dsimp only);omega)) ?_ (by (try dsimp only);omega) (by (try dsimp only);omega)) <;> first | exact hI2.2.1 | exact hI1.2.1 | exact Sw.refl | exact hI2.2.1.mono (by omega) (by omega) | exact hI1.2.1.mono (by omega) (by omega)))) (by (((try clear hR);(try clear hK1);(try clear hK2);intros;(try simp only [w1,w2,w3,w4,w5,w6,swp_len,inR,IntKind.bits] at *));omega)) hR
  ·
    refine rg ⟨by ( intros;simp only [inR];omega),trivial⟩ ?_
    revert hR;refine lW (fun v=>(-1≤v.1∧v.1<x2 - x1)∧(Sw x1 x2 x0.l v.2∧v.2.length=x0.l.length)) (fun v=>(v.1+1).toNat) (by (((try clear hR);(try clear hK1);(try clear hK2);intros;(try simp only [w1,w2,w3,w4,w5,w6,swp_len,inR,IntKind.bits] at *));refine ⟨by omega,Sw.both ?_⟩;((repeat first | refine Sw.step ?_ _ _ (by omega) (by omega) | refine Sw.via (siftDownL_sw _ _ _ _ (by (try dsimp only);omega)) ?_ (by (try dsimp only);omega) (by (try dsimp only);omega)) <;> first | exact hI2.2.1 | exact hI1.2.1 | exact Sw.refl | exact hI2.2.1.mono (by omega) (by omega) | exact hI1.2.1.mono (by omega) (by omega)))) (Nat.lt_succ_self _) rfl fun m2 v2 F2 hI2 hM2 hR hK2=>?_
    refine rg trivial ?_
    revert hR;refine cd (fun hc2 hR=>?_) fun hc2 hR=>?_
    ·
      refine rg ⟨by ( intros;simp only [inR];omega),⟨by (((try clear hR);(try clear hK1);(try clear hK2);intros;(try simp only [w1,w2,w3,w4,w5,w6,swp_len,inR,IntKind.bits] at *));omega),by (((try clear hR);(try clear hK1);(try clear hK2);intros;(try simp only [w1,w2,w3,w4,w5,w6,swp_len,inR,IntKind.bits] at *));omega)⟩,trivial⟩ ?_
      refine rg ⟨⟨by (((try clear hR);(try clear hK1);(try clear hK2);intros;(try simp only [w1,w2,w3,w4,w5,w6,swp_len,inR,IntKind.bits] at *));omega),by (exact OkLL.sw (a:=0) (b:=x0.l.length) hok (by ((try clear hR);(try clear hK1);(try clear hK2);intros;(try simp only [w1,w2,w3,w4,w5,w6,swp_len,inR,IntKind.bits] at *));((repeat first | refine Sw.step ?_ _ _ (by omega) (by omega) | refine Sw.via (siftDownL_sw _ _ _ _ (by (try dsimp only);omega)) ?_ (by (try dsimp only);omega) (by (try dsimp only);omega)) <;> first | exact hI2.2.1 | exact hI1.2.1 | exact Sw.refl | exact hI2.2.1.mono (by omega) (by omega) | exact hI1.2.1.mono (by omega) (by omega))) ⟨by omega,by omega⟩),by (((try clear hR);(try clear hK1);(try clear hK2);intros;(try simp only [w1,w2,w3,w4,w5,w6,swp_len,inR,IntKind.bits] at *));omega)⟩,trivial⟩ ?_
      refine rg ⟨by ( intros;simp only [inR];omega),trivial⟩ ?_
      exact hK2 (v2.1 - 1,siftDownL (SrtL.mk (swp v2.2 x1 (x1+v2.1))) 0 v2.1 x1) (by (((try clear hR);(try clear hK1);(try clear hK2);intros;(try simp only [w1,w2,w3,w4,w5,w6,swp_len,inR,IntKind.bits] at *));refine ⟨by omega,Sw.both ?_⟩;((repeat first | refine Sw.step ?_ _ _ (by omega) (by omega) | refine Sw.via (siftDownL_sw _ _ _ _ (by (try dsimp only);omega)) ?_ (by (try dsimp only);omega) (by (try dsimp only);omega)) <;> first | exact hI2.2.1 | exact hI1.2.1 | exact Sw.refl | exact hI2.2.1.mono (by omega) (by omega) | exact hI1.2.1.mono (by omega) (by omega)))) (by (((try clear hR);(try clear hK1);(try clear hK2);intros;(try simp only [w1,w2,w3,w4,w5,w6,swp_len,inR,IntKind.bits] at *));omega)) hR
    ·
      exact congrArg (C155L x0 x1 x2) hR
 exact FnM.go 45 Try.func155 (by kernel_rfl) (by kernel_rfl) (A155L x0 x1 x2) (by kernel_rfl) (aux _ rfl)
def k155L (d:Nat) (ids:List Nat) (x0:SrtL) (x1:Int) (x2:Int):Cl:=(hresM d ids (C155L x0 x1 x2 (heapSortL x0 x1 x2)),k3 (ok_sort_heapSort_func_L x0 x1 x2))
end Go.Proofs.Ytkkijpibajigfaa
