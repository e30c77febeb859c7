import Derived.Test.YtikfeeaapenplabVS1
set_option maxHeartbeats 4000000
set_option linter.unusedSimpArgs false
set_option linter.unusedVariables false
namespace Go.Proofs.Ytikfeeaapenplab
open Go Go.Lite Go.Proofs
def C171E (x0:SrtE) (x1:Int) (x2:Int) (x3:Int) (R:(List Int)):LV×List (Nat×BC):=(.tup [],[(900000,.arr 1 R.length (rowOf (cInt .i64) R)),(900001,.var [.ro false 6 x0.c0.people.length (rowOf (cPerson false) x0.c0.people),.ro false 4 x0.c0.unions.length (rowOf (cUnion false) x0.c0.unions)]),(900002,.var [.own 900000])])
def siftDownE (x0:SrtE) (x1:Int) (x2:Int) (x3:Int):(List Int):=loopW (fun (v1:Int×(List Int)) next=>bif (decide (x2≤((2 * v1.1)+1))) then v1.2 else (bif ((decide ((((2 * v1.1)+1)+1)<x2)) && (chosenLess (x3+((2 * v1.1)+1)) ((x3+((2 * v1.1)+1))+1) x0.c0 v1.2)) then (bif (!(chosenLess (x3+v1.1) (x3+(((2 * v1.1)+1)+1)) x0.c0 v1.2)) then v1.2 else (next (((2 * v1.1)+1)+1,(swp v1.2 (x3+v1.1) (x3+(((2 * v1.1)+1)+1)))))) else (bif (!(chosenLess (x3+v1.1) (x3+((2 * v1.1)+1)) x0.c0 v1.2)) then v1.2 else (next ((2 * v1.1)+1,(swp v1.2 (x3+v1.1) (x3+((2 * v1.1)+1)))))))) ((x2+255 - (x1)).toNat+1) (x1,x0.l)
def D171Eb1 (x0:SrtE) (x1:Int) (x2:Int) (x3:Int) (v1:Int×(List Int)):Dl:=⟨[(8,.int .i64 v1.1)],[(900000,.arr 1 v1.2.length (rowOf (cInt .i64) v1.2))]⟩
def A171Eb1 (x0:SrtE) (x1:Int) (x2:Int) (x3:Int) (v1:Int×(List Int)):Ann:=r1 1 [2,3,4,8,9] [4,900000,900001,900002] [pf (inR .i64 (2 * v1.1)),pf (inR .i64 ((2 * v1.1)+1))] [0,4] (r0 1 [2,3,4,8,9,16] [4,900000,900001,900002] (cn (decide (x2≤((2 * v1.1)+1))) (rt [(900000,some 900000),(900001,some 900001),(900002,some 900002)] (C171E x0 x1 x2 x3 v1.2)) (.reg 1 [] [(14,cg (decide ((((2 * v1.1)+1)+1)<x2)) (k131 (x3+((2 * v1.1)+1)) ((x3+((2 * v1.1)+1))+1) x0.c0 v1.2))] [2,3,4,8,9,32] [4,900000,900001,900002] [decide ((((2 * v1.1)+1)+1)<x2)] [pf (inR .i64 (((2 * v1.1)+1)+1)),gt (decide ((((2 * v1.1)+1)+1)<x2)) (pf (inR .i64 (x3+((2 * v1.1)+1)))),gt (decide ((((2 * v1.1)+1)+1)<x2)) (pf (inR .i64 ((x3+((2 * v1.1)+1))+1)))] [] [0,1,1,1,4,1,1,4,1,8,1,1,1,12,1] (cn ((decide ((((2 * v1.1)+1)+1)<x2)) && (chosenLess (x3+((2 * v1.1)+1)) ((x3+((2 * v1.1)+1))+1) x0.c0 v1.2)) (r1 1 [2,3,4,8,9] [4,900000,900001,900002] [pf (inR .i64 (((2 * v1.1)+1)+1))] [0] (.reg 1 [] [(8,k131 (x3+v1.1) (x3+(((2 * v1.1)+1)+1)) x0.c0 v1.2)] [2,3,4,8,9,44] [4,900000,900001,900002] [] [pf (inR .i64 (x3+v1.1)),pf (inR .i64 (x3+(((2 * v1.1)+1)+1)))] [] [0,4,8] (cn (!(chosenLess (x3+v1.1) (x3+(((2 * v1.1)+1)+1)) x0.c0 v1.2)) (rt [(900000,some 900000),(900001,some 900001),(900002,some 900002)] (C171E x0 x1 x2 x3 v1.2)) (.reg 1 [] [(8,kswE 504 [900000] v1.2 (x3+v1.1) (x3+(((2 * v1.1)+1)+1)))] [2,3,4,8,9] [4,900000,900001,900002] [] [pf (inR .i64 (x3+v1.1)),pf (inR .i64 (x3+(((2 * v1.1)+1)+1)))] [] [0,4,8] (r0 1 [2,3,4,8] [4,900000,900001,900002] (.next 0 [(900000,some 900000)] (D171Eb1 x0 x1 x2 x3 (((2 * v1.1)+1)+1,(swp v1.2 (x3+v1.1) (x3+(((2 * v1.1)+1)+1))))))))))) (.reg 1 [] [(8,k131 (x3+v1.1) (x3+((2 * v1.1)+1)) x0.c0 v1.2)] [2,3,4,8,9,44] [4,900000,900001,900002] [] [pf (inR .i64 (x3+v1.1)),pf (inR .i64 (x3+((2 * v1.1)+1)))] [] [0,4,8] (cn (!(chosenLess (x3+v1.1) (x3+((2 * v1.1)+1)) x0.c0 v1.2)) (rt [(900000,some 900000),(900001,some 900001),(900002,some 900002)] (C171E x0 x1 x2 x3 v1.2)) (.reg 1 [] [(8,kswE 504 [900000] v1.2 (x3+v1.1) (x3+((2 * v1.1)+1)))] [2,3,4,8,9] [4,900000,900001,900002] [] [pf (inR .i64 (x3+v1.1)),pf (inR .i64 (x3+((2 * v1.1)+1)))] [] [0,4,8] (r0 1 [2,3,4,8] [4,900000,900001,900002] (.next 0 [(900000,some 900000)] (D171Eb1 x0 x1 x2 x3 ((2 * v1.1)+1,(swp v1.2 (x3+v1.1) (x3+((2 * v1.1)+1))))))))))))))
def A171E (x0:SrtE) (x1:Int) (x2:Int) (x3:Int):Ann:=r0 2 [2,3,4,8] [4,900000,900001,900002] (.loop (Int×(List Int)) (D171Eb1 x0 x1 x2 x3) [] [] [(900000,some 900000)] (D171Eb1 x0 x1 x2 x3 (x1,x0.l)) (A171Eb1 x0 x1 x2 x3))
theorem siftDownE_sw (x0 : SrtE) (x1 x2 x3 : Int) (h : 0 ≤ x1) : Sw (x3 + x1) (x3 + x2) x0.l (siftDownE x0 x1 x2 x3) := by
  unfold siftDownE
  refine loopW_to (fun v=>x1≤v.1∧Sw (x3+x1) (x3+x2) x0.l v.2) (fun v=>(x2+255 - v.1).toNat) (fun l=>Sw (x3+x1) (x3+x2) x0.l l) (fun v next hv hn=>?_) _ _ (by dsimp only;omega) ⟨by simp,.refl⟩
  cases hc:decide (x2≤2 * v.1+1) with
  | true=>exact hv.2
  | false =>
    simp only [decide_eq_false_iff_not] at hc
    cases hd:(decide (2 * v.1+1+1<x2)) && (chosenLess (x3+(2 * v.1+1)) ((x3+(2 * v.1+1))+1) x0.c0 v.2) with
    | true =>
      simp only [Bool.and_eq_true,decide_eq_true_eq] at hd
      cases he:!(chosenLess (x3+v.1) (x3+(2 * v.1+1+1)) x0.c0 v.2) with
      | true=>exact hv.2
      | false=>exact hn _ ⟨by dsimp only;omega,.step hv.2 _ _ (by omega) (by omega)⟩ (by dsimp only;omega)
    | false =>
      cases he:!(chosenLess (x3+v.1) (x3+(2 * v.1+1)) x0.c0 v.2) with
      | true=>exact hv.2
      | false=>exact hn _ ⟨by dsimp only;omega,.step hv.2 _ _ (by omega) (by omega)⟩ (by dsimp only;omega)

theorem ok_sort_siftDown_func_E (x0 : SrtE) (x1 : Int) (x2 : Int) (x3 : Int) (hx : x0.l.length ≤ 255) (hok : OkE x0) (hab : 0 ≤ x1 ∧ 0 ≤ x3 ∧ 0 ≤ x2 ∧ x3 + x2 ≤ x0.l.length ∧ x1 ≤ 255) : FnMT Try.prog 171 [.agg [.clo 131 [.vp 900001 0, .vp 900002 0], .clo 151 [.own 900000, .k Try.prog.globals.size 3]], .int .i64 x1, .int .i64 x2, .int .i64 x3] [.arr 1 x0.l.length (rowOf (cInt .i64) x0.l), .var [.ro false 6 x0.c0.people.length (rowOf (cPerson false) x0.c0.people), .ro false 4 x0.c0.unions.length (rowOf (cUnion false) x0.c0.unions)], .var [.own 900000]] (C171E x0 x1 x2 x3 (siftDownE x0 x1 x2 x3)) := by
  have aux : ∀ R, siftDownE x0 x1 x2 x3 = R → slim (C171E x0 x1 x2 x3 R) (A171E x0 x1 x2 x3) [] := by
    intro R hR
    refine rg trivial ?_
    revert hR;refine lW (fun v=>(x1≤v.1∧v.1≤255)∧(Sw (x3+x1) (x3+x2) x0.l v.2∧v.2.length=x0.l.length)) (fun v=>(x2+255 - (v.1)).toNat) (by (((try clear hR);(try clear hK1);intros;(try simp only [w1,w2,w3,w4,w5,w6,swp_len,inR,IntKind.bits] at *));refine ⟨by omega,?_,trivial⟩;((repeat first | refine Sw.step ?_ _ _ (by omega) (by omega)) <;> first | exact hI1.2.1 | exact Sw.refl | exact hI1.2.1.mono (by omega) (by omega)))) (Nat.lt_succ_self _) rfl fun m1 v1 F1 hI1 hM1 hR hK1=>?_
    refine rg ⟨by ( intros;simp only [inR];omega),by ( intros;simp only [inR];omega),trivial⟩ ?_
    refine rg trivial ?_
    revert hR;refine cd (fun hc1 hR=>?_) fun hc1 hR=>?_
    ·
      exact congrArg (C171E x0 x1 x2 x3) hR
    ·
      refine rg ⟨by ( intros;simp only [inR];omega),by ( intros;simp only [inR];omega),by ( intros;simp only [inR];omega),fun hg0=>⟨by (((try clear hR);(try clear hK1);intros;(try simp only [w1,w2,w3,w4,w5,w6,swp_len,inR,IntKind.bits] at *));omega),by (((try clear hR);(try clear hK1);intros;(try simp only [w1,w2,w3,w4,w5,w6,swp_len,inR,IntKind.bits] at *));omega),by (exact OkL.sw (a:=0) (b:=x0.l.length) hok (by ((try clear hR);(try clear hK1);intros;(try simp only [w1,w2,w3,w4,w5,w6,swp_len,inR,IntKind.bits] at *));((repeat first | refine Sw.step ?_ _ _ (by omega) (by omega)) <;> first | exact hI1.2.1 | exact Sw.refl | exact hI1.2.1.mono (by omega) (by omega))) ⟨by omega,by omega⟩)⟩,trivial⟩ ?_
      revert hR;refine cd (fun hc2 hR=>?_) fun hc2 hR=>?_
      ·
        refine rg ⟨by ( intros;simp only [inR];omega),trivial⟩ ?_
        refine rg ⟨by ( intros;simp only [inR];omega),by ( intros;simp only [inR];omega),⟨by (((try clear hR);(try clear hK1);intros;(try simp only [w1,w2,w3,w4,w5,w6,swp_len,inR,IntKind.bits] at *));omega),by (((try clear hR);(try clear hK1);intros;(try simp only [w1,w2,w3,w4,w5,w6,swp_len,inR,IntKind.bits] at *));omega),by (exact OkL.sw (a:=0) (b:=x0.l.length) hok (by ((try clear hR);(try clear hK1);intros;(try simp only [w1,w2,w3,w4,w5,w6,swp_len,inR,IntKind.bits] at *));((repeat first | refine Sw.step ?_ _ _ (by omega) (by omega)) <;> first | exact hI1.2.1 | exact Sw.refl | exact hI1.2.1.mono (by omega) (by omega))) ⟨by omega,by omega⟩)⟩,trivial⟩ ?_
        revert hR;refine cd (fun hc3 hR=>?_) fun hc3 hR=>?_
        ·
          exact congrArg (C171E x0 x1 x2 x3) hR
        ·
          refine rg ⟨by ( intros;simp only [inR];omega),by ( intros;simp only [inR];omega),⟨by (((try clear hR);(try clear hK1);intros;(try simp only [w1,w2,w3,w4,w5,w6,swp_len,inR,IntKind.bits] at *));omega),by (((try clear hR);(try clear hK1);intros;(try simp only [w1,w2,w3,w4,w5,w6,swp_len,inR,IntKind.bits] at *));omega)⟩,trivial⟩ ?_
          refine rg trivial ?_
          exact hK1 (((2 * v1.1)+1)+1,(swp v1.2 (x3+v1.1) (x3+(((2 * v1.1)+1)+1)))) (by (((try clear hR);(try clear hK1);intros;(try simp only [w1,w2,w3,w4,w5,w6,swp_len,inR,IntKind.bits] at *));(repeat' apply And.intro) <;> first | omega | ((repeat first | refine Sw.step ?_ _ _ (by omega) (by omega)) <;> first | exact hI1.2.1 | exact Sw.refl | exact hI1.2.1.mono (by omega) (by omega)))) (by (((try clear hR);(try clear hK1);intros;(try simp only [w1,w2,w3,w4,w5,w6,swp_len,inR,IntKind.bits] at *));omega)) hR
      ·
        refine rg ⟨by ( intros;simp only [inR];omega),by ( intros;simp only [inR];omega),⟨by (((try clear hR);(try clear hK1);intros;(try simp only [w1,w2,w3,w4,w5,w6,swp_len,inR,IntKind.bits] at *));omega),by (((try clear hR);(try clear hK1);intros;(try simp only [w1,w2,w3,w4,w5,w6,swp_len,inR,IntKind.bits] at *));omega),by (exact OkL.sw (a:=0) (b:=x0.l.length) hok (by ((try clear hR);(try clear hK1);intros;(try simp only [w1,w2,w3,w4,w5,w6,swp_len,inR,IntKind.bits] at *));((repeat first | refine Sw.step ?_ _ _ (by omega) (by omega)) <;> first | exact hI1.2.1 | exact Sw.refl | exact hI1.2.1.mono (by omega) (by omega))) ⟨by omega,by omega⟩)⟩,trivial⟩ ?_
        revert hR;refine cd (fun hc4 hR=>?_) fun hc4 hR=>?_
        ·
          exact congrArg (C171E x0 x1 x2 x3) hR
        ·
          refine rg ⟨by ( intros;simp only [inR];omega),by ( intros;simp only [inR];omega),⟨by (((try clear hR);(try clear hK1);intros;(try simp only [w1,w2,w3,w4,w5,w6,swp_len,inR,IntKind.bits] at *));omega),by (((try clear hR);(try clear hK1);intros;(try simp only [w1,w2,w3,w4,w5,w6,swp_len,inR,IntKind.bits] at *));omega)⟩,trivial⟩ ?_
          refine rg trivial ?_
          exact hK1 ((2 * v1.1)+1,(swp v1.2 (x3+v1.1) (x3+((2 * v1.1)+1)))) (by (((try clear hR);(try clear hK1);intros;(try simp only [w1,w2,w3,w4,w5,w6,swp_len,inR,IntKind.bits] at *));(repeat' apply And.intro) <;> first | omega | ((repeat first | refine Sw.step ?_ _ _ (by omega) (by omega)) <;> first | exact hI1.2.1 | exact Sw.refl | exact hI1.2.1.mono (by omega) (by omega)))) (by (((try clear hR);(try clear hK1);intros;(try simp only [w1,w2,w3,w4,w5,w6,swp_len,inR,IntKind.bits] at *));omega)) hR
  exact FnM.go 55 Try.func171 (by kernel_rfl) (by kernel_rfl) (A171E x0 x1 x2 x3) (by kernel_rfl) (aux _ rfl)
def k171E (d:Nat) (ids:List Nat) (x0:SrtE) (x1:Int) (x2:Int) (x3:Int):Cl:=(hresM d ids (C171E x0 x1 x2 x3 (siftDownE x0 x1 x2 x3)),k3 (ok_sort_siftDown_func_E x0 x1 x2 x3))
def C159E (x0:SrtE) (x1:Int) (x2:Int) (R:(List Int)):LV×List (Nat×BC):=(.tup [],[(900000,.arr 1 R.length (rowOf (cInt .i64) R)),(900001,.var [.ro false 6 x0.c0.people.length (rowOf (cPerson false) x0.c0.people),.ro false 4 x0.c0.unions.length (rowOf (cUnion false) x0.c0.unions)]),(900002,.var [.own 900000])])
def heapSortE (x0:SrtE) (x1:Int) (x2:Int):(List Int):=loopW (fun (v1:Int×(List Int)) next=>bif (decide (0≤v1.1)) then (next (v1.1 - 1,siftDownE (SrtE.mk x0.c0 v1.2) v1.1 (x2 - x1) x1)) else (loopW (fun (v2:Int×(List Int)) next=>bif (decide (0≤v2.1)) then (next (v2.1 - 1,siftDownE (SrtE.mk x0.c0 (swp v2.2 x1 (x1+v2.1))) 0 v2.1 x1)) else v2.2) (((x2 - x1) - 1+1).toNat+1) ((x2 - x1) - 1,v1.2))) ((((x2 - x1) - 1).tdiv 2+1).toNat+1) (((x2 - x1) - 1).tdiv 2,x0.l)
def D159Eb1 (x0:SrtE) (x1:Int) (x2:Int) (v1:Int×(List Int)):Dl:=⟨[(9,.int .i64 v1.1)],[(900000,.arr 1 v1.2.length (rowOf (cInt .i64) v1.2))]⟩
def D159Eb2 (x0:SrtE) (x1:Int) (x2:Int) (v1:Int×(List Int)) (v2:Int×(List Int)):Dl:=⟨[(10,.int .i64 v2.1)],[(900000,.arr 1 v2.2.length (rowOf (cInt .i64) v2.2))]⟩
def A159Eb2 (x0:SrtE) (x1:Int) (x2:Int) (v1:Int×(List Int)) (v2:Int×(List Int)):Ann:=r0 1 [3,6,7,10,30] [3,900000,900001,900002] (cn (decide (0≤v2.1)) (.reg 1 [] [(6,kswE 504 [900000] v2.2 x1 (x1+v2.1))] [3,6,7,10] [3,900000,900001,900002] [] [pf (inR .i64 (x1+v2.1))] [] [0,4] (.reg 1 [] [(4,k171E 44 [900000,900001,900002] (SrtE.mk x0.c0 (swp v2.2 x1 (x1+v2.1))) 0 v2.1 x1)] [3,6,7,10] [3,900000,900001,900002] [] [] [] [0] (r1 1 [3,6,7,10] [3,900000,900001,900002] [pf (inR .i64 (v2.1 - 1))] [0] (.next 0 [(900000,some 900000)] (D159Eb2 x0 x1 x2 v1 (v2.1 - 1,siftDownE (SrtE.mk x0.c0 (swp v2.2 x1 (x1+v2.1))) 0 v2.1 x1)))))) (rt [(900000,some 900000),(900001,some 900001),(900002,some 900002)] (C159E x0 x1 x2 v2.2)))
def A159Eb1 (x0:SrtE) (x1:Int) (x2:Int) (v1:Int×(List Int)):Ann:=r0 1 [3,6,7,8,9,19] [3,900000,900001,900002] (cn (decide (0≤v1.1)) (.reg 1 [] [(4,k171E 26 [900000,900001,900002] (SrtE.mk x0.c0 v1.2) v1.1 (x2 - x1) x1)] [3,6,7,8,9] [3,900000,900001,900002] [] [] [] [0] (r1 1 [3,6,7,8,9] [3,900000,900001,900002] [pf (inR .i64 (v1.1 - 1))] [0] (.next 0 [(900000,some 900000)] (D159Eb1 x0 x1 x2 (v1.1 - 1,siftDownE (SrtE.mk x0.c0 v1.2) v1.1 (x2 - x1) x1))))) (r1 1 [3,6,7,10] [3,900000,900001,900002] [pf (inR .i64 ((x2 - x1) - 1))] [0] (.loop (Int×(List Int)) (D159Eb2 x0 x1 x2 v1) [] [] [(900000,some 900000)] (D159Eb2 x0 x1 x2 v1 ((x2 - x1) - 1,v1.2)) (A159Eb2 x0 x1 x2 v1))))
def A159E (x0:SrtE) (x1:Int) (x2:Int):Ann:=r1 4 [3,6,7,8] [3,900000,900001,900002] [pf (inR .i64 (x2 - x1))] [0] (r1 1 [3,6,7,8,9] [3,900000,900001,900002] [pf (inR .i64 ((x2 - x1) - 1)),pf ((2:Int) ≠ 0),pf (inR .i64 (((x2 - x1) - 1).tdiv 2))] [0,4,8] (.loop (Int×(List Int)) (D159Eb1 x0 x1 x2) [] [] [(900000,some 900000)] (D159Eb1 x0 x1 x2 (((x2 - x1) - 1).tdiv 2,x0.l)) (A159Eb1 x0 x1 x2)))
theorem heapSortE_sw (x0 : SrtE) (x1 x2 : Int) (h : 0 ≤ x1 ∧ x1 ≤ x2) : Sw x1 x2 x0.l (heapSortE x0 x1 x2) := by
  unfold heapSortE
  refine loopW_to (fun v=>Sw x1 x2 x0.l v.2) (fun v=>(v.1+1).toNat) (fun l=>Sw x1 x2 x0.l l) (fun v next hv hn=>?_) _ _ (by dsimp only;omega) .refl
  cases hc:decide (0≤v.1) with
  | true =>
    simp only [decide_eq_true_eq] at hc
    exact hn _ (Sw.via (siftDownE_sw _ _ _ _ hc) hv (by omega) (by omega)) (by dsimp only;omega)
  | false =>
    refine loopW_to (fun v=>v.1<x2 - x1∧Sw x1 x2 x0.l v.2) (fun v=>(v.1+1).toNat) (fun l=>Sw x1 x2 x0.l l) (fun v next hv hn=>?_) _ _ (by dsimp only;omega) ⟨by dsimp only;omega,hv⟩
    cases hc:decide (0≤v.1) with
    | true =>
      simp only [decide_eq_true_eq] at hc
      exact hn _ ⟨by dsimp only;omega,Sw.via (siftDownE_sw _ _ _ _ (by omega)) (.step hv.2 _ _ (by omega) (by omega)) (by omega) (by omega)⟩ (by dsimp only;omega)
    | false=>exact hv.2

theorem ok_sort_heapSort_func_E (x0 : SrtE) (x1 : Int) (x2 : Int) (hx : x0.l.length ≤ 255) (hok : OkE x0) (hab : 0 ≤ x1 ∧ x1 ≤ x2 ∧ x2 ≤ x0.l.length) : FnMT Try.prog 159 [.agg [.clo 131 [.vp 900001 0, .vp 900002 0], .clo 151 [.own 900000, .k Try.prog.globals.size 3]], .int .i64 x1, .int .i64 x2] [.arr 1 x0.l.length (rowOf (cInt .i64) x0.l), .var [.ro false 6 x0.c0.people.length (rowOf (cPerson false) x0.c0.people), .ro false 4 x0.c0.unions.length (rowOf (cUnion false) x0.c0.unions)], .var [.own 900000]] (C159E x0 x1 x2 (heapSortE x0 x1 x2)) := by
  have aux : ∀ R, heapSortE x0 x1 x2 = R → slim (C159E x0 x1 x2 R) (A159E x0 x1 x2) [] := by
    intro R hR
    refine rg ⟨by ( intros;simp only [inR];omega),trivial⟩ ?_
    refine rg ⟨by ( intros;simp only [inR];omega),by trivial,by (have h9:=tdiv2 (x2 - x1 - 1) (by omega);((try clear hR);(try clear hK1);(try clear hK2);intros;(try simp only [w1,w2,w3,w4,w5,w6,swp_len,inR,IntKind.bits] at *));omega),trivial⟩ ?_
    revert hR;refine lW (fun v=>(-1≤v.1∧v.1<x2 - x1+1)∧(Sw x1 x2 x0.l v.2∧v.2.length=x0.l.length)) (fun v=>(v.1+1).toNat) (by (have h9:=tdiv2 (x2 - x1 - 1) (by omega);((try clear hR);(try clear hK1);(try clear hK2);intros;(try simp only [w1,w2,w3,w4,w5,w6,swp_len,inR,IntKind.bits] at *));refine ⟨by omega,?_,trivial⟩;((repeat first | refine Sw.step ?_ _ _ (by omega) (by omega) | refine Sw.via (siftDownE_sw _ _ _ _ (by omega)) ?_ (by omega) (by omega)) <;> first | exact hI2.2.1 | exact hI1.2.1 | exact Sw.refl | exact hI2.2.1.mono (by omega) (by omega) | exact hI1.2.1.mono (by omega) (by omega)))) (Nat.lt_succ_self _) rfl fun m1 v1 F1 hI1 hM1 hR hK1=>?_
    refine rg trivial ?_
    revert hR;refine cd (fun hc1 hR=>?_) fun hc1 hR=>?_
    ·
      refine rg ⟨⟨by ( intros;simp only [inR];omega),by (exact OkL.sw (a:=0) (b:=x0.l.length) hok (by ((try clear hR);(try clear hK1);(try clear hK2);intros;(try simp only [w1,w2,w3,w4,w5,w6,swp_len,inR,IntKind.bits] at *));((repeat first | refine Sw.step ?_ _ _ (by omega) (by omega) | refine Sw.via (siftDownE_sw _ _ _ _ (by omega)) ?_ (by omega) (by omega)) <;> first | exact hI2.2.1 | exact hI1.2.1 | exact Sw.refl | exact hI2.2.1.mono (by omega) (by omega) | exact hI1.2.1.mono (by omega) (by omega))) ⟨by omega,by omega⟩),by (((try clear hR);(try clear hK1);(try clear hK2);intros;(try simp only [w1,w2,w3,w4,w5,w6,swp_len,inR,IntKind.bits] at *));omega)⟩,trivial⟩ ?_
      refine rg ⟨by ( intros;simp only [inR];omega),trivial⟩ ?_
      exact hK1 (v1.1 - 1,siftDownE (SrtE.mk x0.c0 v1.2) v1.1 (x2 - x1) x1) (by (((try clear hR);(try clear hK1);(try clear hK2);intros;(try simp only [w1,w2,w3,w4,w5,w6,swp_len,inR,IntKind.bits] at *));refine ⟨by omega,Sw.both ?_⟩;((repeat first | refine Sw.step ?_ _ _ (by omega) (by omega) | refine Sw.via (siftDownE_sw _ _ _ _ (by omega)) ?_ (by omega) (by omega)) <;> first | exact hI2.2.1 | exact hI1.2.1 | exact Sw.refl | exact hI2.2.1.mono (by omega) (by omega) | exact hI1.2.1.mono (by omega) (by omega)))) (by (((try clear hR);(try clear hK1);(try clear hK2);intros;(try simp only [w1,w2,w3,w4,w5,w6,swp_len,inR,IntKind.bits] at *));omega)) hR
    ·
      refine rg ⟨by ( intros;simp only [inR];omega),trivial⟩ ?_
      revert hR;refine lW (fun v=>(-1≤v.1∧v.1<x2 - x1)∧(Sw x1 x2 x0.l v.2∧v.2.length=x0.l.length)) (fun v=>(v.1+1).toNat) (by (((try clear hR);(try clear hK1);(try clear hK2);intros;(try simp only [w1,w2,w3,w4,w5,w6,swp_len,inR,IntKind.bits] at *));refine ⟨by omega,Sw.both ?_⟩;((repeat first | refine Sw.step ?_ _ _ (by omega) (by omega) | refine Sw.via (siftDownE_sw _ _ _ _ (by omega)) ?_ (by omega) (by omega)) <;> first | exact hI2.2.1 | exact hI1.2.1 | exact Sw.refl | exact hI2.2.1.mono (by omega) (by omega) | exact hI1.2.1.mono (by omega) (by omega)))) (Nat.lt_succ_self _) rfl fun m2 v2 F2 hI2 hM2 hR hK2=>?_
      refine rg trivial ?_
      revert hR;refine cd (fun hc2 hR=>?_) fun hc2 hR=>?_
      ·
        refine rg ⟨by ( intros;simp only [inR];omega),⟨by (((try clear hR);(try clear hK1);(try clear hK2);intros;(try simp only [w1,w2,w3,w4,w5,w6,swp_len,inR,IntKind.bits] at *));omega),by (((try clear hR);(try clear hK1);(try clear hK2);intros;(try simp only [w1,w2,w3,w4,w5,w6,swp_len,inR,IntKind.bits] at *));omega)⟩,trivial⟩ ?_
        refine rg ⟨⟨by (((try clear hR);(try clear hK1);(try clear hK2);intros;(try simp only [w1,w2,w3,w4,w5,w6,swp_len,inR,IntKind.bits] at *));omega),by (exact OkL.sw (a:=0) (b:=x0.l.length) hok (by ((try clear hR);(try clear hK1);(try clear hK2);intros;(try simp only [w1,w2,w3,w4,w5,w6,swp_len,inR,IntKind.bits] at *));((repeat first | refine Sw.step ?_ _ _ (by omega) (by omega) | refine Sw.via (siftDownE_sw _ _ _ _ (by omega)) ?_ (by omega) (by omega)) <;> first | exact hI2.2.1 | exact hI1.2.1 | exact Sw.refl | exact hI2.2.1.mono (by omega) (by omega) | exact hI1.2.1.mono (by omega) (by omega))) ⟨by omega,by omega⟩),by (((try clear hR);(try clear hK1);(try clear hK2);intros;(try simp only [w1,w2,w3,w4,w5,w6,swp_len,inR,IntKind.bits] at *));omega)⟩,trivial⟩ ?_
        refine rg ⟨by ( intros;simp only [inR];omega),trivial⟩ ?_
        exact hK2 (v2.1 - 1,siftDownE (SrtE.mk x0.c0 (swp v2.2 x1 (x1+v2.1))) 0 v2.1 x1) (by (((try clear hR);(try clear hK1);(try clear hK2);intros;(try simp only [w1,w2,w3,w4,w5,w6,swp_len,inR,IntKind.bits] at *));refine ⟨by omega,Sw.both ?_⟩;((repeat first | refine Sw.step ?_ _ _ (by omega) (by omega) | refine Sw.via (siftDownE_sw _ _ _ _ (by omega)) ?_ (by omega) (by omega)) <;> first | exact hI2.2.1 | exact hI1.2.1 | exact Sw.refl | exact hI2.2.1.mono (by omega) (by omega) | exact hI1.2.1.mono (by omega) (by omega)))) (by (((try clear hR);(try clear hK1);(try clear hK2);intros;(try simp only [w1,w2,w3,w4,w5,w6,swp_len,inR,IntKind.bits] at *));omega)) hR
      ·
        exact congrArg (C159E x0 x1 x2) hR
  exact FnM.go 45 Try.func159 (by kernel_rfl) (by kernel_rfl) (A159E x0 x1 x2) (by kernel_rfl) (aux _ rfl)
def k159E (d:Nat) (ids:List Nat) (x0:SrtE) (x1:Int) (x2:Int):Cl:=(hresM d ids (C159E x0 x1 x2 (heapSortE x0 x1 x2)),k3 (ok_sort_heapSort_func_E x0 x1 x2))
def C176E (x0:SrtE) (x1:Int) (x2:Int) (x3:Int) (R:Int×Int×Int):LV×List (Nat×BC):=(.tup [.int .i64 R.1,.int .i64 R.2.1],[(900000,.arr 1 x0.l.length (rowOf (cInt .i64) x0.l)),(900001,.var [.ro false 6 x0.c0.people.length (rowOf (cPerson false) x0.c0.people),.ro false 4 x0.c0.unions.length (rowOf (cUnion false) x0.c0.unions)]),(900002,.var [.own 900000]),(900003,.var [.int .i64 R.2.2])])
def order2E (x0:SrtE) (x1:Int) (x2:Int) (x3:Int):Int×Int×Int:=bif (chosenLess x2 x1 x0.c0 x0.l) then (x2,x1,x3+1) else (x1,x2,x3)
def A176E (x0:SrtE) (x1:Int) (x2:Int) (x3:Int):Ann:=r0 1 [1,2,3,4,8,9] [4,900000,900001,900002,900003] (.reg 1 [] [(4,k131 x2 x1 x0.c0 x0.l)] [1,2,3,8,9,14] [900000,900001,900002,900003] [] [] [] [0] (cn (chosenLess x2 x1 x0.c0 x0.l) (r1 2 [1,2,8,9] [900000,900001,900002,900003] [pf (inR .i64 (x3+1))] [0] (rt [(900000,some 900000),(900001,some 900001),(900002,some 900002),(900003,some 900003)] (C176E x0 x1 x2 x3 (x2,x1,x3+1)))) (r0 1 [8,9] [900000,900001,900002,900003] (rt [(900000,some 900000),(900001,some 900001),(900002,some 900002),(900003,some 900003)] (C176E x0 x1 x2 x3 (x1,x2,x3))))))
theorem order2E_r (x0 : SrtE) (x1 x2 x3 : Int) : ((order2E x0 x1 x2 x3).1 = x1 ∧ (order2E x0 x1 x2 x3).2.1 = x2 ∨ (order2E x0 x1 x2 x3).1 = x2 ∧ (order2E x0 x1 x2 x3).2.1 = x1) ∧ x3 ≤ (order2E x0 x1 x2 x3).2.2 ∧ (order2E x0 x1 x2 x3).2.2 ≤ x3 + 1 := by
  unfold order2E
  cases chosenLess x2 x1 x0.c0 x0.l <;> (simp;omega)

theorem ok_sort_order2_func_E (x0 : SrtE) (x1 : Int) (x2 : Int) (x3 : Int) (hx : x0.l.length ≤ 255) (hok : OkE x0) (h1 : 0 ≤ x1 ∧ x1 < x0.l.length ∧ 0 ≤ x2 ∧ x2 < x0.l.length) (h3 : 0 ≤ x3 ∧ x3 ≤ 1000) : FnMT Try.prog 176 [.agg [.clo 131 [.vp 900001 0, .vp 900002 0], .clo 151 [.own 900000, .k Try.prog.globals.size 3]], .int .i64 x1, .int .i64 x2, .vp 900003 0] [.arr 1 x0.l.length (rowOf (cInt .i64) x0.l), .var [.ro false 6 x0.c0.people.length (rowOf (cPerson false) x0.c0.people), .ro false 4 x0.c0.unions.length (rowOf (cUnion false) x0.c0.unions)], .var [.own 900000], .var [.int .i64 x3]] (C176E x0 x1 x2 x3 (order2E x0 x1 x2 x3)) := by
  have aux : ∀ R, order2E x0 x1 x2 x3 = R → slim (C176E x0 x1 x2 x3 R) (A176E x0 x1 x2 x3) [] := by
    intro R hR
    refine rg trivial ?_
    refine rg ⟨⟨by (intros;omega),by (intros;omega),by trivial⟩,trivial⟩ ?_
    revert hR;refine cd (fun hc1 hR=>?_) fun hc1 hR=>?_
    ·
      refine rg ⟨by ( intros;simp only [inR];omega),trivial⟩ ?_
      exact congrArg (C176E x0 x1 x2 x3) hR
    ·
      refine rg trivial ?_
      exact congrArg (C176E x0 x1 x2 x3) hR
  exact FnM.go 24 Try.func176 (by kernel_rfl) (by kernel_rfl) (A176E x0 x1 x2 x3) (by kernel_rfl) (aux _ rfl)
def k176E (d:Nat) (ids:List Nat) (x0:SrtE) (x1:Int) (x2:Int) (x3:Int):Cl:=(hresM d ids (C176E x0 x1 x2 x3 (order2E x0 x1 x2 x3)),k4 (ok_sort_order2_func_E x0 x1 x2 x3))
def C175E (x0:SrtE) (x1:Int) (x2:Int) (x3:Int) (x4:Int) (R:Int×Int):LV×List (Nat×BC):=(.int .i64 R.1,[(900000,.arr 1 x0.l.length (rowOf (cInt .i64) x0.l)),(900001,.var [.ro false 6 x0.c0.people.length (rowOf (cPerson false) x0.c0.people),.ro false 4 x0.c0.unions.length (rowOf (cUnion false) x0.c0.unions)]),(900002,.var [.own 900000]),(900003,.var [.int .i64 R.2])])
def medianE (x0:SrtE) (x1:Int) (x2:Int) (x3:Int) (x4:Int):Int×Int:=jn (fun K1=>K1 ((order2E x0 x1 x2 x4).1,(order2E x0 x1 x2 x4).2.1,(order2E x0 x1 x2 x4).2.2)) (fun (j1:Int×Int×Int)=>jn (fun K2=>K2 ((order2E x0 j1.2.1 x3 j1.2.2).1,(order2E x0 j1.2.1 x3 j1.2.2).2.2)) (fun (j2:Int×Int)=>jn (fun K3=>K3 ((order2E x0 j1.1 j2.1 j2.2).2.1,(order2E x0 j1.1 j2.1 j2.2).2.2)) (fun (j3:Int×Int)=>(j3.1,j3.2))))
def D175Ej1 (x0:SrtE) (x1:Int) (x2:Int) (x3:Int) (x4:Int) (j1:Int×Int×Int):Dl:=⟨[(1,.int .i64 j1.1),(2,.int .i64 j1.2.1)],[(900003,.var [.int .i64 j1.2.2])]⟩
def D175Ej2 (x0:SrtE) (x1:Int) (x2:Int) (x3:Int) (x4:Int) (j1:Int×Int×Int) (j2:Int×Int):Dl:=⟨[(2,.int .i64 j2.1)],[(900003,.var [.int .i64 j2.2])]⟩
def D175Ej3 (x0:SrtE) (x1:Int) (x2:Int) (x3:Int) (x4:Int) (j1:Int×Int×Int) (j2:Int×Int) (j3:Int×Int):Dl:=⟨[(2,.int .i64 j3.1)],[(900003,.var [.int .i64 j3.2])]⟩
def A175Ej3 (x0:SrtE) (x1:Int) (x2:Int) (x3:Int) (x4:Int) (j1:Int×Int×Int) (j2:Int×Int) (j3:Int×Int):Ann:=r0 1 [10] [900000,900001,900002,900003] (rt [(900000,some 900000),(900001,some 900001),(900002,some 900002),(900003,some 900003)] (C175E x0 x1 x2 x3 x4 (j3.1,j3.2)))
def A175Ej2 (x0:SrtE) (x1:Int) (x2:Int) (x3:Int) (x4:Int) (j1:Int×Int×Int) (j2:Int×Int):Ann:=.join 0 (Int×Int) (D175Ej3 x0 x1 x2 x3 x4 j1 j2) [2,10] [900003,900001,900002,900000] (.reg 1 [] [(4,k176E 32 [900000,900001,900002,900003] x0 j1.1 j2.1 j2.2)] [2,10] [900000,900001,900002,900003] [] [] [] [0] (.next 0 [] (D175Ej3 x0 x1 x2 x3 x4 j1 j2 ((order2E x0 j1.1 j2.1 j2.2).2.1,(order2E x0 j1.1 j2.1 j2.2).2.2)))) (A175Ej3 x0 x1 x2 x3 x4 j1 j2)
def A175Ej1 (x0:SrtE) (x1:Int) (x2:Int) (x3:Int) (x4:Int) (j1:Int×Int×Int):Ann:=.join 0 (Int×Int) (D175Ej2 x0 x1 x2 x3 x4 j1) [1,2,4,5,10] [900003,5,900001,900002,900000] (.reg 1 [] [(4,k176E 24 [900000,900001,900002,900003] x0 j1.2.1 x3 j1.2.2)] [1,2,4,5,10] [5,900000,900001,900002,900003] [] [] [] [0] (.next 0 [] (D175Ej2 x0 x1 x2 x3 x4 j1 ((order2E x0 j1.2.1 x3 j1.2.2).1,(order2E x0 j1.2.1 x3 j1.2.2).2.2)))) (A175Ej2 x0 x1 x2 x3 x4 j1)
def A175E (x0:SrtE) (x1:Int) (x2:Int) (x3:Int) (x4:Int):Ann:=r0 1 [1,2,3,4,5,10] [5,900000,900001,900002,900003] (.join 0 (Int×Int×Int) (D175Ej1 x0 x1 x2 x3 x4) [1,2,3,4,5,10] [900003,5,900001,900002,900000] (.reg 1 [] [(4,k176E 16 [900000,900001,900002,900003] x0 x1 x2 x4)] [1,2,3,4,5,10] [5,900000,900001,900002,900003] [] [] [] [0] (.next 0 [] (D175Ej1 x0 x1 x2 x3 x4 ((order2E x0 x1 x2 x4).1,(order2E x0 x1 x2 x4).2.1,(order2E x0 x1 x2 x4).2.2)))) (A175Ej1 x0 x1 x2 x3 x4))
theorem medianE_r (x0 : SrtE) (x1 x2 x3 x4 : Int) : ((medianE x0 x1 x2 x3 x4).1 = x1 ∨ (medianE x0 x1 x2 x3 x4).1 = x2 ∨ (medianE x0 x1 x2 x3 x4).1 = x3) ∧ x4 ≤ (medianE x0 x1 x2 x3 x4).2 ∧ (medianE x0 x1 x2 x3 x4).2 ≤ x4 + 3 := by
  simp only [medianE,jn]
  have a:=order2E_r x0 x1 x2 x4
  have b:=order2E_r x0 (order2E x0 x1 x2 x4).2.1 x3 (order2E x0 x1 x2 x4).2.2
  have c:=order2E_r x0 (order2E x0 x1 x2 x4).1 (order2E x0 (order2E x0 x1 x2 x4).2.1 x3 (order2E x0 x1 x2 x4).2.2).1 (order2E x0 (order2E x0 x1 x2 x4).2.1 x3 (order2E x0 x1 x2 x4).2.2).2.2
  omega

theorem ok_sort_median_func_E (x0 : SrtE) (x1 : Int) (x2 : Int) (x3 : Int) (x4 : Int) (hx : x0.l.length ≤ 255) (hok : OkE x0) (h1 : 0 ≤ x1 ∧ x1 < x0.l.length ∧ 0 ≤ x2 ∧ x2 < x0.l.length ∧ 0 ≤ x3 ∧ x3 < x0.l.length) (h4 : 0 ≤ x4 ∧ x4 ≤ 900) : FnMT Try.prog 175 [.agg [.clo 131 [.vp 900001 0, .vp 900002 0], .clo 151 [.own 900000, .k Try.prog.globals.size 3]], .int .i64 x1, .int .i64 x2, .int .i64 x3, .vp 900003 0] [.arr 1 x0.l.length (rowOf (cInt .i64) x0.l), .var [.ro false 6 x0.c0.people.length (rowOf (cPerson false) x0.c0.people), .ro false 4 x0.c0.unions.length (rowOf (cUnion false) x0.c0.unions)], .var [.own 900000], .var [.int .i64 x4]] (C175E x0 x1 x2 x3 x4 (medianE x0 x1 x2 x3 x4)) := by
  have aux : ∀ R, medianE x0 x1 x2 x3 x4 = R → slim (C175E x0 x1 x2 x3 x4 R) (A175E x0 x1 x2 x3 x4) [] := by
    intro R hR
    refine rg trivial ?_
    revert hR;refine jN (fun v=>(v.1=x1∧v.2.1=x2 ∨ v.1=x2∧v.2.1=x1)∧x4≤v.2.2∧v.2.2≤x4+1) (fun F101 hR hJ101=>?_) (fun j1 hR hJ1=>?_)
    ·
      refine rg ⟨⟨by trivial,by trivial,by (intros;omega),by (intros;omega)⟩,trivial⟩ ?_
      have hp1:=order2E_r x0 x1 x2 x4
      exact hJ101 ((order2E x0 x1 x2 x4).1,(order2E x0 x1 x2 x4).2.1,(order2E x0 x1 x2 x4).2.2) hR (by trivial)
    ·
      revert hR;refine jN (fun v=>0≤v.1∧v.1<x0.l.length∧x4≤v.2∧v.2≤x4+2) (fun F102 hR hJ102=>?_) (fun j2 hR hJ2=>?_)
      ·
        refine rg ⟨⟨by trivial,by trivial,by (intros;omega),by (intros;omega)⟩,trivial⟩ ?_
        have hp2:=order2E_r x0 j1.2.1 x3 j1.2.2
        exact hJ102 ((order2E x0 j1.2.1 x3 j1.2.2).1,(order2E x0 j1.2.1 x3 j1.2.2).2.2) hR (by (intros;omega))
      ·
        revert hR;refine jN (fun v=>True) (fun F103 hR hJ103=>?_) (fun j3 hR hJ3=>?_)
        ·
          refine rg ⟨⟨by trivial,by trivial,by (intros;omega),by (intros;omega)⟩,trivial⟩ ?_
          have hp3:=order2E_r x0 j1.1 j2.1 j2.2
          exact hJ103 ((order2E x0 j1.1 j2.1 j2.2).2.1,(order2E x0 j1.1 j2.1 j2.2).2.2) hR (by trivial)
        ·
          refine rg trivial ?_
          exact congrArg (C175E x0 x1 x2 x3 x4) hR
  exact FnM.go 36 Try.func175 (by kernel_rfl) (by kernel_rfl) (A175E x0 x1 x2 x3 x4) (by kernel_rfl) (aux _ rfl)
def k175E (d:Nat) (ids:List Nat) (x0:SrtE) (x1:Int) (x2:Int) (x3:Int) (x4:Int):Cl:=(hresM d ids (C175E x0 x1 x2 x3 x4 (medianE x0 x1 x2 x3 x4)),k4 (ok_sort_median_func_E x0 x1 x2 x3 x4))
def C174E (x0:SrtE) (x1:Int) (x2:Int) (R:Int×Int):LV×List (Nat×BC):=(.int .i64 R.1,[(900000,.arr 1 x0.l.length (rowOf (cInt .i64) x0.l)),(900001,.var [.ro false 6 x0.c0.people.length (rowOf (cPerson false) x0.c0.people),.ro false 4 x0.c0.unions.length (rowOf (cUnion false) x0.c0.unions)]),(900002,.var [.own 900000]),(900003,.var [.int .i64 R.2])])
def medianAdjE (x0:SrtE) (x1:Int) (x2:Int):Int×Int:=((medianE x0 (x1 - 1) x1 (x1+1) x2).1,(medianE x0 (x1 - 1) x1 (x1+1) x2).2)
def A174E (x0:SrtE) (x1:Int) (x2:Int):Ann:=.reg 2 [] [(1007,k175E 14 [900000,900001,900002,900003] x0 (x1 - 1) x1 (x1+1) x2)] [6] [900000,900001,900002,900003] [] [pf (inR .i64 (x1 - 1)),pf (inR .i64 (x1+1))] [] [0,4,8] (rt [(900000,some 900000),(900001,some 900001),(900002,some 900002),(900003,some 900003)] (C174E x0 x1 x2 ((medianE x0 (x1 - 1) x1 (x1+1) x2).1,(medianE x0 (x1 - 1) x1 (x1+1) x2).2)))
theorem medianAdjE_r (x0 : SrtE) (x1 x2 : Int) : x1 - 1 ≤ (medianAdjE x0 x1 x2).1 ∧ (medianAdjE x0 x1 x2).1 ≤ x1 + 1 ∧ x2 ≤ (medianAdjE x0 x1 x2).2 ∧ (medianAdjE x0 x1 x2).2 ≤ x2 + 3 := by
  unfold medianAdjE
  have a:=medianE_r x0 (x1 - 1) x1 (x1+1) x2
  dsimp only
  omega

theorem ok_sort_medianAdjacent_func_E (x0 : SrtE) (x1 : Int) (x2 : Int) (hx : x0.l.length ≤ 255) (hok : OkE x0) (h1 : 1 ≤ x1 ∧ x1 + 1 < x0.l.length) (h2 : 0 ≤ x2 ∧ x2 ≤ 800) : FnMT Try.prog 174 [.agg [.clo 131 [.vp 900001 0, .vp 900002 0], .clo 151 [.own 900000, .k Try.prog.globals.size 3]], .int .i64 x1, .vp 900003 0] [.arr 1 x0.l.length (rowOf (cInt .i64) x0.l), .var [.ro false 6 x0.c0.people.length (rowOf (cPerson false) x0.c0.people), .ro false 4 x0.c0.unions.length (rowOf (cUnion false) x0.c0.unions)], .var [.own 900000], .var [.int .i64 x2]] (C174E x0 x1 x2 (medianAdjE x0 x1 x2)) := by
  have aux : ∀ R, medianAdjE x0 x1 x2 = R → slim (C174E x0 x1 x2 R) (A174E x0 x1 x2) [] := by
    intro R hR
    refine rg ⟨by ( intros;simp only [inR];omega),by ( intros;simp only [inR];omega),⟨by trivial,by trivial,by (intros;omega),by (intros;omega)⟩,trivial⟩ ?_
    have hp1:=medianE_r x0 (x1 - 1) x1 (x1+1) x2
    exact congrArg (C174E x0 x1 x2) hR
  exact FnM.go 15 Try.func174 (by kernel_rfl) (by kernel_rfl) (A174E x0 x1 x2) (by kernel_rfl) (aux _ rfl)
def k174E (d:Nat) (ids:List Nat) (x0:SrtE) (x1:Int) (x2:Int):Cl:=(hresM d ids (C174E x0 x1 x2 (medianAdjE x0 x1 x2)),k4 (ok_sort_medianAdjacent_func_E x0 x1 x2))
def C161E (x0:SrtE) (x1:Int) (x2:Int) (R:Int×Int):LV×List (Nat×BC):=(.tup [.int .i64 R.1,.int .i64 R.2],[(900000,.arr 1 x0.l.length (rowOf (cInt .i64) x0.l)),(900001,.var [.ro false 6 x0.c0.people.length (rowOf (cPerson false) x0.c0.people),.ro false 4 x0.c0.unions.length (rowOf (cUnion false) x0.c0.unions)]),(900002,.var [.own 900000])])
def choosePivotE (x0:SrtE) (x1:Int) (x2:Int):Int×Int:=jn (fun K1=>bif (decide (8≤(x2 - x1))) then (bif (decide (50≤(x2 - x1))) then (jn (fun K2=>K2 ((medianAdjE x0 (x1+(((x2 - x1).tdiv 4) * 1)) 0).1,(medianAdjE x0 (x1+(((x2 - x1).tdiv 4) * 1)) 0).2)) (fun (j2:Int×Int)=>jn (fun K3=>K3 ((medianAdjE x0 (x1+(((x2 - x1).tdiv 4) * 2)) j2.2).1,(medianAdjE x0 (x1+(((x2 - x1).tdiv 4) * 2)) j2.2).2)) (fun (j3:Int×Int)=>K1 ((medianE x0 j2.1 j3.1 ((medianAdjE x0 (x1+(((x2 - x1).tdiv 4) * 3)) j3.2).1) ((medianAdjE x0 (x1+(((x2 - x1).tdiv 4) * 3)) j3.2).2)).1,(medianE x0 j2.1 j3.1 ((medianAdjE x0 (x1+(((x2 - x1).tdiv 4) * 3)) j3.2).1) ((medianAdjE x0 (x1+(((x2 - x1).tdiv 4) * 3)) j3.2).2)).2)))) else (K1 ((medianE x0 (x1+(((x2 - x1).tdiv 4) * 1)) (x1+(((x2 - x1).tdiv 4) * 2)) (x1+(((x2 - x1).tdiv 4) * 3)) 0).1,(medianE x0 (x1+(((x2 - x1).tdiv 4) * 1)) (x1+(((x2 - x1).tdiv 4) * 2)) (x1+(((x2 - x1).tdiv 4) * 3)) 0).2))) else (K1 (x1+(((x2 - x1).tdiv 4) * 2),0))) (fun (j1:Int×Int)=>bif (decide (j1.2=0)) then (j1.1,1) else (bif (decide (j1.2=12)) then (j1.1,2) else (j1.1,0)))
def D161Ej1 (x0:SrtE) (x1:Int) (x2:Int) (j1:Int×Int):Dl:=⟨[(11,.int .i64 j1.1)],[(9,.var [.int .i64 j1.2])]⟩
def D161Ej2 (x0:SrtE) (x1:Int) (x2:Int) (j2:Int×Int):Dl:=⟨[(10,.int .i64 j2.1)],[(9,.var [.int .i64 j2.2])]⟩
def D161Ej3 (x0:SrtE) (x1:Int) (x2:Int) (j2:Int×Int) (j3:Int×Int):Dl:=⟨[(11,.int .i64 j3.1)],[(9,.var [.int .i64 j3.2])]⟩
def A161Ej3 (x0:SrtE) (x1:Int) (x2:Int) (j2:Int×Int) (j3:Int×Int):Ann:=.reg 1 [] [(2,k174E 43 [900000,900001,900002,9] x0 (x1+(((x2 - x1).tdiv 4) * 3)) j3.2)] [3,6,7,9,10,11,12] [3,9,900000,900001,900002] [] [] [] [0] (.reg 1 [] [(4,k175E 48 [900000,900001,900002,9] x0 j2.1 j3.1 ((medianAdjE x0 (x1+(((x2 - x1).tdiv 4) * 3)) j3.2).1) ((medianAdjE x0 (x1+(((x2 - x1).tdiv 4) * 3)) j3.2).2))] [6,7,9,11] [9,900000,900001,900002] [] [] [] [0] (.next 0 [] (D161Ej1 x0 x1 x2 ((medianE x0 j2.1 j3.1 ((medianAdjE x0 (x1+(((x2 - x1).tdiv 4) * 3)) j3.2).1) ((medianAdjE x0 (x1+(((x2 - x1).tdiv 4) * 3)) j3.2).2)).1,(medianE x0 j2.1 j3.1 ((medianAdjE x0 (x1+(((x2 - x1).tdiv 4) * 3)) j3.2).1) ((medianAdjE x0 (x1+(((x2 - x1).tdiv 4) * 3)) j3.2).2)).2))))
def A161Ej2 (x0:SrtE) (x1:Int) (x2:Int) (j2:Int×Int):Ann:=.join 0 (Int×Int) (D161Ej3 x0 x1 x2 j2) [3,6,7,9,10,11,12] [3,900001,900002,900000,9] (.reg 1 [] [(2,k174E 40 [900000,900001,900002,9] x0 (x1+(((x2 - x1).tdiv 4) * 2)) j2.2)] [3,6,7,9,10,11,12] [3,9,900000,900001,900002] [] [] [] [0] (.next 0 [] (D161Ej3 x0 x1 x2 j2 ((medianAdjE x0 (x1+(((x2 - x1).tdiv 4) * 2)) j2.2).1,(medianAdjE x0 (x1+(((x2 - x1).tdiv 4) * 2)) j2.2).2)))) (A161Ej3 x0 x1 x2 j2)
def A161Ej1 (x0:SrtE) (x1:Int) (x2:Int) (j1:Int×Int):Ann:=r0 1 [6,7,11,49] [900000,900001,900002] (r0 1 [6,7,11,49,51] [900000,900001,900002] (cn (decide (j1.2=0)) (r0 1 [6,7] [900000,900001,900002] (rt [(900000,some 900000),(900001,some 900001),(900002,some 900002)] (C161E x0 x1 x2 (j1.1,1)))) (r0 1 [6,7,11,54] [900000,900001,900002] (cn (decide (j1.2=12)) (r0 1 [6,7] [900000,900001,900002] (rt [(900000,some 900000),(900001,some 900001),(900002,some 900002)] (C161E x0 x1 x2 (j1.1,2)))) (r0 1 [6,7] [900000,900001,900002] (rt [(900000,some 900000),(900001,some 900001),(900002,some 900002)] (C161E x0 x1 x2 (j1.1,0))))))))
def A161E (x0:SrtE) (x1:Int) (x2:Int):Ann:=r1 6 [3,6,7,8,9,10,11,12] [3,9,900000,900001,900002] [pf (inR .i64 (x2 - x1)),pf ((4:Int) ≠ 0),pf (inR .i64 ((x2 - x1).tdiv 4)),pf (inR .i64 (((x2 - x1).tdiv 4) * 1)),pf (inR .i64 (x1+(((x2 - x1).tdiv 4) * 1))),pf (inR .i64 (((x2 - x1).tdiv 4) * 2)),pf (inR .i64 (x1+(((x2 - x1).tdiv 4) * 2))),pf (inR .i64 (((x2 - x1).tdiv 4) * 3)),pf (inR .i64 (x1+(((x2 - x1).tdiv 4) * 3)))] [0,4,8,12,16,4,8,20,24,4,8,28,32] (.join 0 (Int×Int) (D161Ej1 x0 x1 x2) [6,7,9,11] [9,900000,900001,900002] (r0 1 [3,6,7,8,9,10,11,12,32] [3,9,900000,900001,900002] (cn (decide (8≤(x2 - x1))) (r0 1 [3,6,7,9,10,11,12,34] [3,9,900000,900001,900002] (cn (decide (50≤(x2 - x1))) (.join 0 (Int×Int) (D161Ej2 x0 x1 x2) [3,6,7,9,10,11,12] [3,900001,900002,900000,9] (.reg 1 [] [(2,k174E 37 [900000,900001,900002,9] x0 (x1+(((x2 - x1).tdiv 4) * 1)) 0)] [3,6,7,9,10,11,12] [3,9,900000,900001,900002] [] [] [] [0] (.next 0 [] (D161Ej2 x0 x1 x2 ((medianAdjE x0 (x1+(((x2 - x1).tdiv 4) * 1)) 0).1,(medianAdjE x0 (x1+(((x2 - x1).tdiv 4) * 1)) 0).2)))) (A161Ej2 x0 x1 x2)) (.reg 1 [] [(4,k175E 48 [900000,900001,900002,9] x0 (x1+(((x2 - x1).tdiv 4) * 1)) (x1+(((x2 - x1).tdiv 4) * 2)) (x1+(((x2 - x1).tdiv 4) * 3)) 0)] [6,7,9,11] [9,900000,900001,900002] [] [] [] [0] (.next 0 [] (D161Ej1 x0 x1 x2 ((medianE x0 (x1+(((x2 - x1).tdiv 4) * 1)) (x1+(((x2 - x1).tdiv 4) * 2)) (x1+(((x2 - x1).tdiv 4) * 3)) 0).1,(medianE x0 (x1+(((x2 - x1).tdiv 4) * 1)) (x1+(((x2 - x1).tdiv 4) * 2)) (x1+(((x2 - x1).tdiv 4) * 3)) 0).2)))))) (.next 0 [] (D161Ej1 x0 x1 x2 (x1+(((x2 - x1).tdiv 4) * 2),0))))) (A161Ej1 x0 x1 x2))
theorem choosePivotE_r (x0 : SrtE) (x1 x2 : Int) (h : x1 < x2) : x1 ≤ (choosePivotE x0 x1 x2).1 ∧ (choosePivotE x0 x1 x2).1 < x2 := by
  have h4:=tdiv4 (x2 - x1) (by omega)
  have key : ∀ j : Int × Int, x1 ≤ j.1 ∧ j.1 < x2 → x1 ≤ (bif (decide (j.2 = 0)) then (j.1, (1 : Int)) else (bif (decide (j.2 = 12)) then (j.1, 2) else (j.1, 0))).1 ∧ (bif (decide (j.2 = 0)) then (j.1, (1 : Int)) else (bif (decide (j.2 = 12)) then (j.1, 2) else (j.1, 0))).1 < x2 := by
    intro j hj
    cases decide (j.2=0) <;> cases decide (j.2=12) <;> exact hj
  simp only [choosePivotE,jn]
  cases h8:decide (8≤x2 - x1) with
  | false=>exact key (x1+(x2 - x1).tdiv 4 * 2,0) (by dsimp only;omega)
  | true =>
    have h8:=of_decide_eq_true h8
    cases h5:decide (50≤x2 - x1) with
    | false =>
      have m:=medianE_r x0 (x1+(x2 - x1).tdiv 4 * 1) (x1+(x2 - x1).tdiv 4 * 2) (x1+(x2 - x1).tdiv 4 * 3) 0
      exact key _ (by omega)
    | true =>
      have h5:=of_decide_eq_true h5
      have a:=medianAdjE_r x0 (x1+(x2 - x1).tdiv 4 * 1) 0
      have b:=medianAdjE_r x0 (x1+(x2 - x1).tdiv 4 * 2) (medianAdjE x0 (x1+(x2 - x1).tdiv 4 * 1) 0).2
      have c:=medianAdjE_r x0 (x1+(x2 - x1).tdiv 4 * 3) (medianAdjE x0 (x1+(x2 - x1).tdiv 4 * 2) (medianAdjE x0 (x1+(x2 - x1).tdiv 4 * 1) 0).2).2
      have m:=medianE_r x0 (medianAdjE x0 (x1+(x2 - x1).tdiv 4 * 1) 0).1 (medianAdjE x0 (x1+(x2 - x1).tdiv 4 * 2) (medianAdjE x0 (x1+(x2 - x1).tdiv 4 * 1) 0).2).1 (medianAdjE x0 (x1+(x2 - x1).tdiv 4 * 3) (medianAdjE x0 (x1+(x2 - x1).tdiv 4 * 2) (medianAdjE x0 (x1+(x2 - x1).tdiv 4 * 1) 0).2).2).1 (medianAdjE x0 (x1+(x2 - x1).tdiv 4 * 3) (medianAdjE x0 (x1+(x2 - x1).tdiv 4 * 2) (medianAdjE x0 (x1+(x2 - x1).tdiv 4 * 1) 0).2).2).2
      exact key _ (by omega)

theorem ok_sort_choosePivot_func_E (x0 : SrtE) (x1 : Int) (x2 : Int) (hx : x0.l.length ≤ 255) (hok : OkE x0) (hab : 0 ≤ x1 ∧ x1 ≤ x2 ∧ x2 ≤ x0.l.length) : FnMT Try.prog 161 [.agg [.clo 131 [.vp 900001 0, .vp 900002 0], .clo 151 [.own 900000, .k Try.prog.globals.size 3]], .int .i64 x1, .int .i64 x2] [.arr 1 x0.l.length (rowOf (cInt .i64) x0.l), .var [.ro false 6 x0.c0.people.length (rowOf (cPerson false) x0.c0.people), .ro false 4 x0.c0.unions.length (rowOf (cUnion false) x0.c0.unions)], .var [.own 900000]] (C161E x0 x1 x2 (choosePivotE x0 x1 x2)) := by
  have aux : ∀ R, choosePivotE x0 x1 x2 = R → slim (C161E x0 x1 x2 R) (A161E x0 x1 x2) [] := by
    intro R hR
    refine rg ⟨by ( intros;simp only [inR];omega),by trivial,by (have h9:=tdiv4 (x2 - x1) (by omega);((try clear hR);intros;(try simp only [w1,w2,w3,w4,w5,w6,swp_len,inR,IntKind.bits] at *));omega),by (have h9:=tdiv4 (x2 - x1) (by omega);((try clear hR);intros;(try simp only [w1,w2,w3,w4,w5,w6,swp_len,inR,IntKind.bits] at *));omega),by (have h9:=tdiv4 (x2 - x1) (by omega);((try clear hR);intros;(try simp only [w1,w2,w3,w4,w5,w6,swp_len,inR,IntKind.bits] at *));omega),by (have h9:=tdiv4 (x2 - x1) (by omega);((try clear hR);intros;(try simp only [w1,w2,w3,w4,w5,w6,swp_len,inR,IntKind.bits] at *));omega),by (have h9:=tdiv4 (x2 - x1) (by omega);((try clear hR);intros;(try simp only [w1,w2,w3,w4,w5,w6,swp_len,inR,IntKind.bits] at *));omega),by (have h9:=tdiv4 (x2 - x1) (by omega);((try clear hR);intros;(try simp only [w1,w2,w3,w4,w5,w6,swp_len,inR,IntKind.bits] at *));omega),by (have h9:=tdiv4 (x2 - x1) (by omega);((try clear hR);intros;(try simp only [w1,w2,w3,w4,w5,w6,swp_len,inR,IntKind.bits] at *));omega),trivial⟩ ?_
    revert hR;refine jN (fun v=>True) (fun F101 hR hJ101=>?_) (fun j1 hR hJ1=>?_)
    ·
      refine rg trivial ?_
      revert hR;refine cd (fun hc1 hR=>?_) fun hc1 hR=>?_
      ·
        refine rg trivial ?_
        revert hR;refine cd (fun hc2 hR=>?_) fun hc2 hR=>?_
        ·
          revert hR;refine jN (fun v=>0≤v.1∧v.1<x0.l.length∧0≤v.2∧v.2≤3) (fun F102 hR hJ102=>?_) (fun j2 hR hJ2=>?_)
          ·
            refine rg ⟨⟨by trivial,by trivial,by (have h9:=tdiv4 (x2 - x1) (by omega);((try clear hR);intros;(try simp only [w1,w2,w3,w4,w5,w6,swp_len,inR,IntKind.bits] at *));omega),by trivial⟩,trivial⟩ ?_
            have hp1:=medianAdjE_r x0 (x1+(((x2 - x1).tdiv 4) * 1)) 0
            exact hJ102 ((medianAdjE x0 (x1+(((x2 - x1).tdiv 4) * 1)) 0).1,(medianAdjE x0 (x1+(((x2 - x1).tdiv 4) * 1)) 0).2) hR (by (have h9:=tdiv4 (x2 - x1) (by omega);((try clear hR);intros;(try simp only [w1,w2,w3,w4,w5,w6,swp_len,inR,IntKind.bits] at *));omega))
          ·
            revert hR;refine jN (fun v=>0≤v.1∧v.1<x0.l.length∧0≤v.2∧v.2≤6) (fun F103 hR hJ103=>?_) (fun j3 hR hJ3=>?_)
            ·
              refine rg ⟨⟨by trivial,by trivial,by (have h9:=tdiv4 (x2 - x1) (by omega);((try clear hR);intros;(try simp only [w1,w2,w3,w4,w5,w6,swp_len,inR,IntKind.bits] at *));omega),by (intros;omega)⟩,trivial⟩ ?_
              have hp2:=medianAdjE_r x0 (x1+(((x2 - x1).tdiv 4) * 2)) j2.2
              exact hJ103 ((medianAdjE x0 (x1+(((x2 - x1).tdiv 4) * 2)) j2.2).1,(medianAdjE x0 (x1+(((x2 - x1).tdiv 4) * 2)) j2.2).2) hR (by (have h9:=tdiv4 (x2 - x1) (by omega);((try clear hR);intros;(try simp only [w1,w2,w3,w4,w5,w6,swp_len,inR,IntKind.bits] at *));omega))
            ·
              refine rg ⟨⟨by trivial,by trivial,by (have h9:=tdiv4 (x2 - x1) (by omega);((try clear hR);intros;(try simp only [w1,w2,w3,w4,w5,w6,swp_len,inR,IntKind.bits] at *));omega),by (intros;omega)⟩,trivial⟩ ?_
              have hp3:=medianAdjE_r x0 (x1+(((x2 - x1).tdiv 4) * 3)) j3.2
              refine rg ⟨⟨by trivial,by trivial,by (have h9:=tdiv4 (x2 - x1) (by omega);((try clear hR);intros;(try simp only [w1,w2,w3,w4,w5,w6,swp_len,inR,IntKind.bits] at *));omega),by (intros;omega)⟩,trivial⟩ ?_
              have hp4:=medianE_r x0 j2.1 j3.1 ((medianAdjE x0 (x1+(((x2 - x1).tdiv 4) * 3)) j3.2).1) ((medianAdjE x0 (x1+(((x2 - x1).tdiv 4) * 3)) j3.2).2)
              exact hJ101 ((medianE x0 j2.1 j3.1 ((medianAdjE x0 (x1+(((x2 - x1).tdiv 4) * 3)) j3.2).1) ((medianAdjE x0 (x1+(((x2 - x1).tdiv 4) * 3)) j3.2).2)).1,(medianE x0 j2.1 j3.1 ((medianAdjE x0 (x1+(((x2 - x1).tdiv 4) * 3)) j3.2).1) ((medianAdjE x0 (x1+(((x2 - x1).tdiv 4) * 3)) j3.2).2)).2) hR (by trivial)
        ·
          refine rg ⟨⟨by trivial,by trivial,by (have h9:=tdiv4 (x2 - x1) (by omega);((try clear hR);intros;(try simp only [w1,w2,w3,w4,w5,w6,swp_len,inR,IntKind.bits] at *));omega),by trivial⟩,trivial⟩ ?_
          have hp5:=medianE_r x0 (x1+(((x2 - x1).tdiv 4) * 1)) (x1+(((x2 - x1).tdiv 4) * 2)) (x1+(((x2 - x1).tdiv 4) * 3)) 0
          exact hJ101 ((medianE x0 (x1+(((x2 - x1).tdiv 4) * 1)) (x1+(((x2 - x1).tdiv 4) * 2)) (x1+(((x2 - x1).tdiv 4) * 3)) 0).1,(medianE x0 (x1+(((x2 - x1).tdiv 4) * 1)) (x1+(((x2 - x1).tdiv 4) * 2)) (x1+(((x2 - x1).tdiv 4) * 3)) 0).2) hR (by trivial)
      ·
        exact hJ101 (x1+(((x2 - x1).tdiv 4) * 2),0) hR (by trivial)
    ·
      refine rg trivial ?_
      refine rg trivial ?_
      revert hR;refine cd (fun hc3 hR=>?_) fun hc3 hR=>?_
      ·
        refine rg trivial ?_
        exact congrArg (C161E x0 x1 x2) hR
      ·
        refine rg trivial ?_
        revert hR;refine cd (fun hc4 hR=>?_) fun hc4 hR=>?_
        ·
          refine rg trivial ?_
          exact congrArg (C161E x0 x1 x2) hR
        ·
          refine rg trivial ?_
          exact congrArg (C161E x0 x1 x2) hR
  exact FnM.go 57 Try.func161 (by kernel_rfl) (by kernel_rfl) (A161E x0 x1 x2) (by kernel_rfl) (aux _ rfl)
def k161E (d:Nat) (ids:List Nat) (x0:SrtE) (x1:Int) (x2:Int):Cl:=(hresM d ids (C161E x0 x1 x2 (choosePivotE x0 x1 x2)),k3 (ok_sort_choosePivot_func_E x0 x1 x2))
end Go.Proofs.Ytikfeeaapenplab
