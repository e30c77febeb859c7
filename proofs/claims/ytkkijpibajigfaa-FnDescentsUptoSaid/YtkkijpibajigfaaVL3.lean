import Derived.Test.YtkkijpibajigfaaVL2
set_option maxHeartbeats 4000000
set_option linter.unusedSimpArgs false
set_option linter.unusedVariables false
namespace Go.Proofs.Ytkkijpibajigfaa
open Go Go.Lite Go.Proofs
def C172L (x0:SrtL) (x1:Int) (x2:Int) (x3:Int) (R:Int×Int×Int):LV×List (Nat×BC):=(.tup [.int .i64 R.1,.int .i64 R.2.1],[(900000,.nest true 1 x0.l.length (nrOf (cInt .i64) x0.l)),(900001,.var [.own 900000]),(900002,.var [.int .i64 R.2.2])])
def order2L (x0:SrtL) (x1:Int) (x2:Int) (x3:Int):Int×Int×Int:=bif (lineLess x2 x1 x0.l) then (x2,x1,x3+1) else (x1,x2,x3)
def A172L (x0:SrtL) (x1:Int) (x2:Int) (x3:Int):Ann:=r0 1 [1,2,3,4,8,9] [4,900000,900001,900002] (.reg 1 [] [(4,k110 x2 x1 x0.l)] [1,2,3,8,9,14] [900000,900001,900002] [] [] [] [0] (cn (lineLess x2 x1 x0.l) (r1 2 [1,2,8,9] [900000,900001,900002] [pf (inR .i64 (x3+1))] [0] (rt [(900000,some 900000),(900001,some 900001),(900002,some 900002)] (C172L x0 x1 x2 x3 (x2,x1,x3+1)))) (r0 1 [8,9] [900000,900001,900002] (rt [(900000,some 900000),(900001,some 900001),(900002,some 900002)] (C172L x0 x1 x2 x3 (x1,x2,x3))))))
theorem order2L_r (x0:SrtL) (x1 x2 x3:Int):((order2L x0 x1 x2 x3).1=x1∧(order2L x0 x1 x2 x3).2.1=x2 ∨ (order2L x0 x1 x2 x3).1=x2∧(order2L x0 x1 x2 x3).2.1=x1)∧x3≤(order2L x0 x1 x2 x3).2.2∧(order2L x0 x1 x2 x3).2.2≤x3+1:=by
 unfold order2L
 cases lineLess x2 x1 x0.l <;> (simp;omega)

theorem ok_sort_order2_func_L (x0:SrtL) (x1:Int) (x2:Int) (x3:Int) (hx:x0.l.length≤255) (hok:OkL x0) (h1:0≤x1∧x1<x0.l.length∧0≤x2∧x2<x0.l.length) (h3:0≤x3∧x3≤1000):FnMT Try.prog 172 [.agg [.clo 110 [.vp 900001 0],.clo 151 [.own 900000,.k Try.prog.globals.size 47]],.int .i64 x1,.int .i64 x2,.vp 900002 0] [.nest true 1 x0.l.length (nrOf (cInt .i64) x0.l),.var [.own 900000],.var [.int .i64 x3]] (C172L x0 x1 x2 x3 (order2L x0 x1 x2 x3)):=by
 have aux:∀ R,order2L x0 x1 x2 x3=R→slim (C172L x0 x1 x2 x3 R) (A172L x0 x1 x2 x3) []:=by
  intro R hR
  refine rg trivial ?_
  refine rg ⟨⟨by (intros;omega),by (intros;omega),by trivial⟩,trivial⟩ ?_
  revert hR;refine cd (fun hc1 hR=>?_) fun hc1 hR=>?_
  ·
    refine rg ⟨by ( intros;simp only [inR];omega),trivial⟩ ?_
    exact congrArg (C172L x0 x1 x2 x3) hR
  ·
    refine rg trivial ?_
    exact congrArg (C172L x0 x1 x2 x3) hR
 exact FnM.go 24 Try.func172 (by kernel_rfl) (by kernel_rfl) (A172L x0 x1 x2 x3) (by kernel_rfl) (aux _ rfl)
def k172L (d:Nat) (ids:List Nat) (x0:SrtL) (x1:Int) (x2:Int) (x3:Int):Cl:=(hresM d ids (C172L x0 x1 x2 x3 (order2L x0 x1 x2 x3)),k4 (ok_sort_order2_func_L x0 x1 x2 x3))
def C170L (x0:SrtL) (x1:Int) (x2:Int) (x3:Int) (x4:Int) (R:Int×Int):LV×List (Nat×BC):=(.int .i64 R.1,[(900000,.nest true 1 x0.l.length (nrOf (cInt .i64) x0.l)),(900001,.var [.own 900000]),(900002,.var [.int .i64 R.2])])
def medianL (x0:SrtL) (x1:Int) (x2:Int) (x3:Int) (x4:Int):Int×Int:=jn (fun K1=>K1 ((order2L x0 x1 x2 x4).1,(order2L x0 x1 x2 x4).2.1,(order2L x0 x1 x2 x4).2.2)) (fun (j1:Int×Int×Int)=>jn (fun K2=>K2 ((order2L x0 j1.2.1 x3 j1.2.2).1,(order2L x0 j1.2.1 x3 j1.2.2).2.2)) (fun (j2:Int×Int)=>jn (fun K3=>K3 ((order2L x0 j1.1 j2.1 j2.2).2.1,(order2L x0 j1.1 j2.1 j2.2).2.2)) (fun (j3:Int×Int)=>(j3.1,j3.2))))
def D170Lj1 (x0:SrtL) (x1:Int) (x2:Int) (x3:Int) (x4:Int) (j1:Int×Int×Int):Dl:=⟨[(1,.int .i64 j1.1),(2,.int .i64 j1.2.1)],[(900002,.var [.int .i64 j1.2.2])]⟩
def D170Lj2 (x0:SrtL) (x1:Int) (x2:Int) (x3:Int) (x4:Int) (j1:Int×Int×Int) (j2:Int×Int):Dl:=⟨[(2,.int .i64 j2.1)],[(900002,.var [.int .i64 j2.2])]⟩
def D170Lj3 (x0:SrtL) (x1:Int) (x2:Int) (x3:Int) (x4:Int) (j1:Int×Int×Int) (j2:Int×Int) (j3:Int×Int):Dl:=⟨[(2,.int .i64 j3.1)],[(900002,.var [.int .i64 j3.2])]⟩
def A170Lj3 (x0:SrtL) (x1:Int) (x2:Int) (x3:Int) (x4:Int) (j1:Int×Int×Int) (j2:Int×Int) (j3:Int×Int):Ann:=r0 1 [10] [900000,900001,900002] (rt [(900000,some 900000),(900001,some 900001),(900002,some 900002)] (C170L x0 x1 x2 x3 x4 (j3.1,j3.2)))
def A170Lj2 (x0:SrtL) (x1:Int) (x2:Int) (x3:Int) (x4:Int) (j1:Int×Int×Int) (j2:Int×Int):Ann:=.join 0 (Int×Int) (D170Lj3 x0 x1 x2 x3 x4 j1 j2) [2,10] [900002,900001,900000] (.reg 1 [] [(4,k172L 32 [900000,900001,900002] x0 j1.1 j2.1 j2.2)] [2,10] [900000,900001,900002] [] [] [] [0] (.next 0 [] (D170Lj3 x0 x1 x2 x3 x4 j1 j2 ((order2L x0 j1.1 j2.1 j2.2).2.1,(order2L x0 j1.1 j2.1 j2.2).2.2)))) (A170Lj3 x0 x1 x2 x3 x4 j1 j2)
def A170Lj1 (x0:SrtL) (x1:Int) (x2:Int) (x3:Int) (x4:Int) (j1:Int×Int×Int):Ann:=.join 0 (Int×Int) (D170Lj2 x0 x1 x2 x3 x4 j1) [1,2,4,5,10] [900002,5,900001,900000] (.reg 1 [] [(4,k172L 24 [900000,900001,900002] x0 j1.2.1 x3 j1.2.2)] [1,2,4,5,10] [5,900000,900001,900002] [] [] [] [0] (.next 0 [] (D170Lj2 x0 x1 x2 x3 x4 j1 ((order2L x0 j1.2.1 x3 j1.2.2).1,(order2L x0 j1.2.1 x3 j1.2.2).2.2)))) (A170Lj2 x0 x1 x2 x3 x4 j1)
def A170L (x0:SrtL) (x1:Int) (x2:Int) (x3:Int) (x4:Int):Ann:=r0 1 [1,2,3,4,5,10] [5,900000,900001,900002] (.join 0 (Int×Int×Int) (D170Lj1 x0 x1 x2 x3 x4) [1,2,3,4,5,10] [900002,5,900001,900000] (.reg 1 [] [(4,k172L 16 [900000,900001,900002] x0 x1 x2 x4)] [1,2,3,4,5,10] [5,900000,900001,900002] [] [] [] [0] (.next 0 [] (D170Lj1 x0 x1 x2 x3 x4 ((order2L x0 x1 x2 x4).1,(order2L x0 x1 x2 x4).2.1,(order2L x0 x1 x2 x4).2.2)))) (A170Lj1 x0 x1 x2 x3 x4))
theorem medianL_r (x0:SrtL) (x1 x2 x3 x4:Int):((medianL x0 x1 x2 x3 x4).1=x1 ∨ (medianL x0 x1 x2 x3 x4).1=x2 ∨ (medianL x0 x1 x2 x3 x4).1=x3)∧x4≤(medianL x0 x1 x2 x3 x4).2∧(medianL x0 x1 x2 x3 x4).2≤x4+3:=by
 simp only [medianL,jn]
 have a:=order2L_r x0 x1 x2 x4
 have b:=order2L_r x0 (order2L x0 x1 x2 x4).2.1 x3 (order2L x0 x1 x2 x4).2.2
 have c:=order2L_r x0 (order2L x0 x1 x2 x4).1 (order2L x0 (order2L x0 x1 x2 x4).2.1 x3 (order2L x0 x1 x2 x4).2.2).1 (order2L x0 (order2L x0 x1 x2 x4).2.1 x3 (order2L x0 x1 x2 x4).2.2).2.2
 omega

theorem ok_sort_median_func_L (x0:SrtL) (x1:Int) (x2:Int) (x3:Int) (x4:Int) (hx:x0.l.length≤255) (hok:OkL x0) (h1:0≤x1∧x1<x0.l.length∧0≤x2∧x2<x0.l.length∧0≤x3∧x3<x0.l.length) (h4:0≤x4∧x4≤900):FnMT Try.prog 170 [.agg [.clo 110 [.vp 900001 0],.clo 151 [.own 900000,.k Try.prog.globals.size 47]],.int .i64 x1,.int .i64 x2,.int .i64 x3,.vp 900002 0] [.nest true 1 x0.l.length (nrOf (cInt .i64) x0.l),.var [.own 900000],.var [.int .i64 x4]] (C170L x0 x1 x2 x3 x4 (medianL x0 x1 x2 x3 x4)):=by
 have aux:∀ R,medianL x0 x1 x2 x3 x4=R→slim (C170L x0 x1 x2 x3 x4 R) (A170L x0 x1 x2 x3 x4) []:=by
  intro R hR
  refine rg trivial ?_
  revert hR;refine jN (fun v=>(v.1=x1∧v.2.1=x2 ∨ v.1=x2∧v.2.1=x1)∧x4≤v.2.2∧v.2.2≤x4+1) (fun F101 hR hJ101=>?_) (fun j1 hR hJ1=>?_)
  ·
    refine rg ⟨⟨by trivial,by trivial,by (intros;omega),by (intros;omega)⟩,trivial⟩ ?_
    have hp1:=order2L_r x0 x1 x2 x4
    exact hJ101 ((order2L x0 x1 x2 x4).1,(order2L x0 x1 x2 x4).2.1,(order2L x0 x1 x2 x4).2.2) hR (by trivial)
  ·
    revert hR;refine jN (fun v=>0≤v.1∧v.1<x0.l.length∧x4≤v.2∧v.2≤x4+2) (fun F102 hR hJ102=>?_) (fun j2 hR hJ2=>?_)
    ·
      refine rg ⟨⟨by trivial,by trivial,by (intros;omega),by (intros;omega)⟩,trivial⟩ ?_
      have hp2:=order2L_r x0 j1.2.1 x3 j1.2.2
      exact hJ102 ((order2L x0 j1.2.1 x3 j1.2.2).1,(order2L x0 j1.2.1 x3 j1.2.2).2.2) hR (by (intros;omega))
    ·
      revert hR;refine jN (fun v=>True) (fun F103 hR hJ103=>?_) (fun j3 hR hJ3=>?_)
      ·
        refine rg ⟨⟨by trivial,by trivial,by (intros;omega),by (intros;omega)⟩,trivial⟩ ?_
        have hp3:=order2L_r x0 j1.1 j2.1 j2.2
        exact hJ103 ((order2L x0 j1.1 j2.1 j2.2).2.1,(order2L x0 j1.1 j2.1 j2.2).2.2) hR (by trivial)
      ·
        refine rg trivial ?_
        exact congrArg (C170L x0 x1 x2 x3 x4) hR
 exact FnM.go 36 Try.func170 (by kernel_rfl) (by kernel_rfl) (A170L x0 x1 x2 x3 x4) (by kernel_rfl) (aux _ rfl)
def k170L (d:Nat) (ids:List Nat) (x0:SrtL) (x1:Int) (x2:Int) (x3:Int) (x4:Int):Cl:=(hresM d ids (C170L x0 x1 x2 x3 x4 (medianL x0 x1 x2 x3 x4)),k4 (ok_sort_median_func_L x0 x1 x2 x3 x4))
def C169L (x0:SrtL) (x1:Int) (x2:Int) (R:Int×Int):LV×List (Nat×BC):=(.int .i64 R.1,[(900000,.nest true 1 x0.l.length (nrOf (cInt .i64) x0.l)),(900001,.var [.own 900000]),(900002,.var [.int .i64 R.2])])
def medianAdjL (x0:SrtL) (x1:Int) (x2:Int):Int×Int:=((medianL x0 (x1 - 1) x1 (x1+1) x2).1,(medianL x0 (x1 - 1) x1 (x1+1) x2).2)
def A169L (x0:SrtL) (x1:Int) (x2:Int):Ann:=.reg 2 [] [(1007,k170L 14 [900000,900001,900002] x0 (x1 - 1) x1 (x1+1) x2)] [6] [900000,900001,900002] [] [pf (inR .i64 (x1 - 1)),pf (inR .i64 (x1+1))] [] [0,4,8] (rt [(900000,some 900000),(900001,some 900001),(900002,some 900002)] (C169L x0 x1 x2 ((medianL x0 (x1 - 1) x1 (x1+1) x2).1,(medianL x0 (x1 - 1) x1 (x1+1) x2).2)))
theorem medianAdjL_r (x0:SrtL) (x1 x2:Int):x1 - 1≤(medianAdjL x0 x1 x2).1∧(medianAdjL x0 x1 x2).1≤x1+1∧x2≤(medianAdjL x0 x1 x2).2∧(medianAdjL x0 x1 x2).2≤x2+3:=by
 unfold medianAdjL
 have a:=medianL_r x0 (x1 - 1) x1 (x1+1) x2
 dsimp only
 omega

theorem ok_sort_medianAdjacent_func_L (x0:SrtL) (x1:Int) (x2:Int) (hx:x0.l.length≤255) (hok:OkL x0) (h1:1≤x1∧x1+1<x0.l.length) (h2:0≤x2∧x2≤800):FnMT Try.prog 169 [.agg [.clo 110 [.vp 900001 0],.clo 151 [.own 900000,.k Try.prog.globals.size 47]],.int .i64 x1,.vp 900002 0] [.nest true 1 x0.l.length (nrOf (cInt .i64) x0.l),.var [.own 900000],.var [.int .i64 x2]] (C169L x0 x1 x2 (medianAdjL x0 x1 x2)):=by
 have aux:∀ R,medianAdjL x0 x1 x2=R→slim (C169L x0 x1 x2 R) (A169L x0 x1 x2) []:=by
  intro R hR
  refine rg ⟨by ( intros;simp only [inR];omega),by ( intros;simp only [inR];omega),⟨by trivial,by trivial,by (intros;omega),by (intros;omega)⟩,trivial⟩ ?_
  have hp1:=medianL_r x0 (x1 - 1) x1 (x1+1) x2
  exact congrArg (C169L x0 x1 x2) hR
 exact FnM.go 15 Try.func169 (by kernel_rfl) (by kernel_rfl) (A169L x0 x1 x2) (by kernel_rfl) (aux _ rfl)
def k169L (d:Nat) (ids:List Nat) (x0:SrtL) (x1:Int) (x2:Int):Cl:=(hresM d ids (C169L x0 x1 x2 (medianAdjL x0 x1 x2)),k4 (ok_sort_medianAdjacent_func_L x0 x1 x2))
def C157L (x0:SrtL) (x1:Int) (x2:Int) (R:Int×Int):LV×List (Nat×BC):=(.tup [.int .i64 R.1,.int .i64 R.2],[(900000,.nest true 1 x0.l.length (nrOf (cInt .i64) x0.l)),(900001,.var [.own 900000])])
def choosePivotL (x0:SrtL) (x1:Int) (x2:Int):Int×Int:=jn (fun K1=>bif (decide (8≤(x2 - x1))) then (bif (decide (50≤(x2 - x1))) then (jn (fun K2=>K2 ((medianAdjL x0 (x1+(((x2 - x1).tdiv 4) * 1)) 0).1,(medianAdjL x0 (x1+(((x2 - x1).tdiv 4) * 1)) 0).2)) (fun (j2:Int×Int)=>jn (fun K3=>K3 ((medianAdjL x0 (x1+(((x2 - x1).tdiv 4) * 2)) j2.2).1,(medianAdjL x0 (x1+(((x2 - x1).tdiv 4) * 2)) j2.2).2)) (fun (j3:Int×Int)=>K1 ((medianL x0 j2.1 j3.1 ((medianAdjL x0 (x1+(((x2 - x1).tdiv 4) * 3)) j3.2).1) ((medianAdjL x0 (x1+(((x2 - x1).tdiv 4) * 3)) j3.2).2)).1,(medianL x0 j2.1 j3.1 ((medianAdjL x0 (x1+(((x2 - x1).tdiv 4) * 3)) j3.2).1) ((medianAdjL x0 (x1+(((x2 - x1).tdiv 4) * 3)) j3.2).2)).2)))) else (K1 ((medianL x0 (x1+(((x2 - x1).tdiv 4) * 1)) (x1+(((x2 - x1).tdiv 4) * 2)) (x1+(((x2 - x1).tdiv 4) * 3)) 0).1,(medianL x0 (x1+(((x2 - x1).tdiv 4) * 1)) (x1+(((x2 - x1).tdiv 4) * 2)) (x1+(((x2 - x1).tdiv 4) * 3)) 0).2))) else (K1 (x1+(((x2 - x1).tdiv 4) * 2),0))) (fun (j1:Int×Int)=>bif (decide (j1.2=0)) then (j1.1,1) else (bif (decide (j1.2=12)) then (j1.1,2) else (j1.1,0)))
def D157Lj1 (x0:SrtL) (x1:Int) (x2:Int) (j1:Int×Int):Dl:=⟨[(11,.int .i64 j1.1)],[(9,.var [.int .i64 j1.2])]⟩
def D157Lj2 (x0:SrtL) (x1:Int) (x2:Int) (j2:Int×Int):Dl:=⟨[(10,.int .i64 j2.1)],[(9,.var [.int .i64 j2.2])]⟩
def D157Lj3 (x0:SrtL) (x1:Int) (x2:Int) (j2:Int×Int) (j3:Int×Int):Dl:=⟨[(11,.int .i64 j3.1)],[(9,.var [.int .i64 j3.2])]⟩
def A157Lj3 (x0:SrtL) (x1:Int) (x2:Int) (j2:Int×Int) (j3:Int×Int):Ann:=.reg 1 [] [(2,k169L 43 [900000,900001,9] x0 (x1+(((x2 - x1).tdiv 4) * 3)) j3.2)] [3,6,7,9,10,11,12] [3,9,900000,900001] [] [] [] [0] (.reg 1 [] [(4,k170L 48 [900000,900001,9] x0 j2.1 j3.1 ((medianAdjL x0 (x1+(((x2 - x1).tdiv 4) * 3)) j3.2).1) ((medianAdjL x0 (x1+(((x2 - x1).tdiv 4) * 3)) j3.2).2))] [6,7,9,11] [9,900000,900001] [] [] [] [0] (.next 0 [] (D157Lj1 x0 x1 x2 ((medianL x0 j2.1 j3.1 ((medianAdjL x0 (x1+(((x2 - x1).tdiv 4) * 3)) j3.2).1) ((medianAdjL x0 (x1+(((x2 - x1).tdiv 4) * 3)) j3.2).2)).1,(medianL x0 j2.1 j3.1 ((medianAdjL x0 (x1+(((x2 - x1).tdiv 4) * 3)) j3.2).1) ((medianAdjL x0 (x1+(((x2 - x1).tdiv 4) * 3)) j3.2).2)).2))))
def A157Lj2 (x0:SrtL) (x1:Int) (x2:Int) (j2:Int×Int):Ann:=.join 0 (Int×Int) (D157Lj3 x0 x1 x2 j2) [3,6,7,9,10,11,12] [3,900001,900000,9] (.reg 1 [] [(2,k169L 40 [900000,900001,9] x0 (x1+(((x2 - x1).tdiv 4) * 2)) j2.2)] [3,6,7,9,10,11,12] [3,9,900000,900001] [] [] [] [0] (.next 0 [] (D157Lj3 x0 x1 x2 j2 ((medianAdjL x0 (x1+(((x2 - x1).tdiv 4) * 2)) j2.2).1,(medianAdjL x0 (x1+(((x2 - x1).tdiv 4) * 2)) j2.2).2)))) (A157Lj3 x0 x1 x2 j2)
def A157Lj1 (x0:SrtL) (x1:Int) (x2:Int) (j1:Int×Int):Ann:=r0 1 [6,7,11,49] [900000,900001] (r0 1 [6,7,11,49,51] [900000,900001] (cn (decide (j1.2=0)) (r0 1 [6,7] [900000,900001] (rt [(900000,some 900000),(900001,some 900001)] (C157L x0 x1 x2 (j1.1,1)))) (r0 1 [6,7,11,54] [900000,900001] (cn (decide (j1.2=12)) (r0 1 [6,7] [900000,900001] (rt [(900000,some 900000),(900001,some 900001)] (C157L x0 x1 x2 (j1.1,2)))) (r0 1 [6,7] [900000,900001] (rt [(900000,some 900000),(900001,some 900001)] (C157L x0 x1 x2 (j1.1,0))))))))
def A157L (x0:SrtL) (x1:Int) (x2:Int):Ann:=r1 6 [3,6,7,8,9,10,11,12] [3,9,900000,900001] [pf (inR .i64 (x2 - x1)),pf ((4:Int) ≠ 0),pf (inR .i64 ((x2 - x1).tdiv 4)),pf (inR .i64 (((x2 - x1).tdiv 4) * 1)),pf (inR .i64 (x1+(((x2 - x1).tdiv 4) * 1))),pf (inR .i64 (((x2 - x1).tdiv 4) * 2)),pf (inR .i64 (x1+(((x2 - x1).tdiv 4) * 2))),pf (inR .i64 (((x2 - x1).tdiv 4) * 3)),pf (inR .i64 (x1+(((x2 - x1).tdiv 4) * 3)))] [0,4,8,12,16,4,8,20,24,4,8,28,32] (.join 0 (Int×Int) (D157Lj1 x0 x1 x2) [6,7,9,11] [9,900000,900001] (r0 1 [3,6,7,8,9,10,11,12,32] [3,9,900000,900001] (cn (decide (8≤(x2 - x1))) (r0 1 [3,6,7,9,10,11,12,34] [3,9,900000,900001] (cn (decide (50≤(x2 - x1))) (.join 0 (Int×Int) (D157Lj2 x0 x1 x2) [3,6,7,9,10,11,12] [3,900001,900000,9] (.reg 1 [] [(2,k169L 37 [900000,900001,9] x0 (x1+(((x2 - x1).tdiv 4) * 1)) 0)] [3,6,7,9,10,11,12] [3,9,900000,900001] [] [] [] [0] (.next 0 [] (D157Lj2 x0 x1 x2 ((medianAdjL x0 (x1+(((x2 - x1).tdiv 4) * 1)) 0).1,(medianAdjL x0 (x1+(((x2 - x1).tdiv 4) * 1)) 0).2)))) (A157Lj2 x0 x1 x2)) (.reg 1 [] [(4,k170L 48 [900000,900001,9] x0 (x1+(((x2 - x1).tdiv 4) * 1)) (x1+(((x2 - x1).tdiv 4) * 2)) (x1+(((x2 - x1).tdiv 4) * 3)) 0)] [6,7,9,11] [9,900000,900001] [] [] [] [0] (.next 0 [] (D157Lj1 x0 x1 x2 ((medianL x0 (x1+(((x2 - x1).tdiv 4) * 1)) (x1+(((x2 - x1).tdiv 4) * 2)) (x1+(((x2 - x1).tdiv 4) * 3)) 0).1,(medianL x0 (x1+(((x2 - x1).tdiv 4) * 1)) (x1+(((x2 - x1).tdiv 4) * 2)) (x1+(((x2 - x1).tdiv 4) * 3)) 0).2)))))) (.next 0 [] (D157Lj1 x0 x1 x2 (x1+(((x2 - x1).tdiv 4) * 2),0))))) (A157Lj1 x0 x1 x2))
theorem choosePivotL_r (x0:SrtL) (x1 x2:Int) (h:x1<x2):x1≤(choosePivotL x0 x1 x2).1∧(choosePivotL x0 x1 x2).1<x2:=by
 have h4:=tdiv4 (x2 - x1) (by omega)
 have key:∀ j:Int×Int,x1≤j.1∧j.1<x2→x1≤(bif (decide (j.2=0)) then (j.1,(1:Int)) else (bif (decide (j.2=12)) then (j.1,2) else (j.1,0))).1∧(bif (decide (j.2=0)) then (j.1,(1:Int)) else (bif (decide (j.2=12)) then (j.1,2) else (j.1,0))).1<x2:=by
  intro j hj
  cases decide (j.2=0) <;> cases decide (j.2=12) <;> exact hj
 simp only [choosePivotL,jn]
 cases h8:decide (8≤x2 - x1) with
 | false=>exact key (x1+(x2 - x1).tdiv 4 * 2,0) (by dsimp only;omega)
 | true =>
  have h8:=of_decide_eq_true h8
  cases h5:decide (50≤x2 - x1) with
  | false =>
   have m:=medianL_r x0 (x1+(x2 - x1).tdiv 4 * 1) (x1+(x2 - x1).tdiv 4 * 2) (x1+(x2 - x1).tdiv 4 * 3) 0
   exact key _ (by omega)
  | true =>
   have h5:=of_decide_eq_true h5
   have a:=medianAdjL_r x0 (x1+(x2 - x1).tdiv 4 * 1) 0
   have b:=medianAdjL_r x0 (x1+(x2 - x1).tdiv 4 * 2) (medianAdjL x0 (x1+(x2 - x1).tdiv 4 * 1) 0).2
   have c:=medianAdjL_r x0 (x1+(x2 - x1).tdiv 4 * 3) (medianAdjL x0 (x1+(x2 - x1).tdiv 4 * 2) (medianAdjL x0 (x1+(x2 - x1).tdiv 4 * 1) 0).2).2
   have m:=medianL_r x0 (medianAdjL x0 (x1+(x2 - x1).tdiv 4 * 1) 0).1 (medianAdjL x0 (x1+(x2 - x1).tdiv 4 * 2) (medianAdjL x0 (x1+(x2 - x1).tdiv 4 * 1) 0).2).1 (medianAdjL x0 (x1+(x2 - x1).tdiv 4 * 3) (medianAdjL x0 (x1+(x2 - x1).tdiv 4 * 2) (medianAdjL x0 (x1+(x2 - x1).tdiv 4 * 1) 0).2).2).1 (medianAdjL x0 (x1+(x2 - x1).tdiv 4 * 3) (medianAdjL x0 (x1+(x2 - x1).tdiv 4 * 2) (medianAdjL x0 (x1+(x2 - x1).tdiv 4 * 1) 0).2).2).2
   exact key _ (by omega)

theorem ok_sort_choosePivot_func_L (x0:SrtL) (x1:Int) (x2:Int) (hx:x0.l.length≤255) (hok:OkL x0) (hab:0≤x1∧x1≤x2∧x2≤x0.l.length):FnMT Try.prog 157 [.agg [.clo 110 [.vp 900001 0],.clo 151 [.own 900000,.k Try.prog.globals.size 47]],.int .i64 x1,.int .i64 x2] [.nest true 1 x0.l.length (nrOf (cInt .i64) x0.l),.var [.own 900000]] (C157L x0 x1 x2 (choosePivotL x0 x1 x2)):=by
 have aux:∀ R,choosePivotL x0 x1 x2=R→slim (C157L x0 x1 x2 R) (A157L x0 x1 x2) []:=by
  intro R hR
  refine rg ⟨by ( intros;simp only [inR];omega),by trivial,by (have h9:=tdiv4 (x2 - x1) (by omega);((try clear hR);intros;(try simp only [w1,w2,w3,w4,w5,w6,swp_len,inR,IntKind.bits] at *));omega),by (have h9:=tdiv4 (x2 - x1) (by omega);((try clear hR);intros;(try simp only [w1,w2,w3,w4,w5,w6,swp_len,inR,IntKind.bits] at *));omega),by (have h9:=tdiv4 (x2 - x1) (by omega);((try clear hR);intros;(try simp only [w1,w2,w3,w4,w5,w6,swp_len,inR,IntKind.bits] at *));omega),by (have h9:=tdiv4 (x2 - x1) (by omega);((try clear hR);intros;(try simp only [w1,w2,w3,w4,w5,w6,swp_len,inR,IntKind.bits] at *));omega),by (have h9:=tdiv4 (x2 - x1) (by omega);((try clear hR);intros;(try simp only [w1,w2,w3,w4,w5,w6,swp_len,inR,IntKind.bits] at *));omega),by (have h9:=tdiv4 (x2 - x1) (by omega);((try clear hR);intros;(try simp only [w1,w2,w3,w4,w5,w6,swp_len,inR,IntKind.bits] at *));omega),by (have h9:=tdiv4 (x2 - x1) (by omega);((try clear hR);intros;(try simp only [w1,w2,w3,w4,w5,w6,swp_len,inR,IntKind.bits] at *));omega),trivial⟩ ?_
  revert hR;refine jN (fun v=>True) (fun F101 hR hJ101=>?_) (fun j1 hR hJ1=>?_)
  ·
    refine rg trivial ?_
    revert hR;refine cd (fun hc1 hR=>?_) fun hc1 hR=>?_
    ·
      refine rg trivial ?_
      revert hR;refine cd (fun hc2 hR=>?_) fun hc2 hR=>?_
      ·
        revert hR;refine jN (fun v=>0≤v.1∧v.1<x0.l.length∧0≤v.2∧v.2≤3) (fun F102 hR hJ102=>?_) (fun j2 hR hJ2=>?_)
        ·
          refine rg ⟨⟨by trivial,by trivial,by (have h9:=tdiv4 (x2 - x1) (by omega);((try clear hR);intros;(try simp only [w1,w2,w3,w4,w5,w6,swp_len,inR,IntKind.bits] at *));omega),by trivial⟩,trivial⟩ ?_
          have hp1:=medianAdjL_r x0 (x1+(((x2 - x1).tdiv 4) * 1)) 0
          exact hJ102 ((medianAdjL x0 (x1+(((x2 - x1).tdiv 4) * 1)) 0).1,(medianAdjL x0 (x1+(((x2 - x1).tdiv 4) * 1)) 0).2) hR (by (have h9:=tdiv4 (x2 - x1) (by omega);((try clear hR);intros;(try simp only [w1,w2,w3,w4,w5,w6,swp_len,inR,IntKind.bits] at *));omega))
        ·
          revert hR;refine jN (fun v=>0≤v.1∧v.1<x0.l.length∧0≤v.2∧v.2≤6) (fun F103 hR hJ103=>?_) (fun j3 hR hJ3=>?_)
          ·
            refine rg ⟨⟨by trivial,by trivial,by (have h9:=tdiv4 (x2 - x1) (by omega);((try clear hR);intros;(try simp only [w1,w2,w3,w4,w5,w6,swp_len,inR,IntKind.bits] at *));omega),by (intros;omega)⟩,trivial⟩ ?_
            have hp2:=medianAdjL_r x0 (x1+(((x2 - x1).tdiv 4) * 2)) j2.2
            exact hJ103 ((medianAdjL x0 (x1+(((x2 - x1).tdiv 4) * 2)) j2.2).1,(medianAdjL x0 (x1+(((x2 - x1).tdiv 4) * 2)) j2.2).2) hR (by (have h9:=tdiv4 (x2 - x1) (by omega);((try clear hR);intros;(try simp only [w1,w2,w3,w4,w5,w6,swp_len,inR,IntKind.bits] at *));omega))
          ·
            refine rg ⟨⟨by trivial,by trivial,by (have h9:=tdiv4 (x2 - x1) (by omega);((try clear hR);intros;(try simp only [w1,w2,w3,w4,w5,w6,swp_len,inR,IntKind.bits] at *));omega),by (intros;omega)⟩,trivial⟩ ?_
            have hp3:=medianAdjL_r x0 (x1+(((x2 - x1).tdiv 4) * 3)) j3.2
            refine rg ⟨⟨by trivial,by trivial,by (have h9:=tdiv4 (x2 - x1) (by omega);((try clear hR);intros;(try simp only [w1,w2,w3,w4,w5,w6,swp_len,inR,IntKind.bits] at *));omega),by (intros;omega)⟩,trivial⟩ ?_
            have hp4:=medianL_r x0 j2.1 j3.1 ((medianAdjL x0 (x1+(((x2 - x1).tdiv 4) * 3)) j3.2).1) ((medianAdjL x0 (x1+(((x2 - x1).tdiv 4) * 3)) j3.2).2)
            exact hJ101 ((medianL x0 j2.1 j3.1 ((medianAdjL x0 (x1+(((x2 - x1).tdiv 4) * 3)) j3.2).1) ((medianAdjL x0 (x1+(((x2 - x1).tdiv 4) * 3)) j3.2).2)).1,(medianL x0 j2.1 j3.1 ((medianAdjL x0 (x1+(((x2 - x1).tdiv 4) * 3)) j3.2).1) ((medianAdjL x0 (x1+(((x2 - x1).tdiv 4) * 3)) j3.2).2)).2) hR (by trivial)
      ·
        refine rg ⟨⟨by trivial,by trivial,by (have h9:=tdiv4 (x2 - x1) (by omega);((try clear hR);intros;(try simp only [w1,w2,w3,w4,w5,w6,swp_len,inR,IntKind.bits] at *));omega),by trivial⟩,trivial⟩ ?_
        have hp5:=medianL_r x0 (x1+(((x2 - x1).tdiv 4) * 1)) (x1+(((x2 - x1).tdiv 4) * 2)) (x1+(((x2 - x1).tdiv 4) * 3)) 0
        exact hJ101 ((medianL x0 (x1+(((x2 - x1).tdiv 4) * 1)) (x1+(((x2 - x1).tdiv 4) * 2)) (x1+(((x2 - x1).tdiv 4) * 3)) 0).1,(medianL x0 (x1+(((x2 - x1).tdiv 4) * 1)) (x1+(((x2 - x1).tdiv 4) * 2)) (x1+(((x2 - x1).tdiv 4) * 3)) 0).2) hR (by trivial)
    ·
      exact hJ101 (x1+(((x2 - x1).tdiv 4) * 2),0) hR (by trivial)
  ·
    refine rg trivial ?_
    refine rg trivial ?_
    revert hR;refine cd (fun hc3 hR=>?_) fun hc3 hR=>?_
    ·
      refine rg trivial ?_
      exact congrArg (C157L x0 x1 x2) hR
    ·
      refine rg trivial ?_
      revert hR;refine cd (fun hc4 hR=>?_) fun hc4 hR=>?_
      ·
        refine rg trivial ?_
        exact congrArg (C157L x0 x1 x2) hR
      ·
        refine rg trivial ?_
        exact congrArg (C157L x0 x1 x2) hR
 exact FnM.go 57 Try.func157 (by kernel_rfl) (by kernel_rfl) (A157L x0 x1 x2) (by kernel_rfl) (aux _ rfl)
def k157L (d:Nat) (ids:List Nat) (x0:SrtL) (x1:Int) (x2:Int):Cl:=(hresM d ids (C157L x0 x1 x2 (choosePivotL x0 x1 x2)),k3 (ok_sort_choosePivot_func_L x0 x1 x2))
end Go.Proofs.Ytkkijpibajigfaa
