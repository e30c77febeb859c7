import Derived.Test.YtaageiiodlfeiaaVL2
set_option maxHeartbeats 4000000
set_option linter.unusedSimpArgs false
set_option linter.unusedVariables false
namespace Go.Proofs.Ytaageiiodlfeiaa
open Go Go.Lite Go.Proofs
def C224L (x0:SrtL) (x1:Int) (x2:Int) (x3:Int) (R:Int×Int×Int):LV×List (Nat×BC):=(.tup [.int .i64 R.1,.int .i64 R.2.1],[(900000,.nest true 1 x0.l.length (nrOf (cInt .i64) x0.l)),(900001,.var [.own 900000]),(900002,.var [.int .i64 R.2.2])])
def zcq (x0:SrtL) (x1:Int) (x2:Int) (x3:Int):Int×Int×Int:=bif (zb3 x2 x1 x0.l) then (x2,x1,x3+1) else (x1,x2,x3)
def A224L (x0:SrtL) (x1:Int) (x2:Int) (x3:Int):Ann:=r0 1 [1,2,3,4,8,9] [4,900000,900001,900002] (.reg 1 [] [(4,k103 x2 x1 x0.l)] [1,2,3,8,9,14] [900000,900001,900002] [] [] [] [0] (cn (zb3 x2 x1 x0.l) (r1 2 [1,2,8,9] [900000,900001,900002] [pf (inR .i64 (x3+1))] [0] (rt [(900000,some 900000),(900001,some 900001),(900002,some 900002)] (C224L x0 x1 x2 x3 (x2,x1,x3+1)))) (r0 1 [8,9] [900000,900001,900002] (rt [(900000,some 900000),(900001,some 900001),(900002,some 900002)] (C224L x0 x1 x2 x3 (x1,x2,x3))))))
theorem zhc (x0:SrtL) (x1 x2 x3:Int):((zcq x0 x1 x2 x3).1=x1∧(zcq x0 x1 x2 x3).2.1=x2∨(zcq x0 x1 x2 x3).1=x2∧(zcq x0 x1 x2 x3).2.1=x1)∧x3≤(zcq x0 x1 x2 x3).2.2∧(zcq x0 x1 x2 x3).2.2≤x3+1:=by
 unfold zcq
 cases zb3 x2 x1 x0.l<;>(simp;omega)

theorem zie (x0:SrtL) (x1:Int) (x2:Int) (x3:Int) (hx:x0.l.length≤255) (hok:OkL x0) (h1:0≤x1∧x1<x0.l.length∧0≤x2∧x2<x0.l.length) (h3:0≤x3∧x3≤1000):FnMT Try.prog 224 [.agg [.clo 103 [.vp 900001 0],.clo 187 [.own 900000,.k Try.prog.globals.size 42]],.int .i64 x1,.int .i64 x2,.vp 900002 0] [.nest true 1 x0.l.length (nrOf (cInt .i64) x0.l),.var [.own 900000],.var [.int .i64 x3]] (C224L x0 x1 x2 x3 (zcq x0 x1 x2 x3)):=by
 have aux:∀ R,zcq x0 x1 x2 x3=R→slim (C224L x0 x1 x2 x3 R) (A224L x0 x1 x2 x3) []:=by
  intro R hR
  refine rg trivial ?_
  refine rg ⟨⟨by (intros;omega),by (intros;omega),by trivial⟩,trivial⟩ ?_
  revert hR;refine cd (fun hc1 hR=>?_) fun hc1 hR=>?_
  ·
    refine rg ⟨by ( intros;simp only [inR];omega),trivial⟩ ?_
    exact congrArg (C224L x0 x1 x2 x3) hR
  ·
    refine rg trivial ?_
    exact congrArg (C224L x0 x1 x2 x3) hR
 exact FnM.go 24 Try.func224 zax zax (A224L x0 x1 x2 x3) zax (aux _ rfl)
def k224L (d:Nat) (ids:List Nat) (x0:SrtL) (x1:Int) (x2:Int) (x3:Int):Cl:=(hresM d ids (C224L x0 x1 x2 x3 (zcq x0 x1 x2 x3)),k4 (zie x0 x1 x2 x3))
def C216L (x0:SrtL) (x1:Int) (x2:Int) (x3:Int) (x4:Int) (R:Int×Int):LV×List (Nat×BC):=(.int .i64 R.1,[(900000,.nest true 1 x0.l.length (nrOf (cInt .i64) x0.l)),(900001,.var [.own 900000]),(900002,.var [.int .i64 R.2])])
def zdh (x0:SrtL) (x1:Int) (x2:Int) (x3:Int) (x4:Int):Int×Int:=jn (fun K1=>K1 ((zcq x0 x1 x2 x4).1,(zcq x0 x1 x2 x4).2.1,(zcq x0 x1 x2 x4).2.2)) (fun (j1:Int×Int×Int)=>jn (fun K2=>K2 ((zcq x0 j1.2.1 x3 j1.2.2).1,(zcq x0 j1.2.1 x3 j1.2.2).2.2)) (fun (j2:Int×Int)=>jn (fun K3=>K3 ((zcq x0 j1.1 j2.1 j2.2).2.1,(zcq x0 j1.1 j2.1 j2.2).2.2)) (fun (j3:Int×Int)=>(j3.1,j3.2))))
def zx9 (x0:SrtL) (x1:Int) (x2:Int) (x3:Int) (x4:Int) (j1:Int×Int×Int):Dl:=⟨[(1,.int .i64 j1.1),(2,.int .i64 j1.2.1)],[(900002,.var [.int .i64 j1.2.2])]⟩
def zx8 (x0:SrtL) (x1:Int) (x2:Int) (x3:Int) (x4:Int) (j1:Int×Int×Int) (j2:Int×Int):Dl:=⟨[(2,.int .i64 j2.1)],[(900002,.var [.int .i64 j2.2])]⟩
def zx7 (x0:SrtL) (x1:Int) (x2:Int) (x3:Int) (x4:Int) (j1:Int×Int×Int) (j2:Int×Int) (j3:Int×Int):Dl:=⟨[(2,.int .i64 j3.1)],[(900002,.var [.int .i64 j3.2])]⟩
def z10 (x0:SrtL) (x1:Int) (x2:Int) (x3:Int) (x4:Int) (j1:Int×Int×Int) (j2:Int×Int) (j3:Int×Int):Ann:=r0 1 [10] [900000,900001,900002] (rt [(900000,some 900000),(900001,some 900001),(900002,some 900002)] (C216L x0 x1 x2 x3 x4 (j3.1,j3.2)))
def z11 (x0:SrtL) (x1:Int) (x2:Int) (x3:Int) (x4:Int) (j1:Int×Int×Int) (j2:Int×Int):Ann:=.join 0 (Int×Int) (zx7 x0 x1 x2 x3 x4 j1 j2) [2,10] [900002,900001,900000] (.reg 1 [] [(4,k224L 32 [900000,900001,900002] x0 j1.1 j2.1 j2.2)] [2,10] [900000,900001,900002] [] [] [] [0] (.next 0 [] (zx7 x0 x1 x2 x3 x4 j1 j2 ((zcq x0 j1.1 j2.1 j2.2).2.1,(zcq x0 j1.1 j2.1 j2.2).2.2)))) (z10 x0 x1 x2 x3 x4 j1 j2)
def z12 (x0:SrtL) (x1:Int) (x2:Int) (x3:Int) (x4:Int) (j1:Int×Int×Int):Ann:=.join 0 (Int×Int) (zx8 x0 x1 x2 x3 x4 j1) [1,2,4,5,10] [900002,5,900001,900000] (.reg 1 [] [(4,k224L 24 [900000,900001,900002] x0 j1.2.1 x3 j1.2.2)] [1,2,4,5,10] [5,900000,900001,900002] [] [] [] [0] (.next 0 [] (zx8 x0 x1 x2 x3 x4 j1 ((zcq x0 j1.2.1 x3 j1.2.2).1,(zcq x0 j1.2.1 x3 j1.2.2).2.2)))) (z11 x0 x1 x2 x3 x4 j1)
def A216L (x0:SrtL) (x1:Int) (x2:Int) (x3:Int) (x4:Int):Ann:=r0 1 [1,2,3,4,5,10] [5,900000,900001,900002] (.join 0 (Int×Int×Int) (zx9 x0 x1 x2 x3 x4) [1,2,3,4,5,10] [900002,5,900001,900000] (.reg 1 [] [(4,k224L 16 [900000,900001,900002] x0 x1 x2 x4)] [1,2,3,4,5,10] [5,900000,900001,900002] [] [] [] [0] (.next 0 [] (zx9 x0 x1 x2 x3 x4 ((zcq x0 x1 x2 x4).1,(zcq x0 x1 x2 x4).2.1,(zcq x0 x1 x2 x4).2.2)))) (z12 x0 x1 x2 x3 x4))
theorem zhg (x0:SrtL) (x1 x2 x3 x4:Int):((zdh x0 x1 x2 x3 x4).1=x1∨(zdh x0 x1 x2 x3 x4).1=x2∨(zdh x0 x1 x2 x3 x4).1=x3)∧x4≤(zdh x0 x1 x2 x3 x4).2∧(zdh x0 x1 x2 x3 x4).2≤x4+3:=by
 simp only [zdh,jn]
 have a:=zhc x0 x1 x2 x4
 have b:=zhc x0 (zcq x0 x1 x2 x4).2.1 x3 (zcq x0 x1 x2 x4).2.2
 have c:=zhc x0 (zcq x0 x1 x2 x4).1 (zcq x0 (zcq x0 x1 x2 x4).2.1 x3 (zcq x0 x1 x2 x4).2.2).1 (zcq x0 (zcq x0 x1 x2 x4).2.1 x3 (zcq x0 x1 x2 x4).2.2).2.2
 omega

theorem zif (x0:SrtL) (x1:Int) (x2:Int) (x3:Int) (x4:Int) (hx:x0.l.length≤255) (hok:OkL x0) (h1:0≤x1∧x1<x0.l.length∧0≤x2∧x2<x0.l.length∧0≤x3∧x3<x0.l.length) (h4:0≤x4∧x4≤900):FnMT Try.prog 216 [.agg [.clo 103 [.vp 900001 0],.clo 187 [.own 900000,.k Try.prog.globals.size 42]],.int .i64 x1,.int .i64 x2,.int .i64 x3,.vp 900002 0] [.nest true 1 x0.l.length (nrOf (cInt .i64) x0.l),.var [.own 900000],.var [.int .i64 x4]] (C216L x0 x1 x2 x3 x4 (zdh x0 x1 x2 x3 x4)):=by
 have aux:∀ R,zdh x0 x1 x2 x3 x4=R→slim (C216L x0 x1 x2 x3 x4 R) (A216L x0 x1 x2 x3 x4) []:=by
  intro R hR
  refine rg trivial ?_
  revert hR;refine jN (fun v=>(v.1=x1∧v.2.1=x2∨v.1=x2∧v.2.1=x1)∧x4≤v.2.2∧v.2.2≤x4+1) (fun F101 hR hJ101=>?_) (fun j1 hR hJ1=>?_)
  ·
    refine rg ⟨⟨by trivial,by trivial,by (intros;omega),by (intros;omega)⟩,trivial⟩ ?_
    have hp1:=zhc x0 x1 x2 x4
    exact hJ101 ((zcq x0 x1 x2 x4).1,(zcq x0 x1 x2 x4).2.1,(zcq x0 x1 x2 x4).2.2) hR zay
  ·
    revert hR;refine jN (fun v=>0≤v.1∧v.1<x0.l.length∧x4≤v.2∧v.2≤x4+2) (fun F102 hR hJ102=>?_) (fun j2 hR hJ2=>?_)
    ·
      refine rg ⟨⟨by trivial,by trivial,by (intros;omega),by (intros;omega)⟩,trivial⟩ ?_
      have hp2:=zhc x0 j1.2.1 x3 j1.2.2
      exact hJ102 ((zcq x0 j1.2.1 x3 j1.2.2).1,(zcq x0 j1.2.1 x3 j1.2.2).2.2) hR zaw
    ·
      revert hR;refine jN (fun v=>True) (fun F103 hR hJ103=>?_) (fun j3 hR hJ3=>?_)
      ·
        refine rg ⟨⟨by trivial,by trivial,by (intros;omega),by (intros;omega)⟩,trivial⟩ ?_
        have hp3:=zhc x0 j1.1 j2.1 j2.2
        exact hJ103 ((zcq x0 j1.1 j2.1 j2.2).2.1,(zcq x0 j1.1 j2.1 j2.2).2.2) hR zay
      ·
        refine rg trivial ?_
        exact congrArg (C216L x0 x1 x2 x3 x4) hR
 exact FnM.go 36 Try.func216 zax zax (A216L x0 x1 x2 x3 x4) zax (aux _ rfl)
def k216L (d:Nat) (ids:List Nat) (x0:SrtL) (x1:Int) (x2:Int) (x3:Int) (x4:Int):Cl:=(hresM d ids (C216L x0 x1 x2 x3 x4 (zdh x0 x1 x2 x3 x4)),k4 (zif x0 x1 x2 x3 x4))
def C215L (x0:SrtL) (x1:Int) (x2:Int) (R:Int×Int):LV×List (Nat×BC):=(.int .i64 R.1,[(900000,.nest true 1 x0.l.length (nrOf (cInt .i64) x0.l)),(900001,.var [.own 900000]),(900002,.var [.int .i64 R.2])])
def zb1 (x0:SrtL) (x1:Int) (x2:Int):Int×Int:=((zdh x0 (x1 - 1) x1 (x1+1) x2).1,(zdh x0 (x1 - 1) x1 (x1+1) x2).2)
def A215L (x0:SrtL) (x1:Int) (x2:Int):Ann:=.reg 2 [] [(1007,k216L 14 [900000,900001,900002] x0 (x1 - 1) x1 (x1+1) x2)] [6] [900000,900001,900002] [] [pf (inR .i64 (x1 - 1)),pf (inR .i64 (x1+1))] [] [0,4,8] (rt [(900000,some 900000),(900001,some 900001),(900002,some 900002)] (C215L x0 x1 x2 ((zdh x0 (x1 - 1) x1 (x1+1) x2).1,(zdh x0 (x1 - 1) x1 (x1+1) x2).2)))
theorem zez (x0:SrtL) (x1 x2:Int):x1 - 1≤(zb1 x0 x1 x2).1∧(zb1 x0 x1 x2).1≤x1+1∧x2≤(zb1 x0 x1 x2).2∧(zb1 x0 x1 x2).2≤x2+3:=by
 unfold zb1
 have a:=zhg x0 (x1 - 1) x1 (x1+1) x2
 dsimp only
 omega

theorem zfs (x0:SrtL) (x1:Int) (x2:Int) (hx:x0.l.length≤255) (hok:OkL x0) (h1:1≤x1∧x1+1<x0.l.length) (h2:0≤x2∧x2≤800):FnMT Try.prog 215 [.agg [.clo 103 [.vp 900001 0],.clo 187 [.own 900000,.k Try.prog.globals.size 42]],.int .i64 x1,.vp 900002 0] [.nest true 1 x0.l.length (nrOf (cInt .i64) x0.l),.var [.own 900000],.var [.int .i64 x2]] (C215L x0 x1 x2 (zb1 x0 x1 x2)):=by
 have aux:∀ R,zb1 x0 x1 x2=R→slim (C215L x0 x1 x2 R) (A215L x0 x1 x2) []:=by
  intro R hR
  refine rg ⟨by ( intros;simp only [inR];omega),by ( intros;simp only [inR];omega),⟨by trivial,by trivial,by (intros;omega),by (intros;omega)⟩,trivial⟩ ?_
  have hp1:=zhg x0 (x1 - 1) x1 (x1+1) x2
  exact congrArg (C215L x0 x1 x2) hR
 exact FnM.go 15 Try.func215 zax zax (A215L x0 x1 x2) zax (aux _ rfl)
def k215L (d:Nat) (ids:List Nat) (x0:SrtL) (x1:Int) (x2:Int):Cl:=(hresM d ids (C215L x0 x1 x2 (zb1 x0 x1 x2)),k4 (zfs x0 x1 x2))
def C193L (x0:SrtL) (x1:Int) (x2:Int) (R:Int×Int):LV×List (Nat×BC):=(.tup [.int .i64 R.1,.int .i64 R.2],[(900000,.nest true 1 x0.l.length (nrOf (cInt .i64) x0.l)),(900001,.var [.own 900000])])
def zc6 (x0:SrtL) (x1:Int) (x2:Int):Int×Int:=jn (fun K1=>bif (decide (8≤(x2 - x1))) then (bif (decide (50≤(x2 - x1))) then (jn (fun K2=>K2 ((zb1 x0 (x1+(((x2 - x1).tdiv 4) * 1)) 0).1,(zb1 x0 (x1+(((x2 - x1).tdiv 4) * 1)) 0).2)) (fun (j2:Int×Int)=>jn (fun K3=>K3 ((zb1 x0 (x1+(((x2 - x1).tdiv 4) * 2)) j2.2).1,(zb1 x0 (x1+(((x2 - x1).tdiv 4) * 2)) j2.2).2)) (fun (j3:Int×Int)=>K1 ((zdh x0 j2.1 j3.1 ((zb1 x0 (x1+(((x2 - x1).tdiv 4) * 3)) j3.2).1) ((zb1 x0 (x1+(((x2 - x1).tdiv 4) * 3)) j3.2).2)).1,(zdh x0 j2.1 j3.1 ((zb1 x0 (x1+(((x2 - x1).tdiv 4) * 3)) j3.2).1) ((zb1 x0 (x1+(((x2 - x1).tdiv 4) * 3)) j3.2).2)).2)))) else (K1 ((zdh x0 (x1+(((x2 - x1).tdiv 4) * 1)) (x1+(((x2 - x1).tdiv 4) * 2)) (x1+(((x2 - x1).tdiv 4) * 3)) 0).1,(zdh x0 (x1+(((x2 - x1).tdiv 4) * 1)) (x1+(((x2 - x1).tdiv 4) * 2)) (x1+(((x2 - x1).tdiv 4) * 3)) 0).2))) else (K1 (x1+(((x2 - x1).tdiv 4) * 2),0))) (fun (j1:Int×Int)=>bif (decide (j1.2=0)) then (j1.1,1) else (bif (decide (j1.2=12)) then (j1.1,2) else (j1.1,0)))
def zqp (x0:SrtL) (x1:Int) (x2:Int) (j1:Int×Int):Dl:=⟨[(11,.int .i64 j1.1)],[(9,.var [.int .i64 j1.2])]⟩
def zyb (x0:SrtL) (x1:Int) (x2:Int) (j2:Int×Int):Dl:=⟨[(10,.int .i64 j2.1)],[(9,.var [.int .i64 j2.2])]⟩
def zya (x0:SrtL) (x1:Int) (x2:Int) (j2:Int×Int) (j3:Int×Int):Dl:=⟨[(11,.int .i64 j3.1)],[(9,.var [.int .i64 j3.2])]⟩
def z2i (x0:SrtL) (x1:Int) (x2:Int) (j2:Int×Int) (j3:Int×Int):Ann:=.reg 1 [] [(2,k215L 43 [900000,900001,9] x0 (x1+(((x2 - x1).tdiv 4) * 3)) j3.2)] [3,6,7,9,10,11,12] [3,9,900000,900001] [] [] [] [0] (.reg 1 [] [(4,k216L 48 [900000,900001,9] x0 j2.1 j3.1 ((zb1 x0 (x1+(((x2 - x1).tdiv 4) * 3)) j3.2).1) ((zb1 x0 (x1+(((x2 - x1).tdiv 4) * 3)) j3.2).2))] [6,7,9,11] [9,900000,900001] [] [] [] [0] (.next 0 [] (zqp x0 x1 x2 ((zdh x0 j2.1 j3.1 ((zb1 x0 (x1+(((x2 - x1).tdiv 4) * 3)) j3.2).1) ((zb1 x0 (x1+(((x2 - x1).tdiv 4) * 3)) j3.2).2)).1,(zdh x0 j2.1 j3.1 ((zb1 x0 (x1+(((x2 - x1).tdiv 4) * 3)) j3.2).1) ((zb1 x0 (x1+(((x2 - x1).tdiv 4) * 3)) j3.2).2)).2))))
def z2j (x0:SrtL) (x1:Int) (x2:Int) (j2:Int×Int):Ann:=.join 0 (Int×Int) (zya x0 x1 x2 j2) [3,6,7,9,10,11,12] [3,900001,900000,9] (.reg 1 [] [(2,k215L 40 [900000,900001,9] x0 (x1+(((x2 - x1).tdiv 4) * 2)) j2.2)] [3,6,7,9,10,11,12] [3,9,900000,900001] [] [] [] [0] (.next 0 [] (zya x0 x1 x2 j2 ((zb1 x0 (x1+(((x2 - x1).tdiv 4) * 2)) j2.2).1,(zb1 x0 (x1+(((x2 - x1).tdiv 4) * 2)) j2.2).2)))) (z2i x0 x1 x2 j2)
def z2k (x0:SrtL) (x1:Int) (x2:Int) (j1:Int×Int):Ann:=r0 1 [6,7,11,49] [900000,900001] (r0 1 [6,7,11,49,51] [900000,900001] (cn (decide (j1.2=0)) (r0 1 [6,7] [900000,900001] (rt [(900000,some 900000),(900001,some 900001)] (C193L x0 x1 x2 (j1.1,1)))) (r0 1 [6,7,11,54] [900000,900001] (cn (decide (j1.2=12)) (r0 1 [6,7] [900000,900001] (rt [(900000,some 900000),(900001,some 900001)] (C193L x0 x1 x2 (j1.1,2)))) (r0 1 [6,7] [900000,900001] (rt [(900000,some 900000),(900001,some 900001)] (C193L x0 x1 x2 (j1.1,0))))))))
def A193L (x0:SrtL) (x1:Int) (x2:Int):Ann:=r1 6 [3,6,7,8,9,10,11,12] [3,9,900000,900001] [pf (inR .i64 (x2 - x1)),pf ((4:Int)≠0),pf (inR .i64 ((x2 - x1).tdiv 4)),pf (inR .i64 (((x2 - x1).tdiv 4) * 1)),pf (inR .i64 (x1+(((x2 - x1).tdiv 4) * 1))),pf (inR .i64 (((x2 - x1).tdiv 4) * 2)),pf (inR .i64 (x1+(((x2 - x1).tdiv 4) * 2))),pf (inR .i64 (((x2 - x1).tdiv 4) * 3)),pf (inR .i64 (x1+(((x2 - x1).tdiv 4) * 3)))] [0,4,8,12,16,4,8,20,24,4,8,28,32] (.join 0 (Int×Int) (zqp x0 x1 x2) [6,7,9,11] [9,900000,900001] (r0 1 [3,6,7,8,9,10,11,12,32] [3,9,900000,900001] (cn (decide (8≤(x2 - x1))) (r0 1 [3,6,7,9,10,11,12,34] [3,9,900000,900001] (cn (decide (50≤(x2 - x1))) (.join 0 (Int×Int) (zyb x0 x1 x2) [3,6,7,9,10,11,12] [3,900001,900000,9] (.reg 1 [] [(2,k215L 37 [900000,900001,9] x0 (x1+(((x2 - x1).tdiv 4) * 1)) 0)] [3,6,7,9,10,11,12] [3,9,900000,900001] [] [] [] [0] (.next 0 [] (zyb x0 x1 x2 ((zb1 x0 (x1+(((x2 - x1).tdiv 4) * 1)) 0).1,(zb1 x0 (x1+(((x2 - x1).tdiv 4) * 1)) 0).2)))) (z2j x0 x1 x2)) (.reg 1 [] [(4,k216L 48 [900000,900001,9] x0 (x1+(((x2 - x1).tdiv 4) * 1)) (x1+(((x2 - x1).tdiv 4) * 2)) (x1+(((x2 - x1).tdiv 4) * 3)) 0)] [6,7,9,11] [9,900000,900001] [] [] [] [0] (.next 0 [] (zqp x0 x1 x2 ((zdh x0 (x1+(((x2 - x1).tdiv 4) * 1)) (x1+(((x2 - x1).tdiv 4) * 2)) (x1+(((x2 - x1).tdiv 4) * 3)) 0).1,(zdh x0 (x1+(((x2 - x1).tdiv 4) * 1)) (x1+(((x2 - x1).tdiv 4) * 2)) (x1+(((x2 - x1).tdiv 4) * 3)) 0).2)))))) (.next 0 [] (zqp x0 x1 x2 (x1+(((x2 - x1).tdiv 4) * 2),0))))) (z2k x0 x1 x2))
theorem zg9 (x0:SrtL) (x1 x2:Int) (h:x1<x2):x1≤(zc6 x0 x1 x2).1∧(zc6 x0 x1 x2).1<x2:=by
 have h4:=tdiv4 (x2 - x1) om
 have key:∀ j:Int×Int,x1≤j.1∧j.1<x2→x1≤(bif (decide (j.2=0)) then (j.1,(1:Int)) else (bif (decide (j.2=12)) then (j.1,2) else (j.1,0))).1∧(bif (decide (j.2=0)) then (j.1,(1:Int)) else (bif (decide (j.2=12)) then (j.1,2) else (j.1,0))).1<x2:=by
  intro j hj
  cases decide (j.2=0)<;>cases decide (j.2=12)<;>exact hj
 simp only [zc6,jn]
 cases h8:decide (8≤x2 - x1) with
 | false=>exact key (x1+(x2 - x1).tdiv 4 * 2,0) zau
 | true =>
  have h8:=of_decide_eq_true h8
  cases h5:decide (50≤x2 - x1) with
  | false =>
   have m:=zhg x0 (x1+(x2 - x1).tdiv 4 * 1) (x1+(x2 - x1).tdiv 4 * 2) (x1+(x2 - x1).tdiv 4 * 3) 0
   exact key _ om
  | true =>
   have h5:=of_decide_eq_true h5
   have a:=zez x0 (x1+(x2 - x1).tdiv 4 * 1) 0
   have b:=zez x0 (x1+(x2 - x1).tdiv 4 * 2) (zb1 x0 (x1+(x2 - x1).tdiv 4 * 1) 0).2
   have c:=zez x0 (x1+(x2 - x1).tdiv 4 * 3) (zb1 x0 (x1+(x2 - x1).tdiv 4 * 2) (zb1 x0 (x1+(x2 - x1).tdiv 4 * 1) 0).2).2
   have m:=zhg x0 (zb1 x0 (x1+(x2 - x1).tdiv 4 * 1) 0).1 (zb1 x0 (x1+(x2 - x1).tdiv 4 * 2) (zb1 x0 (x1+(x2 - x1).tdiv 4 * 1) 0).2).1 (zb1 x0 (x1+(x2 - x1).tdiv 4 * 3) (zb1 x0 (x1+(x2 - x1).tdiv 4 * 2) (zb1 x0 (x1+(x2 - x1).tdiv 4 * 1) 0).2).2).1 (zb1 x0 (x1+(x2 - x1).tdiv 4 * 3) (zb1 x0 (x1+(x2 - x1).tdiv 4 * 2) (zb1 x0 (x1+(x2 - x1).tdiv 4 * 1) 0).2).2).2
   exact key _ om

theorem zgg (x0:SrtL) (x1:Int) (x2:Int) (hx:x0.l.length≤255) (hok:OkL x0) (hab:0≤x1∧x1≤x2∧x2≤x0.l.length):FnMT Try.prog 193 [.agg [.clo 103 [.vp 900001 0],.clo 187 [.own 900000,.k Try.prog.globals.size 42]],.int .i64 x1,.int .i64 x2] [.nest true 1 x0.l.length (nrOf (cInt .i64) x0.l),.var [.own 900000]] (C193L x0 x1 x2 (zc6 x0 x1 x2)):=by
 have aux:∀ R,zc6 x0 x1 x2=R→slim (C193L x0 x1 x2 R) (A193L x0 x1 x2) []:=by
  intro R hR
  refine rg ⟨by ( intros;simp only [inR];omega),by trivial,by (have h9:=tdiv4 (x2 - x1) om;((try clear hR);intros;(try simp only [w1,w2,w3,w4,w5,w6,zbs,inR,IntKind.bits] at *));omega),by (have h9:=tdiv4 (x2 - x1) om;((try clear hR);intros;(try simp only [w1,w2,w3,w4,w5,w6,zbs,inR,IntKind.bits] at *));omega),by (have h9:=tdiv4 (x2 - x1) om;((try clear hR);intros;(try simp only [w1,w2,w3,w4,w5,w6,zbs,inR,IntKind.bits] at *));omega),by (have h9:=tdiv4 (x2 - x1) om;((try clear hR);intros;(try simp only [w1,w2,w3,w4,w5,w6,zbs,inR,IntKind.bits] at *));omega),by (have h9:=tdiv4 (x2 - x1) om;((try clear hR);intros;(try simp only [w1,w2,w3,w4,w5,w6,zbs,inR,IntKind.bits] at *));omega),by (have h9:=tdiv4 (x2 - x1) om;((try clear hR);intros;(try simp only [w1,w2,w3,w4,w5,w6,zbs,inR,IntKind.bits] at *));omega),by (have h9:=tdiv4 (x2 - x1) om;((try clear hR);intros;(try simp only [w1,w2,w3,w4,w5,w6,zbs,inR,IntKind.bits] at *));omega),trivial⟩ ?_
  revert hR;refine jN (fun v=>True) (fun F101 hR hJ101=>?_) (fun j1 hR hJ1=>?_)
  ·
    refine rg trivial ?_
    revert hR;refine cd (fun hc1 hR=>?_) fun hc1 hR=>?_
    ·
      refine rg trivial ?_
      revert hR;refine cd (fun hc2 hR=>?_) fun hc2 hR=>?_
      ·
        revert hR;refine jN (fun v=>0≤v.1∧v.1<x0.l.length∧0≤v.2∧v.2≤3) (fun F102 hR hJ102=>?_) (fun j2 hR hJ2=>?_)
        ·
          refine rg ⟨⟨by trivial,by trivial,by (have h9:=tdiv4 (x2 - x1) om;((try clear hR);intros;(try simp only [w1,w2,w3,w4,w5,w6,zbs,inR,IntKind.bits] at *));omega),by trivial⟩,trivial⟩ ?_
          have hp1:=zez x0 (x1+(((x2 - x1).tdiv 4) * 1)) 0
          exact hJ102 ((zb1 x0 (x1+(((x2 - x1).tdiv 4) * 1)) 0).1,(zb1 x0 (x1+(((x2 - x1).tdiv 4) * 1)) 0).2) hR (by (have h9:=tdiv4 (x2 - x1) om;((try clear hR);intros;(try simp only [w1,w2,w3,w4,w5,w6,zbs,inR,IntKind.bits] at *));omega))
        ·
          revert hR;refine jN (fun v=>0≤v.1∧v.1<x0.l.length∧0≤v.2∧v.2≤6) (fun F103 hR hJ103=>?_) (fun j3 hR hJ3=>?_)
          ·
            refine rg ⟨⟨by trivial,by trivial,by (have h9:=tdiv4 (x2 - x1) om;((try clear hR);intros;(try simp only [w1,w2,w3,w4,w5,w6,zbs,inR,IntKind.bits] at *));omega),by (intros;omega)⟩,trivial⟩ ?_
            have hp2:=zez x0 (x1+(((x2 - x1).tdiv 4) * 2)) j2.2
            exact hJ103 ((zb1 x0 (x1+(((x2 - x1).tdiv 4) * 2)) j2.2).1,(zb1 x0 (x1+(((x2 - x1).tdiv 4) * 2)) j2.2).2) hR (by (have h9:=tdiv4 (x2 - x1) om;((try clear hR);intros;(try simp only [w1,w2,w3,w4,w5,w6,zbs,inR,IntKind.bits] at *));omega))
          ·
            refine rg ⟨⟨by trivial,by trivial,by (have h9:=tdiv4 (x2 - x1) om;((try clear hR);intros;(try simp only [w1,w2,w3,w4,w5,w6,zbs,inR,IntKind.bits] at *));omega),by (intros;omega)⟩,trivial⟩ ?_
            have hp3:=zez x0 (x1+(((x2 - x1).tdiv 4) * 3)) j3.2
            refine rg ⟨⟨by trivial,by trivial,by (have h9:=tdiv4 (x2 - x1) om;((try clear hR);intros;(try simp only [w1,w2,w3,w4,w5,w6,zbs,inR,IntKind.bits] at *));omega),by (intros;omega)⟩,trivial⟩ ?_
            have hp4:=zhg x0 j2.1 j3.1 ((zb1 x0 (x1+(((x2 - x1).tdiv 4) * 3)) j3.2).1) ((zb1 x0 (x1+(((x2 - x1).tdiv 4) * 3)) j3.2).2)
            exact hJ101 ((zdh x0 j2.1 j3.1 ((zb1 x0 (x1+(((x2 - x1).tdiv 4) * 3)) j3.2).1) ((zb1 x0 (x1+(((x2 - x1).tdiv 4) * 3)) j3.2).2)).1,(zdh x0 j2.1 j3.1 ((zb1 x0 (x1+(((x2 - x1).tdiv 4) * 3)) j3.2).1) ((zb1 x0 (x1+(((x2 - x1).tdiv 4) * 3)) j3.2).2)).2) hR zay
      ·
        refine rg ⟨⟨by trivial,by trivial,by (have h9:=tdiv4 (x2 - x1) om;((try clear hR);intros;(try simp only [w1,w2,w3,w4,w5,w6,zbs,inR,IntKind.bits] at *));omega),by trivial⟩,trivial⟩ ?_
        have hp5:=zhg x0 (x1+(((x2 - x1).tdiv 4) * 1)) (x1+(((x2 - x1).tdiv 4) * 2)) (x1+(((x2 - x1).tdiv 4) * 3)) 0
        exact hJ101 ((zdh x0 (x1+(((x2 - x1).tdiv 4) * 1)) (x1+(((x2 - x1).tdiv 4) * 2)) (x1+(((x2 - x1).tdiv 4) * 3)) 0).1,(zdh x0 (x1+(((x2 - x1).tdiv 4) * 1)) (x1+(((x2 - x1).tdiv 4) * 2)) (x1+(((x2 - x1).tdiv 4) * 3)) 0).2) hR zay
    ·
      exact hJ101 (x1+(((x2 - x1).tdiv 4) * 2),0) hR zay
  ·
    refine rg trivial ?_
    refine rg trivial ?_
    revert hR;refine cd (fun hc3 hR=>?_) fun hc3 hR=>?_
    ·
      refine rg trivial ?_
      exact congrArg (C193L x0 x1 x2) hR
    ·
      refine rg trivial ?_
      revert hR;refine cd (fun hc4 hR=>?_) fun hc4 hR=>?_
      ·
        refine rg trivial ?_
        exact congrArg (C193L x0 x1 x2) hR
      ·
        refine rg trivial ?_
        exact congrArg (C193L x0 x1 x2) hR
 exact FnM.go 57 Try.func193 zax zax (A193L x0 x1 x2) zax (aux _ rfl)
def k193L (d:Nat) (ids:List Nat) (x0:SrtL) (x1:Int) (x2:Int):Cl:=(hresM d ids (C193L x0 x1 x2 (zc6 x0 x1 x2)),k3 (zgg x0 x1 x2))
def C194L (x0:SrtL) (x1:Int) (x2:Int) (R:(List (List Int))):LV×List (Nat×BC):=(.tup [],[(900000,.nest true 1 R.length (nrOf (cInt .i64) R)),(900001,.var [.own 900000])])
def zdu (x0:SrtL) (x1:Int) (x2:Int):(List (List Int)):=loopW (fun (v1:Int×Int×(List (List Int))) next=>bif (decide (v1.1<v1.2.1)) then (next (v1.1+1,v1.2.1 - 1,(swp v1.2.2 v1.1 v1.2.1))) else v1.2.2) ((x2 - 1 - (x1)+1).toNat+1) (x1,x2 - 1,x0.l)
def ztu (x0:SrtL) (x1:Int) (x2:Int) (v1:Int×Int×(List (List Int))):Dl:=⟨[(6,.int .i64 v1.1),(7,.int .i64 v1.2.1)],[(900000,.nest true 1 v1.2.2.length (nrOf (cInt .i64) v1.2.2))]⟩
def z2h (x0:SrtL) (x1:Int) (x2:Int) (v1:Int×Int×(List (List Int))):Ann:=r0 1 [3,6,7,13] [3,900000,900001] (cn (decide (v1.1<v1.2.1)) (.reg 2 [] [(4,kswL 503 [900000] v1.2.2 v1.1 v1.2.1)] [3,6,7] [3,900000,900001] [] [pf (inR .i64 (v1.1+1))] [] [4,0] (r1 1 [3,6,7] [3,900000,900001] [pf (inR .i64 (v1.2.1 - 1))] [0] (.next 0 [(900000,some 900000)] (ztu x0 x1 x2 (v1.1+1,v1.2.1 - 1,(swp v1.2.2 v1.1 v1.2.1)))))) (rt [(900000,some 900000),(900001,some 900001)] (C194L x0 x1 x2 v1.2.2)))
def A194L (x0:SrtL) (x1:Int) (x2:Int):Ann:=r1 3 [3,6,7] [3,900000,900001] [pf (inR .i64 (x2 - 1))] [0] (.loop (Int×Int×(List (List Int))) (ztu x0 x1 x2) [] [] [(900000,some 900000)] (ztu x0 x1 x2 (x1,x2 - 1,x0.l)) (z2h x0 x1 x2))
theorem zdg (x0:SrtL) (x1 x2:Int) (h:0≤x1∧x1≤x2):Sw x1 x2 x0.l (zdu x0 x1 x2):=by
 unfold zdu
 refine zcj (fun v=>x1≤v.1∧v.2.1<x2∧Sw x1 x2 x0.l v.2.2) (fun v=>(v.2.1 - v.1+1).toNat) (fun l=>Sw x1 x2 x0.l l) (fun v next hv hn=>?_) _ _ zau ⟨by simp,by dsimp only;omega,.refl⟩
 cases hc:decide (v.1<v.2.1) with
 | false=>exact hv.2.2
 | true =>
  have hc:=of_decide_eq_true hc
  exact hn _ ⟨by dsimp only;omega,by dsimp only;omega,.step hv.2.2 _ _ om om⟩ zau

theorem zf7 (x0:SrtL) (x1:Int) (x2:Int) (hx:x0.l.length≤255) (hok:OkL x0) (hab:0≤x1∧x1≤x2∧x2≤x0.l.length):FnMT Try.prog 194 [.agg [.clo 103 [.vp 900001 0],.clo 187 [.own 900000,.k Try.prog.globals.size 42]],.int .i64 x1,.int .i64 x2] [.nest true 1 x0.l.length (nrOf (cInt .i64) x0.l),.var [.own 900000]] (C194L x0 x1 x2 (zdu x0 x1 x2)):=by
 have aux:∀ R,zdu x0 x1 x2=R→slim (C194L x0 x1 x2 R) (A194L x0 x1 x2) []:=by
  intro R hR
  refine rg ⟨by ( intros;simp only [inR];omega),trivial⟩ ?_
  revert hR;refine lW (fun v=>(x1≤v.1∧v.1≤v.2.1+1∧v.2.1<x2)∧(Sw x1 x2 x0.l v.2.2∧v.2.2.length=x0.l.length)) (fun v=>(v.2.1 - (v.1)+1).toNat) zai (Nat.lt_succ_self _) rfl fun m1 v1 F1 hI1 hM1 hR hK1=>?_
  refine rg trivial ?_
  revert hR;refine cd (fun hc1 hR=>?_) fun hc1 hR=>?_
  ·
    refine rg ⟨by ( intros;simp only [inR];omega),⟨by (((try clear hR);(try clear hK1);intros;(try simp only [w1,w2,w3,w4,w5,w6,zbs,inR,IntKind.bits] at *));omega),by (((try clear hR);(try clear hK1);intros;(try simp only [w1,w2,w3,w4,w5,w6,zbs,inR,IntKind.bits] at *));omega)⟩,trivial⟩ ?_
    refine rg ⟨by ( intros;simp only [inR];omega),trivial⟩ ?_
    exact hK1 (v1.1+1,v1.2.1 - 1,(swp v1.2.2 v1.1 v1.2.1)) zah zar hR
  ·
    exact congrArg (C194L x0 x1 x2) hR
 exact FnM.go 23 Try.func194 zax zax (A194L x0 x1 x2) zax (aux _ rfl)
def k194L (d:Nat) (ids:List Nat) (x0:SrtL) (x1:Int) (x2:Int):Cl:=(hresM d ids (C194L x0 x1 x2 (zdu x0 x1 x2)),k3 (zf7 x0 x1 x2))
def C195L (x0:SrtL) (x1:Int) (x2:Int) (R:Bool×(List (List Int))):LV×List (Nat×BC):=(.bool R.1,[(900000,.nest true 1 R.2.length (nrOf (cInt .i64) R.2)),(900001,.var [.own 900000])])
def zc2 (x0:SrtL) (x1:Int) (x2:Int):Bool×(List (List Int)):=loopN (fun i1 (v1:Int×(List (List Int))) nx1=>loopW (fun (v2:Int) next=>bif ((decide (v2<x2))&&(!(zb3 v2 (v2 - 1) v1.2))) then (next (v2+1)) else (bif (decide (v2=x2)) then (true,v1.2) else (bif (decide ((x2 - x1)<50)) then (false,v1.2) else (jn (fun K1=>bif (decide (2≤(v2 - x1))) then (loopW (fun (v3:Int×(List (List Int))) next=>bif (decide (1≤v3.1)) then (bif (!(zb3 v3.1 (v3.1 - 1) v3.2)) then (K1 v3.2) else (next (v3.1 - 1,(swp v3.2 v3.1 (v3.1 - 1))))) else (K1 v3.2)) ((v2 - 1).toNat+1) (v2 - 1,(swp v1.2 v2 (v2 - 1)))) else (K1 (swp v1.2 v2 (v2 - 1)))) (fun (j1:(List (List Int)))=>bif (decide (2≤(x2 - v2))) then (loopW (fun (v4:Int×(List (List Int))) next=>bif (decide (v4.1<x2)) then (bif (!(zb3 v4.1 (v4.1 - 1) v4.2)) then (nx1 (v2,v4.2)) else (next (v4.1+1,(swp v4.2 v4.1 (v4.1 - 1))))) else (nx1 (v2,v4.2))) ((x2 - (v2+1)).toNat+1) (v2+1,j1)) else (nx1 (v2,j1))))))) ((x2 - (v1.1)).toNat+1) v1.1) (fun (v1:Int×(List (List Int)))=>(false,v1.2)) 5 0 (x1+1,x0.l)
def znx (x0:SrtL) (x1:Int) (x2:Int) (i1:Nat) (v1:Int×(List (List Int))):Dl:=⟨[(8,.int .i64 ((i1:Nat):Int)),(7,.int .i64 v1.1)],[(900000,.nest true 1 v1.2.length (nrOf (cInt .i64) v1.2))]⟩
def ztt (x0:SrtL) (x1:Int) (x2:Int) (i1:Nat) (v1:Int×(List (List Int))) (v2:Int):Dl:=⟨[(7,.int .i64 v2)],[]⟩
def zqo (x0:SrtL) (x1:Int) (x2:Int) (i1:Nat) (v1:Int×(List (List Int))) (v2:Int) (j1:(List (List Int))):Dl:=⟨[],[(900000,.nest true 1 j1.length (nrOf (cInt .i64) j1))]⟩
def zts (x0:SrtL) (x1:Int) (x2:Int) (i1:Nat) (v1:Int×(List (List Int))) (v2:Int) (v3:Int×(List (List Int))):Dl:=⟨[(9,.int .i64 v3.1)],[(900000,.nest true 1 v3.2.length (nrOf (cInt .i64) v3.2))]⟩
def z2e (x0:SrtL) (x1:Int) (x2:Int) (i1:Nat) (v1:Int×(List (List Int))) (v2:Int) (v3:Int×(List (List Int))):Ann:=r0 1 [1,2,3,6,7,8,9,51] [3,900000,900001] (cn (decide (1≤v3.1)) (.reg 1 [] [(5,k103 v3.1 (v3.1 - 1) v3.2)] [1,2,3,6,7,8,9,60] [3,900000,900001] [] [pf (inR .i64 (v3.1 - 1))] [] [0,4] (cn (!(zb3 v3.1 (v3.1 - 1) v3.2)) (.next 1 [(900000,some 900000)] (zqo x0 x1 x2 i1 v1 v2 v3.2)) (.reg 1 [] [(5,kswL 503 [900000] v3.2 v3.1 (v3.1 - 1))] [1,2,3,6,7,8,9] [3,900000,900001] [] [pf (inR .i64 (v3.1 - 1))] [] [0,4] (r1 1 [1,2,3,6,7,8,9] [3,900000,900001] [pf (inR .i64 (v3.1 - 1))] [0] (.next 0 [(900000,some 900000)] (zts x0 x1 x2 i1 v1 v2 (v3.1 - 1,(swp v3.2 v3.1 (v3.1 - 1))))))))) (.next 1 [(900000,some 900000)] (zqo x0 x1 x2 i1 v1 v2 v3.2)))
def ztr (x0:SrtL) (x1:Int) (x2:Int) (i1:Nat) (v1:Int×(List (List Int))) (v2:Int) (j1:(List (List Int))) (v4:Int×(List (List Int))):Dl:=⟨[(10,.int .i64 v4.1)],[(900000,.nest true 1 v4.2.length (nrOf (cInt .i64) v4.2))]⟩
def z2d (x0:SrtL) (x1:Int) (x2:Int) (i1:Nat) (v1:Int×(List (List Int))) (v2:Int) (j1:(List (List Int))) (v4:Int×(List (List Int))):Ann:=r0 1 [1,2,3,6,7,8,10,75] [3,900000,900001] (cn (decide (v4.1<x2)) (.reg 1 [] [(5,k103 v4.1 (v4.1 - 1) v4.2)] [1,2,3,6,7,8,10,84] [3,900000,900001] [] [pf (inR .i64 (v4.1 - 1))] [] [0,4] (cn (!(zb3 v4.1 (v4.1 - 1) v4.2)) (r1 1 [1,2,3,6,7,8] [3,900000,900001] [pf (inR .i64 (((i1:Nat):Int)+1))] [0] (.next 2 [(900000,some 900000)] (znx x0 x1 x2 (i1+1) (v2,v4.2)))) (.reg 1 [] [(5,kswL 503 [900000] v4.2 v4.1 (v4.1 - 1))] [1,2,3,6,7,8,10] [3,900000,900001] [] [pf (inR .i64 (v4.1 - 1))] [] [0,4] (r1 1 [1,2,3,6,7,8,10] [3,900000,900001] [pf (inR .i64 (v4.1+1))] [0] (.next 0 [(900000,some 900000)] (ztr x0 x1 x2 i1 v1 v2 j1 (v4.1+1,(swp v4.2 v4.1 (v4.1 - 1))))))))) (r1 1 [1,2,3,6,7,8] [3,900000,900001] [pf (inR .i64 (((i1:Nat):Int)+1))] [0] (.next 2 [(900000,some 900000)] (znx x0 x1 x2 (i1+1) (v2,v4.2)))))
def z2c (x0:SrtL) (x1:Int) (x2:Int) (i1:Nat) (v1:Int×(List (List Int))) (v2:Int) (j1:(List (List Int))):Ann:=r1 1 [1,2,3,6,7,8,70] [3,900000,900001] [pf (inR .i64 (x2 - v2))] [0] (cn (decide (2≤(x2 - v2))) (r1 1 [1,2,3,6,7,8,10] [3,900000,900001] [pf (inR .i64 (v2+1))] [0] (.loop (Int×(List (List Int))) (ztr x0 x1 x2 i1 v1 v2 j1) [] [] [(900000,some 900000)] (ztr x0 x1 x2 i1 v1 v2 j1 (v2+1,j1)) (z2d x0 x1 x2 i1 v1 v2 j1))) (r1 1 [1,2,3,6,7,8] [3,900000,900001] [pf (inR .i64 (((i1:Nat):Int)+1))] [0] (.next 1 [(900000,some 900000)] (znx x0 x1 x2 (i1+1) (v2,j1)))))
def z2f (x0:SrtL) (x1:Int) (x2:Int) (i1:Nat) (v1:Int×(List (List Int))) (v2:Int):Ann:=.reg 1 [] [(9,cg (decide (v2<x2)) (k103 v2 (v2 - 1) v1.2))] [1,2,3,6,7,8,28] [3,900000,900001] [decide (v2<x2)] [gt (decide (v2<x2)) (pf (inR .i64 (v2 - 1)))] [] [1,1,0,1,1,1,4,1,1] (cn ((decide (v2<x2))&&(!(zb3 v2 (v2 - 1) v1.2))) (r1 1 [1,2,3,6,7,8] [3,900000,900001] [pf (inR .i64 (v2+1))] [0] (.next 0 [] (ztt x0 x1 x2 i1 v1 (v2+1)))) (r0 1 [1,2,3,6,7,8,33] [3,900000,900001] (cn (decide (v2=x2)) (r0 1 [1,2,3,6,7,8] [3,900000,900001] (rt [(900000,some 900000),(900001,some 900001)] (C195L x0 x1 x2 (true,v1.2)))) (r1 1 [1,2,3,6,7,8,37] [3,900000,900001] [pf (inR .i64 (x2 - x1))] [0] (cn (decide ((x2 - x1)<50)) (r0 1 [1,2,3,6,7,8] [3,900000,900001] (rt [(900000,some 900000),(900001,some 900001)] (C195L x0 x1 x2 (false,v1.2)))) (.reg 1 [] [(5,kswL 503 [900000] v1.2 v2 (v2 - 1))] [1,2,3,6,7,8] [3,900000,900001] [] [pf (inR .i64 (v2 - 1))] [] [0,4] (.join 0 (List (List Int)) (zqo x0 x1 x2 i1 v1 v2) [1,2,3,6,7,8] [3,900001,900000] (r1 1 [1,2,3,6,7,8,47] [3,900000,900001] [pf (inR .i64 (v2 - x1))] [0] (cn (decide (2≤(v2 - x1))) (r1 1 [1,2,3,6,7,8,9] [3,900000,900001] [pf (inR .i64 (v2 - 1))] [0] (.loop (Int×(List (List Int))) (zts x0 x1 x2 i1 v1 v2) [] [] [(900000,some 900000)] (zts x0 x1 x2 i1 v1 v2 (v2 - 1,(swp v1.2 v2 (v2 - 1)))) (z2e x0 x1 x2 i1 v1 v2))) (.next 0 [(900000,some 900000)] (zqo x0 x1 x2 i1 v1 v2 (swp v1.2 v2 (v2 - 1)))))) (z2c x0 x1 x2 i1 v1 v2))))))))
def z2g (x0:SrtL) (x1:Int) (x2:Int) (i1:Nat) (v1:Int×(List (List Int))):Ann:=r0 1 [1,2,3,6,7,8,14] [3,900000,900001] (cn (decide (((i1:Nat):Int)<5)) (.loop Int (ztt x0 x1 x2 i1 v1) [14] [] [] (ztt x0 x1 x2 i1 v1 v1.1) (z2f x0 x1 x2 i1 v1)) (r0 1 [6] [900000,900001] (rt [(900000,some 900000),(900001,some 900001)] (C195L x0 x1 x2 (false,v1.2)))))
def A195L (x0:SrtL) (x1:Int) (x2:Int):Ann:=r1 2 [1,2,3,6,7] [3,900000,900001] [pf (inR .i64 (x1+1))] [0] (r0 1 [1,2,3,6,7,8] [3,900000,900001] (lp (znx x0 x1 x2) [] [] [(900000,some 900000)] (znx x0 x1 x2 0 (x1+1,x0.l)) (z2g x0 x1 x2)))
theorem ze8 (x0:SrtL) (x1 x2:Int) (h:0≤x1∧x1<x2∧x2≤x0.l.length):Sw 0 x0.l.length x0.l (zc2 x0 x1 x2).2:=by
 unfold zc2
 refine zcc (fun i (v:Int×List (List Int))=>(x1+1≤v.1∧v.1≤x2)∧Sw 0 x0.l.length x0.l v.2) (fun (r:Bool×List (List Int))=>Sw 0 x0.l.length x0.l r.2) ⟨by dsimp only;omega,.refl⟩ (fun i v nx hi hv hn=>?_) (fun v hv=>hv.2)
 obtain ⟨hvb,hvs⟩:=hv
 refine zcj (fun (w:Int)=>x1+1≤w∧w≤x2) (fun w=>(x2 - w).toNat) (fun (r:Bool×List (List Int))=>Sw 0 x0.l.length x0.l r.2) (fun w next hw hn2=>?_) _ _ (Nat.lt_succ_self _) hvb
 cases hd:decide (w<x2)&&!(zb3 w (w - 1) v.2) with
 | true =>
  simp only [Bool.and_eq_true,decide_eq_true_eq] at hd
  exact hn2 _ om om
 | false =>
  cases hx:decide (w=x2) with
  | true=>exact hvs
  | false =>
   have hx:=of_decide_eq_false hx
   cases decide (x2 - x1<50) with
   | true=>exact hvs
   | false =>
    simp only [cond_false]
    refine jn_to (fun (j:List (List Int))=>Sw 0 x0.l.length x0.l j) (fun (r:Bool×List (List Int))=>Sw 0 x0.l.length x0.l r.2) (fun K hK=>?_) (fun j1 h1=>?_)
    ·cases decide (2≤w - x1) with
     | false=>exact hK _ (.step hvs _ _ om om)
     | true =>
      refine zcj (fun (u:Int×List (List Int))=>u.1<x2∧Sw 0 x0.l.length x0.l u.2) (fun u=>u.1.toNat) (fun (r:Bool×List (List Int))=>Sw 0 x0.l.length x0.l r.2) (fun u next3 hu hn3=>?_) _ _ zau ⟨by dsimp only;omega,.step hvs _ _ om om⟩
      cases hc:decide (1≤u.1) with
      | false=>exact hK _ hu.2
      | true =>
       have hc:=of_decide_eq_true hc
       cases !(zb3 u.1 (u.1 - 1) u.2) with
       | true=>exact hK _ hu.2
       | false=>exact hn3 _ ⟨by dsimp only;omega,.step hu.2 _ _ om om⟩ zau
    ·cases decide (2≤x2 - w) with
     | false=>exact hn _ ⟨hw,h1⟩
     | true =>
      refine zcj (fun (u:Int×List (List Int))=>x1+2≤u.1∧Sw 0 x0.l.length x0.l u.2) (fun u=>(x2 - u.1).toNat) (fun (r:Bool×List (List Int))=>Sw 0 x0.l.length x0.l r.2) (fun u next4 hu hn4=>?_) _ _ zau ⟨by dsimp only;omega,h1⟩
      cases hc:decide (u.1<x2) with
      | false=>exact hn _ ⟨hw,hu.2⟩
      | true =>
       have hc:=of_decide_eq_true hc
       cases !(zb3 u.1 (u.1 - 1) u.2) with
       | true=>exact hn _ ⟨hw,hu.2⟩
       | false=>exact hn4 _ ⟨by dsimp only;omega,.step hu.2 _ _ om om⟩ zau

theorem zew (x0:SrtL) (x1:Int) (x2:Int) (hx:x0.l.length≤255) (hok:OkL x0) (hab:0≤x1∧x1≤x2∧x2≤x0.l.length∧x1<x2):FnMT Try.prog 195 [.agg [.clo 103 [.vp 900001 0],.clo 187 [.own 900000,.k Try.prog.globals.size 42]],.int .i64 x1,.int .i64 x2] [.nest true 1 x0.l.length (nrOf (cInt .i64) x0.l),.var [.own 900000]] (C195L x0 x1 x2 (zc2 x0 x1 x2)):=by
 have aux:∀ R,zc2 x0 x1 x2=R→slim (C195L x0 x1 x2 R) (A195L x0 x1 x2) []:=by
  intro R hR
  refine rg ⟨by ( intros;simp only [inR];omega),trivial⟩ ?_
  refine rg trivial ?_
  revert hR;refine lN (fun i v=>(x1+1≤v.1∧v.1≤x2)∧(Sw 0 x0.l.length x0.l v.2∧v.2.length=x0.l.length)) (by (((try clear hR);(try clear hK1);(try clear hK2);(try clear hK3);(try clear hK4);intros;(try simp only [w1,w2,w3,w4,w5,w6,zbs,inR,IntKind.bits] at *));refine ⟨om,?_,trivial⟩;((repeat first | refine Sw.step ?_ _ _ om om)<;>first | exact hJ1.2.1 | exact hI4.2.1 | exact hI3.2.1 | exact hI1.2.1 | exact Sw.refl | exact hJ1.2.1.mono om om | exact hI4.2.1.mono om om | exact hI3.2.1.mono om om | exact hI1.2.1.mono om om))) rfl fun i1 v1 F1 hn1 hI1 hR hK1=>?_
  refine rg trivial ?_
  refine ⟨fun hc1=>?_,fun hc1=>?_⟩
  ·have hii1:i1<5:=by have:=of_decide_eq_true hc1;omega
   replace hR:=zb0 hR hii1
   revert hR;refine lW (fun v=>x1+1≤v∧v≤x2) (fun v=>(x2 - (v)).toNat) zaw (Nat.lt_succ_self _) rfl fun m2 v2 F2 hI2 hM2 hR hK2=>?_
   refine rg ⟨by ( intros;simp only [inR];omega),fun hg0=>⟨by (((try clear hR);(try clear hK1);(try clear hK2);(try clear hK3);(try clear hK4);intros;(try simp only [w1,w2,w3,w4,w5,w6,zbs,inR,IntKind.bits] at *));omega),by (intros;omega),by (exact OkLL.sw (a:=0) (b:=x0.l.length) hok zae ⟨om,om⟩)⟩,trivial⟩ ?_
   revert hR;refine cd (fun hc2 hR=>?_) fun hc2 hR=>?_
   ·
     refine rg ⟨by ( intros;simp only [inR];omega),trivial⟩ ?_
     exact hK2 (v2+1) zan zan hR
   ·
     refine rg trivial ?_
     revert hR;refine cd (fun hc3 hR=>?_) fun hc3 hR=>?_
     ·
       refine rg trivial ?_
       exact congrArg (C195L x0 x1 x2) hR
     ·
       refine rg ⟨by ( intros;simp only [inR];omega),trivial⟩ ?_
       revert hR;refine cd (fun hc4 hR=>?_) fun hc4 hR=>?_
       ·
         refine rg trivial ?_
         exact congrArg (C195L x0 x1 x2) hR
       ·
         refine rg ⟨by ( intros;simp only [inR];omega),⟨by (((try clear hR);(try clear hK1);(try clear hK2);(try clear hK3);(try clear hK4);intros;(try simp only [w1,w2,w3,w4,w5,w6,zbs,inR,IntKind.bits] at *));omega),by (intros;omega)⟩,trivial⟩ ?_
         revert hR;refine jN (fun v=>(Sw 0 x0.l.length x0.l v∧v.length=x0.l.length)) (fun F101 hR hJ101=>?_) (fun j1 hR hJ1=>?_)
         ·
           refine rg ⟨by ( intros;simp only [inR];omega),trivial⟩ ?_
           revert hR;refine cd (fun hc5 hR=>?_) fun hc5 hR=>?_
           ·
             refine rg ⟨by ( intros;simp only [inR];omega),trivial⟩ ?_
             revert hR;refine lW (fun v=>(0≤v.1∧v.1<x2)∧(Sw 0 x0.l.length x0.l v.2∧v.2.length=x0.l.length)) (fun v=>(v.1).toNat) zac (Nat.lt_succ_self _) rfl fun m3 v3 F3 hI3 hM3 hR hK3=>?_
             refine rg trivial ?_
             revert hR;refine cd (fun hc6 hR=>?_) fun hc6 hR=>?_
             ·
               refine rg ⟨by ( intros;simp only [inR];omega),⟨by (intros;omega),by (((try clear hR);(try clear hK1);(try clear hK2);(try clear hK3);(try clear hK4);intros;(try simp only [w1,w2,w3,w4,w5,w6,zbs,inR,IntKind.bits] at *));omega),by (exact OkLL.sw (a:=0) (b:=x0.l.length) hok zae ⟨om,om⟩)⟩,trivial⟩ ?_
               revert hR;refine cd (fun hc7 hR=>?_) fun hc7 hR=>?_
               ·
                 exact hJ101 v3.2 hR zac
               ·
                 refine rg ⟨by ( intros;simp only [inR];omega),⟨by (intros;omega),by (((try clear hR);(try clear hK1);(try clear hK2);(try clear hK3);(try clear hK4);intros;(try simp only [w1,w2,w3,w4,w5,w6,zbs,inR,IntKind.bits] at *));omega)⟩,trivial⟩ ?_
                 refine rg ⟨by ( intros;simp only [inR];omega),trivial⟩ ?_
                 exact hK3 (v3.1 - 1,(swp v3.2 v3.1 (v3.1 - 1))) zac zan hR
             ·
               exact hJ101 v3.2 hR zac
           ·
             exact hJ101 (swp v1.2 v2 (v2 - 1)) hR zac
         ·
           refine rg ⟨by ( intros;simp only [inR];omega),trivial⟩ ?_
           revert hR;refine cd (fun hc8 hR=>?_) fun hc8 hR=>?_
           ·
             refine rg ⟨by ( intros;simp only [inR];omega),trivial⟩ ?_
             revert hR;refine lW (fun v=>(x1+2≤v.1∧v.1≤x2)∧(Sw 0 x0.l.length x0.l v.2∧v.2.length=x0.l.length)) (fun v=>(x2 - (v.1)).toNat) zaj (Nat.lt_succ_self _) rfl fun m4 v4 F4 hI4 hM4 hR hK4=>?_
             refine rg trivial ?_
             revert hR;refine cd (fun hc9 hR=>?_) fun hc9 hR=>?_
             ·
               refine rg ⟨by ( intros;simp only [inR];omega),⟨by (((try clear hR);(try clear hK1);(try clear hK2);(try clear hK3);(try clear hK4);intros;(try simp only [w1,w2,w3,w4,w5,w6,zbs,inR,IntKind.bits] at *));omega),by (intros;omega),by (exact OkLL.sw (a:=0) (b:=x0.l.length) hok zae ⟨om,om⟩)⟩,trivial⟩ ?_
               revert hR;refine cd (fun hc10 hR=>?_) fun hc10 hR=>?_
               ·
                 refine rg ⟨by ( intros;simp only [inR];omega),trivial⟩ ?_
                 exact hK1 (v2,v4.2) hii1 (by (((try clear hR);(try clear hK1);(try clear hK2);(try clear hK3);(try clear hK4);intros;(try simp only [w1,w2,w3,w4,w5,w6,zbs,inR,IntKind.bits] at *));refine ⟨om,Sw.both ?_⟩;((repeat first | refine Sw.step ?_ _ _ om om)<;>first | exact hJ1.2.1 | exact hI4.2.1 | exact hI3.2.1 | exact hI1.2.1 | exact Sw.refl | exact hJ1.2.1.mono om om | exact hI4.2.1.mono om om | exact hI3.2.1.mono om om | exact hI1.2.1.mono om om))) hR
               ·
                 refine rg ⟨by ( intros;simp only [inR];omega),⟨by (((try clear hR);(try clear hK1);(try clear hK2);(try clear hK3);(try clear hK4);intros;(try simp only [w1,w2,w3,w4,w5,w6,zbs,inR,IntKind.bits] at *));omega),by (intros;omega)⟩,trivial⟩ ?_
                 refine rg ⟨by ( intros;simp only [inR];omega),trivial⟩ ?_
                 exact hK4 (v4.1+1,(swp v4.2 v4.1 (v4.1 - 1))) zac zan hR
             ·
               refine rg ⟨by ( intros;simp only [inR];omega),trivial⟩ ?_
               exact hK1 (v2,v4.2) hii1 (by (((try clear hR);(try clear hK1);(try clear hK2);(try clear hK3);(try clear hK4);intros;(try simp only [w1,w2,w3,w4,w5,w6,zbs,inR,IntKind.bits] at *));refine ⟨om,Sw.both ?_⟩;((repeat first | refine Sw.step ?_ _ _ om om)<;>first | exact hJ1.2.1 | exact hI4.2.1 | exact hI3.2.1 | exact hI1.2.1 | exact Sw.refl | exact hJ1.2.1.mono om om | exact hI4.2.1.mono om om | exact hI3.2.1.mono om om | exact hI1.2.1.mono om om))) hR
           ·
             refine rg ⟨by ( intros;simp only [inR];omega),trivial⟩ ?_
             exact hK1 (v2,j1) hii1 zay hR
  ·obtain rfl:i1=5:=by have:=of_decide_eq_false hc1;omega
   replace hR:=zb4 hR (Nat.lt_irrefl _)
   refine rg trivial ?_
   exact congrArg (C195L x0 x1 x2) hR
 exact FnM.go 91 Try.func195 zax zax (A195L x0 x1 x2) zax (aux _ rfl)
def k195L (d:Nat) (ids:List Nat) (x0:SrtL) (x1:Int) (x2:Int):Cl:=(hresM d ids (C195L x0 x1 x2 (zc2 x0 x1 x2)),k3 (zew x0 x1 x2))
end Go.Proofs.Ytaageiiodlfeiaa
