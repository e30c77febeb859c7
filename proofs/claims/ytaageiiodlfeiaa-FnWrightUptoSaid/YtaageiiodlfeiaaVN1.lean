import Derived.Test.YtaageiiodlfeiaaSEL
set_option maxHeartbeats 4000000
set_option linter.unusedSimpArgs false
set_option linter.unusedVariables false
namespace Go.Proofs.Ytaageiiodlfeiaa
open Go Go.Lite Go.Proofs
noncomputable def kvoL (d:Nat) (ids:List Nat) (l:List (List Int)):Cl:=(.resM d ids [(900000,.nest true 1 l.length (nrOf (cInt .i64) l)),(0,.var [.own 900000])] (.agg [.k Try.prog.globals.size 84,.vp 0 0,.int .u64 151]),k0 (P:=FnX Try.prog 152 [.ifc 84 (.own 900000)] [.nest true 1 l.length (nrOf (cInt .i64) l)] (.agg [.k Try.prog.globals.size 84,.vp 0 0,.int .u64 151]) [(900000,.nest true 1 l.length (nrOf (cInt .i64) l)),(0,.var [.own 900000])]) (FnX.valueOfN (t:=84) (e:=42) (ti:=Try.t84) Try.func152 zax zax zax (by rfl) zax zax))
noncomputable def klnL (d:Nat) (ids:List Nat) (l:List (List Int)):Cl:=(.resM d ids (enumB [.nest true 1 l.length (nrOf (cInt .i64) l),.var [.own 900000]] 900000) (.int .i64 l.length),k0 (P:=FnX Try.prog 154 [.agg [.k Try.prog.globals.size 84,.vp 900001 0,.int .u64 151]] [.nest true 1 l.length (nrOf (cInt .i64) l),.var [.own 900000]] (.int .i64 l.length) (enumB [.nest true 1 l.length (nrOf (cInt .i64) l),.var [.own 900000]] 900000)) (FnX.valLenN (t:=84) (e:=42) (ti:=Try.t84) Try.func154 zax zax zax (by rfl) zax zax zax zax))
noncomputable def kspL (d:Nat) (ids:List Nat) (l:List (List Int)):Cl:=(.resM d ids (enumB [.nest true 1 l.length (nrOf (cInt .i64) l)] 900000) (.clo 187 [.own 900000,.k Try.prog.globals.size 42]),k1 (P:=FnX Try.prog 153 [.ifc 84 (.own 900000)] [.nest true 1 l.length (nrOf (cInt .i64) l)] (.clo 187 [.own 900000,.k Try.prog.globals.size 42]) (enumB [.nest true 1 l.length (nrOf (cInt .i64) l)] 900000)) fun hn=>FnX.swapperN (t:=84) (e:=42) (ti:=Try.t84) (ie:=Try.t42) (ke:=23) hn Try.func153 zax zax zax (by rfl) zax zax zax (fun w=>by kernel_rfl) (fun m=>⟨rfl,by decide⟩) zax)

def C102L (x0:SrtL) (x1:Unit) (R:(List (List Int))):LV×List (Nat×BC):=(.tup [],[(900000,.nest true 1 R.length (nrOf (cInt .i64) R)),(900001,.var [.own 900000])])
def zk8 (x0:SrtL) (x1:Unit):(List (List Int)):=pdqL x0 0 (x0.l.length:Int) (zdd (x0.l.length:Int))
noncomputable def A102L (x0:SrtL) (x1:Unit):Ann:=.reg 4 [] [(1,kvoL 9 [900000] x0.l),(1001,kspL 11 [900000] x0.l),(2001,klnL 13 [900000,1009] x0.l),(3002,k155 (x0.l.length:Int))] [1,5,6,7] [900000,900001] [] [pf (inR .u64 (x0.l.length:Int))] [] [4,8,12,0,16] (.reg 1 [] [(5,k156L 22 [900000,900001] x0 0 (x0.l.length:Int) (zdd (x0.l.length:Int)))] [] [900000,900001] [] [] [] [0] (rt [(900000,some 900000),(900001,some 900001)] (C102L x0 x1 (pdqL x0 0 (x0.l.length:Int) (zdd (x0.l.length:Int))))))
theorem zm6 (x0:SrtL) (x1:Unit) (hx:x0.l.length≤255) (hok:OkL x0) (h2:2≤x0.l.length):FnMT Try.prog 102 [.ifc 84 (.own 900000),.clo 103 [.vp 900001 0]] [.nest true 1 x0.l.length (nrOf (cInt .i64) x0.l),.var [.own 900000]] (C102L x0 x1 (zk8 x0 x1)):=by
 have aux:∀ R,zk8 x0 x1=R→slim (C102L x0 x1 R) (A102L x0 x1) []:=by
  intro R hR
  refine rg ⟨by ( intros;simp only [inR];omega),trivial,by trivial,trivial,by (intros;omega),trivial⟩ ?_
  refine rg ⟨⟨by trivial,by trivial,by (intros;omega),by (have h9:=zir x0.l.length om;((try clear hR);intros;(try simp only [w1,w2,w3,w4,w5,w6,zbs,inR,IntKind.bits] at *));omega)⟩,trivial⟩ ?_
  exact congrArg (C102L x0 x1) hR
 exact FnM.go 23 Try.func102 zax zax (A102L x0 x1) zax (aux _ rfl)
def k102L (d:Nat) (ids:List Nat) (x0:SrtL) (x1:Unit):Cl:=(hresM d ids (C102L x0 x1 (zk8 x0 x1)),k3 (zm6 x0 x1))
structure SrtY where

  l:List (List Int)
  deriving Inhabited

def C190Y (x0:SrtY) (x1:Int) (x2:Int) (R:(List (List Int))):LV×List (Nat×BC):=(.tup [],[(900000,.nest true 1 R.length (nrOf (cInt .i64) R)),(900001,.var [.own 900000])])
def zke (x0:SrtY) (x1:Int) (x2:Int):(List (List Int)):=loopW (fun (v1:Int) next=>x0.l) (0+1) (x1+1)
def zyc (x0:SrtY) (x1:Int) (x2:Int) (v1:Int):Dl:=⟨[(6,.int .i64 v1)],[]⟩
def z2o (x0:SrtY) (x1:Int) (x2:Int) (v1:Int):Ann:=r0 1 [1,2,3,6,12] [3,900000,900001] (cn (decide (v1<x2)) (.next 99 [] ⟨[],[]⟩) (rt [(900000,some 900000),(900001,some 900001)] (C190Y x0 x1 x2 x0.l)))
def A190Y (x0:SrtY) (x1:Int) (x2:Int):Ann:=r1 2 [1,2,3,6] [3,900000,900001] [pf (inR .i64 (x1+1))] [0] (.loop Int (zyc x0 x1 x2) [] [] [] (zyc x0 x1 x2 (x1+1)) (z2o x0 x1 x2))
theorem zfx (x0:SrtY) (x1:Int) (x2:Int) (hx:x0.l.length≤1) (hab:x1=0∧x2=x0.l.length):FnMT Try.prog 190 [.agg [.clo 103 [.vp 900001 0],.fv],.int .i64 x1,.int .i64 x2] [.nest true 1 x0.l.length (nrOf (cInt .i64) x0.l),.var [.own 900000]] (C190Y x0 x1 x2 (zke x0 x1 x2)):=by
 have aux:∀ R,zke x0 x1 x2=R→slim (C190Y x0 x1 x2 R) (A190Y x0 x1 x2) []:=by
  intro R hR
  refine rg ⟨by ( intros;simp only [inR];omega),trivial⟩ ?_
  revert hR;refine lW (fun v=>x1+1≤v) (fun v=>0) zaw (Nat.lt_succ_self _) rfl fun m1 v1 F1 hI1 hM1 hR hK1=>?_
  refine rg trivial ?_
  refine ⟨fun hq=>absurd hq (by simp only [decide_eq_true_eq,decide_eq_false_iff_not,Bool.not_eq_true,Bool.not_eq_false];omega),fun hc1=>?_⟩
  exact congrArg (C190Y x0 x1 x2) hR
 exact FnM.go 35 Try.func190 zax zax (A190Y x0 x1 x2) zax (aux _ rfl)
def k190Y (d:Nat) (ids:List Nat) (x0:SrtY) (x1:Int) (x2:Int):Cl:=(hresM d ids (C190Y x0 x1 x2 (zke x0 x1 x2)),k2 (zfx x0 x1 x2))
def C156Y (x0:SrtY) (x1:Int) (x2:Int) (x3:Int) (R:(List (List Int))):LV×List (Nat×BC):=(.tup [],[(900000,.nest true 1 R.length (nrOf (cInt .i64) R)),(900001,.var [.own 900000])])
def pdqY (x0:SrtY) (x1:Int) (x2:Int) (x3:Int):(List (List Int)):=loopW (fun (v1:Int×Int×Int×Bool×Bool) next=>zke x0 v1.1 v1.2.1) (0+1) (x1,x2,x3,true,true)
def zyg (x0:SrtY) (x1:Int) (x2:Int) (x3:Int) (v1:Int×Int×Int×Bool×Bool):Dl:=⟨[(1,.int .i64 v1.1),(2,.int .i64 v1.2.1),(3,.int .i64 v1.2.2.1),(8,.bool v1.2.2.2.1),(9,.bool v1.2.2.2.2)],[]⟩
def z2r (x0:SrtY) (x1:Int) (x2:Int) (x3:Int) (v1:Int×Int×Int×Bool×Bool):Ann:=r1 1 [1,2,3,4,8,9,10] [4,900000,900001] [pf (inR .i64 (v1.2.1 - v1.1))] [0] (r0 1 [1,2,3,4,8,9,10,23] [4,900000,900001] (cn (decide ((v1.2.1 - v1.1)≤12)) (.reg 1 [] [(3,k190Y 27 [900000,900001] x0 v1.1 v1.2.1)] [1,2,3,4,8,9,10] [4,900000,900001] [] [] [] [0] (rt [(900000,some 900000),(900001,some 900001)] (C156Y x0 x1 x2 x3 (zke x0 v1.1 v1.2.1)))) (.next 99 [] ⟨[],[]⟩)))
def A156Y (x0:SrtY) (x1:Int) (x2:Int) (x3:Int):Ann:=r0 3 [1,2,3,4,8,9] [4,900000,900001] (.loop (Int×Int×Int×Bool×Bool) (zyg x0 x1 x2 x3) [] [] [] (zyg x0 x1 x2 x3 (x1,x2,x3,true,true)) (z2r x0 x1 x2 x3))
theorem zh5 (x0:SrtY) (x1:Int) (x2:Int) (x3:Int) (hx:x0.l.length≤1) (hab:x1=0∧x2=x0.l.length):FnMT Try.prog 156 [.agg [.clo 103 [.vp 900001 0],.fv],.int .i64 x1,.int .i64 x2,.int .i64 x3] [.nest true 1 x0.l.length (nrOf (cInt .i64) x0.l),.var [.own 900000]] (C156Y x0 x1 x2 x3 (pdqY x0 x1 x2 x3)):=by
 have aux:∀ R,pdqY x0 x1 x2 x3=R→slim (C156Y x0 x1 x2 x3 R) (A156Y x0 x1 x2 x3) []:=by
  intro R hR
  refine rg trivial ?_
  revert hR;refine lW (fun v=>v.1=x1∧v.2.1=x2) (fun v=>0) zay (Nat.lt_succ_self _) rfl fun m1 v1 F1 hI1 hM1 hR hK1=>?_
  refine rg ⟨by ( intros;simp only [inR];omega),trivial⟩ ?_
  refine rg trivial ?_
  refine ⟨fun hc1=>?_,fun hq=>absurd hq (by simp only [decide_eq_true_eq,decide_eq_false_iff_not,Bool.not_eq_true,Bool.not_eq_false];omega)⟩
  refine rg ⟨⟨by trivial,by (intros;omega)⟩,trivial⟩ ?_
  exact congrArg (C156Y x0 x1 x2 x3) hR
 exact FnM.go 130 Try.func156 zax zax (A156Y x0 x1 x2 x3) zax (aux _ rfl)
def k156Y (d:Nat) (ids:List Nat) (x0:SrtY) (x1:Int) (x2:Int) (x3:Int):Cl:=(hresM d ids (C156Y x0 x1 x2 x3 (pdqY x0 x1 x2 x3)),k2 (zh5 x0 x1 x2 x3))
noncomputable def kvoY (d:Nat) (ids:List Nat) (l:List (List Int)):Cl:=(.resM d ids [(900000,.nest true 1 l.length (nrOf (cInt .i64) l)),(0,.var [.own 900000])] (.agg [.k Try.prog.globals.size 84,.vp 0 0,.int .u64 151]),k0 (P:=FnX Try.prog 152 [.ifc 84 (.own 900000)] [.nest true 1 l.length (nrOf (cInt .i64) l)] (.agg [.k Try.prog.globals.size 84,.vp 0 0,.int .u64 151]) [(900000,.nest true 1 l.length (nrOf (cInt .i64) l)),(0,.var [.own 900000])]) (FnX.valueOfN (t:=84) (e:=42) (ti:=Try.t84) Try.func152 zax zax zax (by rfl) zax zax))
noncomputable def klnY (d:Nat) (ids:List Nat) (l:List (List Int)):Cl:=(.resM d ids (enumB [.nest true 1 l.length (nrOf (cInt .i64) l),.var [.own 900000]] 900000) (.int .i64 l.length),k0 (P:=FnX Try.prog 154 [.agg [.k Try.prog.globals.size 84,.vp 900001 0,.int .u64 151]] [.nest true 1 l.length (nrOf (cInt .i64) l),.var [.own 900000]] (.int .i64 l.length) (enumB [.nest true 1 l.length (nrOf (cInt .i64) l),.var [.own 900000]] 900000)) (FnX.valLenN (t:=84) (e:=42) (ti:=Try.t84) Try.func154 zax zax zax (by rfl) zax zax zax zax))
noncomputable def kspY (d:Nat) (ids:List Nat) (l:List (List Int)):Cl:=(.resM d ids (enumB [.nest true 1 l.length (nrOf (cInt .i64) l)] 900000) .fv,k1 (P:=FnX Try.prog 153 [.ifc 84 (.own 900000)] [.nest true 1 l.length (nrOf (cInt .i64) l)] .fv (enumB [.nest true 1 l.length (nrOf (cInt .i64) l)] 900000)) fun hn=>FnX.swapper0N (t:=84) (e:=42) (ti:=Try.t84) (ie:=Try.t42) (ke:=23) (g0:=179) (g1:=180) hn Try.func153 zax zax zax (by rfl) zax zax zax (fun w=>by kernel_rfl) zax zax)

def C102Y (x0:SrtY) (x1:Unit) (R:(List (List Int))):LV×List (Nat×BC):=(.tup [],[(900000,.nest true 1 R.length (nrOf (cInt .i64) R)),(900001,.var [.own 900000])])
def zq1 (x0:SrtY) (x1:Unit):(List (List Int)):=pdqY x0 0 (x0.l.length:Int) (zdd (x0.l.length:Int))
noncomputable def A102Y (x0:SrtY) (x1:Unit):Ann:=.reg 4 [] [(1,kvoY 9 [900000] x0.l),(1001,kspY 11 [900000] x0.l),(2001,klnY 13 [900000,1009] x0.l),(3002,k155 (x0.l.length:Int))] [1,5,6,7] [900000,900001] [] [pf (inR .u64 (x0.l.length:Int))] [] [4,8,12,0,16] (.reg 1 [] [(5,k156Y 22 [900000,900001] x0 0 (x0.l.length:Int) (zdd (x0.l.length:Int)))] [] [900000,900001] [] [] [] [0] (rt [(900000,some 900000),(900001,some 900001)] (C102Y x0 x1 (pdqY x0 0 (x0.l.length:Int) (zdd (x0.l.length:Int))))))
theorem zm5 (x0:SrtY) (x1:Unit) (hx:x0.l.length≤1):FnMT Try.prog 102 [.ifc 84 (.own 900000),.clo 103 [.vp 900001 0]] [.nest true 1 x0.l.length (nrOf (cInt .i64) x0.l),.var [.own 900000]] (C102Y x0 x1 (zq1 x0 x1)):=by
 have aux:∀ R,zq1 x0 x1=R→slim (C102Y x0 x1 R) (A102Y x0 x1) []:=by
  intro R hR
  refine rg ⟨by ( intros;simp only [inR];omega),trivial,by trivial,trivial,by (intros;omega),trivial⟩ ?_
  refine rg ⟨⟨by trivial,by trivial⟩,trivial⟩ ?_
  exact congrArg (C102Y x0 x1) hR
 exact FnM.go 23 Try.func102 zax zax (A102Y x0 x1) zax (aux _ rfl)
def k102Y (d:Nat) (ids:List Nat) (x0:SrtY) (x1:Unit):Cl:=(hresM d ids (C102Y x0 x1 (zq1 x0 x1)),k1 (zm5 x0 x1))
def C48 (R:(List (List Int))×Bool):LV×List (Nat×BC):=(.tup [.own 0,.bool R.2],[(0,.nest true 1 R.1.length (nrOf (cInt .i64) R.1))])
def zb9 : Nat → Family → Int → Int → (List (List Int)) × Bool
  | 0,_,_,_=>default
  | m+1,x0,x1,x2=>bif (decide (x1=x2)) then ([[x2]],true) else (loopN (fun i1 (v1:(List (List Int))) nx1=>bif (!((zb9 m x0 x1 ((zbp x0 x2).getD i1 default)).2)) then (([]:List (List Int)),false) else (loopN (fun i2 (v2:(List (List Int))) next=>next (v2++[((((zb9 m x0 x1 ((zbp x0 x2).getD i1 default)).1).getD i2 [])++[x2])])) (fun (v2:(List (List Int)))=>bif (decide (100<((v2.length:Nat):Int))) then (([]:List (List Int)),false) else (nx1 v2)) (((zb9 m x0 x1 ((zbp x0 x2).getD i1 default)).1).length) 0 v1)) (fun (v1:(List (List Int)))=>bif (decide (2≤v1.length)) then (zk8 (SrtL.mk v1) (),true) else (zq1 (SrtY.mk v1) (),true)) ((zbp x0 x2).length) 0 ([]:List (List Int)))
def zbt (x0:Family) (x1:Int) (x2:Int):(List (List Int))×Bool:=zb9 100 x0 x1 x2
def kr48 (m:Nat) (x0:Family) (x1:Int) (x2:Int):Cl:=(hres (C48 (zb9 m x0 x1 x2)),pf (FnT Try.prog 48 [.agg (zce false x0),.int .i64 x1,.int .i64 x2] (C48 (zb9 m x0 x1 x2))))
def D48b1 (m:Nat) (x0:Family) (x1:Int) (x2:Int) (i1:Nat) (v1:(List (List Int))):Dl:=⟨[(25,.int .i64 ((i1:Nat):Int))],[(30800,.nest true 1 v1.length (nrOf (cInt .i64) v1)),(8,.var [.own 30800])]⟩
def D48b2 (m:Nat) (x0:Family) (x1:Int) (x2:Int) (i1:Nat) (v1:(List (List Int))) (i2:Nat) (v2:(List (List Int))):Dl:=⟨[(40,.int .i64 ((i2:Nat):Int))],[(40800,.nest true 1 v2.length (nrOf (cInt .i64) v2)),(8,.var [.own 40800]),(1033,.nest true 1 (((zb9 m x0 x1 ((zbp x0 x2).getD i1 default)).1).length) (nrG (cInt .i64) ((zb9 m x0 x1 ((zbp x0 x2).getD i1 default)).1) i2))]⟩
def A48b2 (m:Nat) (x0:Family) (x1:Int) (x2:Int) (i1:Nat) (v1:(List (List Int))) (i2:Nat) (v2:(List (List Int))):Ann:=r0 1 [1,2,3,6,7,8,23,24,25,38,39,40,41] [3,8,1023,1033,40800] (cn (decide (((i2:Nat):Int)<((((zb9 m x0 x1 ((zbp x0 x2).getD i1 default)).1).length:Nat):Int))) (.reg 1 [] [(1,nTg (cInt .i64) ((zb9 m x0 x1 ((zbp x0 x2).getD i1 default)).1) i2 43)] [1,2,3,6,7,8,14,23,24,25,38,39,40] [3,8,43,1023,1033,40800] [] [pf (0≤(((i2:Nat):Int):Int)∧(((i2:Nat):Int):Int)<((((zb9 m x0 x1 ((zbp x0 x2).getD i1 default)).1).length:Nat):Int))] [] [0,4] (.reg 1 [] [(3,bsC 47 (cInt .i64) ([x2]:List Int)),(4,ap1 48 (cInt .i64) 8 (((zb9 m x0 x1 ((zbp x0 x2).getD i1 default)).1).getD i2 []) x2),(5,nB1 (cInt .i64) ((((zb9 m x0 x1 ((zbp x0 x2).getD i1 default)).1).getD i2 [])++[x2])),(6,nA1 (cInt .i64) v2 ((((zb9 m x0 x1 ((zbp x0 x2).getD i1 default)).1).getD i2 [])++[x2]) 24)] [1,2,3,6,7,8,23,24,25,38,39,40] [3,8,50,1023,1033] [] [] [] [0,4,8,12] (r1 1 [1,2,3,6,7,8,23,24,25,38,39,40] [3,8,50,1023,1033] [pf (inR .i64 (((i2:Nat):Int)+1))] [0] (.next 0 [(40800,some 50)] (D48b2 m x0 x1 x2 i1 v1 (i2+1) (v2++[((((zb9 m x0 x1 ((zbp x0 x2).getD i1 default)).1).getD i2 [])++[x2])])))))) (r0 1 [1,2,3,6,7,8,23,24,25,54] [3,8,1023,40800] (cn (decide (100<((v2.length:Nat):Int))) (r0 1 [1,2,3,6,7,8,23,24,25] [3,8,1023,40800] (rt [(0,none)] (C48 (([]:List (List Int)),false)))) (r1 1 [1,2,3,6,7,8,23,24,25] [3,8,1023,40800] [pf (inR .i64 (((i1:Nat):Int)+1))] [0] (.next 1 [(30800,some 40800)] (D48b1 m x0 x1 x2 (i1+1) v2))))))
def A48b1 (m:Nat) (x0:Family) (x1:Int) (x2:Int) (i1:Nat) (v1:(List (List Int))):Ann:=r0 1 [1,2,3,6,7,8,23,24,25,26] [3,8,1023,30800] (cn (decide (((i1:Nat):Int)<(((zbp x0 x2).length:Nat):Int))) (.reg 2 [] [(1003,kr48 m x0 x1 ((zbp x0 x2).getD i1 default))] [1,2,3,6,7,8,11,12,23,24,25] [3,8,1023,1033,30800] [] [pf (0≤(((i1:Nat):Int):Int)∧(((i1:Nat):Int):Int)<(((zbp x0 x2).length:Nat):Int))] [] [0,4] (r0 1 [1,2,3,6,7,8,11,23,24,25,37] [3,8,1023,1033,30800] (cn (!((zb9 m x0 x1 ((zbp x0 x2).getD i1 default)).2)) (r0 1 [1,2,3,6,7,8,11,23,24,25] [3,8,1023,1033,30800] (rt [(0,none)] (C48 (([]:List (List Int)),false)))) (r0 1 [1,2,3,6,7,8,23,24,25,38,39,40] [3,8,1023,1033,30800] (lp (D48b2 m x0 x1 x2 i1 v1) [] [30800] [(40800,some 30800)] (D48b2 m x0 x1 x2 i1 v1 0 v1) (A48b2 m x0 x1 x2 i1 v1)))))) (.split (decide (2≤v1.length)) (.reg 2 [] [(3,k102L 59 [30800,8] (SrtL.mk v1) ())] [6,7] [30800] [] [] [] [0] (rt [(0,some 30800)] (C48 (zk8 (SrtL.mk v1) (),true)))) (.reg 2 [] [(3,k102Y 59 [30800,8] (SrtY.mk v1) ())] [6,7] [30800] [] [] [] [0] (rt [(0,some 30800)] (C48 (zq1 (SrtY.mk v1) (),true))))))
def A48 (m:Nat) (x0:Family) (x1:Int) (x2:Int):Ann:=r0 1 [1,2,3,6,7] [3] (r0 1 [1,2,3,6,7,17] [3] (cn (decide (x1=x2)) (.reg 1 [] [(1,bsC 19 (cInt .i64) ([x2]:List Int)),(2,nB1 (cInt .i64) [x2])] [1,2,3,6,7] [3,20] [] [] [] [0,4] (rt [(0,some 20)] (C48 ([[x2]],true)))) (r0 1 [1,2,3,6,7,8] [3,8] (.reg 1 [] [(2,k101 x0 x2)] [1,2,3,6,7,8,23,24,25] [3,8,1023] [] [] [] [0] (lp (D48b1 m x0 x1 x2) [] [] [(30800,none)] (D48b1 m x0 x1 x2 0 ([]:List (List Int))) (A48b1 m x0 x1 x2))))))
def LJ (n k:Nat) (v:List (List Int)):Prop:=v.length≤k∧∀ y∈v,y.length≤n
theorem LJ.nil (n k:Nat):LJ n k []:=⟨Nat.zero_le _,fun y hy=>absurd hy zaz⟩
theorem LJ.push {n k:Nat} {v:List (List Int)} {y:List Int} (h:LJ n k v) (hy:y.length≤n):LJ n (k+1) (v++[y]) :=
 ⟨by rw [List.length_append,List.length_singleton];have:=h.1;omega,fun z hz=>by
  rcases List.mem_append.1 hz with q | q
  ·exact h.2 z q
  ·rw [List.mem_singleton] at q;rw [q];exact hy⟩
theorem LJ.mono {n k l:Nat} {v:List (List Int)} (h:LJ n k v) (hv:v.length≤l):LJ n l v:=⟨hv,h.2⟩
theorem LJ.at {n k:Nat} {v:List (List Int)} (h:LJ n k v) (i:Nat):(v.getD i []).length≤n:=by
 rw [List.getD_eq_getElem?_getD]
 cases e:v[i]? with
 | none=>exact Nat.zero_le _
 | some y=>exact h.2 y (List.mem_of_getElem? e)
theorem LJ.ok {n k:Nat} {v:List (List Int)} (h:LJ n k v) (hn:n≤1000):OkLL v:=fun y hy=>Nat.le_trans (h.2 y hy) hn
theorem LJ.perm {n k:Nat} {v w:List (List Int)} (h:LJ n k v) (hp:w.Perm v):LJ n k w:=⟨by rw [hp.length_eq];exact h.1,fun y hy=>h.2 y (hp.mem_iff.1 hy)⟩
theorem zmn (v:List (List Int)) (h:v.length≤255):(zk8 (SrtL.mk v) ()).Perm v:=(zms (SrtL.mk v) _ h).2
theorem zhv : ∀ (m : Nat) (f : Family) (q p : Int), (∀ (k : Nat), k < f.people.length → (f.people.getD k default).father < k ∧ (f.people.getD k default).mother < k) → 0 ≤ p ∧ p < f.people.length → LJ (p.toNat + 1) 100 (zb9 m f q p).1
  | 0,_,_,_,_,_=>LJ.nil _ _
  | m+1,f,q,p,hp,hj=>by
    rw [zb9]
    refine zbz (p:=fun (r:List (List Int)×Bool)=>LJ (p.toNat+1) 100 r.1) (fun _=>⟨by simp,fun y hy=>by rw [List.mem_singleton.1 hy];simp⟩) (fun _=>?_)
    refine zcc (fun i (v:List (List Int))=>LJ (p.toNat+1) 100 v) (fun (r:List (List Int)×Bool)=>LJ (p.toNat+1) 100 r.1) (LJ.nil _ _) (fun i v nx hi hv hn=>?_) (fun v hv=>?_)
    · have hx:=(zcf f p).2 i hi
      have hpp:=hp p.toNat om
      have hb:=zhv m f q ((zbp f p).getD i default) hp om
      generalize (zbp f p).getD i default=x at hx hb
      refine zbz (p:=fun (r:List (List Int)×Bool)=>LJ (p.toNat+1) 100 r.1) (fun _=>LJ.nil _ _) (fun _=>?_)
      refine zcc (fun j (w : List (List Int)) => LJ (p.toNat + 1) (100 + j) w) (fun (r : List (List Int) × Bool) => LJ (p.toNat + 1) 100 r.1) hv (fun j w next hj hw hn2 => hn2 _ (LJ.push hw (by
        rw [List.length_append,List.length_singleton];have:=hb.at j;omega))) (fun w hw=>?_)
      refine zbz (p:=fun (r:List (List Int)×Bool)=>LJ (p.toNat+1) 100 r.1) (fun _=>LJ.nil _ _) (fun c=>hn _ (hw.mono (by have:=of_decide_eq_false c;omega)))
    · exact zbz (p:=fun (r:List (List Int)×Bool)=>LJ (p.toNat+1) 100 r.1) (fun _=>hv.perm (zmn v (by have:=hv.1;omega))) (fun _=>hv)

theorem zky (x0:Family) (x1:Int) (x2:Int) (hn:x0.people.length≤40) (hj:0≤x2∧x2<x0.people.length) (hp:∀ (k:Nat),k<x0.people.length→(x0.people.getD k default).father<k∧(x0.people.getD k default).mother<k):FnT Try.prog 48 [.agg (zce false x0),.int .i64 x1,.int .i64 x2] (C48 (zbt x0 x1 x2)):=by
 have all:∀ (m:Nat) (x0:Family) (x1:Int) (x2:Int) (hn:x0.people.length≤40) (hj:0≤x2∧x2<x0.people.length) (hp:∀ (k:Nat),k<x0.people.length→(x0.people.getD k default).father<k∧(x0.people.getD k default).mother<k) (hm:x2.toNat<m),FnT Try.prog 48 [.agg (zce false x0),.int .i64 x1,.int .i64 x2] (C48 (zb9 m x0 x1 x2)):=by
  intro m;induction m
  ·intros;exact absurd zbf (Nat.not_lt_zero _)
  rename_i m ih
  intro x0 x1 x2 hn hj hp hm
  have aux:∀ R,zb9 (m+1) x0 x1 x2=R→slim (C48 R) (A48 m x0 x1 x2) []:=by
   intro R hR
   rw [zb9] at hR
   refine rg trivial ?_
   refine rg trivial ?_
   revert hR;refine cd (fun hc1 hR=>?_) fun hc1 hR=>?_
   ·
     refine rg ⟨trivial,trivial,trivial⟩ ?_
     exact congrArg C48 hR
   ·
     refine rg trivial ?_
     refine rg ⟨⟨by (intros;omega),by with_reducible assumption⟩,trivial⟩ ?_
     have hp1:=zcf x0 x2
     revert hR;refine lN (fun i v=>LJ (x2.toNat+1) 100 v) (by (exact LJ.nil _ _)) rfl fun i1 v1 F1 hn1 hI1 hR hK1=>?_
     refine rg trivial ?_
     refine ⟨fun hc2=>?_,fun hc2=>?_⟩
     · have hii1:i1<(zbp x0 x2).length:=by have:=of_decide_eq_true hc2;omega
       replace hR:=zb0 hR hii1
       refine rg ⟨by (intros;omega),ih x0 x1 ((zbp x0 x2).getD i1 default) zas (by (have h7:=(zcf x0 x2).2 i1 za7;have h6:=hp x2.toNat om;omega)) zas (by (have h7:=(zcf x0 x2).2 i1 za7;have h6:=hp x2.toNat om;omega)),trivial⟩ ?_
       refine rg trivial ?_
       revert hR;refine cd (fun hc3 hR=>?_) fun hc3 hR=>?_
       ·
         refine rg trivial ?_
         exact congrArg C48 hR
       ·
         refine rg trivial ?_
         revert hR;refine lN (fun i v=>LJ (x2.toNat+1) (100+i) v) zas rfl fun i2 v2 F2 hn2 hI2 hR hK2=>?_
         refine rg trivial ?_
         refine ⟨fun hc4=>?_,fun hc4=>?_⟩
         · have hii2:i2<((zb9 m x0 x1 ((zbp x0 x2).getD i1 default)).1).length:=by have:=of_decide_eq_true hc4;omega
           replace hR:=zb0 hR hii2
           refine rg ⟨by (intros;omega),trivial,trivial⟩ ?_
           refine rg ⟨trivial,by (have h7:=(zcf x0 x2).2 i1 za7;have h6:=hp x2.toNat om;have h5:=zhv m x0 x1 ((zbp x0 x2).getD i1 default) hp om;have h4:=h5.at i2;have h3:=hI2.1;have h2:=h5.1;(try simp only [inR]);omega),trivial,by (have h7:=(zcf x0 x2).2 i1 za7;have h6:=hp x2.toNat om;have h5:=zhv m x0 x1 ((zbp x0 x2).getD i1 default) hp om;have h4:=h5.at i2;have h3:=hI2.1;have h2:=h5.1;(try simp only [inR]);omega),trivial⟩ ?_
           refine rg ⟨by (have h7:=(zcf x0 x2).2 i1 za7;have h6:=hp x2.toNat om;have h5:=zhv m x0 x1 ((zbp x0 x2).getD i1 default) hp om;have h4:=h5.at i2;have h3:=hI2.1;have h2:=h5.1;(try simp only [inR]);omega),trivial⟩ ?_
           exact hK2 (v2++[((((zb9 m x0 x1 ((zbp x0 x2).getD i1 default)).1).getD i2 [])++[x2])]) hii2 (by (have h7:=(zcf x0 x2).2 i1 za7;have h6:=hp x2.toNat om;have h5:=zhv m x0 x1 ((zbp x0 x2).getD i1 default) hp om;refine hI2.push ?_;rw [List.length_append,List.length_singleton];have h4:=h5.at i2;omega)) hR
         · obtain rfl:i2=((zb9 m x0 x1 ((zbp x0 x2).getD i1 default)).1).length:=by have:=of_decide_eq_false hc4;omega
           replace hR:=zb4 hR (Nat.lt_irrefl _)
           refine rg trivial ?_
           revert hR;refine cd (fun hc5 hR=>?_) fun hc5 hR=>?_
           ·
             refine rg trivial ?_
             exact congrArg C48 hR
           ·
             refine rg ⟨by (have h7:=(zcf x0 x2).2 i1 za7;have h6:=hp x2.toNat om;have h5:=zhv m x0 x1 ((zbp x0 x2).getD i1 default) hp om;have h2:=h5.1;(try simp only [inR]);omega),trivial⟩ ?_
             exact hK1 v2 hii1 (by (exact hI2.mono (by simp only [decide_eq_false_iff_not] at *;omega))) hR
     · obtain rfl:i1=(zbp x0 x2).length:=by have:=of_decide_eq_false hc2;omega
       replace hR:=zb4 hR (Nat.lt_irrefl _)
       revert hR;refine cd (fun hs6 hR=>?_) fun hs6 hR=>?_
       ·
         refine rg ⟨⟨by (have h9:=hI1.1;dsimp only;omega),by (exact hI1.ok om),by (clear ih;(try clear hR hK1);intros;(try simp only [decide_eq_true_eq,decide_eq_false_iff_not,Bool.or_eq_true,Bool.and_eq_true,zbr,zbo,zbq,Bool.not_eq_true',inR] at *);(repeat' apply And.intro)<;>(intros;omega))⟩,trivial⟩ ?_
         exact congrArg C48 hR
       ·
         refine rg ⟨by (clear ih;(try clear hR hK1);intros;(try simp only [decide_eq_true_eq,decide_eq_false_iff_not,Bool.or_eq_true,Bool.and_eq_true,zbr,zbo,zbq,Bool.not_eq_true',inR] at *);(repeat' apply And.intro)<;>(intros;omega)),trivial⟩ ?_
         exact congrArg C48 hR
  exact Fn.go 61 Try.func48 zax zax (by simp [C48,FrsN,nrOf,Frs,FrsL,FrsB,rowOf,cInt,cBool,cStr,cSl,zdj,zca,zcu,zce,cDyad,ziq]) (A48 m x0 x1 x2) zax (aux _ rfl)
 exact all 100 x0 x1 x2 hn hj hp om
def k48 (x0:Family) (x1:Int) (x2:Int):Cl:=(hres (C48 (zbt x0 x1 x2)),k3 (zky x0 x1 x2))
end Go.Proofs.Ytaageiiodlfeiaa
