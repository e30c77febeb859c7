import Derived.Test.YtaageiiodlfeiaaSB
set_option maxHeartbeats 4000000
set_option linter.unusedSimpArgs false
set_option linter.unusedVariables false
namespace Go.Proofs.Ytaageiiodlfeiaa
open Go Go.Lite Go.Proofs
def C104 (R:Bool):LV×List (Nat×BC):=(.bool R,[])
def zbu (x0:List Int) (x1:List Int):Bool:=loopW (fun (v1:Int) next=>bif ((decide (v1<((x0.length:Nat):Int)))&&(decide (v1<((x1.length:Nat):Int)))) then (bif (!decide ((x0.getD v1.toNat default)=(x1.getD v1.toNat default))) then (decide ((x0.getD v1.toNat default)<(x1.getD v1.toNat default))) else (next (v1+1))) else (decide (((x0.length:Nat):Int)<((x1.length:Nat):Int)))) (((x0.length:Int) - 0).toNat+1) 0
def zyw (x0:List Int) (x1:List Int) (v1:Int):Dl:=⟨[(5,.int .i64 v1)],[]⟩
def A104b1 (x0:List Int) (x1:List Int) (v1:Int):Ann:=.reg 1 [] [] [0,1,4,5,15] [] [decide (v1<((x0.length:Nat):Int))] [] [] [1,1,1,1] (cn ((decide (v1<((x0.length:Nat):Int)))&&(decide (v1<((x1.length:Nat):Int)))) (r1 1 [0,1,4,5,26] [] [pf (0≤(v1:Int)∧(v1:Int)<((x0.length:Nat):Int)),pf (0≤(v1:Int)∧(v1:Int)<((x1.length:Nat):Int))] [0,4] (cn (!decide ((x0.getD v1.toNat default)=(x1.getD v1.toNat default))) (r1 1 [0,1,4,5] [] [pf (0≤(v1:Int)∧(v1:Int)<((x0.length:Nat):Int)),pf (0≤(v1:Int)∧(v1:Int)<((x1.length:Nat):Int))] [0,4] (rt [] (C104 (decide ((x0.getD v1.toNat default)<(x1.getD v1.toNat default)))))) (r1 1 [0,1,4,5] [] [pf (inR .i64 (v1+1))] [0] (.next 0 [] (zyw x0 x1 (v1+1)))))) (r0 1 [4] [] (rt [] (C104 (decide (((x0.length:Nat):Int)<((x1.length:Nat):Int)))))))
def A104 (x0:List Int) (x1:List Int):Ann:=r0 1 [0,1,4] [] (r0 1 [0,1,4,5] [] (.loop Int (zyw x0 x1) [] [] [] (zyw x0 x1 0) (A104b1 x0 x1)))
theorem zlx (x0:List Int) (x1:List Int) (h0:x0.length≤1048576) (h1:x1.length≤1048576):FnT Try.prog 104 [.ro false 1 x0.length (rowOf (cInt .i64) x0),.ro false 1 x1.length (rowOf (cInt .i64) x1)] (C104 (zbu x0 x1)):=by
 have aux:∀ R,zbu x0 x1=R→slim (C104 R) (A104 x0 x1) []:=by
  intro R hR
  refine rg trivial ?_
  refine rg trivial ?_
  revert hR;refine lW (fun v=>0≤v∧v≤x0.length) (fun v=>((x0.length:Int) - v).toNat) zaw (Nat.lt_succ_self _) rfl fun m1 v1 F1 hI1 hM1 hR hK1=>?_
  refine rg trivial ?_
  revert hR;refine cd (fun hc1 hR=>?_) fun hc1 hR=>?_
  ·
    refine rg ⟨by (simp only [Bool.and_eq_true,decide_eq_true_eq] at hc1;(try simp only [inR]);omega),by (simp only [Bool.and_eq_true,decide_eq_true_eq] at hc1;(try simp only [inR]);omega),trivial⟩ ?_
    revert hR;refine cd (fun hc2 hR=>?_) fun hc2 hR=>?_
    ·
      refine rg ⟨by (simp only [Bool.and_eq_true,decide_eq_true_eq] at hc1;(try simp only [inR]);omega),by (simp only [Bool.and_eq_true,decide_eq_true_eq] at hc1;(try simp only [inR]);omega),trivial⟩ ?_
      exact congrArg C104 hR
    ·
      refine rg ⟨by ( intros;simp only [inR];omega),trivial⟩ ?_
      exact hK1 (v1+1) (by (simp only [Bool.and_eq_true,decide_eq_true_eq] at hc1;(try simp only [inR]);omega)) (by (simp only [Bool.and_eq_true,decide_eq_true_eq] at hc1;(try simp only [inR]);omega)) hR
  ·
    refine rg trivial ?_
    exact congrArg C104 hR
 exact Fn.go 41 Try.func104 zax zax (by simp [C104,Frs,FrsL]) (A104 x0 x1) zax (aux _ rfl)
def k104 (x0:List Int) (x1:List Int):Cl:=(hres (C104 (zbu x0 x1)),k2 (zlx x0 x1))
def OkLL (l:List (List Int)):Prop:=∀ y∈l,y.length≤1000
theorem OkLL.at {l:List (List Int)} (h:OkLL l) (i:Int):(l.getD i.toNat default).length≤1000:=by
 rw [List.getD_eq_getElem?_getD]
 cases e:l[i.toNat]? with
 | none=>exact Nat.zero_le _
 | some y=>exact h y (List.mem_of_getElem? e)
theorem OkLL.sw {l l':List (List Int)} (h:OkLL l) {a b:Int} (hs:Sw a b l l') (hab:0≤a∧b≤l.length):OkLL l':=fun c hc=>h c ((hs.perm hab.1 hab.2).mem_iff.1 hc)

def C103 (R:Bool):LV×List (Nat×BC):=(.bool R,[])
def zb3 (x0:Int) (x1:Int) (x2:List (List Int)):Bool:=zbu (x2.getD x0.toNat default) (x2.getD x1.toNat default)
def A103 (x0:Int) (x1:Int) (x2:List (List Int)):Ann:=.reg 2 [] [(1008,k104 (x2.getD x0.toNat default) (x2.getD x1.toNat default))] [5] [] [] [pf (0≤(x0:Int)∧(x0:Int)<((x2.length:Nat):Int)),pf (0≤(x1:Int)∧(x1:Int)<((x2.length:Nat):Int))] [] [0,4,8] (rt [] (C103 (zbu (x2.getD x0.toNat default) (x2.getD x1.toNat default))))
structure SrtL where

  l:List (List Int)
  deriving Inhabited
def kswL (d : Nat) (ids : List Nat) (l : List (List Int)) (i j : Int) : Cl := (.resM d ids [(900000, .nest true 1 (swp l i j).length (nrOf (cInt .i64) (swp l i j)))] (.tup []), k2 (P := FnX Try.prog 187 [.int .i64 i, .int .i64 j, .own 900000, .k Try.prog.globals.size 42] [.nest true 1 l.length (nrOf (cInt .i64) l)] (.tup []) [(900000, .nest true 1 (swp l i j).length (nrOf (cInt .i64) (swp l i j)))])
  fun hi hj=>FnX.swapN (b:=false) Try.func187 zax zax zax (by rfl) zax zax zax hi hj)
def OkL (x:SrtL):Prop:=OkLL x.l

theorem zjm (x0:Int) (x1:Int) (x2:List (List Int)) (h0:0≤x0∧x0<x2.length) (h1:0≤x1∧x1<x2.length) (hok:OkLL x2):FnT Try.prog 103 [.int .i64 x0,.int .i64 x1,.ep [.ro false 1 x2.length (rowOf (cSl false 1 (cInt .i64)) x2)] 0] (C103 (zb3 x0 x1 x2)):=by
 have aux:∀ R,zb3 x0 x1 x2=R→slim (C103 R) (A103 x0 x1 x2) []:=by
  intro R hR
  refine rg ⟨by trivial,by trivial,⟨by (have h8:=hok.at x0;have h9:=hok.at x1;omega),by (have h8:=hok.at x0;have h9:=hok.at x1;omega)⟩,trivial⟩ ?_
  exact congrArg C103 hR
 exact Fn.go 15 Try.func103 zax zax (by simp [C103,Frs,FrsL]) (A103 x0 x1 x2) zax (aux _ rfl)
def k103 (x0:Int) (x1:Int) (x2:List (List Int)):Cl:=(hres (C103 (zb3 x0 x1 x2)),k3 (zjm x0 x1 x2))
def C190L (x0:SrtL) (x1:Int) (x2:Int) (R:(List (List Int))):LV×List (Nat×BC):=(.tup [],[(900000,.nest true 1 R.length (nrOf (cInt .i64) R)),(900001,.var [.own 900000])])
def zfk (x0:SrtL) (x1:Int) (x2:Int):(List (List Int)):=loopW (fun (v1:Int×(List (List Int))) nx1=>bif (decide (v1.1<x2)) then (loopW (fun (v2:Int×(List (List Int))) next=>bif ((decide (x1<v2.1))&&(zb3 v2.1 (v2.1 - 1) v2.2)) then (next (v2.1 - 1,(swp v2.2 v2.1 (v2.1 - 1)))) else (nx1 (v1.1+1,v2.2))) ((v1.1).toNat+1) (v1.1,v1.2)) else v1.2) ((x2 - (x1+1)).toNat+1) (x1+1,x0.l)
def zty (x0:SrtL) (x1:Int) (x2:Int) (v1:Int×(List (List Int))):Dl:=⟨[(6,.int .i64 v1.1)],[(900000,.nest true 1 v1.2.length (nrOf (cInt .i64) v1.2))]⟩
def ztx (x0:SrtL) (x1:Int) (x2:Int) (v1:Int×(List (List Int))) (v2:Int×(List (List Int))):Dl:=⟨[(7,.int .i64 v2.1)],[(900000,.nest true 1 v2.2.length (nrOf (cInt .i64) v2.2))]⟩
def z2p (x0:SrtL) (x1:Int) (x2:Int) (v1:Int×(List (List Int))) (v2:Int×(List (List Int))):Ann:=.reg 1 [] [(9,cg (decide (x1<v2.1)) (k103 v2.1 (v2.1 - 1) v2.2))] [1,2,3,6,7,26] [3,900000,900001] [decide (x1<v2.1)] [gt (decide (x1<v2.1)) (pf (inR .i64 (v2.1 - 1)))] [] [1,1,0,1,1,1,4,1] (cn ((decide (x1<v2.1))&&(zb3 v2.1 (v2.1 - 1) v2.2)) (.reg 1 [] [(5,kswL 503 [900000] v2.2 v2.1 (v2.1 - 1))] [1,2,3,6,7] [3,900000,900001] [] [pf (inR .i64 (v2.1 - 1))] [] [0,4] (r1 1 [1,2,3,6,7] [3,900000,900001] [pf (inR .i64 (v2.1 - 1))] [0] (.next 0 [(900000,some 900000)] (ztx x0 x1 x2 v1 (v2.1 - 1,(swp v2.2 v2.1 (v2.1 - 1))))))) (r1 1 [1,2,3,6] [3,900000,900001] [pf (inR .i64 (v1.1+1))] [0] (.next 1 [(900000,some 900000)] (zty x0 x1 x2 (v1.1+1,v2.2)))))
def z2q (x0:SrtL) (x1:Int) (x2:Int) (v1:Int×(List (List Int))):Ann:=r0 1 [1,2,3,6,12] [3,900000,900001] (cn (decide (v1.1<x2)) (r0 1 [1,2,3,6,7] [3,900000,900001] (.loop (Int×(List (List Int))) (ztx x0 x1 x2 v1) [] [] [(900000,some 900000)] (ztx x0 x1 x2 v1 (v1.1,v1.2)) (z2p x0 x1 x2 v1))) (rt [(900000,some 900000),(900001,some 900001)] (C190L x0 x1 x2 v1.2)))
def A190L (x0:SrtL) (x1:Int) (x2:Int):Ann:=r1 2 [1,2,3,6] [3,900000,900001] [pf (inR .i64 (x1+1))] [0] (.loop (Int×(List (List Int))) (zty x0 x1 x2) [] [] [(900000,some 900000)] (zty x0 x1 x2 (x1+1,x0.l)) (z2q x0 x1 x2))
theorem zex (x0:SrtL) (x1 x2:Int) (h:0≤x1∧x1≤x2):Sw x1 x2 x0.l (zfk x0 x1 x2):=by
 unfold zfk
 refine zcj (fun v=>x1+1≤v.1∧Sw x1 x2 x0.l v.2) (fun v=>(x2 - v.1).toNat) (fun l=>Sw x1 x2 x0.l l) (fun v next hv hn=>?_) _ _ zau ⟨by simp,.refl⟩
 cases hc:decide (v.1<x2) with
 | false=>exact hv.2
 | true =>
  have hc:=of_decide_eq_true hc
  refine zcj (fun w=>(x1≤w.1∧w.1≤v.1)∧Sw x1 x2 x0.l w.2) (fun w=>w.1.toNat) (fun l=>Sw x1 x2 x0.l l) (fun w next2 hw hn2=>?_) _ _ zau ⟨by dsimp only;omega,hv.2⟩
  cases hd:decide (x1<w.1)&&zb3 w.1 (w.1 - 1) w.2 with
  | false=>exact hn _ ⟨by dsimp only;omega,hw.2⟩ zau
  | true =>
   simp only [Bool.and_eq_true,decide_eq_true_eq] at hd
   exact hn2 _ ⟨by dsimp only;omega,.step hw.2 _ _ om om⟩ zau

theorem zfy (x0:SrtL) (x1:Int) (x2:Int) (hx:x0.l.length≤255) (hok:OkL x0) (hab:0≤x1∧x1≤x2∧x2≤x0.l.length):FnMT Try.prog 190 [.agg [.clo 103 [.vp 900001 0],.clo 187 [.own 900000,.k Try.prog.globals.size 42]],.int .i64 x1,.int .i64 x2] [.nest true 1 x0.l.length (nrOf (cInt .i64) x0.l),.var [.own 900000]] (C190L x0 x1 x2 (zfk x0 x1 x2)):=by
 have aux:∀ R,zfk x0 x1 x2=R→slim (C190L x0 x1 x2 R) (A190L x0 x1 x2) []:=by
  intro R hR
  refine rg ⟨by ( intros;simp only [inR];omega),trivial⟩ ?_
  revert hR;refine lW (fun v=>x1+1≤v.1∧(Sw x1 x2 x0.l v.2∧v.2.length=x0.l.length)) (fun v=>(x2 - (v.1)).toNat) (by (((try clear hR);(try clear hK1);(try clear hK2);intros;(try simp only [w1,w2,w3,w4,w5,w6,zbs,inR,IntKind.bits] at *));refine ⟨om,?_,trivial⟩;((repeat first | refine Sw.step ?_ _ _ om om)<;>first | exact hI2.2.1 | exact hI1.2.1 | exact Sw.refl | exact hI2.2.1.mono om om | exact hI1.2.1.mono om om))) (Nat.lt_succ_self _) rfl fun m1 v1 F1 hI1 hM1 hR hK1=>?_
  refine rg trivial ?_
  revert hR;refine cd (fun hc1 hR=>?_) fun hc1 hR=>?_
  ·
    refine rg trivial ?_
    revert hR;refine lW (fun v=>(x1≤v.1∧v.1≤v1.1)∧(Sw x1 x2 x0.l v.2∧v.2.length=x0.l.length)) (fun v=>(v.1).toNat) (by (((try clear hR);(try clear hK1);(try clear hK2);intros;(try simp only [w1,w2,w3,w4,w5,w6,zbs,inR,IntKind.bits] at *));refine ⟨om,Sw.both ?_⟩;((repeat first | refine Sw.step ?_ _ _ om om)<;>first | exact hI2.2.1 | exact hI1.2.1 | exact Sw.refl | exact hI2.2.1.mono om om | exact hI1.2.1.mono om om))) (Nat.lt_succ_self _) rfl fun m2 v2 F2 hI2 hM2 hR hK2=>?_
    refine rg ⟨by (((try clear hR);(try clear hK1);(try clear hK2);intros;(try simp only [w1,w2,w3,w4,w5,w6,zbs,inR,IntKind.bits] at *));omega),fun hg0=>⟨by (((try clear hR);(try clear hK1);(try clear hK2);intros;(try simp only [w1,w2,w3,w4,w5,w6,zbs,inR,IntKind.bits] at *));omega),by (((try clear hR);(try clear hK1);(try clear hK2);intros;(try simp only [w1,w2,w3,w4,w5,w6,zbs,inR,IntKind.bits] at *));omega),by (exact OkLL.sw (a:=0) (b:=x0.l.length) hok (by ((try clear hR);(try clear hK1);(try clear hK2);intros;(try simp only [w1,w2,w3,w4,w5,w6,zbs,inR,IntKind.bits] at *));((repeat first | refine Sw.step ?_ _ _ om om)<;>first | exact hI2.2.1 | exact hI1.2.1 | exact Sw.refl | exact hI2.2.1.mono om om | exact hI1.2.1.mono om om)) ⟨om,om⟩)⟩,trivial⟩ ?_
    revert hR;refine cd (fun hc2 hR=>?_) fun hc2 hR=>?_
    ·
      refine rg ⟨by (((try clear hR);(try clear hK1);(try clear hK2);intros;(try simp only [w1,w2,w3,w4,w5,w6,zbs,inR,IntKind.bits] at *));omega),⟨by (((try clear hR);(try clear hK1);(try clear hK2);intros;(try simp only [w1,w2,w3,w4,w5,w6,zbs,inR,IntKind.bits] at *));omega),by (((try clear hR);(try clear hK1);(try clear hK2);intros;(try simp only [w1,w2,w3,w4,w5,w6,zbs,inR,IntKind.bits] at *));omega)⟩,trivial⟩ ?_
      refine rg ⟨by (((try clear hR);(try clear hK1);(try clear hK2);intros;(try simp only [w1,w2,w3,w4,w5,w6,zbs,inR,IntKind.bits] at *));omega),trivial⟩ ?_
      exact hK2 (v2.1 - 1,(swp v2.2 v2.1 (v2.1 - 1))) (by (((try clear hR);(try clear hK1);(try clear hK2);intros;(try simp only [w1,w2,w3,w4,w5,w6,zbs,inR,IntKind.bits] at *));(repeat' apply And.intro)<;>first | omega | ((repeat first | refine Sw.step ?_ _ _ om om)<;>first | exact hI2.2.1 | exact hI1.2.1 | exact Sw.refl | exact hI2.2.1.mono om om | exact hI1.2.1.mono om om))) zaq hR
    ·
      refine rg ⟨by (((try clear hR);(try clear hK1);(try clear hK2);intros;(try simp only [w1,w2,w3,w4,w5,w6,zbs,inR,IntKind.bits] at *));omega),trivial⟩ ?_
      exact hK1 (v1.1+1,v2.2) (by (((try clear hR);(try clear hK1);(try clear hK2);intros;(try simp only [w1,w2,w3,w4,w5,w6,zbs,inR,IntKind.bits] at *));refine ⟨om,Sw.both ?_⟩;((repeat first | refine Sw.step ?_ _ _ om om)<;>first | exact hI2.2.1 | exact hI1.2.1 | exact Sw.refl | exact hI2.2.1.mono om om | exact hI1.2.1.mono om om))) zaq hR
  ·
    exact congrArg (C190L x0 x1 x2) hR
 exact FnM.go 35 Try.func190 zax zax (A190L x0 x1 x2) zax (aux _ rfl)
def k190L (d:Nat) (ids:List Nat) (x0:SrtL) (x1:Int) (x2:Int):Cl:=(hresM d ids (C190L x0 x1 x2 (zfk x0 x1 x2)),k3 (zfy x0 x1 x2))
def C212L (x0:SrtL) (x1:Int) (x2:Int) (x3:Int) (R:(List (List Int))):LV×List (Nat×BC):=(.tup [],[(900000,.nest true 1 R.length (nrOf (cInt .i64) R)),(900001,.var [.own 900000])])
def zdm (x0:SrtL) (x1:Int) (x2:Int) (x3:Int):(List (List Int)):=loopW (fun (v1:Int×(List (List Int))) next=>bif (decide (x2≤((2 * v1.1)+1))) then v1.2 else (bif ((decide ((((2 * v1.1)+1)+1)<x2))&&(zb3 (x3+((2 * v1.1)+1)) ((x3+((2 * v1.1)+1))+1) v1.2)) then (bif (!(zb3 (x3+v1.1) (x3+(((2 * v1.1)+1)+1)) v1.2)) then v1.2 else (next (((2 * v1.1)+1)+1,(swp v1.2 (x3+v1.1) (x3+(((2 * v1.1)+1)+1)))))) else (bif (!(zb3 (x3+v1.1) (x3+((2 * v1.1)+1)) v1.2)) then v1.2 else (next ((2 * v1.1)+1,(swp v1.2 (x3+v1.1) (x3+((2 * v1.1)+1)))))))) ((x2+255 - (x1)).toNat+1) (x1,x0.l)
def zqn (x0:SrtL) (x1:Int) (x2:Int) (x3:Int) (v1:Int×(List (List Int))):Dl:=⟨[(8,.int .i64 v1.1)],[(900000,.nest true 1 v1.2.length (nrOf (cInt .i64) v1.2))]⟩
def z13 (x0:SrtL) (x1:Int) (x2:Int) (x3:Int) (v1:Int×(List (List Int))):Ann:=r1 1 [2,3,4,8,9] [4,900000,900001] [pf (inR .i64 (2 * v1.1)),pf (inR .i64 ((2 * v1.1)+1))] [0,4] (r0 1 [2,3,4,8,9,16] [4,900000,900001] (cn (decide (x2≤((2 * v1.1)+1))) (rt [(900000,some 900000),(900001,some 900001)] (C212L x0 x1 x2 x3 v1.2)) (.reg 1 [] [(14,cg (decide ((((2 * v1.1)+1)+1)<x2)) (k103 (x3+((2 * v1.1)+1)) ((x3+((2 * v1.1)+1))+1) v1.2))] [2,3,4,8,9,32] [4,900000,900001] [decide ((((2 * v1.1)+1)+1)<x2)] [pf (inR .i64 (((2 * v1.1)+1)+1)),gt (decide ((((2 * v1.1)+1)+1)<x2)) (pf (inR .i64 (x3+((2 * v1.1)+1)))),gt (decide ((((2 * v1.1)+1)+1)<x2)) (pf (inR .i64 ((x3+((2 * v1.1)+1))+1)))] [] [0,1,1,1,4,1,1,4,1,8,1,1,1,12,1] (cn ((decide ((((2 * v1.1)+1)+1)<x2))&&(zb3 (x3+((2 * v1.1)+1)) ((x3+((2 * v1.1)+1))+1) v1.2)) (r1 1 [2,3,4,8,9] [4,900000,900001] [pf (inR .i64 (((2 * v1.1)+1)+1))] [0] (.reg 1 [] [(8,k103 (x3+v1.1) (x3+(((2 * v1.1)+1)+1)) v1.2)] [2,3,4,8,9,44] [4,900000,900001] [] [pf (inR .i64 (x3+v1.1)),pf (inR .i64 (x3+(((2 * v1.1)+1)+1)))] [] [0,4,8] (cn (!(zb3 (x3+v1.1) (x3+(((2 * v1.1)+1)+1)) v1.2)) (rt [(900000,some 900000),(900001,some 900001)] (C212L x0 x1 x2 x3 v1.2)) (.reg 1 [] [(8,kswL 503 [900000] v1.2 (x3+v1.1) (x3+(((2 * v1.1)+1)+1)))] [2,3,4,8,9] [4,900000,900001] [] [pf (inR .i64 (x3+v1.1)),pf (inR .i64 (x3+(((2 * v1.1)+1)+1)))] [] [0,4,8] (r0 1 [2,3,4,8] [4,900000,900001] (.next 0 [(900000,some 900000)] (zqn x0 x1 x2 x3 (((2 * v1.1)+1)+1,(swp v1.2 (x3+v1.1) (x3+(((2 * v1.1)+1)+1))))))))))) (.reg 1 [] [(8,k103 (x3+v1.1) (x3+((2 * v1.1)+1)) v1.2)] [2,3,4,8,9,44] [4,900000,900001] [] [pf (inR .i64 (x3+v1.1)),pf (inR .i64 (x3+((2 * v1.1)+1)))] [] [0,4,8] (cn (!(zb3 (x3+v1.1) (x3+((2 * v1.1)+1)) v1.2)) (rt [(900000,some 900000),(900001,some 900001)] (C212L x0 x1 x2 x3 v1.2)) (.reg 1 [] [(8,kswL 503 [900000] v1.2 (x3+v1.1) (x3+((2 * v1.1)+1)))] [2,3,4,8,9] [4,900000,900001] [] [pf (inR .i64 (x3+v1.1)),pf (inR .i64 (x3+((2 * v1.1)+1)))] [] [0,4,8] (r0 1 [2,3,4,8] [4,900000,900001] (.next 0 [(900000,some 900000)] (zqn x0 x1 x2 x3 ((2 * v1.1)+1,(swp v1.2 (x3+v1.1) (x3+((2 * v1.1)+1))))))))))))))
def A212L (x0:SrtL) (x1:Int) (x2:Int) (x3:Int):Ann:=r0 2 [2,3,4,8] [4,900000,900001] (.loop (Int×(List (List Int))) (zqn x0 x1 x2 x3) [] [] [(900000,some 900000)] (zqn x0 x1 x2 x3 (x1,x0.l)) (z13 x0 x1 x2 x3))
theorem zd2 (x0:SrtL) (x1 x2 x3:Int) (h:0≤x1):Sw (x3+x1) (x3+x2) x0.l (zdm x0 x1 x2 x3):=by
 unfold zdm
 refine zcj (fun v=>x1≤v.1∧Sw (x3+x1) (x3+x2) x0.l v.2) (fun v=>(x2+255 - v.1).toNat) (fun l=>Sw (x3+x1) (x3+x2) x0.l l) (fun v next hv hn=>?_) _ _ zau ⟨by simp,.refl⟩
 cases hc:decide (x2≤2 * v.1+1) with
 | true=>exact hv.2
 | false =>
  simp only [decide_eq_false_iff_not] at hc
  cases hd:(decide (2 * v.1+1+1<x2))&&(zb3 (x3+(2 * v.1+1)) ((x3+(2 * v.1+1))+1) v.2) with
  | true =>
   simp only [Bool.and_eq_true,decide_eq_true_eq] at hd
   cases he:!(zb3 (x3+v.1) (x3+(2 * v.1+1+1)) v.2) with
   | true=>exact hv.2
   | false=>exact hn _ ⟨by dsimp only;omega,.step hv.2 _ _ om om⟩ zau
  | false =>
   cases he:!(zb3 (x3+v.1) (x3+(2 * v.1+1)) v.2) with
   | true=>exact hv.2
   | false=>exact hn _ ⟨by dsimp only;omega,.step hv.2 _ _ om om⟩ zau

theorem zhq (x0:SrtL) (x1:Int) (x2:Int) (x3:Int) (hx:x0.l.length≤255) (hok:OkL x0) (hab:0≤x1∧0≤x3∧0≤x2∧x3+x2≤x0.l.length∧x1≤255):FnMT Try.prog 212 [.agg [.clo 103 [.vp 900001 0],.clo 187 [.own 900000,.k Try.prog.globals.size 42]],.int .i64 x1,.int .i64 x2,.int .i64 x3] [.nest true 1 x0.l.length (nrOf (cInt .i64) x0.l),.var [.own 900000]] (C212L x0 x1 x2 x3 (zdm x0 x1 x2 x3)):=by
 have aux:∀ R,zdm x0 x1 x2 x3=R→slim (C212L x0 x1 x2 x3 R) (A212L x0 x1 x2 x3) []:=by
  intro R hR
  refine rg trivial ?_
  revert hR;refine lW (fun v=>(x1≤v.1∧v.1≤255)∧(Sw (x3+x1) (x3+x2) x0.l v.2∧v.2.length=x0.l.length)) (fun v=>(x2+255 - (v.1)).toNat) zai (Nat.lt_succ_self _) rfl fun m1 v1 F1 hI1 hM1 hR hK1=>?_
  refine rg ⟨by ( intros;simp only [inR];omega),by ( intros;simp only [inR];omega),trivial⟩ ?_
  refine rg trivial ?_
  revert hR;refine cd (fun hc1 hR=>?_) fun hc1 hR=>?_
  ·
    exact congrArg (C212L x0 x1 x2 x3) hR
  ·
    refine rg ⟨by ( intros;simp only [inR];omega),by ( intros;simp only [inR];omega),by ( intros;simp only [inR];omega),fun hg0=>⟨by (((try clear hR);(try clear hK1);intros;(try simp only [w1,w2,w3,w4,w5,w6,zbs,inR,IntKind.bits] at *));omega),by (((try clear hR);(try clear hK1);intros;(try simp only [w1,w2,w3,w4,w5,w6,zbs,inR,IntKind.bits] at *));omega),by (exact OkLL.sw (a:=0) (b:=x0.l.length) hok zak ⟨om,om⟩)⟩,trivial⟩ ?_
    revert hR;refine cd (fun hc2 hR=>?_) fun hc2 hR=>?_
    ·
      refine rg ⟨by ( intros;simp only [inR];omega),trivial⟩ ?_
      refine rg ⟨by ( intros;simp only [inR];omega),by ( intros;simp only [inR];omega),⟨by (((try clear hR);(try clear hK1);intros;(try simp only [w1,w2,w3,w4,w5,w6,zbs,inR,IntKind.bits] at *));omega),by (((try clear hR);(try clear hK1);intros;(try simp only [w1,w2,w3,w4,w5,w6,zbs,inR,IntKind.bits] at *));omega),by (exact OkLL.sw (a:=0) (b:=x0.l.length) hok zak ⟨om,om⟩)⟩,trivial⟩ ?_
      revert hR;refine cd (fun hc3 hR=>?_) fun hc3 hR=>?_
      ·
        exact congrArg (C212L x0 x1 x2 x3) hR
      ·
        refine rg ⟨by ( intros;simp only [inR];omega),by ( intros;simp only [inR];omega),⟨by (((try clear hR);(try clear hK1);intros;(try simp only [w1,w2,w3,w4,w5,w6,zbs,inR,IntKind.bits] at *));omega),by (((try clear hR);(try clear hK1);intros;(try simp only [w1,w2,w3,w4,w5,w6,zbs,inR,IntKind.bits] at *));omega)⟩,trivial⟩ ?_
        refine rg trivial ?_
        exact hK1 (((2 * v1.1)+1)+1,(swp v1.2 (x3+v1.1) (x3+(((2 * v1.1)+1)+1)))) zah zar hR
    ·
      refine rg ⟨by ( intros;simp only [inR];omega),by ( intros;simp only [inR];omega),⟨by (((try clear hR);(try clear hK1);intros;(try simp only [w1,w2,w3,w4,w5,w6,zbs,inR,IntKind.bits] at *));omega),by (((try clear hR);(try clear hK1);intros;(try simp only [w1,w2,w3,w4,w5,w6,zbs,inR,IntKind.bits] at *));omega),by (exact OkLL.sw (a:=0) (b:=x0.l.length) hok zak ⟨om,om⟩)⟩,trivial⟩ ?_
      revert hR;refine cd (fun hc4 hR=>?_) fun hc4 hR=>?_
      ·
        exact congrArg (C212L x0 x1 x2 x3) hR
      ·
        refine rg ⟨by ( intros;simp only [inR];omega),by ( intros;simp only [inR];omega),⟨by (((try clear hR);(try clear hK1);intros;(try simp only [w1,w2,w3,w4,w5,w6,zbs,inR,IntKind.bits] at *));omega),by (((try clear hR);(try clear hK1);intros;(try simp only [w1,w2,w3,w4,w5,w6,zbs,inR,IntKind.bits] at *));omega)⟩,trivial⟩ ?_
        refine rg trivial ?_
        exact hK1 ((2 * v1.1)+1,(swp v1.2 (x3+v1.1) (x3+((2 * v1.1)+1)))) zah zar hR
 exact FnM.go 55 Try.func212 zax zax (A212L x0 x1 x2 x3) zax (aux _ rfl)
def k212L (d:Nat) (ids:List Nat) (x0:SrtL) (x1:Int) (x2:Int) (x3:Int):Cl:=(hresM d ids (C212L x0 x1 x2 x3 (zdm x0 x1 x2 x3)),k3 (zhq x0 x1 x2 x3))
def C191L (x0:SrtL) (x1:Int) (x2:Int) (R:(List (List Int))):LV×List (Nat×BC):=(.tup [],[(900000,.nest true 1 R.length (nrOf (cInt .i64) R)),(900001,.var [.own 900000])])
def zeo (x0:SrtL) (x1:Int) (x2:Int):(List (List Int)):=loopW (fun (v1:Int×(List (List Int))) next=>bif (decide (0≤v1.1)) then (next (v1.1 - 1,zdm (SrtL.mk v1.2) v1.1 (x2 - x1) x1)) else (loopW (fun (v2:Int×(List (List Int))) next=>bif (decide (0≤v2.1)) then (next (v2.1 - 1,zdm (SrtL.mk (swp v2.2 x1 (x1+v2.1))) 0 v2.1 x1)) else v2.2) (((x2 - x1) - 1+1).toNat+1) ((x2 - x1) - 1,v1.2))) ((((x2 - x1) - 1).tdiv 2+1).toNat+1) (((x2 - x1) - 1).tdiv 2,x0.l)
def ztw (x0:SrtL) (x1:Int) (x2:Int) (v1:Int×(List (List Int))):Dl:=⟨[(9,.int .i64 v1.1)],[(900000,.nest true 1 v1.2.length (nrOf (cInt .i64) v1.2))]⟩
def ztv (x0:SrtL) (x1:Int) (x2:Int) (v1:Int×(List (List Int))) (v2:Int×(List (List Int))):Dl:=⟨[(10,.int .i64 v2.1)],[(900000,.nest true 1 v2.2.length (nrOf (cInt .i64) v2.2))]⟩
def z2m (x0:SrtL) (x1:Int) (x2:Int) (v1:Int×(List (List Int))) (v2:Int×(List (List Int))):Ann:=r0 1 [3,6,7,10,30] [3,900000,900001] (cn (decide (0≤v2.1)) (.reg 1 [] [(6,kswL 503 [900000] v2.2 x1 (x1+v2.1))] [3,6,7,10] [3,900000,900001] [] [pf (inR .i64 (x1+v2.1))] [] [0,4] (.reg 1 [] [(4,k212L 44 [900000,900001] (SrtL.mk (swp v2.2 x1 (x1+v2.1))) 0 v2.1 x1)] [3,6,7,10] [3,900000,900001] [] [] [] [0] (r1 1 [3,6,7,10] [3,900000,900001] [pf (inR .i64 (v2.1 - 1))] [0] (.next 0 [(900000,some 900000)] (ztv x0 x1 x2 v1 (v2.1 - 1,zdm (SrtL.mk (swp v2.2 x1 (x1+v2.1))) 0 v2.1 x1)))))) (rt [(900000,some 900000),(900001,some 900001)] (C191L x0 x1 x2 v2.2)))
def z2n (x0:SrtL) (x1:Int) (x2:Int) (v1:Int×(List (List Int))):Ann:=r0 1 [3,6,7,8,9,19] [3,900000,900001] (cn (decide (0≤v1.1)) (.reg 1 [] [(4,k212L 26 [900000,900001] (SrtL.mk v1.2) v1.1 (x2 - x1) x1)] [3,6,7,8,9] [3,900000,900001] [] [] [] [0] (r1 1 [3,6,7,8,9] [3,900000,900001] [pf (inR .i64 (v1.1 - 1))] [0] (.next 0 [(900000,some 900000)] (ztw x0 x1 x2 (v1.1 - 1,zdm (SrtL.mk v1.2) v1.1 (x2 - x1) x1))))) (r1 1 [3,6,7,10] [3,900000,900001] [pf (inR .i64 ((x2 - x1) - 1))] [0] (.loop (Int×(List (List Int))) (ztv x0 x1 x2 v1) [] [] [(900000,some 900000)] (ztv x0 x1 x2 v1 ((x2 - x1) - 1,v1.2)) (z2m x0 x1 x2 v1))))
def A191L (x0:SrtL) (x1:Int) (x2:Int):Ann:=r1 4 [3,6,7,8] [3,900000,900001] [pf (inR .i64 (x2 - x1))] [0] (r1 1 [3,6,7,8,9] [3,900000,900001] [pf (inR .i64 ((x2 - x1) - 1)),pf ((2:Int)≠0),pf (inR .i64 (((x2 - x1) - 1).tdiv 2))] [0,4,8] (.loop (Int×(List (List Int))) (ztw x0 x1 x2) [] [] [(900000,some 900000)] (ztw x0 x1 x2 (((x2 - x1) - 1).tdiv 2,x0.l)) (z2n x0 x1 x2)))
theorem zee (x0:SrtL) (x1 x2:Int) (h:0≤x1∧x1≤x2):Sw x1 x2 x0.l (zeo x0 x1 x2):=by
 unfold zeo
 refine zcj (fun v=>Sw x1 x2 x0.l v.2) (fun v=>(v.1+1).toNat) (fun l=>Sw x1 x2 x0.l l) (fun v next hv hn=>?_) _ _ zau .refl
 cases hc:decide (0≤v.1) with
 | true =>
  simp only [decide_eq_true_eq] at hc
  exact hn _ (Sw.via (zd2 _ _ _ _ hc) hv om om) zau
 | false =>
  refine zcj (fun v=>v.1<x2 - x1∧Sw x1 x2 x0.l v.2) (fun v=>(v.1+1).toNat) (fun l=>Sw x1 x2 x0.l l) (fun v next hv hn=>?_) _ _ zau ⟨by dsimp only;omega,hv⟩
  cases hc:decide (0≤v.1) with
  | true =>
   simp only [decide_eq_true_eq] at hc
   exact hn _ ⟨by dsimp only;omega,Sw.via (zd2 _ _ _ _ om) (.step hv.2 _ _ om om) om om⟩ zau
  | false=>exact hv.2

theorem zhr (x0:SrtL) (x1:Int) (x2:Int) (hx:x0.l.length≤255) (hok:OkL x0) (hab:0≤x1∧x1≤x2∧x2≤x0.l.length):FnMT Try.prog 191 [.agg [.clo 103 [.vp 900001 0],.clo 187 [.own 900000,.k Try.prog.globals.size 42]],.int .i64 x1,.int .i64 x2] [.nest true 1 x0.l.length (nrOf (cInt .i64) x0.l),.var [.own 900000]] (C191L x0 x1 x2 (zeo x0 x1 x2)):=by
 have aux:∀ R,zeo x0 x1 x2=R→slim (C191L x0 x1 x2 R) (A191L x0 x1 x2) []:=by
  intro R hR
  refine rg ⟨by ( intros;simp only [inR];omega),trivial⟩ ?_
  refine rg ⟨by ( intros;simp only [inR];omega),by trivial,by (have h9:=tdiv2 (x2 - x1 - 1) om;((try clear hR);(try clear hK1);(try clear hK2);intros;(try simp only [w1,w2,w3,w4,w5,w6,zbs,inR,IntKind.bits] at *));omega),trivial⟩ ?_
  revert hR;refine lW (fun v=>(-1≤v.1∧v.1<x2 - x1+1)∧(Sw x1 x2 x0.l v.2∧v.2.length=x0.l.length)) (fun v=>(v.1+1).toNat) (by (have h9:=tdiv2 (x2 - x1 - 1) om;((try clear hR);(try clear hK1);(try clear hK2);intros;(try simp only [w1,w2,w3,w4,w5,w6,zbs,inR,IntKind.bits] at *));refine ⟨om,?_,trivial⟩;((repeat first | refine Sw.step ?_ _ _ om om | refine Sw.via (zd2 _ _ _ _ zat) ?_ zat zat)<;>first | exact hI2.2.1 | exact hI1.2.1 | exact Sw.refl | exact hI2.2.1.mono om om | exact hI1.2.1.mono om om))) (Nat.lt_succ_self _) rfl fun m1 v1 F1 hI1 hM1 hR hK1=>?_
  refine rg trivial ?_
  revert hR;refine cd (fun hc1 hR=>?_) fun hc1 hR=>?_
  ·
    refine rg ⟨⟨by ( intros;simp only [inR];omega),by (exact OkLL.sw (a:=0) (b:=x0.l.length) hok (by ((try clear hR);(try clear hK1);(try clear hK2);intros;(try simp only [w1,w2,w3,w4,w5,w6,zbs,inR,IntKind.bits] at *));((repeat first | refine Sw.step ?_ _ _ om om | refine Sw.via (zd2 _ _ _ _ zat) ?_ zat zat)<;>first | exact hI2.2.1 | exact hI1.2.1 | exact Sw.refl | exact hI2.2.1.mono om om | exact hI1.2.1.mono om om)) ⟨om,om⟩),by (((try clear hR);(try clear hK1);(try clear hK2);intros;(try simp only [w1,w2,w3,w4,w5,w6,zbs,inR,IntKind.bits] at *));omega)⟩,trivial⟩ ?_
    refine rg ⟨by ( intros;simp only [inR];omega),trivial⟩ ?_
    exact hK1 (v1.1 - 1,zdm (SrtL.mk v1.2) v1.1 (x2 - x1) x1) zad zaq hR
  ·
    refine rg ⟨by ( intros;simp only [inR];omega),trivial⟩ ?_
    revert hR;refine lW (fun v=>(-1≤v.1∧v.1<x2 - x1)∧(Sw x1 x2 x0.l v.2∧v.2.length=x0.l.length)) (fun v=>(v.1+1).toNat) zad (Nat.lt_succ_self _) rfl fun m2 v2 F2 hI2 hM2 hR hK2=>?_
    refine rg trivial ?_
    revert hR;refine cd (fun hc2 hR=>?_) fun hc2 hR=>?_
    ·
      refine rg ⟨by ( intros;simp only [inR];omega),⟨by (((try clear hR);(try clear hK1);(try clear hK2);intros;(try simp only [w1,w2,w3,w4,w5,w6,zbs,inR,IntKind.bits] at *));omega),by (((try clear hR);(try clear hK1);(try clear hK2);intros;(try simp only [w1,w2,w3,w4,w5,w6,zbs,inR,IntKind.bits] at *));omega)⟩,trivial⟩ ?_
      refine rg ⟨⟨by (((try clear hR);(try clear hK1);(try clear hK2);intros;(try simp only [w1,w2,w3,w4,w5,w6,zbs,inR,IntKind.bits] at *));omega),by (exact OkLL.sw (a:=0) (b:=x0.l.length) hok (by ((try clear hR);(try clear hK1);(try clear hK2);intros;(try simp only [w1,w2,w3,w4,w5,w6,zbs,inR,IntKind.bits] at *));((repeat first | refine Sw.step ?_ _ _ om om | refine Sw.via (zd2 _ _ _ _ zat) ?_ zat zat)<;>first | exact hI2.2.1 | exact hI1.2.1 | exact Sw.refl | exact hI2.2.1.mono om om | exact hI1.2.1.mono om om)) ⟨om,om⟩),by (((try clear hR);(try clear hK1);(try clear hK2);intros;(try simp only [w1,w2,w3,w4,w5,w6,zbs,inR,IntKind.bits] at *));omega)⟩,trivial⟩ ?_
      refine rg ⟨by ( intros;simp only [inR];omega),trivial⟩ ?_
      exact hK2 (v2.1 - 1,zdm (SrtL.mk (swp v2.2 x1 (x1+v2.1))) 0 v2.1 x1) zad zaq hR
    ·
      exact congrArg (C191L x0 x1 x2) hR
 exact FnM.go 45 Try.func191 zax zax (A191L x0 x1 x2) zax (aux _ rfl)
def k191L (d:Nat) (ids:List Nat) (x0:SrtL) (x1:Int) (x2:Int):Cl:=(hresM d ids (C191L x0 x1 x2 (zeo x0 x1 x2)),k3 (zhr x0 x1 x2))
end Go.Proofs.Ytaageiiodlfeiaa
