import Derived.Test.YtkkijpibajigfaaSB
set_option maxHeartbeats 4000000
set_option linter.unusedSimpArgs false
set_option linter.unusedVariables false
namespace Go.Proofs.Ytkkijpibajigfaa
open Go Go.Lite Go.Proofs
def C111 (R:Bool):LV×List (Nat×BC):=(.bool R,[])
def lessInts (x0:List Int) (x1:List Int):Bool:=loopW (fun (v1:Int) next=>bif ((decide (v1<((x0.length:Nat):Int))) && (decide (v1<((x1.length:Nat):Int)))) then (bif (!decide ((x0.getD v1.toNat default)=(x1.getD v1.toNat default))) then (decide ((x0.getD v1.toNat default)<(x1.getD v1.toNat default))) else (next (v1+1))) else (decide (((x0.length:Nat):Int)<((x1.length:Nat):Int)))) (((x0.length:Int) - 0).toNat+1) 0
def D111b1 (x0:List Int) (x1:List Int) (v1:Int):Dl:=⟨[(5,.int .i64 v1)],[]⟩
def A111b1 (x0:List Int) (x1:List Int) (v1:Int):Ann:=.reg 1 [] [] [0,1,4,5,15] [] [decide (v1<((x0.length:Nat):Int))] [] [] [1,1,1,1] (cn ((decide (v1<((x0.length:Nat):Int))) && (decide (v1<((x1.length:Nat):Int)))) (r1 1 [0,1,4,5,26] [] [pf (0≤(v1:Int)∧(v1:Int)<((x0.length:Nat):Int)),pf (0≤(v1:Int)∧(v1:Int)<((x1.length:Nat):Int))] [0,4] (cn (!decide ((x0.getD v1.toNat default)=(x1.getD v1.toNat default))) (r1 1 [0,1,4,5] [] [pf (0≤(v1:Int)∧(v1:Int)<((x0.length:Nat):Int)),pf (0≤(v1:Int)∧(v1:Int)<((x1.length:Nat):Int))] [0,4] (rt [] (C111 (decide ((x0.getD v1.toNat default)<(x1.getD v1.toNat default)))))) (r1 1 [0,1,4,5] [] [pf (inR .i64 (v1+1))] [0] (.next 0 [] (D111b1 x0 x1 (v1+1)))))) (r0 1 [4] [] (rt [] (C111 (decide (((x0.length:Nat):Int)<((x1.length:Nat):Int)))))))
def A111 (x0:List Int) (x1:List Int):Ann:=r0 1 [0,1,4] [] (r0 1 [0,1,4,5] [] (.loop Int (D111b1 x0 x1) [] [] [] (D111b1 x0 x1 0) (A111b1 x0 x1)))
theorem ok_impl_lessInts (x0:List Int) (x1:List Int) (h0:x0.length≤1048576) (h1:x1.length≤1048576):FnT Try.prog 111 [.ro false 1 x0.length (rowOf (cInt .i64) x0),.ro false 1 x1.length (rowOf (cInt .i64) x1)] (C111 (lessInts x0 x1)):=by
 have aux:∀ R,lessInts x0 x1=R→slim (C111 R) (A111 x0 x1) []:=by
  intro R hR
  refine rg trivial ?_
  refine rg trivial ?_
  revert hR;refine lW (fun v=>0≤v∧v≤x0.length) (fun v=>((x0.length:Int) - v).toNat) (by (intros;omega)) (Nat.lt_succ_self _) rfl fun m1 v1 F1 hI1 hM1 hR hK1=>?_
  refine rg trivial ?_
  revert hR;refine cd (fun hc1 hR=>?_) fun hc1 hR=>?_
  ·
    refine rg ⟨by (simp only [Bool.and_eq_true,decide_eq_true_eq] at hc1;(try simp only [inR]);omega),by (simp only [Bool.and_eq_true,decide_eq_true_eq] at hc1;(try simp only [inR]);omega),trivial⟩ ?_
    revert hR;refine cd (fun hc2 hR=>?_) fun hc2 hR=>?_
    ·
      refine rg ⟨by (simp only [Bool.and_eq_true,decide_eq_true_eq] at hc1;(try simp only [inR]);omega),by (simp only [Bool.and_eq_true,decide_eq_true_eq] at hc1;(try simp only [inR]);omega),trivial⟩ ?_
      exact congrArg C111 hR
    ·
      refine rg ⟨by ( intros;simp only [inR];omega),trivial⟩ ?_
      exact hK1 (v1+1) (by (simp only [Bool.and_eq_true,decide_eq_true_eq] at hc1;(try simp only [inR]);omega)) (by (simp only [Bool.and_eq_true,decide_eq_true_eq] at hc1;(try simp only [inR]);omega)) hR
  ·
    refine rg trivial ?_
    exact congrArg C111 hR
 exact Fn.go 41 Try.func111 (by kernel_rfl) (by kernel_rfl) (by simp [C111,Frs,FrsL]) (A111 x0 x1) (by kernel_rfl) (aux _ rfl)
def k111 (x0:List Int) (x1:List Int):Cl:=(hres (C111 (lessInts x0 x1)),k2 (ok_impl_lessInts x0 x1))
def OkLL (l:List (List Int)):Prop:=∀ y ∈ l,y.length≤1000
theorem OkLL.at {l:List (List Int)} (h:OkLL l) (i:Int):(l.getD i.toNat default).length≤1000:=by
 rw [List.getD_eq_getElem?_getD]
 cases e:l[i.toNat]? with
 | none=>exact Nat.zero_le _
 | some y=>exact h y (List.mem_of_getElem? e)
theorem OkLL.sw {l l':List (List Int)} (h:OkLL l) {a b:Int} (hs:Sw a b l l') (hab:0≤a∧b≤l.length):OkLL l':=fun c hc=>h c ((hs.perm hab.1 hab.2).mem_iff.1 hc)

def C110 (R:Bool):LV×List (Nat×BC):=(.bool R,[])
def lineLess (x0:Int) (x1:Int) (x2:List (List Int)):Bool:=lessInts (x2.getD x0.toNat default) (x2.getD x1.toNat default)
def A110 (x0:Int) (x1:Int) (x2:List (List Int)):Ann:=.reg 2 [] [(1008,k111 (x2.getD x0.toNat default) (x2.getD x1.toNat default))] [5] [] [] [pf (0≤(x0:Int)∧(x0:Int)<((x2.length:Nat):Int)),pf (0≤(x1:Int)∧(x1:Int)<((x2.length:Nat):Int))] [] [0,4,8] (rt [] (C110 (lessInts (x2.getD x0.toNat default) (x2.getD x1.toNat default))))
structure SrtL where

  l:List (List Int)
  deriving Inhabited
def kswL (d : Nat) (ids : List Nat) (l : List (List Int)) (i j : Int) : Cl := (.resM d ids [(900000, .nest true 1 (swp l i j).length (nrOf (cInt .i64) (swp l i j)))] (.tup []), k2 (P := FnX Try.prog 151 [.int .i64 i, .int .i64 j, .own 900000, .k Try.prog.globals.size 47] [.nest true 1 l.length (nrOf (cInt .i64) l)] (.tup []) [(900000, .nest true 1 (swp l i j).length (nrOf (cInt .i64) (swp l i j)))])
  fun hi hj=>FnX.swapN (b:=false) Try.func151 (by kernel_rfl) (by kernel_rfl) (by kernel_rfl) (by rfl) (by kernel_rfl) (by kernel_rfl) (by kernel_rfl) hi hj)
def OkL (x:SrtL):Prop:=OkLL x.l

theorem ok_impl_linesDown_1 (x0:Int) (x1:Int) (x2:List (List Int)) (h0:0≤x0∧x0<x2.length) (h1:0≤x1∧x1<x2.length) (hok:OkLL x2):FnT Try.prog 110 [.int .i64 x0,.int .i64 x1,.ep [.ro false 1 x2.length (rowOf (cSl false 1 (cInt .i64)) x2)] 0] (C110 (lineLess x0 x1 x2)):=by
 have aux:∀ R,lineLess x0 x1 x2=R→slim (C110 R) (A110 x0 x1 x2) []:=by
  intro R hR
  refine rg ⟨by trivial,by trivial,⟨by (have h8:=hok.at x0;have h9:=hok.at x1;omega),by (have h8:=hok.at x0;have h9:=hok.at x1;omega)⟩,trivial⟩ ?_
  exact congrArg C110 hR
 exact Fn.go 15 Try.func110 (by kernel_rfl) (by kernel_rfl) (by simp [C110,Frs,FrsL]) (A110 x0 x1 x2) (by kernel_rfl) (aux _ rfl)
def k110 (x0:Int) (x1:Int) (x2:List (List Int)):Cl:=(hres (C110 (lineLess x0 x1 x2)),k3 (ok_impl_linesDown_1 x0 x1 x2))
def C154L (x0:SrtL) (x1:Int) (x2:Int) (R:(List (List Int))):LV×List (Nat×BC):=(.tup [],[(900000,.nest true 1 R.length (nrOf (cInt .i64) R)),(900001,.var [.own 900000])])
def insSortL (x0:SrtL) (x1:Int) (x2:Int):(List (List Int)):=loopW (fun (v1:Int×(List (List Int))) nx1=>bif (decide (v1.1<x2)) then (loopW (fun (v2:Int×(List (List Int))) next=>bif ((decide (x1<v2.1)) && (lineLess v2.1 (v2.1 - 1) v2.2)) then (next (v2.1 - 1,(swp v2.2 v2.1 (v2.1 - 1)))) else (nx1 (v1.1+1,v2.2))) ((v1.1).toNat+1) (v1.1,v1.2)) else v1.2) ((x2 - (x1+1)).toNat+1) (x1+1,x0.l)
def D154Lb1 (x0:SrtL) (x1:Int) (x2:Int) (v1:Int×(List (List Int))):Dl:=⟨[(6,.int .i64 v1.1)],[(900000,.nest true 1 v1.2.length (nrOf (cInt .i64) v1.2))]⟩
def D154Lb2 (x0:SrtL) (x1:Int) (x2:Int) (v1:Int×(List (List Int))) (v2:Int×(List (List Int))):Dl:=⟨[(7,.int .i64 v2.1)],[(900000,.nest true 1 v2.2.length (nrOf (cInt .i64) v2.2))]⟩
def A154Lb2 (x0:SrtL) (x1:Int) (x2:Int) (v1:Int×(List (List Int))) (v2:Int×(List (List Int))):Ann:=.reg 1 [] [(9,cg (decide (x1<v2.1)) (k110 v2.1 (v2.1 - 1) v2.2))] [1,2,3,6,7,26] [3,900000,900001] [decide (x1<v2.1)] [gt (decide (x1<v2.1)) (pf (inR .i64 (v2.1 - 1)))] [] [1,1,0,1,1,1,4,1] (cn ((decide (x1<v2.1)) && (lineLess v2.1 (v2.1 - 1) v2.2)) (.reg 1 [] [(5,kswL 503 [900000] v2.2 v2.1 (v2.1 - 1))] [1,2,3,6,7] [3,900000,900001] [] [pf (inR .i64 (v2.1 - 1))] [] [0,4] (r1 1 [1,2,3,6,7] [3,900000,900001] [pf (inR .i64 (v2.1 - 1))] [0] (.next 0 [(900000,some 900000)] (D154Lb2 x0 x1 x2 v1 (v2.1 - 1,(swp v2.2 v2.1 (v2.1 - 1))))))) (r1 1 [1,2,3,6] [3,900000,900001] [pf (inR .i64 (v1.1+1))] [0] (.next 1 [(900000,some 900000)] (D154Lb1 x0 x1 x2 (v1.1+1,v2.2)))))
def A154Lb1 (x0:SrtL) (x1:Int) (x2:Int) (v1:Int×(List (List Int))):Ann:=r0 1 [1,2,3,6,12] [3,900000,900001] (cn (decide (v1.1<x2)) (r0 1 [1,2,3,6,7] [3,900000,900001] (.loop (Int×(List (List Int))) (D154Lb2 x0 x1 x2 v1) [] [] [(900000,some 900000)] (D154Lb2 x0 x1 x2 v1 (v1.1,v1.2)) (A154Lb2 x0 x1 x2 v1))) (rt [(900000,some 900000),(900001,some 900001)] (C154L x0 x1 x2 v1.2)))
def A154L (x0:SrtL) (x1:Int) (x2:Int):Ann:=r1 2 [1,2,3,6] [3,900000,900001] [pf (inR .i64 (x1+1))] [0] (.loop (Int×(List (List Int))) (D154Lb1 x0 x1 x2) [] [] [(900000,some 900000)] (D154Lb1 x0 x1 x2 (x1+1,x0.l)) (A154Lb1 x0 x1 x2))
theorem insSortL_sw (x0:SrtL) (x1 x2:Int) (h:0≤x1∧x1≤x2):Sw x1 x2 x0.l (insSortL x0 x1 x2):=by
 unfold insSortL
 refine loopW_to (fun v=>x1+1≤v.1∧Sw x1 x2 x0.l v.2) (fun v=>(x2 - v.1).toNat) (fun l=>Sw x1 x2 x0.l l) (fun v next hv hn=>?_) _ _ (by dsimp only;omega) ⟨by simp,.refl⟩
 cases hc:decide (v.1<x2) with
 | false=>exact hv.2
 | true =>
  have hc:=of_decide_eq_true hc
  refine loopW_to (fun w=>(x1≤w.1∧w.1≤v.1)∧Sw x1 x2 x0.l w.2) (fun w=>w.1.toNat) (fun l=>Sw x1 x2 x0.l l) (fun w next2 hw hn2=>?_) _ _ (by dsimp only;omega) ⟨by dsimp only;omega,hv.2⟩
  cases hd:decide (x1<w.1) && lineLess w.1 (w.1 - 1) w.2 with
  | false=>exact hn _ ⟨by dsimp only;omega,hw.2⟩ (by dsimp only;omega)
  | true =>
   simp only [Bool.and_eq_true,decide_eq_true_eq] at hd
   exact hn2 _ ⟨by dsimp only;omega,.step hw.2 _ _ (by omega) (by omega)⟩ (by dsimp only;omega)

theorem ok_sort_insertionSort_func_L (x0:SrtL) (x1:Int) (x2:Int) (hx:x0.l.length≤255) (hok:OkL x0) (hab:0≤x1∧x1≤x2∧x2≤x0.l.length):FnMT Try.prog 154 [.agg [.clo 110 [.vp 900001 0],.clo 151 [.own 900000,.k Try.prog.globals.size 47]],.int .i64 x1,.int .i64 x2] [.nest true 1 x0.l.length (nrOf (cInt .i64) x0.l),.var [.own 900000]] (C154L x0 x1 x2 (insSortL x0 x1 x2)):=by
 have aux:∀ R,insSortL x0 x1 x2=R→slim (C154L x0 x1 x2 R) (A154L x0 x1 x2) []:=by
  intro R hR
  refine rg ⟨by ( intros;simp only [inR];omega),trivial⟩ ?_
  revert hR;refine lW (fun v=>x1+1≤v.1∧(Sw x1 x2 x0.l v.2∧v.2.length=x0.l.length)) (fun v=>(x2 - (v.1)).toNat) (by (((try clear hR);(try clear hK1);(try clear hK2);intros;(try simp only [w1,w2,w3,w4,w5,w6,swp_len,inR,IntKind.bits] at *));refine ⟨by omega,?_,trivial⟩;((repeat first | refine Sw.step ?_ _ _ (by omega) (by omega)) <;> first | exact hI2.2.1 | exact hI1.2.1 | exact Sw.refl | exact hI2.2.1.mono (by omega) (by omega) | exact hI1.2.1.mono (by omega) (by omega)))) (Nat.lt_succ_self _) rfl fun m1 v1 F1 hI1 hM1 hR hK1=>?_
  refine rg trivial ?_
  revert hR;refine cd (fun hc1 hR=>?_) fun hc1 hR=>?_
  ·
    refine rg trivial ?_
    revert hR;refine lW (fun v=>(x1≤v.1∧v.1≤v1.1)∧(Sw x1 x2 x0.l v.2∧v.2.length=x0.l.length)) (fun v=>(v.1).toNat) (by (((try clear hR);(try clear hK1);(try clear hK2);intros;(try simp only [w1,w2,w3,w4,w5,w6,swp_len,inR,IntKind.bits] at *));refine ⟨by omega,Sw.both ?_⟩;((repeat first | refine Sw.step ?_ _ _ (by omega) (by omega)) <;> first | exact hI2.2.1 | exact hI1.2.1 | exact Sw.refl | exact hI2.2.1.mono (by omega) (by omega) | exact hI1.2.1.mono (by omega) (by omega)))) (Nat.lt_succ_self _) rfl fun m2 v2 F2 hI2 hM2 hR hK2=>?_
    refine rg ⟨by (((try clear hR);(try clear hK1);(try clear hK2);intros;(try simp only [w1,w2,w3,w4,w5,w6,swp_len,inR,IntKind.bits] at *));omega),fun hg0=>⟨by (((try clear hR);(try clear hK1);(try clear hK2);intros;(try simp only [w1,w2,w3,w4,w5,w6,swp_len,inR,IntKind.bits] at *));omega),by (((try clear hR);(try clear hK1);(try clear hK2);intros;(try simp only [w1,w2,w3,w4,w5,w6,swp_len,inR,IntKind.bits] at *));omega),by (exact OkLL.sw (a:=0) (b:=x0.l.length) hok (by ((try clear hR);(try clear hK1);(try clear hK2);intros;(try simp only [w1,w2,w3,w4,w5,w6,swp_len,inR,IntKind.bits] at *));((repeat first | refine Sw.step ?_ _ _ (by omega) (by omega)) <;> first | exact hI2.2.1 | exact hI1.2.1 | exact Sw.refl | exact hI2.2.1.mono (by omega) (by omega) | exact hI1.2.1.mono (by omega) (by omega))) ⟨by omega,by omega⟩)⟩,trivial⟩ ?_
    revert hR;refine cd (fun hc2 hR=>?_) fun hc2 hR=>?_
    ·
      refine rg ⟨by (((try clear hR);(try clear hK1);(try clear hK2);intros;(try simp only [w1,w2,w3,w4,w5,w6,swp_len,inR,IntKind.bits] at *));omega),⟨by (((try clear hR);(try clear hK1);(try clear hK2);intros;(try simp only [w1,w2,w3,w4,w5,w6,swp_len,inR,IntKind.bits] at *));omega),by (((try clear hR);(try clear hK1);(try clear hK2);intros;(try simp only [w1,w2,w3,w4,w5,w6,swp_len,inR,IntKind.bits] at *));omega)⟩,trivial⟩ ?_
      refine rg ⟨by (((try clear hR);(try clear hK1);(try clear hK2);intros;(try simp only [w1,w2,w3,w4,w5,w6,swp_len,inR,IntKind.bits] at *));omega),trivial⟩ ?_
      exact hK2 (v2.1 - 1,(swp v2.2 v2.1 (v2.1 - 1))) (by (((try clear hR);(try clear hK1);(try clear hK2);intros;(try simp only [w1,w2,w3,w4,w5,w6,swp_len,inR,IntKind.bits] at *));(repeat' apply And.intro) <;> first | omega | ((repeat first | refine Sw.step ?_ _ _ (by omega) (by omega)) <;> first | exact hI2.2.1 | exact hI1.2.1 | exact Sw.refl | exact hI2.2.1.mono (by omega) (by omega) | exact hI1.2.1.mono (by omega) (by omega)))) (by (((try clear hR);(try clear hK1);(try clear hK2);intros;(try simp only [w1,w2,w3,w4,w5,w6,swp_len,inR,IntKind.bits] at *));omega)) hR
    ·
      refine rg ⟨by (((try clear hR);(try clear hK1);(try clear hK2);intros;(try simp only [w1,w2,w3,w4,w5,w6,swp_len,inR,IntKind.bits] at *));omega),trivial⟩ ?_
      exact hK1 (v1.1+1,v2.2) (by (((try clear hR);(try clear hK1);(try clear hK2);intros;(try simp only [w1,w2,w3,w4,w5,w6,swp_len,inR,IntKind.bits] at *));refine ⟨by omega,Sw.both ?_⟩;((repeat first | refine Sw.step ?_ _ _ (by omega) (by omega)) <;> first | exact hI2.2.1 | exact hI1.2.1 | exact Sw.refl | exact hI2.2.1.mono (by omega) (by omega) | exact hI1.2.1.mono (by omega) (by omega)))) (by (((try clear hR);(try clear hK1);(try clear hK2);intros;(try simp only [w1,w2,w3,w4,w5,w6,swp_len,inR,IntKind.bits] at *));omega)) hR
  ·
    exact congrArg (C154L x0 x1 x2) hR
 exact FnM.go 35 Try.func154 (by kernel_rfl) (by kernel_rfl) (A154L x0 x1 x2) (by kernel_rfl) (aux _ rfl)
def k154L (d:Nat) (ids:List Nat) (x0:SrtL) (x1:Int) (x2:Int):Cl:=(hresM d ids (C154L x0 x1 x2 (insSortL x0 x1 x2)),k3 (ok_sort_insertionSort_func_L x0 x1 x2))
end Go.Proofs.Ytkkijpibajigfaa
