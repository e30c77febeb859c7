import Derived.Test.YtaageiiodlfeiaaVL4
set_option maxHeartbeats 4000000
set_option linter.unusedSimpArgs false
set_option linter.unusedVariables false
namespace Go.Proofs.Ytaageiiodlfeiaa
open Go Go.Lite Go.Proofs
def C196L (x0:SrtL) (x1:Int) (x2:Int) (x3:Int) (R:Int×(List (List Int))):LV×List (Nat×BC):=(.int .i64 R.1,[(900000,.nest true 1 R.2.length (nrOf (cInt .i64) R.2)),(900001,.var [.own 900000])])
def ze9 (x0:SrtL) (x1:Int) (x2:Int) (x3:Int):Int×(List (List Int)):=loopW (fun (v1:Int×Int×(List (List Int))) nx1=>loopW (fun (v2:Int) next=>bif ((decide (v2≤v1.2.1))&&(!(zb3 x1 v2 v1.2.2))) then (next (v2+1)) else (loopW (fun (v3:Int) next=>bif ((decide (v2≤v3))&&(zb3 x1 v3 v1.2.2)) then (next (v3 - 1)) else (bif (decide (v3<v2)) then (v2,v1.2.2) else (nx1 (v2+1,v3 - 1,(swp v1.2.2 v2 v3))))) ((v1.2.1 - x1+1).toNat+1) v1.2.1)) ((x2 - (v1.1)).toNat+1) v1.1) ((x2 - 1 - (x1+1)+2).toNat+1) (x1+1,x2 - 1,(swp x0.l x1 x3))
def ztq (x0:SrtL) (x1:Int) (x2:Int) (x3:Int) (v1:Int×Int×(List (List Int))):Dl:=⟨[(9,.int .i64 v1.1),(10,.int .i64 v1.2.1)],[(900000,.nest true 1 v1.2.2.length (nrOf (cInt .i64) v1.2.2))]⟩
def ztp (x0:SrtL) (x1:Int) (x2:Int) (x3:Int) (v1:Int×Int×(List (List Int))) (v2:Int):Dl:=⟨[(9,.int .i64 v2)],[]⟩
def zto (x0:SrtL) (x1:Int) (x2:Int) (x3:Int) (v1:Int×Int×(List (List Int))) (v2:Int) (v3:Int):Dl:=⟨[(10,.int .i64 v3)],[]⟩
def z19 (x0:SrtL) (x1:Int) (x2:Int) (x3:Int) (v1:Int×Int×(List (List Int))) (v2:Int) (v3:Int):Ann:=.reg 1 [] [(8,cg (decide (v2≤v3)) (k103 x1 v3 v1.2.2))] [1,4,8,9,10,42] [4,900000,900001] [decide (v2≤v3)] [] [] [1,1,1,1,0,1] (cn ((decide (v2≤v3))&&(zb3 x1 v3 v1.2.2)) (r1 1 [1,4,8,9,10] [4,900000,900001] [pf (inR .i64 (v3 - 1))] [0] (.next 0 [] (zto x0 x1 x2 x3 v1 v2 (v3 - 1)))) (r0 1 [1,4,8,9,10,47] [4,900000,900001] (cn (decide (v3<v2)) (r0 1 [8] [900000,900001] (rt [(900000,some 900000),(900001,some 900001)] (C196L x0 x1 x2 x3 (v2,v1.2.2)))) (.reg 2 [] [(4,kswL 503 [900000] v1.2.2 v2 v3)] [1,4,8,9,10] [4,900000,900001] [] [pf (inR .i64 (v2+1))] [] [4,0] (r1 1 [1,4,8,9,10] [4,900000,900001] [pf (inR .i64 (v3 - 1))] [0] (.next 2 [(900000,some 900000)] (ztq x0 x1 x2 x3 (v2+1,v3 - 1,(swp v1.2.2 v2 v3)))))))))
def z2a (x0:SrtL) (x1:Int) (x2:Int) (x3:Int) (v1:Int×Int×(List (List Int))) (v2:Int):Ann:=.reg 1 [] [(8,cg (decide (v2≤v1.2.1)) (k103 x1 v2 v1.2.2))] [1,4,8,9,10,30] [4,900000,900001] [decide (v2≤v1.2.1)] [] [] [1,1,1,1,0,1,1] (cn ((decide (v2≤v1.2.1))&&(!(zb3 x1 v2 v1.2.2))) (r1 1 [1,4,8,9,10] [4,900000,900001] [pf (inR .i64 (v2+1))] [0] (.next 0 [] (ztp x0 x1 x2 x3 v1 (v2+1)))) (.loop Int (zto x0 x1 x2 x3 v1 v2) [30] [] [] (zto x0 x1 x2 x3 v1 v2 v1.2.1) (z19 x0 x1 x2 x3 v1 v2)))
def z2b (x0:SrtL) (x1:Int) (x2:Int) (x3:Int) (v1:Int×Int×(List (List Int))):Ann:=.loop Int (ztp x0 x1 x2 x3 v1) [] [] [] (ztp x0 x1 x2 x3 v1 v1.1) (z2a x0 x1 x2 x3 v1)
def A196L (x0:SrtL) (x1:Int) (x2:Int) (x3:Int):Ann:=.reg 3 [] [(1004,kswL 501 [900000] x0.l x1 x3)] [1,4,8,9,10] [4,900000,900001] [] [pf (inR .i64 (x1+1)),pf (inR .i64 (x2 - 1))] [] [8,0,4] (.loop (Int×Int×(List (List Int))) (ztq x0 x1 x2 x3) [] [] [(900000,some 900000)] (ztq x0 x1 x2 x3 (x1+1,x2 - 1,(swp x0.l x1 x3))) (z2b x0 x1 x2 x3))
structure PartEqL (x0:SrtL) (x1 x2:Int) (p:List Int) (m:Int) (l:List (List Int)):Prop where
 b:x1+1≤m∧m≤x2
 s:Sw x1 x2 x0.l l
 pv:gi l x1=p
 lo:∀ k,x1<k→k<m→zbu p (gi l k)=false
 hi:∀ k,m≤k→k<x2→zbu p (gi l k)=true
theorem ziy (x0:SrtL) (x1 x2 x3:Int) (h:0≤x1∧x1≤x3∧x3<x2) (hl:x2≤x0.l.length):PartEqL x0 x1 x2 (gi x0.l x3) (ze9 x0 x1 x2 x3).1 (ze9 x0 x1 x2 x3).2:=by
 unfold ze9
 have h0:0≤x1∧x2≤x0.l.length:=by omega
 refine zcj (fun (v:Int×Int×List (List Int))=>PI (fun u w=>!(zbu w u)) x1 x2 x0.l (gi x0.l x3) v.1 v.2.1 v.2.2) (fun v=>(v.2.1 - v.1+2).toNat) (fun (r:Int×List (List Int))=>PartEqL x0 x1 x2 (gi x0.l x3) r.1 r.2) (fun v nx hv hx=>?_) _ _ zau (PI.start x0.l h0 om)
 refine zcj (fun (i:Int)=>v.1≤i∧PI (fun u w=>!(zbu w u)) x1 x2 x0.l (gi x0.l x3) i v.2.1 v.2.2) (fun i=>(x2 - i).toNat) (fun (r:Int×List (List Int))=>PartEqL x0 x1 x2 (gi x0.l x3) r.1 r.2) (fun i next hi hn=>?_) _ _ om ⟨om,hv⟩
 obtain ⟨hi0,hi⟩:=hi
 have hb:=hi.b
 cases hc:decide (i≤v.2.1)&&!(zb3 x1 i v.2.2) with
 | true =>
  simp only [Bool.and_eq_true,decide_eq_true_eq] at hc
  exact hn _ ⟨om,hi.up hc.1 hc.2⟩ om
 | false =>
  refine zcj (fun (j:Int)=>j≤v.2.1∧PI (fun u w=>!(zbu w u)) x1 x2 x0.l (gi x0.l x3) i j v.2.2) (fun j=>(j - x1+1).toNat) (fun (r:Int×List (List Int))=>PartEqL x0 x1 x2 (gi x0.l x3) r.1 r.2) (fun j next2 hj hn2=>?_) _ _ om ⟨om,hi⟩
  obtain ⟨hj0,hj⟩:=hj
  have hb:=hj.b
  cases hd:decide (i≤j)&&(zb3 x1 j v.2.2) with
  | true =>
   simp only [Bool.and_eq_true,decide_eq_true_eq] at hd
   have hd2:zbu (gi v.2.2 x1) (gi v.2.2 j)=true:=hd.2
   exact hn2 _ ⟨om,hj.down hd.1 (by rw [hd2];rfl)⟩ om
  | false =>
   cases he:decide (j<i) with
   | true =>
    have he:=of_decide_eq_true he
    refine ⟨(⟨om,om⟩:x1+1≤i∧i≤x2),hj.s,hj.pv,fun k h1 h2=>?_,fun k h1 h2=>?_⟩
    ·have:=hj.lo k h1 h2;simpa using this
    ·have h1:i≤k:=h1
     have:=hj.hi k om h2;simpa using this
   | false =>
    have he:=of_decide_eq_false he
    rw [decide_eq_true (show i≤v.2.1 by omega)] at hc
    rw [decide_eq_true (show i≤j by omega)] at hd
    have hc:(!(zbu (gi v.2.2 x1) (gi v.2.2 i)))=false:=hc
    have hd:zbu (gi v.2.2 x1) (gi v.2.2 j)=false:=hd
    exact hx _ (hj.swap h0 om hc (by rw [hd];rfl)) zau
theorem zhb (x0:SrtL) (x1 x2 x3:Int) (h:0≤x1∧x1≤x3∧x3<x2) (hl:x2≤x0.l.length):Sw x1 x2 x0.l (ze9 x0 x1 x2 x3).2:=(ziy x0 x1 x2 x3 h hl).s

theorem zfr (x0:SrtL) (x1:Int) (x2:Int) (x3:Int) (hx:x0.l.length≤255) (hok:OkL x0) (hab:0≤x1∧x1≤x2∧x2≤x0.l.length) (hp:x1≤x3∧x3<x2):FnMT Try.prog 196 [.agg [.clo 103 [.vp 900001 0],.clo 187 [.own 900000,.k Try.prog.globals.size 42]],.int .i64 x1,.int .i64 x2,.int .i64 x3] [.nest true 1 x0.l.length (nrOf (cInt .i64) x0.l),.var [.own 900000]] (C196L x0 x1 x2 x3 (ze9 x0 x1 x2 x3)):=by
 have aux:∀ R,ze9 x0 x1 x2 x3=R→slim (C196L x0 x1 x2 x3 R) (A196L x0 x1 x2 x3) []:=by
  intro R hR
  refine rg ⟨by ( intros;simp only [inR];omega),by ( intros;simp only [inR];omega),⟨by (intros;omega),by (intros;omega)⟩,trivial⟩ ?_
  revert hR;refine lW (fun v=>(x1+1≤v.1∧v.1≤v.2.1+2∧x1≤v.2.1∧v.2.1<x2∧v.1≤x2)∧(Sw x1 x2 x0.l v.2.2∧v.2.2.length=x0.l.length)) (fun v=>(v.2.1 - (v.1)+2).toNat) (by (((try clear hR);(try clear hK1);(try clear hK2);(try clear hK3);intros;(try simp only [w1,w2,w3,w4,w5,w6,zbs,inR,IntKind.bits] at *));refine ⟨om,?_,trivial⟩;((repeat first | refine Sw.step ?_ _ _ om om)<;>first | exact hI1.2.1 | exact Sw.refl | exact hI1.2.1.mono om om))) (Nat.lt_succ_self _) rfl fun m1 v1 F1 hI1 hM1 hR hK1=>?_
  revert hR;refine lW (fun v=>x1+1≤v∧v≤v1.2.1+2∧x1≤v1.2.1∧v1.2.1<x2∧v≤x2∧v1.1≤v) (fun v=>(x2 - (v)).toNat) zaw (Nat.lt_succ_self _) rfl fun m2 v2 F2 hI2 hM2 hR hK2=>?_
  refine rg ⟨fun hg0=>⟨by (intros;omega),by (((try clear hR);(try clear hK1);(try clear hK2);(try clear hK3);intros;(try simp only [w1,w2,w3,w4,w5,w6,zbs,inR,IntKind.bits] at *));omega),by (exact OkLL.sw (a:=0) (b:=x0.l.length) hok (by ((try clear hR);(try clear hK1);(try clear hK2);(try clear hK3);intros;(try simp only [w1,w2,w3,w4,w5,w6,zbs,inR,IntKind.bits] at *));((repeat first | refine Sw.step ?_ _ _ om om)<;>first | exact hI1.2.1 | exact Sw.refl | exact hI1.2.1.mono om om)) ⟨om,om⟩)⟩,trivial⟩ ?_
  revert hR;refine cd (fun hc1 hR=>?_) fun hc1 hR=>?_
  ·
    refine rg ⟨by ( intros;simp only [inR];omega),trivial⟩ ?_
    exact hK2 (v2+1) zap zap hR
  ·
    revert hR;refine lW (fun v=>x1+1≤v2∧v2≤v+2∧x1≤v∧v<x2∧v2≤x2∧v1.1≤v2∧v≤v1.2.1) (fun v=>(v - x1+1).toNat) zaw (Nat.lt_succ_self _) rfl fun m3 v3 F3 hI3 hM3 hR hK3=>?_
    refine rg ⟨fun hg0=>⟨by (intros;omega),by (intros;omega),by (exact OkLL.sw (a:=0) (b:=x0.l.length) hok (by ((try clear hR);(try clear hK1);(try clear hK2);(try clear hK3);intros;(try simp only [w1,w2,w3,w4,w5,w6,zbs,inR,IntKind.bits] at *));((repeat first | refine Sw.step ?_ _ _ om om)<;>first | exact hI1.2.1 | exact Sw.refl | exact hI1.2.1.mono om om)) ⟨om,om⟩)⟩,trivial⟩ ?_
    revert hR;refine cd (fun hc2 hR=>?_) fun hc2 hR=>?_
    ·
      refine rg ⟨by ( intros;simp only [inR];omega),trivial⟩ ?_
      exact hK3 (v3 - 1) zap zaw hR
    ·
      refine rg trivial ?_
      revert hR;refine cd (fun hc3 hR=>?_) fun hc3 hR=>?_
      ·
        refine rg trivial ?_
        exact congrArg (C196L x0 x1 x2 x3) hR
      ·
        refine rg ⟨by ( intros;simp only [inR];omega),⟨by (((try clear hR);(try clear hK1);(try clear hK2);(try clear hK3);intros;(try simp only [w1,w2,w3,w4,w5,w6,zbs,inR,IntKind.bits] at *));omega),by (intros;omega)⟩,trivial⟩ ?_
        refine rg ⟨by ( intros;simp only [inR];omega),trivial⟩ ?_
        exact hK1 (v2+1,v3 - 1,(swp v1.2.2 v2 v3)) (by (((try clear hR);(try clear hK1);(try clear hK2);(try clear hK3);intros;(try simp only [w1,w2,w3,w4,w5,w6,zbs,inR,IntKind.bits] at *));(repeat' apply And.intro)<;>first | omega | ((repeat first | refine Sw.step ?_ _ _ om om)<;>first | exact hI1.2.1 | exact Sw.refl | exact hI1.2.1.mono om om))) zap hR
 exact FnM.go 58 Try.func196 zax zax (A196L x0 x1 x2 x3) zax (aux _ rfl)
def k196L (d:Nat) (ids:List Nat) (x0:SrtL) (x1:Int) (x2:Int) (x3:Int):Cl:=(hresM d ids (C196L x0 x1 x2 x3 (ze9 x0 x1 x2 x3)),k4 (zfr x0 x1 x2 x3))
def C197L (x0:SrtL) (x1:Int) (x2:Int) (x3:Int) (R:Int×Bool×(List (List Int))):LV×List (Nat×BC):=(.tup [.int .i64 R.1,.bool R.2.1],[(900000,.nest true 1 R.2.2.length (nrOf (cInt .i64) R.2.2)),(900001,.var [.own 900000])])
def partL (x0:SrtL) (x1:Int) (x2:Int) (x3:Int):Int×Bool×(List (List Int)):=loopW (fun (v1:Int) next=>bif ((decide (v1≤(x2 - 1)))&&(zb3 v1 x1 (swp x0.l x1 x3))) then (next (v1+1)) else (loopW (fun (v2:Int) next=>bif ((decide (v1≤v2))&&(!(zb3 v2 x1 (swp x0.l x1 x3)))) then (next (v2 - 1)) else (bif (decide (v2<v1)) then (v2,true,(swp (swp x0.l x1 x3) v2 x1)) else (loopW (fun (v3:Int×Int×(List (List Int))) nx3=>loopW (fun (v4:Int) next=>bif ((decide (v4≤v3.2.1))&&(zb3 v4 x1 v3.2.2)) then (next (v4+1)) else (loopW (fun (v5:Int) next=>bif ((decide (v4≤v5))&&(!(zb3 v5 x1 v3.2.2))) then (next (v5 - 1)) else (bif (decide (v5<v4)) then (v5,false,(swp v3.2.2 v5 x1)) else (nx3 (v4+1,v5 - 1,(swp v3.2.2 v4 v5))))) ((v3.2.1 - x1+1).toNat+1) v3.2.1)) ((x2 - (v3.1)).toNat+1) v3.1) ((v2 - 1 - (v1+1)+2).toNat+1) (v1+1,v2 - 1,(swp (swp x0.l x1 x3) v1 v2))))) ((x2 - 1 - x1+1).toNat+1) (x2 - 1))) ((x2 - (x1+1)).toNat+1) (x1+1)
def ztn (x0:SrtL) (x1:Int) (x2:Int) (x3:Int) (v1:Int):Dl:=⟨[(10,.int .i64 v1)],[]⟩
def ztm (x0:SrtL) (x1:Int) (x2:Int) (x3:Int) (v1:Int) (v2:Int):Dl:=⟨[(11,.int .i64 v2)],[]⟩
def ztl (x0:SrtL) (x1:Int) (x2:Int) (x3:Int) (v1:Int) (v2:Int) (v3:Int×Int×(List (List Int))):Dl:=⟨[(10,.int .i64 v3.1),(11,.int .i64 v3.2.1)],[(900000,.nest true 1 v3.2.2.length (nrOf (cInt .i64) v3.2.2))]⟩
def ztk (x0:SrtL) (x1:Int) (x2:Int) (x3:Int) (v1:Int) (v2:Int) (v3:Int×Int×(List (List Int))) (v4:Int):Dl:=⟨[(10,.int .i64 v4)],[]⟩
def ztj (x0:SrtL) (x1:Int) (x2:Int) (x3:Int) (v1:Int) (v2:Int) (v3:Int×Int×(List (List Int))) (v4:Int) (v5:Int):Dl:=⟨[(11,.int .i64 v5)],[]⟩
def z14 (x0:SrtL) (x1:Int) (x2:Int) (x3:Int) (v1:Int) (v2:Int) (v3:Int×Int×(List (List Int))) (v4:Int) (v5:Int):Ann:=.reg 1 [] [(8,cg (decide (v4≤v5)) (k103 v5 x1 v3.2.2))] [1,4,8,9,10,11,86] [4,900000,900001] [decide (v4≤v5)] [] [] [1,1,1,1,0,1,1] (cn ((decide (v4≤v5))&&(!(zb3 v5 x1 v3.2.2))) (r1 1 [1,4,8,9,10,11] [4,900000,900001] [pf (inR .i64 (v5 - 1))] [0] (.next 0 [] (ztj x0 x1 x2 x3 v1 v2 v3 v4 (v5 - 1)))) (r0 1 [1,4,8,9,10,11,91] [4,900000,900001] (cn (decide (v5<v4)) (.reg 2 [] [(4,kswL 503 [900000] v3.2.2 v5 x1)] [8,9] [900000,900001] [] [] [] [0] (rt [(900000,some 900000),(900001,some 900001)] (C197L x0 x1 x2 x3 (v5,false,(swp v3.2.2 v5 x1))))) (.reg 2 [] [(4,kswL 503 [900000] v3.2.2 v4 v5)] [1,4,8,9,10,11] [4,900000,900001] [] [pf (inR .i64 (v4+1))] [] [4,0] (r1 1 [1,4,8,9,10,11] [4,900000,900001] [pf (inR .i64 (v5 - 1))] [0] (.next 2 [(900000,some 900000)] (ztl x0 x1 x2 x3 v1 v2 (v4+1,v5 - 1,(swp v3.2.2 v4 v5)))))))))
def z15 (x0:SrtL) (x1:Int) (x2:Int) (x3:Int) (v1:Int) (v2:Int) (v3:Int×Int×(List (List Int))) (v4:Int):Ann:=.reg 1 [] [(8,cg (decide (v4≤v3.2.1)) (k103 v4 x1 v3.2.2))] [1,4,8,9,10,11,73] [4,900000,900001] [decide (v4≤v3.2.1)] [] [] [1,1,1,1,0,1] (cn ((decide (v4≤v3.2.1))&&(zb3 v4 x1 v3.2.2)) (r1 1 [1,4,8,9,10,11] [4,900000,900001] [pf (inR .i64 (v4+1))] [0] (.next 0 [] (ztk x0 x1 x2 x3 v1 v2 v3 (v4+1)))) (.loop Int (ztj x0 x1 x2 x3 v1 v2 v3 v4) [73] [] [] (ztj x0 x1 x2 x3 v1 v2 v3 v4 v3.2.1) (z14 x0 x1 x2 x3 v1 v2 v3 v4)))
def z16 (x0:SrtL) (x1:Int) (x2:Int) (x3:Int) (v1:Int) (v2:Int) (v3:Int×Int×(List (List Int))):Ann:=.loop Int (ztk x0 x1 x2 x3 v1 v2 v3) [] [] [] (ztk x0 x1 x2 x3 v1 v2 v3 v3.1) (z15 x0 x1 x2 x3 v1 v2 v3)
def z17 (x0:SrtL) (x1:Int) (x2:Int) (x3:Int) (v1:Int) (v2:Int):Ann:=.reg 1 [] [(8,cg (decide (v1≤v2)) (k103 v2 x1 (swp x0.l x1 x3)))] [1,4,8,9,10,11,43] [4,900000,900001] [decide (v1≤v2)] [] [] [1,1,1,1,0,1,1] (cn ((decide (v1≤v2))&&(!(zb3 v2 x1 (swp x0.l x1 x3)))) (r1 1 [1,4,8,9,10,11] [4,900000,900001] [pf (inR .i64 (v2 - 1))] [0] (.next 0 [] (ztm x0 x1 x2 x3 v1 (v2 - 1)))) (r0 1 [1,4,8,9,10,11,48] [4,900000,900001] (cn (decide (v2<v1)) (.reg 2 [] [(4,kswL 503 [900000] (swp x0.l x1 x3) v2 x1)] [1,4,8,9,10,11] [4,900000,900001] [] [] [] [0] (rt [(900000,some 900000),(900001,some 900001)] (C197L x0 x1 x2 x3 (v2,true,(swp (swp x0.l x1 x3) v2 x1))))) (.reg 3 [] [(4,kswL 503 [900000] (swp x0.l x1 x3) v1 v2)] [1,4,8,9,10,11] [4,900000,900001] [] [pf (inR .i64 (v1+1)),pf (inR .i64 (v2 - 1))] [] [8,0,4] (.loop (Int×Int×(List (List Int))) (ztl x0 x1 x2 x3 v1 v2) [] [] [(900000,some 900000)] (ztl x0 x1 x2 x3 v1 v2 (v1+1,v2 - 1,(swp (swp x0.l x1 x3) v1 v2))) (z16 x0 x1 x2 x3 v1 v2))))))
def z18 (x0:SrtL) (x1:Int) (x2:Int) (x3:Int) (v1:Int):Ann:=.reg 1 [] [(8,cg (decide (v1≤(x2 - 1))) (k103 v1 x1 (swp x0.l x1 x3)))] [1,4,8,9,10,11,30] [4,900000,900001] [decide (v1≤(x2 - 1))] [] [] [1,1,1,1,0,1] (cn ((decide (v1≤(x2 - 1)))&&(zb3 v1 x1 (swp x0.l x1 x3))) (r1 1 [1,4,8,9,10,11] [4,900000,900001] [pf (inR .i64 (v1+1))] [0] (.next 0 [] (ztn x0 x1 x2 x3 (v1+1)))) (.loop Int (ztm x0 x1 x2 x3 v1) [30] [] [] (ztm x0 x1 x2 x3 v1 (x2 - 1)) (z17 x0 x1 x2 x3 v1)))
def A197L (x0:SrtL) (x1:Int) (x2:Int) (x3:Int):Ann:=.reg 3 [] [(1004,kswL 501 [900000] x0.l x1 x3)] [1,4,8,9,10,11] [4,900000,900001] [] [pf (inR .i64 (x1+1)),pf (inR .i64 (x2 - 1))] [] [8,0,4] (.loop Int (ztn x0 x1 x2 x3) [] [] [] (ztn x0 x1 x2 x3 (x1+1)) (z18 x0 x1 x2 x3))
theorem zl7 (x0:SrtL) (x1 x2 x3:Int) (h:0≤x1∧x1≤x3∧x3<x2) (hl:x2≤x0.l.length):PartOk (zbu) x1 x2 x0.l (gi x0.l x3) (partL x0 x1 x2 x3).1 (partL x0 x1 x2 x3).2.2:=by
 unfold partL
 have h0:0≤x1∧x2≤x0.l.length:=by omega
 refine zcj (fun (i:Int)=>PI (zbu) x1 x2 x0.l (gi x0.l x3) i (x2 - 1) (swp x0.l x1 x3)) (fun i=>(x2 - i).toNat) (fun (r:Int×Bool×List (List Int))=>PartOk (zbu) x1 x2 x0.l (gi x0.l x3) r.1 r.2.2) (fun i next hi hn=>?_) _ _ om (PI.start x0.l h0 om)
 cases hc:decide (i≤x2 - 1)&&zb3 i x1 (swp x0.l x1 x3) with
 | true =>
  simp only [Bool.and_eq_true,decide_eq_true_eq] at hc
  exact hn _ (hi.up hc.1 hc.2) om
 | false =>
  refine zcj (fun (j:Int)=>j≤x2 - 1∧PI (zbu) x1 x2 x0.l (gi x0.l x3) i j (swp x0.l x1 x3)) (fun j=>(j - x1+1).toNat) (fun (r:Int×Bool×List (List Int))=>PartOk (zbu) x1 x2 x0.l (gi x0.l x3) r.1 r.2.2) (fun j next2 hj hn2=>?_) _ _ om ⟨om,hi⟩
  obtain ⟨hj0,hj⟩:=hj
  have hb:=hj.b
  cases hd:decide (i≤j)&&!(zb3 j x1 (swp x0.l x1 x3)) with
  | true =>
   simp only [Bool.and_eq_true,decide_eq_true_eq,Bool.not_eq_true'] at hd
   exact hn2 _ ⟨om,hj.down hd.1 hd.2⟩ om
  | false =>
   cases he:decide (j<i) with
   | true=>exact hj.done h0 (of_decide_eq_true he)
   | false =>
    have he:=of_decide_eq_false he
    rw [decide_eq_true (show i≤x2 - 1 by omega)] at hc
    rw [decide_eq_true (show i≤j by omega)] at hd
    have hc:zbu (gi (swp x0.l x1 x3) i) (gi (swp x0.l x1 x3) x1)=false:=hc
    have hd:zbu (gi (swp x0.l x1 x3) j) (gi (swp x0.l x1 x3) x1)=true:=(by simpa using hd:zb3 j x1 (swp x0.l x1 x3)=true)
    refine zcj (fun (v:Int×Int×List (List Int))=>PI (zbu) x1 x2 x0.l (gi x0.l x3) v.1 v.2.1 v.2.2) (fun v=>(v.2.1 - v.1+2).toNat) (fun (r:Int×Bool×List (List Int))=>PartOk (zbu) x1 x2 x0.l (gi x0.l x3) r.1 r.2.2) (fun v nx hv hx=>?_) _ _ zau (hj.swap h0 om hc hd)
    refine zcj (fun (i:Int)=>v.1≤i∧PI (zbu) x1 x2 x0.l (gi x0.l x3) i v.2.1 v.2.2) (fun i=>(x2 - i).toNat) (fun (r:Int×Bool×List (List Int))=>PartOk (zbu) x1 x2 x0.l (gi x0.l x3) r.1 r.2.2) (fun i next hi hn=>?_) _ _ om ⟨om,hv⟩
    obtain ⟨hi0,hi⟩:=hi
    have hb:=hi.b
    cases hc:decide (i≤v.2.1)&&zb3 i x1 v.2.2 with
    | true =>
     simp only [Bool.and_eq_true,decide_eq_true_eq] at hc
     exact hn _ ⟨om,hi.up hc.1 hc.2⟩ om
    | false =>
     refine zcj (fun (j:Int)=>j≤v.2.1∧PI (zbu) x1 x2 x0.l (gi x0.l x3) i j v.2.2) (fun j=>(j - x1+1).toNat) (fun (r:Int×Bool×List (List Int))=>PartOk (zbu) x1 x2 x0.l (gi x0.l x3) r.1 r.2.2) (fun j next2 hj hn2=>?_) _ _ om ⟨om,hi⟩
     obtain ⟨hj0,hj⟩:=hj
     have hb:=hj.b
     cases hd:decide (i≤j)&&!(zb3 j x1 v.2.2) with
     | true =>
      simp only [Bool.and_eq_true,decide_eq_true_eq,Bool.not_eq_true'] at hd
      exact hn2 _ ⟨om,hj.down hd.1 hd.2⟩ om
     | false =>
      cases he:decide (j<i) with
      | true=>exact hj.done h0 (of_decide_eq_true he)
      | false =>
       have he:=of_decide_eq_false he
       rw [decide_eq_true (show i≤v.2.1 by omega)] at hc
       rw [decide_eq_true (show i≤j by omega)] at hd
       have hc:zbu (gi v.2.2 i) (gi v.2.2 x1)=false:=hc
       have hd:zbu (gi v.2.2 j) (gi v.2.2 x1)=true:=(by simpa using hd:zb3 j x1 v.2.2=true)
       exact hx _ (hj.swap h0 om hc hd) zau
theorem zj1 (x0:SrtL) (x1 x2 x3:Int) (h:0≤x1∧x1≤x3∧x3<x2) (hl:x2≤x0.l.length):Sw x1 x2 x0.l (partL x0 x1 x2 x3).2.2:=(zl7 x0 x1 x2 x3 h hl).s

theorem zhe (x0:SrtL) (x1:Int) (x2:Int) (x3:Int) (hx:x0.l.length≤255) (hok:OkL x0) (hab:0≤x1∧x1≤x2∧x2≤x0.l.length) (hp:x1≤x3∧x3<x2):FnMT Try.prog 197 [.agg [.clo 103 [.vp 900001 0],.clo 187 [.own 900000,.k Try.prog.globals.size 42]],.int .i64 x1,.int .i64 x2,.int .i64 x3] [.nest true 1 x0.l.length (nrOf (cInt .i64) x0.l),.var [.own 900000]] (C197L x0 x1 x2 x3 (partL x0 x1 x2 x3)):=by
 have aux:∀ R,partL x0 x1 x2 x3=R→slim (C197L x0 x1 x2 x3 R) (A197L x0 x1 x2 x3) []:=by
  intro R hR
  refine rg ⟨by ( intros;simp only [inR];omega),by ( intros;simp only [inR];omega),⟨by (intros;omega),by (intros;omega)⟩,trivial⟩ ?_
  revert hR;refine lW (fun v=>x1+1≤v∧v≤x2) (fun v=>(x2 - (v)).toNat) zaw (Nat.lt_succ_self _) rfl fun m1 v1 F1 hI1 hM1 hR hK1=>?_
  refine rg ⟨fun hg0=>⟨by (((try clear hR);(try clear hK1);(try clear hK2);(try clear hK3);(try clear hK4);(try clear hK5);intros;(try simp only [w1,w2,w3,w4,w5,w6,zbs,inR,IntKind.bits] at *));omega),by (((try clear hR);(try clear hK1);(try clear hK2);(try clear hK3);(try clear hK4);(try clear hK5);intros;(try simp only [w1,w2,w3,w4,w5,w6,zbs,inR,IntKind.bits] at *));omega),by (exact OkLL.sw (a:=0) (b:=x0.l.length) hok zaf ⟨om,om⟩)⟩,trivial⟩ ?_
  revert hR;refine cd (fun hc1 hR=>?_) fun hc1 hR=>?_
  ·
    refine rg ⟨by ( intros;simp only [inR];omega),trivial⟩ ?_
    exact hK1 (v1+1) zam zam hR
  ·
    revert hR;refine lW (fun v=>x1+1≤v1∧v1≤v+2∧x1≤v∧v<x2∧v1≤x2) (fun v=>(v - x1+1).toNat) zaw (Nat.lt_succ_self _) rfl fun m2 v2 F2 hI2 hM2 hR hK2=>?_
    refine rg ⟨fun hg0=>⟨by (((try clear hR);(try clear hK1);(try clear hK2);(try clear hK3);(try clear hK4);(try clear hK5);intros;(try simp only [w1,w2,w3,w4,w5,w6,zbs,inR,IntKind.bits] at *));omega),by (((try clear hR);(try clear hK1);(try clear hK2);(try clear hK3);(try clear hK4);(try clear hK5);intros;(try simp only [w1,w2,w3,w4,w5,w6,zbs,inR,IntKind.bits] at *));omega),by (exact OkLL.sw (a:=0) (b:=x0.l.length) hok zaf ⟨om,om⟩)⟩,trivial⟩ ?_
    revert hR;refine cd (fun hc2 hR=>?_) fun hc2 hR=>?_
    ·
      refine rg ⟨by ( intros;simp only [inR];omega),trivial⟩ ?_
      exact hK2 (v2 - 1) zam zaw hR
    ·
      refine rg trivial ?_
      revert hR;refine cd (fun hc3 hR=>?_) fun hc3 hR=>?_
      ·
        refine rg ⟨⟨by (((try clear hR);(try clear hK1);(try clear hK2);(try clear hK3);(try clear hK4);(try clear hK5);intros;(try simp only [w1,w2,w3,w4,w5,w6,zbs,inR,IntKind.bits] at *));omega),by (((try clear hR);(try clear hK1);(try clear hK2);(try clear hK3);(try clear hK4);(try clear hK5);intros;(try simp only [w1,w2,w3,w4,w5,w6,zbs,inR,IntKind.bits] at *));omega)⟩,trivial⟩ ?_
        exact congrArg (C197L x0 x1 x2 x3) hR
      ·
        refine rg ⟨by ( intros;simp only [inR];omega),by ( intros;simp only [inR];omega),⟨by (((try clear hR);(try clear hK1);(try clear hK2);(try clear hK3);(try clear hK4);(try clear hK5);intros;(try simp only [w1,w2,w3,w4,w5,w6,zbs,inR,IntKind.bits] at *));omega),by (((try clear hR);(try clear hK1);(try clear hK2);(try clear hK3);(try clear hK4);(try clear hK5);intros;(try simp only [w1,w2,w3,w4,w5,w6,zbs,inR,IntKind.bits] at *));omega)⟩,trivial⟩ ?_
        revert hR;refine lW (fun v=>(x1+1≤v.1∧v.1≤v.2.1+2∧x1≤v.2.1∧v.2.1<x2∧v.1≤x2)∧(Sw x1 x2 x0.l v.2.2∧v.2.2.length=x0.l.length)) (fun v=>(v.2.1 - (v.1)+2).toNat) (by (((try clear hR);(try clear hK1);(try clear hK2);(try clear hK3);(try clear hK4);(try clear hK5);intros;(try simp only [w1,w2,w3,w4,w5,w6,zbs,inR,IntKind.bits] at *));refine ⟨om,?_,trivial⟩;((repeat first | refine Sw.step ?_ _ _ om om)<;>first | exact hI3.2.1 | exact Sw.refl | exact hI3.2.1.mono om om))) (Nat.lt_succ_self _) rfl fun m3 v3 F3 hI3 hM3 hR hK3=>?_
        revert hR;refine lW (fun v=>x1+1≤v∧v≤v3.2.1+2∧x1≤v3.2.1∧v3.2.1<x2∧v≤x2∧v3.1≤v) (fun v=>(x2 - (v)).toNat) zaw (Nat.lt_succ_self _) rfl fun m4 v4 F4 hI4 hM4 hR hK4=>?_
        refine rg ⟨fun hg0=>⟨by (((try clear hR);(try clear hK1);(try clear hK2);(try clear hK3);(try clear hK4);(try clear hK5);intros;(try simp only [w1,w2,w3,w4,w5,w6,zbs,inR,IntKind.bits] at *));omega),by (intros;omega),by (exact OkLL.sw (a:=0) (b:=x0.l.length) hok zaf ⟨om,om⟩)⟩,trivial⟩ ?_
        revert hR;refine cd (fun hc4 hR=>?_) fun hc4 hR=>?_
        ·
          refine rg ⟨by ( intros;simp only [inR];omega),trivial⟩ ?_
          exact hK4 (v4+1) zam zam hR
        ·
          revert hR;refine lW (fun v=>x1+1≤v4∧v4≤v+2∧x1≤v∧v<x2∧v4≤x2∧v3.1≤v4∧v≤v3.2.1) (fun v=>(v - x1+1).toNat) zaw (Nat.lt_succ_self _) rfl fun m5 v5 F5 hI5 hM5 hR hK5=>?_
          refine rg ⟨fun hg0=>⟨by (intros;omega),by (intros;omega),by (exact OkLL.sw (a:=0) (b:=x0.l.length) hok zaf ⟨om,om⟩)⟩,trivial⟩ ?_
          revert hR;refine cd (fun hc5 hR=>?_) fun hc5 hR=>?_
          ·
            refine rg ⟨by ( intros;simp only [inR];omega),trivial⟩ ?_
            exact hK5 (v5 - 1) zam zaw hR
          ·
            refine rg trivial ?_
            revert hR;refine cd (fun hc6 hR=>?_) fun hc6 hR=>?_
            ·
              refine rg ⟨⟨by (intros;omega),by (intros;omega)⟩,trivial⟩ ?_
              exact congrArg (C197L x0 x1 x2 x3) hR
            ·
              refine rg ⟨by ( intros;simp only [inR];omega),⟨by (((try clear hR);(try clear hK1);(try clear hK2);(try clear hK3);(try clear hK4);(try clear hK5);intros;(try simp only [w1,w2,w3,w4,w5,w6,zbs,inR,IntKind.bits] at *));omega),by (intros;omega)⟩,trivial⟩ ?_
              refine rg ⟨by ( intros;simp only [inR];omega),trivial⟩ ?_
              exact hK3 (v4+1,v5 - 1,(swp v3.2.2 v4 v5)) (by (((try clear hR);(try clear hK1);(try clear hK2);(try clear hK3);(try clear hK4);(try clear hK5);intros;(try simp only [w1,w2,w3,w4,w5,w6,zbs,inR,IntKind.bits] at *));(repeat' apply And.intro)<;>first | omega | ((repeat first | refine Sw.step ?_ _ _ om om)<;>first | exact hI3.2.1 | exact Sw.refl | exact hI3.2.1.mono om om))) zam hR
 exact FnM.go 107 Try.func197 zax zax (A197L x0 x1 x2 x3) zax (aux _ rfl)
def k197L (d:Nat) (ids:List Nat) (x0:SrtL) (x1:Int) (x2:Int) (x3:Int):Cl:=(hresM d ids (C197L x0 x1 x2 x3 (partL x0 x1 x2 x3)),k4 (zhe x0 x1 x2 x3))
end Go.Proofs.Ytaageiiodlfeiaa
