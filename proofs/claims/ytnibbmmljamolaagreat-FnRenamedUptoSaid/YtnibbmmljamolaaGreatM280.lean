import Derived.Test.YtnibbmmljamolaaGreatPR1
set_option maxHeartbeats 4000000
set_option linter.unusedSimpArgs false
set_option linter.unusedVariables false
namespace Go.Proofs.YtnibbmmljamolaaGreat
open Go Go.Lite Go.Proofs
structure yk where
  size:Int
  rows:List (List Int)
  deriving Inhabited
def zbn(fr:Bool)(x:yk):List LV:=cInt .i64 x.size++cSl fr 1 (cSl fr 1 (cInt .i64)) x.rows

def C99(R:Bool):LV×List (Nat×BC):=(.bool R,[])
def zde(x0:yk):Bool:=bif(((decide (x0.size<0))||(decide (40<x0.size)))||(!decide (((x0.rows.length:Nat):Int)=x0.size))) then false else(loopN (fun i1 (v1:Unit) nx1=>loopN (fun i2 (v2:Unit) next=>bif(((decide (((x0.rows.getD i1 default).getD i2 default)<0))||(decide (x0.size≤((x0.rows.getD i1 default).getD i2 default))))||((decide (0<((i2:Nat):Int)))&&(decide (((x0.rows.getD i1 default).getD i2 default)≤((x0.rows.getD i1 default).getD ((((i2:Nat):Int) - 1).toNat) default))))) then false else(next ())) (fun (v2:Unit)=>nx1 ()) ((x0.rows.getD i1 default).length) 0 ()) (fun (v1:Unit)=>true) x0.rows.length 0 ())
def D99b1(i1:Nat)(v1:Unit):Dl:=⟨[(26,.int .i64 ((i1:Nat):Int))],[]⟩
def D99b2(i2:Nat)(v2:Unit):Dl:=⟨[(32,.int .i64 ((i2:Nat):Int))],[]⟩
def A99b2(x0:yk)(i1:Nat)(i2:Nat)(v2:Unit):Ann:=let q2:=((i2:Nat):Int);let q3:=x0.rows.getD i1 default;let q4:=decide (0<q2);let q5:=q3.getD i2 default;let q6:=((q3.length:Nat):Int);let q1:=(decide (q5<0))||(decide (x0.size≤q5));let q7:=(!q1)&&q4;r0 1 [1,2,4,24,25,26,30,31,32,33] [1] (cn (decide (q2<q6)) (.reg 2 [] [] [1,2,4,24,25,26,30,31,32,57] [1] [!(decide (q5<0)),decide (q5<0),!q1,(!q1)&&q4,(decide (q5<0))||(decide (x0.size≤q5))] [pf (0≤(q2:Int)∧(q2:Int)<q6),gt q7 (pf (inR .i64 (q2 - 1))),gt q7 (pf (0≤(q2 - 1:Int)∧(q2 - 1:Int)<q6)),gt (!q1) (gt q4 (pf (q7=true)))] [] [0,1,1,1,6,9,9,13,4,13,13,8,13,13,13,9,12,18] (cn (q1||(q4&&(decide (q5≤(q3.getD ((q2 - 1).toNat) default))))) (r0 1 [1,2,4,24,25,26,30,31,32] [1] (rt [] (C99 false))) (r1 1 [1,2,4,24,25,26,30,31,32] [1] [pf (inR .i64 (q2+1))] [0] (.next 0 [] (D99b2 (i2+1) ()))))) (r1 1 [1,2,24,25,26] [1] [pf (inR .i64 (((i1:Nat):Int)+1))] [0] (.next 1 [] (D99b1 (i1+1) ()))))
def A99b1(x0:yk)(i1:Nat)(v1:Unit):Ann:=let q1:=((i1:Nat):Int);let q2:=((x0.rows.length:Nat):Int);r0 1 [1,2,24,25,26,27] [1] (cn (decide (q1<q2)) (r1 2 [1,2,4,24,25,26,30,31,32] [1] [pf (0≤(q1:Int)∧(q1:Int)<q2)] [0] (lp (D99b2) [] [] [] (D99b2 0 ()) (A99b2 x0 i1))) (r0 1 [2] [] (rt [] (C99 true))))
def A99(x0:yk):Ann:=let q1:=decide (x0.size<0);let q2:=decide (40<x0.size);r0 1 [1,2] [1] (.reg 1 [] [] [1,2,22] [1] [!q1,decide (x0.size<0),!(q1||q2),q1||q2] [] [] [1,1,6,9,9,9,9,9,14] (cn ((q1||q2)||(!decide (((x0.rows.length:Nat):Int)=x0.size))) (r0 1 [1,2] [1] (rt [] (C99 false))) (r0 1 [1,2,24,25,26] [1] (lp (D99b1) [] [] [] (D99b1 0 ()) (A99b1 x0)))))
theorem zk5(x0 : yk)(hx : x0.rows.length ≤ 1048576 ∧ ∀y ∈ x0.rows, y.length ≤ 1048576) : FnT Tryz.prog 99 [.agg (zbn false x0)] (C99 (zde x0)) := by
 have aux : ∀R, zde x0 = R → slim (C99 R) (A99 x0) [] := by
  intro R hR;refine rT ?_;refine rT ?_;refine cd (fun hc1 hR=>?_) (fun hc1 hR=>?_) hR
  ·refine rT ?_;exact oe C99 hR
  refine rT ?_;refine lN (fun i v=>True) vdg rfl (fun i1 v1 F1 hn1 hI1 hR hK1=>?_) hR;refine rT ?_;refine⟨fun hc2=>?_,fun hc2=>?_⟩
  ·have hii1 : i1 < x0.rows.length := vcI;replace hR := zai hR hii1;refine rg ⟨vc4, trivial⟩ ?_;refine lN (fun i v => True) vdg rfl (fun i2 v2 F2 hn2 hI2 hR hK2 => ?_) hR;refine rT ?_;refine ⟨fun hc3 => ?_, fun hc3 => ?_⟩
   ·have hii2 : i2 < (x0.rows.getD i1 default).length := vcJ;replace hR := zai hR hii2;refine rg ⟨vc4, by ((try clear hR hK1 hK2); intros; (try simp only [ob, oa, oj, oc, zar, zan, not_t_iff, od, inR] at *); (repeat' apply And.intro) <;> (first | (intros; omega) | (have h9 := hx.2 _ (zbf (d := default) hii1); omega))), va2, va2, trivial⟩ ?_;refine cd (fun hc4 hR => ?_) (fun hc4 hR => ?_) hR
    ·refine rT ?_;exact oe C99 hR
    refine rg ⟨by((try clear hR hK1 hK2);intros;(try simp only[ob,oa,oj,oc,zar,zan,not_t_iff,od,inR] at *);(repeat' apply And.intro)<;>(first|(intros;omega)|(have h9:=hx.2 _ (zbf (d:=default) hii1);omega))),trivial⟩ ?_;exact hK2 () hii2 vdg hR
   obtain rfl:i2=(x0.rows.getD i1 default).length:=(by have:=oB hc3;omega);replace hR:=zaq hR (oR _);refine rg ⟨vcx,trivial⟩ ?_;exact hK1 () hii1 vdg hR
  obtain rfl:i1=x0.rows.length:=by have:=oB hc2;omega
  replace hR:=zaq hR (oR _);refine rT ?_;exact oe C99 hR
 exact Fn.go 60 Tryz.func99 zaa zaa (by simp[C99,Frs,FrsL]) (A99 x0) zaa (aux _ rfl)
def k99(x0:yk):Cl:=(hres (C99 (zde x0)),k1 (zk5 x0))
def C65(R:Bool):LV×List (Nat×BC):=(.bool R,[])
def zmk(x0:yk)(x1:yk):Bool:=((zde x0)&&(zde x1))&&(decide (x0.size=x1.size))
def A65(x0:yk)(x1:yk):Ann:=let q1:=zde x0;.reg 2 [] [(1001,k99 x0),(1004,cg q1 (k99 x1))] [4] [] [zde x0,q1&&(zde x1)] [] [] [0,1,4,1,5,5,5,5,5] (rt [] (C65 ((q1&&(zde x1))&&(decide (x0.size=x1.size)))))
theorem zvd(x0:yk)(x1:yk)(hx:x0.rows.length≤1048576∧∀y∈x0.rows,y.length≤1048576)(hy:x1.rows.length≤1048576∧∀y∈x1.rows,y.length≤1048576):FnT Tryz.prog 65 [.agg (zbn false x0),.agg (zbn false x1)] (C65 (zmk x0 x1)):=by have aux:∀R,zmk x0 x1=R→slim (C65 R) (A65 x0 x1) []:=(by intro R hR;refine rg ⟨vdg,fun hg0=>by trivial,trivial⟩ ?_;exact oe C65 hR);exact Fn.go 18 Tryz.func65 zaa zaa (by simp[C65,Frs,FrsL]) (A65 x0 x1) zaa (aux _ rfl)
def k65(x0:yk)(x1:yk):Cl:=(hres (C65 (zmk x0 x1)),k2 (zvd x0 x1))
def C67(R:Bool):LV×List (Nat×BC):=(.bool R,[])
def zt9(x0:List Int)(x1:Int):Bool:=loopN (fun i1 (v1:Unit) next=>bif(decide ((x0.getD i1 default)=x1)) then true else(next ())) (fun (v1:Unit)=>false) x0.length 0 ()
def D67b1(i1:Nat)(v1:Unit):Dl:=⟨[(9,.int .i64 ((i1:Nat):Int))],[]⟩
def A67b1(x0:List Int)(x1:Int)(i1:Nat)(v1:Unit):Ann:=let q1:=((i1:Nat):Int);let q2:=((x0.length:Nat):Int);r0 1 [1,4,7,8,9,10] [] (cn (decide (q1<q2)) (r1 2 [1,4,7,8,9,15] [] [pf (0≤(q1:Int)∧(q1:Int)<q2)] [0] (cn (decide ((x0.getD i1 default)=x1)) (r0 1 [1,4,7,8,9] [] (rt [] (C67 true))) (r1 1 [1,4,7,8,9] [] [pf (inR .i64 (q1+1))] [0] (.next 0 [] (D67b1 (i1+1) ()))))) (r0 1 [4] [] (rt [] (C67 false))))
def A67(x0:List Int)(x1:Int):Ann:=r0 1 [0,1,4] [] (r0 1 [1,4,7,8,9] [] (lp (D67b1) [] [] [] (D67b1 0 ()) (A67b1 x0 x1)))
theorem zp8(x0 : List Int)(x1 : Int)(hx : x0.length ≤ 1048576) : FnT Tryz.prog 67 [.ro false 1 x0.length (rowOf (cInt .i64) x0), .int .i64 x1] (C67 (zt9 x0 x1)) := by
 have aux : ∀R, zt9 x0 x1 = R → slim (C67 R) (A67 x0 x1) [] := by
  intro R hR;refine rT ?_;refine rT ?_;refine lN (fun i v=>True) vdg rfl (fun i1 v1 F1 hn1 hI1 hR hK1=>?_) hR;refine rT ?_;refine⟨fun hc1=>?_,fun hc1=>?_⟩
  ·have hii1 : i1 < x0.length := vcH;replace hR := zai hR hii1;refine rg ⟨vc4, trivial⟩ ?_;refine cd (fun hc2 hR => ?_) (fun hc2 hR => ?_) hR
   ·refine rT ?_;exact oe C67 hR
   refine rg ⟨vcx,trivial⟩ ?_;exact hK1 () hii1 vdg hR
  obtain rfl:i1=x0.length:=by have:=oB hc1;omega
  replace hR:=zaq hR (oR _);refine rT ?_;exact oe C67 hR
 exact Fn.go 17 Tryz.func67 zaa zaa (by simp[C67,Frs,FrsL]) (A67 x0 x1) zaa (aux _ rfl)
def k67(x0:List Int)(x1:Int):Cl:=(hres (C67 (zt9 x0 x1)),k1 (zp8 x0 x1))
def C37(R:Bool):LV×List (Nat×BC):=(.bool R,[])
def zge(x0:Int)(x1:Int)(x2:yj)(x3:yc):Bool:=(decide (x0=x1))&&((decide (x2.ego=0))||(decide (((x3.people.getD x0.toNat default).sex)=x2.ego)))
def A37(x0:Int)(x1:Int)(x2:yj)(x3:yc):Ann:=let q2:=decide (x0=x1);let q1:=decide (x2.ego=0);.reg 2 [] [] [6] [] [decide (x0=x1),q2&&(!q1)] [gt (q2&&(!q1)) (pf (0≤(x0:Int)∧(x0:Int)<((x3.people.length:Nat):Int))),gt q2 (gf q1 (pf ((q2&&(!q1))=true)))] [] [1,1,1,5,5,5,0,5,5,5,5,5,1,4,1] (rt [] (C37 (q2&&(q1||(decide (((x3.people.getD x0.toNat default).sex)=x2.ego))))))
theorem zir(x0:Int)(x1:Int)(x2:yj)(x3:yc)(h:0≤x0∧x0<x3.people.length)(hx:x3.people.length≤1048576):FnT Tryz.prog 37 [.int .i64 x0,.int .i64 x1,.ep [.int .i64 x2.ego,.ro false 2 x2.steps.length (rowOf (cStep false) x2.steps)] 0,.ep [.ro false 6 x3.people.length (rowOf (zah false) x3.people),.ro false 4 x3.unions.length (rowOf (zas false) x3.unions)] 0] (C37 (zge x0 x1 x2 x3)):=by have aux:∀R,zge x0 x1 x2 x3=R→slim (C37 R) (A37 x0 x1 x2 x3) []:=(by intro R hR;refine rg ⟨vc6,vbj,trivial⟩ ?_;exact oe C37 hR);exact Fn.go 26 Tryz.func37 zaa zaa (by simp[C37,Frs,FrsL]) (A37 x0 x1 x2 x3) zaa (aux _ rfl)
def k37(x0:Int)(x1:Int)(x2:yj)(x3:yc):Cl:=(hres (C37 (zge x0 x1 x2 x3)),k2 (zir x0 x1 x2 x3))
def C66(R:Bool):LV×List (Nat×BC):=(.bool R,[])
def zfn(x0:Int)(x1:Int)(x2:yk)(x3:yk):Bool:=loopN (fun i1 (v1:Unit) next=>bif(zt9 (x3.rows.getD (((x2.rows.getD x0.toNat default).getD i1 default).toNat) default) x1) then true else(next ())) (fun (v1:Unit)=>false) ((x2.rows.getD x0.toNat default).length) 0 ()
def D66b1(i1:Nat)(v1:Unit):Dl:=⟨[(15,.int .i64 ((i1:Nat):Int))],[]⟩
def A66b1(x0:Int)(x1:Int)(x2:yk)(x3:yk)(i1:Nat)(v1:Unit):Ann:=let q3:=((i1:Nat):Int);let q1:=x2.rows.getD x0.toNat default;let q2:=q1.getD i1 default;let q5:=((q1.length:Nat):Int);let q4:=x3.rows.getD (q2.toNat) default;r0 1 [1,3,6,13,14,15,16] [] (cn (decide (q3<q5)) (.reg 2 [] [(1006,k67 q4 x1)] [1,3,6,13,14,15,25] [] [] [pf (0≤(q3:Int)∧(q3:Int)<q5),pf (0≤(q2:Int)∧(q2:Int)<((x3.rows.length:Nat):Int))] [] [0,4,8] (cn (zt9 q4 x1) (r0 1 [1,3,6,13,14,15] [] (rt [] (C66 true))) (r1 1 [1,3,6,13,14,15] [] [pf (inR .i64 (q3+1))] [0] (.next 0 [] (D66b1 (i1+1) ()))))) (r0 1 [6] [] (rt [] (C66 false))))
def A66(x0:Int)(x1:Int)(x2:yk)(x3:yk):Ann:=r0 1 [0,1,2,3,6] [] (r1 1 [1,3,6,13,14,15] [] [pf (0≤(x0:Int)∧(x0:Int)<((x2.rows.length:Nat):Int))] [0] (lp (D66b1) [] [] [] (D66b1 0 ()) (A66b1 x0 x1 x2 x3)))
theorem zgr(x0 : Int)(x1 : Int)(x2 : yk)(x3 : yk)(h : 0 ≤ x0 ∧ x0 < x2.rows.length)(hr : ∀y ∈ x2.rows, y.length ≤ 1048576 ∧ ∀b ∈ y, 0 ≤ b ∧ b < x3.rows.length)(hs : ∀y ∈ x3.rows, y.length ≤ 1048576) : FnT Tryz.prog 66 [.int .i64 x0, .int .i64 x1, .ep [.int .i64 x2.size, .ro false 1 x2.rows.length (rowOf (cSl false 1 (cInt .i64)) x2.rows)] 0, .ep [.int .i64 x3.size, .ro false 1 x3.rows.length (rowOf (cSl false 1 (cInt .i64)) x3.rows)] 0] (C66 (zfn x0 x1 x2 x3)) := by
 have aux : ∀R, zfn x0 x1 x2 x3 = R → slim (C66 R) (A66 x0 x1 x2 x3) [] := by
  intro R hR;refine rT ?_;refine rg ⟨vdg,trivial⟩ ?_;refine lN (fun i v=>True) vdg rfl (fun i1 v1 F1 hn1 hI1 hR hK1=>?_) hR;refine rT ?_;refine⟨fun hc1=>?_,fun hc1=>?_⟩
  ·have hii1 : i1 < (x2.rows.getD x0.toNat default).length := vcH;replace hR := zai hR hii1;refine rg ⟨vc4, by (have h9 := (hr _ (zbf (d := default) (l := x2.rows) (k := x0.toNat) vdh)).2 _ (zbf (d := default) hii1); omega), by (have h9 := (hr _ (zbf (d := default) (l := x2.rows) (k := x0.toNat) vdh)).2 _ (zbf (d := default) hii1); exact hs _ (zbf (d := default) vdh)), trivial⟩ ?_;refine cd (fun hc2 hR => ?_) (fun hc2 hR => ?_) hR
   ·refine rT ?_;exact oe C66 hR
   refine rg ⟨by((try clear hR hK1);intros;(try simp only[ob,oa,oj,oc,zar,zan,not_t_iff,od,inR] at *);(repeat' apply And.intro)<;>(first|(intros;omega)|(have h9:=hr _ (zbf (d:=default) (l:=x2.rows) (k:=x0.toNat) vdh);omega))),trivial⟩ ?_;exact hK1 () hii1 vdg hR
  obtain rfl:i1=(x2.rows.getD x0.toNat default).length:=by have:=oB hc1;omega
  replace hR:=zaq hR (oR _);refine rT ?_;exact oe C66 hR
 exact Fn.go 27 Tryz.func66 zaa zaa (by simp[C66,Frs,FrsL]) (A66 x0 x1 x2 x3) zaa (aux _ rfl)
def k66(x0:Int)(x1:Int)(x2:yk)(x3:yk):Cl:=(hres (C66 (zfn x0 x1 x2 x3)),k3 (zgr x0 x1 x2 x3))
def C36F(R:yk):LV×List (Nat×BC):=(.agg [.int .i64 R.size,.own 0],[(0,.nest 1 true 1 R.rows.length (nrOf (cInt .i64) R.rows))])
def zee(x0:Int)(x1:yj×yc):yk:=loopN (fun i1 (v1:(List (List Int))) nx1=>loopN (fun i2 (v2:(List Int)) next=>bif(zge ((i1:Nat):Int) ((i2:Nat):Int) x1.1 x1.2) then(next (v2++[((i2:Nat):Int)])) else(next v2)) (fun (v2:(List Int))=>nx1 (v1++[v2])) x0.toNat 0 ([]:List Int)) (fun (v1:(List (List Int)))=>(yk.mk x0 v1)) x0.toNat 0 ([]:List (List Int))
def z1q(x0:Int)(i1:Nat)(v1:(List (List Int))):Dl:=⟨[(12,.int .i64 ((i1:Nat):Int))],[(30501,.nest 1 true 1 v1.length (nrOf (cInt .i64) v1)),(5,.var [.int .i64 x0,.own 30501])]⟩
def zx5(i2:Nat)(v2:(List Int)):Dl:=⟨[(16,.int .i64 ((i2:Nat):Int)),(7,.own 20007)],[(20007,.arr 1 v2.length (rowOf (cInt .i64) v2))]⟩
def A36Fb2(x0:Int)(x1:yj×yc)(i1:Nat)(v1:(List (List Int)))(i2:Nat)(v2:(List Int)):Ann:=let q1:=((i2:Nat):Int);let q2:=((i1:Nat):Int);r0 1 [0,1,4,5,6,7,11,12,15,16,17] [4,5,20007,30501] (cn (decide (q1<x0)) (.reg 2 [] [(1003,k37 q2 q1 x1.1 x1.2)] [0,1,4,5,6,7,8,11,12,15,16,22] [4,5,20007,30501] [] [] [] [0] (cn (zge q2 q1 x1.1 x1.2) (.reg 1 [] [(2,bsC 25 (cInt .i64) ([q1]:List Int)),(3,ap1 26 (cInt .i64) 8 v2 q1)] [0,1,4,5,6,7,11,12,15,16] [4,5,26,30501] [] [] [] [0,4] (r1 1 [0,1,4,5,6,7,11,12,15,16] [4,5,26,30501] [pf (inR .i64 (q1+1))] [0] (.next 0 [(20007,some 26)] (zx5 (i2+1) (v2++[q1]))))) (r1 1 [0,1,4,5,6,7,11,12,15,16] [4,5,20007,30501] [pf (inR .i64 (q1+1))] [0] (.next 0 [(20007,some 20007)] (zx5 (i2+1) v2))))) (.reg 1 [] [(3,nB1 (cInt .i64) v2),(4,nA1 (cInt .i64) v1 v2 24)] [0,1,4,5,11,12] [4,5,32] [] [] [] [0,4] (r1 1 [0,1,4,5,11,12] [4,5,32] [pf (inR .i64 (q2+1))] [0] (.next 1 [(30501,some 32)] (z1q x0 (i1+1) (v1++[v2]))))))
def A36Fb1(x0:Int)(x1:yj×yc)(i1:Nat)(v1:(List (List Int))):Ann:=r0 1 [0,1,4,5,11,12,13] [4,5,30501] (cn (decide (((i1:Nat):Int)<x0)) (r0 2 [0,1,4,5,6,7,11,12] [4,5,30501] (r0 1 [0,1,4,5,6,7,11,12,15,16] [4,5,30501] (lp (zx5) [] [] [(20007,none)] (zx5 0 ([]:List Int)) (A36Fb2 x0 x1 i1 v1)))) (r0 1 [4] [4,30501] (rt [(0,some 30501)] (C36F (yk.mk x0 v1)))))
def A36F(x0:Int)(x1:yj×yc):Ann:=r0 2 [0,1,4,5] [4,5] (r0 1 [0,1,4,5,11,12] [4,5] (lp (z1q x0) [] [] [(30501,none)] (z1q x0 0 ([]:List (List Int))) (A36Fb1 x0 x1)))
theorem zl3(x0 : Int)(x1 : yj × yc)(hn : 0 ≤ x0 ∧ x0 ≤ x1.2.people.length)(hx : x1.2.people.length ≤ 1048576) : FnT Tryz.prog 36 [.int .i64 x0, .clo 37 [.ep [.int .i64 x1.1.ego, .ro false 2 x1.1.steps.length (rowOf (cStep false) x1.1.steps)] 0, .ep [.ro false 6 x1.2.people.length (rowOf (zah false) x1.2.people), .ro false 4 x1.2.unions.length (rowOf (zas false) x1.2.unions)] 0]] (C36F (zee x0 x1)) := by
 have aux : ∀R, zee x0 x1 = R → slim (C36F R) (A36F x0 x1) [] := by
  intro R hR;refine rT ?_;refine rT ?_;refine lN (fun i v=>(v:List (List Int)).length=i) vdg rfl (fun i1 v1 F1 hn1 hI1 hR hK1=>?_) hR;refine rT ?_;refine⟨fun hc1=>?_,fun hc1=>?_⟩
  ·have hii1 : i1 < x0.toNat := vcH;replace hR := zai hR hii1;refine rT ?_;refine rT ?_;refine lN (fun i v => (v : List Int).length ≤ i) vdg rfl (fun i2 v2 F2 hn2 hI2 hR hK2 => ?_) hR;refine rT ?_;refine ⟨fun hc2 => ?_, fun hc2 => ?_⟩
   ·have hii2 : i2 < x0.toNat := vcI;replace hR := zai hR hii2;refine rg ⟨⟨vc4, vdg⟩, trivial⟩ ?_;refine cd (fun hc3 hR => ?_) (fun hc3 hR => ?_) hR
    ·refine rg ⟨trivial, vdh, trivial⟩ ?_;refine rg ⟨vcq, trivial⟩ ?_;exact hK2 (v2 ++ [((i2 : Nat) : Int)]) hii2 vaW hR
    refine rg ⟨vcx,trivial⟩ ?_;exact hK2 v2 hii2 vc6 hR
   obtain rfl:i2=x0.toNat:=vcP;replace hR:=zaq hR (oR _);refine rg ⟨trivial,vdh,trivial⟩ ?_;refine rg ⟨vcx,trivial⟩ ?_;exact hK1 (v1++[v2]) hii1 va6 hR
  obtain rfl:i1=x0.toNat:=by have:=oB hc1;omega
  replace hR:=zaq hR (oR _);refine rT ?_;exact oe C36F hR
 exact Fn.go 36 Tryz.func36 zaa zaa (by simp[C36F,FrsN,nrOf,Frs,FrsL,FrsB,rowOf,cInt,cBool,cStr,cSl,zbd,zah,zas,zaw,cDyad,cLaw,zcc,zcq,ze6,zdu,cStep,zc7,zbn]) (A36F x0 x1) zaa (aux _ rfl)
def k36F(x0:Int)(x1:yj×yc):Cl:=(hres (C36F (zee x0 x1)),k2 (zl3 x0 x1))
def C36C(R:yk):LV×List (Nat×BC):=(.agg [.int .i64 R.size,.own 0],[(0,.nest 1 true 1 R.rows.length (nrOf (cInt .i64) R.rows))])
def zjc(x0:Int)(x1:yk×yk):yk:=loopN (fun i1 (v1:(List (List Int))) nx1=>loopN (fun i2 (v2:(List Int)) next=>bif(zfn ((i1:Nat):Int) ((i2:Nat):Int) x1.1 x1.2) then(next (v2++[((i2:Nat):Int)])) else(next v2)) (fun (v2:(List Int))=>nx1 (v1++[v2])) x0.toNat 0 ([]:List Int)) (fun (v1:(List (List Int)))=>(yk.mk x0 v1)) x0.toNat 0 ([]:List (List Int))
def z1r(x0:Int)(i1:Nat)(v1:(List (List Int))):Dl:=⟨[(12,.int .i64 ((i1:Nat):Int))],[(30501,.nest 1 true 1 v1.length (nrOf (cInt .i64) v1)),(5,.var [.int .i64 x0,.own 30501])]⟩
def zx6(i2:Nat)(v2:(List Int)):Dl:=⟨[(16,.int .i64 ((i2:Nat):Int)),(7,.own 20007)],[(20007,.arr 1 v2.length (rowOf (cInt .i64) v2))]⟩
def A36Cb2(x0:Int)(x1:yk×yk)(i1:Nat)(v1:(List (List Int)))(i2:Nat)(v2:(List Int)):Ann:=let q1:=((i2:Nat):Int);let q2:=((i1:Nat):Int);r0 1 [0,1,4,5,6,7,11,12,15,16,17] [4,5,20007,30501] (cn (decide (q1<x0)) (.reg 2 [] [(1003,k66 q2 q1 x1.1 x1.2)] [0,1,4,5,6,7,8,11,12,15,16,22] [4,5,20007,30501] [] [] [] [0] (cn (zfn q2 q1 x1.1 x1.2) (.reg 1 [] [(2,bsC 25 (cInt .i64) ([q1]:List Int)),(3,ap1 26 (cInt .i64) 8 v2 q1)] [0,1,4,5,6,7,11,12,15,16] [4,5,26,30501] [] [] [] [0,4] (r1 1 [0,1,4,5,6,7,11,12,15,16] [4,5,26,30501] [pf (inR .i64 (q1+1))] [0] (.next 0 [(20007,some 26)] (zx6 (i2+1) (v2++[q1]))))) (r1 1 [0,1,4,5,6,7,11,12,15,16] [4,5,20007,30501] [pf (inR .i64 (q1+1))] [0] (.next 0 [(20007,some 20007)] (zx6 (i2+1) v2))))) (.reg 1 [] [(3,nB1 (cInt .i64) v2),(4,nA1 (cInt .i64) v1 v2 24)] [0,1,4,5,11,12] [4,5,32] [] [] [] [0,4] (r1 1 [0,1,4,5,11,12] [4,5,32] [pf (inR .i64 (q2+1))] [0] (.next 1 [(30501,some 32)] (z1r x0 (i1+1) (v1++[v2]))))))
def A36Cb1(x0:Int)(x1:yk×yk)(i1:Nat)(v1:(List (List Int))):Ann:=r0 1 [0,1,4,5,11,12,13] [4,5,30501] (cn (decide (((i1:Nat):Int)<x0)) (r0 2 [0,1,4,5,6,7,11,12] [4,5,30501] (r0 1 [0,1,4,5,6,7,11,12,15,16] [4,5,30501] (lp (zx6) [] [] [(20007,none)] (zx6 0 ([]:List Int)) (A36Cb2 x0 x1 i1 v1)))) (r0 1 [4] [4,30501] (rt [(0,some 30501)] (C36C (yk.mk x0 v1)))))
def A36C(x0:Int)(x1:yk×yk):Ann:=r0 2 [0,1,4,5] [4,5] (r0 1 [0,1,4,5,11,12] [4,5] (lp (z1r x0) [] [] [(30501,none)] (z1r x0 0 ([]:List (List Int))) (A36Cb1 x0 x1)))
theorem zl4(x0 : Int)(x1 : yk × yk)(hn : 0 ≤ x0 ∧ x0 ≤ x1.1.rows.length ∧ x0 ≤ 1048576)(hr : ∀y ∈ x1.1.rows, y.length ≤ 1048576 ∧ ∀b ∈ y, 0 ≤ b ∧ b < x1.2.rows.length)(hs : ∀y ∈ x1.2.rows, y.length ≤ 1048576) : FnT Tryz.prog 36 [.int .i64 x0, .clo 66 [.ep [.int .i64 x1.1.size, .ro false 1 x1.1.rows.length (rowOf (cSl false 1 (cInt .i64)) x1.1.rows)] 0, .ep [.int .i64 x1.2.size, .ro false 1 x1.2.rows.length (rowOf (cSl false 1 (cInt .i64)) x1.2.rows)] 0]] (C36C (zjc x0 x1)) := by
 have aux : ∀R, zjc x0 x1 = R → slim (C36C R) (A36C x0 x1) [] := by
  intro R hR;refine rT ?_;refine rT ?_;refine lN (fun i v=>(v:List (List Int)).length=i) vdg rfl (fun i1 v1 F1 hn1 hI1 hR hK1=>?_) hR;refine rT ?_;refine⟨fun hc1=>?_,fun hc1=>?_⟩
  ·have hii1 : i1 < x0.toNat := vcH;replace hR := zai hR hii1;refine rT ?_;refine rT ?_;refine lN (fun i v => (v : List Int).length ≤ i) vdg rfl (fun i2 v2 F2 hn2 hI2 hR hK2 => ?_) hR;refine rT ?_;refine ⟨fun hc2 => ?_, fun hc2 => ?_⟩
   ·have hii2 : i2 < x0.toNat := vcI;replace hR := zai hR hii2;refine rg ⟨⟨vc4, vdg, vdg⟩, trivial⟩ ?_;refine cd (fun hc3 hR => ?_) (fun hc3 hR => ?_) hR
    ·refine rg ⟨trivial, vdh, trivial⟩ ?_;refine rg ⟨vcq, trivial⟩ ?_;exact hK2 (v2 ++ [((i2 : Nat) : Int)]) hii2 vaW hR
    refine rg ⟨vcx,trivial⟩ ?_;exact hK2 v2 hii2 vc6 hR
   obtain rfl:i2=x0.toNat:=vcP;replace hR:=zaq hR (oR _);refine rg ⟨trivial,vdh,trivial⟩ ?_;refine rg ⟨vcx,trivial⟩ ?_;exact hK1 (v1++[v2]) hii1 va6 hR
  obtain rfl:i1=x0.toNat:=by have:=oB hc1;omega
  replace hR:=zaq hR (oR _);refine rT ?_;exact oe C36C hR
 exact Fn.go 36 Tryz.func36 zaa zaa (by simp[C36C,FrsN,nrOf,Frs,FrsL,FrsB,rowOf,cInt,cBool,cStr,cSl,zbd,zah,zas,zaw,cDyad,cLaw,zcc,zcq,ze6,zdu,cStep,zc7,zbn]) (A36C x0 x1) zaa (aux _ rfl)
def k36C(x0:Int)(x1:yk×yk):Cl:=(hres (C36C (zjc x0 x1)),k3 (zl4 x0 x1))
def C68(R:Bool):LV×List (Nat×BC):=(.bool R,[])
def zex(x0:Int)(x1:Int)(x2:yc)(x3:yi)(x4:KV→Option Bool):Bool:=bif(decide (x3.kind=1)) then(decide (((x2.people.getD x0.toNat default).father)=x1)) else(bif(decide (x3.kind=2)) then(decide (((x2.people.getD x0.toNat default).mother)=x1)) else(bif(decide (x3.kind=3)) then(bif(decide (x3.kind=3)) then((((decide (((x2.people.getD x1.toNat default).sex)=(ze8 x3.kind)))&&(zgp x2 x0 x1))&&((!decide (x3.age=1))||(zag x2 x1 x0)))&&((!decide (x3.age=2))||(zag x2 x0 x1))) else(bif(decide (x3.kind=5)) then(bif(decide (x3.kind=5)) then((decide (((x2.people.getD x1.toNat default).sex)=(ze8 x3.kind)))&&(zbu x2 x0 x1)) else((x4 (KV.p x0 x1)).getD false)) else(bif(decide (x3.kind=6)) then((decide (((x2.people.getD x1.toNat default).sex)=(ze8 x3.kind)))&&(zbu x2 x0 x1)) else((x4 (KV.p x0 x1)).getD false)))) else(bif(decide (x3.kind=4)) then((((decide (((x2.people.getD x1.toNat default).sex)=(ze8 x3.kind)))&&(zgp x2 x0 x1))&&((!decide (x3.age=1))||(zag x2 x1 x0)))&&((!decide (x3.age=2))||(zag x2 x0 x1))) else(bif(decide (x3.kind=5)) then(bif(decide (x3.kind=5)) then((decide (((x2.people.getD x1.toNat default).sex)=(ze8 x3.kind)))&&(zbu x2 x0 x1)) else((x4 (KV.p x0 x1)).getD false)) else(bif(decide (x3.kind=6)) then((decide (((x2.people.getD x1.toNat default).sex)=(ze8 x3.kind)))&&(zbu x2 x0 x1)) else((x4 (KV.p x0 x1)).getD false))))))
def A68(x0:Int)(x1:Int)(x2:yc)(x3:yi)(x4:KV→Option Bool):Ann:=let q5:=!decide (x3.age=1);let q6:=!decide (x3.age=2);let q11:=x2.people.getD x0.toNat default;let q12:=q5||(zag x2 x1 x0);let q1:=((x2.people.getD x1.toNat default).sex)=(ze8 x3.kind);let q7:=(0≤(x0:Int)∧(x0:Int)<((x2.people.length:Nat):Int));let q13:=decide q1;let q4:=q13&&(zgp x2 x0 x1);let q2:=q4&&q12;let q9:=gf q5 (pf ((q4&&(!q5))=true));let q8:=rt [] (C68 (q2&&(q6||(zag x2 x0 x1))));let q10:=gf q6 (pf ((q2&&(!q6))=true));let q3:=(r0 1 [0,1,2,4,7,8,20,73] [] (cn (decide (x3.kind=5)) (cn (decide (x3.kind=5)) (.reg 1 [] [(5,cg q13 (k47 x2 x0 x1))] [0,1,4,7] [] [decide q1] [] [] [1,1,1,0,1] (rt [] (C68 (q13&&(zbu x2 x0 x1))))) (r0 1 [7] [] (rt [] (C68 ((x4 (KV.p x0 x1)).getD false))))) (r0 1 [0,1,2,4,7,8,73] [] (cn (decide (x3.kind=6)) (.reg 1 [] [(5,cg q13 (k47 x2 x0 x1))] [0,1,4,7] [] [decide q1] [] [] [1,1,1,0,1] (rt [] (C68 (q13&&(zbu x2 x0 x1))))) (r0 1 [7] [] (rt [] (C68 ((x4 (KV.p x0 x1)).getD false))))))));.reg 2 [] [(1008,k64 x3.kind)] [0,1,2,3,4,7,8] [] [] [pf (0≤(x1:Int)∧(x1:Int)<((x2.people.length:Nat):Int))] [] [0,4] (r0 1 [0,1,2,3,4,7,8,20] [] (r0 1 [0,1,2,3,4,7,8,20,21] [] (cn (decide (x3.kind=1)) (r1 1 [0,1,4,7] [] [pf q7] [0] (rt [] (C68 (decide ((q11.father)=x1))))) (r0 1 [0,1,2,3,4,7,8,20,31] [] (cn (decide (x3.kind=2)) (r1 1 [0,1,4,7] [] [pf q7] [0] (rt [] (C68 (decide ((q11.mother)=x1))))) (r0 1 [0,1,2,3,4,7,8,20,41] [] (cn (decide (x3.kind=3)) (cn (decide (x3.kind=3)) (.reg 1 [] [(5,cg q13 (k69 x2 x0 x1)),(15,cg (q4&&(!q5)) (k70 x2 x1 x0)),(26,cg (q2&&(!q6)) (k70 x2 x0 x1))] [0,1,4,7] [] [decide q1,q13&&(zgp x2 x0 x1),q4&&(!q5),q4&&q12,q2&&(!q6)] [gt q4 q9,gt q2 q10] [] [1,1,1,8,1,5,5,5,9,9,9,12,5,0,5,13,13,13,17,17,17,16,13,4,13] q8) q3) (r0 1 [0,1,2,3,4,7,8,20,41] [] (cn (decide (x3.kind=4)) (.reg 1 [] [(5,cg q13 (k69 x2 x0 x1)),(15,cg (q4&&(!q5)) (k70 x2 x1 x0)),(26,cg (q2&&(!q6)) (k70 x2 x0 x1))] [0,1,4,7] [] [decide q1,q13&&(zgp x2 x0 x1),q4&&(!q5),q4&&q12,q2&&(!q6)] [gt q4 q9,gt q2 q10] [] [1,1,1,8,1,5,5,5,9,9,9,12,5,0,5,13,13,13,17,17,17,16,13,4,13] q8) q3)))))))))
theorem zih(x0 : Int)(x1 : Int)(x2 : yc)(x3 : yi)(x4 : KV → Option Bool)(ha : 0 ≤ x0 ∧ x0 < x2.people.length)(hb : 0 ≤ x1 ∧ x1 < x2.people.length)(hx : x2.people.length ≤ 1048576) : FnT Tryz.prog 68 [.int .i64 x0, .int .i64 x1, .ep [.ro false 6 x2.people.length (rowOf (zah false) x2.people), .ro false 4 x2.unions.length (rowOf (zas false) x2.unions)] 0, .ep [.int .i64 x3.kind, .int .i64 x3.age] 0, .ep [.rm .pair (.b x4)] 0] (C68 (zex x0 x1 x2 x3 x4)) := by
 have aux : ∀R, zex x0 x1 x2 x3 x4 = R → slim (C68 R) (A68 x0 x1 x2 x3 x4) [] := by
  intro R hR;refine rg ⟨vdg,trivial,trivial⟩ ?_;refine rT ?_;refine rT ?_;refine cd (fun hc1 hR=>?_) (fun hc1 hR=>?_) hR
  ·refine rg ⟨vdg, trivial⟩ ?_;exact oe C68 hR
  refine rT ?_;refine cd (fun hc2 hR=>?_) (fun hc2 hR=>?_) hR
  ·refine rg ⟨vdg, trivial⟩ ?_;exact oe C68 hR
  refine rT ?_;refine cd (fun hc3 hR=>?_) (fun hc3 hR=>?_) hR
  ·refine cd (fun hc4 hR => ?_) (fun hc4 hR => ?_) hR
   ·refine rg ⟨vaR, vaR, fun hg0 => ⟨vdg, vdg, vdg⟩, fun hg0 => ⟨vdg, vdg⟩, fun hg0 => ⟨vdg, vdg⟩, trivial⟩ ?_;exact oe C68 hR
   refine rT ?_;refine cd (fun hc5 hR=>?_) (fun hc5 hR=>?_) hR
   ·refine cd (fun hc6 hR => ?_) (fun hc6 hR => ?_) hR
    ·refine rg ⟨fun hg0 => by trivial, trivial⟩ ?_;exact oe C68 hR
    refine rT ?_;exact oe C68 hR
   refine rT ?_;refine cd (fun hc7 hR=>?_) (fun hc7 hR=>?_) hR
   ·refine rg ⟨fun hg0 => by trivial, trivial⟩ ?_;exact oe C68 hR
   refine rT ?_;exact oe C68 hR
  refine rT ?_;refine cd (fun hc8 hR=>?_) (fun hc8 hR=>?_) hR
  ·refine rg ⟨vaR, vaR, fun hg0 => ⟨vdg, vdg, vdg⟩, fun hg0 => ⟨vdg, vdg⟩, fun hg0 => ⟨vdg, vdg⟩, trivial⟩ ?_;exact oe C68 hR
  refine rT ?_;refine cd (fun hc9 hR=>?_) (fun hc9 hR=>?_) hR
  ·refine cd (fun hc10 hR => ?_) (fun hc10 hR => ?_) hR
   ·refine rg ⟨fun hg0 => by trivial, trivial⟩ ?_;exact oe C68 hR
   refine rT ?_;exact oe C68 hR
  refine rT ?_;refine cd (fun hc11 hR=>?_) (fun hc11 hR=>?_) hR
  ·refine rg ⟨fun hg0 => by trivial, trivial⟩ ?_;exact oe C68 hR
  refine rT ?_;exact oe C68 hR
 exact Fn.go 88 Tryz.func68 zaa zaa (by simp[C68,Frs,FrsL]) (A68 x0 x1 x2 x3 x4) zaa (aux _ rfl)
def k68(x0:Int)(x1:Int)(x2:yc)(x3:yi)(x4:KV→Option Bool):Cl:=(hres (C68 (zex x0 x1 x2 x3 x4)),k3 (zih x0 x1 x2 x3 x4))
def C36S(R:yk):LV×List (Nat×BC):=(.agg [.int .i64 R.size,.own 0],[(0,.nest 1 true 1 R.rows.length (nrOf (cInt .i64) R.rows))])
def zfm(x0:Int)(x1:yc×yi×(KV→Option Bool)):yk:=loopN (fun i1 (v1:(List (List Int))) nx1=>loopN (fun i2 (v2:(List Int)) next=>bif(zex ((i1:Nat):Int) ((i2:Nat):Int) x1.1 x1.2.1 x1.2.2) then(next (v2++[((i2:Nat):Int)])) else(next v2)) (fun (v2:(List Int))=>nx1 (v1++[v2])) x0.toNat 0 ([]:List Int)) (fun (v1:(List (List Int)))=>(yk.mk x0 v1)) x0.toNat 0 ([]:List (List Int))
def z1p(x0:Int)(i1:Nat)(v1:(List (List Int))):Dl:=⟨[(12,.int .i64 ((i1:Nat):Int))],[(30501,.nest 1 true 1 v1.length (nrOf (cInt .i64) v1)),(5,.var [.int .i64 x0,.own 30501])]⟩
def zx4(i2:Nat)(v2:(List Int)):Dl:=⟨[(16,.int .i64 ((i2:Nat):Int)),(7,.own 20007)],[(20007,.arr 1 v2.length (rowOf (cInt .i64) v2))]⟩
def A36Sb2(x0:Int)(x1:yc×yi×(KV→Option Bool))(i1:Nat)(v1:(List (List Int)))(i2:Nat)(v2:(List Int)):Ann:=let q1:=((i2:Nat):Int);let q2:=((i1:Nat):Int);r0 1 [0,1,4,5,6,7,11,12,15,16,17] [4,5,20007,30501] (cn (decide (q1<x0)) (.reg 2 [] [(1003,k68 q2 q1 x1.1 x1.2.1 x1.2.2)] [0,1,4,5,6,7,8,11,12,15,16,22] [4,5,20007,30501] [] [] [] [0] (cn (zex q2 q1 x1.1 x1.2.1 x1.2.2) (.reg 1 [] [(2,bsC 25 (cInt .i64) ([q1]:List Int)),(3,ap1 26 (cInt .i64) 8 v2 q1)] [0,1,4,5,6,7,11,12,15,16] [4,5,26,30501] [] [] [] [0,4] (r1 1 [0,1,4,5,6,7,11,12,15,16] [4,5,26,30501] [pf (inR .i64 (q1+1))] [0] (.next 0 [(20007,some 26)] (zx4 (i2+1) (v2++[q1]))))) (r1 1 [0,1,4,5,6,7,11,12,15,16] [4,5,20007,30501] [pf (inR .i64 (q1+1))] [0] (.next 0 [(20007,some 20007)] (zx4 (i2+1) v2))))) (.reg 1 [] [(3,nB1 (cInt .i64) v2),(4,nA1 (cInt .i64) v1 v2 24)] [0,1,4,5,11,12] [4,5,32] [] [] [] [0,4] (r1 1 [0,1,4,5,11,12] [4,5,32] [pf (inR .i64 (q2+1))] [0] (.next 1 [(30501,some 32)] (z1p x0 (i1+1) (v1++[v2]))))))
def A36Sb1(x0:Int)(x1:yc×yi×(KV→Option Bool))(i1:Nat)(v1:(List (List Int))):Ann:=r0 1 [0,1,4,5,11,12,13] [4,5,30501] (cn (decide (((i1:Nat):Int)<x0)) (r0 2 [0,1,4,5,6,7,11,12] [4,5,30501] (r0 1 [0,1,4,5,6,7,11,12,15,16] [4,5,30501] (lp (zx4) [] [] [(20007,none)] (zx4 0 ([]:List Int)) (A36Sb2 x0 x1 i1 v1)))) (r0 1 [4] [4,30501] (rt [(0,some 30501)] (C36S (yk.mk x0 v1)))))
def A36S(x0:Int)(x1:yc×yi×(KV→Option Bool)):Ann:=r0 2 [0,1,4,5] [4,5] (r0 1 [0,1,4,5,11,12] [4,5] (lp (z1p x0) [] [] [(30501,none)] (z1p x0 0 ([]:List (List Int))) (A36Sb1 x0 x1)))
theorem zl2(x0 : Int)(x1 : yc × yi × (KV → Option Bool))(hn : 0 ≤ x0 ∧ x0 ≤ x1.1.people.length)(hx : x1.1.people.length ≤ 1048576) : FnT Tryz.prog 36 [.int .i64 x0, .clo 68 [.ep [.ro false 6 x1.1.people.length (rowOf (zah false) x1.1.people), .ro false 4 x1.1.unions.length (rowOf (zas false) x1.1.unions)] 0, .ep [.int .i64 x1.2.1.kind, .int .i64 x1.2.1.age] 0, .ep [.rm .pair (.b x1.2.2)] 0]] (C36S (zfm x0 x1)) := by
 have aux : ∀R, zfm x0 x1 = R → slim (C36S R) (A36S x0 x1) [] := by
  intro R hR;refine rT ?_;refine rT ?_;refine lN (fun i v=>(v:List (List Int)).length=i) vdg rfl (fun i1 v1 F1 hn1 hI1 hR hK1=>?_) hR;refine rT ?_;refine⟨fun hc1=>?_,fun hc1=>?_⟩
  ·have hii1 : i1 < x0.toNat := vcH;replace hR := zai hR hii1;refine rT ?_;refine rT ?_;refine lN (fun i v => (v : List Int).length ≤ i) vdg rfl (fun i2 v2 F2 hn2 hI2 hR hK2 => ?_) hR;refine rT ?_;refine ⟨fun hc2 => ?_, fun hc2 => ?_⟩
   ·have hii2 : i2 < x0.toNat := vcI;replace hR := zai hR hii2;refine rg ⟨⟨vc4, vc4, vdg⟩, trivial⟩ ?_;refine cd (fun hc3 hR => ?_) (fun hc3 hR => ?_) hR
    ·refine rg ⟨trivial, vdh, trivial⟩ ?_;refine rg ⟨vcq, trivial⟩ ?_;exact hK2 (v2 ++ [((i2 : Nat) : Int)]) hii2 vaW hR
    refine rg ⟨vcx,trivial⟩ ?_;exact hK2 v2 hii2 vc6 hR
   obtain rfl:i2=x0.toNat:=vcP;replace hR:=zaq hR (oR _);refine rg ⟨trivial,vdh,trivial⟩ ?_;refine rg ⟨vcx,trivial⟩ ?_;exact hK1 (v1++[v2]) hii1 va6 hR
  obtain rfl:i1=x0.toNat:=by have:=oB hc1;omega
  replace hR:=zaq hR (oR _);refine rT ?_;exact oe C36S hR
 exact Fn.go 36 Tryz.func36 zaa zaa (by simp[C36S,FrsN,nrOf,Frs,FrsL,FrsB,rowOf,cInt,cBool,cStr,cSl,zbd,zah,zas,zaw,cDyad,cLaw,zcc,zcq,ze6,zdu,cStep,zc7,zbn]) (A36S x0 x1) zaa (aux _ rfl)
def k36S(x0:Int)(x1:yc×yi×(KV→Option Bool)):Cl:=(hres (C36S (zfm x0 x1)),k2 (zl2 x0 x1))
theorem zxk{r : yk}(h : zde r = true) : (0 ≤ r.size ∧ r.size ≤ 40) ∧ (r.rows.length : Int) = r.size ∧ ∀y ∈ r.rows, ∀b ∈ y, 0 ≤ b ∧ b < r.size := by
 revert h;unfold zde;refine zaj (p:=fun (b:Bool)=>b=true→(0≤r.size∧r.size≤40)∧(r.rows.length:Int)=r.size∧∀y∈r.rows,∀b∈y,0≤b∧b<r.size) (fun _ h=>nomatch h) (fun c=>?_);simp only[zar,oa,zan,ob] at c;refine za3 (fun i _=>∀k,k<i→∀b∈r.rows.getD k default,0≤b∧b<r.size) (fun (b:Bool)=>b=true→(0≤r.size∧r.size≤40)∧(r.rows.length:Int)=r.size∧∀y∈r.rows,∀b∈y,0≤b∧b<r.size) (fun k hk=>absurd hk (oQ _)) (fun i v next hi hv hn=>?_) (fun v hv _=>⟨⟨vdh,vdh⟩,c.2,fun y hy=>?_⟩)
 ·refine za3 (fun j _ => ∀ k, k < j → 0 ≤ (r.rows.getD i default).getD k default ∧ (r.rows.getD i default).getD k default < r.size) (fun (b : Bool) => b = true → (0 ≤ r.size ∧ r.size ≤ 40) ∧ (r.rows.length : Int) = r.size ∧ ∀ y ∈ r.rows, ∀ b ∈ y, 0 ≤ b ∧ b < r.size) (fun k hk => absurd hk (oQ _)) (fun j w next2 hj hw hn2 => ?_) (fun w hw => hn _ fun k hk => ?_)
  ·refine zaj (p := fun (b : Bool) => b = true → (0 ≤ r.size ∧ r.size ≤ 40) ∧ (r.rows.length : Int) = r.size ∧ ∀ y ∈ r.rows, ∀ b ∈ y, 0 ≤ b ∧ b < r.size) (fun _ h => nomatch h) (fun c2 => hn2 _ fun k hk => ?_);simp only [zar, oa] at c2;by_cases e : k = j
   ·subst e; omega
   exact hw k vdh
  by_cases e:k=i
  ·subst e;intro b hb;obtain ⟨m, hm, e2⟩ := zlb (d := default) hb;rw [← e2]; exact hw m hm
  exact hv k vdh
 obtain⟨k,hk,e⟩:=zlb (d:=default) hy;rw[←e];exact hv k hk
theorem zzk{r s:yk}(h:zmk r s=true):(0≤r.size∧r.size≤40)∧(r.rows.length:Int)=r.size∧(s.rows.length:Int)=r.size∧∀y∈r.rows,∀b∈y,0≤b∧b<s.rows.length:=by unfold zmk at h;simp only[oc,ob] at h;obtain⟨⟨h1,h2⟩,h3⟩:=h;have h1:=zxk h1;have h2:=zxk h2;exact⟨h1.1,h1.2.1,vdh,fun y hy b hb=>by have:=h1.2.2 y hy b hb;omega⟩
def zbr(n:Nat)(is:Int→Int→Bool):List (List Int):=(List.range n).map fun (a:Nat)=>((List.range n).filter fun (b:Nat)=>is (a:Int) (b:Int)).map fun b=>((b:Nat):Int)
theorem z45(n : Nat)(p : Nat → Bool){α : Type}(k : List Int → α) : loopN (fun i2 (v2 : List Int) next => bif p i2 then next (v2 ++ [((i2 : Nat) : Int)]) else next v2) k n 0 [] = k (((List.range n).filter p).map fun b => ((b : Nat) : Int)) := by
 have : ∀(m i : Nat) (l : List Int), i + m = n → l = ((List.range i).filter p).map (fun b => ((b : Nat) : Int)) → loopN (fun i2 (v2 : List Int) next => bif p i2 then next (v2 ++ [((i2 : Nat) : Int)]) else next v2) k m i l = k (((List.range n).filter p).map fun b => ((b : Nat) : Int)) := by
  intro m;induction m with
  |zero =>intro i l h1 h2;simp only[loopN];rw[h2,show i=n by omega]
  |succ m ih =>
   intro i l h1 h2;simp only[loopN];cases c:p i with
   |true =>exact ih (i+1) _ vdh (by rw[h2,List.range_succ,List.filter_append];simp[c])
   |false =>exact ih (i+1) _ vdh (by rw[h2,List.range_succ,List.filter_append];simp[c])
 exact this n 0 [] vdh rfl
theorem zrv(n : Nat)(is : Int → Int → Bool){α : Type}(k : List (List Int) → α) : loopN (fun i1 (v1 : List (List Int)) nx1 => loopN (fun i2 (v2 : List Int) next => bif is ((i1 : Nat) : Int) ((i2 : Nat) : Int) then next (v2 ++ [((i2 : Nat) : Int)]) else next v2) (fun (v2 : List Int) => nx1 (v1 ++ [v2])) n 0 ([] : List Int)) k n 0 ([] : List (List Int)) = k (zbr n is) := by
 have : ∀(m i : Nat) (l : List (List Int)), i + m = n → l = (List.range i).map (fun (a : Nat) => ((List.range n).filter fun (b : Nat) => is (a : Int) (b : Int)).map fun b => ((b : Nat) : Int)) → loopN (fun i1 (v1 : List (List Int)) nx1 => loopN (fun i2 (v2 : List Int) next => bif is ((i1 : Nat) : Int) ((i2 : Nat) : Int) then next (v2 ++ [((i2 : Nat) : Int)]) else next v2) (fun (v2 : List Int) => nx1 (v1 ++ [v2])) n 0 ([] : List Int)) k m i l = k (zbr n is) := by
  intro m;induction m with
  |zero =>intro i l h1 h2;simp only[loopN];rw[h2,show i=n by omega];rfl
  |succ m ih =>intro i l h1 h2;simp only[loopN];rw[z45 n (fun (b:Nat)=>is (i:Int) (b:Int))];exact ih (i+1) _ vdh (by rw[h2,List.range_succ,List.map_append];rfl)
 exact this n 0 [] vdh rfl
theorem zgd(n:Nat)(is:Int→Int→Bool):(zbr n is).length=n:=by simp[zbr]
theorem zj5(n:Nat)(is:Int→Int→Bool){a:Nat}(h:a<n):(zbr n is).getD a default=((List.range n).filter fun (b:Nat)=>is (a:Int) (b:Int)).map fun b=>((b:Nat):Int):=by unfold zbr;rw[oi,List.getElem?_map,List.getElem?_range h];rfl
theorem zn3(n:Nat)(is:Int→Int→Bool){y:List Int}(h:y∈zbr n is):y.length≤n:=by unfold zbr at h;obtain⟨a,_,rfl⟩:=List.mem_map.1 h;rw[List.length_map];exact Nat.le_trans (List.length_filter_le _ _) (by rw[List.length_range];exact oz _)
theorem zn4{n : Nat}{is : Int → Int → Bool}{a : Nat}(h : a < n){b : Int} : b ∈ (zbr n is).getD a default ↔ (0 ≤ b ∧ b < n) ∧ is (a : Int) b = true := by
 rw[zj5 n is h,List.mem_map];constructor
 ·rintro ⟨c, hc, rfl⟩;rw [o9, oX] at hc;exact ⟨⟨vdh, vdh⟩, hc.2⟩
 rintro⟨h1,h2⟩;refine⟨b.toNat,?_,vdh⟩;rw[o9,oX];have e:((b.toNat:Nat):Int)=b:=vdh
 exact⟨vdh,by rw[e];exact h2⟩
theorem zn0(n:Int)(c:yj×yc):zee n c=yk.mk n (zbr n.toNat fun a b=>zge a b c.1 c.2):=zrv n.toNat (fun a b=>zge a b c.1 c.2) _
theorem zn1(n:Int)(c:yk×yk):zjc n c=yk.mk n (zbr n.toNat fun a b=>zfn a b c.1 c.2):=zrv n.toNat (fun a b=>zfn a b c.1 c.2) _
theorem zu3(n:Int)(c:yc×yi×(KV→Option Bool)):zfm n c=yk.mk n (zbr n.toNat fun a b=>zex a b c.1 c.2.1 c.2.2):=zrv n.toNat (fun a b=>zex a b c.1 c.2.1 c.2.2) _
def RelOk(n:Nat)(r:yk):Prop:=r.rows.length≤n∧∀y∈r.rows,y.length≤n
theorem zlu{n m:Nat}(h:n≤m)(s:Int)(is:Int→Int→Bool):RelOk m (yk.mk s (zbr n is)):=⟨by rw[show(yk.mk s (zbr n is)).rows=zbr n is from rfl,zgd];exact h,fun y hy=>Nat.le_trans (zn3 n is hy) h⟩
end Go.Proofs.YtnibbmmljamolaaGreat
