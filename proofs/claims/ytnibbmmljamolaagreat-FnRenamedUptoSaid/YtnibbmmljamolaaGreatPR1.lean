import Derived.Test.YtnibbmmljamolaaGreatM180
set_option maxHeartbeats 4000000
set_option linter.unusedSimpArgs false
set_option linter.unusedVariables false
namespace Go.Proofs.YtnibbmmljamolaaGreat
open Go Go.Lite Go.Proofs

structure yi where
  kind:Int
  age:Int
  deriving Inhabited
def cStep(fr:Bool)(x:yi):List LV:=cInt .i64 x.kind++cInt .i64 x.age

structure yj where
  ego:Int
  steps:List yi
  deriving Inhabited
def zc7(fr:Bool)(x:yj):List LV:=cInt .i64 x.ego++cSl fr 2 (cStep fr) x.steps

def C64(R:Int):LV×List (Nat×BC):=(.int .i64 R,[])
def ze8(x0:Int):Int:=bif(decide ((x0.tmod 2)=1)) then 1 else 2
def A64(x0:Int):Ann:=r0 1 [0,2] [] (r1 1 [2,5] [] [pf ((2:Int)≠0)] [0] (cn (decide ((x0.tmod 2)=1)) (r0 1 [2] [] (rt [] (C64 1))) (r0 1 [2] [] (rt [] (C64 2)))))
theorem zol(x0 : Int) : FnT Tryz.prog 64 [.int .i64 x0] (C64 (ze8 x0)) := by
 have aux : ∀R, ze8 x0 = R → slim (C64 R) (A64 x0) [] := by
  intro R hR;refine rT ?_;refine rg ⟨vdg,trivial⟩ ?_;refine cd (fun hc1 hR=>?_) (fun hc1 hR=>?_) hR
  ·refine rT ?_;exact oe C64 hR
  refine rT ?_;exact oe C64 hR
 exact Fn.go 6 Tryz.func64 zaa zaa (by simp[C64,Frs,FrsL]) (A64 x0) zaa (aux _ rfl)
def k64(x0:Int):Cl:=(hres (C64 (ze8 x0)),k0 (zol x0))
def C112(R:Int):LV×List (Nat×BC):=(.int .i64 R,[])
def l3Sex(x0:Int):Int:=bif(decide ((x0.tmod 2)=1)) then 1 else 2
def A112(x0:Int):Ann:=r0 1 [0,2] [] (r1 1 [2,5] [] [pf ((2:Int)≠0)] [0] (cn (decide ((x0.tmod 2)=1)) (r0 1 [2] [] (rt [] (C112 1))) (r0 1 [2] [] (rt [] (C112 2)))))
theorem zr5(x0 : Int) : FnT Tryz.prog 112 [.int .i64 x0] (C112 (l3Sex x0)) := by
 have aux : ∀R, l3Sex x0 = R → slim (C112 R) (A112 x0) [] := by
  intro R hR;refine rT ?_;refine rg ⟨vdg,trivial⟩ ?_;refine cd (fun hc1 hR=>?_) (fun hc1 hR=>?_) hR
  ·refine rT ?_;exact oe C112 hR
  refine rT ?_;exact oe C112 hR
 exact Fn.go 6 Tryz.func112 zaa zaa (by simp[C112,Frs,FrsL]) (A112 x0) zaa (aux _ rfl)
def k112(x0:Int):Cl:=(hres (C112 (l3Sex x0)),k0 (zr5 x0))
def C63(R:Bool):LV×List (Nat×BC):=(.bool R,[])
def zkn(x0:yi)(x1:Int):Bool:=bif((((decide (x0.kind<1))||(decide (8<x0.kind)))||(decide (x0.age<0)))||(decide (2<x0.age))) then false else(bif(((!decide (x0.age=0))&&(!decide (x0.kind=3)))&&(!decide (x0.kind=4))) then false else(bif(((decide (x0.kind=7))&&(decide (x1=1)))||((decide (x0.kind=8))&&(decide (x1=2)))) then false else true))
def A63(x0:yi)(x1:Int):Ann:=let q5:=x0.kind<1;let q4:=decide (x0.age<0);let q3:=decide (x0.kind=8);let q6:=!decide (x0.kind=3);let q1:=(decide (x0.kind=7))&&(decide (x1=1));let q2:=(decide q5)||(decide (8<x0.kind));r0 1 [1,2,4] [2] (.reg 1 [] [] [1,2,4,5] [2] [!(decide q5),decide q5,!q2,(decide q5)||(decide (8<x0.kind)),!(q2||q4),q2||q4] [] [] [1,1,6,9,9,14,17,17,22] (cn ((q2||q4)||(decide (2<x0.age))) (r0 1 [4] [] (rt [] (C63 false))) (.reg 1 [] [] [1,2,4,24] [2] [!decide (x0.age=0),(!decide (x0.age=0))&&q6] [] [] [1,1,1,5,5,5] (cn (((!decide (x0.age=0))&&q6)&&(!decide (x0.kind=4))) (r0 1 [4] [] (rt [] (C63 false))) (.reg 1 [] [] [4,38] [] [decide (x0.kind=7),!q1,(!q1)&&q3,(decide (x0.kind=7))&&(decide (x1=1))] [gt (!q1) (gt q3 (pf (((!q1)&&q3)=true)))] [] [1,1,5,5,5,9,5,0,14] (cn (q1||(q3&&(decide (x1=2)))) (r0 1 [4] [] (rt [] (C63 false))) (r0 1 [4] [] (rt [] (C63 true)))))))))
theorem zm5(x0 : yi)(x1 : Int) : FnT Tryz.prog 63 [.agg (cStep false x0), .int .i64 x1] (C63 (zkn x0 x1)) := by
 have aux : ∀R, zkn x0 x1 = R → slim (C63 R) (A63 x0 x1) [] := by
  intro R hR;refine rT ?_;refine rT ?_;refine cd (fun hc1 hR=>?_) (fun hc1 hR=>?_) hR
  ·refine rT ?_;exact oe C63 hR
  refine rT ?_;refine cd (fun hc2 hR=>?_) (fun hc2 hR=>?_) hR
  ·refine rT ?_;exact oe C63 hR
  refine rg ⟨vbj,trivial⟩ ?_;refine cd (fun hc3 hR=>?_) (fun hc3 hR=>?_) hR
  ·refine rT ?_;exact oe C63 hR
  refine rT ?_;exact oe C63 hR
 exact Fn.go 55 Tryz.func63 zaa zaa (by simp[C63,Frs,FrsL]) (A63 x0 x1) zaa (aux _ rfl)
def k63(x0:yi)(x1:Int):Cl:=(hres (C63 (zkn x0 x1)),k0 (zm5 x0 x1))
def C111(R:Bool):LV×List (Nat×BC):=(.bool R,[])
def zjz(x0:yi)(x1:Int):Bool:=bif((!(l1In x0.kind 1 8))||(!(l1In x0.age 0 2))) then false else(bif(((!decide (x0.age=0))&&(!decide (x0.kind=3)))&&(!decide (x0.kind=4))) then false else(((!decide (x0.kind=7))||(!decide (x1=1)))&&((!decide (x0.kind=8))||(!decide (x1=2)))))
def A111(x0:yi)(x1:Int):Ann:=let q5:=x0.kind=7;let q3:=l1In x0.kind 1 8;let q2:=!decide (x0.kind=8);let q4:=!decide (x0.kind=3);let q1:=(!decide q5)||(!decide (x1=1));r0 1 [1,2,4] [2] (.reg 1 [] [(2,k97 x0.kind 1 8),(7,cg (!(!q3)) (k97 x0.age 0 2))] [1,2,4,14] [2] [!(!q3),!q3] [] [] [0,1,1,4,1,6] (cn ((!q3)||(!(l1In x0.age 0 2))) (r0 1 [1,2,4] [2] (rt [] (C111 false))) (.reg 1 [] [] [1,2,4,27] [2] [!decide (x0.age=0),(!decide (x0.age=0))&&q4] [] [] [1,1,1,5,5,5] (cn (((!decide (x0.age=0))&&q4)&&(!decide (x0.kind=4))) (r0 1 [1,2,4] [2] (rt [] (C111 false))) (.reg 1 [] [] [4] [] [!(!decide q5),!decide q5,(!decide q5)||(!decide (x1=1)),q1&&(!q2)] [gt q1 (gf q2 (pf ((q1&&(!q2))=true)))] [] [1,6,9,9,9,13,9,0,9] (rt [] (C111 (q1&&(q2||(!decide (x1=2)))))))))))
theorem zpt(x0 : yi)(x1 : Int) : FnT Tryz.prog 111 [.agg (cStep false x0), .int .i64 x1] (C111 (zjz x0 x1)) := by
 have aux : ∀R, zjz x0 x1 = R → slim (C111 R) (A111 x0 x1) [] := by
  intro R hR;refine rT ?_;refine rg ⟨trivial,fun hg0=>trivial,trivial⟩ ?_;refine cd (fun hc1 hR=>?_) (fun hc1 hR=>?_) hR
  ·refine rT ?_;exact oe C111 hR
  refine rT ?_;refine cd (fun hc2 hR=>?_) (fun hc2 hR=>?_) hR
  ·refine rT ?_;exact oe C111 hR
  refine rg ⟨vbj,trivial⟩ ?_;exact oe C111 hR
 exact Fn.go 44 Tryz.func111 zaa zaa (by simp[C111,Frs,FrsL]) (A111 x0 x1) zaa (aux _ rfl)
def k111(x0:yi)(x1:Int):Cl:=(hres (C111 (zjz x0 x1)),k0 (zpt x0 x1))
def C35(R:Bool):LV×List (Nat×BC):=(.bool R,[])
def zfc(x0:yj):Bool:=bif(((decide (x0.ego<0))||(decide (2<x0.ego)))||(decide (8<((x0.steps.length:Nat):Int)))) then false else(loopN (fun i1 (v1:Int) next=>bif(!(zkn (x0.steps.getD i1 default) v1)) then false else(next (ze8 ((x0.steps.getD i1 default).kind)))) (fun (v1:Int)=>true) x0.steps.length 0 x0.ego)
def D35b1(i1:Nat)(v1:Int):Dl:=⟨[(25,.int .i64 ((i1:Nat):Int)),(3,.int .i64 v1)],[]⟩
def A35b1(x0:yj)(i1:Nat)(v1:Int):Ann:=let q2:=((i1:Nat):Int);let q1:=x0.steps.getD i1 default;let q3:=((x0.steps.length:Nat):Int);r0 1 [2,3,23,24,25,26] [] (cn (decide (q2<q3)) (r1 1 [2,3,5,23,24,25] [5] [pf (0≤(q2:Int)∧(q2:Int)<q3)] [0] (.reg 1 [] [(2,k63 q1 v1)] [2,3,5,23,24,25,32] [5] [] [] [] [0] (cn (!(zkn q1 v1)) (r0 1 [2,3,5,23,24,25] [5] (rt [] (C35 false))) (.reg 1 [] [(2,k64 (q1.kind))] [2,3,23,24,25] [] [] [] [] [0] (r1 1 [2,3,23,24,25] [] [pf (inR .i64 (q2+1))] [0] (.next 0 [] (D35b1 (i1+1) (ze8 (q1.kind))))))))) (r0 1 [2] [] (rt [] (C35 true))))
def A35(x0:yj):Ann:=let q1:=decide (x0.ego<0);let q2:=decide (2<x0.ego);r0 1 [1,2] [1] (.reg 1 [] [] [1,2,19] [1] [!q1,decide (x0.ego<0),!(q1||q2),q1||q2] [] [] [1,1,6,9,9,9,14] (cn ((q1||q2)||(decide (8<((x0.steps.length:Nat):Int)))) (r0 1 [1,2] [1] (rt [] (C35 false))) (r0 1 [1,2,3] [1] (r0 1 [2,3,23,24,25] [] (lp (D35b1) [] [] [] (D35b1 0 x0.ego) (A35b1 x0))))))
theorem zqc(x0 : yj)(h0 : x0.steps.length ≤ 1048576) : FnT Tryz.prog 35 [.agg (zc7 false x0)] (C35 (zfc x0)) := by
 have aux : ∀R, zfc x0 = R → slim (C35 R) (A35 x0) [] := by
  intro R hR;refine rT ?_;refine rT ?_;refine cd (fun hc1 hR=>?_) (fun hc1 hR=>?_) hR
  ·refine rT ?_;exact oe C35 hR
  refine rT ?_;refine rT ?_;refine lN (fun i v=>True) vdg rfl (fun i1 v1 F1 hn1 hI1 hR hK1=>?_) hR;refine rT ?_;refine⟨fun hc2=>?_,fun hc2=>?_⟩
  ·have hii1 : i1 < x0.steps.length := vcI;replace hR := zai hR hii1;refine rg ⟨vc4, trivial⟩ ?_;refine rg ⟨trivial, trivial⟩ ?_;refine cd (fun hc3 hR => ?_) (fun hc3 hR => ?_) hR
   ·refine rT ?_;exact oe C35 hR
   refine rg ⟨trivial,trivial⟩ ?_;refine rg ⟨vcx,trivial⟩ ?_;exact hK1 (ze8 ((x0.steps.getD i1 default).kind)) hii1 vdg hR
  obtain rfl:i1=x0.steps.length:=by have:=oB hc2;omega
  replace hR:=zaq hR (oR _);refine rT ?_;exact oe C35 hR
 exact Fn.go 37 Tryz.func35 zaa zaa (by simp[C35,Frs,FrsL]) (A35 x0) zaa (aux _ rfl)
def k35(x0:yj):Cl:=(hres (C35 (zfc x0)),k1 (zqc x0))
def C95(R:Bool):LV×List (Nat×BC):=(.bool R,[])
def zbl(x0:yj):Bool:=bif((!(l1In x0.ego 0 2))||(decide (8<((x0.steps.length:Nat):Int)))) then false else(loopN (fun i1 (v1:Int) next=>bif(!(zjz (x0.steps.getD i1 default) v1)) then false else(next (l3Sex ((x0.steps.getD i1 default).kind)))) (fun (v1:Int)=>true) x0.steps.length 0 x0.ego)
def D95b1(i1:Nat)(v1:Int):Dl:=⟨[(21,.int .i64 ((i1:Nat):Int)),(3,.int .i64 v1)],[]⟩
def A95b1(x0:yj)(i1:Nat)(v1:Int):Ann:=let q2:=((i1:Nat):Int);let q1:=x0.steps.getD i1 default;let q3:=((x0.steps.length:Nat):Int);r0 1 [2,3,19,20,21,22] [] (cn (decide (q2<q3)) (r1 1 [2,3,5,19,20,21] [5] [pf (0≤(q2:Int)∧(q2:Int)<q3)] [0] (.reg 1 [] [(2,k111 q1 v1)] [2,3,5,19,20,21,28] [5] [] [] [] [0] (cn (!(zjz q1 v1)) (r0 1 [2,3,5,19,20,21] [5] (rt [] (C95 false))) (.reg 1 [] [(2,k112 (q1.kind))] [2,3,19,20,21] [] [] [] [] [0] (r1 1 [2,3,19,20,21] [] [pf (inR .i64 (q2+1))] [0] (.next 0 [] (D95b1 (i1+1) (l3Sex (q1.kind))))))))) (r0 1 [2] [] (rt [] (C95 true))))
def A95(x0:yj):Ann:=let q1:=l1In x0.ego 0 2;r0 1 [1,2] [1] (.reg 1 [] [(2,k97 x0.ego 0 2)] [1,2,15] [1] [!(!q1),!q1] [] [] [0,1,1,1,6] (cn ((!q1)||(decide (8<((x0.steps.length:Nat):Int)))) (r0 1 [1,2] [1] (rt [] (C95 false))) (r0 1 [1,2,3] [1] (r0 1 [2,3,19,20,21] [] (lp (D95b1) [] [] [] (D95b1 0 x0.ego) (A95b1 x0))))))
theorem zp3(x0 : yj)(h0 : x0.steps.length ≤ 1048576) : FnT Tryz.prog 95 [.agg (zc7 false x0)] (C95 (zbl x0)) := by
 have aux : ∀R, zbl x0 = R → slim (C95 R) (A95 x0) [] := by
  intro R hR;refine rT ?_;refine rg ⟨trivial,trivial⟩ ?_;refine cd (fun hc1 hR=>?_) (fun hc1 hR=>?_) hR
  ·refine rT ?_;exact oe C95 hR
  refine rT ?_;refine rT ?_;refine lN (fun i v=>True) vdg rfl (fun i1 v1 F1 hn1 hI1 hR hK1=>?_) hR;refine rT ?_;refine⟨fun hc2=>?_,fun hc2=>?_⟩
  ·have hii1 : i1 < x0.steps.length := vcI;replace hR := zai hR hii1;refine rg ⟨vc4, trivial⟩ ?_;refine rg ⟨trivial, trivial⟩ ?_;refine cd (fun hc3 hR => ?_) (fun hc3 hR => ?_) hR
   ·refine rT ?_;exact oe C95 hR
   refine rg ⟨trivial,trivial⟩ ?_;refine rg ⟨vcx,trivial⟩ ?_;exact hK1 (l3Sex ((x0.steps.getD i1 default).kind)) hii1 vdg hR
  obtain rfl:i1=x0.steps.length:=by have:=oB hc2;omega
  replace hR:=zaq hR (oR _);refine rT ?_;exact oe C95 hR
 exact Fn.go 33 Tryz.func95 zaa zaa (by simp[C95,Frs,FrsL]) (A95 x0) zaa (aux _ rfl)
def k95(x0:yj):Cl:=(hres (C95 (zbl x0)),k1 (zp3 x0))
def C69(R:Bool):LV×List (Nat×BC):=(.bool R,[])
def zgp(x0:yc)(x1:Int)(x2:Int):Bool:=((((!decide (x1=x2))&&(decide (0≤((x0.people.getD x1.toNat default).father))))&&(decide (0≤((x0.people.getD x1.toNat default).mother))))&&(decide (((x0.people.getD x1.toNat default).father)=((x0.people.getD x2.toNat default).father))))&&(decide (((x0.people.getD x1.toNat default).mother)=((x0.people.getD x2.toNat default).mother)))
def A69(x0:yc)(x1:Int)(x2:Int):Ann:=let q5:=((x0.people.length:Nat):Int);let q1:=x0.people.getD x1.toNat default;let q4:=decide (0≤(q1.mother));let q2:=(!decide (x1=x2))&&(decide (0≤(q1.father)));let q3:=decide ((q1.father)=((x0.people.getD x2.toNat default).father));.reg 3 [] [] [6] [] [!decide (x1=x2),(!decide (x1=x2))&&(decide (0≤(q1.father))),q2&&q4,(q2&&q4)&&q3] [pf (0≤(x1:Int)∧(x1:Int)<q5),pf (0≤(x2:Int)∧(x2:Int)<q5)] [] [0,4,1,1,1,5,5,5,9,9,9,9,9,13,13,13,13,13] (rt [] (C69 (((q2&&q4)&&q3)&&(decide ((q1.mother)=((x0.people.getD x2.toNat default).mother))))))
theorem zop(x0:yc)(x1:Int)(x2:Int)(hx:x0.people.length≤1048576)(ha:0≤x1∧x1<x0.people.length)(hb:0≤x2∧x2<x0.people.length):FnT Tryz.prog 69 [.agg (zaw false x0),.int .i64 x1,.int .i64 x2] (C69 (zgp x0 x1 x2)):=by have aux:∀R,zgp x0 x1 x2=R→slim (C69 R) (A69 x0 x1 x2) []:=(by intro R hR;refine rg ⟨vdg,vdg,trivial⟩ ?_;exact oe C69 hR);exact Fn.go 46 Tryz.func69 zaa zaa (by simp[C69,Frs,FrsL]) (A69 x0 x1 x2) zaa (aux _ rfl)
def k69(x0:yc)(x1:Int)(x2:Int):Cl:=(hres (C69 (zgp x0 x1 x2)),k3 (zop x0 x1 x2))
end Go.Proofs.YtnibbmmljamolaaGreat
