import Derived.Test.YtnibbmmljamolaaGreatV5
set_option maxHeartbeats 4000000
set_option linter.unusedSimpArgs false
set_option linter.unusedVariables false
namespace Go.Proofs.YtnibbmmljamolaaGreat
open Go Go.Lite Go.Proofs
theorem zg7(l:List ya)(i q s d:Int):zb9 l i q s d=true↔q=-1∨0≤q∧q<i∧(l.getD q.toNat default).sex=s∧(l.getD q.toNat default).born<(l.getD i.toNat default).born∧((l.getD q.toNat default).died=-1∨(l.getD i.toNat default).born≤IntKind.wrap .i64 ((l.getD q.toNat default).died+d)):=by simp only[zb9,zdq,zrb,zar,oc,oj,ob,oa,zan,Int.not_lt,Int.not_le,and_assoc]
theorem zr2(x:yc)(i q s d:Int):zb9 x.people i q s d=zdx x i q s d:=by rw[Bool.eq_iff_iff,zg7,zg0]
theorem zps{l:List ya}{k:Nat}(h:zb9 l k (l.getD k default).father 1 1=true∧zb9 l k (l.getD k default).mother 2 0=true):(l.getD k default).father<k∧(l.getD k default).mother<k:=by rw[zg7,zg7] at h;omega
def C23(R:Bool):LV×List (Nat×BC):=(.bool R,[])
def zbh(x0:yc):Bool:=bif((decide (40<((x0.people.length:Nat):Int)))||(decide (60<((x0.unions.length:Nat):Int)))) then false else(loopN (fun i1 (v1:(KV→Option Bool)) next=>bif((((((!(zfd ((x0.people.getD i1 default).name)))||((v1 (KV.s ((x0.people.getD i1 default).name))).getD false))||((!decide (((x0.people.getD i1 default).sex)=1))&&(!decide (((x0.people.getD i1 default).sex)=2))))||(decide (((x0.people.getD i1 default).born)<0)))||(decide (9999<((x0.people.getD i1 default).born))))||((!decide (((x0.people.getD i1 default).died)=(-1)))&&((decide (((x0.people.getD i1 default).died)<((x0.people.getD i1 default).born)))||(decide (9999<((x0.people.getD i1 default).died)))))) then false else(bif((!(zb9 x0.people ((i1:Nat):Int) ((x0.people.getD i1 default).father) 1 1))||(!(zb9 x0.people ((i1:Nat):Int) ((x0.people.getD i1 default).mother) 2 0))) then false else(next (mset v1 (KV.s ((x0.people.getD i1 default).name)) true)))) (fun (v1:(KV→Option Bool))=>loopN (fun i2 (v2:Unit) next=>bif(decide (10<((zhs x0.people).getD i2 default))) then false else(next ())) (fun (v2:Unit)=>loopN (fun i3 (v3:Unit) next=>bif(!(zfq x0 ((i3:Nat):Int))) then false else(next ())) (fun (v3:Unit)=>true) x0.unions.length 0 ()) ((zhs x0.people).length) 0 ()) x0.people.length 0 (fun _=>none))
def D23b1(i1:Nat)(v1:(KV→Option Bool)):Dl:=⟨[(23,.int .i64 ((i1:Nat):Int)),(3,.mp 20003)],[(20003,.mp .str (.b v1))]⟩
def D23b2(i2:Nat)(v2:Unit):Dl:=⟨[(99,.int .i64 ((i2:Nat):Int))],[]⟩
def D23b3(i3:Nat)(v3:Unit):Dl:=⟨[(109,.int .i64 ((i3:Nat):Int))],[]⟩
def A23b3(x0:yc)(i3:Nat)(v3:Unit):Ann:=let q1:=((i3:Nat):Int);r0 1 [1,2,108,109,110] [1] (cn (decide (q1<((x0.unions.length:Nat):Int))) (.reg 2 [] [(1002,k54 x0 q1)] [1,2,108,109,115] [1] [] [] [] [0] (cn (!(zfq x0 q1)) (r0 1 [1,2,108,109] [1] (rt [] (C23 false))) (r1 1 [1,2,108,109] [1] [pf (inR .i64 (q1+1))] [0] (.next 0 [] (D23b3 (i3+1) ()))))) (r0 1 [2] [] (rt [] (C23 true))))
def A23b2(x0:yc)(i2:Nat)(v2:Unit):Ann:=let q1:=((i2:Nat):Int);let q2:=(((zhs x0.people).length:Nat):Int);r0 1 [1,2,97,98,99,100] [1,1097] (cn (decide (q1<q2)) (r1 2 [1,2,97,98,99,104] [1,1097] [pf (0≤(q1:Int)∧(q1:Int)<q2)] [0] (cn (decide (10<((zhs x0.people).getD i2 default))) (r0 1 [1,2,97,98,99] [1,1097] (rt [] (C23 false))) (r1 1 [1,2,97,98,99] [1,1097] [pf (inR .i64 (q1+1))] [0] (.next 0 [] (D23b2 (i2+1) ()))))) (r0 1 [1,2,108,109] [1] (lp (D23b3) [] [] [] (D23b3 0 ()) (A23b3 x0))))
def A23b1(x0:yc)(i1:Nat)(v1:(KV→Option Bool)):Ann:=let q8:=((i1:Nat):Int);let q1:=x0.people.getD i1 default;let q13:=((x0.people.length:Nat):Int);let q11:=zfd (q1.name);let q7:=!decide ((q1.sex)=1);let q6:=!decide ((q1.died)=(-1));let q5:=zb9 x0.people q8 (q1.father) 1 1;let q9:=decide ((q1.died)<(q1.born));let q10:=q7&&(!decide ((q1.sex)=2));let q3:=(!q11)||((v1 (KV.s (q1.name))).getD false);let q2:=(q3||q10)||(decide ((q1.born)<0));let q4:=q2||(decide (9999<(q1.born)));let q12:=(!q4)&&q6;r0 1 [1,2,3,21,22,23,24] [1,20003] (cn (decide (q8<q13)) (r1 1 [1,2,3,4,5,21,22,23] [1,5,20003] [pf (0≤(q8:Int)∧(q8:Int)<q13)] [0] (.reg 1 [] [(2,k51 (q1.name))] [1,2,3,4,5,21,22,23,74] [1,5,20003] [!(!q11),!q11,!q3,(!q3)&&q7,(!q11)||((v1 (KV.s (q1.name))).getD false),!(q3||q10),q3||q10,!q2,(q3||q10)||(decide ((q1.born)<0)),!q4,(!q4)&&q6,q12&&(!q9),q2||(decide (9999<(q1.born)))] [gt (!q3) (gt q7 (pf (((!q3)&&q7)=true))),gt q12 (gf q9 (pf ((q12&&(!q9))=true))),gt (!q4) (gt q6 (pf (q12=true)))] [] [12,1,1,1,6,9,9,9,13,13,9,0,18,21,21,26,29,29,34,37,37,37,41,41,41,41,41,45,45,41,4,37,8,50] (cn (q4||(q6&&(q9||(decide (9999<(q1.died)))))) (r0 1 [1,2,3,4,5,21,22,23] [1,5,20003] (rt [] (C23 false))) (.reg 2 [] [(1005,k52 x0.people q8 (q1.father) 1 1),(1013,cg (!(!q5)) (k52 x0.people q8 (q1.mother) 2 0))] [1,2,3,21,22,23,93] [1,20003] [!(!q5),!q5] [] [] [0,1,1,1,1,1,4,1,6] (cn ((!q5)||(!(zb9 x0.people q8 (q1.mother) 2 0))) (r0 1 [1,2,3,21,22,23] [1,20003] (rt [] (C23 false))) (r1 1 [1,2,3,21,22,23] [1,20003] [pf (inR .i64 (q8+1))] [0] (.next 0 [(20003,some 20003)] (D23b1 (i1+1) (mset v1 (KV.s (q1.name)) true))))))))) (.reg 1 [] [(2,k53 x0.people)] [1,2,97,98,99] [1,1097] [] [] [] [0] (lp (D23b2) [] [] [] (D23b2 0 ()) (A23b2 x0))))
def A23(x0:yc):Ann:=let q1:=(40<((x0.people.length:Nat):Int));r0 1 [1,2] [1] (.reg 1 [] [] [1,2,18] [1] [!(decide q1),decide q1] [] [] [1,1,1,6] (cn ((decide q1)||(decide (60<((x0.unions.length:Nat):Int)))) (r0 1 [1,2] [1] (rt [] (C23 false))) (r0 1 [1,2,3] [1,19] (r0 1 [1,2,3,21,22,23] [1,19] (lp (D23b1) [] [19] [(20003,some 19)] (D23b1 0 (fun _=>none)) (A23b1 x0))))))
theorem znc(x0 : yc)(hx : x0.people.length ≤ 1048576)(hu : x0.unions.length ≤ 1048576)(hn : ∀p ∈ x0.people, p.name.length ≤ 1048576) : FnT Tryz.prog 23 [.agg (zaw false x0)] (C23 (zbh x0)) := by
 have aux : ∀R, zbh x0 = R → slim (C23 R) (A23 x0) [] := by
  intro R hR;refine rT ?_;refine rT ?_;refine cd (fun hc1 hR=>?_) (fun hc1 hR=>?_) hR
  ·refine rT ?_;exact oe C23 hR
  refine rT ?_;refine rT ?_;refine lN (fun i v=>∀k:Nat,k<i→zb9 x0.people k (x0.people.getD k default).father 1 1=true∧zb9 x0.people k (x0.people.getD k default).mother 2 0=true) vc6 rfl (fun i1 v1 F1 hn1 hI1 hR hK1=>?_) hR;refine rT ?_;refine⟨fun hc2=>?_,fun hc2=>?_⟩
  ·have hii1 : i1 < x0.people.length := vcI;replace hR := zai hR hii1;refine rg ⟨vc4, trivial⟩ ?_;refine rg ⟨vaP, vaP, vaP, vaZ, trivial⟩ ?_;refine cd (fun hc3 hR => ?_) (fun hc3 hR => ?_) hR
   ·refine rT ?_;exact oe C23 hR
   refine rg ⟨⟨vdg,vc6⟩,fun hg0=>⟨vdg,vc6⟩,trivial⟩ ?_;refine cd (fun hc4 hR=>?_) (fun hc4 hR=>?_) hR
   ·refine rT ?_;exact oe C23 hR
   refine rg ⟨vcx,trivial⟩ ?_;exact hK1 (mset v1 (KV.s ((x0.people.getD i1 default).name)) true) hii1 (by(exact z3c hI1 (by simpa using hc4))) hR
  obtain rfl:i1=x0.people.length:=by have:=oB hc2;omega
  replace hR:=zaq hR (oR _);refine rg ⟨⟨vdg,by(exact fun k hk=>zps (hI1 k hk))⟩,trivial⟩ ?_;have hp1:=zy6 x0.people;refine lN (fun i v=>True) vdg rfl (fun i2 v2 F2 hn2 hI2 hR hK2=>?_) hR;refine rT ?_;refine⟨fun hc5=>?_,fun hc5=>?_⟩
  ·have hii2 : i2 < (zhs x0.people).length := vcK;replace hR := zai hR hii2;refine rg ⟨vc4, trivial⟩ ?_;refine cd (fun hc6 hR => ?_) (fun hc6 hR => ?_) hR
   ·refine rT ?_;exact oe C23 hR
   refine rg ⟨vcx,trivial⟩ ?_;exact hK2 () hii2 vdg hR
  obtain rfl:i2=(zhs x0.people).length:=by have:=oB hc5;omega
  replace hR:=zaq hR (oR _);refine rT ?_;refine lN (fun i v=>True) vdg rfl (fun i3 v3 F3 hn3 hI3 hR hK3=>?_) hR;refine rT ?_;refine⟨fun hc7=>?_,fun hc7=>?_⟩
  ·have hii3 : i3 < x0.unions.length := (by have := om hc7; omega);replace hR := zai hR hii3;refine rg ⟨⟨vdg, vdg, vc4⟩, trivial⟩ ?_;refine cd (fun hc8 hR => ?_) (fun hc8 hR => ?_) hR
   ·refine rT ?_;exact oe C23 hR
   refine rg ⟨vcx,trivial⟩ ?_;exact hK3 () hii3 vdg hR
  obtain rfl:i3=x0.unions.length:=by have:=oB hc7;omega
  replace hR:=zaq hR (oR _);refine rT ?_;exact oe C23 hR
 exact Fn.go 117 Tryz.func23 zaa zaa (by simp[C23,Frs,FrsL]) (A23 x0) zaa (aux _ rfl)
def k23(x0:yc):Cl:=(hres (C23 (zbh x0)),k3 (znc x0))
def C29(R:Bool):LV×List (Nat×BC):=(.bool R,[])
def zco(x0:yc)(x1:List Int):Bool:=bif(!(zbh x0)) then false else(loopN (fun i1 (v1:Unit) next=>bif((decide ((x1.getD i1 default)<0))||(decide (((x0.people.length:Nat):Int)≤(x1.getD i1 default)))) then false else(next ())) (fun (v1:Unit)=>true) x1.length 0 ())
def D29b1(i1:Nat)(v1:Unit):Dl:=⟨[(12,.int .i64 ((i1:Nat):Int))],[]⟩
def A29b1(x0:yc)(x1:List Int)(i1:Nat)(v1:Unit):Ann:=let q2:=((i1:Nat):Int);let q1:=x1.getD i1 default;let q3:=((x1.length:Nat):Int);r0 1 [2,4,10,11,12,13] [2] (cn (decide (q2<q3)) (.reg 2 [] [] [2,4,10,11,12,24] [2] [!(decide (q1<0)),decide (q1<0)] [pf (0≤(q2:Int)∧(q2:Int)<q3)] [] [0,1,1,1,1,6] (cn ((decide (q1<0))||(decide (((x0.people.length:Nat):Int)≤q1))) (r0 1 [2,4,10,11,12] [2] (rt [] (C29 false))) (r1 1 [2,4,10,11,12] [2] [pf (inR .i64 (q2+1))] [0] (.next 0 [] (D29b1 (i1+1) ()))))) (r0 1 [4] [] (rt [] (C29 true))))
def A29(x0:yc)(x1:List Int):Ann:=r0 1 [1,2,4] [2] (.reg 1 [] [(1,k23 x0)] [1,2,4,9] [2] [] [] [] [0] (cn (!(zbh x0)) (r0 1 [1,2,4] [2] (rt [] (C29 false))) (r0 1 [2,4,10,11,12] [2] (lp (D29b1) [] [] [] (D29b1 0 ()) (A29b1 x0 x1)))))
theorem zve(x0 : yc)(x1 : List Int)(hx : x0.people.length ≤ 1048576)(hu : x0.unions.length ≤ 1048576)(hn : ∀p ∈ x0.people, p.name.length ≤ 1048576)(hl : x1.length ≤ 1048576) : FnT Tryz.prog 29 [.agg (zaw false x0), .ro false 1 x1.length (rowOf (cInt .i64) x1)] (C29 (zco x0 x1)) := by
 have aux : ∀R, zco x0 x1 = R → slim (C29 R) (A29 x0 x1) [] := by
  intro R hR;refine rT ?_;refine rg ⟨⟨vdg,vdg,vdg⟩,trivial⟩ ?_;refine cd (fun hc1 hR=>?_) (fun hc1 hR=>?_) hR
  ·refine rT ?_;exact oe C29 hR
  refine rT ?_;refine lN (fun i v=>True) vdg rfl (fun i1 v1 F1 hn1 hI1 hR hK1=>?_) hR;refine rT ?_;refine⟨fun hc2=>?_,fun hc2=>?_⟩
  ·have hii1 : i1 < x1.length := vcI;replace hR := zai hR hii1;refine rg ⟨vc4, trivial⟩ ?_;refine cd (fun hc3 hR => ?_) (fun hc3 hR => ?_) hR
   ·refine rT ?_;exact oe C29 hR
   refine rg ⟨vcx,trivial⟩ ?_;exact hK1 () hii1 vdg hR
  obtain rfl:i1=x1.length:=by have:=oB hc2;omega
  replace hR:=zaq hR (oR _);refine rT ?_;exact oe C29 hR
 exact Fn.go 26 Tryz.func29 zaa zaa (by simp[C29,Frs,FrsL]) (A29 x0 x1) zaa (aux _ rfl)
def k29(x0:yc)(x1:List Int):Cl:=(hres (C29 (zco x0 x1)),Go.Lite.k4 (zve x0 x1))
def C60(R:(List Int)):LV×List (Nat×BC):=(.own 0,[(0,.arr 1 R.length (rowOf (cInt .i64) R))])
def zav(x0:yc)(x1:Int):(List Int):=bif(decide (0≤((x0.people.getD x1.toNat default).father))) then(bif(decide (0≤((x0.people.getD x1.toNat default).mother))) then([(x0.people.getD x1.toNat default).father]++[(x0.people.getD x1.toNat default).mother]) else[(x0.people.getD x1.toNat default).father]) else(bif(decide (0≤((x0.people.getD x1.toNat default).mother))) then[(x0.people.getD x1.toNat default).mother] else([]:List Int))
def A60(x0:yc)(x1:Int):Ann:=let q1:=x0.people.getD x1.toNat default;let q4:=([q1.mother]:List Int);let q3:=decide (0≤(q1.mother));let q2:=(0≤(x1:Int)∧(x1:Int)<((x0.people.length:Nat):Int));r0 2 [1,2,4,5] [2] (r1 1 [1,2,4,5,12] [2] [pf q2] [0] (cn (decide (0≤(q1.father))) (.reg 1 [] [(7,bsC 20 (cInt .i64) ([q1.father]:List Int)),(8,apN 21 (cInt .i64) 8 [q1.father])] [1,2,4,5] [2,21] [] [pf q2] [] [0,4,8] (r1 1 [1,2,4,5,28] [2,21] [pf q2] [0] (cn q3 (.reg 1 [] [(7,bsC 36 (cInt .i64) q4),(8,ap1 37 (cInt .i64) 8 [q1.father] (q1.mother))] [4,5] [37] [] [pf q2] [] [0,4,8] (r0 1 [4] [37] (rt [(0,some 37)] (C60 ([q1.father]++[q1.mother]))))) (r0 1 [4] [21] (rt [(0,some 21)] (C60 [q1.father])))))) (r1 1 [1,2,4,5,28] [2] [pf q2] [0] (cn q3 (.reg 1 [] [(7,bsC 36 (cInt .i64) q4),(8,apN 37 (cInt .i64) 8 [q1.mother])] [4,5] [37] [] [pf q2] [] [0,4,8] (r0 1 [4] [37] (rt [(0,some 37)] (C60 [q1.mother])))) (r0 1 [4] [] (rt [(0,none)] (C60 ([]:List Int))))))))
theorem zdt(x:yc)(i:Int):zav x i=zam x i:=by unfold zav zam;cases h1:decide (0≤(x.people.getD i.toNat default).father)<;>cases h2:decide (0≤(x.people.getD i.toNat default).mother)<;>rfl
theorem zcy(x:yc)(i:Int):(zav x i).length≤2∧∀k:Nat,k<(zav x i).length→0≤(zav x i).getD k default∧((zav x i).getD k default=(x.people.getD i.toNat default).father∨(zav x i).getD k default=(x.people.getD i.toNat default).mother):=by rw[zdt];exact zcf x i
theorem zl5(x0 : yc)(x1 : Int)(hx : x0.people.length ≤ 1048576)(hi : 0 ≤ x1 ∧ x1 < x0.people.length) : FnT Tryz.prog 60 [.agg (zaw false x0), .int .i64 x1] (C60 (zav x0 x1)) := by
 have aux : ∀R, zav x0 x1 = R → slim (C60 R) (A60 x0 x1) [] := by
  intro R hR;refine rT ?_;refine rg ⟨vdg,trivial⟩ ?_;refine cd (fun hc1 hR=>?_) (fun hc1 hR=>?_) hR
  ·refine rg ⟨vdg, trivial, va4, trivial⟩ ?_;refine rg ⟨vdg, trivial⟩ ?_;refine cd (fun hc2 hR => ?_) (fun hc2 hR => ?_) hR
   ·refine rg ⟨vdg, trivial, va4, trivial⟩ ?_;refine rT ?_;exact oe C60 hR
   refine rT ?_;exact oe C60 hR
  refine rg ⟨vdg,trivial⟩ ?_;refine cd (fun hc3 hR=>?_) (fun hc3 hR=>?_) hR
  ·refine rg ⟨vdg, trivial, va4, trivial⟩ ?_;refine rT ?_;exact oe C60 hR
  refine rT ?_;exact oe C60 hR
 exact Fn.go 39 Tryz.func60 zaa zaa (by simp[C60,Frs,FrsL,FrsB,rowOf,cInt,cBool,cStr,cSl,zbd,zah,zas,zaw]) (A60 x0 x1) zaa (aux _ rfl)
def k60(x0:yc)(x1:Int):Cl:=(hres (C60 (zav x0 x1)),k2 (zl5 x0 x1))
theorem z03(s : List UInt8) : zfd s = zb7 s := by
 rw[Bool.eq_iff_iff];simp only[zfd,zb7,zdq,zar,zdb,l1In,oc,ob,oa,and_true];constructor
 ·rintro ⟨⟨h1, h2⟩, h3⟩; exact ⟨h3, vdh, vdh⟩
 rintro⟨h3,h1,h2⟩;exact⟨⟨vdh,vdh⟩,h3⟩
theorem z1h(x : yc)(hp : ∀(k : Nat), k < x.people.length → (x.people.getD k default).father < k ∧ (x.people.getD k default).mother < k) : zhs x.people = zat x := by
 unfold zhs zat;refine zma (fun i (v u:List Int)=>u.length=i∧v.length=x.people.length∧(∀k,k<i→v.getD k default=u.getD k default∧0≤u.getD k default)∧∀k,i≤k→v.getD k default=0) Eq ⟨rfl,vdj,fun k hk=>absurd hk (oQ _),fun k _=>?_⟩ ?_ ?_
 ·rw [zd2]; split <;> rfl
 ·rintro i v u n1 n2 hi ⟨h1, h2, h3, h4⟩ hn;obtain ⟨p1, p2⟩ := hp i hi;have h5 := h4 i (oz _);have key : ∀ d : Int, 0 ≤ d → n1 (v.set i d) = n2 (u ++ [d]) := fun d hd => by
   refine hn _ _ ⟨by simp[h1],by simp[h2],fun k hk=>?_,fun k hk=>?_⟩
   ·rw [zbc, zeb, h1];by_cases e : k = i
    ·subst e; simp [h2, hi, hd]
    rw[if_neg vdh,if_pos vdh];exact h3 k vdh
   rw[zbc,if_neg vdh];exact h4 k vdh
  have hv : v.set i 0 = v := by
   apply List.ext_getElem vdj;intro k hk1 hk2;rw[List.getElem_set];split
   ·rename_i e; subst e; rw [oi, ol hk2] at h5; simpa using h5.symm
   rfl
  simp only[loopN];have q0:∀d:Int,[(x.people.getD i default).father,(x.people.getD i default).mother].getD 0 d=(x.people.getD i default).father:=fun _=>rfl;have q1:∀d:Int,[(x.people.getD i default).father,(x.people.getD i default).mother].getD (0+1) d=(x.people.getD i default).mother:=fun _=>rfl;simp only[q0,q1];generalize(x.people.getD i default).father=a at p1 ⊢;generalize(x.people.getD i default).mother=b at p2 ⊢;have ge:∀(d:Int) (j:Int),0≤j→j<i→(v.set i d).getD j.toNat default=u.getD j.toNat default∧0≤u.getD j.toNat default:=fun d j j0 j1=>by rw[zbc,if_neg vdh];exact h3 _ vdh
  have gi:∀d:Int,(v.set i d).getD i default=d:=fun d=>by rw[zbc,if_pos ⟨rfl,vdh⟩]
  by_cases c1:0≤a<;>by_cases c2:0≤b
  ·obtain ⟨g1, g2⟩ := h3 a.toNat vdh;obtain ⟨g3, g4⟩ := ge (max 0 (u.getD a.toNat default + 1)) b c2 p2;simp only [c1, c2, decide_true, oE, h5, g1, g3, gi, List.set_set];have := key (max (u.getD a.toNat default + 1) (u.getD b.toNat default + 1)) vdh;rw [show max (max 0 (u.getD a.toNat default + 1)) (u.getD b.toNat default + 1) = max (u.getD a.toNat default + 1) (u.getD b.toNat default + 1) by omega];exact this
  ·obtain ⟨g1, g2⟩ := h3 a.toNat vdh;simp only [c1, c2, decide_true, decide_false, oE, oD, h5, g1];rw [show max 0 (u.getD a.toNat default + 1) = u.getD a.toNat default + 1 by omega];exact key _ vdh
  ·obtain ⟨g1, g2⟩ := h3 b.toNat vdh;simp only [c1, c2, decide_true, decide_false, oE, oD, h5, g1];exact key _ vdh
  simp only[c1,c2,decide_false,oD];have:=key 0 vdh;rw[hv] at this;exact this
 rintro v u ⟨h1,h2,h3,h4⟩;apply List.ext_getElem vdh;intro k hk1 hk2;have:=(h3 k vdh).1;rw[oi,oi,ol hk1,ol hk2] at this;simpa using this
theorem zli{p : Nat → Prop} : (∀j, j < 2 → p j) ↔ p 0 ∧ p 1 :=
  ⟨fun h => ⟨h 0 vdh, h 1 vdh⟩, fun h j hj => by
    match j,hj with
    |0,_=>exact h.1
    |1,_=>exact h.2⟩
theorem zs9(x:yc)(k:Nat)(hv:∀j:Nat,(x.people.getD j default).died=-1∨0≤(x.people.getD j default).died):zfq x k=zf1 x k:=by rw[Bool.eq_iff_iff];simp only[zfq,zf1,zdq,zar,zdb,l1In,oc,oj,zan,not_t_iff,zi5,ob,oa,zli,Int.toNat_natCast,Nat.zero_add,Nat.sub_zero,and_true];have q0:∀{α:Type} (a b d:α),[a,b].getD 0 d=a:=fun _ _ _=>rfl;have q1:∀{α:Type} (a b d:α),[a,b].getD 1 d=b:=fun _ _ _=>rfl;simp only[q0,q1];generalize(∀j,j<k→(x.unions.getD j default).man=(x.unions.getD k default).man→¬(x.unions.getD j default).woman=(x.unions.getD k default).woman)=Z;have h1:=hv (x.unions.getD k default).man.toNat;have h2:=hv (x.unions.getD k default).woman.toNat;generalize x.people.getD (x.unions.getD k default).man.toNat default=a at *;generalize x.people.getD (x.unions.getD k default).woman.toNat default=b at *;generalize x.unions.getD k default=u at *;by_cases hz:Z<;>simp only[hz,and_true,and_false];omega
theorem zu6(x:yc)(k:Nat)(h:zdl x k=true):(x.people.getD k default).died=-1∨0≤(x.people.getD k default).died:=by obtain⟨_,_,h1,h2,_⟩:=(zfs x k).1 h;simp only[Int.toNat_natCast] at h1 h2;omega
theorem zzl{c d X:Bool}(h:c=false∧d=false):(bif c then false else bif d then false else X)=X:=by rw[h.1,h.2];rfl
theorem zek(x : yc) : zbh x = zad x := by
 unfold zbh zad;generalize(decide (40<((x.people.length:Nat):Int))||decide (60<((x.unions.length:Nat):Int)))=c;cases c
 ·simp only [oD];refine zma (fun i (m : KV → Option Bool) (_ : Unit) => (∀ s, (m (KV.s s)).getD false = true ↔ ∃ j, j < i ∧ (x.people.getD j default).name = s) ∧ ∀ j : Nat, j < i → zdl x j = true) Eq ⟨fun s => by simp, fun j hj => absurd hj (oQ _)⟩ ?_ ?_
  ·rintro i m _ n1 n2 hi ⟨h1, h2⟩ hn;have hp := zfs x i;simp only [Int.toNat_natCast] at hp;have hnm := h1 (x.people.getD i default).name;simp only [zr2, z03];have hdup : (m (KV.s (x.people.getD i default).name)).getD false = false ↔ ∀ j, j < i → (x.people.getD j default).name ≠ (x.people.getD i default).name := (by rw [← Bool.not_eq_true, hnm];exact ⟨fun h j hj he => h ⟨j, hj, he⟩, fun h ⟨j, hj, he⟩ => h j hj he⟩);cases hq : zdl x i
   ·simp only [Bool.not_false, oE];refine Bool.eq_false_iff.2 fun hh => ?_;refine Bool.false_ne_true (hq.symm.trans (hp.2 ?_));simp only [zdq, zar, zan, not_t_iff, zi5, ob, oa, hdup] at hh;obtain ⟨⟨⟨⟨⟨⟨g1, g2⟩, g3⟩, g4⟩, g5⟩, g6⟩, ⟨g7, g8⟩, _⟩ := hh;exact ⟨g1, vdh, vdh, vdh, g2, g7, g8⟩
   simp only[Bool.not_true,oD];obtain⟨g1,g3,g4,g5,g2,g7,g8⟩:=hp.1 hq;refine(zzl ?_).trans (hn _ () ⟨fun s=>?_,fun j hj=>?_⟩)
   ·simp only [zar, zan, not_t_iff, zi5, ob, oa, hdup];exact ⟨⟨⟨⟨⟨⟨g1, g2⟩, vdh⟩, vdh⟩, vdh⟩, vdh⟩, g7, g8⟩
   ·simp only [mset];by_cases e : s = (x.people.getD i default).name
    ·subst e; simp only [if_true, Option.getD_some, true_iff]; exact ⟨i, vdh, rfl⟩
    rw[if_neg (fun q=>e (by injection q)),h1 s];refine⟨fun ⟨j,hj,he⟩=>⟨j,vdh,he⟩,fun ⟨j,hj,he⟩=>⟨j,?_,he⟩⟩;by_cases e2:j=i
    ·subst e2; exact absurd he.symm e
    omega
   by_cases e:j=i
   ·rw [e]; exact hq
   exact h2 j vdh
  rintro m _ ⟨h1, h2⟩;have hpar := fun k hk => ziy x k (h2 k hk);rw[z1h x hpar];have hu : ∀k : Nat, zfq x k = zf1 x k := fun k => zs9 x k fun j => by
   rcases o0 j x.people.length with h | h
   ·exact zu6 x j (h2 j h)
   rw[oi,o7 h];right;decide
  simp only[hu]
 rfl
def neg(l:List Int):Nat:=l.countP fun x=>decide (x<0)
theorem zvl : ∀(l : List Int) (i : Nat) (x : Int), i < l.length → l.getD i default < 0 → 0 ≤ x → neg (l.set i x) + 1 = neg l
  |[],i,x,h,_,_=>absurd h (oQ _)
  |a :: l, 0, x, _, h, hx => by
    have h:a<0:=h
    simp[neg,List.countP_cons,h,show ¬x<0 by omega]
  |a :: l, i + 1, x, hi, h, hx => by
    have:=zvl l i x (by simpa using hi) h hx
    simp only[neg,List.set_cons_succ,List.countP_cons] at this ⊢
    omega
structure StepsInv(x : yc)(o t : List Int) : Prop where
  rg:Rg o x.people.length fun k v=>-1≤v∧v+k≤x.people.length
  wait:∀j,j<t.length→0≤t.getD j default∧t.getD j default<x.people.length
  cnt:t.length+neg o≤x.people.length
theorem zue{o : List Int}{n i : Nat}(h : Rg o n fun k v => k < i → v = -1) : Rg (o.set i (-1)) n fun k v => k < i + 1 → v = -1 :=
  ⟨by simp [h.len], fun k hk hk2 => by
    rw[zbc]
    split
    · rfl
    · rename_i e
      rw[h.len] at e
      exact h.get k hk vdh⟩
theorem z5g{l:List Int}(h:∀k,k<l.length→l.getD k default=-1):neg l=l.length:=by unfold neg;rw[List.countP_eq_length];intro a ha;obtain⟨k,hk,e⟩:=oZ ha;have:=h k hk;rw[oi,ol hk] at this;simp only[Option.getD_some] at this;rw[←e,this];decide
theorem StepsInv.start{x : yc}{p : Int}(hp : 0 ≤ p ∧ p < x.people.length){v : List Int}(hv : Rg v x.people.length fun k v => k < x.people.length → v = -1) : StepsInv x (v.set p.toNat 0) [p] where
  rg:=Rg.set (hv.mono fun k y hk hy=>by have:=hy hk;omega) (fun h=>vdh)
  wait := fun j hj => by
    simp at hj;subst hj;exact hp
  cnt := by
    have h1:=z5g (l:=v) (fun k hk=>hv.get k (by rw[←hv.len];exact hk) (by rw[←hv.len];exact hk))
    have h2:=hv.get p.toNat vdh vdh
    have h3:=zvl v p.toNat 0 (by rw[hv.len];omega) vdh vdh
    have:=hv.len
    simp only[oI]
    omega
theorem StepsInv.pop{x:yc}{o t:List Int}(h:StepsInv x o t)(ht:0<t.length):StepsInv x o ((t.drop 1).take (t.length - 1))∧((t.drop 1).take (t.length - 1)).length+neg o+1=t.length+neg o:=by have hl:((t.drop 1).take (t.length - 1)).length=t.length - 1:=vdj;refine⟨⟨h.rg,fun j hj=>?_,by have:=h.cnt;omega⟩,vdh⟩;have hj':j+1<t.length:=vdh;have:=h.wait (j+1) hj';rw[oi,List.getElem?_take,if_pos vdh,List.getElem?_drop,Nat.add_comm 1 j];rw[oi] at this;exact this
theorem StepsInv.push{x : yc}{o t : List Int}(h : StepsInv x o t){a q : Int}(ha : 0 ≤ a ∧ a < x.people.length)(hq : 0 ≤ q ∧ q < a)(hn : o.getD q.toNat default < 0) : StepsInv x (o.set q.toNat (o.getD a.toNat default + 1)) (t ++ [q]) ∧ (t ++ [q]).length + neg (o.set q.toNat (o.getD a.toNat default + 1)) = t.length + neg o := by
 have h1:=h.rg.get a.toNat vdh;have h3:=zvl o q.toNat (o.getD a.toNat default+1) (by rw[h.rg.len];omega) hn vdh;have h4:(t++[q]).length=t.length+1:=vdj
 refine⟨⟨Rg.set h.rg fun _=>by omega,fun j hj=>?_,by have:=h.cnt;omega⟩,vdh⟩;rw[zeb];split
 ·exact h.wait j vc9
 rw[if_pos vdh];omega
theorem zo8(x:yc)(l:List Int):zco x l=true↔zad x=true∧∀j,j<l.length→0≤l.getD j default∧l.getD j default<x.people.length:=by simp only[zco,zek,zdq,zdb,zan,zar,oa,Int.not_lt,Int.not_le,and_true]
theorem znm(x:yc)(p q:Int):zco x [p,q]=true↔zad x=true∧(0≤p∧p<x.people.length)∧0≤q∧q<x.people.length:=by rw[zo8];exact and_congr_right' zli
theorem zb0(x:yc)(p:Int):zco x [p]=true↔zad x=true∧0≤p∧p<x.people.length:=by rw[zo8];refine and_congr_right' ⟨fun h=>h 0 vdj,fun h j hj=>?_⟩;simp at hj;subst hj;exact h
def C100(R:(List Int)):LV×List (Nat×BC):=(.own 0,[(0,.arr 1 R.length (rowOf (cInt .i64) R))])
def za5(x0:yc)(x1:Int):(List Int):=loopN (fun i1 (v1:(List Int)) next=>next (v1.set i1 (-1))) (fun (v1:(List Int))=>loopW (fun (v2:(List Int)×(List Int)) nx2=>bif(decide (0<((v2.2.length:Nat):Int))) then(loopN (fun i3 (v3:(List Int)×(List Int)) next=>bif(decide ((v3.1.getD (((zav x0 (v2.2.getD 0 default)).getD i3 default).toNat) default)<0)) then(next ((v3.1.set (((zav x0 (v2.2.getD 0 default)).getD i3 default).toNat) ((v3.1.getD ((v2.2.getD 0 default).toNat) default)+1)),(v3.2++[((zav x0 (v2.2.getD 0 default)).getD i3 default)]))) else(next (v3.1,v3.2))) (fun (v3:(List Int)×(List Int))=>nx2 (v3.1,v3.2)) ((zav x0 (v2.2.getD 0 default)).length) 0 (v2.1,((v2.2.drop 1).take (v2.2.length - 1)))) else v2.1) ([x1].length+neg (v1.set x1.toNat 0)+1) ((v1.set x1.toNat 0),[x1])) x0.people.length 0 (List.replicate x0.people.length (default:Int))
def z2h(x0:yc)(i1:Nat)(v1:(List Int)):Dl:=⟨[(17,.int .i64 ((i1:Nat):Int)),(5,.own 20005)],[(20005,.arr 1 x0.people.length (rowOf (cInt .i64) v1))]⟩
def z2g(x0:yc)(x1:Int)(i1:Nat)(v1:(List Int))(v2:(List Int)×(List Int)):Dl:=⟨[(5,.own 30005),(7,.own 20007)],[(30005,.arr 1 x0.people.length (rowOf (cInt .i64) v2.1)),(20007,.arr 1 v2.2.length (rowOf (cInt .i64) v2.2))]⟩
def zyf(x0:yc)(x1:Int)(i1:Nat)(v1:(List Int))(v2:(List Int)×(List Int))(i3:Nat)(v3:(List Int)×(List Int)):Dl:=⟨[(41,.int .i64 ((i3:Nat):Int)),(5,.own 20005),(7,.own 20007)],[(20005,.arr 1 x0.people.length (rowOf (cInt .i64) v3.1)),(20007,.arr 1 v3.2.length (rowOf (cInt .i64) v3.2))]⟩
def A100b3(x0:yc)(x1:Int)(i1:Nat)(v1:(List Int))(v2:(List Int)×(List Int))(i3:Nat)(v3:(List Int)×(List Int)):Ann:=let q5:=((i3:Nat):Int);let q2:=v2.2.getD 0 default;let q1:=(zav x0 q2).getD i3 default;let q3:=(v3.1.getD (q2.toNat) default)+1;let q6:=(((zav x0 q2).length:Nat):Int);let q4:=(0≤(q1:Int)∧(q1:Int)<((x0.people.length:Nat):Int));r0 1 [2,4,5,7,8,39,40,41,42] [2,1039,20005,20007] (cn (decide (q5<q6)) (r1 2 [2,4,5,7,8,10,39,40,41,49] [2,1039,20005,20007] [pf (0≤(q5:Int)∧(q5:Int)<q6),pf q4] [0,4] (cn (decide ((v3.1.getD (q1.toNat) default)<0)) (.reg 1 [] [(8,stC 20005 (cInt .i64) x0.people.length v3.1 (q1.toNat) q3)] [2,4,5,7,8,10,39,40,41] [2,1039,20005,20007] [] [pf (0≤(q2:Int)∧(q2:Int)<((x0.people.length:Nat):Int)),pf (inR .i64 q3),pf q4] [] [0,4,8,12] (.reg 1 [] [(2,bsC 60 (cInt .i64) ([q1]:List Int)),(3,ap1 61 (cInt .i64) 8 v3.2 q1)] [2,4,5,7,8,39,40,41] [2,61,1039,20005] [] [] [] [0,4] (r1 1 [2,4,5,7,8,39,40,41] [2,61,1039,20005] [pf (inR .i64 (q5+1))] [0] (.next 0 [(20005,some 20005),(20007,some 61)] (zyf x0 x1 i1 v1 v2 (i3+1) ((v3.1.set (q1.toNat) q3),(v3.2++[q1]))))))) (r1 1 [2,4,5,7,8,39,40,41] [2,1039,20005,20007] [pf (inR .i64 (q5+1))] [0] (.next 0 [(20005,some 20005),(20007,some 20007)] (zyf x0 x1 i1 v1 v2 (i3+1) (v3.1,v3.2)))))) (.next 1 [(30005,some 20005),(20007,some 20007)] (z2g x0 x1 i1 v1 (v3.1,v3.2))))
def A100b2(x0:yc)(x1:Int)(i1:Nat)(v1:(List Int))(v2:(List Int)×(List Int)):Ann:=let q2:=rowOf (cInt .i64) v2.1;let q1:=((v2.2.length:Nat):Int);r0 1 [2,4,5,7,31] [2,20007,30005] (cn (decide (0<q1)) (.reg 3 [] [(1001,slC 36 (cInt .i64) v2.2.length (1) (q1) 1 (v2.2.length - 1) v2.2 rfl rfl),(2002,k60 x0 (v2.2.getD 0 default))] [2,4,5,7,8,39,40,41] [2,36,1039,30005] [] [pf (0≤(0:Int)∧(0:Int)<q1)] [] [0,4,8] (lp (zyf x0 x1 i1 v1 v2) [] [30005,36] [(20005,some 30005),(20007,some 36)] (zyf x0 x1 i1 v1 v2 0 (v2.1,((v2.2.drop 1).take (v2.2.length - 1)))) (A100b3 x0 x1 i1 v1 v2))) (r0 1 [4] [30005] (.co false 30005 v2.1.length q2 [lnP q2 x0.people.length v2.1.length] [] 0 (rt [(0,some 30005)] (C100 v2.1)))))
def A100b1(x0:yc)(x1:Int)(i1:Nat)(v1:(List Int)):Ann:=let q2:=((i1:Nat):Int);let q1:=((x0.people.length:Nat):Int);r0 1 [1,2,4,5,16,17,18] [2,20005] (cn (decide (q2<q1)) (r0 1 [1,2,4,5,6,16,17] [2,20005] (.reg 1 [] [(3,stC 20005 (cInt .i64) x0.people.length v1 i1 (-1))] [1,2,4,5,16,17] [2,20005] [] [pf (0≤(q2:Int)∧(q2:Int)<q1)] [] [0,4] (r1 1 [1,2,4,5,16,17] [2,20005] [pf (inR .i64 (q2+1))] [0] (.next 0 [(20005,some 20005)] (z2h x0 (i1+1) (v1.set i1 (-1))))))) (.reg 2 [] [(3,stC 20005 (cInt .i64) x0.people.length v1 x1.toNat 0),(1001,bsC 28 (cInt .i64) ([x1]:List Int))] [2,4,5,7] [2,28,20005] [] [pf (0≤(x1:Int)∧(x1:Int)<q1)] [] [0,4,8] (.loop ((List Int)×(List Int)) (z2g x0 x1 i1 v1) [] [20005,28] [(30005,some 20005),(20007,some 28)] (z2g x0 x1 i1 v1 ((v1.set x1.toNat 0),[x1])) (A100b2 x0 x1 i1 v1))))
def A100(x0:yc)(x1:Int):Ann:=let q1:=((x0.people.length:Nat):Int);.reg 2 [] [(1003,msC 14 (cInt .i64) 8 q1 q1 x0.people.length (default:Int) (rfl))] [1,2,4,5] [2,14] [] [] [] [0] (r0 1 [1,2,4,5,16,17] [2,14] (lp (z2h x0) [] [14] [(20005,some 14)] (z2h x0 0 (List.replicate x0.people.length (default:Int))) (A100b1 x0 x1)))
theorem zok(x0 : yc)(x1 : Int)(hx : x0.people.length ≤ 1048576)(hi : 0 ≤ x1 ∧ x1 < x0.people.length)(hp : ∀(k : Nat), k < x0.people.length → (x0.people.getD k default).father < k ∧ (x0.people.getD k default).mother < k) : FnT Tryz.prog 100 [.agg (zaw false x0), .int .i64 x1] (C100 (za5 x0 x1)) := by
 have aux : ∀R, za5 x0 x1 = R → slim (C100 R) (A100 x0 x1) [] := by
  intro R hR;refine rg ⟨vc6,trivial⟩ ?_;refine rT ?_;refine lN (fun i v=>Rg v x0.people.length (fun k v=>k<i→v=-1)) (by(exact Rg.rep (fun k hk h=>absurd h (oQ _)))) rfl (fun i1 v1 F1 hn1 hI1 hR hK1=>?_) hR;refine rT ?_;refine⟨fun hc1=>?_,fun hc1=>?_⟩
  ·have hii1 : i1 < x0.people.length := vcH;replace hR := zai hR hii1;refine rT ?_;refine rg ⟨vc4, by (have := hI1.len; omega), trivial⟩ ?_;refine rg ⟨vcq, trivial⟩ ?_;exact hK1 (v1.set i1 (-1)) hii1 (by (exact zue hI1)) hR
  obtain rfl:i1=x0.people.length:=by have:=oB hc1;omega
  replace hR:=zaq hR (oR _);refine rg ⟨vdg,by(have:=hI1.len;omega),trivial,trivial⟩ ?_;refine lW (fun v=>StepsInv x0 v.1 v.2) (fun v=>v.2.length+neg v.1) (by(exact StepsInv.start hi hI1)) (oH _) rfl (fun m2 v2 F2 hI2 hM2 hR hK2=>?_) hR;refine rT ?_;refine cd (fun hc2 hR=>?_) (fun hc2 hR=>?_) hR
  ·refine rg ⟨va2, by ((try clear hR hK1 hK2); intros; (try simp only [ob, oa, oj, oc, zar, zan, not_t_iff, od, inR] at *); (repeat' apply And.intro) <;> (first | (intros; omega) | (simp_all [inR]; done))), ⟨vdg, by ((try clear hR hK1 hK2); intros; (try simp only [ob, oa, oj, oc, zar, zan, not_t_iff, od, inR] at *); (repeat' apply And.intro) <;> (have := hI2.wait 0 vdh; omega))⟩, trivial⟩ ?_;have hp1 := zcy x0 (v2.2.getD 0 default);refine lN (fun i v => StepsInv x0 v.1 v.2 ∧ v.2.length + neg v.1 + 1 = v2.2.length + neg v2.1 ∧ 0 < v2.2.length) (by ((try clear hR hK1 hK2); intros; (try simp only [ob, oa, oj, oc, zar, zan, not_t_iff, od, inR] at *); (repeat' apply And.intro) <;> (first | (intros; omega) | (have h9 := StepsInv.pop hI2 vdh; exact h9.1) | (have h9 := StepsInv.pop hI2 vdh; exact h9.2)))) rfl (fun i3 v3 F3 hn3 hI3 hR hK3 => ?_) hR;refine rT ?_;refine ⟨fun hc3 => ?_, fun hc3 => ?_⟩
   ·have hii3 : i3 < (zav x0 (v2.2.getD 0 default)).length := vcJ;replace hR := zai hR hii3;refine rg ⟨vc4, vaT, trivial⟩ ?_;refine cd (fun hc4 hR => ?_) (fun hc4 hR => ?_) hR
    ·refine rg ⟨by (have := hI2.wait 0 vdh; omega), by ((try clear hR hK1 hK2 hK3); intros; (try simp only [ob, oa, oj, oc, zar, zan, not_t_iff, od, inR] at *); (repeat' apply And.intro) <;> (have h0 := hI2.wait 0 vdh; have h3 := hI3.1.rg.get (v2.2.getD 0 default).toNat vdh; have := hI3.1.rg.len; omega)), vaT, vaT, trivial⟩ ?_;refine rg ⟨trivial, by (have h1 := hI3.1.cnt; omega), trivial⟩ ?_;refine rg ⟨vcq, trivial⟩ ?_;exact hK3 ((v3.1.set (((zav x0 (v2.2.getD 0 default)).getD i3 default).toNat) ((v3.1.getD ((v2.2.getD 0 default).toNat) default) + 1)), (v3.2 ++ [((zav x0 (v2.2.getD 0 default)).getD i3 default)])) hii3 (by ((try clear hR hK1 hK2 hK3); intros; (try simp only [ob, oa, oj, oc, zar, zan, not_t_iff, od, inR] at *); (repeat' apply And.intro) <;> (first | (intros; omega) | (have h0 := hI2.wait 0 vdh; have h1 := (zcy x0 (v2.2.getD 0 default)).2 i3 hii3; have h2 := hp (v2.2.getD 0 default).toNat vdh; have h4 := StepsInv.push hI3.1 h0 ⟨h1.1, vdh⟩ vc9; exact h4.1) | (have h0 := hI2.wait 0 vdh; have h1 := (zcy x0 (v2.2.getD 0 default)).2 i3 hii3; have h2 := hp (v2.2.getD 0 default).toNat vdh; have h4 := StepsInv.push hI3.1 h0 ⟨h1.1, vdh⟩ vc9; have h5 := h4.2; omega)))) hR
    refine rg ⟨vcx,trivial⟩ ?_;exact hK3 (v3.1,v3.2) hii3 vdg hR
   obtain rfl:i3=(zav x0 (v2.2.getD 0 default)).length:=(by have:=oB hc3;omega);replace hR:=zaq hR (oR _);exact hK2 (v3.1,v3.2) (by((try clear hR hK1 hK2 hK3);intros;(try simp only[ob,oa,oj,oc,zar,zan,not_t_iff,od,inR] at *);(repeat' apply And.intro)<;>(simp_all [inR];done))) vcx hR
  refine rT ?_;refine og (by(have h9:=hI2.rg.len;omega)) ?_;exact oe C100 hR
 exact Fn.go 64 Tryz.func100 zaa zaa (by simp[C100,Frs,FrsL,FrsB,rowOf,cInt,cBool,cStr,cSl,zbd,zah,zas,zaw]) (A100 x0 x1) zaa (aux _ rfl)
def k100(x0:yc)(x1:Int):Cl:=(hres (C100 (za5 x0 x1)),k3 (zok x0 x1))
end Go.Proofs.YtnibbmmljamolaaGreat
