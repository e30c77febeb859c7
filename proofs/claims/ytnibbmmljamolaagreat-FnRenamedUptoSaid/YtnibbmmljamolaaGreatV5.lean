import Derived.Test.YtnibbmmljamolaaGreatV2
set_option maxHeartbeats 4000000
set_option linter.unusedSimpArgs false
set_option linter.unusedVariables false
namespace Go.Proofs.YtnibbmmljamolaaGreat
open Go Go.Lite Go.Proofs
theorem zg0(x:yc)(i q s l:Int):zdx x i q s l=true↔q=-1∨0≤q∧q<i∧(x.people.getD q.toNat default).sex=s∧(x.people.getD q.toNat default).born<(x.people.getD i.toNat default).born∧((x.people.getD q.toNat default).died=-1∨(x.people.getD i.toNat default).born≤IntKind.wrap .i64 ((x.people.getD q.toNat default).died+l)):=by simp only[zdx,zdq,zrb,zar,oc,oj,ob,oa,zan,Int.not_lt,Int.not_le,and_assoc]
theorem zfs(x:yc)(i:Int):zdl x i=true↔zb7 (x.people.getD i.toNat default).name=true∧(1≤(x.people.getD i.toNat default).sex∧(x.people.getD i.toNat default).sex≤2)∧(0≤(x.people.getD i.toNat default).born∧(x.people.getD i.toNat default).born≤9999)∧((x.people.getD i.toNat default).died=-1∨(x.people.getD i.toNat default).born≤(x.people.getD i.toNat default).died∧(x.people.getD i.toNat default).died≤9999)∧(∀j,j<i.toNat→(x.people.getD j default).name≠(x.people.getD i.toNat default).name)∧zdx x i (x.people.getD i.toNat default).father 1 1=true∧zdx x i (x.people.getD i.toNat default).mother 2 0=true:=by simp only[zdl,zdq,zar,zdb,l1In,zan,zi5,oc,ob,beq_eq_false_iff_ne,and_assoc,not_t_iff,oa,od,←Classical.or_iff_not_imp_left]
theorem ziy(x:yc)(k:Nat)(h:zdl x k=true):(x.people.getD k default).father<k∧(x.people.getD k default).mother<k:=by obtain⟨_,_,_,_,_,h1,h2⟩:=(zfs x k).1 h;rw[zg0] at h1 h2;simp only[Int.toNat_natCast] at h1 h2;omega
def C110(R:Bool):LV×List (Nat×BC):=(.bool R,[])
def zad(x0:yc):Bool:=bif((decide (40<((x0.people.length:Nat):Int)))||(decide (60<((x0.unions.length:Nat):Int)))) then false else(loopN (fun i1 (v1:Unit) next=>bif(!(zdl x0 ((i1:Nat):Int))) then false else(next ())) (fun (v1:Unit)=>loopN (fun i2 (v2:Unit) next=>bif(decide (10<((zat x0).getD i2 default))) then false else(next ())) (fun (v2:Unit)=>loopN (fun i3 (v3:Unit) next=>bif(!(zf1 x0 ((i3:Nat):Int))) then false else(next ())) (fun (v3:Unit)=>true) x0.unions.length 0 ()) ((zat x0).length) 0 ()) x0.people.length 0 ())
def z2d(i1:Nat)(v1:Unit):Dl:=⟨[(20,.int .i64 ((i1:Nat):Int))],[]⟩
def z2c(i2:Nat)(v2:Unit):Dl:=⟨[(31,.int .i64 ((i2:Nat):Int))],[]⟩
def z2b(i3:Nat)(v3:Unit):Dl:=⟨[(41,.int .i64 ((i3:Nat):Int))],[]⟩
def A110b3(x0:yc)(i3:Nat)(v3:Unit):Ann:=let q1:=((i3:Nat):Int);r0 1 [1,2,40,41,42] [1] (cn (decide (q1<((x0.unions.length:Nat):Int))) (.reg 2 [] [(1002,k121 x0 q1)] [1,2,40,41,47] [1] [] [] [] [0] (cn (!(zf1 x0 q1)) (r0 1 [1,2,40,41] [1] (rt [] (C110 false))) (r1 1 [1,2,40,41] [1] [pf (inR .i64 (q1+1))] [0] (.next 0 [] (z2b (i3+1) ()))))) (r0 1 [2] [] (rt [] (C110 true))))
def A110b2(x0:yc)(i2:Nat)(v2:Unit):Ann:=let q1:=((i2:Nat):Int);let q2:=(((zat x0).length:Nat):Int);r0 1 [1,2,29,30,31,32] [1,1029] (cn (decide (q1<q2)) (r1 2 [1,2,29,30,31,36] [1,1029] [pf (0≤(q1:Int)∧(q1:Int)<q2)] [0] (cn (decide (10<((zat x0).getD i2 default))) (r0 1 [1,2,29,30,31] [1,1029] (rt [] (C110 false))) (r1 1 [1,2,29,30,31] [1,1029] [pf (inR .i64 (q1+1))] [0] (.next 0 [] (z2c (i2+1) ()))))) (r0 1 [1,2,40,41] [1] (lp (z2b) [] [] [] (z2b 0 ()) (A110b3 x0))))
def A110b1(x0:yc)(i1:Nat)(v1:Unit):Ann:=let q1:=((i1:Nat):Int);r0 1 [1,2,19,20,21] [1] (cn (decide (q1<((x0.people.length:Nat):Int))) (.reg 2 [] [(1002,k120 x0 q1)] [1,2,19,20,26] [1] [] [] [] [0] (cn (!(zdl x0 q1)) (r0 1 [1,2,19,20] [1] (rt [] (C110 false))) (r1 1 [1,2,19,20] [1] [pf (inR .i64 (q1+1))] [0] (.next 0 [] (z2d (i1+1) ()))))) (.reg 1 [] [(1,k88 x0)] [1,2,29,30,31] [1,1029] [] [] [] [0] (lp (z2c) [] [] [] (z2c 0 ()) (A110b2 x0))))
def A110(x0:yc):Ann:=let q1:=(40<((x0.people.length:Nat):Int));r0 1 [1,2] [1] (.reg 1 [] [] [1,2,16] [1] [!(decide q1),decide q1] [] [] [1,1,1,6] (cn ((decide q1)||(decide (60<((x0.unions.length:Nat):Int)))) (r0 1 [1,2] [1] (rt [] (C110 false))) (r0 1 [1,2,19,20] [1] (lp (z2d) [] [] [] (z2d 0 ()) (A110b1 x0)))))
theorem zm3(x0 : yc)(hx : x0.people.length ≤ 1048576)(hu : x0.unions.length ≤ 1048576)(hn : ∀p ∈ x0.people, p.name.length ≤ 1048576) : FnT Tryz.prog 110 [.agg (zaw false x0)] (C110 (zad x0)) := by
 have aux : ∀R, zad x0 = R → slim (C110 R) (A110 x0) [] := by
  intro R hR;refine rT ?_;refine rT ?_;refine cd (fun hc1 hR=>?_) (fun hc1 hR=>?_) hR
  ·refine rT ?_;exact oe C110 hR
  refine rT ?_;refine lN (fun i v=>∀k:Nat,k<i→zdl x0 k=true) vc6 rfl (fun i1 v1 F1 hn1 hI1 hR hK1=>?_) hR;refine rT ?_;refine⟨fun hc2=>?_,fun hc2=>?_⟩
  ·have hii1 : i1 < x0.people.length := vcI;replace hR := zai hR hii1;refine rg ⟨⟨vdg, vdg, vc4⟩, trivial⟩ ?_;refine cd (fun hc3 hR => ?_) (fun hc3 hR => ?_) hR
   ·refine rT ?_;exact oe C110 hR
   refine rg ⟨vcx,trivial⟩ ?_;exact hK1 () hii1 (by((try clear hR hK1);intros;(try simp only[ob,oa,oj,oc,zar,zan,not_t_iff,od,inR] at *);(repeat' apply And.intro)<;>grind [inR,zbc,zeb,zd2,Ob,zjb,zdl])) hR
  obtain rfl:i1=x0.people.length:=by have:=oB hc2;omega
  replace hR:=zaq hR (oR _);refine rg ⟨⟨vdg,by(exact fun k hk=>ziy _ _ (hI1 k hk))⟩,trivial⟩ ?_;have hp1:=zes x0;refine lN (fun i v=>True) vdg rfl (fun i2 v2 F2 hn2 hI2 hR hK2=>?_) hR;refine rT ?_;refine⟨fun hc4=>?_,fun hc4=>?_⟩
  ·have hii2 : i2 < (zat x0).length := (by have := om hc4; omega);replace hR := zai hR hii2;refine rg ⟨vc4, trivial⟩ ?_;refine cd (fun hc5 hR => ?_) (fun hc5 hR => ?_) hR
   ·refine rT ?_;exact oe C110 hR
   refine rg ⟨vcx,trivial⟩ ?_;exact hK2 () hii2 vdg hR
  obtain rfl:i2=(zat x0).length:=by have:=oB hc4;omega
  replace hR:=zaq hR (oR _);refine rT ?_;refine lN (fun i v=>True) vdg rfl (fun i3 v3 F3 hn3 hI3 hR hK3=>?_) hR;refine rT ?_;refine⟨fun hc6=>?_,fun hc6=>?_⟩
  ·have hii3 : i3 < x0.unions.length := (by have := om hc6; omega);replace hR := zai hR hii3;refine rg ⟨⟨vdg, vdg, vc4⟩, trivial⟩ ?_;refine cd (fun hc7 hR => ?_) (fun hc7 hR => ?_) hR
   ·refine rT ?_;exact oe C110 hR
   refine rg ⟨vcx,trivial⟩ ?_;exact hK3 () hii3 vdg hR
  obtain rfl:i3=x0.unions.length:=by have:=oB hc6;omega
  replace hR:=zaq hR (oR _);refine rT ?_;exact oe C110 hR
 exact Fn.go 49 Tryz.func110 zaa zaa (by simp[C110,Frs,FrsL]) (A110 x0) zaa (aux _ rfl)
def k110(x0:yc):Cl:=(hres (C110 (zad x0)),k3 (zm3 x0))
def l1Has(x0:yc)(x1:Int):Bool:=((decide (0≤x1))&&(decide (x1<((x0.people.length:Nat):Int))))&&(zad x0)
def C91(R:(List Int)):LV×List (Nat×BC):=(.own 0,[(0,.arr 1 R.length (rowOf (cInt .i64) R))])
def zam(x0:yc)(x1:Int):(List Int):=bif(decide (0≤((x0.people.getD x1.toNat default).father))) then(bif(decide (0≤((x0.people.getD x1.toNat default).mother))) then((([]:List Int)++[(x0.people.getD x1.toNat default).father])++[(x0.people.getD x1.toNat default).mother]) else(([]:List Int)++[(x0.people.getD x1.toNat default).father])) else(bif(decide (0≤((x0.people.getD x1.toNat default).mother))) then(([]:List Int)++[(x0.people.getD x1.toNat default).mother]) else([]:List Int))
def A91(x0:yc)(x1:Int):Ann:=let q1:=x0.people.getD x1.toNat default;let q5:=([q1.mother]:List Int);let q4:=decide (0≤(q1.mother));let q3:=(([]:List Int)++[q1.father]);let q2:=(0≤(x1:Int)∧(x1:Int)<((x0.people.length:Nat):Int));.reg 2 [] [(1000,bsC 6 (cInt .i64) ([]:List Int))] [1,2,4,5] [2,6] [] [] [] [0] (r1 1 [1,2,4,5,13] [2,6] [pf q2] [0] (cn (decide (0≤(q1.father))) (.reg 1 [] [(7,bsC 21 (cInt .i64) ([q1.father]:List Int)),(8,ap1 22 (cInt .i64) 8 ([]:List Int) (q1.father))] [1,2,4,5] [2,22] [] [pf q2] [] [0,4,8] (r1 1 [1,2,4,5,29] [2,22] [pf q2] [0] (cn q4 (.reg 1 [] [(7,bsC 37 (cInt .i64) q5),(8,ap1 38 (cInt .i64) 8 q3 (q1.mother))] [4,5] [38] [] [pf q2] [] [0,4,8] (r0 1 [4] [38] (rt [(0,some 38)] (C91 (q3++[q1.mother]))))) (r0 1 [4] [22] (rt [(0,some 22)] (C91 q3)))))) (r1 1 [1,2,4,5,29] [2,6] [pf q2] [0] (cn q4 (.reg 1 [] [(7,bsC 37 (cInt .i64) q5),(8,ap1 38 (cInt .i64) 8 ([]:List Int) (q1.mother))] [4,5] [38] [] [pf q2] [] [0,4,8] (r0 1 [4] [38] (rt [(0,some 38)] (C91 (([]:List Int)++[q1.mother]))))) (r0 1 [4] [6] (rt [(0,some 6)] (C91 ([]:List Int))))))))
theorem zcf(x : yc)(i : Int) : (zam x i).length ≤ 2 ∧ ∀k : Nat, k < (zam x i).length → 0 ≤ (zam x i).getD k default ∧ ((zam x i).getD k default = (x.people.getD i.toNat default).father ∨ (zam x i).getD k default = (x.people.getD i.toNat default).mother) := by
 unfold zam;cases h1:decide (0≤(x.people.getD i.toNat default).father)<;>cases h2:decide (0≤(x.people.getD i.toNat default).mother)<;>simp only[oE,oD]<;>refine⟨vdj,fun k hk=>?_⟩
 ·simp at hk
 ·simp at hk; subst hk; have := om h2; simpa using this
 ·simp at hk; subst hk; have := om h1; simpa using this
 have:=om h1;have:=om h2;simp at hk;match k,hk with
 |0,_ =>exact⟨vc9,.inl rfl⟩
 |1,_ =>exact⟨vc9,.inr rfl⟩
theorem zlx(x0 : yc)(x1 : Int)(hx : x0.people.length ≤ 1048576)(hi : 0 ≤ x1 ∧ x1 < x0.people.length) : FnT Tryz.prog 91 [.agg (zaw false x0), .int .i64 x1] (C91 (zam x0 x1)) := by
 have aux : ∀R, zam x0 x1 = R → slim (C91 R) (A91 x0 x1) [] := by
  intro R hR;refine rg ⟨trivial,trivial⟩ ?_;refine rg ⟨vdg,trivial⟩ ?_;refine cd (fun hc1 hR=>?_) (fun hc1 hR=>?_) hR
  ·refine rg ⟨vdg, trivial, vdg, trivial⟩ ?_;refine rg ⟨vdg, trivial⟩ ?_;refine cd (fun hc2 hR => ?_) (fun hc2 hR => ?_) hR
   ·refine rg ⟨vdg, trivial, va4, trivial⟩ ?_;refine rT ?_;exact oe C91 hR
   refine rT ?_;exact oe C91 hR
  refine rg ⟨vdg,trivial⟩ ?_;refine cd (fun hc3 hR=>?_) (fun hc3 hR=>?_) hR
  ·refine rg ⟨vdg, trivial, vdg, trivial⟩ ?_;refine rT ?_;exact oe C91 hR
  refine rT ?_;exact oe C91 hR
 exact Fn.go 40 Tryz.func91 zaa zaa (by simp[C91,Frs,FrsL,FrsB,rowOf,cInt,cBool,cStr,cSl,zbd,zah,zas,zaw]) (A91 x0 x1) zaa (aux _ rfl)
theorem ze0(x:yc)(p:Int):l1Has x p=true↔(0≤p∧p<x.people.length)∧zad x=true:=by simp only[l1Has,oc,ob]
theorem zbo(x : yc) : zad x = true ↔ (x.people.length ≤ 40 ∧ x.unions.length ≤ 60) ∧ (∀k : Nat, k < x.people.length → zdl x k = true) ∧ (∀k : Nat, k < x.people.length → (zat x).getD k default ≤ 10) ∧ ∀k : Nat, k < x.unions.length → zf1 x k = true := by
 simp only[zad,zdq,zar,zdb,zan,oa,Int.not_lt,zes,and_true];constructor
 ·rintro ⟨⟨h1, h2⟩, h3, h4, h5⟩; exact ⟨⟨vdh, vdh⟩, h3, h4, h5⟩
 rintro⟨⟨h1,h2⟩,h3,h4,h5⟩;exact⟨⟨vdh,vdh⟩,h3,h4,h5⟩
theorem zc1(x:yc)(h:zad x=true):∀(k:Nat),k<x.people.length→(x.people.getD k default).father<k∧(x.people.getD k default).mother<k:=fun k hk=>ziy x k (((zbo x).1 h).2.1 k hk)
def l8Up(x0:yc)(x1:Int):(List Int):=loopN (fun i1 (v1:(List Int)) next=>next (v1++[(-1)])) (fun (v1:(List Int))=>loopW (fun (v2:(List Int)×Int) next=>bif(decide (0≤v2.2)) then(bif(decide ((v2.1.getD v2.2.toNat default)<0)) then(next (v2.1,v2.2 - 1)) else(loopN (fun i3 (v3:(List Int)) next=>bif((decide ((v3.getD (((zam x0 v2.2).getD i3 default).toNat) default)<0))||(decide (((v3.getD v2.2.toNat default)+1)<(v3.getD (((zam x0 v2.2).getD i3 default).toNat) default)))) then(next (v3.set (((zam x0 v2.2).getD i3 default).toNat) ((v3.getD v2.2.toNat default)+1))) else(next v3)) (fun (v3:(List Int))=>next (v3,v2.2 - 1)) ((zam x0 v2.2).length) 0 v2.1)) else v2.1) ((((v1.length:Nat):Int) - 1+1).toNat+1) ((v1.set x1.toNat 0),((v1.length:Nat):Int) - 1)) x0.people.length 0 ([]:List Int)
theorem zxf(x : yc)(p : Int) : (l8Up x p).length = x.people.length := by
 unfold l8Up;refine za3 (fun i (v:List Int)=>v.length=i) (fun (r:List Int)=>r.length=x.people.length) rfl (fun i v next _ hv hn=>hn _ (by simp[hv])) (fun v hv=>?_);refine za8 (fun (s:List Int×Int)=>s.1.length=x.people.length) (fun s=>(s.2+1).toNat) (fun (r:List Int)=>r.length=x.people.length) (fun s next hs hn=>?_) _ _ (oH _) (by simp[hv]);cases h1:decide (0≤s.2)
 ·exact hs
 have:=om h1;cases decide (s.1.getD s.2.toNat default<0)
 ·refine za3 (fun i (v : List Int) => v.length = x.people.length) (fun (r : List Int) => r.length = x.people.length) hs (fun i v next _ hv hn => ?_) (fun v hv => hn _ hv (by simp only; omega));cases (_ || _ : Bool)
  ·exact hn _ hv
  exact hn _ (by simp[hv])
 exact hn _ hs vcV
def C51(R:Bool):LV×List (Nat×BC):=(.bool R,[])
def zfd(x0:List UInt8):Bool:=bif((decide (((x0.length:Nat):Int)<1))||(decide (12<((x0.length:Nat):Int)))) then false else(loopN (fun i1 (v1:Unit) next=>bif((decide (((x0.getD i1 0).toNat:Int)<97))||(decide (122<((x0.getD i1 0).toNat:Int)))) then false else(next ())) (fun (v1:Unit)=>true) x0.length 0 ())
def D51b1(i1:Nat)(v1:Unit):Dl:=⟨[(3,.int .i64 ((i1:Nat):Int))],[]⟩
def A51b1(x0:List UInt8)(i1:Nat)(v1:Unit):Ann:=let q1:=((x0.getD i1 0).toNat:Int);let q3:=decide (q1<97);let q2:=(0≤(((i1:Nat):Int):Int)∧(((i1:Nat):Int):Int)<((x0.length:Nat):Int));r0 1 [0,2,3,15] [] (cn (decide (((i1:Nat):Int)<((x0.length:Nat):Int))) (.reg 1 [] [] [0,2,3,27] [] [!q3,decide (q1<97)] [pf q2,gt (!q3) (pf q2)] [] [0,1,1,4,1,6] (cn (q3||(decide (122<q1))) (r0 1 [0,2,3] [] (rt [] (C51 false))) (r1 1 [0,2,3] [] [pf (inR .i64 (((i1:Nat):Int)+1))] [0] (.next 0 [] (D51b1 (i1+1) ()))))) (r0 1 [2] [] (rt [] (C51 true))))
def A51(x0:List UInt8):Ann:=let q1:=((x0.length:Nat):Int);r0 1 [0,2] [] (.reg 1 [] [] [0,2,11] [] [!(decide (q1<1)),decide (q1<1)] [] [] [1,1,6] (cn ((decide (q1<1))||(decide (12<q1))) (r0 1 [0,2] [] (rt [] (C51 false))) (r0 1 [0,2,3] [] (lp (D51b1) [] [] [] (D51b1 0 ()) (A51b1 x0)))))
theorem zqd(x0 : List UInt8)(hx : x0.length ≤ 1048576) : FnT Tryz.prog 51 [.str x0] (C51 (zfd x0)) := by
 have aux : ∀R, zfd x0 = R → slim (C51 R) (A51 x0) [] := by
  intro R hR;refine rT ?_;refine rT ?_;refine cd (fun hc1 hR=>?_) (fun hc1 hR=>?_) hR
  ·refine rT ?_;exact oe C51 hR
  refine rT ?_;refine lN (fun i v=>True) vdg rfl (fun i1 v1 F1 hn1 hI1 hR hK1=>?_) hR;refine rT ?_;refine⟨fun hc2=>?_,fun hc2=>?_⟩
  ·have hii1 : i1 < x0.length := vcI;replace hR := zai hR hii1;refine rg ⟨vc4, vc4, trivial⟩ ?_;refine cd (fun hc3 hR => ?_) (fun hc3 hR => ?_) hR
   ·refine rT ?_;exact oe C51 hR
   refine rg ⟨vcx,trivial⟩ ?_;exact hK1 () hii1 vdg hR
  obtain rfl:i1=x0.length:=by have:=oB hc2;omega
  replace hR:=zaq hR (oR _);refine rT ?_;exact oe C51 hR
 exact Fn.go 28 Tryz.func51 zaa zaa (by simp[C51,Frs,FrsL]) (A51 x0) zaa (aux _ rfl)
def k51(x0:List UInt8):Cl:=(hres (C51 (zfd x0)),k1 (zqd x0))
def C52(R:Bool):LV×List (Nat×BC):=(.bool R,[])
def zb9(x0:List ya)(x1:Int)(x2:Int)(x3:Int)(x4:Int):Bool:=bif(decide (x2=(-1))) then true else(bif((decide (x2<0))||(decide (x1≤x2))) then false else(((decide (((x0.getD x2.toNat default).sex)=x3))&&(decide (((x0.getD x2.toNat default).born)<((x0.getD x1.toNat default).born))))&&((decide (((x0.getD x2.toNat default).died)=(-1)))||(decide (((x0.getD x1.toNat default).born)≤(IntKind.wrap .i64 (((x0.getD x2.toNat default).died)+x4)))))))
def A52(x0:List ya)(x1:Int)(x2:Int)(x3:Int)(x4:Int):Ann:=let q2:=x0.getD x2.toNat default;let q5:=(x0.getD x1.toNat default).born;let q6:=(q2.sex)=x3;let q3:=decide ((q2.died)=(-1));let q4:=(pf (0≤(x1:Int)∧(x1:Int)<((x0.length:Nat):Int)));let q1:=(decide q6)&&(decide ((q2.born)<q5));r0 1 [0,1,2,3,4,10] [] (r0 1 [0,1,2,3,4,10,13] [] (cn (decide (x2=(-1))) (r0 1 [0,1,2,3,4,10] [] (rt [] (C52 true))) (.reg 1 [] [] [0,1,2,3,4,10,20] [] [!(decide (x2<0)),decide (x2<0)] [] [] [1,1,6] (cn ((decide (x2<0))||(decide (x1≤x2))) (r0 1 [0,1,2,3,4,10] [] (rt [] (C52 false))) (.reg 2 [(1027,.wrap)] [] [10] [] [decide q6,(decide q6)&&(decide ((q2.born)<q5)),q1&&(!q3)] [pf (0≤(x2:Int)∧(x2:Int)<((x0.length:Nat):Int)),gt (decide q6) q4,gt (q1&&(!q3)) q4,gt q1 (gf q3 (pf ((q1&&(!q3))=true)))] [] [0,1,1,1,4,1,1,1,1,1,5,5,5,9,9,8,9,9,9,9,9,9,9,5,12,5] (rt [] (C52 (q1&&(q3||(decide (q5≤(IntKind.wrap .i64 ((q2.died)+x4)))))))))))))
theorem zk0(x0 : List ya)(x1 : Int)(x2 : Int)(x3 : Int)(x4 : Int)(hx : x0.length ≤ 1048576)(hi : 0 ≤ x1 ∧ x1 < x0.length) : FnT Tryz.prog 52 [.ro false 6 x0.length (rowOf (zah false) x0), .int .i64 x1, .int .i64 x2, .int .i64 x3, .int .i64 x4] (C52 (zb9 x0 x1 x2 x3 x4)) := by
 have aux : ∀R, zb9 x0 x1 x2 x3 x4 = R → slim (C52 R) (A52 x0 x1 x2 x3 x4) [] := by
  intro R hR;refine rT ?_;refine rT ?_;refine cd (fun hc1 hR=>?_) (fun hc1 hR=>?_) hR
  ·refine rT ?_;exact oe C52 hR
  refine rT ?_;refine cd (fun hc2 hR=>?_) (fun hc2 hR=>?_) hR
  ·refine rT ?_;exact oe C52 hR
  refine rg ⟨vbj,vc6,vc6,vbj,trivial⟩ ?_;exact oe C52 hR
 exact Fn.go 56 Tryz.func52 zaa zaa (by simp[C52,Frs,FrsL]) (A52 x0 x1 x2 x3 x4) zaa (aux _ rfl)
def k52(x0:List ya)(x1:Int)(x2:Int)(x3:Int)(x4:Int):Cl:=(hres (C52 (zb9 x0 x1 x2 x3 x4)),k2 (zk0 x0 x1 x2 x3 x4))
def C53(R:(List Int)):LV×List (Nat×BC):=(.own 0,[(0,.arr 1 R.length (rowOf (cInt .i64) R))])
def zhs(x0:List ya):(List Int):=loopN (fun i1 (v1:(List Int)) nx1=>loopN (fun i2 (v2:(List Int)) next=>bif(decide (0≤([(x0.getD i1 default).father,(x0.getD i1 default).mother].getD i2 default))) then(next (v2.set i1 (Max.max (v2.getD i1 default) ((v2.getD (([(x0.getD i1 default).father,(x0.getD i1 default).mother].getD i2 default).toNat) default)+1)))) else(next v2)) (fun (v2:(List Int))=>nx1 v2) 2 0 v1) (fun (v1:(List Int))=>v1) x0.length 0 (List.replicate x0.length (default:Int))
def D53b1(x0:List ya)(i1:Nat)(v1:(List Int)):Dl:=⟨[(13,.int .i64 ((i1:Nat):Int)),(3,.own 20003)],[(20003,.arr 1 x0.length (rowOf (cInt .i64) v1))]⟩
def D53b2(x0:List ya)(i2:Nat)(v2:(List Int)):Dl:=⟨[(24,.int .i64 ((i2:Nat):Int)),(3,.own 30003)],[(30003,.arr 1 x0.length (rowOf (cInt .i64) v2))]⟩
def A53b2(x0:List ya)(i1:Nat)(i2:Nat)(v2:(List Int)):Ann:=let q3:=((i2:Nat):Int);let q5:=((i1:Nat):Int);let q6:=((x0.length:Nat):Int);let q1:=([(x0.getD i1 default).father,(x0.getD i1 default).mother].getD i2 default);let q2:=(v2.getD (q1.toNat) default)+1;let q4:=Max.max (v2.getD i1 default) q2;r0 1 [2,3,4,11,12,13,22,23,24,25] [22,30003] (cn (decide (q3<2)) (r1 2 [2,3,4,7,11,12,13,22,23,24,29] [22,30003] [pf (0≤(q3:Int)∧(q3:Int)<((2:Nat):Int))] [0] (cn (decide (0≤q1)) (.reg 1 [] [(13,stC 30003 (cInt .i64) x0.length v2 i1 q4)] [2,3,4,11,12,13,22,23,24] [22,30003] [] [pf (0≤(q5:Int)∧(q5:Int)<q6),pf (0≤(q1:Int)∧(q1:Int)<q6),pf (inR .i64 q2)] [] [0,4,8,0,12] (r1 1 [2,3,4,11,12,13,22,23,24] [22,30003] [pf (inR .i64 (q3+1))] [0] (.next 0 [(30003,some 30003)] (D53b2 x0 (i2+1) (v2.set i1 q4))))) (r1 1 [2,3,4,11,12,13,22,23,24] [22,30003] [pf (inR .i64 (q3+1))] [0] (.next 0 [(30003,some 30003)] (D53b2 x0 (i2+1) v2))))) (r1 1 [2,3,11,12,13] [30003] [pf (inR .i64 (q5+1))] [0] (.next 1 [(20003,some 30003)] (D53b1 x0 (i1+1) v2))))
def A53b1(x0:List ya)(i1:Nat)(v1:(List Int)):Ann:=let q1:=((i1:Nat):Int);let q2:=((x0.length:Nat):Int);r0 1 [2,3,11,12,13,14] [20003] (cn (decide (q1<q2)) (.reg 2 [] [(1004,bsC 22 (cInt .i64) ([(x0.getD i1 default).father,(x0.getD i1 default).mother]:List Int))] [2,3,4,11,12,13,22,23,24] [22,20003] [] [pf (0≤(q1:Int)∧(q1:Int)<q2)] [] [0,4] (lp (D53b2 x0) [] [20003] [(30003,some 20003)] (D53b2 x0 0 v1) (A53b2 x0 i1))) (r0 1 [2] [20003] (.co false 20003 v1.length (rowOf (cInt .i64) v1) [lnP (rowOf (cInt .i64) v1) x0.length v1.length] [] 0 (rt [(0,some 20003)] (C53 v1)))))
def A53(x0:List ya):Ann:=let q1:=((x0.length:Nat):Int);.reg 2 [] [(1002,msC 10 (cInt .i64) 8 q1 q1 x0.length (default:Int) (rfl))] [0,2,3] [10] [] [] [] [0] (r0 1 [2,3,11,12,13] [10] (lp (D53b1 x0) [] [10] [(20003,some 10)] (D53b1 x0 0 (List.replicate x0.length (default:Int))) (A53b1 x0)))
theorem zy6(x:List ya):(zhs x).length=x.length:=by unfold zhs;refine za3 (fun i (v:List Int)=>v.length=x.length) (fun (r:List Int)=>r.length=x.length) vdj (fun i v next _ hv hn=>?_) (fun v hv=>hv);refine za3 (fun i (v:List Int)=>v.length=x.length) (fun (r:List Int)=>r.length=x.length) hv (fun i v next _ hv hn=>?_) (fun v hv=>hn _ hv);exact zaj (p:=fun (r:List Int)=>r.length=x.length) (fun _=>hn _ (by simp[hv])) (fun _=>hn _ hv)
theorem zqa(x0 : List ya)(hx : x0.length ≤ 1048576)(hp : ∀(k : Nat), k < x0.length → (x0.getD k default).father < k ∧ (x0.getD k default).mother < k) : FnT Tryz.prog 53 [.ro false 6 x0.length (rowOf (zah false) x0)] (C53 (zhs x0)) := by
 have aux : ∀R, zhs x0 = R → slim (C53 R) (A53 x0) [] := by
  intro R hR;refine rg ⟨vc6,trivial⟩ ?_;refine rT ?_;refine lN (fun i v=>Rg v x0.length (fun j v=>0≤v∧v≤j)) (by(exact Rg.rep (fun k hk=>show 0≤(0:Int)∧(0:Int)≤k from⟨vdh,vdh⟩))) rfl (fun i1 v1 F1 hn1 hI1 hR hK1=>?_) hR;refine rT ?_;refine⟨fun hc1=>?_,fun hc1=>?_⟩
  ·have hii1 : i1 < x0.length := vcH;replace hR := zai hR hii1;refine rg ⟨vc4, trivial, trivial⟩ ?_;refine lN (fun i v => Rg v x0.length (fun j v => 0 ≤ v ∧ v ≤ j)) vdg rfl (fun i2 v2 F2 hn2 hI2 hR hK2 => ?_) hR;refine rT ?_;refine ⟨fun hc2 => ?_, fun hc2 => ?_⟩
   ·have hii2 : i2 < 2 := vcI;replace hR := zai hR hii2;refine rg ⟨vc4, trivial⟩ ?_;refine cd (fun hc3 hR => ?_) (fun hc3 hR => ?_) hR
    ·refine rg ⟨vc4, by ((try clear hR hK1 hK2); intros; (try simp only [ob, oa, oj, oc, zar, zan, not_t_iff, od, inR] at *); (repeat' apply And.intro) <;> (first | (intros; omega) | (have h1 := hp i1 hii1; have h2 := zn8 (p := fun q => q < (i1 : Int)) (d := default) h1.1 h1.2 hii2; have := hI2.len; omega))), by ((try clear hR hK1 hK2); intros; (try simp only [ob, oa, oj, oc, zar, zan, not_t_iff, od, inR] at *); (repeat' apply And.intro) <;> (have h1 := hp i1 hii1; have h2 := zn8 (p := fun q => q < (i1 : Int)) (d := default) h1.1 h1.2 hii2; have := hI2.get _ (show ([(x0.getD i1 default).father, (x0.getD i1 default).mother].getD i2 default).toNat < x0.length by omega); omega)), by (have := hI2.len; omega), trivial⟩ ?_;refine rg ⟨vcq, trivial⟩ ?_;exact hK2 (v2.set i1 (Max.max (v2.getD i1 default) ((v2.getD (([(x0.getD i1 default).father, (x0.getD i1 default).mother].getD i2 default).toNat) default) + 1))) hii2 (by ((try clear hR hK1 hK2); intros; (try simp only [ob, oa, oj, oc, zar, zan, not_t_iff, od, inR] at *); (repeat' apply And.intro) <;> (have h1 := hp i1 hii1; have h2 := zn8 (p := fun q => q < (i1 : Int)) (d := default) h1.1 h1.2 hii2; have h3 := hI2.get _ (show ([(x0.getD i1 default).father, (x0.getD i1 default).mother].getD i2 default).toNat < x0.length by omega); have h4 := hI2.get i1 hii1; exact Rg.set hI2 (fun _ => vdh)))) hR
    refine rg ⟨vcx,trivial⟩ ?_;exact hK2 v2 hii2 vdg hR
   obtain rfl:i2=2:=vcP;replace hR:=zaq hR (oR _);refine rg ⟨vcx,trivial⟩ ?_;exact hK1 v2 hii1 vdg hR
  obtain rfl:i1=x0.length:=by have:=oB hc1;omega
  replace hR:=zaq hR (oR _);refine rT ?_;refine og (by(have:=hI1.len;omega)) ?_;exact oe C53 hR
 exact Fn.go 46 Tryz.func53 zaa zaa (by simp[C53,Frs,FrsL,FrsB,rowOf,cInt,cBool,cStr,cSl,zbd,zah,zas,zaw]) (A53 x0) zaa (aux _ rfl)
def k53(x0:List ya):Cl:=(hres (C53 (zhs x0)),k2 (zqa x0))
def C54(R:Bool):LV×List (Nat×BC):=(.bool R,[])
def zfq(x0:yc)(x1:Int):Bool:=bif((((decide (((x0.unions.getD x1.toNat default).man)<0))||(decide (((x0.people.length:Nat):Int)≤((x0.unions.getD x1.toNat default).man))))||(decide (((x0.unions.getD x1.toNat default).woman)<0)))||(decide (((x0.people.length:Nat):Int)≤((x0.unions.getD x1.toNat default).woman)))) then false else(bif((((((!decide (((x0.people.getD (((x0.unions.getD x1.toNat default).man).toNat) default).sex)=1))||(!decide (((x0.people.getD (((x0.unions.getD x1.toNat default).woman).toNat) default).sex)=2)))||(decide (9999<((x0.unions.getD x1.toNat default).from0))))||(decide (((x0.unions.getD x1.toNat default).from0)<((x0.people.getD (((x0.unions.getD x1.toNat default).man).toNat) default).born))))||(decide (((x0.unions.getD x1.toNat default).from0)<((x0.people.getD (((x0.unions.getD x1.toNat default).woman).toNat) default).born))))||((!decide (((x0.unions.getD x1.toNat default).to)=(-1)))&&((decide (((x0.unions.getD x1.toNat default).to)<((x0.unions.getD x1.toNat default).from0)))||(decide (9999<((x0.unions.getD x1.toNat default).to)))))) then false else(loopN (fun i1 (v1:Unit) next=>bif((!decide ((([(x0.people.getD (((x0.unions.getD x1.toNat default).man).toNat) default),(x0.people.getD (((x0.unions.getD x1.toNat default).woman).toNat) default)].getD i1 default).died)=(-1)))&&((decide ((([(x0.people.getD (((x0.unions.getD x1.toNat default).man).toNat) default),(x0.people.getD (((x0.unions.getD x1.toNat default).woman).toNat) default)].getD i1 default).died)<((x0.unions.getD x1.toNat default).from0)))||((!decide (((x0.unions.getD x1.toNat default).to)=(-1)))&&(decide ((([(x0.people.getD (((x0.unions.getD x1.toNat default).man).toNat) default),(x0.people.getD (((x0.unions.getD x1.toNat default).woman).toNat) default)].getD i1 default).died)<((x0.unions.getD x1.toNat default).to)))))) then false else(next ())) (fun (v1:Unit)=>loopN (fun i2 (v2:Unit) next=>bif((decide (((x0.unions.getD (0+i2) default).man)=((x0.unions.getD x1.toNat default).man)))&&(decide (((x0.unions.getD (0+i2) default).woman)=((x0.unions.getD x1.toNat default).woman)))) then false else(next ())) (fun (v2:Unit)=>true) (x1.toNat - 0) 0 ()) 2 0 ()))
def D54b1(i1:Nat)(v1:Unit):Dl:=⟨[(101,.int .i64 ((i1:Nat):Int))],[]⟩
def D54b2(i2:Nat)(v2:Unit):Dl:=⟨[(133,.int .i64 ((i2:Nat):Int))],[]⟩
def A54b2(x0:yc)(x1:Int)(i2:Nat)(v2:Unit):Ann:=let q2:=((i2:Nat):Int);let q3:=((x1.toNat - 0:Nat):Int);let q1:=((x0.unions.getD (0+i2) default).man)=((x0.unions.getD x1.toNat default).man);r0 1 [4,5,131,132,133,134] [5] (cn (decide (q2<q3)) (.reg 2 [] [] [4,5,131,132,133,148] [5] [decide q1] [pf (0≤(q2:Int)∧(q2:Int)<q3)] [] [0,1,1,1,1,1] (cn ((decide q1)&&(decide (((x0.unions.getD (0+i2) default).woman)=((x0.unions.getD x1.toNat default).woman)))) (r0 1 [4,5,131,132,133] [5] (rt [] (C54 false))) (r1 1 [4,5,131,132,133] [5] [pf (inR .i64 (q2+1))] [0] (.next 0 [] (D54b2 (i2+1) ()))))) (r0 1 [4] [] (rt [] (C54 true))))
def A54b1(x0:yc)(x1:Int)(i1:Nat)(v1:Unit):Ann:=let q6:=((i1:Nat):Int);let q2:=x0.unions.getD x1.toNat default;let q4:=!decide ((q2.to)=(-1));let q1:=(([(x0.people.getD ((q2.man).toNat) default),(x0.people.getD ((q2.woman).toNat) default)].getD i1 default).died);let q7:=!decide (q1=(-1));let q5:=decide (q1<(q2.from0));let q3:=q7&&(!q5);r0 1 [1,2,4,5,99,100,101,102] [2,5,99] (cn (decide (q6<2)) (.reg 2 [] [] [1,2,4,5,99,100,101,126] [2,5,99] [!decide (q1=(-1)),q7&&(!q5),q3&&q4] [pf (0≤(q6:Int)∧(q6:Int)<((2:Nat):Int)),gt q3 (gt q4 (pf ((q3&&q4)=true))),gt q7 (gf q5 (pf (q3=true)))] [] [0,1,1,1,1,1,5,5,5,9,9,9,9,5,4,1,8,1] (cn (q7&&(q5||(q4&&(decide (q1<(q2.to)))))) (r0 1 [1,2,4,5,99,100,101] [2,5,99] (rt [] (C54 false))) (r1 1 [1,2,4,5,99,100,101] [2,5,99] [pf (inR .i64 (q6+1))] [0] (.next 0 [] (D54b1 (i1+1) ()))))) (r1 1 [4,5,131,132,133] [5] [pf (0≤(0:Int)∧(0:Int)≤x1∧(x1:Int)≤((x0.unions.length:Nat):Int))] [0] (lp (D54b2) [] [] [] (D54b2 0 ()) (A54b2 x0 x1))))
def A54(x0:yc)(x1:Int):Ann:=let q8:=((x0.people.length:Nat):Int);let q2:=x0.unions.getD x1.toNat default;let q14:=(q2.man)<0;let q12:=decide ((q2.woman)<0);let q6:=!decide ((q2.to)=(-1));let q7:=decide (9999<(q2.from0));let q5:=x0.people.getD ((q2.man).toNat) default;let q10:=x0.people.getD ((q2.woman).toNat) default;let q15:=(q5.sex)=1;let q9:=decide ((q2.to)<(q2.from0));let q11:=decide ((q2.from0)<(q5.born));let q4:=(decide q14)||(decide (q8≤(q2.man)));let q3:=(!decide q15)||(!decide ((q10.sex)=2));let q16:=q3||q7;let q1:=(q16||q11)||(decide ((q2.from0)<(q10.born)));let q13:=(!q1)&&q6;r1 2 [1,2,4,5] [2,5] [pf (0≤(x1:Int)∧(x1:Int)<((x0.unions.length:Nat):Int))] [0] (.reg 1 [] [] [1,2,4,5,40] [2,5] [!(decide q14),decide q14,!q4,(decide q14)||(decide (q8≤(q2.man))),!(q4||q12),q4||q12] [] [] [1,1,1,1,1,6,9,9,14,17,17,17,17,17,22] (cn ((q4||q12)||(decide (q8≤(q2.woman)))) (r0 1 [1,2,4,5] [2,5] (rt [] (C54 false))) (r1 1 [1,2,4,5,6,7] [2,5,6,7] [pf (0≤(q2.man:Int)∧(q2.man:Int)<q8),pf (0≤(q2.woman:Int)∧(q2.woman:Int)<q8)] [0,4] (.reg 1 [] [] [1,2,4,5,6,7,96] [2,5,6,7] [!(!decide q15),!decide q15,!q3,(!decide q15)||(!decide ((q10.sex)=2)),!q16,q3||q7,!(q16||q11),q16||q11,!q1,(!q1)&&q6,q13&&(!q9),(q16||q11)||(decide ((q2.from0)<(q10.born)))] [gt q13 (gf q9 (pf ((q13&&(!q9))=true))),gt (!q1) (gt q6 (pf (q13=true)))] [] [1,1,6,9,9,14,17,17,17,17,22,25,25,25,25,30,33,33,33,37,37,37,37,37,41,41,37,0,33,4,46] (cn (q1||(q6&&(q9||(decide (9999<(q2.to)))))) (r0 1 [1,2,4,5,6,7] [2,5,6,7] (rt [] (C54 false))) (.reg 1 [] [(2,bsC 99 (zah true) ([q5,q10]:List ya))] [1,2,4,5,99,100,101] [2,5,99] [] [] [] [0] (lp (D54b1) [] [] [] (D54b1 0 ()) (A54b1 x0 x1))))))))
theorem zl1(x0 : yc)(x1 : Int)(hx : x0.people.length ≤ 1048576)(hu : x0.unions.length ≤ 1048576)(hi : 0 ≤ x1 ∧ x1 < x0.unions.length) : FnT Tryz.prog 54 [.agg (zaw false x0), .int .i64 x1] (C54 (zfq x0 x1)) := by
 have aux : ∀R, zfq x0 x1 = R → slim (C54 R) (A54 x0 x1) [] := by
  intro R hR;refine rg ⟨vdg,trivial⟩ ?_;refine rT ?_;refine cd (fun hc1 hR=>?_) (fun hc1 hR=>?_) hR
  ·refine rT ?_;exact oe C54 hR
  refine rg ⟨vbj,vbj,trivial⟩ ?_;refine rg ⟨vbj,vbj,trivial⟩ ?_;refine cd (fun hc2 hR=>?_) (fun hc2 hR=>?_) hR
  ·refine rT ?_;exact oe C54 hR
  refine rg ⟨trivial,trivial⟩ ?_;refine lN (fun i v=>True) vdg rfl (fun i1 v1 F1 hn1 hI1 hR hK1=>?_) hR;refine rT ?_;refine⟨fun hc3=>?_,fun hc3=>?_⟩
  ·have hii1 : i1 < 2 := vcJ;replace hR := zai hR hii1;refine rg ⟨vc4, va5, va5, trivial⟩ ?_;refine cd (fun hc4 hR => ?_) (fun hc4 hR => ?_) hR
   ·refine rT ?_;exact oe C54 hR
   refine rg ⟨vcx,trivial⟩ ?_;exact hK1 () hii1 vdg hR
  obtain rfl:i1=2:=by have:=oB hc3;omega
  replace hR:=zaq hR (oR _);refine rg ⟨vc6,trivial⟩ ?_;refine lN (fun i v=>True) vdg rfl (fun i2 v2 F2 hn2 hI2 hR hK2=>?_) hR;refine rT ?_;refine⟨fun hc5=>?_,fun hc5=>?_⟩
  ·have hii2 : i2 < x1.toNat - 0 := vcK;replace hR := zai hR hii2;refine rg ⟨vc4, trivial⟩ ?_;refine cd (fun hc6 hR => ?_) (fun hc6 hR => ?_) hR
   ·refine rT ?_;exact oe C54 hR
   refine rg ⟨vcx,trivial⟩ ?_;exact hK2 () hii2 vdg hR
  obtain rfl:i2=x1.toNat - 0:=by have:=oB hc5;omega
  replace hR:=zaq hR (oR _);refine rT ?_;exact oe C54 hR
 exact Fn.go 150 Tryz.func54 zaa zaa (by simp[C54,Frs,FrsL]) (A54 x0 x1) zaa (aux _ rfl)
def k54(x0:yc)(x1:Int):Cl:=(hres (C54 (zfq x0 x1)),k3 (zl1 x0 x1))
end Go.Proofs.YtnibbmmljamolaaGreat
