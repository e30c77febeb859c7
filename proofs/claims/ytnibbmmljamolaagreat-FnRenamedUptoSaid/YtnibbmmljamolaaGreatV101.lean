import Derived.Test.YtnibbmmljamolaaGreatV33
set_option maxHeartbeats 4000000
set_option linter.unusedSimpArgs false
set_option linter.unusedVariables false
namespace Go.Proofs.YtnibbmmljamolaaGreat
open Go Go.Lite Go.Proofs
def C13(R:Dyad):LV×List (Nat×BC):=(.agg [.int .i64 R.num,.int .i64 R.exp],[])
def za9(x0:yc)(x1:Int)(x2:Int):Dyad:=bif(!(zco x0 [x1,x2])) then(Dyad.mk 0 0) else(zik ((zia (kin.mk x0 (fun _=>none)) x1 x2).1))
def A13(x0:yc)(x1:Int)(x2:Int):Ann:=let q1:=kin.mk x0 (fun _=>none);r0 1 [1,2,3,6] [3,6] (.reg 1 [] [(3,bsC 11 (cInt .i64) ([x1,x2]:List Int)),(4,k29 x0 [x1,x2])] [1,2,3,6,13] [3,6] [] [] [] [0,4] (cn (!(zco x0 [x1,x2])) (r0 1 [1,2,3,6] [3,6] (rt [] (C13 (Dyad.mk 0 0)))) (.reg 2 [] [(1002,k31 20 [7,16] q1 x1 x2),(1003,k30 ((zia q1 x1 x2).1))] [6] [6] [] [] [] [0,4] (rt [] (C13 (zik ((zia q1 x1 x2).1)))))))
theorem zoq(x0 : yc)(x1 : Int)(x2 : Int)(hx : x0.people.length ≤ 1048576)(hu : x0.unions.length ≤ 1048576)(hn : ∀p ∈ x0.people, p.name.length ≤ 1048576) : FnT Tryz.prog 13 [.agg (zaw false x0), .int .i64 x1, .int .i64 x2] (C13 (za9 x0 x1 x2)) := by
 have aux : ∀R, za9 x0 x1 x2 = R → slim (C13 R) (A13 x0 x1 x2) [] := by
  intro R hR;refine rT ?_;refine rg ⟨trivial,⟨vdg,vdg,vdg,vbe⟩,trivial⟩ ?_;refine cd (fun hc1 hR=>?_) (fun hc1 hR=>?_) hR
  ·refine rT ?_;exact oe C13 hR
  refine rg ⟨⟨by(have h3:=(znm x0 x1 x2).1 vcW;exact h3.1),vaS,vaS,by(exact SeenOk.nil _)⟩,by(have h3:=(znm x0 x1 x2).1 vcW;have h4:=((zbo _).1 h3.1).1;have h5:=zgo 100 ⟨x0,fun _=>none⟩ x1 x2 h3.1 h3.2.1 h3.2.2 vdh (SeenOk.nil _);have h6:=zxh h3.1 h3.2.1 h3.2.2;have h7:(zia ⟨x0,fun _=>none⟩ x1 x2).1=kn x0 x1 x2:=h5.1;omega),trivial⟩ ?_;exact oe C13 hR
 exact Fn.go 22 Tryz.func13 zaa zaa (by simp[C13,Frs,FrsL]) (A13 x0 x1 x2) zaa (aux _ rfl)
def k13(x0:yc)(x1:Int)(x2:Int):Cl:=(hres (C13 (za9 x0 x1 x2)),k3 (zoq x0 x1 x2))
structure Law where
  degree:Int
  canon:Int
  affinity:Int
  age:Int
  wives:Int
  husbands:Int
  patriline:Bool
  matriline:Bool
  deriving Inhabited
def cLaw(fr:Bool)(x:Law):List LV:=cInt .i64 x.degree++cInt .i64 x.canon++cInt .i64 x.affinity++cInt .i64 x.age++cInt .i64 x.wives++cInt .i64 x.husbands++cBool x.patriline++cBool x.matriline

def C73(R:Int):LV×List (Nat×BC):=(.int .i64 R,[])
def other(x0:yb)(x1:Int):Int:=bif(decide (x1=x0.man)) then x0.woman else(bif(decide (x1=x0.woman)) then x0.man else(-1))
def A73(x0:yb)(x1:Int):Ann:=r0 1 [1,2,4] [2] (r0 1 [2,4,5] [2] (r0 1 [2,4,5,6] [2] (cn (decide (x1=x0.man)) (r0 1 [4] [] (rt [] (C73 x0.woman))) (r0 1 [2,4,12] [2] (cn (decide (x1=x0.woman)) (r0 1 [4] [] (rt [] (C73 x0.man))) (r0 1 [4] [] (rt [] (C73 (-1)))))))))
theorem zkw(u:yb)(p:Int):other u p=u.man∨other u p=u.woman∨other u p=-1:=by unfold other;refine zaj (p:=fun (r:Int)=>r=u.man∨r=u.woman∨r=-1) (fun _=>.inr (.inl rfl)) (fun _=>?_);exact zaj (p:=fun (r:Int)=>r=u.man∨r=u.woman∨r=-1) (fun _=>.inl rfl) (fun _=>.inr (.inr rfl))
theorem zsb(x0 : yb)(x1 : Int) : FnT Tryz.prog 73 [.agg (zas false x0), .int .i64 x1] (C73 (other x0 x1)) := by
 have aux : ∀R, other x0 x1 = R → slim (C73 R) (A73 x0 x1) [] := by
  intro R hR;refine rT ?_;refine rT ?_;refine rT ?_;refine cd (fun hc1 hR=>?_) (fun hc1 hR=>?_) hR
  ·refine rT ?_;exact oe C73 hR
  refine rT ?_;refine cd (fun hc2 hR=>?_) (fun hc2 hR=>?_) hR
  ·refine rT ?_;exact oe C73 hR
  refine rT ?_;exact oe C73 hR
 exact Fn.go 18 Tryz.func73 zaa zaa (by simp[C73,Frs,FrsL]) (A73 x0 x1) zaa (aux _ rfl)
def k73(x0:yb)(x1:Int):Cl:=(hres (C73 (other x0 x1)),k0 (zsb x0 x1))
def C102(R:Int×Bool):LV×List (Nat×BC):=(.tup [.int .i64 R.1,.bool R.2],[])
def zf4(x0:yc)(x1:yb):Int×Bool:=bif(!decide (x1.to=(-1))) then(x1.to,true) else(bif(decide (((x0.people.getD x1.man.toNat default).died)=(-1))) then(Max.max ((x0.people.getD x1.woman.toNat default).died) 0,!decide (((x0.people.getD x1.woman.toNat default).died)=(-1))) else(bif(decide (((x0.people.getD x1.woman.toNat default).died)=(-1))) then((x0.people.getD x1.man.toNat default).died,true) else(Min.min ((x0.people.getD x1.man.toNat default).died) ((x0.people.getD x1.woman.toNat default).died),true)))
def A102(x0:yc)(x1:yb):Ann:=let q3:=((x0.people.length:Nat):Int);let q2:=x0.people.getD x1.man.toNat default;let q1:=(x0.people.getD x1.woman.toNat default).died;r0 1 [2,3,4,5] [2,3] (r0 1 [2,3,4,5,10] [2,3] (cn (!decide (x1.to=(-1))) (r0 1 [2,3,4,5] [2,3] (rt [] (C102 (x1.to,true)))) (r1 1 [4,5,6,7] [] [pf (0≤(x1.man:Int)∧(x1.man:Int)<q3),pf (0≤(x1.woman:Int)∧(x1.woman:Int)<q3)] [0,4] (r0 1 [4,5,6,7,27] [] (cn (decide ((q2.died)=(-1))) (r0 1 [4,5,6,7] [] (rt [] (C102 (Max.max q1 0,!decide (q1=(-1)))))) (r0 1 [4,5,6,7,34] [] (cn (decide (q1=(-1))) (r0 1 [4,5,6,7] [] (rt [] (C102 (q2.died,true)))) (r0 1 [4,5] [] (rt [] (C102 (Min.min (q2.died) q1,true)))))))))))
theorem zm4(x0 : yc)(x1 : yb)(hx : x0.people.length ≤ 1048576)(hm : 0 ≤ x1.man ∧ x1.man < x0.people.length)(hw : 0 ≤ x1.woman ∧ x1.woman < x0.people.length) : FnT Tryz.prog 102 [.agg (zaw false x0), .agg (zas false x1)] (C102 (zf4 x0 x1)) := by
 have aux : ∀R, zf4 x0 x1 = R → slim (C102 R) (A102 x0 x1) [] := by
  intro R hR;refine rT ?_;refine rT ?_;refine cd (fun hc1 hR=>?_) (fun hc1 hR=>?_) hR
  ·refine rT ?_;exact oe C102 hR
  refine rg ⟨vdg,vdg,trivial⟩ ?_;refine rT ?_;refine cd (fun hc2 hR=>?_) (fun hc2 hR=>?_) hR
  ·refine rT ?_;exact oe C102 hR
  refine rT ?_;refine cd (fun hc3 hR=>?_) (fun hc3 hR=>?_) hR
  ·refine rT ?_;exact oe C102 hR
  refine rT ?_;exact oe C102 hR
 exact Fn.go 41 Tryz.func102 zaa zaa (by simp[C102,Frs,FrsL]) (A102 x0 x1) zaa (aux _ rfl)
def k102(x0:yc)(x1:yb):Cl:=(hres (C102 (zf4 x0 x1)),k3 (zm4 x0 x1))
def C104(R:Int):LV×List (Nat×BC):=(.int .i64 R,[])
def up(x0:yc)(x1:Int)(x2:Int):Int:=bif(decide (x2=1)) then((x0.people.getD x1.toNat default).father) else((x0.people.getD x1.toNat default).mother)
def A104(x0:yc)(x1:Int)(x2:Int):Ann:=let q2:=x0.people.getD x1.toNat default;let q1:=(0≤(x1:Int)∧(x1:Int)<((x0.people.length:Nat):Int));r0 1 [1,2,3,6] [3] (r0 1 [1,3,6,8] [3] (cn (decide (x2=1)) (r1 1 [1,3,6] [3] [pf q1] [0] (rt [] (C104 (q2.father)))) (r1 1 [6] [] [pf q1] [0] (rt [] (C104 (q2.mother))))))
theorem zyo(x0 : yc)(x1 : Int)(x2 : Int)(hx : x0.people.length ≤ 1048576)(h1 : 0 ≤ x1 ∧ x1 < x0.people.length) : FnT Tryz.prog 104 [.agg (zaw false x0), .int .i64 x1, .int .i64 x2] (C104 (up x0 x1 x2)) := by
 have aux : ∀R, up x0 x1 x2 = R → slim (C104 R) (A104 x0 x1 x2) [] := by
  intro R hR;refine rT ?_;refine rT ?_;refine cd (fun hc1 hR=>?_) (fun hc1 hR=>?_) hR
  ·refine rg ⟨vdg, trivial⟩ ?_;exact oe C104 hR
  refine rg ⟨vdg,trivial⟩ ?_;exact oe C104 hR
 exact Fn.go 21 Tryz.func104 zaa zaa (by simp[C104,Frs,FrsL]) (A104 x0 x1 x2) zaa (aux _ rfl)
def k104(x0:yc)(x1:Int)(x2:Int):Cl:=(hres (C104 (up x0 x1 x2)),k2 (zyo x0 x1 x2))
def C74(R:Bool):LV×List (Nat×BC):=(.bool R,[])
def zdc(x0:ya)(x1:Int):Bool:=(decide (x1<x0.born))||((!decide (x0.died=(-1)))&&(decide (x0.died<x1)))
def A74(x0:ya)(x1:Int):Ann:=let q1:=decide (x1<x0.born);let q2:=!decide (x0.died=(-1));.reg 2 [] [] [4] [] [!q1,(!q1)&&q2,decide (x1<x0.born)] [gt (!q1) (gt q2 (pf (((!q1)&&q2)=true)))] [] [1,1,1,5,5,5,1,0,10] (rt [] (C74 (q1||(q2&&(decide (x0.died<x1))))))
theorem zl7(x0:ya)(x1:Int):FnT Tryz.prog 74 [.agg (zah false x0),.int .i64 x1] (C74 (zdc x0 x1)):=by have aux:∀R,zdc x0 x1=R→slim (C74 R) (A74 x0 x1) []:=(by intro R hR;refine rg ⟨vbj,trivial⟩ ?_;exact oe C74 hR);exact Fn.go 20 Tryz.func74 zaa zaa (by simp[C74,Frs,FrsL]) (A74 x0 x1) zaa (aux _ rfl)
def k74(x0:ya)(x1:Int):Cl:=(hres (C74 (zdc x0 x1)),k0 (zl7 x0 x1))
def C71(R:Bool):LV×List (Nat×BC):=(.bool R,[])
def lawIn(x0:Int)(x1:Int)(x2:Int):Bool:=(decide (x1≤x0))&&(decide (x0≤x2))
def A71(x0:Int)(x1:Int)(x2:Int):Ann:=.reg 2 [] [] [6] [] [decide (x1≤x0)] [] [] [1,1,1] (rt [] (C71 ((decide (x1≤x0))&&(decide (x0≤x2)))))
theorem zor(x0:Int)(x1:Int)(x2:Int):FnT Tryz.prog 71 [.int .i64 x0,.int .i64 x1,.int .i64 x2] (C71 (lawIn x0 x1 x2)):=by have aux:∀R,lawIn x0 x1 x2=R→slim (C71 R) (A71 x0 x1 x2) []:=(by intro R hR;refine rT ?_;exact oe C71 hR);exact Fn.go 15 Tryz.func71 zaa zaa (by simp[C71,Frs,FrsL]) (A71 x0 x1 x2) zaa (aux _ rfl)
def k71(x0:Int)(x1:Int)(x2:Int):Cl:=(hres (C71 (lawIn x0 x1 x2)),k0 (zor x0 x1 x2))
def C40(R:Bool):LV×List (Nat×BC):=(.bool R,[])
def ze3(x0:Law):Bool:=(((((lawIn x0.degree 0 20)&&(lawIn x0.affinity 0 20))&&(lawIn x0.canon 0 10))&&(lawIn x0.age 0 99))&&(lawIn x0.wives 1 9))&&(lawIn x0.husbands 1 9)
def A40(x0:Law):Ann:=let q5:=lawIn x0.wives 1 9;let q3:=lawIn x0.degree 0 20;let q4:=lawIn x0.affinity 0 20;let q1:=(q3&&q4)&&(lawIn x0.canon 0 10);let q2:=q1&&(lawIn x0.age 0 99);.reg 3 [] [(2003,k71 x0.degree 0 20),(2008,cg q3 (k71 x0.affinity 0 20)),(2014,cg (q3&&q4) (k71 x0.canon 0 10)),(2020,cg q1 (k71 x0.age 0 99)),(2026,cg q2 (k71 x0.wives 1 9)),(2032,cg (q2&&q5) (k71 x0.husbands 1 9))] [2] [] [lawIn x0.degree 0 20,q3&&q4,(q3&&q4)&&(lawIn x0.canon 0 10),q1&&(lawIn x0.age 0 99),q2&&q5] [] [] [0,1,1,1,4,1,5,5,5,8,5,9,9,9,12,9,13,13,13,16,13,17,17,17,20,17] (rt [] (C40 ((q2&&q5)&&(lawIn x0.husbands 1 9))))
theorem zsc(x0:Law):FnT Tryz.prog 40 [.agg (cLaw false x0)] (C40 (ze3 x0)):=by have aux:∀R,ze3 x0=R→slim (C40 R) (A40 x0) []:=(by intro R hR;refine rg ⟨trivial,fun hg0=>trivial,fun hg0=>trivial,fun hg0=>trivial,fun hg0=>trivial,fun hg0=>trivial,trivial⟩ ?_;exact oe C40 hR);exact Fn.go 38 Tryz.func40 zaa zaa (by simp[C40,Frs,FrsL]) (A40 x0) zaa (aux _ rfl)
def k40(x0:Law):Cl:=(hres (C40 (ze3 x0)),k0 (zsc x0))
def zgc(x0:Law):Bool:=(((((l1In x0.degree 0 20)&&(l1In x0.canon 0 10))&&(l1In x0.affinity 0 20))&&(l1In x0.age 0 99))&&(l1In x0.wives 1 9))&&(l1In x0.husbands 1 9)
theorem up_lt{x:yc}(hf:zad x=true){sex p:Int}(hp:0≤p∧p<x.people.length):up x p sex<p:=by have:=fam_p hf (k:=p.toNat) vdh;have h1:=this.fa;have h2:=this.mo;unfold up;exact zaj (p:=fun (r:Int)=>r<p) (fun _=>vdh) (fun _=>vdh)
theorem z0r{x:yc}(hf:zad x=true){a b:Int}(ha:0≤a∧a<x.people.length)(hb:0≤b∧b<x.people.length):(0≤(zf2 x a b).1∧(zf2 x a b).1≤x.people.length)∧0≤(zf2 x a b).2.1∧(zf2 x a b).2.1≤x.people.length:=by rw[zvp x a b hf ha hb];exact zro x a b
theorem z3b(l:Law):ze3 l=zgc l:=by unfold ze3 zgc lawIn l1In;rw[Bool.eq_iff_iff];simp only[oc,ob];omega
theorem zrp{l:Law}(h:zgc l=true):0≤l.age∧l.age≤99:=by unfold zgc l1In at h;simp only[oc,ob] at h;omega
def C75(R:(List Int)):LV×List (Nat×BC):=(.own 0,[(0,.arr 1 R.length (rowOf (cInt .i64) R))])
def zd8(x0:yc)(x1:Int)(x2:Int):(List Int):=loopN (fun i1 (v1:(List Int)) nx1=>bif((decide ((other (x0.unions.getD i1 default) x1)<0))||(decide (x2<((x0.unions.getD i1 default).from0)))) then(nx1 v1) else(bif((!((zf4 x0 (x0.unions.getD i1 default)).2))||(decide (x2<((zf4 x0 (x0.unions.getD i1 default)).1)))) then(nx1 (v1++[other (x0.unions.getD i1 default) x1])) else(nx1 v1))) (fun (v1:(List Int))=>v1) x0.unions.length 0 ([]:List Int)
def D75b1(i1:Nat)(v1:(List Int)):Dl:=⟨[(16,.int .i64 ((i1:Nat):Int)),(7,.own 20007)],[(20007,.arr 1 v1.length (rowOf (cInt .i64) v1))]⟩
def A75b1(x0:yc)(x1:Int)(x2:Int)(i1:Nat)(v1:(List Int)):Ann:=let q3:=((i1:Nat):Int);let q1:=x0.unions.getD i1 default;let q6:=((x0.unions.length:Nat):Int);let q4:=zf4 x0 q1;let q5:=(other q1 x1)<0;let q2:=(r1 1 [1,2,3,6,7,14,15,16] [3,20007] [pf (inR .i64 (q3+1))] [0] (.next 0 [(20007,some 20007)] (D75b1 (i1+1) v1)));r0 1 [1,2,3,6,7,14,15,16,17] [3,20007] (cn (decide (q3<q6)) (.reg 2 [] [(1002,k73 q1 x1)] [1,2,3,6,7,9,10,14,15,16] [3,9,20007] [] [pf (0≤(q3:Int)∧(q3:Int)<q6)] [] [0,4] (.reg 1 [] [] [1,2,3,6,7,9,10,14,15,16,30] [3,9,20007] [!(decide q5),decide q5] [] [] [1,1,1,6] (cn ((decide q5)||(decide (x2<(q1.from0)))) q2 (.reg 2 [] [(2,k102 x0 q1)] [1,2,3,6,7,10,14,15,16,43] [3,20007] [!(!(q4.2)),!(q4.2)] [] [] [0,1,1,6] (cn ((!(q4.2))||(decide (x2<(q4.1)))) (.reg 1 [] [(2,bsC 46 (cInt .i64) ([other q1 x1]:List Int)),(3,ap1 47 (cInt .i64) 8 v1 (other q1 x1))] [1,2,3,6,7,14,15,16] [3,47] [] [] [] [0,4] (r1 1 [1,2,3,6,7,14,15,16] [3,47] [pf (inR .i64 (q3+1))] [0] (.next 0 [(20007,some 47)] (D75b1 (i1+1) (v1++[other q1 x1]))))) q2))))) (r0 1 [6] [20007] (rt [(0,some 20007)] (C75 v1))))
def A75(x0:yc)(x1:Int)(x2:Int):Ann:=r0 2 [1,2,3,6,7] [3] (r0 1 [1,2,3,6,7,14,15,16] [3] (lp (D75b1) [] [] [(20007,none)] (D75b1 0 ([]:List Int)) (A75b1 x0 x1 x2)))
theorem zl6(x0 : yc)(x1 : Int)(x2 : Int)(hx : x0.people.length ≤ 1048576)(hf : zad x0 = true) : FnT Tryz.prog 75 [.agg (zaw false x0), .int .i64 x1, .int .i64 x2] (C75 (zd8 x0 x1 x2)) := by
 have aux : ∀R, zd8 x0 x1 x2 = R → slim (C75 R) (A75 x0 x1 x2) [] := by
  intro R hR;refine rT ?_;refine rT ?_;refine lN (fun i v=>v.length≤i) vdg rfl (fun i1 v1 F1 hn1 hI1 hR hK1=>?_) hR;refine rT ?_;refine⟨fun hc1=>?_,fun hc1=>?_⟩
  ·have hii1 : i1 < x0.unions.length := vcH;replace hR := zai hR hii1;refine rg ⟨vc4, trivial, trivial⟩ ?_;have hp1 := zkw (x0.unions.getD i1 default) x1;refine rT ?_;refine cd (fun hc2 hR => ?_) (fun hc2 hR => ?_) hR
   ·refine rg ⟨vau, trivial⟩ ?_;exact hK1 v1 hii1 vc4 hR
   refine rg ⟨⟨vdg,vbn,vbn⟩,trivial⟩ ?_;refine cd (fun hc3 hR=>?_) (fun hc3 hR=>?_) hR
   ·refine rg ⟨trivial, by (have hn9 := fam_n hf; have hu9 := fam_u hf (k := i1) hii1; have h91 := hu9.man; have h92 := hu9.woman; have h93 := hu9.from0; have h94 := hu9.to; omega), trivial⟩ ?_;refine rg ⟨vau, trivial⟩ ?_;exact hK1 (v1 ++ [other (x0.unions.getD i1 default) x1]) hii1 (by (have hn9 := fam_n hf; have hu9 := fam_u hf (k := i1) hii1; have h91 := hu9.man; have h92 := hu9.woman; have h93 := hu9.from0; have h94 := hu9.to; (try simp only [ob, oa, oh, Ob, ow, oC, List.length_replicate] at *); omega)) hR
   refine rg ⟨by((try clear hR hK1);intros;(try simp only[ob,oa,oj,oc,zar,zan,not_t_iff,od,inR] at *);(repeat' apply And.intro)<;>(first|(intros;omega)|(have hn9:=fam_n hf;have hu9:=fam_u hf (k:=i1) hii1;have h91:=hu9.man;have h92:=hu9.woman;have h93:=hu9.from0;have h94:=hu9.to;omega))),trivial⟩ ?_;exact hK1 v1 hii1 vc6 hR
  obtain rfl:i1=x0.unions.length:=by have:=oB hc1;omega
  replace hR:=zaq hR (oR _);refine rT ?_;exact oe C75 hR
 exact Fn.go 50 Tryz.func75 zaa zaa (by simp[C75,Frs,FrsL,FrsB,rowOf,cInt,cBool,cStr,cSl,zbd,zah,zas,zaw,cDyad,cLaw]) (A75 x0 x1 x2) zaa (aux _ rfl)
def k75(x0:yc)(x1:Int)(x2:Int):Cl:=(hres (C75 (zd8 x0 x1 x2)),k2 (zl6 x0 x1 x2))
def C78(R:Int):LV×List (Nat×BC):=(.int .i64 R,[])
def ze4(x0:yc)(x1:Int)(x2:Int):Int:=loopW (fun (v1:Int) next=>bif(decide (0≤(up x0 v1 x2))) then(next (up x0 v1 x2)) else v1) ((x1+1).toNat+1) x1
def D78b1(v1:Int):Dl:=⟨[(1,.int .i64 v1)],[]⟩
def A78b1(x0:yc)(x2:Int)(v1:Int):Ann:=.reg 1 [] [(3,k104 x0 v1 x2)] [1,2,3,6,11] [3] [] [] [] [0] (cn (decide (0≤(up x0 v1 x2))) (.reg 1 [] [(3,k104 x0 v1 x2)] [1,2,3,6] [3] [] [] [] [0] (.next 0 [] (D78b1 (up x0 v1 x2)))) (r0 1 [6] [] (rt [] (C78 v1))))
def A78(x0:yc)(x1:Int)(x2:Int):Ann:=r0 1 [1,2,3,6] [3] (.loop Int (D78b1) [] [] [] (D78b1 x1) (A78b1 x0 x2))
theorem zoo(x0 : yc)(x1 : Int)(x2 : Int)(hx : x0.people.length ≤ 1048576)(hf : zad x0 = true)(h1 : 0 ≤ x1 ∧ x1 < x0.people.length) : FnT Tryz.prog 78 [.agg (zaw false x0), .int .i64 x1, .int .i64 x2] (C78 (ze4 x0 x1 x2)) := by
 have aux : ∀R, ze4 x0 x1 x2 = R → slim (C78 R) (A78 x0 x1 x2) [] := by
  intro R hR;refine rT ?_;refine lW (fun v=>0≤v∧v<x0.people.length) (fun v=>(v+1).toNat) vdg (oH _) rfl (fun m1 v1 F1 hI1 hM1 hR hK1=>?_) hR;refine rg ⟨⟨vdg,vdg⟩,trivial⟩ ?_;refine cd (fun hc1 hR=>?_) (fun hc1 hR=>?_) hR
  ·refine rg ⟨⟨vdg, vdg⟩, trivial⟩ ?_;exact hK1 (up x0 v1 x2) (by (have h9 := up_lt hf (sex := x2) hI1; have h8 := om hc1; omega)) (by (have h9 := up_lt hf (sex := x2) hI1; omega)) hR
  refine rT ?_;exact oe C78 hR
 exact Fn.go 17 Tryz.func78 zaa zaa (by simp[C78,Frs,FrsL]) (A78 x0 x1 x2) zaa (aux _ rfl)
def k78(x0:yc)(x1:Int)(x2:Int):Cl:=(hres (C78 (ze4 x0 x1 x2)),k3 (zoo x0 x1 x2))
def C77(R:Bool):LV×List (Nat×BC):=(.bool R,[])
def zfp(x0:yc)(x1:Int)(x2:Int)(x3:Int):Bool:=((zf2 x0 x1 x2).2.2)&&(decide ((((zf2 x0 x1 x2).1)+((zf2 x0 x1 x2).2.1))≤x3))
def A77(x0:yc)(x1:Int)(x2:Int)(x3:Int):Ann:=let q1:=zf2 x0 x1 x2;.reg 3 [] [(1003,k103 x0 x1 x2)] [8] [] [q1.2.2] [gt (q1.2.2) (pf (inR .i64 ((q1.1)+(q1.2.1))))] [] [4,1,1,0,1,1,1] (rt [] (C77 ((q1.2.2)&&(decide (((q1.1)+(q1.2.1))≤x3)))))
theorem zm9(x0:yc)(x1:Int)(x2:Int)(x3:Int)(hx:x0.people.length≤1048576)(hf:zad x0=true)(h1:0≤x1∧x1<x0.people.length)(h2:0≤x2∧x2<x0.people.length):FnT Tryz.prog 77 [.agg (zaw false x0),.int .i64 x1,.int .i64 x2,.int .i64 x3] (C77 (zfp x0 x1 x2 x3)):=by have aux:∀R,zfp x0 x1 x2 x3=R→slim (C77 R) (A77 x0 x1 x2 x3) []:=(by intro R hR;refine rg ⟨by(have h9:=z0r hf h1 h2;have hn9:=fam_n hf;simp only[inR];omega),⟨vdg,vdg,vdg,vcB⟩,trivial⟩ ?_;exact oe C77 hR);exact Fn.go 28 Tryz.func77 zaa zaa (by simp[C77,Frs,FrsL]) (A77 x0 x1 x2 x3) zaa (aux _ rfl)
def k77(x0:yc)(x1:Int)(x2:Int)(x3:Int):Cl:=(hres (C77 (zfp x0 x1 x2 x3)),Go.Lite.k4 (zm9 x0 x1 x2 x3))
def C79(R:Bool):LV×List (Nat×BC):=(.bool R,[])
def ze2(x0:yc)(x1:Law)(x2:Int)(x3:Int)(x4:Int):Bool:=loopN (fun i1 (v1:Unit) next=>bif((((decide (((x0.unions.getD i1 default).from0)≤x4))&&(decide (0≤(other (x0.unions.getD i1 default) x2))))&&(!decide ((other (x0.unions.getD i1 default) x2)=x3)))&&(zfp x0 (other (x0.unions.getD i1 default) x2) x3 x1.affinity)) then true else(next ())) (fun (v1:Unit)=>false) x0.unions.length 0 ()
def D79b1(i1:Nat)(v1:Unit):Dl:=⟨[(17,.int .i64 ((i1:Nat):Int))],[]⟩
def A79b1(x0:yc)(x1:Law)(x2:Int)(x3:Int)(x4:Int)(i1:Nat)(v1:Unit):Ann:=let q4:=((i1:Nat):Int);let q1:=x0.unions.getD i1 default;let q5:=((x0.unions.length:Nat):Int);let q6:=other q1 x2;let q3:=!decide (q6=x3);let q2:=(decide ((q1.from0)≤x4))&&(decide (0≤q6));r0 1 [2,3,4,5,6,10,15,16,17,18] [5,6] (cn (decide (q4<q5)) (.reg 3 [] [(1002,k73 q1 x2),(2019,cg (q2&&q3) (k77 x0 q6 x3 x1.affinity))] [2,3,4,5,6,10,15,16,17,44] [5,6] [decide ((q1.from0)≤x4),(decide ((q1.from0)≤x4))&&(decide (0≤q6)),q2&&q3] [pf (0≤(q4:Int)∧(q4:Int)<q5)] [] [0,4,1,1,5,5,5,9,9,9,9,9,8,9] (cn ((q2&&q3)&&(zfp x0 q6 x3 x1.affinity)) (r0 1 [2,3,4,5,6,10,15,16,17] [5,6] (rt [] (C79 true))) (r1 1 [2,3,4,5,6,10,15,16,17] [5,6] [pf (inR .i64 (q4+1))] [0] (.next 0 [] (D79b1 (i1+1) ()))))) (r0 1 [10] [] (rt [] (C79 false))))
def A79(x0:yc)(x1:Law)(x2:Int)(x3:Int)(x4:Int):Ann:=r0 1 [2,3,4,5,6,10] [5,6] (r0 1 [2,3,4,5,6,10,15,16,17] [5,6] (lp (D79b1) [] [] [] (D79b1 0 ()) (A79b1 x0 x1 x2 x3 x4)))
theorem zm8(x0 : yc)(x1 : Law)(x2 : Int)(x3 : Int)(x4 : Int)(hx : x0.people.length ≤ 1048576)(hf : zad x0 = true)(h2 : 0 ≤ x2 ∧ x2 < x0.people.length)(h3 : 0 ≤ x3 ∧ x3 < x0.people.length) : FnT Tryz.prog 79 [.agg (zaw false x0), .agg (cLaw false x1), .int .i64 x2, .int .i64 x3, .int .i64 x4] (C79 (ze2 x0 x1 x2 x3 x4)) := by
 have aux : ∀R, ze2 x0 x1 x2 x3 x4 = R → slim (C79 R) (A79 x0 x1 x2 x3 x4) [] := by
  intro R hR;refine rT ?_;refine rT ?_;refine lN (fun i v=>True) vdg rfl (fun i1 v1 F1 hn1 hI1 hR hK1=>?_) hR;refine rT ?_;refine⟨fun hc1=>?_,fun hc1=>?_⟩
  ·have hii1 : i1 < x0.unions.length := vcH;replace hR := zai hR hii1;refine rg ⟨vc4, trivial, fun hg0 => ⟨vdg, vdg, by (have hn9 := fam_n hf; have hu9 := fam_u hf (k := i1) hii1; have h91 := hu9.man; have h92 := hu9.woman; have h93 := hu9.from0; have h94 := hu9.to; have h9 := zkw (x0.unions.getD i1 default) x2; simp only [ob, oa, oc, oj, not_t_iff] at *; omega), vdg⟩, trivial⟩ ?_;have hp1 := zkw (x0.unions.getD i1 default) x2;refine cd (fun hc2 hR => ?_) (fun hc2 hR => ?_) hR
   ·refine rT ?_;exact oe C79 hR
   refine rg ⟨by((try clear hR hK1);intros;(try simp only[ob,oa,oj,oc,zar,zan,not_t_iff,od,inR] at *);(repeat' apply And.intro)<;>(first|(intros;omega)|(have hn9:=fam_n hf;omega))),trivial⟩ ?_;exact hK1 () hii1 vdg hR
  obtain rfl:i1=x0.unions.length:=by have:=oB hc1;omega
  replace hR:=zaq hR (oR _);refine rT ?_;exact oe C79 hR
 exact Fn.go 46 Tryz.func79 zaa zaa (by simp[C79,Frs,FrsL]) (A79 x0 x1 x2 x3 x4) zaa (aux _ rfl)
def k79(x0:yc)(x1:Law)(x2:Int)(x3:Int)(x4:Int):Cl:=(hres (C79 (ze2 x0 x1 x2 x3 x4)),Go.Lite.k4 (zm8 x0 x1 x2 x3 x4))
end Go.Proofs.YtnibbmmljamolaaGreat
