import Derived.Shelf.Strings.OnBuilder
import Derived.Shelf.Small.Strs
import Derived.Shelf.Strings.Search1
import Derived.Shelf.Strings.Cut
import Derived.Shelf.Strconv.AtoiErr
import Derived.Shelf.Strconv.Atoi
import Derived.Shelf.Strings.SplitShaped
import Derived.Shelf.Strconv.Itoa3
import Derived.Test.YtnphfelaffdmkaaGreatDoorProg
import Derived.Test.YtnphfelaffdmkaaGreatDoorLiteV
import Derived.KernelRfl
set_option maxHeartbeats 4000000
set_option linter.unusedSimpArgs false
set_option linter.unusedVariables false
namespace Go.Proofs.YtnphfelaffdmkaaGreatDoor
open Go Go.Lite Go.Proofs
open _root_.Bool renaming or_eq_false_iff→yz, not_eq_false'→yQ
open _root_.List renaming length_take→yK, length_drop→yL, countP_cons→Y1, getElem_mem→Ya, length_map→Yx
open _root_.And renaming intro→YU
open Go.IntKind renaming wrap→yV
open _root_.Nat renaming zero_mul→YG, zero_add→yA, add_mul→Ys, one_mul→Y0
open _root_.Inhabited renaming default→wl
theorem zaa{p:Prop}(h:p:=by rfl):p:=h
theorem vaa{p:Prop}(h:p:=by have h9 := zdk x0 [58, 32]; have h8 := zdk (cutS x0 [58, 32]).2.1 [32, 45, 62, 32]; have h7 := zdm (cutS (cutS x0 [58, 32]).2.1 [32, 45, 62, 32]).1; have h6 := zhw (za3 (cutS (cutS x0 [58, 32]).2.1 [32, 45, 62, 32]).1).2 [94]; (try have h5 := zjh j1.1 [36]); (try have h4 := zb5 j2.1); (try have h3 := zb5 (cutS (cutS x0 [58, 32]).2.1 [32, 45, 62, 32]).2.1); (try dsimp only); (try simp only[inR, ot, oA]); omega):p:=h
theorem vab{p:Prop}(h:p:=by have h9:=zdk x0 [58,32];have h8:=zdk (cutS x0 [58,32]).2.1 [32,45,62,32];have h7:=zdm (cutS (cutS x0 [58,32]).2.1 [32,45,62,32]).1;have h6:=zhw (za3 (cutS (cutS x0 [58,32]).2.1 [32,45,62,32]).1).2 [94];(try have h5:=zjh j1.1 [36]);(try have h4:=zb5 j2.1);(try have h3:=zb5 (cutS (cutS x0 [58,32]).2.1 [32,45,62,32]).2.1);(try dsimp only);(try simp only[inR,ot,oA]);omega):p:=h
theorem vac{p:Prop}(h:p:=by have h9 := hee _ (zat (d := default) hii1); have h8 := zfo (zfz (x := x0.rules) (by first|(rw[←zwa]; simp only[Bool.or_eq_false_iff, Bool.not_eq_false'] at hc1; exact hc1.1)|(simp only[Bool.or_eq_false_iff, Bool.not_eq_false'] at hc1; exact hc1.1))) (x0.entries.getD i1 default).type; (try rw[zn8]); omega):p:=h
theorem vad{p:Prop}(h:p:=by have h9 := zbm x0 32 0; have h8 := zbm x0 32 1; have h7 := zbm x0 32 3; have h6 := zfq ((zao x0 32).getD 1 default); have h5 := zcu ((zao x0 32).getD 3 default); (try have h4 := zcu j1.1); (try dsimp only); (try simp only[inR, List.length_take, List.length_drop]); omega):p:=h
theorem vae{p:Prop}(h:p:=by have h9:=zbm x0 32 0;have h8:=zbm x0 32 1;have h7:=zbm x0 32 3;have h6:=zfq ((zao x0 32).getD 1 default);have h5:=zcu ((zao x0 32).getD 3 default);(try have h4:=zcu j1.1);(try dsimp only);(try simp only[inR,List.length_take,List.length_drop]);omega):p:=h
theorem vaf{p:Prop}(h:p:=by have h9 := zbu (r := x0) (by rw[←zh3]; simpa using hc1); have h8 := zdn x0.from0; have h7 := zdn x0.to; have h6 := zf7 x0.sex; have h5 := zjw (zcx x0.to); (try simp only[og, ot, oA]); omega):p:=h
theorem vag{p:Prop}(h:p:=by have h9:=hs _ (zat (d:=default) hii1);have h8:=zf6 (l:=[([]:List UInt8),[101],[121]]) (n:=1) (by decide) (x0.getD i1 default).age.toNat;(try simp only[inR,og,ot,oA,List.length_take,List.length_drop]);omega):p:=h
theorem vah{p:Prop}(h:p:=by have h9:=zbu (r:=x0) (by rw[←zh3];simpa using hc1);have h8:=zdn x0.from0;have h7:=zdn x0.to;have h6:=zf7 x0.sex;have h5:=zjw (zcx x0.to);(try simp only[og,ot,oA]);omega):p:=h
theorem vai{p:Prop}(h:p:=by exact zfz (by first|(rw[←zwa]; simp only[Bool.or_eq_false_iff, Bool.not_eq_false'] at hc1; exact hc1.1)|(simp only[Bool.or_eq_false_iff, Bool.not_eq_false'] at hc1; exact hc1.1))):p:=h
theorem vaj{p:Prop}(h:p:=by have h9 := zbu (r := x0) (by simpa using hc1); have h8 := zet x0.from0; have h7 := zet x0.to; have h6 := zfp x0.sex; (try simp only[og, ot, oA]); omega):p:=h
theorem vak{p:Prop}(h:p:=by simp[C142,Frs,FrsL,FrsB,rowOf,cInt,cBool,cStr,cSl,zar,cStep,zag,cRule,zam,zah,zab,zac,zaf,cLaw,zay,zbd,zap,za0,zb2,zal]):p:=h
theorem vam{p:Prop}(h:p:=by have h9:=zkd ha (t:=yb.mk v1.1 v1.2) (by first | (rw[←zf0];simpa using hc1) | simpa using hc1);(try rw[zf0]);have h8:=hI1;dsimp only at h9 ⊢;omega):p:=h
theorem van{p:Prop}(h:p:=by first|(rw[←zwa]; simp only[Bool.or_eq_false_iff, Bool.not_eq_false'] at hc1; exact hc1.1)|(simp only[Bool.or_eq_false_iff, Bool.not_eq_false'] at hc1; exact hc1.1)):p:=h
theorem vao{p:Prop}(h:p:=by simp[C197F,FrsN,nrOf,Frs,FrsL,FrsB,rowOf,cInt,cBool,cStr,cSl,zar,cStep,zag,cRule,zam,zah,zab,zac,zaf,cLaw,zay,zbd,zap]):p:=h
theorem vap{p:Prop}(h:p:=by have h9 := hs _ (zat (d := default) hii1); have h8 := zb0; (try simp only[inR, og, ot, oA, List.length_take, List.length_drop, zb0]); omega):p:=h
theorem vaq{p:Prop}(h:p:=by have h9:=zbu (r:=x0) (by simpa using hc1);have h8:=zet x0.from0;have h7:=zet x0.to;have h6:=zfp x0.sex;(try simp only[og,ot,oA]);omega):p:=h
theorem vas{p:Prop}(h:p:=by simp[C68,Frs,FrsL,FrsB,rowOf,cInt,cBool,cStr,cSl,zar,cStep,zag,cRule,zam,zah,zab,zac,zaf,cLaw,zay,zbd,zap,za0]):p:=h
theorem vat{p:Prop}(h:p:=by have h9:=zrp [70,77,66,90,83,68,72,87] ((x0.getD j1.1.toNat 0).toNat:Int);simp only[ot,oA] at h9;(try simp only[ob,oa] at *);(try simp only[inR]);omega):p:=h
theorem vau{p:Prop}(h:p:=by(try clear hR hJ101); intros; (try simp only[ob, oa, oi, oc, zaw, za4, zci, od, inR] at *); (repeat' apply And.intro) <;> (intros; omega)):p:=h
theorem vav{p:Prop}(h:p:=by(try clear hR hK1); intros; (try simp only[ob, oa, oi, oc, zaw, za4, zci, od, inR] at *); (repeat' apply And.intro) <;> (intros; omega)):p:=h
theorem vaw{p:Prop}(h:p:=by have h9:=hs _ (zat (d:=default) hii1);have h8:=zb0;(try simp only[inR,og,ot,oA,List.length_take,List.length_drop,zb0]);omega):p:=h
theorem vax{p:Prop}(h:p:=by(try clear hR); intros; (try simp only[ob, oa, oi, oc, zaw, za4, zci, od, inR] at *); (repeat' apply And.intro) <;> (intros; omega)):p:=h
theorem vay{p:Prop}(h:p:=by simp[C68,Frs,FrsL,FrsB,rowOf,cInt,cBool,cStr,cSl,zar,cStep,zag,cRule,zam,zah,zab,zac,zaf,cLaw,zay,zbd]):p:=h
theorem vaz{p:Prop}(h:p:=by(try clear hR hK1);intros;(try simp only[ob,oa,oi,oc,zaw,za4,zci,od,inR] at *);(repeat' apply And.intro)<;>(intros;omega)):p:=h
theorem vaA{p:Prop}(h:p:=by(try clear hR);intros;(try simp only[ob,oa,oi,oc,zaw,za4,zci,od,inR] at *);(repeat' apply And.intro)<;>(intros;omega)):p:=h
theorem vaB{p:Prop}(h:p:=by simp[C68,Frs,FrsL,FrsB,rowOf,cInt,cBool,cStr,cSl,zar,cStep,zag,cRule,zam,zah,zab,zac,zaf]):p:=h
theorem vaC{p:Prop}(h:p:=by have h9:=zmj (t:=x0) (by simpa using hc1);have h8:=zet x0.steps;have h7:=zfp x0.ego;omega):p:=h
theorem vaD{p:Prop}(h:p:=by simp only[oc, ob] at *; refine⟨⟨?_, ?_⟩, ?_⟩ <;> ((try dsimp only); (try simp only[og, ot, oA]); omega)):p:=h
theorem vaE{p:Prop}(h:p:=by simp[C144,Frs,FrsL,FrsB,rowOf,cInt,cBool,cStr,cSl,zar,cStep,zag,cRule,zam,zah]):p:=h
theorem vaF{p:Prop}(h:p:=by simp[C208,Frs,FrsL,FrsB,rowOf,cInt,cBool,cStr,cSl,zar,cStep,zag,cRule,zam,zah]):p:=h
theorem vaG{p:Prop}(h:p:=by simp[C205,Frs,FrsL,FrsB,rowOf,cInt,cBool,cStr,cSl,zar,cStep,zag,cRule,zam,zah]):p:=h
theorem vaH{p:Prop}(h:p:=by obtain⟨r,p,q⟩:=(inferInstance:Ct (y37 d ids x0 x1) _ _).h ⟨h1,h2⟩;exact⟨r,⟨h3 _ p.1,p.2⟩,q⟩):p:=h
theorem vaI{p:Prop}(h:p:=by have e1:=@RwI.snoc;have e2:=@RwI.skip;have e3:=@RwI.done;have e4:=@RwI.none;exact xk):p:=h
theorem vaK{p:Prop}(h:p:=by simp[C151,Frs,FrsL,FrsB,rowOf,cInt,cBool,cStr,cSl,zar,cStep,zag,cRule]):p:=h
theorem vaM{p:Prop}(h:p:=by simp[C43,Frs,FrsL,FrsB,rowOf,cInt,cBool,cStr,cSl,zar,cStep,zag,cRule]):p:=h
theorem vaN{p:Prop}(h:p:=by exact fun s h9 => ((zbu (r := x0) (by simpa using hc1)).2.2.2.2.1 s h9).1):p:=h
theorem vaO{p:Prop}(h:p:=by have h9:=zfq x0;have h8:=zcu (l3Cut x0).2;(try dsimp only);omega):p:=h
theorem vaP{p:Prop}(h:p:=by(try simp only[ob, oa] at *); (try dsimp only); (try simp only[inR]); omega):p:=h
theorem vaR{p:Prop}(h:p:=by exact fun s h9=>((zbu (r:=x0) (by simpa using hc1)).2.2.2.2.1 s h9).1):p:=h
theorem vaS{p:Prop}(h:p:=by simp[C43,Frs,FrsL,FrsB,rowOf,cInt,cBool,cStr,cSl,zar,cStep,zag]):p:=h
theorem vaT{p:Prop}(h:p:=by have h9:=ol (by assumption:decide (v1≤2)=true);(try simp only[inR]);omega):p:=h
theorem vaU{p:Prop}(h:p:=by simp only[Bool.or_eq_false_iff, oa] at hc1; (try simp only[inR]); omega):p:=h
theorem vaV{p:Prop}(h:p:=by have h9 := ol hc4; (try simp only[inR]); (try simp only[ot, oA]); omega):p:=h
theorem vaW{p:Prop}(h:p:=by simp only[Bool.or_eq_false_iff,oa] at hc1;(try simp only[inR]);omega):p:=h
theorem va1{p:Prop}(h:p:=by first|(rw[←zf0];simpa using hc1)|simpa using hc1):p:=h
theorem va2{p:Prop}(h:p:=by have m1:=@Em.al;have m2:=@Em.tr;have e1:=@Em.rfl;exact xk):p:=h
theorem va3{p:Prop}(h:p:=by simp only[oc, ob] at hc1; (try simp only[inR]); omega):p:=h
theorem va4{p:Prop}(h:p:=by have h9 := hee _ (zat (d := default) hii1); omega):p:=h
theorem va5{p:Prop}(h:p:=by simp only[oc,ob] at hc1;(try simp only[inR]);omega):p:=h
theorem va8{p:Prop}(h:p:=by exact hr _ (zat (d := default) hii2)):p:=h
theorem vbc{p:Prop}(h:p:=by rw[←zh3]; simpa using hc1):p:=h
theorem vbe{p:Prop}(h:p:=by intros; simp only[inR]; omega):p:=h
theorem vbf{p:Prop}(h:p:=by rw[←zh3];simpa using hc1):p:=h
theorem vbk{p:Prop}(h:p:=by intros;simp only[inR];omega):p:=h
theorem vbl{p:Prop}(h:p:=by(try simp only[inR]);omega):p:=h
theorem vbm{p:Prop}(h:p:=by simp only[og,ot,oA];omega):p:=h
theorem vbo{p:Prop}(h:p:=by with_reducible assumption):p:=h
theorem vbp{p:Prop}(h:p:=by simp only[og,oG];omega):p:=h
theorem vbr{p:Prop}(h:p:=by have := ol hc1; omega):p:=h
theorem vbs{p:Prop}(h:p:=by have := ol hc2; omega):p:=h
theorem vbv{p:Prop}(h:p:=by simp[C149,Frs,FrsL]):p:=h
theorem vby{p:Prop}(h:p:=by simp[C70,Frs,FrsL]):p:=h
theorem vbz{p:Prop}(h:p:=by simp[C57,Frs,FrsL]):p:=h
theorem vbA{p:Prop}(h:p:=by have:=h1.2.1;omega):p:=h
theorem vbC{p:Prop}(h:p:=by dsimp only;omega):p:=h
theorem vbD{p:Prop}(h:p:=by exact True.intro):p:=h
theorem vbF{p:Prop}(h:p:=by simpa using hc1):p:=h
theorem vbL{p:Prop}(h:p:=by intros; omega):p:=h
theorem vbN{p:Prop}(h:p:=by intros;omega):p:=h
theorem vbV{p:Prop}(h:p:=by trivial):p:=h
theorem vbW{p:Prop}(h:p:=by decide):p:=h
def C70(R:Bool):LV×List (Nat×BC):=(.bool R,[])
def l1In(x0:Int)(x1:Int)(x2:Int):Bool:=(decide (x1≤x0))&&(decide (x0≤x2))
def A70(x0:Int)(x1:Int)(x2:Int):Ann:=.reg 2 [] [] [6] [] [decide (x1≤x0)] [] [] [1,1,1] (rt [] (C70 ((decide (x1≤x0))&&(decide (x0≤x2)))))
theorem ziq(x0:Int)(x1:Int)(x2:Int):FnT Tryz.prog 70 [.int .i64 x0,.int .i64 x1,.int .i64 x2] (C70 (l1In x0 x1 x2)):=by refine Fn.gp 15 Tryz.func70 (by kernel_rfl) (by kernel_rfl) vby (A70 x0 x1 x2) (by kernel_rfl) fun R hR=>?_;refine rT ?_;exact oe C70 hR
def k70(x0:Int)(x1:Int)(x2:Int):Cl:=(hres (C70 (l1In x0 x1 x2)),k0 (ziq x0 x1 x2))
def zan(x0:List UInt8):Bool:=loopN (fun i1 (v1:Unit) next=>bif((decide (((x0.getD i1 0).toNat:Int)<97))||(decide (122<((x0.getD i1 0).toNat:Int)))) then false else(next ())) (fun (v1:Unit)=>l1In ((x0.length:Nat):Int) 1 12) x0.length 0 ()
def D72b1(i1:Nat)(v1:Unit):Dl:=⟨[(3,.int .i64 (i1:Int))],[]⟩
def A72b1(x0:List UInt8)(i1:Nat)(v1:Unit):Ann:=let q3:=((x0.length:Nat):Int);let q1:=((x0.getD i1 0).toNat:Int);let q4:=decide (q1<97);let q2:=(0≤(((i1:Nat):Int):Int)∧(((i1:Nat):Int):Int)<q3);r0 1 [0,2,3,7] [] (cn (decide (((i1:Nat):Int)<q3)) (.reg 1 [] [] [0,2,3,19] [] [!q4,decide (q1<97)] [pf q2,gt (!q4) (pf q2)] [] [0,1,1,4,1,6] (cn (q4||(decide (122<q1))) (r0 1 [0,2,3] [] (rt [] (C70 false))) (r1 1 [0,2,3] [] [pf (inR .i64 (((i1:Nat):Int)+1))] [0] (.next 0 [] (D72b1 (i1+1) ()))))) (.reg 1 [] [(2,k70 q3 1 12)] [2] [] [] [] [] [0] (rt [] (C70 (l1In q3 1 12)))))
def A72(x0:List UInt8):Ann:=r0 1 [0,2] [] (r0 1 [0,2,3] [] (lp (D72b1) [] [] [] (D72b1 0 ()) (A72b1 x0)))
theorem zgg(x0 : List UInt8)(hx : x0.length ≤ 1048576) : FnT Tryz.prog 72 [.str x0] (C70 (zan x0)) := by
 refine Fn.gp 23 Tryz.func72 (by kernel_rfl) (by kernel_rfl) vby (A72 x0) (by kernel_rfl) fun R hR=>?_;refine rT ?_;refine rT ?_;refine lN (fun i v=>True) vbV rfl (fun i1 v1 F1 hn1 hI1 hR hK1=>?_) hR;refine rT ?_;refine⟨fun hc1=>?_,fun hc1=>?_⟩
 ·have hii1 : i1 < x0.length := vbr
  replace hR:=zaq hR hii1;refine rg ⟨vbN,vbN,trivial⟩ ?_;refine cd (fun hc2 hR=>?_) (fun hc2 hR=>?_) hR
  ·refine rT ?_;exact oe C70 hR
  refine rg ⟨vbk,trivial⟩ ?_;exact hK1 () hii1 vbV hR
 obtain rfl:i1=x0.length:=by have:=oz hc1;omega
 replace hR:=zau hR (oP _);refine rg ⟨trivial,trivial⟩ ?_;exact oe C70 hR
def k72(x0:List UInt8):Cl:=(hres (C70 (zan x0)),k1 (zgg x0))
def zbv(x0:List UInt8):Bool:=bif((decide (((x0.length:Nat):Int)<1))||(decide (12<((x0.length:Nat):Int)))) then false else(loopN (fun i1 (v1:Unit) next=>bif((decide (((x0.getD i1 0).toNat:Int)<97))||(decide (122<((x0.getD i1 0).toNat:Int)))) then false else(next ())) (fun (v1:Unit)=>true) x0.length 0 ())
def D89b1(i1:Nat)(v1:Unit):Dl:=⟨[(3,.int .i64 (i1:Int))],[]⟩
def A89b1(x0:List UInt8)(i1:Nat)(v1:Unit):Ann:=let q1:=((x0.getD i1 0).toNat:Int);let q3:=decide (q1<97);let q2:=(0≤(((i1:Nat):Int):Int)∧(((i1:Nat):Int):Int)<((x0.length:Nat):Int));r0 1 [0,2,3,15] [] (cn (decide (((i1:Nat):Int)<((x0.length:Nat):Int))) (.reg 1 [] [] [0,2,3,27] [] [!q3,decide (q1<97)] [pf q2,gt (!q3) (pf q2)] [] [0,1,1,4,1,6] (cn (q3||(decide (122<q1))) (r0 1 [0,2,3] [] (rt [] (C70 false))) (r1 1 [0,2,3] [] [pf (inR .i64 (((i1:Nat):Int)+1))] [0] (.next 0 [] (D89b1 (i1+1) ()))))) (r0 1 [2] [] (rt [] (C70 true))))
def A89(x0:List UInt8):Ann:=let q1:=((x0.length:Nat):Int);r0 1 [0,2] [] (.reg 1 [] [] [0,2,11] [] [!(decide (q1<1)),decide (q1<1)] [] [] [1,1,6] (cn ((decide (q1<1))||(decide (12<q1))) (r0 1 [0,2] [] (rt [] (C70 false))) (r0 1 [0,2,3] [] (lp (D89b1) [] [] [] (D89b1 0 ()) (A89b1 x0)))))
theorem zgh(x0 : List UInt8)(hx : x0.length ≤ 1048576) : FnT Tryz.prog 89 [.str x0] (C70 (zbv x0)) := by
 refine Fn.gp 28 Tryz.func89 (by kernel_rfl) (by kernel_rfl) vby (A89 x0) (by kernel_rfl) fun R hR=>?_;refine rT ?_;refine rT ?_;refine cd (fun hc1 hR=>?_) (fun hc1 hR=>?_) hR
 ·refine rT ?_;exact oe C70 hR
 refine rT ?_;refine lN (fun i v=>True) vbV rfl (fun i1 v1 F1 hn1 hI1 hR hK1=>?_) hR;refine rT ?_;refine⟨fun hc2=>?_,fun hc2=>?_⟩
 ·have hii1 : i1 < x0.length := vbs
  replace hR:=zaq hR hii1;refine rg ⟨vbN,vbN,trivial⟩ ?_;refine cd (fun hc3 hR=>?_) (fun hc3 hR=>?_) hR
  ·refine rT ?_;exact oe C70 hR
  refine rg ⟨vbk,trivial⟩ ?_;exact hK1 () hii1 vbV hR
 obtain rfl:i1=x0.length:=by have:=oz hc2;omega
 replace hR:=zau hR (oP _);refine rT ?_;exact oe C70 hR
def k89(x0:List UInt8):Cl:=(hres (C70 (zbv x0)),k1 (zgh x0))
theorem zoj(s : List UInt8) : zbv s = zan s := by
 rw[Bool.eq_iff_iff];simp only[zbv,zan,zax,zaw,zfm,l1In,oc,ob,oa,and_true];constructor
 ·rintro ⟨⟨h1, h2⟩, h3⟩; exact ⟨h3, vbX, vbX⟩
 rintro⟨h3,h1,h2⟩;exact⟨⟨vbX,vbX⟩,h3⟩
def neg(l:List Int):Nat:=l.countP fun x=>decide (x<0)
theorem zpm : ∀(l : List Int) (i : Nat) (x : Int), i < l.length → l.getD i wl < 0 → 0 ≤ x → neg (l.set i x) + 1 = neg l
  |[],i,x,h,_,_=>absurd h (oO _)
  |a :: l, 0, x, _, h, hx => by
    have h:a<0:=h
    simp[neg,Y1,h,show ¬x<0 by omega]
  |a :: l, i + 1, x, hi, h, hx => by
    have:=zpm l i x (by simpa using hi) h hx
    simp only[neg,List.set_cons_succ,Y1] at this ⊢
    omega
theorem z0i(l:List Int):neg l≤l.length:=List.countP_le_length
theorem zbf{α:Type}{l:List α}{q d:α}(h:q∈l):∃k,k<l.length∧l.getD k d=q:=by obtain⟨k,hk,e⟩:=oX h;exact⟨k,hk,by rw[oh,oj hk,Option.getD_some,e]⟩
theorem zat{α:Type}{l:List α}{k:Nat}{d:α}(hk:k<l.length):l.getD k d∈l:=by rw[oh,oj hk];exact Ya hk
theorem zbq{α:Type}{l:List α}{z d:α}{k:Nat}(h:k<l.length):(l++[z]).getD k d=l.getD k d:=by rw[zkg,if_pos h]
theorem zg9{α:Type}{l:List α}{z d:α}{k:Nat}(h:k=l.length):(l++[z]).getD k d=z:=by rw[zkg,if_neg vbX,if_pos h]
theorem zyt(n:Int):inR .i64 (yV .i64 n):=by simp only[inR,yV,IntKind.signed,IntKind.bits];simp;omega
theorem zks(x m:Int)(k:Nat)(hm:m=k)(hk:k<9223372036854775808):0≤bits .and .i64 x m∧bits .and .i64 x m≤m:=by have h1:(BitVec.ofInt 64 x &&& BitVec.ofInt 64 m).toNat≤k:=(by rw[BitVec.toNat_and];refine Nat.le_trans Nat.and_le_right ?_;subst hm;simp only[BitVec.toNat_ofInt];omega);have e:bits .and .i64 x m=((BitVec.ofInt 64 x &&& BitVec.ofInt 64 m).toNat:Int):=(by show yV .i64 _=_;exact zbn (n:=((BitVec.ofInt 64 x &&& BitVec.ofInt 64 m).toNat:Int)) (by simp only[inR];omega));rw[e];omega
theorem zkh{l : List Int}(h : ∀y ∈ l, 0 ≤ y ∧ y ≤ 255)(k : Nat) : 0 ≤ l.getD k wl ∧ l.getD k wl ≤ 255 := by
 rcases oY k l.length with hk | hk
 ·have := h _ (Ya hk);simpa [oh, oj hk] using this
 simp[oh,o5 hk]
theorem jn_to{S α:Type}{f:(S→α)→α}{k:S→α}(J:S→Prop)(Q:α→Prop)(h1:∀K:S→α,(∀v,J v→Q (K v))→Q (f K))(h2:∀v,J v→Q (k v)):Q (jn f k):=h1 k h2
open Go.Shelf Go.RowKit Go.Sort Go.Lib
def Tryz.lays156_ren:Go.Shelf.Ren:=⟨fun | 156=>113 | 165=>173 | 166=>174 | 169=>175 | 240=>245 | 241=>246 | 276=>289 | 277=>290 | n=>n,fun | 31=>81 | 9=>9 | 3=>3 | 4=>4 | 0=>0 | 20=>20 | 72=>224 | 76=>151 | 70=>222 | 37=>22 | 75=>150 | 127=>278 | 164=>210 | 5=>5 | 80=>197 | n=>n,fun | n=>n⟩
theorem Tryz.lays156 : Go.Proofs.Lays.n156 Tryz.prog Tryz.lays156_ren := {
  mixed:=by kernel_rfl
  f156:=Tryz.func113.trans (oe some (by kernel_rfl))
  f165:=Tryz.func173.trans (oe some (by kernel_rfl))
  f166:=Tryz.func174.trans (oe some (by kernel_rfl))
  f169:=Tryz.func175.trans (oe some (by kernel_rfl))
  f240:=Tryz.func245.trans (oe some (by kernel_rfl))
  f241:=Tryz.func246.trans (oe some (by kernel_rfl))
  f276:=Tryz.func289.trans (oe some (by kernel_rfl))
  f277:=Tryz.func290.trans (oe some (by kernel_rfl))
  t0:=Tryz.underlying0
  a0:=Tryz.isAgg0
  z0:=Tryz.sizeOf0
  v0:=Tryz.zeroValue0
  t3:=Tryz.underlying3
  a3:=Tryz.isAgg3
  z3:=Tryz.sizeOf3
  v3:=Tryz.zeroValue3
  t4:=Tryz.underlying4
  a4:=Tryz.isAgg4
  z4:=Tryz.sizeOf4
  v4:=Tryz.zeroValue4
  t9:=Tryz.underlying9
  a9:=Tryz.isAgg9
  z9:=Tryz.sizeOf9
  v9:=Tryz.zeroValue9
  t20:=Tryz.underlying20
  a20:=Tryz.isAgg20
  z20:=Tryz.sizeOf20
  v20:=Tryz.zeroValue20
  t31:=Tryz.underlying81
  a31:=Tryz.isAgg81
  z31:=Tryz.sizeOf81
  v31:=Tryz.zeroValue81
  t37:=Tryz.underlying22
  a37:=Tryz.isAgg22
  z37:=Tryz.sizeOf22
  v37:=Tryz.zeroValue22
  t70:=Tryz.underlying222
  a70:=Tryz.isAgg222
  z70:=Tryz.sizeOf222
  v70:=Tryz.zeroValue222
  t72:=Tryz.underlying224
  a72:=Tryz.isAgg224
  z72:=Tryz.sizeOf224
  v72:=Tryz.zeroValue224
  t75:=Tryz.underlying150
  a75:=Tryz.isAgg150
  z75:=Tryz.sizeOf150
  v75:=Tryz.zeroValue150
  t76:=Tryz.underlying151
  a76:=Tryz.isAgg151
  z76:=Tryz.sizeOf151
  v76:=Tryz.zeroValue151
  t127:=Tryz.underlying278
  a127:=Tryz.isAgg278
  z127:=Tryz.sizeOf278
  v127:=Tryz.zeroValue278
  t164:=Tryz.underlying210
  a164:=Tryz.isAgg210
  z164:=Tryz.sizeOf210
  v164:=Tryz.zeroValue210 }
theorem Tryz.Builder_Extra_156 : Builder.Extra Tryz.prog Tryz.lays156_ren := {
  sizeBuilder:=by kernel_rfl
  liesBuilder:=by kernel_rfl
  t5:=Tryz.underlying5
  a5:=Tryz.isAgg5
  z5:=Tryz.sizeOf5
  v5:=Tryz.zeroValue5
  infoByte:=by kernel_rfl
  cellsByte:=by kernel_rfl
  sizeByte:=by kernel_rfl
  neB5:=by decide }
theorem Tryz.strings_Join (bk o c : Nat) (xs : List ByteArray) (sep : ByteArray) (w : World) (hcells : ∀ (j : Nat) x, xs[j]? = some x → w.cell? ⟨bk, o + j, none⟩ = some (.string x)) (hbk : bk < w.heap.size) (hN : xs.length ≤ 140737488355328) (hcap : xs.length ≤ c) (hlen : (Lib.join (xs.map (·.data.toList)) sep.data.toList).length ≤ 140737488355328) : Calls Tryz.prog 113 #[.slice (some ⟨bk, o, none⟩) xs.length c, .string sep] w fun e w' => e = .returned (.string ⟨(Lib.join (xs.map (·.data.toList)) sep.data.toList).toArray⟩) ∧ Below w.heap.size w w' := Any.strings_Join Tryz.lays156 Tryz.Builder_Extra_156 bk o c xs sep w hcells hbk hN hcap hlen
def Tryz.lays137_ren:Go.Shelf.Ren:=⟨fun | 137=>196 | 217=>262 | 266=>294 | n=>n,fun | 9=>9 | 5=>5 | 3=>3 | n=>n,fun | n=>n⟩
theorem Tryz.lays137 : Go.Proofs.Lays.n137 Tryz.prog Tryz.lays137_ren := {
  mixed:=by kernel_rfl
  f137:=Tryz.func196.trans (oe some (by kernel_rfl))
  f217:=Tryz.func262.trans (oe some (by kernel_rfl))
  f266:=Tryz.func294.trans (oe some (by kernel_rfl))
  t3:=Tryz.underlying3
  a3:=Tryz.isAgg3
  z3:=Tryz.sizeOf3
  v3:=Tryz.zeroValue3
  t5:=Tryz.underlying5
  a5:=Tryz.isAgg5
  z5:=Tryz.sizeOf5
  v5:=Tryz.zeroValue5
  t9:=Tryz.underlying9
  a9:=Tryz.isAgg9
  z9:=Tryz.sizeOf9
  v9:=Tryz.zeroValue9 }
theorem Tryz.strings_IndexByte(s:ByteArray)(c:Int)(w:World):Calls Tryz.prog 196 #[.string s,.int .u8 c] w fun e w'=>e=.returned (.int .i64 (Lib.indexByte s.data.toList c.toNat.toUInt8))∧w'=w:=Any.strings_IndexByte Tryz.lays137 s c w
def Tryz.lays172_ren:Go.Shelf.Ren:=⟨fun | 172=>111 | 244=>170 | 245=>171 | 247=>234 | 279=>235 | 280=>236 | 281=>237 | 282=>238 | 287=>285 | 316=>286 | 171=>57 | 205=>287 | 321=>300 | 322=>301 | 243=>107 | 246=>161 | 283=>219 | 284=>220 | 285=>221 | 286=>222 | 129=>280 | 317=>279 | 318=>281 | 319=>282 | 320=>283 | 337=>297 | 338=>298 | n=>n,fun | 9=>9 | 3=>3 | 75=>150 | 76=>151 | 4=>4 | 5=>5 | 167=>267 | 37=>22 | 0=>0 | 85=>268 | 2=>2 | 168=>270 | 53=>257 | 175=>309 | 46=>201 | 210=>312 | 127=>278 | 145=>329 | 143=>327 | 21=>21 | 171=>256 | 173=>260 | 212=>305 | 51=>306 | 20=>20 | 213=>307 | 232=>330 | 233=>331 | 80=>197 | n=>n,fun | 15=>3 | 16=>4 | 17=>2 | 18=>7 | 19=>8 | n=>n⟩
theorem Tryz.lays172 : Go.Proofs.Lays.n172 Tryz.prog Tryz.lays172_ren := {
  mixed:=by kernel_rfl
  f129:=Tryz.func280.trans (oe some (by kernel_rfl))
  f171:=Tryz.func57.trans (oe some (by kernel_rfl))
  f172:=Tryz.func111.trans (oe some (by kernel_rfl))
  f205:=Tryz.func287.trans (oe some (by kernel_rfl))
  f243:=Tryz.func107.trans (oe some (by kernel_rfl))
  f244:=Tryz.func170.trans (oe some (by kernel_rfl))
  f245:=Tryz.func171.trans (oe some (by kernel_rfl))
  f246:=Tryz.func161.trans (oe some (by kernel_rfl))
  f247:=Tryz.func234.trans (oe some (by kernel_rfl))
  f279:=Tryz.func235.trans (oe some (by kernel_rfl))
  f280:=Tryz.func236.trans (oe some (by kernel_rfl))
  f281:=Tryz.func237.trans (oe some (by kernel_rfl))
  f282:=Tryz.func238.trans (oe some (by kernel_rfl))
  f283:=Tryz.func219.trans (oe some (by kernel_rfl))
  f284:=Tryz.func220.trans (oe some (by kernel_rfl))
  f285:=Tryz.func221.trans (oe some (by kernel_rfl))
  f286:=Tryz.func222.trans (oe some (by kernel_rfl))
  f287:=Tryz.func285.trans (oe some (by kernel_rfl))
  f316:=Tryz.func286.trans (oe some (by kernel_rfl))
  f317:=Tryz.func279.trans (oe some (by kernel_rfl))
  f318:=Tryz.func281.trans (oe some (by kernel_rfl))
  f319:=Tryz.func282.trans (oe some (by kernel_rfl))
  f320:=Tryz.func283.trans (oe some (by kernel_rfl))
  f321:=Tryz.func300.trans (oe some (by kernel_rfl))
  f322:=Tryz.func301.trans (oe some (by kernel_rfl))
  f337:=Tryz.func297.trans (oe some (by kernel_rfl))
  f338:=Tryz.func298.trans (oe some (by kernel_rfl))
  t0:=Tryz.underlying0
  a0:=Tryz.isAgg0
  z0:=Tryz.sizeOf0
  v0:=Tryz.zeroValue0
  t2:=Tryz.underlying2
  a2:=Tryz.isAgg2
  z2:=Tryz.sizeOf2
  v2:=Tryz.zeroValue2
  t3:=Tryz.underlying3
  a3:=Tryz.isAgg3
  z3:=Tryz.sizeOf3
  v3:=Tryz.zeroValue3
  t4:=Tryz.underlying4
  a4:=Tryz.isAgg4
  z4:=Tryz.sizeOf4
  v4:=Tryz.zeroValue4
  t5:=Tryz.underlying5
  a5:=Tryz.isAgg5
  z5:=Tryz.sizeOf5
  v5:=Tryz.zeroValue5
  t9:=Tryz.underlying9
  a9:=Tryz.isAgg9
  z9:=Tryz.sizeOf9
  v9:=Tryz.zeroValue9
  t20:=Tryz.underlying20
  a20:=Tryz.isAgg20
  z20:=Tryz.sizeOf20
  v20:=Tryz.zeroValue20
  t21:=Tryz.underlying21
  a21:=Tryz.isAgg21
  z21:=Tryz.sizeOf21
  v21:=Tryz.zeroValue21
  t37:=Tryz.underlying22
  a37:=Tryz.isAgg22
  z37:=Tryz.sizeOf22
  v37:=Tryz.zeroValue22
  t46:=Tryz.underlying201
  a46:=Tryz.isAgg201
  z46:=Tryz.sizeOf201
  v46:=Tryz.zeroValue201
  t51:=Tryz.underlying306
  a51:=Tryz.isAgg306
  z51:=Tryz.sizeOf306
  v51:=Tryz.zeroValue306
  t53:=Tryz.underlying257
  a53:=Tryz.isAgg257
  z53:=Tryz.sizeOf257
  v53:=Tryz.zeroValue257
  t75:=Tryz.underlying150
  a75:=Tryz.isAgg150
  z75:=Tryz.sizeOf150
  v75:=Tryz.zeroValue150
  t76:=Tryz.underlying151
  a76:=Tryz.isAgg151
  z76:=Tryz.sizeOf151
  v76:=Tryz.zeroValue151
  t85:=Tryz.underlying268
  a85:=Tryz.isAgg268
  z85:=Tryz.sizeOf268
  v85:=Tryz.zeroValue268
  t127:=Tryz.underlying278
  a127:=Tryz.isAgg278
  z127:=Tryz.sizeOf278
  v127:=Tryz.zeroValue278
  t143:=Tryz.underlying327
  a143:=Tryz.isAgg327
  z143:=Tryz.sizeOf327
  v143:=Tryz.zeroValue327
  t145:=Tryz.underlying329
  a145:=Tryz.isAgg329
  z145:=Tryz.sizeOf329
  v145:=Tryz.zeroValue329
  t167:=Tryz.underlying267
  a167:=Tryz.isAgg267
  z167:=Tryz.sizeOf267
  v167:=Tryz.zeroValue267
  t168:=Tryz.underlying270
  a168:=Tryz.isAgg270
  z168:=Tryz.sizeOf270
  v168:=Tryz.zeroValue270
  t171:=Tryz.underlying256
  a171:=Tryz.isAgg256
  z171:=Tryz.sizeOf256
  v171:=Tryz.zeroValue256
  t173:=Tryz.underlying260
  a173:=Tryz.isAgg260
  z173:=Tryz.sizeOf260
  v173:=Tryz.zeroValue260
  t175:=Tryz.underlying309
  a175:=Tryz.isAgg309
  z175:=Tryz.sizeOf309
  v175:=Tryz.zeroValue309
  t210:=Tryz.underlying312
  a210:=Tryz.isAgg312
  z210:=Tryz.sizeOf312
  v210:=Tryz.zeroValue312
  t212:=Tryz.underlying305
  a212:=Tryz.isAgg305
  z212:=Tryz.sizeOf305
  v212:=Tryz.zeroValue305
  t213:=Tryz.underlying307
  a213:=Tryz.isAgg307
  z213:=Tryz.sizeOf307
  t232:=Tryz.underlying330
  a232:=Tryz.isAgg330
  z232:=Tryz.sizeOf330
  v232:=Tryz.zeroValue330
  t233:=Tryz.underlying331
  a233:=Tryz.isAgg331
  z233:=Tryz.sizeOf331
  v233:=Tryz.zeroValue331
  g15:=by kernel_rfl
  g16:=by kernel_rfl
  g17:=by kernel_rfl
  g18:=by kernel_rfl
  g19:=by kernel_rfl }
theorem Tryz.strconv_Atoi(s:ByteArray)(n:Int)(hl:s.size≤18)(h:Lib.atoi s.data.toList=some n)(w:World):Calls Tryz.prog 111 #[.string s] w fun e w'=>e=.returned (.tuple #[.int .i64 n,.nilIface])∧∃t,w'=Lib.bytesWorld w 5 t:=Any.strconv_Atoi Tryz.lays172 s n hl h w
def Tryz.laysM171_ren:Go.Shelf.Ren:=⟨fun | 171=>57 | 243=>107 | 246=>161 | 283=>219 | 284=>220 | 285=>221 | 286=>222 | 129=>280 | 317=>279 | 318=>281 | 319=>282 | 320=>283 | 337=>297 | 338=>298 | n=>n,fun | 3=>3 | 9=>9 | 2=>2 | 4=>4 | 171=>256 | 0=>0 | 53=>257 | 37=>22 | 5=>5 | 173=>260 | 212=>305 | 51=>306 | 20=>20 | 213=>307 | 46=>201 | 232=>330 | 233=>331 | n=>n,fun | 17=>2 | 18=>7 | 19=>8 | n=>n⟩
theorem Tryz.laysM171 : Go.Proofs.LaysM.n171 Tryz.prog Tryz.laysM171_ren := {
  mixed:=by kernel_rfl
  f129:=Tryz.func280.trans (oe some (by kernel_rfl))
  f171:=Tryz.func57.trans (oe some (by kernel_rfl))
  f243:=Tryz.func107.trans (oe some (by kernel_rfl))
  f246:=Tryz.func161.trans (oe some (by kernel_rfl))
  f283:=Tryz.func219.trans (oe some (by kernel_rfl))
  f284:=Tryz.func220.trans (oe some (by kernel_rfl))
  f285:=Tryz.func221.trans (oe some (by kernel_rfl))
  f286:=Tryz.func222.trans (oe some (by kernel_rfl))
  f317:=Tryz.func279.trans (oe some (by kernel_rfl))
  f318:=Tryz.func281.trans (oe some (by kernel_rfl))
  f319:=Tryz.func282.trans (oe some (by kernel_rfl))
  f320:=Tryz.func283.trans (oe some (by kernel_rfl))
  f337:=Tryz.func297.trans (oe some (by kernel_rfl))
  f338:=Tryz.func298.trans (oe some (by kernel_rfl))
  t0:=Tryz.underlying0
  a0:=Tryz.isAgg0
  z0:=Tryz.sizeOf0
  v0:=Tryz.zeroValue0
  t2:=Tryz.underlying2
  a2:=Tryz.isAgg2
  z2:=Tryz.sizeOf2
  v2:=Tryz.zeroValue2
  t3:=Tryz.underlying3
  a3:=Tryz.isAgg3
  z3:=Tryz.sizeOf3
  v3:=Tryz.zeroValue3
  t4:=Tryz.underlying4
  a4:=Tryz.isAgg4
  z4:=Tryz.sizeOf4
  v4:=Tryz.zeroValue4
  t5:=Tryz.underlying5
  a5:=Tryz.isAgg5
  z5:=Tryz.sizeOf5
  v5:=Tryz.zeroValue5
  t9:=Tryz.underlying9
  a9:=Tryz.isAgg9
  z9:=Tryz.sizeOf9
  v9:=Tryz.zeroValue9
  t20:=Tryz.underlying20
  a20:=Tryz.isAgg20
  z20:=Tryz.sizeOf20
  v20:=Tryz.zeroValue20
  t37:=Tryz.underlying22
  a37:=Tryz.isAgg22
  z37:=Tryz.sizeOf22
  v37:=Tryz.zeroValue22
  t46:=Tryz.underlying201
  a46:=Tryz.isAgg201
  z46:=Tryz.sizeOf201
  v46:=Tryz.zeroValue201
  t51:=Tryz.underlying306
  a51:=Tryz.isAgg306
  z51:=Tryz.sizeOf306
  v51:=Tryz.zeroValue306
  t53:=Tryz.underlying257
  a53:=Tryz.isAgg257
  z53:=Tryz.sizeOf257
  v53:=Tryz.zeroValue257
  t171:=Tryz.underlying256
  a171:=Tryz.isAgg256
  z171:=Tryz.sizeOf256
  v171:=Tryz.zeroValue256
  t173:=Tryz.underlying260
  a173:=Tryz.isAgg260
  z173:=Tryz.sizeOf260
  v173:=Tryz.zeroValue260
  t212:=Tryz.underlying305
  a212:=Tryz.isAgg305
  z212:=Tryz.sizeOf305
  v212:=Tryz.zeroValue305
  t213:=Tryz.underlying307
  a213:=Tryz.isAgg307
  z213:=Tryz.sizeOf307
  t232:=Tryz.underlying330
  a232:=Tryz.isAgg330
  z232:=Tryz.sizeOf330
  v232:=Tryz.zeroValue330
  t233:=Tryz.underlying331
  a233:=Tryz.isAgg331
  z233:=Tryz.sizeOf331
  v233:=Tryz.zeroValue331
  g17:=by kernel_rfl
  g18:=by kernel_rfl
  g19:=by kernel_rfl
  i0:=by kernel_rfl
  i2:=by kernel_rfl
  i3:=by kernel_rfl
  i4:=by kernel_rfl
  i5:=by kernel_rfl
  i9:=by kernel_rfl
  i20:=by kernel_rfl
  i37:=by kernel_rfl
  i46:=by kernel_rfl
  i51:=by kernel_rfl
  i53:=by kernel_rfl
  i171:=by kernel_rfl
  i173:=by kernel_rfl
  i212:=by kernel_rfl
  i232:=by kernel_rfl
  i233:=by kernel_rfl
  m17:=by kernel_rfl
  m18:=by kernel_rfl
  m19:=by kernel_rfl }
theorem Tryz.strconv_Itoa (n : Int) (h0 : -9223372036854775808 ≤ n) (h1 : n ≤ 9223372036854775807) (w : World) (htab : Lib.TabIs Tryz.prog w "internal/strconv.uint64pow10" .u64 Lib.pow10Tab) :
    Calls Tryz.prog 57 #[.int .i64 n] w fun e w'=>e=.returned (.string ⟨(Lib.itoa n).toArray⟩)∧∃k os,w'=grow (w.drewN k) os:=Any.strconv_Itoa Tryz.laysM171 n h0 h1 w htab
def Tryz.laysC172_ren:Go.Shelf.Ren:=⟨fun | 172=>111 | 244=>170 | 245=>171 | 247=>234 | 279=>235 | 280=>236 | 281=>237 | 282=>238 | 287=>285 | 316=>286 | 171=>57 | 205=>287 | 321=>300 | 322=>301 | 243=>107 | 246=>161 | 283=>219 | 284=>220 | 285=>221 | 286=>222 | 129=>280 | 317=>279 | 318=>281 | 319=>282 | 320=>283 | 337=>297 | 338=>298 | n=>n,fun | 9=>9 | 3=>3 | 75=>150 | 76=>151 | 4=>4 | 5=>5 | 167=>267 | 37=>22 | 0=>0 | 85=>268 | 2=>2 | 168=>270 | 53=>257 | 175=>309 | 46=>201 | 210=>312 | 127=>278 | 145=>329 | 143=>327 | 21=>21 | 171=>256 | 173=>260 | 212=>305 | 51=>306 | 20=>20 | 213=>307 | 232=>330 | 233=>331 | 80=>197 | n=>n,fun | 15=>3 | 16=>4 | 17=>2 | 18=>7 | 19=>8 | n=>n⟩
theorem Tryz.laysC172 : Go.Proofs.LaysC.n172 Tryz.prog Tryz.laysC172_ren := {
  mixed:=by kernel_rfl
  f129:=Tryz.func280.trans (oe some (by kernel_rfl))
  f171:=Tryz.func57.trans (oe some (by kernel_rfl))
  f172:=Tryz.func111.trans (oe some (by kernel_rfl))
  f205:=Tryz.func287.trans (oe some (by kernel_rfl))
  f243:=Tryz.func107.trans (oe some (by kernel_rfl))
  f244:=Tryz.func170.trans (oe some (by kernel_rfl))
  f245:=Tryz.func171.trans (oe some (by kernel_rfl))
  f246:=Tryz.func161.trans (oe some (by kernel_rfl))
  f247:=Tryz.func234.trans (oe some (by kernel_rfl))
  f279:=Tryz.func235.trans (oe some (by kernel_rfl))
  f280:=Tryz.func236.trans (oe some (by kernel_rfl))
  f281:=Tryz.func237.trans (oe some (by kernel_rfl))
  f282:=Tryz.func238.trans (oe some (by kernel_rfl))
  f283:=Tryz.func219.trans (oe some (by kernel_rfl))
  f284:=Tryz.func220.trans (oe some (by kernel_rfl))
  f285:=Tryz.func221.trans (oe some (by kernel_rfl))
  f286:=Tryz.func222.trans (oe some (by kernel_rfl))
  f287:=Tryz.func285.trans (oe some (by kernel_rfl))
  f316:=Tryz.func286.trans (oe some (by kernel_rfl))
  f317:=Tryz.func279.trans (oe some (by kernel_rfl))
  f318:=Tryz.func281.trans (oe some (by kernel_rfl))
  f319:=Tryz.func282.trans (oe some (by kernel_rfl))
  f320:=Tryz.func283.trans (oe some (by kernel_rfl))
  f321:=Tryz.func300.trans (oe some (by kernel_rfl))
  f322:=Tryz.func301.trans (oe some (by kernel_rfl))
  f337:=Tryz.func297.trans (oe some (by kernel_rfl))
  f338:=Tryz.func298.trans (oe some (by kernel_rfl))
  t0:=Tryz.underlying0
  a0:=Tryz.isAgg0
  z0:=Tryz.sizeOf0
  v0:=Tryz.zeroValue0
  t2:=Tryz.underlying2
  a2:=Tryz.isAgg2
  z2:=Tryz.sizeOf2
  v2:=Tryz.zeroValue2
  t3:=Tryz.underlying3
  a3:=Tryz.isAgg3
  z3:=Tryz.sizeOf3
  v3:=Tryz.zeroValue3
  t4:=Tryz.underlying4
  a4:=Tryz.isAgg4
  z4:=Tryz.sizeOf4
  v4:=Tryz.zeroValue4
  t5:=Tryz.underlying5
  a5:=Tryz.isAgg5
  z5:=Tryz.sizeOf5
  v5:=Tryz.zeroValue5
  t9:=Tryz.underlying9
  a9:=Tryz.isAgg9
  z9:=Tryz.sizeOf9
  v9:=Tryz.zeroValue9
  t20:=Tryz.underlying20
  a20:=Tryz.isAgg20
  z20:=Tryz.sizeOf20
  v20:=Tryz.zeroValue20
  t21:=Tryz.underlying21
  a21:=Tryz.isAgg21
  z21:=Tryz.sizeOf21
  v21:=Tryz.zeroValue21
  t37:=Tryz.underlying22
  a37:=Tryz.isAgg22
  z37:=Tryz.sizeOf22
  v37:=Tryz.zeroValue22
  t46:=Tryz.underlying201
  a46:=Tryz.isAgg201
  z46:=Tryz.sizeOf201
  v46:=Tryz.zeroValue201
  t51:=Tryz.underlying306
  a51:=Tryz.isAgg306
  z51:=Tryz.sizeOf306
  v51:=Tryz.zeroValue306
  t53:=Tryz.underlying257
  a53:=Tryz.isAgg257
  z53:=Tryz.sizeOf257
  v53:=Tryz.zeroValue257
  t75:=Tryz.underlying150
  a75:=Tryz.isAgg150
  z75:=Tryz.sizeOf150
  v75:=Tryz.zeroValue150
  t76:=Tryz.underlying151
  a76:=Tryz.isAgg151
  z76:=Tryz.sizeOf151
  v76:=Tryz.zeroValue151
  t85:=Tryz.underlying268
  a85:=Tryz.isAgg268
  z85:=Tryz.sizeOf268
  v85:=Tryz.zeroValue268
  t127:=Tryz.underlying278
  a127:=Tryz.isAgg278
  z127:=Tryz.sizeOf278
  v127:=Tryz.zeroValue278
  t143:=Tryz.underlying327
  a143:=Tryz.isAgg327
  z143:=Tryz.sizeOf327
  v143:=Tryz.zeroValue327
  t145:=Tryz.underlying329
  a145:=Tryz.isAgg329
  z145:=Tryz.sizeOf329
  v145:=Tryz.zeroValue329
  t167:=Tryz.underlying267
  a167:=Tryz.isAgg267
  z167:=Tryz.sizeOf267
  v167:=Tryz.zeroValue267
  t168:=Tryz.underlying270
  a168:=Tryz.isAgg270
  z168:=Tryz.sizeOf270
  v168:=Tryz.zeroValue270
  t171:=Tryz.underlying256
  a171:=Tryz.isAgg256
  z171:=Tryz.sizeOf256
  v171:=Tryz.zeroValue256
  t173:=Tryz.underlying260
  a173:=Tryz.isAgg260
  z173:=Tryz.sizeOf260
  v173:=Tryz.zeroValue260
  t175:=Tryz.underlying309
  a175:=Tryz.isAgg309
  z175:=Tryz.sizeOf309
  v175:=Tryz.zeroValue309
  t210:=Tryz.underlying312
  a210:=Tryz.isAgg312
  z210:=Tryz.sizeOf312
  v210:=Tryz.zeroValue312
  t212:=Tryz.underlying305
  a212:=Tryz.isAgg305
  z212:=Tryz.sizeOf305
  v212:=Tryz.zeroValue305
  t213:=Tryz.underlying307
  a213:=Tryz.isAgg307
  z213:=Tryz.sizeOf307
  t232:=Tryz.underlying330
  a232:=Tryz.isAgg330
  z232:=Tryz.sizeOf330
  v232:=Tryz.zeroValue330
  t233:=Tryz.underlying331
  a233:=Tryz.isAgg331
  z233:=Tryz.sizeOf331
  v233:=Tryz.zeroValue331
  g15:=by kernel_rfl
  g16:=by kernel_rfl
  g17:=by kernel_rfl
  g18:=by kernel_rfl
  g19:=by kernel_rfl
  t80:=Tryz.underlying197
  a80:=Tryz.isAgg197
  z80:=Tryz.sizeOf197
  v80:=Tryz.zeroValue197
  i0:=by kernel_rfl
  i2:=by kernel_rfl
  i3:=by kernel_rfl
  i4:=by kernel_rfl
  i5:=by kernel_rfl
  i9:=by kernel_rfl
  i20:=by kernel_rfl
  i21:=by kernel_rfl
  i37:=by kernel_rfl
  i46:=by kernel_rfl
  i51:=by kernel_rfl
  i53:=by kernel_rfl
  i75:=by kernel_rfl
  i76:=by kernel_rfl
  i80:=by kernel_rfl
  i85:=by kernel_rfl
  i127:=by kernel_rfl
  i143:=by kernel_rfl
  i145:=by kernel_rfl
  i167:=by kernel_rfl
  i168:=by kernel_rfl
  i171:=by kernel_rfl
  i173:=by kernel_rfl
  i175:=by kernel_rfl
  i210:=by kernel_rfl
  i212:=by kernel_rfl
  i232:=by kernel_rfl
  i233:=by kernel_rfl
  m15:=by kernel_rfl
  m16:=by kernel_rfl
  m17:=by kernel_rfl
  m18:=by kernel_rfl
  m19:=by kernel_rfl
  c0:=by kernel_rfl
  c2:=by kernel_rfl
  c3:=by kernel_rfl
  c4:=by kernel_rfl
  c5:=by kernel_rfl
  c9:=by kernel_rfl
  c20:=by kernel_rfl
  c21:=by kernel_rfl
  c37:=by kernel_rfl
  c46:=by kernel_rfl
  c51:=by kernel_rfl
  c53:=by kernel_rfl
  c75:=by kernel_rfl
  c76:=by kernel_rfl
  c80:=by kernel_rfl
  c85:=by kernel_rfl
  c127:=by kernel_rfl
  c143:=by kernel_rfl
  c145:=by kernel_rfl
  c167:=by kernel_rfl
  c168:=by kernel_rfl
  c171:=by kernel_rfl
  c173:=by kernel_rfl
  c175:=by kernel_rfl
  c210:=by kernel_rfl
  c212:=by kernel_rfl
  c213:=by kernel_rfl
  c232:=by kernel_rfl
  c233:=by kernel_rfl }
theorem Tryz.strconv_Atoi_err(s:ByteArray)(hl:s.size≤18)(h:Lib.atoi s.data.toList=none)(ev:Value)(w:World)(hv:w.cell? ⟨3,0,none⟩=some ev)(hev:ev=.nilIface∨∃te pe,ev=.iface te pe):Calls Tryz.prog 111 #[.string s] w fun e w'=>∃N,e=.returned (.tuple #[.int .i64 0,.iface 270 (.pointer (some ⟨N,0,none⟩))])∧w.heap.size≤N∧w'.heap[N]?=some (.cells #[.string ⟨#[65,116,111,105]⟩,.string s,ev] 312 (0,0))∧Below w.heap.size w w':=Any.strconv_Atoi_err Tryz.laysC172 s hl h ev w hv hev
def Tryz.lays145_ren:Go.Shelf.Ren:=⟨fun | 145=>103 | 220=>160 | 219=>216 | 217=>262 | 225=>275 | 224=>276 | 267=>277 | 266=>294 | 314=>296 | n=>n,fun | 9=>9 | 4=>4 | 59=>141 | 3=>3 | 5=>5 | 46=>201 | 146=>323 | 51=>306 | n=>n,fun | 1=>1 | n=>n⟩
theorem Tryz.lays145 : Go.Proofs.Lays.n145 Tryz.prog Tryz.lays145_ren := {
  mixed:=by kernel_rfl
  f145:=Tryz.func103.trans (oe some (by kernel_rfl))
  f217:=Tryz.func262.trans (oe some (by kernel_rfl))
  f219:=Tryz.func216.trans (oe some (by kernel_rfl))
  f220:=Tryz.func160.trans (oe some (by kernel_rfl))
  f224:=Tryz.func276.trans (oe some (by kernel_rfl))
  f225:=Tryz.func275.trans (oe some (by kernel_rfl))
  f266:=Tryz.func294.trans (oe some (by kernel_rfl))
  f267:=Tryz.func277.trans (oe some (by kernel_rfl))
  f314:=Tryz.func296.trans (oe some (by kernel_rfl))
  t3:=Tryz.underlying3
  a3:=Tryz.isAgg3
  z3:=Tryz.sizeOf3
  v3:=Tryz.zeroValue3
  t4:=Tryz.underlying4
  a4:=Tryz.isAgg4
  z4:=Tryz.sizeOf4
  v4:=Tryz.zeroValue4
  t5:=Tryz.underlying5
  a5:=Tryz.isAgg5
  z5:=Tryz.sizeOf5
  v5:=Tryz.zeroValue5
  t9:=Tryz.underlying9
  a9:=Tryz.isAgg9
  z9:=Tryz.sizeOf9
  v9:=Tryz.zeroValue9
  t46:=Tryz.underlying201
  a46:=Tryz.isAgg201
  z46:=Tryz.sizeOf201
  v46:=Tryz.zeroValue201
  t51:=Tryz.underlying306
  a51:=Tryz.isAgg306
  z51:=Tryz.sizeOf306
  v51:=Tryz.zeroValue306
  t59:=Tryz.underlying141
  a59:=Tryz.isAgg141
  z59:=Tryz.sizeOf141
  v59:=Tryz.zeroValue141
  t146:=Tryz.underlying323
  a146:=Tryz.isAgg323
  z146:=Tryz.sizeOf323
  v146:=Tryz.zeroValue323
  g1:=by kernel_rfl }
theorem Tryz.strings_Cut(s sep:ByteArray)(m:Int)(w:World)(hs:s.size<4294967281)(hm:w.cell? ⟨1,0,none⟩=some (.int .i64 m)):Calls Tryz.prog 103 #[.string s,.string sep] w fun e w'=>e=.returned (.tuple #[.string ⟨(Lib.cut s.data.toList sep.data.toList).1.toArray⟩,.string ⟨(Lib.cut s.data.toList sep.data.toList).2.1.toArray⟩,.bool (Lib.cut s.data.toList sep.data.toList).2.2])∧∃n,w'=w.drewN n:=Any.strings_Cut Tryz.lays145 s sep m w hs hm
def Tryz.lays146_ren:Go.Shelf.Ren:=⟨fun | 146=>48 | 221=>98 | 268=>152 | 138=>153 | 143=>154 | 195=>213 | 197=>214 | 218=>215 | 219=>216 | 260=>274 | 217=>262 | 225=>275 | 224=>276 | 267=>277 | 266=>294 | 314=>296 | n=>n,fun | 9=>9 | 31=>81 | 3=>3 | 4=>4 | 0=>0 | 105=>254 | 21=>21 | 5=>5 | 46=>201 | 119=>319 | 139=>322 | 138=>321 | 146=>323 | 51=>306 | n=>n,fun | 1=>1 | 3=>5 | 4=>6 | n=>n⟩
theorem Tryz.lays146 : Go.Proofs.Lays.n146 Tryz.prog Tryz.lays146_ren := {
  mixed:=by kernel_rfl
  f138:=Tryz.func153.trans (oe some (by kernel_rfl))
  f143:=Tryz.func154.trans (oe some (by kernel_rfl))
  f146:=Tryz.func48.trans (oe some (by kernel_rfl))
  f195:=Tryz.func213.trans (oe some (by kernel_rfl))
  f197:=Tryz.func214.trans (oe some (by kernel_rfl))
  f217:=Tryz.func262.trans (oe some (by kernel_rfl))
  f218:=Tryz.func215.trans (oe some (by kernel_rfl))
  f219:=Tryz.func216.trans (oe some (by kernel_rfl))
  f221:=Tryz.func98.trans (oe some (by kernel_rfl))
  f224:=Tryz.func276.trans (oe some (by kernel_rfl))
  f225:=Tryz.func275.trans (oe some (by kernel_rfl))
  f260:=Tryz.func274.trans (oe some (by kernel_rfl))
  f266:=Tryz.func294.trans (oe some (by kernel_rfl))
  f267:=Tryz.func277.trans (oe some (by kernel_rfl))
  f268:=Tryz.func152.trans (oe some (by kernel_rfl))
  f314:=Tryz.func296.trans (oe some (by kernel_rfl))
  t0:=Tryz.underlying0
  a0:=Tryz.isAgg0
  z0:=Tryz.sizeOf0
  v0:=Tryz.zeroValue0
  t3:=Tryz.underlying3
  a3:=Tryz.isAgg3
  z3:=Tryz.sizeOf3
  v3:=Tryz.zeroValue3
  t4:=Tryz.underlying4
  a4:=Tryz.isAgg4
  z4:=Tryz.sizeOf4
  v4:=Tryz.zeroValue4
  t5:=Tryz.underlying5
  a5:=Tryz.isAgg5
  z5:=Tryz.sizeOf5
  v5:=Tryz.zeroValue5
  t9:=Tryz.underlying9
  a9:=Tryz.isAgg9
  z9:=Tryz.sizeOf9
  v9:=Tryz.zeroValue9
  t21:=Tryz.underlying21
  a21:=Tryz.isAgg21
  z21:=Tryz.sizeOf21
  v21:=Tryz.zeroValue21
  t31:=Tryz.underlying81
  a31:=Tryz.isAgg81
  z31:=Tryz.sizeOf81
  v31:=Tryz.zeroValue81
  t46:=Tryz.underlying201
  a46:=Tryz.isAgg201
  z46:=Tryz.sizeOf201
  v46:=Tryz.zeroValue201
  t51:=Tryz.underlying306
  a51:=Tryz.isAgg306
  z51:=Tryz.sizeOf306
  v51:=Tryz.zeroValue306
  t105:=Tryz.underlying254
  a105:=Tryz.isAgg254
  z105:=Tryz.sizeOf254
  v105:=Tryz.zeroValue254
  t119:=Tryz.underlying319
  a119:=Tryz.isAgg319
  z119:=Tryz.sizeOf319
  t138:=Tryz.underlying321
  a138:=Tryz.isAgg321
  z138:=Tryz.sizeOf321
  v138:=Tryz.zeroValue321
  t139:=Tryz.underlying322
  a139:=Tryz.isAgg322
  z139:=Tryz.sizeOf322
  v139:=Tryz.zeroValue322
  t146:=Tryz.underlying323
  a146:=Tryz.isAgg323
  z146:=Tryz.sizeOf323
  v146:=Tryz.zeroValue323
  g1:=by kernel_rfl
  g3:=by kernel_rfl
  g4:=by kernel_rfl }
theorem Tryz.strings_Split(s sep:ByteArray)(m:Int)(w:World)(hs:s.size<4294967281)(hm:w.cell? ⟨1,0,none⟩=some (.int .i64 m))(h1:1≤sep.size):Calls Tryz.prog 48 #[.string s,.string sep] w fun e w'=>e=.returned (.slice (some ⟨w.heap.size,0,none⟩) (Lib.countB s sep+1) (Lib.countB s sep+1))∧w'=w.alloc (.cells ((Lib.splitB sep 0 (Lib.countB s sep) s).map Value.string).toArray 9):=Any.strings_Split Tryz.lays146 (by kernel_rfl) s sep m w hs hm h1
def zcs(c : UInt8) : List UInt8 → List (List UInt8)
  |[]=>[[]]
  | b :: r => if b = c then [] :: zcs c r else match zcs c r with
    |[]=>[[b]]
    |p :: q=>(b :: p) :: q
theorem zgr{c : UInt8} : ∀{s : List UInt8}, c ∉ s → zcs c s = [s]
  |[],_=>rfl
  |b :: r, h => by
    simp only[oQ,not_or] at h
    rw[zcs,if_neg (fun e=>h.1 e.symm),zgr h.2]
theorem zlp{c : UInt8}{r : List UInt8} : ∀{p : List UInt8}, c ∉ p → zcs c (p ++ c :: r) = p :: zcs c r
  |[],_=>by rw[List.nil_append,zcs,if_pos rfl]
  |b :: p, h => by
    simp only[oQ,not_or] at h
    rw[List.cons_append,zcs,if_neg (fun e=>h.1 e.symm),zlp h.2]
theorem zh5(c : UInt8) : ∀(s : List UInt8), 1 ≤ (zcs c s).length ∧ (zcs c s).length ≤ s.length + 1
  |[]=>⟨ou _,ou _⟩
  |b :: r => by
    have ih:=zh5 c r
    rw[zcs]
    split
    · simp only [ot];omega
    · split
      · simp
      · rename_i p q e
        rw[e] at ih
        simp only[ot] at ih ⊢;omega
theorem zlo(c : UInt8) : ∀(s : List UInt8), ∀p ∈ zcs c s, p.length ≤ s.length
  |[],p,h=>by simp[zcs] at h;subst h;exact ou _
  |b :: r, p, h => by
    have ih:=zlo c r
    rw[zcs] at h
    split at h
    · rcases oQ.1 h with rfl | h
      · simp
      · have:=ih p h;simp only [ot];omega
    · split at h
      · simp at h;subst h;simp
      · rename_i x q e
        rw[e] at ih
        rcases oQ.1 h with rfl | h
        · have:=ih x vbZ;simp only [ot];omega
        · have:=ih p (by simp [h]);simp only [ot];omega
theorem zol{c : UInt8} : ∀(s : List UInt8), (Lib.index s [c] = -1 ∧ c ∉ s) ∨ ∃p r, s = p ++ c :: r ∧ c ∉ p ∧ Lib.index s [c] = (p.length : Int)
  |[]=>.inl ⟨rfl,vbZ⟩
  |b :: l => by
    by_cases e:b=c
    · subst e
      exact .inr ⟨[],l,rfl,vbZ,by simp[Lib.index]⟩
    · have hp:[c].isPrefixOf (b :: l)=false:=by simp [List.isPrefixOf,Ne.symm e]
      rcases zol (c:=c) l with⟨h1,h2⟩ | ⟨p,r,h1,h2,h3⟩
      · exact .inl ⟨by simp [Lib.index,hp,h1],by simp [Ne.symm e,h2]⟩
      · refine .inr ⟨b :: p,r,by rw [h1];rfl,by simp [Ne.symm e,h2],?_⟩
        have:¬((p.length:Int)=-1):=vbX
        simp[Lib.index,hp,h3,this]
theorem zg7{c : UInt8} : ∀(k : Nat) (s : List UInt8), s.count c ≤ k → Lib.splitK [c] 0 k s = zcs c s
  |0, s, h => by
    have:c ∉ s:=List.count_eq_zero.1 vbX
    rw[Lib.splitK,zgr this]
  |k + 1, s, h => by
    rcases zol (c:=c) s with⟨h1,h2⟩ | ⟨p,r,h1,h2,h3⟩
    · rw [Lib.splitK,h1,zgr h2];rfl
    · have hne:¬ ((p.length:Int)==-1)=true:=by simp
      have hc:s.count c=r.count c+1:=by rw[h1,List.count_append,List.count_cons_self,List.count_eq_zero.2 h2];omega
      rw[Lib.splitK,h3,if_neg hne,h1,zlp h2,←zg7 k r vbX]
      congr 1
      · simp
      · congr 1;simp
theorem zg8(s:List UInt8)(c:UInt8):(Lib.splitB ⟨#[c]⟩ 0 (Lib.countB ⟨s.toArray⟩ ⟨#[c]⟩) ⟨s.toArray⟩).map Value.string=(zcs c s).map fun x=>Value.string ⟨x.toArray⟩:=by have h:=Lib.splitB_data ⟨#[c]⟩ 0 (Lib.countB ⟨s.toArray⟩ ⟨#[c]⟩) ⟨s.toArray⟩;have e:Lib.countB ⟨s.toArray⟩ ⟨#[c]⟩=s.count c:=(by show Lib.count s.toArray.toList [c]=_;rw[Lib.count_one]);have h2:Lib.splitK [c] 0 (s.count c) s=zcs c s:=zg7 _ _ (ou _);rw[e] at h ⊢;have h3:(Lib.splitB ⟨#[c]⟩ 0 (s.count c) ⟨s.toArray⟩).map (fun x=>x.data.toList)=zcs c s:=h.trans h2;rw[←h3,List.map_map];rfl
theorem zn3(s:List UInt8)(c:UInt8):Lib.countB ⟨s.toArray⟩ ⟨#[c]⟩+1=(zcs c s).length:=by have h:=oe List.length (zg8 s c);rw[Yx,Yx,Lib.splitB_all ⟨#[c]⟩ (ou 1) 0 _ ⟨s.toArray⟩ rfl] at h;exact h
def C57(R:(List UInt8)):LV×List (Nat×BC):=(.str R,[])
def itoa(x0:Int):List UInt8:=Lib.decDigits x0.toNat
theorem zt7 {w : World} (h : GH w) : Lib.TabIs Tryz.prog w "internal/strconv.uint64pow10" .u64 Lib.pow10Tab := by
  obtain⟨_,⟨t,f,hb⟩,_⟩:=h
  unfold Lib.TabIs World.var?
  rw [show Tryz.prog.globalNamed "internal/strconv.uint64pow10" = some 2 by kernel_rfl]
  simp only[Option.bind_some,hb]
  rfl
def C48(R:(List (List UInt8))):LV×List (Nat×BC):=(.own 0,[(0,.arr 1 R.length (rowOf (cStr) R))])
def zlk(x0 x1:List UInt8):List (List UInt8):=zcs (x1.getD 0 0) x0
theorem zs1(x0 x1:List UInt8):(zlk x0 x1).length≤x0.length+1:=(zh5 _ _).2
theorem zs0(x0 x1 : List UInt8)(k : Nat) : ((zlk x0 x1).getD k wl).length ≤ x0.length := by
 rw[oh];cases e:(zlk x0 x1)[k]? with
 |none =>exact Nat.zero_le _
 |some p =>exact zlo _ _ p (oW e)
theorem zi1(x0 : List UInt8)(x1 : List UInt8)(h : x0.length ≤ 1048576 ∧ x1.length = 1) : FnT Tryz.prog 48 [.str x0, .str x1] (C48 (zlk x0 x1)) := by
 obtain⟨c,rfl⟩:=List.length_eq_one_iff.1 h.2;refine Fn.of_strs (T:=9) zo0 (by have:=zs1 x0 [c];unfold maxLen;omega) fun w hg=>?_;obtain⟨_,_,⟨m,hm⟩,_⟩:=hg;refine(Tryz.strings_Split ⟨x0.toArray⟩ ⟨#[c]⟩ m w (by show x0.toArray.size<_;simp;omega) hm (ou 1)).mono fun e w' ⟨he,hw⟩=>⟨?_,?_⟩
 ·rw [he, zn3]; rfl
 rw[hw,zg8];rfl
def C111(R:Int×Bool):LV×List (Nat×BC):=(.tup [.int .i64 R.1,.er R.2],[])
def atoiE(x0 : List UInt8) : Int × Bool := match Lib.atoi x0 with
  |some n=>(n,false)
  |none=>(0,true)
theorem ztx{x0:List UInt8}{n:Int}(e:Lib.atoi x0=some n):atoiE x0=(n,false):=by unfold atoiE;rw[e]
theorem zty{x0:List UInt8}(e:Lib.atoi x0=none):atoiE x0=(0,true):=by unfold atoiE;rw[e]
theorem zjz(x0 : List UInt8)(h : x0.length ≤ 18) : FnT Tryz.prog 111 [.str x0] (C111 (atoiE x0)) := by
 have hs:(⟨x0.toArray⟩:ByteArray).size≤18:=by show x0.toArray.size≤18;simpa using h
 cases e:Lib.atoi x0 with
 |some n =>rw[ztx e];exact Fn.of_intErr zr4 fun w _=>(Tryz.strconv_Atoi ⟨x0.toArray⟩ n hs (by simpa using e) w).mono fun e w' ⟨he,t,hw⟩=>⟨_,he,fun _=>rfl,fun h=>vbU,by rw[hw];exact Lib.bytesWorld_below _ _ _⟩
 |none =>rw[zty e];refine Fn.of_intErr zr4 fun w hg=>?_;obtain⟨_,_,_,te,pe,hv⟩:=hg;exact(Tryz.strconv_Atoi_err ⟨x0.toArray⟩ hs (by simpa using e) _ w hv (.inr ⟨te,pe,rfl⟩)).mono fun e w' ⟨N,he,_,_,hb⟩=>⟨_,he,fun h=>vbU,fun _=>⟨_,_,rfl⟩,hb⟩
def zao(x0:List UInt8)(x1:Int):(List (List UInt8)):=loopN (fun i1 (v1:(List (List UInt8))×Int) next=>bif(decide (((x0.getD i1 0).toNat:Int)=x1)) then(next ((v1.1++([(x0.drop v1.2.toNat).take (i1 - v1.2.toNat)]:List (List UInt8))),((i1:Nat):Int)+1)) else(next (v1.1,v1.2))) (fun (v1:(List (List UInt8))×Int)=>(v1.1++([(x0.drop v1.2.toNat).take (x0.length - v1.2.toNat)]:List (List UInt8)))) x0.length 0 (([]:List (List UInt8)),0)
def zr8(i1:Nat)(v1:(List (List UInt8))×Int):Dl:=⟨[(7,.int .i64 (i1:Int)),(5,.own 20005),(6,.int .i64 v1.2)],[(20005,.arr 1 v1.1.length (rowOf (cStr) v1.1))]⟩
def A270b1(x0:List UInt8)(x1:Int)(i1:Nat)(v1:(List (List UInt8))×Int):Ann:=let q3:=((i1:Nat):Int);let q4:=((x0.length:Nat):Int);let q5:=inR .i64 (q3+1);let q2:=([(x0.drop v1.2.toNat).take (i1 - v1.2.toNat)]:List (List UInt8));let q1:=([(x0.drop v1.2.toNat).take (x0.length - v1.2.toNat)]:List (List UInt8));r0 1 [0,1,4,5,6,7,12] [20005] (cn (decide (q3<q4)) (r1 1 [0,1,4,5,6,7,19] [20005] [pf (0≤(q3:Int)∧(q3:Int)<q4)] [0] (cn (decide (((x0.getD i1 0).toNat:Int)=x1)) (.reg 1 [] [(5,bsC 25 (cStr) (q2:List (List UInt8))),(6,apC 26 (cStr) 16 v1.1 q2)] [0,1,4,5,6,7] [26] [] [pf (0≤(v1.2:Int)∧(v1.2:Int)≤q3∧(q3:Int)≤q4)] [] [0,4,8] (r1 1 [0,1,4,5,6,7] [26] [pf q5] [0] (r1 1 [0,1,4,5,6,7] [26] [pf q5] [0] (.next 0 [(20005,some 26)] (zr8 (i1+1) ((v1.1++q2),q3+1)))))) (r1 1 [0,1,4,5,6,7] [20005] [pf q5] [0] (.next 0 [(20005,some 20005)] (zr8 (i1+1) (v1.1,v1.2)))))) (.reg 1 [] [(4,bsC 33 (cStr) (q1:List (List UInt8))),(5,apC 34 (cStr) 16 v1.1 q1)] [4] [34] [] [pf (0≤(v1.2:Int)∧(v1.2:Int)≤q4∧(q4:Int)≤q4)] [] [0,4,8] (rt [(0,some 34)] (C48 (v1.1++q1)))))
def A270(x0:List UInt8)(x1:Int):Ann:=.reg 3 [] [(1000,bsC 8 (cStr) ([]:List (List UInt8)))] [0,1,4,5,6] [8] [] [] [] [0] (r0 1 [0,1,4,5,6,7] [8] (lp (zr8) [] [8] [(20005,some 8)] (zr8 0 (([]:List (List UInt8)),0)) (A270b1 x0 x1)))
theorem zj2(x0 : List UInt8)(x1 : Int)(h : x0.length ≤ 1048576) : FnT Tryz.prog 270 [.str x0, .int .u8 x1] (C48 (zao x0 x1)) := by
 refine Fn.gp 35 Tryz.func270 (by kernel_rfl) (by kernel_rfl) (by simp[C48,Frs,FrsL,FrsB,rowOf,cInt,cBool,cStr,cSl,zar]) (A270 x0 x1) (by kernel_rfl) fun R hR=>?_;refine rg ⟨trivial,trivial⟩ ?_;refine rT ?_;refine lN (fun i v=>v.1.length≤i∧0≤v.2∧v.2≤i) vbV rfl (fun i1 v1 F1 hn1 hI1 hR hK1=>?_) hR;refine rT ?_;refine⟨fun hc1=>?_,fun hc1=>?_⟩
 ·have hii1 : i1 < x0.length := vbr
  replace hR:=zaq hR hii1;refine rg ⟨vbN,trivial⟩ ?_;refine cd (fun hc2 hR=>?_) (fun hc2 hR=>?_) hR
  ·refine rg ⟨vbL, trivial, by (simp; omega), trivial⟩ ?_;refine rg ⟨vbe, trivial⟩ ?_;refine rg ⟨vbe, trivial⟩ ?_;exact hK1 ((v1.1 ++ ([(x0.drop v1.2.toNat).take (i1 - v1.2.toNat)] : List (List UInt8))), ((i1 : Nat) : Int) + 1) hii1 (by ((try clear hR hK1); intros; (try simp only [ob, oa, oi, oc, zaw, za4, zci, od, inR] at *); (repeat' apply YU) <;> (first | (intros; omega) | (simp_all [inR]; done)))) hR
  refine rg ⟨vbk,trivial⟩ ?_;exact hK1 (v1.1,v1.2) hii1 vbk hR
 obtain rfl:i1=x0.length:=by have:=oz hc1;omega
 replace hR:=zau hR (oP _);refine rg ⟨vbN,trivial,vbP,trivial⟩ ?_;exact oe C48 hR
def k270(x0:List UInt8)(x1:Int):Cl:=(hres (C48 (zao x0 x1)),k1 (zj2 x0 x1))
structure ya where
  kind:Int
  age:Int
  deriving Inhabited
def cStep(fr:Bool)(x:ya):List LV:=cInt .i64 x.kind++cInt .i64 x.age

structure yb where
  ego:Int
  steps:List ya
  deriving Inhabited
def zag(fr:Bool)(x:yb):List LV:=cInt .i64 x.ego++cSl fr 2 (cStep fr) x.steps

def C149(R:Int):LV×List (Nat×BC):=(.int .i64 R,[])
def zcg(x0:Int):Int:=bif(decide ((x0.tmod 2)=1)) then 1 else 2
def A149(x0:Int):Ann:=r0 1 [0,2] [] (r1 1 [2,5] [] [pf ((2:Int)≠0)] [0] (cn (decide ((x0.tmod 2)=1)) (r0 1 [2] [] (rt [] (C149 1))) (r0 1 [2] [] (rt [] (C149 2)))))
theorem zfe(x0 : Int) : FnT Tryz.prog 149 [.int .i64 x0] (C149 (zcg x0)) := by
 refine Fn.gp 6 Tryz.func149 (by kernel_rfl) (by kernel_rfl) vbv (A149 x0) (by kernel_rfl) fun R hR=>?_;refine rT ?_;refine rg ⟨vbV,trivial⟩ ?_;refine cd (fun hc1 hR=>?_) (fun hc1 hR=>?_) hR
 ·refine rT ?_;exact oe C149 hR
 refine rT ?_;exact oe C149 hR
def k149(x0:Int):Cl:=(hres (C149 (zcg x0)),k0 (zfe x0))
def l3Sex(x0:Int):Int:=bif(decide ((x0.tmod 2)=1)) then 1 else 2
def A134(x0:Int):Ann:=r0 1 [0,2] [] (r1 1 [2,5] [] [pf ((2:Int)≠0)] [0] (cn (decide ((x0.tmod 2)=1)) (r0 1 [2] [] (rt [] (C149 1))) (r0 1 [2] [] (rt [] (C149 2)))))
theorem zmt(x0 : Int) : FnT Tryz.prog 134 [.int .i64 x0] (C149 (l3Sex x0)) := by
 refine Fn.gp 6 Tryz.func134 (by kernel_rfl) (by kernel_rfl) vbv (A134 x0) (by kernel_rfl) fun R hR=>?_;refine rT ?_;refine rg ⟨vbV,trivial⟩ ?_;refine cd (fun hc1 hR=>?_) (fun hc1 hR=>?_) hR
 ·refine rT ?_;exact oe C149 hR
 refine rT ?_;exact oe C149 hR
def k134(x0:Int):Cl:=(hres (C149 (l3Sex x0)),k0 (zmt x0))
def zb7(x0:ya)(x1:Int):Bool:=bif((((decide (x0.kind<1))||(decide (8<x0.kind)))||(decide (x0.age<0)))||(decide (2<x0.age))) then false else(bif(((!decide (x0.age=0))&&(!decide (x0.kind=3)))&&(!decide (x0.kind=4))) then false else(bif(((decide (x0.kind=7))&&(decide (x1=1)))||((decide (x0.kind=8))&&(decide (x1=2)))) then false else true))
def A148(x0:ya)(x1:Int):Ann:=let q5:=x0.kind<1;let q4:=decide (x0.age<0);let q3:=decide (x0.kind=8);let q6:=!decide (x0.kind=3);let q1:=(decide (x0.kind=7))&&(decide (x1=1));let q2:=(decide q5)||(decide (8<x0.kind));r0 1 [1,2,4] [2] (.reg 1 [] [] [1,2,4,5] [2] [!(decide q5),decide q5,!q2,(decide q5)||(decide (8<x0.kind)),!(q2||q4),q2||q4] [] [] [1,1,6,9,9,14,17,17,22] (cn ((q2||q4)||(decide (2<x0.age))) (r0 1 [4] [] (rt [] (C70 false))) (.reg 1 [] [] [1,2,4,24] [2] [!decide (x0.age=0),(!decide (x0.age=0))&&q6] [] [] [1,1,1,5,5,5] (cn (((!decide (x0.age=0))&&q6)&&(!decide (x0.kind=4))) (r0 1 [4] [] (rt [] (C70 false))) (.reg 1 [] [] [4,38] [] [decide (x0.kind=7),!q1,(!q1)&&q3,(decide (x0.kind=7))&&(decide (x1=1))] [gt (!q1) (gt q3 (pf (((!q1)&&q3)=true)))] [] [1,1,5,5,5,9,5,0,14] (cn (q1||(q3&&(decide (x1=2)))) (r0 1 [4] [] (rt [] (C70 false))) (r0 1 [4] [] (rt [] (C70 true)))))))))
theorem ze8(x0 : ya)(x1 : Int) : FnT Tryz.prog 148 [.agg (cStep false x0), .int .i64 x1] (C70 (zb7 x0 x1)) := by
 refine Fn.gp 55 Tryz.func148 (by kernel_rfl) (by kernel_rfl) vby (A148 x0 x1) (by kernel_rfl) fun R hR=>?_;refine rT ?_;refine rT ?_;refine cd (fun hc1 hR=>?_) (fun hc1 hR=>?_) hR
 ·refine rT ?_;exact oe C70 hR
 refine rT ?_;refine cd (fun hc2 hR=>?_) (fun hc2 hR=>?_) hR
 ·refine rT ?_;exact oe C70 hR
 refine rg ⟨vaA,trivial⟩ ?_;refine cd (fun hc3 hR=>?_) (fun hc3 hR=>?_) hR
 ·refine rT ?_;exact oe C70 hR
 refine rT ?_;exact oe C70 hR
def k148(x0:ya)(x1:Int):Cl:=(hres (C70 (zb7 x0 x1)),k0 (ze8 x0 x1))
def zd9(x0:ya)(x1:Int):Bool:=bif((!(l1In x0.kind 1 8))||(!(l1In x0.age 0 2))) then false else(bif(((!decide (x0.age=0))&&(!decide (x0.kind=3)))&&(!decide (x0.kind=4))) then false else(((!decide (x0.kind=7))||(!decide (x1=1)))&&((!decide (x0.kind=8))||(!decide (x1=2)))))
def A133(x0:ya)(x1:Int):Ann:=let q5:=x0.kind=7;let q3:=l1In x0.kind 1 8;let q2:=!decide (x0.kind=8);let q4:=!decide (x0.kind=3);let q1:=(!decide q5)||(!decide (x1=1));r0 1 [1,2,4] [2] (.reg 1 [] [(2,k70 x0.kind 1 8),(7,cg (!(!q3)) (k70 x0.age 0 2))] [1,2,4,14] [2] [!(!q3),!q3] [] [] [0,1,1,4,1,6] (cn ((!q3)||(!(l1In x0.age 0 2))) (r0 1 [1,2,4] [2] (rt [] (C70 false))) (.reg 1 [] [] [1,2,4,27] [2] [!decide (x0.age=0),(!decide (x0.age=0))&&q4] [] [] [1,1,1,5,5,5] (cn (((!decide (x0.age=0))&&q4)&&(!decide (x0.kind=4))) (r0 1 [1,2,4] [2] (rt [] (C70 false))) (.reg 1 [] [] [4] [] [!(!decide q5),!decide q5,(!decide q5)||(!decide (x1=1)),q1&&(!q2)] [gt q1 (gf q2 (pf ((q1&&(!q2))=true)))] [] [1,6,9,9,9,13,9,0,9] (rt [] (C70 (q1&&(q2||(!decide (x1=2)))))))))))
theorem zk6(x0 : ya)(x1 : Int) : FnT Tryz.prog 133 [.agg (cStep false x0), .int .i64 x1] (C70 (zd9 x0 x1)) := by
 refine Fn.gp 44 Tryz.func133 (by kernel_rfl) (by kernel_rfl) vby (A133 x0 x1) (by kernel_rfl) fun R hR=>?_;refine rT ?_;refine rg ⟨trivial,fun hg0=>trivial,trivial⟩ ?_;refine cd (fun hc1 hR=>?_) (fun hc1 hR=>?_) hR
 ·refine rT ?_;exact oe C70 hR
 refine rT ?_;refine cd (fun hc2 hR=>?_) (fun hc2 hR=>?_) hR
 ·refine rT ?_;exact oe C70 hR
 refine rg ⟨vaA,trivial⟩ ?_;exact oe C70 hR
def k133(x0:ya)(x1:Int):Cl:=(hres (C70 (zd9 x0 x1)),k0 (zk6 x0 x1))
def zak(x0:yb):Bool:=bif(((decide (x0.ego<0))||(decide (2<x0.ego)))||(decide (8<((x0.steps.length:Nat):Int)))) then false else(loopN (fun i1 (v1:Int) next=>bif(!(zb7 (x0.steps.getD i1 wl) v1)) then false else(next (zcg ((x0.steps.getD i1 wl).kind)))) (fun (v1:Int)=>true) x0.steps.length 0 x0.ego)
def D95b1(i1:Nat)(v1:Int):Dl:=⟨[(25,.int .i64 (i1:Int)),(3,.int .i64 v1)],[]⟩
def A95b1(x0:yb)(i1:Nat)(v1:Int):Ann:=let q2:=((i1:Nat):Int);let q1:=x0.steps.getD i1 wl;let q3:=((x0.steps.length:Nat):Int);r0 1 [2,3,23,24,25,26] [] (cn (decide (q2<q3)) (r1 1 [2,3,5,23,24,25] [5] [pf (0≤(q2:Int)∧(q2:Int)<q3)] [0] (.reg 1 [] [(2,k148 q1 v1)] [2,3,5,23,24,25,32] [5] [] [] [] [0] (cn (!(zb7 q1 v1)) (r0 1 [2,3,5,23,24,25] [5] (rt [] (C70 false))) (.reg 1 [] [(2,k149 (q1.kind))] [2,3,23,24,25] [] [] [] [] [0] (r1 1 [2,3,23,24,25] [] [pf (inR .i64 (q2+1))] [0] (.next 0 [] (D95b1 (i1+1) (zcg (q1.kind))))))))) (r0 1 [2] [] (rt [] (C70 true))))
def A95(x0:yb):Ann:=let q1:=decide (x0.ego<0);let q2:=decide (2<x0.ego);r0 1 [1,2] [1] (.reg 1 [] [] [1,2,19] [1] [!q1,decide (x0.ego<0),!(q1||q2),q1||q2] [] [] [1,1,6,9,9,9,14] (cn ((q1||q2)||(decide (8<((x0.steps.length:Nat):Int)))) (r0 1 [1,2] [1] (rt [] (C70 false))) (r0 1 [1,2,3] [1] (r0 1 [2,3,23,24,25] [] (lp (D95b1) [] [] [] (D95b1 0 x0.ego) (A95b1 x0))))))
theorem zeh(x0 : yb)(h0 : x0.steps.length ≤ 1048576) : FnT Tryz.prog 95 [.agg (zag false x0)] (C70 (zak x0)) := by
 refine Fn.gp 37 Tryz.func95 (by kernel_rfl) (by kernel_rfl) vby (A95 x0) (by kernel_rfl) fun R hR=>?_;refine rT ?_;refine rT ?_;refine cd (fun hc1 hR=>?_) (fun hc1 hR=>?_) hR
 ·refine rT ?_;exact oe C70 hR
 refine rT ?_;refine rT ?_;refine lN (fun i v=>True) vbV rfl (fun i1 v1 F1 hn1 hI1 hR hK1=>?_) hR;refine rT ?_;refine⟨fun hc2=>?_,fun hc2=>?_⟩
 ·have hii1 : i1 < x0.steps.length := vbs
  replace hR:=zaq hR hii1;refine rg ⟨vbN,trivial⟩ ?_;refine rg ⟨trivial,trivial⟩ ?_;refine cd (fun hc3 hR=>?_) (fun hc3 hR=>?_) hR
  ·refine rT ?_;exact oe C70 hR
  refine rg ⟨trivial,trivial⟩ ?_;refine rg ⟨vbk,trivial⟩ ?_;exact hK1 (zcg ((x0.steps.getD i1 wl).kind)) hii1 vbV hR
 obtain rfl:i1=x0.steps.length:=by have:=oz hc2;omega
 replace hR:=zau hR (oP _);refine rT ?_;exact oe C70 hR
def k95(x0:yb):Cl:=(hres (C70 (zak x0)),k1 (zeh x0))
def zad(x0:yb):Bool:=bif((!(l1In x0.ego 0 2))||(decide (8<((x0.steps.length:Nat):Int)))) then false else(loopN (fun i1 (v1:Int) next=>bif(!(zd9 (x0.steps.getD i1 wl) v1)) then false else(next (l3Sex ((x0.steps.getD i1 wl).kind)))) (fun (v1:Int)=>true) x0.steps.length 0 x0.ego)
def D73b1(i1:Nat)(v1:Int):Dl:=⟨[(21,.int .i64 (i1:Int)),(3,.int .i64 v1)],[]⟩
def A73b1(x0:yb)(i1:Nat)(v1:Int):Ann:=let q2:=((i1:Nat):Int);let q1:=x0.steps.getD i1 wl;let q3:=((x0.steps.length:Nat):Int);r0 1 [2,3,19,20,21,22] [] (cn (decide (q2<q3)) (r1 1 [2,3,5,19,20,21] [5] [pf (0≤(q2:Int)∧(q2:Int)<q3)] [0] (.reg 1 [] [(2,k133 q1 v1)] [2,3,5,19,20,21,28] [5] [] [] [] [0] (cn (!(zd9 q1 v1)) (r0 1 [2,3,5,19,20,21] [5] (rt [] (C70 false))) (.reg 1 [] [(2,k134 (q1.kind))] [2,3,19,20,21] [] [] [] [] [0] (r1 1 [2,3,19,20,21] [] [pf (inR .i64 (q2+1))] [0] (.next 0 [] (D73b1 (i1+1) (l3Sex (q1.kind))))))))) (r0 1 [2] [] (rt [] (C70 true))))
def A73(x0:yb):Ann:=let q1:=l1In x0.ego 0 2;r0 1 [1,2] [1] (.reg 1 [] [(2,k70 x0.ego 0 2)] [1,2,15] [1] [!(!q1),!q1] [] [] [0,1,1,1,6] (cn ((!q1)||(decide (8<((x0.steps.length:Nat):Int)))) (r0 1 [1,2] [1] (rt [] (C70 false))) (r0 1 [1,2,3] [1] (r0 1 [2,3,19,20,21] [] (lp (D73b1) [] [] [] (D73b1 0 x0.ego) (A73b1 x0))))))
theorem zgf(x0 : yb)(h0 : x0.steps.length ≤ 1048576) : FnT Tryz.prog 73 [.agg (zag false x0)] (C70 (zad x0)) := by
 refine Fn.gp 33 Tryz.func73 (by kernel_rfl) (by kernel_rfl) vby (A73 x0) (by kernel_rfl) fun R hR=>?_;refine rT ?_;refine rg ⟨trivial,trivial⟩ ?_;refine cd (fun hc1 hR=>?_) (fun hc1 hR=>?_) hR
 ·refine rT ?_;exact oe C70 hR
 refine rT ?_;refine rT ?_;refine lN (fun i v=>True) vbV rfl (fun i1 v1 F1 hn1 hI1 hR hK1=>?_) hR;refine rT ?_;refine⟨fun hc2=>?_,fun hc2=>?_⟩
 ·have hii1 : i1 < x0.steps.length := vbs
  replace hR:=zaq hR hii1;refine rg ⟨vbN,trivial⟩ ?_;refine rg ⟨trivial,trivial⟩ ?_;refine cd (fun hc3 hR=>?_) (fun hc3 hR=>?_) hR
  ·refine rT ?_;exact oe C70 hR
  refine rg ⟨trivial,trivial⟩ ?_;refine rg ⟨vbk,trivial⟩ ?_;exact hK1 (l3Sex ((x0.steps.getD i1 wl).kind)) hii1 vbV hR
 obtain rfl:i1=x0.steps.length:=by have:=oz hc2;omega
 replace hR:=zau hR (oP _);refine rT ?_;exact oe C70 hR
def k73(x0:yb):Cl:=(hres (C70 (zad x0)),k1 (zgf x0))
def zfb(x0:List ya)(x1:List ya):Bool:=bif(!decide (((x0.length:Nat):Int)=((x1.length:Nat):Int))) then false else(loopN (fun i1 (v1:Unit) next=>bif(!((decide (((x0.getD i1 wl).kind)=((x1.getD i1 wl).kind)))&&((decide (((x0.getD i1 wl).age)=((x1.getD i1 wl).age)))&&true))) then false else(next ())) (fun (v1:Unit)=>true) x0.length 0 ())
def zx8(i1:Nat)(v1:Unit):Dl:=⟨[(13,.int .i64 (i1:Int))],[]⟩
def A150b1(x0:List ya)(x1:List ya)(i1:Nat)(v1:Unit):Ann:=let q1:=((i1:Nat):Int);let q2:=((x0.length:Nat):Int);let q3:=(q1:Int);r0 1 [0,1,4,12,13,14] [] (cn (decide (q1<q2)) (r1 2 [0,1,4,12,13,24] [] [pf (0≤q3∧q3<q2),pf (0≤q3∧q3<((x1.length:Nat):Int))] [0,4] (cn (!((decide (((x0.getD i1 wl).kind)=((x1.getD i1 wl).kind)))&&((decide (((x0.getD i1 wl).age)=((x1.getD i1 wl).age)))&&true))) (r0 1 [0,1,4,12,13] [] (rt [] (C70 false))) (r1 1 [0,1,4,12,13] [] [pf (inR .i64 (q1+1))] [0] (.next 0 [] (zx8 (i1+1) ()))))) (r0 1 [4] [] (rt [] (C70 true))))
def A150(x0:List ya)(x1:List ya):Ann:=r0 1 [0,1,4] [] (r0 1 [0,1,4,10] [] (cn (!decide (((x0.length:Nat):Int)=((x1.length:Nat):Int))) (r0 1 [0,1,4] [] (rt [] (C70 false))) (r0 1 [0,1,4,12,13] [] (lp (zx8) [] [] [] (zx8 0 ()) (A150b1 x0 x1)))))
theorem zep(x0 : List ya)(x1 : List ya)(h0 : x0.length ≤ 1048576)(h1 : x1.length ≤ 1048576) : FnT Tryz.prog 150 [.ro false 2 x0.length (rowOf (cStep false) x0), .ro false 2 x1.length (rowOf (cStep false) x1)] (C70 (zfb x0 x1)) := by
 refine Fn.gp 26 Tryz.func150 (by kernel_rfl) (by kernel_rfl) vby (A150 x0 x1) (by kernel_rfl) fun R hR=>?_;refine rT ?_;refine rT ?_;refine cd (fun hc1 hR=>?_) (fun hc1 hR=>?_) hR
 ·refine rT ?_;exact oe C70 hR
 refine rT ?_;refine lN (fun i v=>True) vbV rfl (fun i1 v1 F1 hn1 hI1 hR hK1=>?_) hR;refine rT ?_;refine⟨fun hc2=>?_,fun hc2=>?_⟩
 ·have hii1 : i1 < x0.length := vbs
  replace hR:=zaq hR hii1;refine rg ⟨vbN,vaz,trivial⟩ ?_;refine cd (fun hc3 hR=>?_) (fun hc3 hR=>?_) hR
  ·refine rT ?_;exact oe C70 hR
  refine rg ⟨vbk,trivial⟩ ?_;exact hK1 () hii1 vbV hR
 obtain rfl:i1=x0.length:=by have:=oz hc2;omega
 replace hR:=zau hR (oP _);refine rT ?_;exact oe C70 hR
def k150(x0:List ya)(x1:List ya):Cl:=(hres (C70 (zfb x0 x1)),k2 (zep x0 x1))
def zm2(x0:List ya)(x1:List ya):Bool:=bif(!decide (((x0.length:Nat):Int)=((x1.length:Nat):Int))) then false else(loopN (fun i1 (v1:Unit) next=>bif(!((decide (((x0.getD i1 wl).kind)=((x1.getD i1 wl).kind)))&&((decide (((x0.getD i1 wl).age)=((x1.getD i1 wl).age)))&&true))) then false else(next ())) (fun (v1:Unit)=>true) x0.length 0 ())
def zyc(i1:Nat)(v1:Unit):Dl:=⟨[(13,.int .i64 (i1:Int))],[]⟩
def A135b1(x0:List ya)(x1:List ya)(i1:Nat)(v1:Unit):Ann:=let q1:=((i1:Nat):Int);let q2:=((x0.length:Nat):Int);let q3:=(q1:Int);r0 1 [0,1,4,12,13,14] [] (cn (decide (q1<q2)) (r1 2 [0,1,4,12,13,24] [] [pf (0≤q3∧q3<q2),pf (0≤q3∧q3<((x1.length:Nat):Int))] [0,4] (cn (!((decide (((x0.getD i1 wl).kind)=((x1.getD i1 wl).kind)))&&((decide (((x0.getD i1 wl).age)=((x1.getD i1 wl).age)))&&true))) (r0 1 [0,1,4,12,13] [] (rt [] (C70 false))) (r1 1 [0,1,4,12,13] [] [pf (inR .i64 (q1+1))] [0] (.next 0 [] (zyc (i1+1) ()))))) (r0 1 [4] [] (rt [] (C70 true))))
def A135(x0:List ya)(x1:List ya):Ann:=r0 1 [0,1,4] [] (r0 1 [0,1,4,10] [] (cn (!decide (((x0.length:Nat):Int)=((x1.length:Nat):Int))) (r0 1 [0,1,4] [] (rt [] (C70 false))) (r0 1 [0,1,4,12,13] [] (lp (zyc) [] [] [] (zyc 0 ()) (A135b1 x0 x1)))))
theorem zj1(x0 : List ya)(x1 : List ya)(h0 : x0.length ≤ 1048576)(h1 : x1.length ≤ 1048576) : FnT Tryz.prog 135 [.ro false 2 x0.length (rowOf (cStep false) x0), .ro false 2 x1.length (rowOf (cStep false) x1)] (C70 (zm2 x0 x1)) := by
 refine Fn.gp 26 Tryz.func135 (by kernel_rfl) (by kernel_rfl) vby (A135 x0 x1) (by kernel_rfl) fun R hR=>?_;refine rT ?_;refine rT ?_;refine cd (fun hc1 hR=>?_) (fun hc1 hR=>?_) hR
 ·refine rT ?_;exact oe C70 hR
 refine rT ?_;refine lN (fun i v=>True) vbV rfl (fun i1 v1 F1 hn1 hI1 hR hK1=>?_) hR;refine rT ?_;refine⟨fun hc2=>?_,fun hc2=>?_⟩
 ·have hii1 : i1 < x0.length := vbs
  replace hR:=zaq hR hii1;refine rg ⟨vbN,vaz,trivial⟩ ?_;refine cd (fun hc3 hR=>?_) (fun hc3 hR=>?_) hR
  ·refine rT ?_;exact oe C70 hR
  refine rg ⟨vbk,trivial⟩ ?_;exact hK1 () hii1 vbV hR
 obtain rfl:i1=x0.length:=by have:=oz hc2;omega
 replace hR:=zau hR (oP _);refine rT ?_;exact oe C70 hR
def k135(x0:List ya)(x1:List ya):Cl:=(hres (C70 (zm2 x0 x1)),k2 (zj1 x0 x1))
def zfr(x0:yb)(x1:yb):Bool:=(decide (x0.ego=x1.ego))&&(zfb x0.steps x1.steps)
def A96(x0:yb)(x1:yb):Ann:=let q1:=x0.ego=x1.ego;.reg 2 [] [(1010,cg (decide q1) (k150 x0.steps x1.steps))] [4] [] [decide q1] [] [] [1,1,1,1,0,1] (rt [] (C70 ((decide q1)&&(zfb x0.steps x1.steps))))
theorem zhj(x0:yb)(x1:yb)(h0:x0.steps.length≤1048576)(h1:x1.steps.length≤1048576):FnT Tryz.prog 96 [.agg (zag false x0),.agg (zag false x1)] (C70 (zfr x0 x1)):=by refine Fn.gp 17 Tryz.func96 (by kernel_rfl) (by kernel_rfl) vby (A96 x0 x1) (by kernel_rfl) fun R hR=>?_;refine rg ⟨fun hg0=>⟨vbV,vbV⟩,trivial⟩ ?_;exact oe C70 hR
def k96(x0:yb)(x1:yb):Cl:=(hres (C70 (zfr x0 x1)),k2 (zhj x0 x1))
def zfa(x0:yb)(x1:yb):Bool:=(decide (x0.ego=x1.ego))&&(zm2 x0.steps x1.steps)
def A74(x0:yb)(x1:yb):Ann:=let q1:=x0.ego=x1.ego;.reg 2 [] [(1010,cg (decide q1) (k135 x0.steps x1.steps))] [4] [] [decide q1] [] [] [1,1,1,1,0,1] (rt [] (C70 ((decide q1)&&(zm2 x0.steps x1.steps))))
theorem zhd(x0:yb)(x1:yb)(h0:x0.steps.length≤1048576)(h1:x1.steps.length≤1048576):FnT Tryz.prog 74 [.agg (zag false x0),.agg (zag false x1)] (C70 (zfa x0 x1)):=by refine Fn.gp 17 Tryz.func74 (by kernel_rfl) (by kernel_rfl) vby (A74 x0 x1) (by kernel_rfl) fun R hR=>?_;refine rg ⟨fun hg0=>⟨vbV,vbV⟩,trivial⟩ ?_;exact oe C70 hR
def k74(x0:yb)(x1:yb):Cl:=(hres (C70 (zfa x0 x1)),k2 (zhd x0 x1))
def sexOf(x0:yb):Int:=bif(decide (((x0.steps.length:Nat):Int)=0)) then x0.ego else(zcg ((x0.steps.getD ((((x0.steps.length:Nat):Int) - 1).toNat) wl).kind))
def A210(x0:yb):Ann:=let q1:=((x0.steps.length:Nat):Int);let q2:=(x0.steps.getD ((q1 - 1).toNat) wl).kind;r0 1 [1,2] [1] (r0 1 [1,2,6] [1] (cn (decide (q1=0)) (r0 1 [1,2] [1] (rt [] (C149 x0.ego))) (.reg 1 [] [(9,k149 q2)] [2] [] [] [pf (inR .i64 (q1 - 1)),pf (0≤(q1 - 1:Int)∧(q1 - 1:Int)<q1)] [] [0,4,8] (rt [] (C149 (zcg q2))))))
theorem zhe(x0 : yb)(h0 : x0.steps.length ≤ 1048576) : FnT Tryz.prog 210 [.agg (zag false x0)] (C149 (sexOf x0)) := by
 refine Fn.gp 19 Tryz.func210 (by kernel_rfl) (by kernel_rfl) vbv (A210 x0) (by kernel_rfl) fun R hR=>?_;refine rT ?_;refine rT ?_;refine cd (fun hc1 hR=>?_) (fun hc1 hR=>?_) hR
 ·refine rT ?_;exact oe C149 hR
 refine rg ⟨vbk,vaA,trivial,trivial⟩ ?_;exact oe C149 hR
def k210(x0:yb):Cl:=(hres (C149 (sexOf x0)),k1 (zhe x0))
def egoOf(x0:yb):Int:=bif((!decide (x0.ego=0))||(decide (((x0.steps.length:Nat):Int)=0))) then x0.ego else(bif(decide (((x0.steps.getD 0 wl).kind)=7)) then 2 else(bif(decide (((x0.steps.getD 0 wl).kind)=8)) then 1 else 0))
def A273(x0:yb):Ann:=let q2:=((x0.steps.length:Nat):Int);let q1:=(x0.steps.getD 0 wl).kind;r0 1 [1,2] [1] (.reg 1 [] [] [1,2,11] [1] [!(!decide (x0.ego=0)),!decide (x0.ego=0)] [] [] [1,1,1,6] (cn ((!decide (x0.ego=0))||(decide (q2=0))) (r0 1 [1,2] [1] (rt [] (C149 x0.ego))) (r1 1 [2,18] [] [pf (0≤(0:Int)∧(0:Int)<q2)] [0] (r0 1 [2,18,19] [] (cn (decide (q1=7)) (r0 1 [2] [] (rt [] (C149 2))) (r0 1 [2,21] [] (cn (decide (q1=8)) (r0 1 [2] [] (rt [] (C149 1))) (r0 1 [2] [] (rt [] (C149 0))))))))))
theorem zhh(x0 : yb)(h0 : x0.steps.length ≤ 1048576) : FnT Tryz.prog 273 [.agg (zag false x0)] (C149 (egoOf x0)) := by
 refine Fn.gp 23 Tryz.func273 (by kernel_rfl) (by kernel_rfl) vbv (A273 x0) (by kernel_rfl) fun R hR=>?_;refine rT ?_;refine rT ?_;refine cd (fun hc1 hR=>?_) (fun hc1 hR=>?_) hR
 ·refine rT ?_;exact oe C149 hR
 refine rg ⟨vaA,trivial⟩ ?_;refine rT ?_;refine cd (fun hc2 hR=>?_) (fun hc2 hR=>?_) hR
 ·refine rT ?_;exact oe C149 hR
 refine rT ?_;refine cd (fun hc3 hR=>?_) (fun hc3 hR=>?_) hR
 ·refine rT ?_;exact oe C149 hR
 refine rT ?_;exact oe C149 hR
def k273(x0:yb):Cl:=(hres (C149 (egoOf x0)),k1 (zhh x0))
def C43(R:yb):LV×List (Nat×BC):=(.agg [.int .i64 R.ego,.own 0],[(0,.arr 2 R.steps.length (rowOf (cStep true) R.steps))])
def zec(x0:yb):yb:=x0
def A43(x0:yb):Ann:=.reg 2 [] [(1004,apN 7 (cStep true) 16 x0.steps)] [2] [2,7] [] [] [] [0] (rt [(0,some 7)] (C43 x0))
theorem ze9(x0:yb)(h0:x0.steps.length≤1048576):FnT Tryz.prog 43 [.agg (zag false x0)] (C43 (zec x0)):=by refine Fn.gp 9 Tryz.func43 (by kernel_rfl) (by kernel_rfl) vaS (A43 x0) (by kernel_rfl) fun R hR=>?_;refine rg ⟨vbX,trivial⟩ ?_;exact oe C43 hR
def k43(x0:yb):Cl:=(hres (C43 (zec x0)),k1 (ze9 x0))
def zeu(x0:yb):Int:=bif(decide (((x0.steps.length:Nat):Int)=0)) then x0.ego else(l3Sex ((x0.steps.getD ((((x0.steps.length:Nat):Int) - 1).toNat) wl).kind))
def A139(x0:yb):Ann:=let q1:=((x0.steps.length:Nat):Int);let q2:=(x0.steps.getD ((q1 - 1).toNat) wl).kind;r0 1 [1,2] [1] (r0 1 [1,2,6] [1] (cn (decide (q1=0)) (r0 1 [1,2] [1] (rt [] (C149 x0.ego))) (.reg 1 [] [(9,k134 q2)] [2] [] [] [pf (inR .i64 (q1 - 1)),pf (0≤(q1 - 1:Int)∧(q1 - 1:Int)<q1)] [] [0,4,8] (rt [] (C149 (l3Sex q2))))))
theorem zk8(x0 : yb)(h0 : x0.steps.length ≤ 1048576) : FnT Tryz.prog 139 [.agg (zag false x0)] (C149 (zeu x0)) := by
 refine Fn.gp 19 Tryz.func139 (by kernel_rfl) (by kernel_rfl) vbv (A139 x0) (by kernel_rfl) fun R hR=>?_;refine rT ?_;refine rT ?_;refine cd (fun hc1 hR=>?_) (fun hc1 hR=>?_) hR
 ·refine rT ?_;exact oe C149 hR
 refine rg ⟨vbk,vaA,trivial,trivial⟩ ?_;exact oe C149 hR
def k139(x0:yb):Cl:=(hres (C149 (zeu x0)),k1 (zk8 x0))
def l3Ego(x0:yb):Int:=bif((decide (x0.ego=0))&&(decide (0<((x0.steps.length:Nat):Int)))) then(bif(decide (((x0.steps.getD 0 wl).kind)=7)) then 2 else(bif(decide (((x0.steps.getD 0 wl).kind)=8)) then 1 else x0.ego)) else x0.ego
def A269(x0:yb):Ann:=let q3:=((x0.steps.length:Nat):Int);let q2:=(x0.steps.getD 0 wl).kind;let q1:=r0 1 [2] [] (rt [] (C149 x0.ego));r0 1 [1,2] [1] (.reg 1 [] [] [1,2,11] [1] [decide (x0.ego=0)] [] [] [1,1,1,1] (cn ((decide (x0.ego=0))&&(decide (0<q3))) (r1 1 [1,2,16] [1] [pf (0≤(0:Int)∧(0:Int)<q3)] [0] (r0 1 [1,2,16,17] [1] (cn (decide (q2=7)) (r0 1 [1,2] [1] (rt [] (C149 2))) (r0 1 [1,2,19] [1] (cn (decide (q2=8)) (r0 1 [1,2] [1] (rt [] (C149 1))) q1))))) q1))
theorem zmu(x0 : yb)(h0 : x0.steps.length ≤ 1048576) : FnT Tryz.prog 269 [.agg (zag false x0)] (C149 (l3Ego x0)) := by
 refine Fn.gp 23 Tryz.func269 (by kernel_rfl) (by kernel_rfl) vbv (A269 x0) (by kernel_rfl) fun R hR=>?_;refine rT ?_;refine rT ?_;refine cd (fun hc1 hR=>?_) (fun hc1 hR=>?_) hR
 ·refine rg ⟨vax, trivial⟩ ?_;refine rT ?_;refine cd (fun hc2 hR => ?_) (fun hc2 hR => ?_) hR
  ·refine rT ?_;exact oe C149 hR
  refine rT ?_;refine cd (fun hc3 hR=>?_) (fun hc3 hR=>?_) hR
  ·refine rT ?_;exact oe C149 hR
  refine rT ?_;exact oe C149 hR
 refine rT ?_;exact oe C149 hR
def k269(x0:yb):Cl:=(hres (C149 (l3Ego x0)),k1 (zmu x0))
def zit(x0:yb):yb:=(yb.mk x0.ego (([]:List ya)++x0.steps))
def A136(x0:yb):Ann:=.reg 2 [] [(1002,bsC 5 (cStep true) ([]:List ya)),(1005,apC 8 (cStep true) 16 ([]:List ya) x0.steps)] [2] [2,8] [] [] [] [0,4] (rt [(0,some 8)] (C43 (yb.mk x0.ego (([]:List ya)++x0.steps))))
theorem zk4(x0:yb)(h0:x0.steps.length≤1048576):FnT Tryz.prog 136 [.agg (zag false x0)] (C43 (zit x0)):=by refine Fn.gp 10 Tryz.func136 (by kernel_rfl) (by kernel_rfl) vaS (A136 x0) (by kernel_rfl) fun R hR=>?_;refine rg ⟨trivial,vbP,trivial⟩ ?_;exact oe C43 hR
def k136(x0:yb):Cl:=(hres (C43 (zit x0)),k1 (zk4 x0))
structure ye where
  name:List UInt8
  sex:Int
  place:Int
  from0:List ya
  «to»:List ya
  deriving Inhabited
def cRule(fr:Bool)(x:ye):List LV:=cStr x.name++cInt .i64 x.sex++cInt .i64 x.place++cSl fr 2 (cStep fr) x.from0++cSl fr 2 (cStep fr) x.to

def zbc(x0:Int)(x1:Int):Int:=bif(decide (x0<x1)) then(-1) else(bif(decide (x1<x0)) then 1 else 0)
def A271(x0:Int)(x1:Int):Ann:=r0 1 [0,1,4] [] (r0 1 [0,1,4,5] [] (cn (decide (x0<x1)) (r0 1 [4] [] (rt [] (C149 (-1)))) (r0 1 [4,9] [] (cn (decide (x1<x0)) (r0 1 [4] [] (rt [] (C149 1))) (r0 1 [4] [] (rt [] (C149 0)))))))
theorem zgt(x0 : Int)(x1 : Int) : FnT Tryz.prog 271 [.int .i64 x0, .int .i64 x1] (C149 (zbc x0 x1)) := by
 refine Fn.gp 13 Tryz.func271 (by kernel_rfl) (by kernel_rfl) vbv (A271 x0 x1) (by kernel_rfl) fun R hR=>?_;refine rT ?_;refine rT ?_;refine cd (fun hc1 hR=>?_) (fun hc1 hR=>?_) hR
 ·refine rT ?_;exact oe C149 hR
 refine rT ?_;refine cd (fun hc2 hR=>?_) (fun hc2 hR=>?_) hR
 ·refine rT ?_;exact oe C149 hR
 refine rT ?_;exact oe C149 hR
def k271(x0:Int)(x1:Int):Cl:=(hres (C149 (zbc x0 x1)),k0 (zgt x0 x1))
def zcb(x0:List ya)(x1:List ya):Int:=loopW (fun (v1:Int) next=>bif((decide (v1<((x0.length:Nat):Int)))&&(decide (v1<((x1.length:Nat):Int)))) then(bif(!decide (((x0.getD v1.toNat wl).kind)=((x1.getD v1.toNat wl).kind))) then(zbc ((x0.getD v1.toNat wl).kind) ((x1.getD v1.toNat wl).kind)) else(bif(!decide (((x0.getD v1.toNat wl).age)=((x1.getD v1.toNat wl).age))) then(zbc ((x0.getD v1.toNat wl).age) ((x1.getD v1.toNat wl).age)) else(next (v1+1)))) else(zbc ((x0.length:Nat):Int) ((x1.length:Nat):Int))) (((x0.length:Int) - 0).toNat+1) 0
def zw7(v1:Int):Dl:=⟨[(5,.int .i64 v1)],[]⟩
def A209b1(x0:List ya)(x1:List ya)(v1:Int):Ann:=let q5:=((x0.length:Nat):Int);let q6:=((x1.length:Nat):Int);let q3:=x0.getD v1.toNat wl;let q4:=x1.getD v1.toNat wl;let q1:=(0≤(v1:Int)∧(v1:Int)<q5);let q2:=(0≤(v1:Int)∧(v1:Int)<q6);.reg 1 [] [] [0,1,4,5,15] [] [decide (v1<q5)] [] [] [1,1,1,1] (cn ((decide (v1<q5))&&(decide (v1<q6))) (r1 1 [0,1,4,5,18] [] [pf q1,pf q2] [0,4] (cn (!decide ((q3.kind)=(q4.kind))) (.reg 1 [] [(10,k271 (q3.kind) (q4.kind))] [0,1,4,5] [] [] [pf q1,pf q2] [] [0,4,8] (rt [] (C149 (zbc (q3.kind) (q4.kind))))) (r1 1 [0,1,4,5,41] [] [pf q1,pf q2] [0,4] (cn (!decide ((q3.age)=(q4.age))) (.reg 1 [] [(10,k271 (q3.age) (q4.age))] [0,1,4,5] [] [] [pf q1,pf q2] [] [0,4,8] (rt [] (C149 (zbc (q3.age) (q4.age))))) (r1 1 [0,1,4,5] [] [pf (inR .i64 (v1+1))] [0] (.next 0 [] (zw7 (v1+1)))))))) (.reg 1 [] [(4,k271 q5 q6)] [4] [] [] [] [] [0] (rt [] (C149 (zbc q5 q6)))))
def A209(x0:List ya)(x1:List ya):Ann:=r0 1 [0,1,4] [] (r0 1 [0,1,4,5] [] (.loop Int (zw7) [] [] [] (zw7 0) (A209b1 x0 x1)))
theorem zgd(x0 : List ya)(x1 : List ya)(h0 : x0.length ≤ 1048576)(h1 : x1.length ≤ 1048576) : FnT Tryz.prog 209 [.ro false 2 x0.length (rowOf (cStep false) x0), .ro false 2 x1.length (rowOf (cStep false) x1)] (C149 (zcb x0 x1)) := by
 refine Fn.gp 69 Tryz.func209 (by kernel_rfl) (by kernel_rfl) vbv (A209 x0 x1) (by kernel_rfl) fun R hR=>?_;refine rT ?_;refine rT ?_;refine lW (fun v=>0≤v∧v≤x0.length) (fun v=>((x0.length:Int) - v).toNat) vbN (oF _) rfl (fun m1 v1 F1 hI1 hM1 hR hK1=>?_) hR;refine rT ?_;refine cd (fun hc1 hR=>?_) (fun hc1 hR=>?_) hR
 ·refine rg ⟨va3, va3, trivial⟩ ?_;refine cd (fun hc2 hR => ?_) (fun hc2 hR => ?_) hR
  ·refine rg ⟨va3, va3, trivial, trivial⟩ ?_;exact oe C149 hR
  refine rg ⟨va5,va5,trivial⟩ ?_;refine cd (fun hc3 hR=>?_) (fun hc3 hR=>?_) hR
  ·refine rg ⟨va3, va3, trivial, trivial⟩ ?_;exact oe C149 hR
  refine rg ⟨vbk,trivial⟩ ?_;exact hK1 (v1+1) va5 va5 hR
 refine rg ⟨trivial,trivial⟩ ?_;exact oe C149 hR
def k209(x0:List ya)(x1:List ya):Cl:=(hres (C149 (zcb x0 x1)),k2 (zgd x0 x1))
def zbr(x0:List ya)(x1:List ya):Bool:=bif(!decide (((x0.length:Nat):Int)=((x1.length:Nat):Int))) then(decide (((x0.length:Nat):Int)<((x1.length:Nat):Int))) else(loopN (fun i1 (v1:Unit) next=>bif(!decide (((x0.getD i1 wl).kind)=((x1.getD i1 wl).kind))) then(decide (((x0.getD i1 wl).kind)<((x1.getD i1 wl).kind))) else(bif(!decide (((x0.getD i1 wl).age)=((x1.getD i1 wl).age))) then(decide (((x0.getD i1 wl).age)<((x1.getD i1 wl).age))) else(next ()))) (fun (v1:Unit)=>false) x0.length 0 ())
def zx9(i1:Nat)(v1:Unit):Dl:=⟨[(18,.int .i64 (i1:Int))],[]⟩
def A138b1(x0:List ya)(x1:List ya)(i1:Nat)(v1:Unit):Ann:=let q4:=x0.getD i1 wl;let q5:=x1.getD i1 wl;let q1:=(((i1:Nat):Int):Int);let q2:=(0≤q1∧q1<((x0.length:Nat):Int));let q3:=(0≤q1∧q1<((x1.length:Nat):Int));r0 1 [0,1,4,17,18,19] [] (cn (decide (((i1:Nat):Int)<((x0.length:Nat):Int))) (r0 1 [0,1,4,5,17,18] [] (r1 1 [0,1,4,5,17,18,31] [] [pf q2,pf q3] [0,4] (cn (!decide ((q4.kind)=(q5.kind))) (r1 1 [0,1,4,5,17,18] [] [pf q2,pf q3] [0,4] (rt [] (C70 (decide ((q4.kind)<(q5.kind)))))) (r1 1 [0,1,4,5,17,18,53] [] [pf q2,pf q3] [0,4] (cn (!decide ((q4.age)=(q5.age))) (r1 1 [0,1,4,17,18] [] [pf q2,pf q3] [0,4] (rt [] (C70 (decide ((q4.age)<(q5.age)))))) (r1 1 [0,1,4,17,18] [] [pf (inR .i64 (((i1:Nat):Int)+1))] [0] (.next 0 [] (zx9 (i1+1) ())))))))) (r0 1 [4] [] (rt [] (C70 false))))
def A138(x0:List ya)(x1:List ya):Ann:=let q1:=((x0.length:Nat):Int);let q2:=((x1.length:Nat):Int);r0 1 [0,1,4] [] (r0 1 [0,1,4,10] [] (cn (!decide (q1=q2)) (r0 1 [0,1,4] [] (rt [] (C70 (decide (q1<q2))))) (r0 1 [0,1,4,17,18] [] (lp (zx9) [] [] [] (zx9 0 ()) (A138b1 x0 x1)))))
theorem zi2(x0 : List ya)(x1 : List ya)(h0 : x0.length ≤ 1048576)(h1 : x1.length ≤ 1048576) : FnT Tryz.prog 138 [.ro false 2 x0.length (rowOf (cStep false) x0), .ro false 2 x1.length (rowOf (cStep false) x1)] (C70 (zbr x0 x1)) := by
 refine Fn.gp 66 Tryz.func138 (by kernel_rfl) (by kernel_rfl) vby (A138 x0 x1) (by kernel_rfl) fun R hR=>?_;refine rT ?_;refine rT ?_;refine cd (fun hc1 hR=>?_) (fun hc1 hR=>?_) hR
 ·refine rT ?_;exact oe C70 hR
 refine rT ?_;refine lN (fun i v=>True) vbV rfl (fun i1 v1 F1 hn1 hI1 hR hK1=>?_) hR;refine rT ?_;refine⟨fun hc2=>?_,fun hc2=>?_⟩
 ·have hii1 : i1 < x0.length := vbs
  replace hR:=zaq hR hii1;refine rT ?_;refine rg ⟨vbN,vaz,trivial⟩ ?_;refine cd (fun hc3 hR=>?_) (fun hc3 hR=>?_) hR
  ·refine rg ⟨vbL, vav, trivial⟩ ?_;exact oe C70 hR
  refine rg ⟨vbN,vaz,trivial⟩ ?_;refine cd (fun hc4 hR=>?_) (fun hc4 hR=>?_) hR
  ·refine rg ⟨vbL, vav, trivial⟩ ?_;exact oe C70 hR
  refine rg ⟨vbk,trivial⟩ ?_;exact hK1 () hii1 vbV hR
 obtain rfl:i1=x0.length:=by have:=oz hc2;omega
 replace hR:=zau hR (oP _);refine rT ?_;exact oe C70 hR
def k138(x0:List ya)(x1:List ya):Cl:=(hres (C70 (zbr x0 x1)),k2 (zi2 x0 x1))
def zbh(x0:ye):Bool:=bif(((((((!(zbv x0.name))||(decide (x0.sex<0)))||(decide (2<x0.sex)))||(decide (x0.place<0)))||(decide (2<x0.place)))||(decide (((x0.from0.length:Nat):Int)<1)))||(decide (4<((x0.from0.length:Nat):Int)))) then false else(bif((decide (((x0.from0.length:Nat):Int)<((x0.to.length:Nat):Int)))||((decide (((x0.to.length:Nat):Int)=((x0.from0.length:Nat):Int)))&&(decide (0≤(zcb x0.to x0.from0))))) then false else(loopW (fun (v1:Bool×Int) next=>bif(decide (v1.2≤2)) then(bif(((!decide (x0.sex=0))&&(!decide (x0.sex=v1.2)))||(!(zak (yb.mk v1.2 x0.from0)))) then(next (v1.1,v1.2+1)) else(bif((!(zak (yb.mk v1.2 x0.to)))||(!decide ((sexOf (yb.mk v1.2 x0.from0))=(sexOf (yb.mk v1.2 x0.to))))) then false else(next (true,v1.2+1)))) else v1.1) ((3 - (1:Int)).toNat+1) (false,1)))
def zsp(v1:Bool×Int):Dl:=⟨[(3,.bool v1.1),(4,.int .i64 v1.2)],[]⟩
def A147b1(x0:ye)(v1:Bool×Int):Ann:=let q1:=yb.mk v1.2 x0.to;let q3:=yb.mk v1.2 x0.from0;let q4:=zak q1;let q2:=(!decide (x0.sex=0))&&(!decide (x0.sex=v1.2));r0 1 [1,2,3,4,68] [1] (cn (decide (v1.2≤2)) (r0 1 [1,2,3,4,5,6] [1,5,6] (.reg 1 [] [(11,cg (!q2) (k95 q3))] [1,2,3,4,5,6,92] [1,5,6] [!decide (x0.sex=0),!q2,(!decide (x0.sex=0))&&(!decide (x0.sex=v1.2))] [] [] [1,1,1,1,5,0,5,10] (cn (q2||(!(zak q3))) (r1 1 [1,2,3,4] [1] [pf (inR .i64 (v1.2+1))] [0] (.next 0 [] (zsp (v1.1,v1.2+1)))) (.reg 1 [] [(1,k95 q1),(5,cg (!(!q4)) (k210 q3)),(7,cg (!(!q4)) (k210 q1))] [1,2,3,4,102] [1] [!(!q4),!q4] [] [] [0,1,4,1,8,1,1,6] (cn ((!q4)||(!decide ((sexOf q3)=(sexOf q1)))) (r0 1 [1,2,3,4] [1] (rt [] (C70 false))) (r0 1 [1,2,3,4] [1] (r1 1 [1,2,3,4] [1] [pf (inR .i64 (v1.2+1))] [0] (.next 0 [] (zsp (true,v1.2+1)))))))))) (r0 1 [2] [] (rt [] (C70 v1.1))))
def A147(x0:ye):Ann:=let q6:=zbv x0.name;let q9:=decide (x0.sex<0);let q8:=decide (x0.place<0);let q3:=((x0.to.length:Nat):Int);let q2:=((x0.from0.length:Nat):Int);let q10:=decide (q2<1);let q5:=decide (q2<q3);let q7:=decide (q3=q2);let q1:=((!q6)||q9)||(decide (2<x0.sex));let q4:=(q1||q8)||(decide (2<x0.place));r0 1 [1,2] [1] (.reg 1 [] [(2,k89 x0.name)] [1,2,42] [1] [!(!q6),!q6,!((!q6)||q9),(!q6)||q9,!q1,((!q6)||q9)||(decide (2<x0.sex)),!(q1||q8),q1||q8,!q4,(q1||q8)||(decide (2<x0.place)),!(q4||q10),q4||q10] [] [] [0,1,1,6,9,9,14,17,17,22,25,25,30,33,33,33,38,41,41,41,46] (cn ((q4||q10)||(decide (4<q2))) (r0 1 [1,2] [1] (rt [] (C70 false))) (.reg 1 [] [(20,cg ((!q5)&&q7) (k209 x0.to x0.from0))] [1,2,66] [1] [!q5,(!q5)&&q7,decide (q2<q3)] [gt (!q5) (gt q7 (pf (((!q5)&&q7)=true)))] [] [1,1,1,1,1,1,1,5,5,5,5,4,5,1,0,10] (cn (q5||(q7&&(decide (0≤(zcb x0.to x0.from0))))) (r0 1 [1,2] [1] (rt [] (C70 false))) (r0 1 [1,2,3] [1] (r0 1 [1,2,3,4] [1] (.loop (Bool×Int) (zsp) [] [] [] (zsp (false,1)) (A147b1 x0))))))))
theorem zlc(x0 : ye)(hr : x0.name.length ≤ 1048576 ∧ x0.from0.length ≤ 1048576 ∧ x0.to.length ≤ 1048576) : FnT Tryz.prog 147 [.agg (cRule false x0)] (C70 (zbh x0)) := by
 refine Fn.gp 104 Tryz.func147 (by kernel_rfl) (by kernel_rfl) vby (A147 x0) (by kernel_rfl) fun R hR=>?_;refine rT ?_;refine rg ⟨vbN,trivial⟩ ?_;refine cd (fun hc1 hR=>?_) (fun hc1 hR=>?_) hR
 ·refine rT ?_;exact oe C70 hR
 refine rg ⟨vaA,fun hg0=>⟨vbN,vbN⟩,trivial⟩ ?_;refine cd (fun hc2 hR=>?_) (fun hc2 hR=>?_) hR
 ·refine rT ?_;exact oe C70 hR
 refine rT ?_;refine rT ?_;refine lW (fun v=>1≤v.2∧v.2≤3) (fun v=>(3 - (v.2:Int)).toNat) vbV (oF _) rfl (fun m1 v1 F1 hI1 hM1 hR hK1=>?_) hR;refine rT ?_;refine cd (fun hc3 hR=>?_) (fun hc3 hR=>?_) hR
 ·refine rT ?_;refine rg ⟨fun hg0 => by ( intros; simp only [inR]; omega), trivial⟩ ?_;refine cd (fun hc4 hR => ?_) (fun hc4 hR => ?_) hR
  ·refine rg ⟨vbe, trivial⟩ ?_;exact hK1 (v1.1, v1.2 + 1) vav vav hR
  refine rg ⟨vbk,fun hg0=>by( intros;simp only[inR];omega),fun hg0=>by( intros;simp only[inR];omega),trivial⟩ ?_;refine cd (fun hc5 hR=>?_) (fun hc5 hR=>?_) hR
  ·refine rT ?_;exact oe C70 hR
  refine rT ?_;refine rg ⟨vbk,trivial⟩ ?_;exact hK1 (true,v1.2+1) vaz vaz hR
 refine rT ?_;exact oe C70 hR
def k147(x0:ye):Cl:=(hres (C70 (zbh x0)),k1 (zlc x0))
def zaz(x0:ye):Bool:=bif(((!(zan x0.name))||(!(l1In x0.sex 0 2)))||(!(l1In x0.place 0 2))) then false else(bif((!(l1In ((x0.from0.length:Nat):Int) 1 4))||(!(zbr x0.to x0.from0))) then false else(loopW (fun (v1:Bool×Int) next=>bif(decide (v1.2≤2)) then(bif(((!decide (x0.sex=0))&&(!decide (x0.sex=v1.2)))||(!(zad (yb.mk v1.2 x0.from0)))) then(next (v1.1,v1.2+1)) else(bif((!(zad (yb.mk v1.2 x0.to)))||(!decide ((zeu (yb.mk v1.2 x0.to))=(zeu (yb.mk v1.2 x0.from0))))) then false else(next (true,v1.2+1)))) else v1.1) ((3 - (1:Int)).toNat+1) (false,1)))
def D76b1(v1:Bool×Int):Dl:=⟨[(3,.bool v1.1),(4,.int .i64 v1.2)],[]⟩
def A76b1(x0:ye)(v1:Bool×Int):Ann:=let q1:=yb.mk v1.2 x0.to;let q3:=yb.mk v1.2 x0.from0;let q4:=zad q1;let q2:=(!decide (x0.sex=0))&&(!decide (x0.sex=v1.2));r0 1 [1,2,3,4,37] [1] (cn (decide (v1.2≤2)) (r0 2 [1,2,3,4,5,6] [1,5,6] (.reg 1 [] [(11,cg (!q2) (k73 q3))] [1,2,3,4,5,6,61] [1,5,6] [!decide (x0.sex=0),!q2,(!decide (x0.sex=0))&&(!decide (x0.sex=v1.2))] [] [] [1,1,1,1,5,0,5,10] (cn (q2||(!(zad q3))) (r1 1 [1,2,3,4] [1] [pf (inR .i64 (v1.2+1))] [0] (.next 0 [] (D76b1 (v1.1,v1.2+1)))) (.reg 2 [] [(1001,k73 q1),(1005,cg (!(!q4)) (k139 q1)),(1007,cg (!(!q4)) (k139 q3))] [1,2,3,4,71] [1] [!(!q4),!q4] [] [] [0,1,4,1,8,1,1,6] (cn ((!q4)||(!decide ((zeu q1)=(zeu q3)))) (r0 1 [1,2,3,4] [1] (rt [] (C70 false))) (r1 1 [1,2,3,4] [1] [pf (inR .i64 (v1.2+1))] [0] (.next 0 [] (D76b1 (true,v1.2+1))))))))) (r0 1 [2] [] (rt [] (C70 v1.1))))
def A76(x0:ye):Ann:=let q2:=zan x0.name;let q1:=(l1In ((x0.from0.length:Nat):Int) 1 4);let q3:=(!q2)||(!(l1In x0.sex 0 2));r0 1 [1,2] [1] (.reg 1 [] [(2,k72 x0.name),(7,cg (!(!q2)) (k70 x0.sex 0 2)),(13,cg (!q3) (k70 x0.place 0 2))] [1,2,22] [1] [!(!q2),!q2,!q3,(!q2)||(!(l1In x0.sex 0 2))] [] [] [0,1,1,4,1,6,9,9,8,9,14] (cn (q3||(!(l1In x0.place 0 2))) (r0 1 [1,2] [1] (rt [] (C70 false))) (.reg 1 [] [(3,k70 ((x0.from0.length:Nat):Int) 1 4),(10,cg (!(!q1)) (k138 x0.to x0.from0))] [1,2,35] [1] [!(!q1),!q1] [] [] [0,1,1,1,1,4,1,6] (cn ((!q1)||(!(zbr x0.to x0.from0))) (r0 1 [1,2] [1] (rt [] (C70 false))) (r0 1 [1,2,3] [1] (r0 1 [1,2,3,4] [1] (.loop (Bool×Int) (D76b1) [] [] [] (D76b1 (false,1)) (A76b1 x0))))))))
theorem zk9(x0 : ye)(hr : x0.name.length ≤ 1048576 ∧ x0.from0.length ≤ 1048576 ∧ x0.to.length ≤ 1048576) : FnT Tryz.prog 76 [.agg (cRule false x0)] (C70 (zaz x0)) := by
 refine Fn.gp 73 Tryz.func76 (by kernel_rfl) (by kernel_rfl) vby (A76 x0) (by kernel_rfl) fun R hR=>?_;refine rT ?_;refine rg ⟨vbN,fun hg0=>trivial,fun hg0=>trivial,trivial⟩ ?_;refine cd (fun hc1 hR=>?_) (fun hc1 hR=>?_) hR
 ·refine rT ?_;exact oe C70 hR
 refine rg ⟨trivial,fun hg0=>⟨vbN,vbN⟩,trivial⟩ ?_;refine cd (fun hc2 hR=>?_) (fun hc2 hR=>?_) hR
 ·refine rT ?_;exact oe C70 hR
 refine rT ?_;refine rT ?_;refine lW (fun v=>1≤v.2∧v.2≤3) (fun v=>(3 - (v.2:Int)).toNat) vbV (oF _) rfl (fun m1 v1 F1 hI1 hM1 hR hK1=>?_) hR;refine rT ?_;refine cd (fun hc3 hR=>?_) (fun hc3 hR=>?_) hR
 ·refine rT ?_;refine rg ⟨fun hg0 => by ( intros; simp only [inR]; omega), trivial⟩ ?_;refine cd (fun hc4 hR => ?_) (fun hc4 hR => ?_) hR
  ·refine rg ⟨vbe, trivial⟩ ?_;exact hK1 (v1.1, v1.2 + 1) vav vav hR
  refine rg ⟨vbk,fun hg0=>by( intros;simp only[inR];omega),fun hg0=>by( intros;simp only[inR];omega),trivial⟩ ?_;refine cd (fun hc5 hR=>?_) (fun hc5 hR=>?_) hR
  ·refine rT ?_;exact oe C70 hR
  refine rg ⟨vbk,trivial⟩ ?_;exact hK1 (true,v1.2+1) vaz vaz hR
 refine rT ?_;exact oe C70 hR
def k76(x0:ye):Cl:=(hres (C70 (zaz x0)),k1 (zk9 x0))
def zg0(x0:List ye):Bool:=bif(decide (12<((x0.length:Nat):Int))) then false else(loopN (fun i1 (v1:(KV→Option Bool)) next=>bif((!(zbh (x0.getD i1 wl)))||((v1 (KV.s ((x0.getD i1 wl).name))).getD false)) then false else(next (mset v1 (KV.s ((x0.getD i1 wl).name)) true))) (fun (v1:(KV→Option Bool))=>true) x0.length 0 (fun _=>none))
def D94b1(i1:Nat)(v1:(KV→Option Bool)):Dl:=⟨[(12,.int .i64 (i1:Int)),(3,.mp 20003)],[(20003,.mp .str (.b v1))]⟩
def A94b1(x0:List ye)(i1:Nat)(v1:(KV→Option Bool)):Ann:=let q2:=((i1:Nat):Int);let q1:=x0.getD i1 wl;let q4:=((x0.length:Nat):Int);let q3:=zbh q1;r0 1 [2,3,10,11,12,13] [20003] (cn (decide (q2<q4)) (r1 1 [2,3,5,10,11,12] [5,20003] [pf (0≤(q2:Int)∧(q2:Int)<q4)] [0] (.reg 1 [] [(1,k147 q1)] [2,3,5,10,11,12,24] [5,20003] [!(!q3),!q3] [] [] [0,1,1,1,6] (cn ((!q3)||((v1 (KV.s (q1.name))).getD false)) (r0 1 [2,3,5,10,11,12] [5,20003] (rt [] (C70 false))) (r0 1 [2,3,10,11,12] [20003] (r1 1 [2,3,10,11,12] [20003] [pf (inR .i64 (q2+1))] [0] (.next 0 [(20003,some 20003)] (D94b1 (i1+1) (mset v1 (KV.s (q1.name)) true)))))))) (r0 1 [2] [] (rt [] (C70 true))))
def A94(x0:List ye):Ann:=r0 1 [0,2] [] (r0 1 [0,2,8] [] (cn (decide (12<((x0.length:Nat):Int))) (r0 1 [0,2] [] (rt [] (C70 false))) (r0 1 [0,2,3] [9] (r0 1 [2,3,10,11,12] [9] (lp (D94b1) [] [9] [(20003,some 9)] (D94b1 0 (fun _=>none)) (A94b1 x0))))))
theorem zi4(x0 : List ye)(hx : x0.length ≤ 1048576)(hr : ∀r ∈ x0, r.name.length ≤ 1048576 ∧ r.from0.length ≤ 1048576 ∧ r.to.length ≤ 1048576) : FnT Tryz.prog 94 [.ro false 5 x0.length (rowOf (cRule false) x0)] (C70 (zg0 x0)) := by
 refine Fn.gp 29 Tryz.func94 (by kernel_rfl) (by kernel_rfl) vby (A94 x0) (by kernel_rfl) fun R hR=>?_;refine rT ?_;refine rT ?_;refine cd (fun hc1 hR=>?_) (fun hc1 hR=>?_) hR
 ·refine rT ?_;exact oe C70 hR
 refine rT ?_;refine rT ?_;refine lN (fun i v=>True) vbV rfl (fun i1 v1 F1 hn1 hI1 hR hK1=>?_) hR;refine rT ?_;refine⟨fun hc2=>?_,fun hc2=>?_⟩
 ·have hii1 : i1 < x0.length := vbs
  replace hR:=zaq hR hii1;refine rg ⟨vbN,trivial⟩ ?_;refine rg ⟨by(have h9:=hr _ (zat (d:=wl) hii1);omega),trivial⟩ ?_;refine cd (fun hc3 hR=>?_) (fun hc3 hR=>?_) hR
  ·refine rT ?_;exact oe C70 hR
  refine rT ?_;refine rg ⟨vbk,trivial⟩ ?_;exact hK1 (mset v1 (KV.s ((x0.getD i1 wl).name)) true) hii1 vbV hR
 obtain rfl:i1=x0.length:=by have:=oz hc2;omega
 replace hR:=zau hR (oP _);refine rT ?_;exact oe C70 hR
def k94(x0:List ye):Cl:=(hres (C70 (zg0 x0)),k2 (zi4 x0))
def zb6(x0:List ye):Bool:=bif(decide (12<((x0.length:Nat):Int))) then false else(loopN (fun i1 (v1:Unit) nx1=>loopN (fun i2 (v2:Unit) next=>bif(((x0.getD i2 wl).name)==((x0.getD i1 wl).name)) then false else(next ())) (fun (v2:Unit)=>bif(!(zaz (x0.getD i1 wl))) then false else(nx1 ())) i1 0 ()) (fun (v1:Unit)=>true) x0.length 0 ())
def D71b1(i1:Nat)(v1:Unit):Dl:=⟨[(11,.int .i64 (i1:Int))],[]⟩
def D71b2(i2:Nat)(v2:Unit):Dl:=⟨[(5,.int .i64 (i2:Int))],[]⟩
def A71b2(x0:List ye)(i1:Nat)(i2:Nat)(v2:Unit):Ann:=let q1:=((i2:Nat):Int);let q2:=x0.getD i1 wl;r0 1 [0,2,3,4,5,9,10,11,18] [4] (cn (decide (q1<((i1:Nat):Int))) (r1 1 [0,2,3,4,5,9,10,11,28] [4] [pf (0≤(q1:Int)∧(q1:Int)<((x0.length:Nat):Int))] [0] (cn (((x0.getD i2 wl).name)==(q2.name)) (r0 1 [0,2,3,4,5,9,10,11] [4] (rt [] (C70 false))) (r1 1 [0,2,3,4,5,9,10,11] [4] [pf (inR .i64 (q1+1))] [0] (.next 0 [] (D71b2 (i2+1) ()))))) (.reg 1 [] [(1,k76 q2)] [0,2,9,10,11,31] [] [] [] [] [0] (cn (!(zaz q2)) (r0 1 [0,2,9,10,11] [] (rt [] (C70 false))) (r1 1 [0,2,9,10,11] [] [pf (inR .i64 (((i1:Nat):Int)+1))] [0] (.next 1 [] (D71b1 (i1+1) ()))))))
def A71b1(x0:List ye)(i1:Nat)(v1:Unit):Ann:=let q1:=((i1:Nat):Int);let q2:=((x0.length:Nat):Int);r0 1 [0,2,9,10,11,12] [] (cn (decide (q1<q2)) (r1 1 [0,2,3,4,9,10,11] [4] [pf (0≤(q1:Int)∧(q1:Int)<q2)] [0] (r0 1 [0,2,3,4,5,9,10,11] [4] (lp (D71b2) [] [] [] (D71b2 0 ()) (A71b2 x0 i1)))) (r0 1 [2] [] (rt [] (C70 true))))
def A71(x0:List ye):Ann:=r0 1 [0,2] [] (r0 1 [0,2,8] [] (cn (decide (12<((x0.length:Nat):Int))) (r0 1 [0,2] [] (rt [] (C70 false))) (r0 1 [0,2,9,10,11] [] (lp (D71b1) [] [] [] (D71b1 0 ()) (A71b1 x0)))))
theorem zde(x0 : List ye)(hx : x0.length ≤ 1048576)(hr : ∀r ∈ x0, r.name.length ≤ 1048576 ∧ r.from0.length ≤ 1048576 ∧ r.to.length ≤ 1048576) : FnT Tryz.prog 71 [.ro false 5 x0.length (rowOf (cRule false) x0)] (C70 (zb6 x0)) := by
 refine Fn.gp 33 Tryz.func71 (by kernel_rfl) (by kernel_rfl) vby (A71 x0) (by kernel_rfl) fun R hR=>?_;refine rT ?_;refine rT ?_;refine cd (fun hc1 hR=>?_) (fun hc1 hR=>?_) hR
 ·refine rT ?_;exact oe C70 hR
 refine rT ?_;refine lN (fun i v=>True) vbV rfl (fun i1 v1 F1 hn1 hI1 hR hK1=>?_) hR;refine rT ?_;refine⟨fun hc2=>?_,fun hc2=>?_⟩
 ·have hii1 : i1 < x0.length := vbs
  replace hR:=zaq hR hii1;refine rg ⟨vbN,trivial⟩ ?_;refine rT ?_;refine lN (fun i v=>True) vbV rfl (fun i2 v2 F2 hn2 hI2 hR hK2=>?_) hR;refine rT ?_;refine⟨fun hc3=>?_,fun hc3=>?_⟩
  ·have hii2 : i2 < i1 := (by have := ol hc3; omega);replace hR := zaq hR hii2;refine rg ⟨vbL, trivial⟩ ?_;refine cd (fun hc4 hR => ?_) (fun hc4 hR => ?_) hR
   ·refine rT ?_;exact oe C70 hR
   refine rg ⟨vbk,trivial⟩ ?_;exact hK2 () hii2 vbV hR
  obtain rfl:i1=i2:=by have:=oz hc3;omega
  replace hR:=zau hR (oP _);refine rg ⟨by(have h9:=hr _ (zat (d:=wl) hii1);omega),trivial⟩ ?_;refine cd (fun hc5 hR=>?_) (fun hc5 hR=>?_) hR
  ·refine rT ?_;exact oe C70 hR
  refine rg ⟨vbk,trivial⟩ ?_;exact hK1 () hii1 vbV hR
 obtain rfl:i1=x0.length:=by have:=oz hc2;omega
 replace hR:=zau hR (oP _);refine rT ?_;exact oe C70 hR
def k71(x0:List ye):Cl:=(hres (C70 (zb6 x0)),k2 (zde x0))
def zb3(x0:yb)(x1:Int):Int:=bif(decide (x1=0)) then(egoOf x0) else(zcg ((x0.steps.getD ((x1 - 1).toNat) wl).kind))
def A272(x0:yb)(x1:Int):Ann:=let q1:=(x0.steps.getD ((x1 - 1).toNat) wl).kind;r0 1 [1,2,4] [2] (r0 1 [1,2,4,6] [2] (cn (decide (x1=0)) (.reg 1 [] [(1,k273 x0)] [1,2,4] [2] [] [] [] [0] (rt [] (C149 (egoOf x0)))) (.reg 1 [] [(7,k149 q1)] [4] [] [] [pf (inR .i64 (x1 - 1)),pf (0≤(x1 - 1:Int)∧(x1 - 1:Int)<((x0.steps.length:Nat):Int))] [] [0,4,8] (rt [] (C149 (zcg q1))))))
theorem zia(x0 : yb)(x1 : Int)(h0 : x0.steps.length ≤ 1048576)(hi : 0 ≤ x1 ∧ x1 ≤ x0.steps.length) : FnT Tryz.prog 272 [.agg (zag false x0), .int .i64 x1] (C149 (zb3 x0 x1)) := by
 refine Fn.gp 17 Tryz.func272 (by kernel_rfl) (by kernel_rfl) vbv (A272 x0 x1) (by kernel_rfl) fun R hR=>?_;refine rT ?_;refine rT ?_;refine cd (fun hc1 hR=>?_) (fun hc1 hR=>?_) hR
 ·refine rg ⟨vbV, trivial⟩ ?_;exact oe C149 hR
 refine rg ⟨vbk,by(simp only[oa] at hc1;(try simp only[inR]);omega),trivial,trivial⟩ ?_;exact oe C149 hR
def k272(x0:yb)(x1:Int):Cl:=(hres (C149 (zb3 x0 x1)),k2 (zia x0 x1))
def ziw(x0:ye)(x1:yb)(x2:Int):Bool:=bif((decide (x2<0))||(decide ((((x1.steps.length:Nat):Int) - ((x0.from0.length:Nat):Int))<x2))) then false else(loopN (fun i1 (v1:Unit) next=>bif((!decide (((x1.steps.getD ((x2+((i1:Nat):Int)).toNat) wl).kind)=((x0.from0.getD i1 wl).kind)))||((!decide (((x0.from0.getD i1 wl).age)=0))&&(!decide (((x0.from0.getD i1 wl).age)=((x1.steps.getD ((x2+((i1:Nat):Int)).toNat) wl).age))))) then false else(next ())) (fun (v1:Unit)=>bif((!decide (x0.sex=0))&&(!decide (x0.sex=(zb3 x1 x2)))) then false else(((!decide (x0.place=1))||(decide (x2=0)))&&((!decide (x0.place=2))||(decide ((x2+((x0.from0.length:Nat):Int))=((x1.steps.length:Nat):Int)))))) x0.from0.length 0 ())
def zw6(i1:Nat)(v1:Unit):Dl:=⟨[(28,.int .i64 (i1:Int))],[]⟩
def A211b1(x0:ye)(x1:yb)(x2:Int)(i1:Nat)(v1:Unit):Ann:=let q9:=x0.place=1;let q4:=((i1:Nat):Int);let q6:=!decide (x0.place=2);let q5:=((x0.from0.length:Nat):Int);let q8:=((x1.steps.length:Nat):Int);let q2:=(!decide q9)||(decide (x2=0));let q3:=!decide (((x0.from0.getD i1 wl).age)=0);let q1:=((x1.steps.getD ((x2+q4).toNat) wl).kind)=((x0.from0.getD i1 wl).kind);let q7:=!decide q1;r0 1 [2,3,4,6,7,26,27,28,29] [3,4] (cn (decide (q4<q5)) (.reg 3 [] [] [2,3,4,6,7,26,27,28,56] [3,4] [!q7,(!q7)&&q3,!decide q1] [pf (0≤(q4:Int)∧(q4:Int)<q5),pf (inR .i64 (x2+q4)),pf (0≤(x2+q4:Int)∧(x2+q4:Int)<q8),gt (!q7) (gt q3 (pf (((!q7)&&q3)=true)))] [] [0,4,8,1,1,1,5,5,5,5,1,12,10] (cn (q7||(q3&&(!decide (((x0.from0.getD i1 wl).age)=((x1.steps.getD ((x2+q4).toNat) wl).age))))) (r0 1 [2,3,4,6,7,26,27,28] [3,4] (rt [] (C70 false))) (r1 1 [2,3,4,6,7,26,27,28] [3,4] [pf (inR .i64 (q4+1))] [0] (.next 0 [] (zw6 (i1+1) ()))))) (.reg 1 [] [(8,cg (!decide (x0.sex=0)) (k272 x1 x2))] [2,3,4,6,7,68] [3,4] [!decide (x0.sex=0)] [] [] [1,1,1,0,1,1,1] (cn ((!decide (x0.sex=0))&&(!decide (x0.sex=(zb3 x1 x2)))) (r0 1 [2,3,4,6,7] [3,4] (rt [] (C70 false))) (.reg 1 [] [] [6] [] [!(!decide q9),!decide q9,(!decide q9)||(decide (x2=0)),q2&&(!q6)] [gt (q2&&(!q6)) (pf (inR .i64 (x2+q5))),gt q2 (gf q6 (pf ((q2&&(!q6))=true)))] [] [1,6,9,9,9,13,13,0,13,13,13,13,9,4,9] (rt [] (C70 (q2&&(q6||(decide ((x2+q5)=q8))))))))))
def A211(x0:ye)(x1:yb)(x2:Int):Ann:=let q2:=decide (x2<0);let q1:=(((x1.steps.length:Nat):Int) - ((x0.from0.length:Nat):Int));r0 2 [2,3,4,6,7] [3,4] (.reg 1 [] [] [2,3,4,6,7,24] [3,4] [!q2,decide (x2<0)] [gt (!q2) (pf (inR .i64 q1))] [] [1,1,1,1,0,1,1,6] (cn (q2||(decide (q1<x2))) (r0 1 [2,3,4,6,7] [3,4] (rt [] (C70 false))) (r0 1 [2,3,4,6,7,26,27,28] [3,4] (lp (zw6) [] [] [] (zw6 0 ()) (A211b1 x0 x1 x2)))))
theorem zla(x0 : ye)(x1 : yb)(x2 : Int)(hr : x0.name.length ≤ 1048576 ∧ x0.from0.length ≤ 1048576 ∧ x0.to.length ≤ 1048576)(ht : x1.steps.length ≤ 1048576) : FnT Tryz.prog 211 [.agg (cRule false x0), .agg (zag false x1), .int .i64 x2] (C70 (ziw x0 x1 x2)) := by
 refine Fn.gp 90 Tryz.func211 (by kernel_rfl) (by kernel_rfl) vby (A211 x0 x1 x2) (by kernel_rfl) fun R hR=>?_;refine rT ?_;refine rg ⟨vbk,trivial⟩ ?_;refine cd (fun hc1 hR=>?_) (fun hc1 hR=>?_) hR
 ·refine rT ?_;exact oe C70 hR
 refine rT ?_;refine lN (fun i v=>True) vbV rfl (fun i1 v1 F1 hn1 hI1 hR hK1=>?_) hR;refine rT ?_;refine⟨fun hc2=>?_,fun hc2=>?_⟩
 ·have hii1 : i1 < x0.from0.length := vbs
  replace hR:=zaq hR hii1;refine rg ⟨vbN,vaW,vaW,vaz,trivial⟩ ?_;refine cd (fun hc3 hR=>?_) (fun hc3 hR=>?_) hR
  ·refine rT ?_;exact oe C70 hR
  refine rg ⟨vbk,trivial⟩ ?_;exact hK1 () hii1 vbV hR
 obtain rfl:i1=x0.from0.length:=by have:=oz hc2;omega
 replace hR:=zau hR (oP _);refine rg ⟨fun hg0=>⟨vbV,vaW⟩,trivial⟩ ?_;refine cd (fun hc4 hR=>?_) (fun hc4 hR=>?_) hR
 ·refine rT ?_;exact oe C70 hR
 refine rg ⟨vaW,vaz,trivial⟩ ?_;exact oe C70 hR
def k211(x0:ye)(x1:yb)(x2:Int):Cl:=(hres (C70 (ziw x0 x1 x2)),k2 (zla x0 x1 x2))
def zhp(x0:ye)(x1:yb)(x2:Int):Bool:=bif((decide (x2<0))||(decide ((((x1.steps.length:Nat):Int) - ((x0.from0.length:Nat):Int))<x2))) then false else(bif(((decide (x0.place=1))&&(!decide (x2=0)))||((decide (x0.place=2))&&(!decide ((x2+((x0.from0.length:Nat):Int))=((x1.steps.length:Nat):Int))))) then false else(bif(decide (0<x2)) then(bif((!decide (x0.sex=0))&&(!decide (x0.sex=(l3Sex ((x1.steps.getD ((x2 - 1).toNat) wl).kind))))) then false else(loopN (fun i1 (v1:Unit) next=>bif((!decide (((x0.from0.getD i1 wl).kind)=((x1.steps.getD ((x2+((i1:Nat):Int)).toNat) wl).kind)))||((!decide (((x0.from0.getD i1 wl).age)=0))&&(!decide (((x0.from0.getD i1 wl).age)=((x1.steps.getD ((x2+((i1:Nat):Int)).toNat) wl).age))))) then false else(next ())) (fun (v1:Unit)=>true) x0.from0.length 0 ())) else(bif((!decide (x0.sex=0))&&(!decide (x0.sex=(l3Ego x1)))) then false else(loopN (fun i2 (v2:Unit) next=>bif((!decide (((x0.from0.getD i2 wl).kind)=((x1.steps.getD ((x2+((i2:Nat):Int)).toNat) wl).kind)))||((!decide (((x0.from0.getD i2 wl).age)=0))&&(!decide (((x0.from0.getD i2 wl).age)=((x1.steps.getD ((x2+((i2:Nat):Int)).toNat) wl).age))))) then false else(next ())) (fun (v2:Unit)=>true) x0.from0.length 0 ()))))
def zxa(i1:Nat)(v1:Unit):Dl:=⟨[(71,.int .i64 (i1:Int))],[]⟩
def A202b1(x0:ye)(x1:yb)(x2:Int)(i1:Nat)(v1:Unit):Ann:=let q3:=((i1:Nat):Int);let q5:=((x0.from0.length:Nat):Int);let q2:=!decide (((x0.from0.getD i1 wl).age)=0);let q1:=((x0.from0.getD i1 wl).kind)=((x1.steps.getD ((x2+q3).toNat) wl).kind);let q4:=!decide q1;r0 1 [2,4,6,69,70,71,72] [4] (cn (decide (q3<q5)) (.reg 3 [] [] [2,4,6,69,70,71,99] [4] [!q4,(!q4)&&q2,!decide q1] [pf (0≤(q3:Int)∧(q3:Int)<q5),pf (inR .i64 (x2+q3)),pf (0≤(x2+q3:Int)∧(x2+q3:Int)<((x1.steps.length:Nat):Int)),gt (!q4) (gt q2 (pf (((!q4)&&q2)=true)))] [] [0,4,8,1,1,1,5,5,5,5,1,12,10] (cn (q4||(q2&&(!decide (((x0.from0.getD i1 wl).age)=((x1.steps.getD ((x2+q3).toNat) wl).age))))) (r0 1 [2,4,6,69,70,71] [4] (rt [] (C70 false))) (r1 1 [2,4,6,69,70,71] [4] [pf (inR .i64 (q3+1))] [0] (.next 0 [] (zxa (i1+1) ()))))) (r0 1 [6] [] (rt [] (C70 true))))
def zw9(i2:Nat)(v2:Unit):Dl:=⟨[(71,.int .i64 (i2:Int))],[]⟩
def A202b2(x0:ye)(x1:yb)(x2:Int)(i2:Nat)(v2:Unit):Ann:=let q3:=((i2:Nat):Int);let q5:=((x0.from0.length:Nat):Int);let q2:=!decide (((x0.from0.getD i2 wl).age)=0);let q1:=((x0.from0.getD i2 wl).kind)=((x1.steps.getD ((x2+q3).toNat) wl).kind);let q4:=!decide q1;r0 1 [2,4,6,69,70,71,72] [4] (cn (decide (q3<q5)) (.reg 3 [] [] [2,4,6,69,70,71,99] [4] [!q4,(!q4)&&q2,!decide q1] [pf (0≤(q3:Int)∧(q3:Int)<q5),pf (inR .i64 (x2+q3)),pf (0≤(x2+q3:Int)∧(x2+q3:Int)<((x1.steps.length:Nat):Int)),gt (!q4) (gt q2 (pf (((!q4)&&q2)=true)))] [] [0,4,8,1,1,1,5,5,5,5,1,12,10] (cn (q4||(q2&&(!decide (((x0.from0.getD i2 wl).age)=((x1.steps.getD ((x2+q3).toNat) wl).age))))) (r0 1 [2,4,6,69,70,71] [4] (rt [] (C70 false))) (r1 1 [2,4,6,69,70,71] [4] [pf (inR .i64 (q3+1))] [0] (.next 0 [] (zw9 (i2+1) ()))))) (r0 1 [6] [] (rt [] (C70 true))))
def A202(x0:ye)(x1:yb)(x2:Int):Ann:=let q7:=x0.sex=0;let q6:=decide (x2<0);let q4:=decide (x0.place=2);let q2:=((x1.steps.length:Nat):Int);let q3:=((x0.from0.length:Nat):Int);let q1:=(decide (x0.place=1))&&(!decide (x2=0));let q5:=(x1.steps.getD ((x2 - 1).toNat) wl).kind;r0 2 [2,3,4,6,7] [3,4] (.reg 1 [] [] [2,3,4,6,7,25] [3,4] [!q6,decide (x2<0)] [gt (!q6) (pf (inR .i64 (q2 - q3)))] [] [1,1,1,1,0,1,1,6] (cn (q6||(decide ((q2 - q3)<x2))) (r0 1 [2,3,4,6,7] [3,4] (rt [] (C70 false))) (.reg 1 [] [] [2,3,4,6,46] [3,4] [decide (x0.place=1),!q1,(!q1)&&q4,(decide (x0.place=1))&&(!decide (x2=0))] [gt ((!q1)&&q4) (pf (inR .i64 (x2+q3))),gt (!q1) (gt q4 (pf (((!q1)&&q4)=true)))] [] [1,1,5,5,5,9,9,0,9,9,9,9,5,4,14] (cn (q1||(q4&&(!decide ((x2+q3)=q2)))) (r0 1 [2,3,4,6] [3,4] (rt [] (C70 false))) (.reg 1 [] [(1,k269 x1)] [2,3,4,6,8] [3,4] [] [] [] [0] (r0 1 [2,3,4,6,8,50] [3,4] (cn (decide (0<x2)) (.reg 1 [] [(7,k134 q5)] [2,3,4,6,8] [3,4] [] [pf (inR .i64 (x2 - 1)),pf (0≤(x2 - 1:Int)∧(x2 - 1:Int)<q2)] [] [0,4,8] (.reg 1 [] [] [2,3,4,6,67] [3,4] [!decide q7] [] [] [1,1,1,1] (cn ((!decide q7)&&(!decide (x0.sex=(l3Sex q5)))) (r0 1 [2,3,4,6] [3,4] (rt [] (C70 false))) (r0 1 [2,4,6,69,70,71] [4] (lp (zxa) [] [] [] (zxa 0 ()) (A202b1 x0 x1 x2)))))) (.reg 1 [] [] [2,3,4,6,67] [3,4] [!decide q7] [] [] [1,1,1,1] (cn ((!decide q7)&&(!decide (x0.sex=(l3Ego x1)))) (r0 1 [2,3,4,6] [3,4] (rt [] (C70 false))) (r0 1 [2,4,6,69,70,71] [4] (lp (zw9) [] [] [] (zw9 0 ()) (A202b2 x0 x1 x2))))))))))))
theorem zk3(x0 : ye)(x1 : yb)(x2 : Int)(hr : x0.name.length ≤ 1048576 ∧ x0.from0.length ≤ 1048576 ∧ x0.to.length ≤ 1048576)(ht : x1.steps.length ≤ 1048576) : FnT Tryz.prog 202 [.agg (cRule false x0), .agg (zag false x1), .int .i64 x2] (C70 (zhp x0 x1 x2)) := by
 refine Fn.gp 101 Tryz.func202 (by kernel_rfl) (by kernel_rfl) vby (A202 x0 x1 x2) (by kernel_rfl) fun R hR=>?_;refine rT ?_;refine rg ⟨vbk,trivial⟩ ?_;refine cd (fun hc1 hR=>?_) (fun hc1 hR=>?_) hR
 ·refine rT ?_;exact oe C70 hR
 refine rg ⟨vaW,vaA,trivial⟩ ?_;refine cd (fun hc2 hR=>?_) (fun hc2 hR=>?_) hR
 ·refine rT ?_;exact oe C70 hR
 refine rg ⟨vbV,trivial⟩ ?_;refine rT ?_;refine cd (fun hc3 hR=>?_) (fun hc3 hR=>?_) hR
 ·refine rg ⟨vaU, by (simp only [yz, oa, ob] at *; (try simp only [inR]); omega), trivial, trivial⟩ ?_;refine rT ?_;refine cd (fun hc4 hR => ?_) (fun hc4 hR => ?_) hR
  ·refine rT ?_;exact oe C70 hR
  refine rT ?_;refine lN (fun i v=>True) vbV rfl (fun i1 v1 F1 hn1 hI1 hR hK1=>?_) hR;refine rT ?_;refine⟨fun hc5=>?_,fun hc5=>?_⟩
  ·have hii1 : i1 < x0.from0.length := (by have := ol hc5; omega);replace hR := zaq hR hii1;refine rg ⟨vbL, vaU, vaU, vav, trivial⟩ ?_;refine cd (fun hc6 hR => ?_) (fun hc6 hR => ?_) hR
   ·refine rT ?_;exact oe C70 hR
   refine rg ⟨vbk,trivial⟩ ?_;exact hK1 () hii1 vbV hR
  obtain rfl:i1=x0.from0.length:=by have:=oz hc5;omega
  replace hR:=zau hR (oP _);refine rT ?_;exact oe C70 hR
 refine rT ?_;refine cd (fun hc7 hR=>?_) (fun hc7 hR=>?_) hR
 ·refine rT ?_;exact oe C70 hR
 refine rT ?_;refine lN (fun i v=>True) vbV rfl (fun i2 v2 F2 hn2 hI2 hR hK2=>?_) hR;refine rT ?_;refine⟨fun hc8=>?_,fun hc8=>?_⟩
 ·have hii2 : i2 < x0.from0.length := by have := ol hc8; omega
  replace hR:=zaq hR hii2;refine rg ⟨vbN,vaW,vaW,by((try clear hR hK2);intros;(try simp only[ob,oa,oi,oc,zaw,za4,zci,od,inR] at *);(repeat' apply YU)<;>(intros;omega)),trivial⟩ ?_;refine cd (fun hc9 hR=>?_) (fun hc9 hR=>?_) hR
  ·refine rT ?_;exact oe C70 hR
  refine rg ⟨vbk,trivial⟩ ?_;exact hK2 () hii2 vbV hR
 obtain rfl:i2=x0.from0.length:=by have:=oz hc8;omega
 replace hR:=zau hR (oP _);refine rT ?_;exact oe C70 hR
def k202(x0:ye)(x1:yb)(x2:Int):Cl:=(hres (C70 (zhp x0 x1 x2)),k2 (zk3 x0 x1 x2))
def zc3(x0:ye)(x1:yb)(x2:Int):yb:=(yb.mk (egoOf x1) ((((x1.steps.drop 0).take (x2.toNat - 0))++x0.to)++((x1.steps.drop ((x2+((x0.from0.length:Nat):Int)).toNat)).take (x1.steps.length - ((x2+((x0.from0.length:Nat):Int)).toNat)))))
def A212(x0:ye)(x1:yb)(x2:Int):Ann:=let q1:=(x2+((x0.from0.length:Nat):Int));let q2:=(x1.steps.drop 0).take (x2.toNat - 0);let q3:=(x1.steps.drop (q1.toNat)).take (x1.steps.length - (q1.toNat));.reg 6 [] [(1001,k273 x1),(2005,slC 16 (cStep false) x1.steps.length (0) (x2) 0 (x2.toNat - 0) x1.steps rfl rfl),(2006,apN 17 (cStep true) 16 q2),(3004,apC 23 (cStep true) 16 q2 x0.to),(4009,slC 34 (cStep false) x1.steps.length q1 (((x1.steps.length:Nat):Int)) (q1.toNat) (x1.steps.length - (q1.toNat)) x1.steps rfl rfl),(4010,apC 35 (cStep true) 16 (q2++x0.to) q3)] [6] [6,35] [] [pf (inR .i64 q1)] [] [4,8,12,16,0,20,24] (rt [(0,some 35)] (C43 (yb.mk (egoOf x1) ((q2++x0.to)++q3))))
theorem zhf(x0:ye)(x1:yb)(x2:Int)(hr:x0.name.length≤1048576∧x0.from0.length≤1048576∧x0.to.length≤1048576)(ht:x1.steps.length≤1048576)(hi:0≤x2∧x2+x0.from0.length≤x1.steps.length):FnT Tryz.prog 212 [.agg (cRule false x0),.agg (zag false x1),.int .i64 x2] (C43 (zc3 x0 x1 x2)):=by refine Fn.gp 38 Tryz.func212 (by kernel_rfl) (by kernel_rfl) vaM (A212 x0 x1 x2) (by kernel_rfl) fun R hR=>?_;refine rg ⟨vbk,vbV,vbN,vbP,vbP,vbN,vbP,trivial⟩ ?_;exact oe C43 hR
def k212(x0:ye)(x1:yb)(x2:Int):Cl:=(hres (C43 (zc3 x0 x1 x2)),k3 (zhf x0 x1 x2))
def zck(x0:ye)(x1:yb)(x2:Int):yb:=(yb.mk (l3Ego x1) ((((x1.steps.drop 0).take (x2.toNat - 0))++x0.to)++((x1.steps.drop ((x2+((x0.from0.length:Nat):Int)).toNat)).take (x1.steps.length - ((x2+((x0.from0.length:Nat):Int)).toNat)))))
def A203(x0:ye)(x1:yb)(x2:Int):Ann:=let q1:=(x2+((x0.from0.length:Nat):Int));let q2:=(x1.steps.drop 0).take (x2.toNat - 0);let q3:=(x1.steps.drop (q1.toNat)).take (x1.steps.length - (q1.toNat));.reg 6 [] [(1001,k269 x1),(2005,slC 16 (cStep false) x1.steps.length (0) (x2) 0 (x2.toNat - 0) x1.steps rfl rfl),(2006,apN 17 (cStep true) 16 q2),(3004,apC 23 (cStep true) 16 q2 x0.to),(4009,slC 34 (cStep false) x1.steps.length q1 (((x1.steps.length:Nat):Int)) (q1.toNat) (x1.steps.length - (q1.toNat)) x1.steps rfl rfl),(4010,apC 35 (cStep true) 16 (q2++x0.to) q3)] [6] [6,35] [] [pf (inR .i64 q1)] [] [4,8,12,16,0,20,24] (rt [(0,some 35)] (C43 (yb.mk (l3Ego x1) ((q2++x0.to)++q3))))
theorem zh7(x0:ye)(x1:yb)(x2:Int)(hr:x0.name.length≤1048576∧x0.from0.length≤1048576∧x0.to.length≤1048576)(ht:x1.steps.length≤1048576)(hi:0≤x2∧x2+x0.from0.length≤x1.steps.length):FnT Tryz.prog 203 [.agg (cRule false x0),.agg (zag false x1),.int .i64 x2] (C43 (zck x0 x1 x2)):=by refine Fn.gp 38 Tryz.func203 (by kernel_rfl) (by kernel_rfl) vaM (A203 x0 x1 x2) (by kernel_rfl) fun R hR=>?_;refine rg ⟨vbk,vbV,vbN,vbP,vbP,vbN,vbP,trivial⟩ ?_;exact oe C43 hR
def k203(x0:ye)(x1:yb)(x2:Int):Cl:=(hres (C43 (zck x0 x1 x2)),k3 (zh7 x0 x1 x2))
def stD(s:ya):Nat:=3 * min s.kind.toNat 8+min s.age.toNat 2
theorem stD_lt(s:ya):stD s<27:=by unfold stD;omega
def stN(l:List ya)(a:Nat):Nat:=l.foldl (fun n s=>n * 27+stD s) a
theorem zml(l m:List ya)(a:Nat):stN (l++m) a=stN m (stN l a):=by unfold stN;rw[List.foldl_append]
theorem zco : ∀(l : List ya) (a : Nat), stN l a = a * 27 ^ l.length + stN l 0
  |[],a=>by simp[stN]
  |s :: l, a => by
    have e:∀x,stN (s :: l) x=stN l (x * 27+stD s):=fun _=>rfl
    rw[e,e,zco l (a * 27+stD s),zco l (0 * 27+stD s),ot,Nat.pow_succ]
    rw[YG,yA,Ys,Nat.mul_assoc,Nat.mul_comm 27 (27 ^ l.length)]
    omega
theorem zt9 : ∀(l : List ya), stN l 0 < 27 ^ l.length
  |[]=>by simp[stN]
  |s :: l => by
    have e:stN (s :: l) 0=stN l (0 * 27+stD s):=rfl
    have h1:=zt9 l
    have h2:=stD_lt s
    rw[e,zco l,ot,Nat.pow_succ]
    have h3:(0 * 27+stD s) * 27 ^ l.length≤26 * 27 ^ l.length:=oU _ vbX
    omega
theorem zy1(l:List ya){a b:Nat}(h:a<b):stN l a<stN l b:=by rw[zco l a,zco l b];have h1:(a+1) * 27 ^ l.length≤b * 27 ^ l.length:=oU _ h;have h2:0<27 ^ l.length:=Nat.pow_pos vbX;rw[Ys,Y0] at h1;omega
def rank(l:List ya):Nat:=stN l 1
theorem zza{l m:List ya}(h:l.length<m.length):rank l<rank m:=by unfold rank;rw[zco l 1,zco m 1];have h1:=zt9 l;have h2:27 ^ (l.length+1)≤27 ^ m.length:=Nat.pow_le_pow_right vbX h;rw[Nat.pow_succ] at h2;omega
theorem zy9(p q:List ya){a b:List ya}(hl:a.length=b.length)(h:stN a 0<stN b 0):rank (p++a++q)<rank (p++b++q):=by unfold rank;rw[zml,zml,zml,zml];refine zy1 q ?_;rw[zco a,zco b,hl];omega
theorem z0b : ∀{l m : List ya}, l.length = m.length → (∀k : Nat, k < l.length → stD (l.getD k wl) ≤ stD (m.getD k wl)) → stN l 0 ≤ stN m 0
  |[],[],_,_=>ou _
  |[],_ :: _,h,_=>by simp at h
  |_ :: _,[],h,_=>by simp at h
  |s :: l, t :: m, h, hk => by
    have h0:=hk 0 vbZ
    have h1:=z0b (l:=l) (m:=m) vbK fun k hk'=>by simpa using hk (k+1) (by simpa using hk')
    have e:stN (s :: l) 0=stN l (0 * 27+stD s):=rfl
    have e2:stN (t :: m) 0=stN m (0 * 27+stD t):=rfl
    have h0:stD s≤stD t:=h0
    rw[e,e2,zco l,zco m,show l.length=m.length by simpa using h]
    have:(0 * 27+stD s) * 27 ^ m.length≤(0 * 27+stD t) * 27 ^ m.length:=oU _ vbX
    omega
theorem zjk : ∀{l m : List ya} (i : Nat), l.length = m.length → i < l.length → (∀k : Nat, k < i → stD (l.getD k wl) = stD (m.getD k wl)) → stD (l.getD i wl) < stD (m.getD i wl) → stN l 0 < stN m 0
  |[],_,i,_,hi,_,_=>absurd hi (oO _)
  |_ :: _,[],_,h,_,_,_=>by simp at h
  |s :: l, t :: m, 0, h, _, _, hd => by
    have hd:stD s<stD t:=hd
    have hl:l.length=m.length:=vbK
    have e:stN (s :: l) 0=stN l (0 * 27+stD s):=rfl
    have e2:stN (t :: m) 0=stN m (0 * 27+stD t):=rfl
    rw[e,e2,zco l,zco m,hl]
    have h1:=zt9 l
    rw[hl] at h1
    have h3:(stD s+1) * 27 ^ m.length≤stD t * 27 ^ m.length:=oU _ hd
    rw[Ys,Y0] at h3
    rw[YG,yA,yA]
    omega
  |s :: l, t :: m, i + 1, h, hi, hk, hd => by
    have hl:l.length=m.length:=vbK
    have h0:stD s=stD t:=hk 0 vbX
    have ih:=zjk (l:=l) (m:=m) i hl (by simpa using hi) (fun k hk'=>by simpa using hk (k+1) vbX) (by simpa using hd)
    have e:stN (s :: l) 0=stN l (0 * 27+stD s):=rfl
    have e2:stN (t :: m) 0=stN m (0 * 27+stD t):=rfl
    rw[e,e2,zco l,zco m,hl,h0]
    omega
theorem zfl{S α : Type}{body : Nat → S → (S → α) → α}{k : S → α}{s : S} : ∀(i m j : Nat), (∀x next, j ≤ x → x < j + i → body x s next = next s) → loopN body k (i + m) j s = loopN body k m (j + i) s
  |0,m,j,_=>by rw[yA];rfl
  |i + 1, m, j, h => by
    rw[show i+1+m=(i+m)+1 by omega,loopN,h j _ (ou _) vbX,zfl i m (j+1) fun x next h1 h2=>h x next vbX vbX]
    rw[show j+1+i=j+(i+1) by omega]
theorem ztk{S α : Type}{body : Nat → S → (S → α) → α}{k : S → α}{s : S}{n : Nat}(i : Nat)(hi : i ≤ n)(h : ∀x next, x < i → body x s next = next s) : loopN body k n 0 s = loopN body k (n - i) i s := by
 have:=zfl (body:=body) (k:=k) (s:=s) i (n - i) 0 fun x next _ h2=>h x next vbX
 rw[show i+(n - i)=n by omega,yA] at this;exact this
end Go.Proofs.YtnphfelaffdmkaaGreatDoor
