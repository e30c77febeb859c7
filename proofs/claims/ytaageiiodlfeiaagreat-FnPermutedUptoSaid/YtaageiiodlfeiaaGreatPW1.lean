import Derived.Test.YtaageiiodlfeiaaGreatM290
set_option maxHeartbeats 4000000
set_option linter.unusedSimpArgs false
set_option linter.unusedVariables false
namespace Go.Proofs.YtaageiiodlfeiaaGreat
open Go Go.Lite Go.Proofs
def C22 (R:Bool):LV×List (Nat×BC):=(.bool R,[])
def zfq (x0:Family) (x1:Int) (x2:Int) (x3:Int):Bool:=((zcm x0 [x1,x2])&&(zkb x3))&&(decide ((zct x0 x1 x3)=(zct x0 x2 x3)))
def A22 (x0:Family) (x1:Int) (x2:Int) (x3:Int):Ann:=.reg 2 [] [(1003,bsC 12 (cInt .i64) ([x1,x2]:List Int)),(1004,k45 x0 [x1,x2]),(1007,cg (zcm x0 [x1,x2]) (k54 x3)),(1013,cg ((zcm x0 [x1,x2])&&(zkb x3)) (k55 x0 x1 x3)),(1017,cg ((zcm x0 [x1,x2])&&(zkb x3)) (k55 x0 x2 x3))] [8] [] [zcm x0 [x1,x2],(zcm x0 [x1,x2])&&(zkb x3)] [] [] [0,4,1,8,1,5,5,5,12,5,5,5,16,5,5,5] (rt [] (C22 (((zcm x0 [x1,x2])&&(zkb x3))&&(decide ((zct x0 x1 x3)=(zct x0 x2 x3))))))
theorem zme (x0:Family) (x1:Int) (x2:Int) (x3:Int) (hx:x0.people.length≤1048576) (hu:x0.unions.length≤1048576) (hn:∀ p∈x0.people,p.name.length≤1048576):FnT Tryz.prog 22 [.agg (zbx false x0),.int .i64 x1,.int .i64 x2,.int .i64 x3] (C22 (zfq x0 x1 x2 x3)):=by
 have aux:∀ R,zfq x0 x1 x2 x3=R→slim (C22 R) (A22 x0 x1 x2 x3) []:=by
  intro R hR
  refine rg ⟨trivial,⟨by with_reducible assumption,by with_reducible assumption,by with_reducible assumption,by ((simp only [List.length_cons,List.length_nil];omega))⟩,fun hg0=>trivial,fun hg0=>⟨by with_reducible assumption,by (exact (zmj hg0).1),by (exact (zmj hg0).2.1)⟩,fun hg0=>⟨by with_reducible assumption,by (exact (zmj hg0).1),by (exact (zmj hg0).2.2)⟩,trivial⟩ ?_
  exact congrArg C22 hR
 exact Fn.go 29 Tryz.func22 zah zah (by simp [C22,Frs,FrsL]) (A22 x0 x1 x2 x3) zah (aux _ rfl)
def k22 (x0:Family) (x1:Int) (x2:Int) (x3:Int):Cl:=(hres (C22 (zfq x0 x1 x2 x3)),k3 (zme x0 x1 x2 x3))
def C18 (R:(List Int)):LV×List (Nat×BC):=(.own 0,[(0,.arr 1 R.length (rowOf (cInt .i64) R))])
def zb6 (x0:List Int) (x1:List Int):(List Int):=loopN (fun i1 (v1:(List Int)) next=>bif (zn1 x0 (x1.getD i1 default)) then (next (v1++[((i1:Nat):Int)])) else (next v1)) (fun (v1:(List Int))=>v1) x1.length 0 ([]:List Int)
def D18b1 (x0:List Int) (x1:List Int) (i1:Nat) (v1:(List Int)):Dl:=⟨[(11,.int .i64 ((i1:Nat):Int)),(5,.own 20005)],[(20005,.arr 1 v1.length (rowOf (cInt .i64) v1))]⟩
def A18b1 (x0:List Int) (x1:List Int) (i1:Nat) (v1:(List Int)):Ann:=r0 1 [0,4,5,9,10,11,12] [20005] (cn (decide (((i1:Nat):Int)<((x1.length:Nat):Int))) (.reg 2 [] [(1002,k49 x0 (x1.getD i1 default))] [0,4,5,6,9,10,11,18] [20005] [] [pf (0≤(((i1:Nat):Int):Int)∧(((i1:Nat):Int):Int)<((x1.length:Nat):Int))] [] [0,4] (cn (zn1 x0 (x1.getD i1 default)) (.reg 1 [] [(2,bsC 21 (cInt .i64) ([((i1:Nat):Int)]:List Int)),(3,ap1 22 (cInt .i64) 8 v1 ((i1:Nat):Int))] [0,4,5,9,10,11] [22] [] [] [] [0,4] (r1 1 [0,4,5,9,10,11] [22] [pf (inR .i64 (((i1:Nat):Int)+1))] [0] (.next 0 [(20005,some 22)] (D18b1 x0 x1 (i1+1) (v1++[((i1:Nat):Int)]))))) (r1 1 [0,4,5,9,10,11] [20005] [pf (inR .i64 (((i1:Nat):Int)+1))] [0] (.next 0 [(20005,some 20005)] (D18b1 x0 x1 (i1+1) v1))))) (r0 1 [4] [20005] (rt [(0,some 20005)] (C18 v1))))
def A18 (x0:List Int) (x1:List Int):Ann:=.reg 2 [] [(1000,bsC 8 (cInt .i64) ([]:List Int))] [0,1,4,5] [8] [] [] [] [0] (r0 1 [0,4,5,9,10,11] [8] (lp (D18b1 x0 x1) [] [8] [(20005,some 8)] (D18b1 x0 x1 0 ([]:List Int)) (A18b1 x0 x1)))
theorem zo3 (x0:List Int) (x1:List Int) (hx:x0.length≤1048576) (hy:x1.length≤1048576):FnT Tryz.prog 18 [.ro false 1 x0.length (rowOf (cInt .i64) x0),.ro false 1 x1.length (rowOf (cInt .i64) x1)] (C18 (zb6 x0 x1)):=by
 have aux:∀ R,zb6 x0 x1=R→slim (C18 R) (A18 x0 x1) []:=by
  intro R hR
  refine rg ⟨trivial,trivial⟩ ?_
  refine rg trivial ?_
  revert hR;refine lN (fun i v=>(v:List Int).length≤i) zai rfl fun i1 v1 F1 hn1 hI1 hR hK1=>?_
  refine rg trivial ?_
  refine ⟨fun hc1=>?_,fun hc1=>?_⟩
  ·have hii1:i1<x1.length:=by have:=of_decide_eq_true hc1;omega
   replace hR:=zbj hR hii1
   refine rg ⟨by (intros;omega),by trivial,trivial⟩ ?_
   revert hR;refine cd (fun hc2 hR=>?_) fun hc2 hR=>?_
   ·
     refine rg ⟨trivial,om,trivial⟩ ?_
     refine rg ⟨by ( intros;simp only [inR];omega),trivial⟩ ?_
     exact hK1 (v1++[((i1:Nat):Int)]) hii1 (by ((try clear hR hK1);intros;(try simp only [decide_eq_true_eq,decide_eq_false_iff_not,Bool.or_eq_true,Bool.and_eq_true,zbd,za9,zba,Bool.not_eq_true',inR] at *);(repeat' apply And.intro)<;>(simp_all [inR];done))) hR
   ·
     refine rg ⟨by ( intros;simp only [inR];omega),trivial⟩ ?_
     exact hK1 v1 hii1 za2 hR
  ·obtain rfl:i1=x1.length:=by have:=of_decide_eq_false hc1;omega
   replace hR:=zbp hR (Nat.lt_irrefl _)
   refine rg trivial ?_
   exact congrArg C18 hR
 exact Fn.go 25 Tryz.func18 zah zah (by simp [C18,Frs,FrsL,FrsB,rowOf,cInt,cBool,cStr,cSl,zce,zbq,zb4,zbx,cDyad,cLaw,zd4,cStep,zdv,zdh]) (A18 x0 x1) zah (aux _ rfl)
def k18 (x0:List Int) (x1:List Int):Cl:=(hres (C18 (zb6 x0 x1)),k2 (zo3 x0 x1))
def C33 (x0:l01Cur) (x1:Family) (R:(List Int)×Int×Int):LV×List (Nat×BC):=(.own 0,[(900000,.var [.ro false 1 x0.b.length (rowOf (cInt .u8) x0.b),.int .i64 R.2.1,.int .i64 R.2.2]),(0,.arr 1 R.1.length (rowOf (cInt .i64) R.1))])
def zjm (x0:l01Cur) (x1:Family):(List Int)×Int×Int:=loopN (fun i1 (v1:(List Int)) next=>next (v1++[((i1:Nat):Int)])) (fun (v1:(List Int))=>jn (fun K1=>K1 ((za8 x0 12).1,(za8 x0 12).2.1,(za8 x0 12).2.2)) (fun (j1:Int×Int×Int)=>loopW (fun (v2:(List Int)×Int×Int×Int) next=>bif ((decide (0<v2.2.1))&&(decide (1<((v2.1.length:Nat):Int)))) then (jn (fun K2=>K2 ((za8 (l01Cur.mk x0.b v2.2.2.1 v2.2.2.2) (((v2.1.length:Nat):Int) - 1)).1,(za8 (l01Cur.mk x0.b v2.2.2.1 v2.2.2.2) (((v2.1.length:Nat):Int) - 1)).2.1,(za8 (l01Cur.mk x0.b v2.2.2.1 v2.2.2.2) (((v2.1.length:Nat):Int) - 1)).2.2)) (fun (j2:Int×Int×Int)=>jn (fun K3=>bif (!((!decide (((x1.people.getD ((v2.1.getD ((j2.1+1).toNat) default).toNat) default).father)=(v2.1.getD j2.1.toNat default)))&&(!decide (((x1.people.getD ((v2.1.getD ((j2.1+1).toNat) default).toNat) default).mother)=(v2.1.getD j2.1.toNat default))))) then (K3 (((!decide (((x1.people.getD ((v2.1.getD ((j2.1+1).toNat) default).toNat) default).father)=(v2.1.getD j2.1.toNat default)))&&(!decide (((x1.people.getD ((v2.1.getD ((j2.1+1).toNat) default).toNat) default).mother)=(v2.1.getD j2.1.toNat default))))||((zbo (l01Cur.mk x0.b j2.2.1 j2.2.2) 30).1),(zbo (l01Cur.mk x0.b j2.2.1 j2.2.2) 30).2.1,(zbo (l01Cur.mk x0.b j2.2.1 j2.2.2) 30).2.2)) else (K3 (((!decide (((x1.people.getD ((v2.1.getD ((j2.1+1).toNat) default).toNat) default).father)=(v2.1.getD j2.1.toNat default)))&&(!decide (((x1.people.getD ((v2.1.getD ((j2.1+1).toNat) default).toNat) default).mother)=(v2.1.getD j2.1.toNat default))))||true,j2.2.1,j2.2.2))) (fun (j3:Bool×Int×Int)=>bif j3.1 then (next (((v2.1.set j2.1.toNat (v2.1.getD ((j2.1+1).toNat) default)).set ((j2.1+1).toNat) (v2.1.getD j2.1.toNat default)),v2.2.1 - 1,j3.2.1,j3.2.2)) else (next (v2.1,v2.2.1 - 1,j3.2.1,j3.2.2))))) else (v2.1,v2.2.2.1,v2.2.2.2)) (Int.toNat (j1.1)+1) (v1,j1.1,j1.2.1,j1.2.2))) x1.people.length 0 ([]:List Int)
def D33b1 (x0:l01Cur) (x1:Family) (i1:Nat) (v1:(List Int)):Dl:=⟨[(15,.int .i64 ((i1:Nat):Int)),(5,.own 20005)],[(20005,.arr 1 v1.length (rowOf (cInt .i64) v1))]⟩
def D33j1 (x0:l01Cur) (x1:Family) (i1:Nat) (v1:(List Int)) (j1:Int×Int×Int):Dl:=⟨[(7,.int .i64 j1.1)],[(900000,.var [.ro false 1 x0.b.length (rowOf (cInt .u8) x0.b),.int .i64 j1.2.1,.int .i64 j1.2.2])]⟩
def D33b2 (x0:l01Cur) (x1:Family) (i1:Nat) (v1:(List Int)) (j1:Int×Int×Int) (v2:(List Int)×Int×Int×Int):Dl:=⟨[(5,.own 30005),(7,.int .i64 v2.2.1)],[(30005,.arr 1 v2.1.length (rowOf (cInt .i64) v2.1)),(900000,.var [.ro false 1 x0.b.length (rowOf (cInt .u8) x0.b),.int .i64 v2.2.2.1,.int .i64 v2.2.2.2])]⟩
def D33j2 (x0:l01Cur) (x1:Family) (i1:Nat) (v1:(List Int)) (j1:Int×Int×Int) (v2:(List Int)×Int×Int×Int) (j2:Int×Int×Int):Dl:=⟨[(8,.int .i64 j2.1)],[(900000,.var [.ro false 1 x0.b.length (rowOf (cInt .u8) x0.b),.int .i64 j2.2.1,.int .i64 j2.2.2])]⟩
def D33j3 (x0:l01Cur) (x1:Family) (i1:Nat) (v1:(List Int)) (j1:Int×Int×Int) (v2:(List Int)×Int×Int×Int) (j2:Int×Int×Int) (j3:Bool×Int×Int):Dl:=⟨[(67,.bool j3.1)],[(900000,.var [.ro false 1 x0.b.length (rowOf (cInt .u8) x0.b),.int .i64 j3.2.1,.int .i64 j3.2.2])]⟩
def A33j3 (x0:l01Cur) (x1:Family) (i1:Nat) (v1:(List Int)) (j1:Int×Int×Int) (v2:(List Int)×Int×Int×Int) (j2:Int×Int×Int) (j3:Bool×Int×Int):Ann:=cn j3.1 (.reg 2 [] [(1008,stL 30005 (cInt .i64) v2.1 j2.1.toNat (v2.1.getD ((j2.1+1).toNat) default))] [0,3,4,5,7,8,10] [3,30005,900000] [] [pf (0≤(j2.1:Int)∧(j2.1:Int)<((v2.1.length:Nat):Int)),pf (inR .i64 (j2.1+1)),pf (0≤(j2.1+1:Int)∧(j2.1+1:Int)<((v2.1.length:Nat):Int))] [] [0,4,8,0,12] (.reg 1 [] [(5,stL 30005 (cInt .i64) (v2.1.set j2.1.toNat (v2.1.getD ((j2.1+1).toNat) default)) ((j2.1+1).toNat) (v2.1.getD j2.1.toNat default))] [0,3,4,5,7] [3,30005,900000] [] [pf (inR .i64 (j2.1+1)),pf (0≤(j2.1+1:Int)∧(j2.1+1:Int)<(((v2.1.set j2.1.toNat (v2.1.getD ((j2.1+1).toNat) default)).length:Nat):Int))] [] [0,4,8] (r1 1 [0,3,4,5,7] [3,30005,900000] [pf (inR .i64 (v2.2.1 - 1))] [0] (.next 0 [(30005,some 30005)] (D33b2 x0 x1 i1 v1 j1 (((v2.1.set j2.1.toNat (v2.1.getD ((j2.1+1).toNat) default)).set ((j2.1+1).toNat) (v2.1.getD j2.1.toNat default)),v2.2.1 - 1,j3.2.1,j3.2.2)))))) (r1 1 [0,3,4,5,7] [3,30005,900000] [pf (inR .i64 (v2.2.1 - 1))] [0] (.next 0 [(30005,some 30005)] (D33b2 x0 x1 i1 v1 j1 (v2.1,v2.2.1 - 1,j3.2.1,j3.2.2))))
def A33j2 (x0:l01Cur) (x1:Family) (i1:Nat) (v1:(List Int)) (j1:Int×Int×Int) (v2:(List Int)×Int×Int×Int) (j2:Int×Int×Int):Ann:=r1 1 [0,3,4,5,7,8,9] [3,9,30005,900000] [pf (inR .i64 (j2.1+1)),pf (0≤(j2.1+1:Int)∧(j2.1+1:Int)<((v2.1.length:Nat):Int)),pf (0≤((v2.1.getD ((j2.1+1).toNat) default):Int)∧((v2.1.getD ((j2.1+1).toNat) default):Int)<((x1.people.length:Nat):Int))] [0,4,8] (.join 0 (Bool×Int×Int) (D33j3 x0 x1 i1 v1 j1 v2 j2) [0,3,4,5,7,8] [900000,3,30005] (.split (!((!decide (((x1.people.getD ((v2.1.getD ((j2.1+1).toNat) default).toNat) default).father)=(v2.1.getD j2.1.toNat default)))&&(!decide (((x1.people.getD ((v2.1.getD ((j2.1+1).toNat) default).toNat) default).mother)=(v2.1.getD j2.1.toNat default))))) (.reg 1 [] [(18,cT (k76 66 [900000] (l01Cur.mk x0.b j2.2.1 j2.2.2) 30))] [0,3,4,5,7,8,67] [3,30005,900000] [!decide (((x1.people.getD ((v2.1.getD ((j2.1+1).toNat) default).toNat) default).father)=(v2.1.getD j2.1.toNat default))] [pf (0≤(j2.1:Int)∧(j2.1:Int)<((v2.1.length:Nat):Int)),gt (!decide (((x1.people.getD ((v2.1.getD ((j2.1+1).toNat) default).toNat) default).father)=(v2.1.getD j2.1.toNat default))) (pf (0≤(j2.1:Int)∧(j2.1:Int)<((v2.1.length:Nat):Int))),pf ((!((!decide (((x1.people.getD ((v2.1.getD ((j2.1+1).toNat) default).toNat) default).father)=(v2.1.getD j2.1.toNat default)))&&(!decide (((x1.people.getD ((v2.1.getD ((j2.1+1).toNat) default).toNat) default).mother)=(v2.1.getD j2.1.toNat default)))))=true)] [] [0,1,1,1,4,1,1,1,1,8,8,12] (.next 0 [] (D33j3 x0 x1 i1 v1 j1 v2 j2 (((!decide (((x1.people.getD ((v2.1.getD ((j2.1+1).toNat) default).toNat) default).father)=(v2.1.getD j2.1.toNat default)))&&(!decide (((x1.people.getD ((v2.1.getD ((j2.1+1).toNat) default).toNat) default).mother)=(v2.1.getD j2.1.toNat default))))||((zbo (l01Cur.mk x0.b j2.2.1 j2.2.2) 30).1),(zbo (l01Cur.mk x0.b j2.2.1 j2.2.2) 30).2.1,(zbo (l01Cur.mk x0.b j2.2.1 j2.2.2) 30).2.2)))) (.reg 1 [(18,.gF)] [] [0,3,4,5,7,8,67] [3,30005,900000] [!decide (((x1.people.getD ((v2.1.getD ((j2.1+1).toNat) default).toNat) default).father)=(v2.1.getD j2.1.toNat default))] [pf (0≤(j2.1:Int)∧(j2.1:Int)<((v2.1.length:Nat):Int)),gt (!decide (((x1.people.getD ((v2.1.getD ((j2.1+1).toNat) default).toNat) default).father)=(v2.1.getD j2.1.toNat default))) (pf (0≤(j2.1:Int)∧(j2.1:Int)<((v2.1.length:Nat):Int))),pf ((!((!decide (((x1.people.getD ((v2.1.getD ((j2.1+1).toNat) default).toNat) default).father)=(v2.1.getD j2.1.toNat default)))&&(!decide (((x1.people.getD ((v2.1.getD ((j2.1+1).toNat) default).toNat) default).mother)=(v2.1.getD j2.1.toNat default)))))=false),gf ((!decide (((x1.people.getD ((v2.1.getD ((j2.1+1).toNat) default).toNat) default).father)=(v2.1.getD j2.1.toNat default)))&&(!decide (((x1.people.getD ((v2.1.getD ((j2.1+1).toNat) default).toNat) default).mother)=(v2.1.getD j2.1.toNat default)))) (pf (false=true))] [] [0,1,1,1,4,1,1,1,1,8,12] (.next 0 [] (D33j3 x0 x1 i1 v1 j1 v2 j2 (((!decide (((x1.people.getD ((v2.1.getD ((j2.1+1).toNat) default).toNat) default).father)=(v2.1.getD j2.1.toNat default)))&&(!decide (((x1.people.getD ((v2.1.getD ((j2.1+1).toNat) default).toNat) default).mother)=(v2.1.getD j2.1.toNat default))))||true,j2.2.1,j2.2.2))))) (A33j3 x0 x1 i1 v1 j1 v2 j2))
def A33b2 (x0:l01Cur) (x1:Family) (i1:Nat) (v1:(List Int)) (j1:Int×Int×Int) (v2:(List Int)×Int×Int×Int):Ann:=.reg 1 [] [] [0,3,4,5,7,31] [3,30005,900000] [decide (0<v2.2.1)] [] [] [1,1,1] (cn ((decide (0<v2.2.1))&&(decide (1<((v2.1.length:Nat):Int)))) (.join 1 (Int×Int×Int) (D33j2 x0 x1 i1 v1 j1 v2) [0,3,4,5,7] [900000,3,30005] (.reg 1 [] [(4,k75 38 [900000] (l01Cur.mk x0.b v2.2.2.1 v2.2.2.2) (((v2.1.length:Nat):Int) - 1))] [0,3,4,5,7,8] [3,30005,900000] [] [pf (inR .i64 (((v2.1.length:Nat):Int) - 1))] [] [0,4] (.next 0 [] (D33j2 x0 x1 i1 v1 j1 v2 ((za8 (l01Cur.mk x0.b v2.2.2.1 v2.2.2.2) (((v2.1.length:Nat):Int) - 1)).1,(za8 (l01Cur.mk x0.b v2.2.2.1 v2.2.2.2) (((v2.1.length:Nat):Int) - 1)).2.1,(za8 (l01Cur.mk x0.b v2.2.2.1 v2.2.2.2) (((v2.1.length:Nat):Int) - 1)).2.2)))) (A33j2 x0 x1 i1 v1 j1 v2)) (r0 1 [4] [30005,900000] (rt [(900000,some 900000),(0,some 30005)] (C33 x0 x1 (v2.1,v2.2.2.1,v2.2.2.2)))))
def A33j1 (x0:l01Cur) (x1:Family) (i1:Nat) (v1:(List Int)) (j1:Int×Int×Int):Ann:=.loop ((List Int)×Int×Int×Int) (D33b2 x0 x1 i1 v1 j1) [] [20005] [(30005,some 20005)] (D33b2 x0 x1 i1 v1 j1 (v1,j1.1,j1.2.1,j1.2.2)) (A33b2 x0 x1 i1 v1 j1)
def A33b1 (x0:l01Cur) (x1:Family) (i1:Nat) (v1:(List Int)):Ann:=r0 1 [0,3,4,5,14,15,16] [3,20005,900000] (cn (decide (((i1:Nat):Int)<((x1.people.length:Nat):Int))) (r0 1 [0,3,4,5,6,14,15] [3,20005,900000] (.reg 1 [] [(2,bsC 20 (cInt .i64) ([((i1:Nat):Int)]:List Int)),(3,ap1 21 (cInt .i64) 8 v1 ((i1:Nat):Int))] [0,3,4,5,14,15] [3,21,900000] [] [] [] [0,4] (r1 1 [0,3,4,5,14,15] [3,21,900000] [pf (inR .i64 (((i1:Nat):Int)+1))] [0] (.next 0 [(20005,some 21)] (D33b1 x0 x1 (i1+1) (v1++[((i1:Nat):Int)])))))) (.join 1 (Int×Int×Int) (D33j1 x0 x1 i1 v1) [0,3,4,5] [900000,3,20005] (.reg 1 [] [(1,k75 24 [900000] x0 12)] [0,3,4,5,7] [3,20005,900000] [] [] [] [0] (.next 0 [] (D33j1 x0 x1 i1 v1 ((za8 x0 12).1,(za8 x0 12).2.1,(za8 x0 12).2.2)))) (A33j1 x0 x1 i1 v1)))
def A33 (x0:l01Cur) (x1:Family):Ann:=.reg 2 [] [(1000,bsC 11 (cInt .i64) ([]:List Int))] [0,3,4,5] [3,11,900000] [] [] [] [0] (r0 1 [0,3,4,5,14,15] [3,11,900000] (lp (D33b1 x0 x1) [] [11] [(20005,some 11)] (D33b1 x0 x1 0 ([]:List Int)) (A33b1 x0 x1)))
theorem znf (x0:l01Cur) (x1:Family) (hc:CurOk x0) (hn:x1.people.length≤40):FnMT Tryz.prog 33 [.vp 900000 0,.agg (zbx false x1)] [.var [.ro false 1 x0.b.length (rowOf (cInt .u8) x0.b),.int .i64 x0.i,.int .i64 x0.h]] (C33 x0 x1 (zjm x0 x1)):=by
 have aux:∀ R,zjm x0 x1=R→slim (C33 x0 x1 R) (A33 x0 x1) []:=by
  intro R hR
  refine rg ⟨trivial,trivial⟩ ?_
  refine rg trivial ?_
  revert hR;refine lN (fun i v=>(v:List Int)=upto i) (by (exact rfl)) rfl fun i1 v1 F1 hn1 hI1 hR hK1=>?_
  refine rg trivial ?_
  refine ⟨fun hc1=>?_,fun hc1=>?_⟩
  ·have hii1:i1<x1.people.length:=by have:=of_decide_eq_true hc1;omega
   replace hR:=zbj hR hii1
   refine rg trivial ?_
   refine rg ⟨trivial,by ((rw [hI1,zmi];omega)),trivial⟩ ?_
   refine rg ⟨by ( intros;simp only [inR];omega),trivial⟩ ?_
   exact hK1 (v1++[((i1:Nat):Int)]) hii1 (by ((rw [hI1,zmy]))) hR
  ·obtain rfl:i1=x1.people.length:=by have:=of_decide_eq_false hc1;omega
   replace hR:=zbp hR (Nat.lt_irrefl _)
   revert hR;refine jN (fun v=>(0≤v.1∧v.1≤255)∧CurOk ⟨x0.b,v.2.1,v.2.2⟩) (fun F101 hR hJ101=>?_) (fun j1 hR hJ1=>?_)
   ·
     refine rg ⟨⟨by with_reducible assumption,by (intros;omega)⟩,trivial⟩ ?_
     exact hJ101 ((za8 x0 12).1,(za8 x0 12).2.1,(za8 x0 12).2.2) hR (by ((have h9:=zbw hc (n:=12) om;exact ⟨⟨h9.1.1,h9.1.2.1⟩,h9.2⟩)))
   ·
     revert hR;refine lW (fun v=>OrP x1.people.length v.1∧v.2.1≤255∧CurOk ⟨x0.b,v.2.2.1,v.2.2.2⟩) (fun v=>Int.toNat (v.2.1)) (by (exact ⟨hI1 ▸ List.Perm.refl _,hJ1.1.2,hJ1.2⟩)) (Nat.lt_succ_self _) rfl fun m2 v2 F2 hI2 hM2 hR hK2=>?_
     refine rg trivial ?_
     revert hR;refine cd (fun hc2 hR=>?_) fun hc2 hR=>?_
     ·
       revert hR;refine jN (fun v=>(0≤v.1∧v.1<(v2.1.length:Int) - 1)∧CurOk ⟨x0.b,v.2.1,v.2.2⟩) (fun F102 hR hJ102=>?_) (fun j2 hR hJ2=>?_)
       ·
         refine rg ⟨by ((have h9:=hI2.1.len;(try have h8:=hJ2.1);(try have h7:=hJ1.1);(try (simp only [Bool.and_eq_true,decide_eq_true_eq] at hc2));(simp only [inR];omega))),⟨by (exact hI2.2.2),by ((have h9:=hI2.1.len;(try have h8:=hJ2.1);(try have h7:=hJ1.1);(try (simp only [Bool.and_eq_true,decide_eq_true_eq] at hc2));omega))⟩,trivial⟩ ?_
         exact hJ102 ((za8 (l01Cur.mk x0.b v2.2.2.1 v2.2.2.2) (((v2.1.length:Nat):Int) - 1)).1,(za8 (l01Cur.mk x0.b v2.2.2.1 v2.2.2.2) (((v2.1.length:Nat):Int) - 1)).2.1,(za8 (l01Cur.mk x0.b v2.2.2.1 v2.2.2.2) (((v2.1.length:Nat):Int) - 1)).2.2) hR (by ((have h9:=hI2.1.len;(try have h8:=hJ2.1);(try have h7:=hJ1.1);(try (simp only [Bool.and_eq_true,decide_eq_true_eq] at hc2));(have h6:=zbw hI2.2.2 (n:=((v2.1.length:Nat):Int) - 1) om;exact ⟨⟨h6.1.1,h6.1.2.2 om⟩,h6.2⟩))))
       ·
         refine rg ⟨by ((have h9:=hI2.1.len;(try have h8:=hJ2.1);(try have h7:=hJ1.1);(try (simp only [Bool.and_eq_true,decide_eq_true_eq] at hc2));(simp only [inR];omega))),by (intros;omega),by ((have h9:=hI2.1.len;(try have h8:=hJ2.1);(try have h7:=hJ1.1);(try (simp only [Bool.and_eq_true,decide_eq_true_eq] at hc2));exact hI2.1.at om)),trivial⟩ ?_
         revert hR;refine jN (fun v=>CurOk ⟨x0.b,v.2.1,v.2.2⟩) (fun F103 hR hJ103=>?_) (fun j3 hR hJ3=>?_)
         ·
           revert hR;refine cd (fun hs3 hR=>?_) fun hs3 hR=>?_
           ·
             refine rg ⟨by (intros;omega),by (intros;omega),by with_reducible assumption,⟨by (exact hJ2.2),by (intros;omega)⟩,trivial⟩ ?_
             exact hJ103 (((!decide (((x1.people.getD ((v2.1.getD ((j2.1+1).toNat) default).toNat) default).father)=(v2.1.getD j2.1.toNat default)))&&(!decide (((x1.people.getD ((v2.1.getD ((j2.1+1).toNat) default).toNat) default).mother)=(v2.1.getD j2.1.toNat default))))||((zbo (l01Cur.mk x0.b j2.2.1 j2.2.2) 30).1),(zbo (l01Cur.mk x0.b j2.2.1 j2.2.2) 30).2.1,(zbo (l01Cur.mk x0.b j2.2.1 j2.2.2) 30).2.2) hR (by (exact zcy hJ2.2 om))
           ·
             refine rg ⟨by (intros;omega),by (intros;omega),by with_reducible assumption,by ((intro h2;rw [h2] at hs3;cases hs3)),trivial⟩ ?_
             exact hJ103 (((!decide (((x1.people.getD ((v2.1.getD ((j2.1+1).toNat) default).toNat) default).father)=(v2.1.getD j2.1.toNat default)))&&(!decide (((x1.people.getD ((v2.1.getD ((j2.1+1).toNat) default).toNat) default).mother)=(v2.1.getD j2.1.toNat default))))||true,j2.2.1,j2.2.2) hR (by (exact hJ2.2))
         ·
           revert hR;refine cd (fun hc4 hR=>?_) fun hc4 hR=>?_
           ·
             refine rg ⟨by (intros;omega),by ((have h9:=hI2.1.len;(try have h8:=hJ2.1);(try have h7:=hJ1.1);(try (simp only [Bool.and_eq_true,decide_eq_true_eq] at hc2));(simp only [inR];omega))),by (intros;omega),by (intros;omega),trivial⟩ ?_
             refine rg ⟨by ((have h9:=hI2.1.len;(try have h8:=hJ2.1);(try have h7:=hJ1.1);(try (simp only [Bool.and_eq_true,decide_eq_true_eq] at hc2));(simp only [inR];omega))),by ((have h9:=hI2.1.len;(try have h8:=hJ2.1);(try have h7:=hJ1.1);(try (simp only [Bool.and_eq_true,decide_eq_true_eq] at hc2));((try simp only [List.length_set]);omega))),by ((have h9:=hI2.1.len;(try have h8:=hJ2.1);(try have h7:=hJ1.1);(try (simp only [Bool.and_eq_true,decide_eq_true_eq] at hc2));((try simp only [List.length_set]);omega))),trivial⟩ ?_
             refine rg ⟨by ((have h9:=hI2.1.len;(try have h8:=hJ2.1);(try have h7:=hJ1.1);(try (simp only [Bool.and_eq_true,decide_eq_true_eq] at hc2));(simp only [inR];omega))),trivial⟩ ?_
             exact hK2 (((v2.1.set j2.1.toNat (v2.1.getD ((j2.1+1).toNat) default)).set ((j2.1+1).toNat) (v2.1.getD j2.1.toNat default)),v2.2.1 - 1,j3.2.1,j3.2.2) (by ((have h9:=hI2.1.len;(try have h8:=hJ2.1);(try have h7:=hJ1.1);(try (simp only [Bool.and_eq_true,decide_eq_true_eq] at hc2));exact ⟨hI2.1.swap om om,by (dsimp only;omega),hJ3⟩))) (by ((have h9:=hI2.1.len;(try have h8:=hJ2.1);(try have h7:=hJ1.1);(try (simp only [Bool.and_eq_true,decide_eq_true_eq] at hc2));(simp only [inR];omega)))) hR
           ·
             refine rg ⟨by ((have h9:=hI2.1.len;(try have h8:=hJ2.1);(try have h7:=hJ1.1);(try (simp only [Bool.and_eq_true,decide_eq_true_eq] at hc2));(simp only [inR];omega))),trivial⟩ ?_
             exact hK2 (v2.1,v2.2.1 - 1,j3.2.1,j3.2.2) (by ((have h9:=hI2.1.len;(try have h8:=hJ2.1);(try have h7:=hJ1.1);(try (simp only [Bool.and_eq_true,decide_eq_true_eq] at hc2));exact ⟨hI2.1,by (dsimp only;omega),hJ3⟩))) (by ((have h9:=hI2.1.len;(try have h8:=hJ2.1);(try have h7:=hJ1.1);(try (simp only [Bool.and_eq_true,decide_eq_true_eq] at hc2));(simp only [inR];omega)))) hR
     ·
       refine rg trivial ?_
       exact congrArg (C33 x0 x1) hR
 exact FnM.go 86 Tryz.func33 zah zah (A33 x0 x1) zah (aux _ rfl)
def k33 (d:Nat) (ids:List Nat) (x0:l01Cur) (x1:Family):Cl:=(hresM d ids (C33 x0 x1 (zjm x0 x1)),k2 (znf x0 x1))
def C6 (R:(List Int)):LV×List (Nat×BC):=(.own 0,[(0,.arr 1 R.length (rowOf (cInt .i64) R))])
def zfv (x0:List Int) (x1:Family):(List Int):=(zjm (zfy x0) x1).1
def A6 (x0:List Int) (x1:Family):Ann:=.reg 2 [] [(1001,k34 6 [] x0),(1003,k33 8 [1006] (zfy x0) x1)] [4] [1008] [] [] [] [0,4] (rt [(0,some 1008)] (C6 ((zjm (zfy x0) x1).1)))
theorem zky (x0:List Int) (x1:Family) (hx:x0.length≤1048576) (hb:∀ y∈x0,0≤y∧y≤255) (hn:x1.people.length≤40):FnT Tryz.prog 6 [.ro false 1 x0.length (rowOf (cInt .u8) x0),.agg (zbx false x1)] (C6 (zfv x0 x1)):=by
 have aux:∀ R,zfv x0 x1=R→slim (C6 R) (A6 x0 x1) []:=by
  intro R hR
  refine rg ⟨⟨by trivial,by trivial⟩,⟨by (exact zgi hb hx),by trivial⟩,trivial⟩ ?_
  exact congrArg C6 hR
 exact Fn.go 9 Tryz.func6 zah zah (by simp [C6,Frs,FrsL,FrsB,rowOf,cInt,cBool,cStr,cSl,zce,zbq,zb4,zbx,cDyad,cLaw,zd4,cStep,zdv,zdh]) (A6 x0 x1) zah (aux _ rfl)
def k6 (x0:List Int) (x1:Family):Cl:=(hres (C6 (zfv x0 x1)),k3 (zky x0 x1))
def C8 (R:Family×Bool):LV×List (Nat×BC):=(.tup [.agg [.own 0,.own 1],.bool R.2],[(0,.arr 6 R.1.people.length (rowOf (zbq true) R.1.people)),(1,.arr 4 R.1.unions.length (rowOf (zb4 true) R.1.unions))])
def za6 (x0:Family) (x1:List Int):Family×Bool:=bif (((!(zb7 x0))||(!decide (((x1.length:Nat):Int)=((x0.people.length:Nat):Int))))||(!(ze6 x1))) then ((Family.mk ([]:List Person) ([]:List Union)),false) else (bif (!(zb7 (zfi x0 x1))) then ((Family.mk ([]:List Person) ([]:List Union)),false) else ((zfi x0 x1),true))
def A8 (x0:Family) (x1:List Int):Ann:=r0 1 [1,2,4,5] [2,4] (.reg 1 [] [(1,k35 x0),(13,cg (!((!(zb7 x0))||(!decide (((x1.length:Nat):Int)=((x0.people.length:Nat):Int))))) (k36 x1))] [1,2,4,5,22] [2,4] [!(!(zb7 x0)),!(zb7 x0),!((!(zb7 x0))||(!decide (((x1.length:Nat):Int)=((x0.people.length:Nat):Int)))),(!(zb7 x0))||(!decide (((x1.length:Nat):Int)=((x0.people.length:Nat):Int)))] [] [] [0,1,1,1,1,1,6,9,4,9,14] (cn (((!(zb7 x0))||(!decide (((x1.length:Nat):Int)=((x0.people.length:Nat):Int))))||(!(ze6 x1))) (r0 1 [1,2,4,5] [2,4] (rt [(0,none),(1,none)] (C8 ((Family.mk ([]:List Person) ([]:List Union)),false)))) (.reg 1 [] [(2,k37 x0 x1)] [4,5,6] [4,6,1026,2026] [] [] [] [0] (.reg 1 [] [(1,k35 (zfi x0 x1))] [4,5,6,29] [4,6,1026,2026] [] [] [] [0] (cn (!(zb7 (zfi x0 x1))) (r0 1 [4,5,6] [4,6,1026,2026] (rt [(0,none),(1,none)] (C8 ((Family.mk ([]:List Person) ([]:List Union)),false)))) (r0 1 [4,5] [4,1026,2026] (rt [(0,some 1026),(1,some 2026)] (C8 ((zfi x0 x1),true)))))))))
theorem zh4 (x0:Family) (x1:List Int) (hx:x0.people.length≤1048576) (hu:x0.unions.length≤1048576) (hn:∀ p∈x0.people,p.name.length≤1048576) (ho:OrP x0.people.length x1):FnT Tryz.prog 8 [.agg (zbx false x0),.ro false 1 x1.length (rowOf (cInt .i64) x1)] (C8 (za6 x0 x1)):=by
 have aux:∀ R,za6 x0 x1=R→slim (C8 R) (A8 x0 x1) []:=by
  intro R hR
  refine rg trivial ?_
  refine rg ⟨⟨by with_reducible assumption,by with_reducible assumption,by with_reducible assumption⟩,fun hg0=>by ((have h9:=ho.len;omega)),trivial⟩ ?_
  revert hR;refine cd (fun hc1 hR=>?_) fun hc1 hR=>?_
  ·
    refine rg trivial ?_
    exact congrArg C8 hR
  ·
    refine rg ⟨⟨by with_reducible assumption,by with_reducible assumption,by with_reducible assumption,by (exact zq8 hc1),by (exact ho.len),by (exact fun i h9=>ho.at h9)⟩,trivial⟩ ?_
    refine rg ⟨⟨by (exact (zmn (zq8 hc1) ho).1),by (exact (zmn (zq8 hc1) ho).2.1),by (exact (zmn (zq8 hc1) ho).2.2 hn)⟩,trivial⟩ ?_
    revert hR;refine cd (fun hc2 hR=>?_) fun hc2 hR=>?_
    ·
      refine rg trivial ?_
      exact congrArg C8 hR
    ·
      refine rg trivial ?_
      exact congrArg C8 hR
 exact Fn.go 32 Tryz.func8 zah zah (by simp [C8,Frs,FrsL,FrsB,rowOf,cInt,cBool,cStr,cSl,zce,zbq,zb4,zbx,cDyad,cLaw,zd4,cStep,zdv,zdh]) (A8 x0 x1) zah (aux _ rfl)
def k8 (x0:Family) (x1:List Int):Cl:=(hres (C8 (za6 x0 x1)),k4 (zh4 x0 x1))
end Go.Proofs.YtaageiiodlfeiaaGreat
