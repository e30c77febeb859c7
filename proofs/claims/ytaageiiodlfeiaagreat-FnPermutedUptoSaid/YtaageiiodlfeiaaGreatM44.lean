import Derived.Test.YtaageiiodlfeiaaGreatM43
set_option maxHeartbeats 4000000
set_option linter.unusedSimpArgs false
set_option linter.unusedVariables false
namespace Go.Proofs.YtaageiiodlfeiaaGreat
open Go Go.Lite Go.Proofs
def C145 (R:Bool):LV×List (Nat×BC):=(.bool R,[])
def zn5 (x0:Family) (x1:Int) (x2:Int):Bool:=(decide (((x0.people.getD x1.toNat default).born)<((x0.people.getD x2.toNat default).born)))||((decide (((x0.people.getD x1.toNat default).born)=((x0.people.getD x2.toNat default).born)))&&(decide (x1<x2)))
def A145 (x0:Family) (x1:Int) (x2:Int):Ann:=.reg 4 [] [] [6] [] [!(decide (((x0.people.getD x1.toNat default).born)<((x0.people.getD x2.toNat default).born))),(!(decide (((x0.people.getD x1.toNat default).born)<((x0.people.getD x2.toNat default).born))))&&(decide (((x0.people.getD x1.toNat default).born)=((x0.people.getD x2.toNat default).born))),decide (((x0.people.getD x1.toNat default).born)<((x0.people.getD x2.toNat default).born))] [pf (0≤(x1:Int)∧(x1:Int)<((x0.people.length:Nat):Int)),pf (0≤(x2:Int)∧(x2:Int)<((x0.people.length:Nat):Int)),gt (!(decide (((x0.people.getD x1.toNat default).born)<((x0.people.getD x2.toNat default).born)))) (gt (decide (((x0.people.getD x1.toNat default).born)=((x0.people.getD x2.toNat default).born))) (pf (((!(decide (((x0.people.getD x1.toNat default).born)<((x0.people.getD x2.toNat default).born))))&&(decide (((x0.people.getD x1.toNat default).born)=((x0.people.getD x2.toNat default).born))))=true)))] [] [0,4,1,1,1,5,5,1,8,10] (rt [] (C145 ((decide (((x0.people.getD x1.toNat default).born)<((x0.people.getD x2.toNat default).born)))||((decide (((x0.people.getD x1.toNat default).born)=((x0.people.getD x2.toNat default).born)))&&(decide (x1<x2))))))
theorem zng (x0:Family) (x1:Int) (x2:Int) (hx:x0.people.length≤1048576) (h1:0≤x1∧x1<x0.people.length) (h2:0≤x2∧x2<x0.people.length):FnT Tryz.prog 145 [.agg (zbx false x0),.int .i64 x1,.int .i64 x2] (C145 (zn5 x0 x1 x2)):=by
 have aux:∀ R,zn5 x0 x1 x2=R→slim (C145 R) (A145 x0 x1 x2) []:=by
  intro R hR
  refine rg ⟨by trivial,by trivial,by ((try clear hR);intros;(try simp only [decide_eq_true_eq,decide_eq_false_iff_not,Bool.or_eq_true,Bool.and_eq_true,zbd,za9,zba,Bool.not_eq_true',inR] at *);(repeat' apply And.intro)<;>(intros;omega)),trivial⟩ ?_
  exact congrArg C145 hR
 exact Fn.go 34 Tryz.func145 zah zah (by simp [C145,Frs,FrsL]) (A145 x0 x1 x2) zah (aux _ rfl)
def k145 (x0:Family) (x1:Int) (x2:Int):Cl:=(hres (C145 (zn5 x0 x1 x2)),k3 (zng x0 x1 x2))
def C123 (x0:l01Cur) (x1:Family) (x2:List Int) (x3:Int) (R:Int×Int×Int):LV×List (Nat×BC):=(.int .i64 R.1,[(900000,.var [.ro false 1 x0.b.length (rowOf (cInt .u8) x0.b),.int .i64 R.2.1,.int .i64 R.2.2]),(900001,.arr 6 x1.people.length (rowOf (zbq true) x1.people)),(900002,.arr 4 x1.unions.length (rowOf (zb4 true) x1.unions)),(900003,.arr 1 x2.length (rowOf (cInt .i64) x2))])
def zcj (x0:l01Cur) (x1:Family) (x2:List Int) (x3:Int):Int×Int×Int:=loopW (fun (v1:Int×Int×Int) next=>bif ((decide (v1.1<6))&&(decide (0<((x1.people.length:Nat):Int)))) then (jn (fun K1=>K1 ((za8 (l01Cur.mk x0.b v1.2.1 v1.2.2) ((x1.people.length:Nat):Int)).1,(za8 (l01Cur.mk x0.b v1.2.1 v1.2.2) ((x1.people.length:Nat):Int)).2.1,(za8 (l01Cur.mk x0.b v1.2.1 v1.2.2) ((x1.people.length:Nat):Int)).2.2)) (fun (j1:Int×Int×Int)=>jn (fun K2=>K2 ((zbo (l01Cur.mk x0.b j1.2.1 j1.2.2) 2).1,(zbo (l01Cur.mk x0.b j1.2.1 j1.2.2) 2).2.1,(zbo (l01Cur.mk x0.b j1.2.1 j1.2.2) 2).2.2)) (fun (j2:Bool×Int×Int)=>bif j2.1 then (bif ((decide (((x1.people.getD (((((x1.people.length:Nat):Int) - 1) - ((za8 (l01Cur.mk x0.b j2.2.1 j2.2.2) (Min.min ((x1.people.length:Nat):Int) 5)).1)).toNat) default).sex)=x3))&&(decide ((x2.getD (((((x1.people.length:Nat):Int) - 1) - ((za8 (l01Cur.mk x0.b j2.2.1 j2.2.2) (Min.min ((x1.people.length:Nat):Int) 5)).1)).toNat) default)<10))) then ((((x1.people.length:Nat):Int) - 1) - ((za8 (l01Cur.mk x0.b j2.2.1 j2.2.2) (Min.min ((x1.people.length:Nat):Int) 5)).1),(za8 (l01Cur.mk x0.b j2.2.1 j2.2.2) (Min.min ((x1.people.length:Nat):Int) 5)).2.1,(za8 (l01Cur.mk x0.b j2.2.1 j2.2.2) (Min.min ((x1.people.length:Nat):Int) 5)).2.2) else (next (v1.1+1,(za8 (l01Cur.mk x0.b j2.2.1 j2.2.2) (Min.min ((x1.people.length:Nat):Int) 5)).2.1,(za8 (l01Cur.mk x0.b j2.2.1 j2.2.2) (Min.min ((x1.people.length:Nat):Int) 5)).2.2))) else (bif ((decide (((x1.people.getD j1.1.toNat default).sex)=x3))&&(decide ((x2.getD j1.1.toNat default)<10))) then (j1.1,j2.2.1,j2.2.2) else (next (v1.1+1,j2.2.1,j2.2.2)))))) else ((-1),v1.2.1,v1.2.2)) ((6 - Int.toNat (0))+1) (0,x0.i,x0.h)
def zvx (x0:l01Cur) (x1:Family) (x2:List Int) (x3:Int) (v1:Int×Int×Int):Dl:=⟨[(10,.int .i64 v1.1)],[(900000,.var [.ro false 1 x0.b.length (rowOf (cInt .u8) x0.b),.int .i64 v1.2.1,.int .i64 v1.2.2])]⟩
def z0j (x0:l01Cur) (x1:Family) (x2:List Int) (x3:Int) (v1:Int×Int×Int) (j1:Int×Int×Int):Dl:=⟨[(11,.int .i64 j1.1)],[(900000,.var [.ro false 1 x0.b.length (rowOf (cInt .u8) x0.b),.int .i64 j1.2.1,.int .i64 j1.2.2])]⟩
def z0i (x0:l01Cur) (x1:Family) (x2:List Int) (x3:Int) (v1:Int×Int×Int) (j1:Int×Int×Int) (j2:Bool×Int×Int):Dl:=⟨[(27,.bool j2.1)],[(900000,.var [.ro false 1 x0.b.length (rowOf (cInt .u8) x0.b),.int .i64 j2.2.1,.int .i64 j2.2.2])]⟩
def A123j2 (x0:l01Cur) (x1:Family) (x2:List Int) (x3:Int) (v1:Int×Int×Int) (j1:Int×Int×Int) (j2:Bool×Int×Int):Ann:=cn j2.1 (.reg 1 [] [(5,k75 33 [900000] (l01Cur.mk x0.b j2.2.1 j2.2.2) (Min.min ((x1.people.length:Nat):Int) 5))] [0,2,3,5,8,9,10,11] [5,900000,900001,900002,900003] [] [pf (inR .i64 (((x1.people.length:Nat):Int) - 1)),pf (inR .i64 ((((x1.people.length:Nat):Int) - 1) - ((za8 (l01Cur.mk x0.b j2.2.1 j2.2.2) (Min.min ((x1.people.length:Nat):Int) 5)).1)))] [] [0,8,4] (.reg 1 [] [] [0,2,3,5,8,9,10,11,49] [5,900000,900001,900002,900003] [decide (((x1.people.getD (((((x1.people.length:Nat):Int) - 1) - ((za8 (l01Cur.mk x0.b j2.2.1 j2.2.2) (Min.min ((x1.people.length:Nat):Int) 5)).1)).toNat) default).sex)=x3)] [pf (0≤((((x1.people.length:Nat):Int) - 1) - ((za8 (l01Cur.mk x0.b j2.2.1 j2.2.2) (Min.min ((x1.people.length:Nat):Int) 5)).1):Int)∧((((x1.people.length:Nat):Int) - 1) - ((za8 (l01Cur.mk x0.b j2.2.1 j2.2.2) (Min.min ((x1.people.length:Nat):Int) 5)).1):Int)<((x1.people.length:Nat):Int)),gt (decide (((x1.people.getD (((((x1.people.length:Nat):Int) - 1) - ((za8 (l01Cur.mk x0.b j2.2.1 j2.2.2) (Min.min ((x1.people.length:Nat):Int) 5)).1)).toNat) default).sex)=x3)) (pf (0≤((((x1.people.length:Nat):Int) - 1) - ((za8 (l01Cur.mk x0.b j2.2.1 j2.2.2) (Min.min ((x1.people.length:Nat):Int) 5)).1):Int)∧((((x1.people.length:Nat):Int) - 1) - ((za8 (l01Cur.mk x0.b j2.2.1 j2.2.2) (Min.min ((x1.people.length:Nat):Int) 5)).1):Int)<((x2.length:Nat):Int)))] [] [0,1,1,4,1,1,1] (cn ((decide (((x1.people.getD (((((x1.people.length:Nat):Int) - 1) - ((za8 (l01Cur.mk x0.b j2.2.1 j2.2.2) (Min.min ((x1.people.length:Nat):Int) 5)).1)).toNat) default).sex)=x3))&&(decide ((x2.getD (((((x1.people.length:Nat):Int) - 1) - ((za8 (l01Cur.mk x0.b j2.2.1 j2.2.2) (Min.min ((x1.people.length:Nat):Int) 5)).1)).toNat) default)<10))) (r0 1 [0,2,3,5,8,9,10] [5,900000,900001,900002,900003] (rt [(900000,some 900000),(900001,some 900001),(900002,some 900002),(900003,some 900003)] (C123 x0 x1 x2 x3 ((((x1.people.length:Nat):Int) - 1) - ((za8 (l01Cur.mk x0.b j2.2.1 j2.2.2) (Min.min ((x1.people.length:Nat):Int) 5)).1),(za8 (l01Cur.mk x0.b j2.2.1 j2.2.2) (Min.min ((x1.people.length:Nat):Int) 5)).2.1,(za8 (l01Cur.mk x0.b j2.2.1 j2.2.2) (Min.min ((x1.people.length:Nat):Int) 5)).2.2)))) (r1 1 [0,2,3,5,8,9,10] [5,900000,900001,900002,900003] [pf (inR .i64 (v1.1+1))] [0] (.next 0 [] (zvx x0 x1 x2 x3 (v1.1+1,(za8 (l01Cur.mk x0.b j2.2.1 j2.2.2) (Min.min ((x1.people.length:Nat):Int) 5)).2.1,(za8 (l01Cur.mk x0.b j2.2.1 j2.2.2) (Min.min ((x1.people.length:Nat):Int) 5)).2.2))))))) (.reg 1 [] [] [0,2,3,5,8,9,10,11,49] [5,900000,900001,900002,900003] [decide (((x1.people.getD j1.1.toNat default).sex)=x3)] [pf (0≤(j1.1:Int)∧(j1.1:Int)<((x1.people.length:Nat):Int)),gt (decide (((x1.people.getD j1.1.toNat default).sex)=x3)) (pf (0≤(j1.1:Int)∧(j1.1:Int)<((x2.length:Nat):Int)))] [] [0,1,1,4,1,1,1] (cn ((decide (((x1.people.getD j1.1.toNat default).sex)=x3))&&(decide ((x2.getD j1.1.toNat default)<10))) (r0 1 [0,2,3,5,8,9,10] [5,900000,900001,900002,900003] (rt [(900000,some 900000),(900001,some 900001),(900002,some 900002),(900003,some 900003)] (C123 x0 x1 x2 x3 (j1.1,j2.2.1,j2.2.2)))) (r1 1 [0,2,3,5,8,9,10] [5,900000,900001,900002,900003] [pf (inR .i64 (v1.1+1))] [0] (.next 0 [] (zvx x0 x1 x2 x3 (v1.1+1,j2.2.1,j2.2.2))))))
def A123j1 (x0:l01Cur) (x1:Family) (x2:List Int) (x3:Int) (v1:Int×Int×Int) (j1:Int×Int×Int):Ann:=.join 1 (Bool×Int×Int) (z0i x0 x1 x2 x3 v1 j1) [0,2,3,5,8,9,10,11] [900000,900003,5,900001,900002] (.reg 1 [] [(1,k76 27 [900000] (l01Cur.mk x0.b j1.2.1 j1.2.2) 2)] [0,2,3,5,8,9,10,11,27] [5,900000,900001,900002,900003] [] [] [] [0] (.next 0 [] (z0i x0 x1 x2 x3 v1 j1 ((zbo (l01Cur.mk x0.b j1.2.1 j1.2.2) 2).1,(zbo (l01Cur.mk x0.b j1.2.1 j1.2.2) 2).2.1,(zbo (l01Cur.mk x0.b j1.2.1 j1.2.2) 2).2.2)))) (A123j2 x0 x1 x2 x3 v1 j1)
def A123b1 (x0:l01Cur) (x1:Family) (x2:List Int) (x3:Int) (v1:Int×Int×Int):Ann:=.reg 1 [] [] [0,2,3,5,8,9,10,20] [5,900000,900001,900002,900003] [decide (v1.1<6)] [] [] [1,1] (cn ((decide (v1.1<6))&&(decide (0<((x1.people.length:Nat):Int)))) (.join 1 (Int×Int×Int) (z0j x0 x1 x2 x3 v1) [0,2,3,5,8,9,10] [900000,900003,5,900001,900002] (.reg 1 [] [(2,k75 25 [900000] (l01Cur.mk x0.b v1.2.1 v1.2.2) ((x1.people.length:Nat):Int))] [0,2,3,5,8,9,10,11] [5,900000,900001,900002,900003] [] [] [] [0] (.next 0 [] (z0j x0 x1 x2 x3 v1 ((za8 (l01Cur.mk x0.b v1.2.1 v1.2.2) ((x1.people.length:Nat):Int)).1,(za8 (l01Cur.mk x0.b v1.2.1 v1.2.2) ((x1.people.length:Nat):Int)).2.1,(za8 (l01Cur.mk x0.b v1.2.1 v1.2.2) ((x1.people.length:Nat):Int)).2.2)))) (A123j1 x0 x1 x2 x3 v1)) (r0 1 [8] [900000,900001,900002,900003] (rt [(900000,some 900000),(900001,some 900001),(900002,some 900002),(900003,some 900003)] (C123 x0 x1 x2 x3 ((-1),v1.2.1,v1.2.2)))))
def A123 (x0:l01Cur) (x1:Family) (x2:List Int) (x3:Int):Ann:=r0 2 [0,2,3,5,8,9] [5,900000,900001,900002,900003] (r0 1 [0,2,3,5,8,9,10] [5,900000,900001,900002,900003] (.loop (Int×Int×Int) (zvx x0 x1 x2 x3) [] [] [] (zvx x0 x1 x2 x3 (0,x0.i,x0.h)) (A123b1 x0 x1 x2 x3)))
theorem zox (x0:l01Cur) (x1:Family) (x2:List Int) (x3:Int) (hc:CurOk x0) (hx:x1.people.length≤40) (hd:x2.length=x1.people.length):FnMT Tryz.prog 123 [.vp 900000 0,.agg [.own 900001,.own 900002],.own 900003,.int .i64 x3] [.var [.ro false 1 x0.b.length (rowOf (cInt .u8) x0.b),.int .i64 x0.i,.int .i64 x0.h],.arr 6 x1.people.length (rowOf (zbq true) x1.people),.arr 4 x1.unions.length (rowOf (zb4 true) x1.unions),.arr 1 x2.length (rowOf (cInt .i64) x2)] (C123 x0 x1 x2 x3 (zcj x0 x1 x2 x3)):=by
 have aux:∀ R,zcj x0 x1 x2 x3=R→slim (C123 x0 x1 x2 x3 R) (A123 x0 x1 x2 x3) []:=by
  intro R hR
  refine rg trivial ?_
  refine rg trivial ?_
  revert hR;refine lW (fun v=>CurOk ⟨x0.b,v.2.1,v.2.2⟩∧0≤v.1∧v.1≤6) (fun v=>(6 - Int.toNat (v.1))) (by (exact ⟨hc,om⟩)) (Nat.lt_succ_self _) rfl fun m1 v1 F1 hI1 hM1 hR hK1=>?_
  refine rg trivial ?_
  revert hR;refine cd (fun hc1 hR=>?_) fun hc1 hR=>?_
  ·
    revert hR;refine jN (fun v=>(0≤v.1∧v.1<x1.people.length)∧CurOk ⟨x0.b,v.2.1,v.2.2⟩) (fun F101 hR hJ101=>?_) (fun j1 hR hJ1=>?_)
    ·
      refine rg ⟨⟨by (exact hI1.1),by (intros;omega)⟩,trivial⟩ ?_
      exact hJ101 ((za8 (l01Cur.mk x0.b v1.2.1 v1.2.2) ((x1.people.length:Nat):Int)).1,(za8 (l01Cur.mk x0.b v1.2.1 v1.2.2) ((x1.people.length:Nat):Int)).2.1,(za8 (l01Cur.mk x0.b v1.2.1 v1.2.2) ((x1.people.length:Nat):Int)).2.2) hR (by (have h9:=zbw hI1.1 (n:=((x1.people.length:Nat):Int)) om;simp only [Bool.and_eq_true,decide_eq_true_eq] at hc1;exact ⟨⟨h9.1.1,h9.1.2.2 hc1.2⟩,h9.2⟩))
    ·
      revert hR;refine jN (fun v=>CurOk ⟨x0.b,v.2.1,v.2.2⟩) (fun F102 hR hJ102=>?_) (fun j2 hR hJ2=>?_)
      ·
        refine rg ⟨⟨by (exact hJ1.2),by trivial⟩,trivial⟩ ?_
        exact hJ102 ((zbo (l01Cur.mk x0.b j1.2.1 j1.2.2) 2).1,(zbo (l01Cur.mk x0.b j1.2.1 j1.2.2) 2).2.1,(zbo (l01Cur.mk x0.b j1.2.1 j1.2.2) 2).2.2) hR (by (exact zcy hJ1.2 om))
      ·
        revert hR;refine cd (fun hc2 hR=>?_) fun hc2 hR=>?_
        ·
          refine rg ⟨by ( intros;simp only [inR];omega),by (have h9:=zbw hJ2 (n:=Min.min ((x1.people.length:Nat):Int) 5) om;simp only [Bool.and_eq_true,decide_eq_true_eq] at hc1;(try simp only [inR]);omega),⟨by trivial,by (intros;omega)⟩,trivial⟩ ?_
          refine rg ⟨by (have h9:=zbw hJ2 (n:=Min.min ((x1.people.length:Nat):Int) 5) om;simp only [Bool.and_eq_true,decide_eq_true_eq] at hc1;(try simp only [inR]);omega),by (have h9:=zbw hJ2 (n:=Min.min ((x1.people.length:Nat):Int) 5) om;simp only [Bool.and_eq_true,decide_eq_true_eq] at hc1;(try simp only [inR]);omega),trivial⟩ ?_
          revert hR;refine cd (fun hc3 hR=>?_) fun hc3 hR=>?_
          ·
            refine rg trivial ?_
            exact congrArg (C123 x0 x1 x2 x3) hR
          ·
            refine rg ⟨by ( intros;simp only [inR];omega),trivial⟩ ?_
            exact hK1 (v1.1+1,(za8 (l01Cur.mk x0.b j2.2.1 j2.2.2) (Min.min ((x1.people.length:Nat):Int) 5)).2.1,(za8 (l01Cur.mk x0.b j2.2.1 j2.2.2) (Min.min ((x1.people.length:Nat):Int) 5)).2.2) (by (simp only [Bool.and_eq_true,decide_eq_true_eq] at hc1;exact ⟨(zbw hJ2 (n:=Min.min ((x1.people.length:Nat):Int) 5) om).2,om⟩)) (by (have h9:=zbw hJ2 (n:=Min.min ((x1.people.length:Nat):Int) 5) om;simp only [Bool.and_eq_true,decide_eq_true_eq] at hc1;(try simp only [inR]);omega)) hR
        ·
          refine rg ⟨by (intros;omega),by (intros;omega),trivial⟩ ?_
          revert hR;refine cd (fun hc4 hR=>?_) fun hc4 hR=>?_
          ·
            refine rg trivial ?_
            exact congrArg (C123 x0 x1 x2 x3) hR
          ·
            refine rg ⟨by ( intros;simp only [inR];omega),trivial⟩ ?_
            exact hK1 (v1.1+1,j2.2.1,j2.2.2) (by (simp only [Bool.and_eq_true,decide_eq_true_eq] at hc1;exact ⟨hJ2,om⟩)) (by (have h9:=zbw hJ2 (n:=Min.min ((x1.people.length:Nat):Int) 5) om;simp only [Bool.and_eq_true,decide_eq_true_eq] at hc1;(try simp only [inR]);omega)) hR
  ·
    refine rg trivial ?_
    exact congrArg (C123 x0 x1 x2 x3) hR
 exact FnM.go 51 Tryz.func123 zah zah (A123 x0 x1 x2 x3) zah (aux _ rfl)
def k123 (d:Nat) (ids:List Nat) (x0:l01Cur) (x1:Family) (x2:List Int) (x3:Int):Cl:=(hresM d ids (C123 x0 x1 x2 x3 (zcj x0 x1 x2 x3)),k3 (zox x0 x1 x2 x3))
theorem jn_eq {S α:Type} (f:(S→α)→α) (k:S→α):jn f k=f k:=rfl
theorem zn4 {c : l01Cur} (h : CurOk c) {f : Family} {d : List Int} (hx : f.people.length ≤ 40) (s : Int) :
    ((zcj c f d s).1=-1∨(0≤(zcj c f d s).1∧(zcj c f d s).1<f.people.length∧(f.people.getD (zcj c f d s).1.toNat default).sex=s∧d.getD (zcj c f d s).1.toNat default<10))∧CurOk ⟨c.b,(zcj c f d s).2.1,(zcj c f d s).2.2⟩:=by
 unfold zcj
 refine ze0 (fun v=>CurOk ⟨c.b,v.2.1,v.2.2⟩∧0≤v.1∧v.1≤6) (fun v=>6 - Int.toNat v.1) (fun (r:Int×Int×Int)=>(r.1=-1∨(0≤r.1∧r.1<f.people.length∧(f.people.getD r.1.toNat default).sex=s∧d.getD r.1.toNat default<10))∧CurOk ⟨c.b,r.2.1,r.2.2⟩) (fun v next hv hn=>?_) _ _ (Nat.lt_succ_self _) ⟨h,by simp,by simp⟩
 refine zbm (p:=fun (r:Int×Int×Int)=>(r.1=-1∨(0≤r.1∧r.1<f.people.length∧(f.people.getD r.1.toNat default).sex=s∧d.getD r.1.toNat default<10))∧CurOk ⟨c.b,r.2.1,r.2.2⟩) (fun c1=>?_) (fun _=>⟨.inl rfl,hv.1⟩)
 simp only [Bool.and_eq_true,decide_eq_true_eq] at c1
 have b1:=zbw hv.1 (n:=((f.people.length:Nat):Int)) om
 have b2:=zcy b1.2 (n:=2) om
 have b3:=zbw b2 (n:=Min.min ((f.people.length:Nat):Int) 5) om
 dsimp only at b1 b2 b3
 have hk:∀ a b,CurOk ⟨c.b,a,b⟩→(next (v.1+1,a,b)).1=(next (v.1+1,a,b)).1→((next (v.1+1,a,b)).1=-1∨(0≤(next (v.1+1,a,b)).1∧(next (v.1+1,a,b)).1<f.people.length∧(f.people.getD (next (v.1+1,a,b)).1.toNat default).sex=s∧d.getD (next (v.1+1,a,b)).1.toNat default<10))∧CurOk ⟨c.b,(next (v.1+1,a,b)).2.1,(next (v.1+1,a,b)).2.2⟩:=fun a b hab _=>hn _ ⟨hab,by simp only;omega⟩ zaz
 simp only [jn_eq]
 refine zbm (p:=fun (r:Int×Int×Int)=>(r.1=-1∨(0≤r.1∧r.1<f.people.length∧(f.people.getD r.1.toNat default).sex=s∧d.getD r.1.toNat default<10))∧CurOk ⟨c.b,r.2.1,r.2.2⟩) (fun c2=>?_) (fun c2=>?_)
 ·refine zbm (p:=fun (r:Int×Int×Int)=>(r.1=-1∨(0≤r.1∧r.1<f.people.length∧(f.people.getD r.1.toNat default).sex=s∧d.getD r.1.toNat default<10))∧CurOk ⟨c.b,r.2.1,r.2.2⟩) (fun c3=>?_) (fun c3=>hk _ _ b3.2 rfl)
  simp only [Bool.and_eq_true,decide_eq_true_eq] at c3
  exact ⟨.inr ⟨by simp only;omega,by simp only;omega,c3.1,c3.2⟩,b3.2⟩
 ·refine zbm (p:=fun (r:Int×Int×Int)=>(r.1=-1∨(0≤r.1∧r.1<f.people.length∧(f.people.getD r.1.toNat default).sex=s∧d.getD r.1.toNat default<10))∧CurOk ⟨c.b,r.2.1,r.2.2⟩) (fun c3=>?_) (fun c3=>hk _ _ b2 rfl)
  simp only [Bool.and_eq_true,decide_eq_true_eq] at c3
  exact ⟨.inr ⟨b1.1.1,b1.1.2.2 om,c3.1,c3.2⟩,b2⟩
theorem zgo {x:Family} (hf:za4 x=true) {r:Int} (hr:0≤r∧r<x.people.length):0≤(x.people.getD r.toNat default).born∧(x.people.getD r.toNat default).born≤9999:=(fam_p hf (k:=r.toNat) om).born
theorem mem5 {n:Int} (h:n∈([0,1,16,20,30]:List Int)):0≤n∧n≤30:=by
 simp only [List.mem_cons,List.not_mem_nil,or_false] at h;omega
theorem mem3 {n:Int} (h:n∈([0,1,9]:List Int)):0≤n∧n≤9:=by
 simp only [List.mem_cons,List.not_mem_nil,or_false] at h;omega
end Go.Proofs.YtaageiiodlfeiaaGreat
