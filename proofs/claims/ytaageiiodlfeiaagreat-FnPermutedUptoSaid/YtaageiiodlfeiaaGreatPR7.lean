import Derived.Test.YtaageiiodlfeiaaGreatPR6
set_option maxHeartbeats 4000000
set_option linter.unusedSimpArgs false
set_option linter.unusedVariables false
namespace Go.Proofs.YtaageiiodlfeiaaGreat
open Go Go.Lite Go.Proofs
def C113 (R:Bool):LV×List (Nat×BC):=(.bool R,[])
def zcs (x0:Family) (x1:Int) (x2:Int):Bool:=(decide (((x0.people.getD x1.toNat default).born)<((x0.people.getD x2.toNat default).born)))||((decide (((x0.people.getD x1.toNat default).born)=((x0.people.getD x2.toNat default).born)))&&(decide (x1<x2)))
def A113 (x0:Family) (x1:Int) (x2:Int):Ann:=.reg 3 [] [] [6] [] [!(decide (((x0.people.getD x1.toNat default).born)<((x0.people.getD x2.toNat default).born))),(!(decide (((x0.people.getD x1.toNat default).born)<((x0.people.getD x2.toNat default).born))))&&(decide (((x0.people.getD x1.toNat default).born)=((x0.people.getD x2.toNat default).born))),decide (((x0.people.getD x1.toNat default).born)<((x0.people.getD x2.toNat default).born))] [pf (0≤(x1:Int)∧(x1:Int)<((x0.people.length:Nat):Int)),pf (0≤(x2:Int)∧(x2:Int)<((x0.people.length:Nat):Int)),gt (!(decide (((x0.people.getD x1.toNat default).born)<((x0.people.getD x2.toNat default).born)))) (gt (decide (((x0.people.getD x1.toNat default).born)=((x0.people.getD x2.toNat default).born))) (pf (((!(decide (((x0.people.getD x1.toNat default).born)<((x0.people.getD x2.toNat default).born))))&&(decide (((x0.people.getD x1.toNat default).born)=((x0.people.getD x2.toNat default).born))))=true)))] [] [0,4,1,1,1,5,5,1,8,10] (rt [] (C113 ((decide (((x0.people.getD x1.toNat default).born)<((x0.people.getD x2.toNat default).born)))||((decide (((x0.people.getD x1.toNat default).born)=((x0.people.getD x2.toNat default).born)))&&(decide (x1<x2))))))
theorem zno (x0:Family) (x1:Int) (x2:Int) (h1:0≤x1∧x1<x0.people.length) (h2:0≤x2∧x2<x0.people.length):FnT Tryz.prog 113 [.agg (zbx false x0),.int .i64 x1,.int .i64 x2] (C113 (zcs x0 x1 x2)):=by
 have aux:∀ R,zcs x0 x1 x2=R→slim (C113 R) (A113 x0 x1 x2) []:=by
  intro R hR
  refine rg ⟨by trivial,by trivial,by ((try clear hR);intros;(try simp only [decide_eq_true_eq,decide_eq_false_iff_not,Bool.or_eq_true,Bool.and_eq_true,zbd,za9,zba,Bool.not_eq_true',inR] at *);(repeat' apply And.intro)<;>(intros;omega)),trivial⟩ ?_
  exact congrArg C113 hR
 exact Fn.go 34 Tryz.func113 zah zah (by simp [C113,Frs,FrsL]) (A113 x0 x1 x2) zah (aux _ rfl)
def k113 (x0:Family) (x1:Int) (x2:Int):Cl:=(hres (C113 (zcs x0 x1 x2)),k2 (zno x0 x1 x2))
def C71 (R:Bool):LV×List (Nat×BC):=(.bool R,[])
def zc7 (x0:Family) (x1:Int) (x2:Int):Bool:=(decide (((x0.people.getD x2.toNat default).father)=x1))||(decide (((x0.people.getD x2.toNat default).mother)=x1))
def A71 (x0:Family) (x1:Int) (x2:Int):Ann:=.reg 2 [] [] [6] [] [!(decide (((x0.people.getD x2.toNat default).father)=x1)),decide (((x0.people.getD x2.toNat default).father)=x1)] [pf (0≤(x2:Int)∧(x2:Int)<((x0.people.length:Nat):Int)),gt (!(decide (((x0.people.getD x2.toNat default).father)=x1))) (pf (0≤(x2:Int)∧(x2:Int)<((x0.people.length:Nat):Int)))] [] [0,1,1,1,4,1,1,1,1,6] (rt [] (C71 ((decide (((x0.people.getD x2.toNat default).father)=x1))||(decide (((x0.people.getD x2.toNat default).mother)=x1)))))
theorem zmb (x0:Family) (x1:Int) (x2:Int) (h2:0≤x2∧x2<x0.people.length):FnT Tryz.prog 71 [.agg (zbx false x0),.int .i64 x1,.int .i64 x2] (C71 (zc7 x0 x1 x2)):=by
 have aux:∀ R,zc7 x0 x1 x2=R→slim (C71 R) (A71 x0 x1 x2) []:=by
  intro R hR
  refine rg ⟨by trivial,by (intros;omega),trivial⟩ ?_
  exact congrArg C71 hR
 exact Fn.go 25 Tryz.func71 zah zah (by simp [C71,Frs,FrsL]) (A71 x0 x1 x2) zah (aux _ rfl)
def k71 (x0:Family) (x1:Int) (x2:Int):Cl:=(hres (C71 (zc7 x0 x1 x2)),k1 (zmb x0 x1 x2))
def C111 (R:Bool):LV×List (Nat×BC):=(.bool R,[])
def zd8 (x0:Int) (x1:Int) (x2:Family) (x3:Step) (x4:KV→Option Bool):Bool:=bif (decide (x3.kind=1)) then (decide (((x2.people.getD x0.toNat default).father)=x1)) else (bif (decide (x3.kind=2)) then (decide (((x2.people.getD x0.toNat default).mother)=x1)) else (bif (decide (x3.kind=3)) then (bif (decide (x3.kind=3)) then ((((decide (((x2.people.getD x1.toNat default).sex)=(zb8 x3.kind)))&&(zcw x2 x0 x1))&&((!decide (x3.age=1))||(zcs x2 x1 x0)))&&((!decide (x3.age=2))||(zcs x2 x0 x1))) else (bif (decide (x3.kind=5)) then (bif (decide (x3.kind=5)) then ((decide (((x2.people.getD x1.toNat default).sex)=(zb8 x3.kind)))&&(zc7 x2 x0 x1)) else ((x4 (KV.p x0 x1)).getD false)) else (bif (decide (x3.kind=6)) then ((decide (((x2.people.getD x1.toNat default).sex)=(zb8 x3.kind)))&&(zc7 x2 x0 x1)) else ((x4 (KV.p x0 x1)).getD false)))) else (bif (decide (x3.kind=4)) then ((((decide (((x2.people.getD x1.toNat default).sex)=(zb8 x3.kind)))&&(zcw x2 x0 x1))&&((!decide (x3.age=1))||(zcs x2 x1 x0)))&&((!decide (x3.age=2))||(zcs x2 x0 x1))) else (bif (decide (x3.kind=5)) then (bif (decide (x3.kind=5)) then ((decide (((x2.people.getD x1.toNat default).sex)=(zb8 x3.kind)))&&(zc7 x2 x0 x1)) else ((x4 (KV.p x0 x1)).getD false)) else (bif (decide (x3.kind=6)) then ((decide (((x2.people.getD x1.toNat default).sex)=(zb8 x3.kind)))&&(zc7 x2 x0 x1)) else ((x4 (KV.p x0 x1)).getD false))))))
def A111 (x0:Int) (x1:Int) (x2:Family) (x3:Step) (x4:KV→Option Bool):Ann:=.reg 2 [] [(1008,k95 x3.kind)] [0,1,2,3,4,7,8] [] [] [pf (0≤(x1:Int)∧(x1:Int)<((x2.people.length:Nat):Int))] [] [0,4] (r0 1 [0,1,2,3,4,7,8,20] [] (r0 1 [0,1,2,3,4,7,8,20,21] [] (cn (decide (x3.kind=1)) (r1 1 [0,1,4,7] [] [pf (0≤(x0:Int)∧(x0:Int)<((x2.people.length:Nat):Int))] [0] (rt [] (C111 (decide (((x2.people.getD x0.toNat default).father)=x1))))) (r0 1 [0,1,2,3,4,7,8,20,31] [] (cn (decide (x3.kind=2)) (r1 1 [0,1,4,7] [] [pf (0≤(x0:Int)∧(x0:Int)<((x2.people.length:Nat):Int))] [0] (rt [] (C111 (decide (((x2.people.getD x0.toNat default).mother)=x1))))) (r0 1 [0,1,2,3,4,7,8,20,41] [] (cn (decide (x3.kind=3)) (cn (decide (x3.kind=3)) (.reg 1 [] [(5,cg (decide (((x2.people.getD x1.toNat default).sex)=(zb8 x3.kind))) (k112 x2 x0 x1)),(15,cg (((decide (((x2.people.getD x1.toNat default).sex)=(zb8 x3.kind)))&&(zcw x2 x0 x1))&&(!(!decide (x3.age=1)))) (k113 x2 x1 x0)),(26,cg ((((decide (((x2.people.getD x1.toNat default).sex)=(zb8 x3.kind)))&&(zcw x2 x0 x1))&&((!decide (x3.age=1))||(zcs x2 x1 x0)))&&(!(!decide (x3.age=2)))) (k113 x2 x0 x1))] [0,1,4,7] [] [decide (((x2.people.getD x1.toNat default).sex)=(zb8 x3.kind)),(decide (((x2.people.getD x1.toNat default).sex)=(zb8 x3.kind)))&&(zcw x2 x0 x1),((decide (((x2.people.getD x1.toNat default).sex)=(zb8 x3.kind)))&&(zcw x2 x0 x1))&&(!(!decide (x3.age=1))),((decide (((x2.people.getD x1.toNat default).sex)=(zb8 x3.kind)))&&(zcw x2 x0 x1))&&((!decide (x3.age=1))||(zcs x2 x1 x0)),(((decide (((x2.people.getD x1.toNat default).sex)=(zb8 x3.kind)))&&(zcw x2 x0 x1))&&((!decide (x3.age=1))||(zcs x2 x1 x0)))&&(!(!decide (x3.age=2)))] [gt ((decide (((x2.people.getD x1.toNat default).sex)=(zb8 x3.kind)))&&(zcw x2 x0 x1)) (gf (!decide (x3.age=1)) (pf ((((decide (((x2.people.getD x1.toNat default).sex)=(zb8 x3.kind)))&&(zcw x2 x0 x1))&&(!(!decide (x3.age=1))))=true))),gt (((decide (((x2.people.getD x1.toNat default).sex)=(zb8 x3.kind)))&&(zcw x2 x0 x1))&&((!decide (x3.age=1))||(zcs x2 x1 x0))) (gf (!decide (x3.age=2)) (pf (((((decide (((x2.people.getD x1.toNat default).sex)=(zb8 x3.kind)))&&(zcw x2 x0 x1))&&((!decide (x3.age=1))||(zcs x2 x1 x0)))&&(!(!decide (x3.age=2))))=true)))] [] [1,1,1,8,1,5,5,5,9,9,9,12,5,0,5,13,13,13,17,17,17,16,13,4,13] (rt [] (C111 ((((decide (((x2.people.getD x1.toNat default).sex)=(zb8 x3.kind)))&&(zcw x2 x0 x1))&&((!decide (x3.age=1))||(zcs x2 x1 x0)))&&((!decide (x3.age=2))||(zcs x2 x0 x1)))))) (r0 1 [0,1,2,4,7,8,20,73] [] (cn (decide (x3.kind=5)) (cn (decide (x3.kind=5)) (.reg 1 [] [(5,cg (decide (((x2.people.getD x1.toNat default).sex)=(zb8 x3.kind))) (k71 x2 x0 x1))] [0,1,4,7] [] [decide (((x2.people.getD x1.toNat default).sex)=(zb8 x3.kind))] [] [] [1,1,1,0,1] (rt [] (C111 ((decide (((x2.people.getD x1.toNat default).sex)=(zb8 x3.kind)))&&(zc7 x2 x0 x1))))) (r0 1 [7] [] (rt [] (C111 ((x4 (KV.p x0 x1)).getD false))))) (r0 1 [0,1,2,4,7,8,73] [] (cn (decide (x3.kind=6)) (.reg 1 [] [(5,cg (decide (((x2.people.getD x1.toNat default).sex)=(zb8 x3.kind))) (k71 x2 x0 x1))] [0,1,4,7] [] [decide (((x2.people.getD x1.toNat default).sex)=(zb8 x3.kind))] [] [] [1,1,1,0,1] (rt [] (C111 ((decide (((x2.people.getD x1.toNat default).sex)=(zb8 x3.kind)))&&(zc7 x2 x0 x1))))) (r0 1 [7] [] (rt [] (C111 ((x4 (KV.p x0 x1)).getD false))))))))) (r0 1 [0,1,2,3,4,7,8,20,41] [] (cn (decide (x3.kind=4)) (.reg 1 [] [(5,cg (decide (((x2.people.getD x1.toNat default).sex)=(zb8 x3.kind))) (k112 x2 x0 x1)),(15,cg (((decide (((x2.people.getD x1.toNat default).sex)=(zb8 x3.kind)))&&(zcw x2 x0 x1))&&(!(!decide (x3.age=1)))) (k113 x2 x1 x0)),(26,cg ((((decide (((x2.people.getD x1.toNat default).sex)=(zb8 x3.kind)))&&(zcw x2 x0 x1))&&((!decide (x3.age=1))||(zcs x2 x1 x0)))&&(!(!decide (x3.age=2)))) (k113 x2 x0 x1))] [0,1,4,7] [] [decide (((x2.people.getD x1.toNat default).sex)=(zb8 x3.kind)),(decide (((x2.people.getD x1.toNat default).sex)=(zb8 x3.kind)))&&(zcw x2 x0 x1),((decide (((x2.people.getD x1.toNat default).sex)=(zb8 x3.kind)))&&(zcw x2 x0 x1))&&(!(!decide (x3.age=1))),((decide (((x2.people.getD x1.toNat default).sex)=(zb8 x3.kind)))&&(zcw x2 x0 x1))&&((!decide (x3.age=1))||(zcs x2 x1 x0)),(((decide (((x2.people.getD x1.toNat default).sex)=(zb8 x3.kind)))&&(zcw x2 x0 x1))&&((!decide (x3.age=1))||(zcs x2 x1 x0)))&&(!(!decide (x3.age=2)))] [gt ((decide (((x2.people.getD x1.toNat default).sex)=(zb8 x3.kind)))&&(zcw x2 x0 x1)) (gf (!decide (x3.age=1)) (pf ((((decide (((x2.people.getD x1.toNat default).sex)=(zb8 x3.kind)))&&(zcw x2 x0 x1))&&(!(!decide (x3.age=1))))=true))),gt (((decide (((x2.people.getD x1.toNat default).sex)=(zb8 x3.kind)))&&(zcw x2 x0 x1))&&((!decide (x3.age=1))||(zcs x2 x1 x0))) (gf (!decide (x3.age=2)) (pf (((((decide (((x2.people.getD x1.toNat default).sex)=(zb8 x3.kind)))&&(zcw x2 x0 x1))&&((!decide (x3.age=1))||(zcs x2 x1 x0)))&&(!(!decide (x3.age=2))))=true)))] [] [1,1,1,8,1,5,5,5,9,9,9,12,5,0,5,13,13,13,17,17,17,16,13,4,13] (rt [] (C111 ((((decide (((x2.people.getD x1.toNat default).sex)=(zb8 x3.kind)))&&(zcw x2 x0 x1))&&((!decide (x3.age=1))||(zcs x2 x1 x0)))&&((!decide (x3.age=2))||(zcs x2 x0 x1)))))) (r0 1 [0,1,2,4,7,8,20,73] [] (cn (decide (x3.kind=5)) (cn (decide (x3.kind=5)) (.reg 1 [] [(5,cg (decide (((x2.people.getD x1.toNat default).sex)=(zb8 x3.kind))) (k71 x2 x0 x1))] [0,1,4,7] [] [decide (((x2.people.getD x1.toNat default).sex)=(zb8 x3.kind))] [] [] [1,1,1,0,1] (rt [] (C111 ((decide (((x2.people.getD x1.toNat default).sex)=(zb8 x3.kind)))&&(zc7 x2 x0 x1))))) (r0 1 [7] [] (rt [] (C111 ((x4 (KV.p x0 x1)).getD false))))) (r0 1 [0,1,2,4,7,8,73] [] (cn (decide (x3.kind=6)) (.reg 1 [] [(5,cg (decide (((x2.people.getD x1.toNat default).sex)=(zb8 x3.kind))) (k71 x2 x0 x1))] [0,1,4,7] [] [decide (((x2.people.getD x1.toNat default).sex)=(zb8 x3.kind))] [] [] [1,1,1,0,1] (rt [] (C111 ((decide (((x2.people.getD x1.toNat default).sex)=(zb8 x3.kind)))&&(zc7 x2 x0 x1))))) (r0 1 [7] [] (rt [] (C111 ((x4 (KV.p x0 x1)).getD false)))))))))))))))))
theorem zhw (x0:Int) (x1:Int) (x2:Family) (x3:Step) (x4:KV→Option Bool) (ha:0≤x0∧x0<x2.people.length) (hb:0≤x1∧x1<x2.people.length) (hx:x2.people.length≤1048576):FnT Tryz.prog 111 [.int .i64 x0,.int .i64 x1,.ep [.ro false 6 x2.people.length (rowOf (zbq false) x2.people),.ro false 4 x2.unions.length (rowOf (zb4 false) x2.unions)] 0,.ep [.int .i64 x3.kind,.int .i64 x3.age] 0,.ep [.rm .pair (.b x4)] 0] (C111 (zd8 x0 x1 x2 x3 x4)):=by
 have aux:∀ R,zd8 x0 x1 x2 x3 x4=R→slim (C111 R) (A111 x0 x1 x2 x3 x4) []:=by
  intro R hR
  refine rg ⟨by trivial,trivial,trivial⟩ ?_
  refine rg trivial ?_
  refine rg trivial ?_
  revert hR;refine cd (fun hc1 hR=>?_) fun hc1 hR=>?_
  ·
    refine rg ⟨by trivial,trivial⟩ ?_
    exact congrArg C111 hR
  ·
    refine rg trivial ?_
    revert hR;refine cd (fun hc2 hR=>?_) fun hc2 hR=>?_
    ·
      refine rg ⟨by trivial,trivial⟩ ?_
      exact congrArg C111 hR
    ·
      refine rg trivial ?_
      revert hR;refine cd (fun hc3 hR=>?_) fun hc3 hR=>?_
      ·
        revert hR;refine cd (fun hc4 hR=>?_) fun hc4 hR=>?_
        ·
          refine rg ⟨by ((try clear hR);intros;(try simp only [decide_eq_true_eq,decide_eq_false_iff_not,Bool.or_eq_true,Bool.and_eq_true,zbd,za9,zba,Bool.not_eq_true',inR] at *);(repeat' apply And.intro)<;>(first | (intros;omega) | (simp_all [inR];done))),by ((try clear hR);intros;(try simp only [decide_eq_true_eq,decide_eq_false_iff_not,Bool.or_eq_true,Bool.and_eq_true,zbd,za9,zba,Bool.not_eq_true',inR] at *);(repeat' apply And.intro)<;>(first | (intros;omega) | (simp_all [inR];done))),fun hg0=>⟨by trivial,by trivial,by trivial⟩,fun hg0=>⟨by trivial,by trivial⟩,fun hg0=>⟨by trivial,by trivial⟩,trivial⟩ ?_
          exact congrArg C111 hR
        ·
          refine rg trivial ?_
          revert hR;refine cd (fun hc5 hR=>?_) fun hc5 hR=>?_
          ·
            revert hR;refine cd (fun hc6 hR=>?_) fun hc6 hR=>?_
            ·
              refine rg ⟨fun hg0=>by trivial,trivial⟩ ?_
              exact congrArg C111 hR
            ·
              refine rg trivial ?_
              exact congrArg C111 hR
          ·
            refine rg trivial ?_
            revert hR;refine cd (fun hc7 hR=>?_) fun hc7 hR=>?_
            ·
              refine rg ⟨fun hg0=>by trivial,trivial⟩ ?_
              exact congrArg C111 hR
            ·
              refine rg trivial ?_
              exact congrArg C111 hR
      ·
        refine rg trivial ?_
        revert hR;refine cd (fun hc8 hR=>?_) fun hc8 hR=>?_
        ·
          refine rg ⟨by ((try clear hR);intros;(try simp only [decide_eq_true_eq,decide_eq_false_iff_not,Bool.or_eq_true,Bool.and_eq_true,zbd,za9,zba,Bool.not_eq_true',inR] at *);(repeat' apply And.intro)<;>(first | (intros;omega) | (simp_all [inR];done))),by ((try clear hR);intros;(try simp only [decide_eq_true_eq,decide_eq_false_iff_not,Bool.or_eq_true,Bool.and_eq_true,zbd,za9,zba,Bool.not_eq_true',inR] at *);(repeat' apply And.intro)<;>(first | (intros;omega) | (simp_all [inR];done))),fun hg0=>⟨by trivial,by trivial,by trivial⟩,fun hg0=>⟨by trivial,by trivial⟩,fun hg0=>⟨by trivial,by trivial⟩,trivial⟩ ?_
          exact congrArg C111 hR
        ·
          refine rg trivial ?_
          revert hR;refine cd (fun hc9 hR=>?_) fun hc9 hR=>?_
          ·
            revert hR;refine cd (fun hc10 hR=>?_) fun hc10 hR=>?_
            ·
              refine rg ⟨fun hg0=>by trivial,trivial⟩ ?_
              exact congrArg C111 hR
            ·
              refine rg trivial ?_
              exact congrArg C111 hR
          ·
            refine rg trivial ?_
            revert hR;refine cd (fun hc11 hR=>?_) fun hc11 hR=>?_
            ·
              refine rg ⟨fun hg0=>by trivial,trivial⟩ ?_
              exact congrArg C111 hR
            ·
              refine rg trivial ?_
              exact congrArg C111 hR
 exact Fn.go 88 Tryz.func111 zah zah (by simp [C111,Frs,FrsL]) (A111 x0 x1 x2 x3 x4) zah (aux _ rfl)
def k111 (x0:Int) (x1:Int) (x2:Family) (x3:Step) (x4:KV→Option Bool):Cl:=(hres (C111 (zd8 x0 x1 x2 x3 x4)),k3 (zhw x0 x1 x2 x3 x4))
def C62S (R:Relation):LV×List (Nat×BC):=(.agg [.int .i64 R.size,.own 0],[(0,.nest true 1 R.rows.length (nrOf (cInt .i64) R.rows))])
def zhk (x0:Int) (x1:Family×Step×(KV→Option Bool)):Relation:=loopN (fun i1 (v1:(List (List Int))) nx1=>loopN (fun i2 (v2:(List Int)) next=>bif (zd8 ((i1:Nat):Int) ((i2:Nat):Int) x1.1 x1.2.1 x1.2.2) then (next (v2++[((i2:Nat):Int)])) else (next v2)) (fun (v2:(List Int))=>nx1 (v1++[v2])) x0.toNat 0 ([]:List Int)) (fun (v1:(List (List Int)))=>(Relation.mk x0 v1)) x0.toNat 0 ([]:List (List Int))
def zym (x0:Int) (x1:Family×Step×(KV→Option Bool)) (i1:Nat) (v1:(List (List Int))):Dl:=⟨[(12,.int .i64 ((i1:Nat):Int))],[(30501,.nest true 1 v1.length (nrOf (cInt .i64) v1)),(5,.var [.int .i64 x0,.own 30501])]⟩
def zvs (x0:Int) (x1:Family×Step×(KV→Option Bool)) (i1:Nat) (v1:(List (List Int))) (i2:Nat) (v2:(List Int)):Dl:=⟨[(16,.int .i64 ((i2:Nat):Int)),(7,.own 20007)],[(20007,.arr 1 v2.length (rowOf (cInt .i64) v2))]⟩
def A62Sb2 (x0:Int) (x1:Family×Step×(KV→Option Bool)) (i1:Nat) (v1:(List (List Int))) (i2:Nat) (v2:(List Int)):Ann:=r0 1 [0,1,4,5,6,7,11,12,15,16,17] [4,5,20007,30501] (cn (decide (((i2:Nat):Int)<x0)) (.reg 2 [] [(1003,k111 ((i1:Nat):Int) ((i2:Nat):Int) x1.1 x1.2.1 x1.2.2)] [0,1,4,5,6,7,8,11,12,15,16,22] [4,5,20007,30501] [] [] [] [0] (cn (zd8 ((i1:Nat):Int) ((i2:Nat):Int) x1.1 x1.2.1 x1.2.2) (.reg 1 [] [(2,bsC 25 (cInt .i64) ([((i2:Nat):Int)]:List Int)),(3,ap1 26 (cInt .i64) 8 v2 ((i2:Nat):Int))] [0,1,4,5,6,7,11,12,15,16] [4,5,26,30501] [] [] [] [0,4] (r1 1 [0,1,4,5,6,7,11,12,15,16] [4,5,26,30501] [pf (inR .i64 (((i2:Nat):Int)+1))] [0] (.next 0 [(20007,some 26)] (zvs x0 x1 i1 v1 (i2+1) (v2++[((i2:Nat):Int)]))))) (r1 1 [0,1,4,5,6,7,11,12,15,16] [4,5,20007,30501] [pf (inR .i64 (((i2:Nat):Int)+1))] [0] (.next 0 [(20007,some 20007)] (zvs x0 x1 i1 v1 (i2+1) v2))))) (.reg 1 [] [(3,nB1 (cInt .i64) v2),(4,nA1 (cInt .i64) v1 v2 24)] [0,1,4,5,11,12] [4,5,32] [] [] [] [0,4] (r1 1 [0,1,4,5,11,12] [4,5,32] [pf (inR .i64 (((i1:Nat):Int)+1))] [0] (.next 1 [(30501,some 32)] (zym x0 x1 (i1+1) (v1++[v2]))))))
def A62Sb1 (x0:Int) (x1:Family×Step×(KV→Option Bool)) (i1:Nat) (v1:(List (List Int))):Ann:=r0 1 [0,1,4,5,11,12,13] [4,5,30501] (cn (decide (((i1:Nat):Int)<x0)) (r0 2 [0,1,4,5,6,7,11,12] [4,5,30501] (r0 1 [0,1,4,5,6,7,11,12,15,16] [4,5,30501] (lp (zvs x0 x1 i1 v1) [] [] [(20007,none)] (zvs x0 x1 i1 v1 0 ([]:List Int)) (A62Sb2 x0 x1 i1 v1)))) (r0 1 [4] [4,30501] (rt [(0,some 30501)] (C62S (Relation.mk x0 v1)))))
def A62S (x0:Int) (x1:Family×Step×(KV→Option Bool)):Ann:=r0 2 [0,1,4,5] [4,5] (r0 1 [0,1,4,5,11,12] [4,5] (lp (zym x0 x1) [] [] [(30501,none)] (zym x0 x1 0 ([]:List (List Int))) (A62Sb1 x0 x1)))
theorem zk2 (x0:Int) (x1:Family×Step×(KV→Option Bool)) (hn:0≤x0∧x0≤x1.1.people.length) (hx:x1.1.people.length≤1048576):FnT Tryz.prog 62 [.int .i64 x0,.clo 111 [.ep [.ro false 6 x1.1.people.length (rowOf (zbq false) x1.1.people),.ro false 4 x1.1.unions.length (rowOf (zb4 false) x1.1.unions)] 0,.ep [.int .i64 x1.2.1.kind,.int .i64 x1.2.1.age] 0,.ep [.rm .pair (.b x1.2.2)] 0]] (C62S (zhk x0 x1)):=by
 have aux:∀ R,zhk x0 x1=R→slim (C62S R) (A62S x0 x1) []:=by
  intro R hR
  refine rg trivial ?_
  refine rg trivial ?_
  revert hR;refine lN (fun i v=>(v:List (List Int)).length=i) zai rfl fun i1 v1 F1 hn1 hI1 hR hK1=>?_
  refine rg trivial ?_
  refine ⟨fun hc1=>?_,fun hc1=>?_⟩
  ·have hii1:i1<x0.toNat:=by have:=of_decide_eq_true hc1;omega
   replace hR:=zbj hR hii1
   refine rg trivial ?_
   refine rg trivial ?_
   revert hR;refine lN (fun i v=>(v:List Int).length≤i) zai rfl fun i2 v2 F2 hn2 hI2 hR hK2=>?_
   refine rg trivial ?_
   refine ⟨fun hc2=>?_,fun hc2=>?_⟩
   ·have hii2:i2<x0.toNat:=by have:=of_decide_eq_true hc2;omega
    replace hR:=zbj hR hii2
    refine rg ⟨⟨by (intros;omega),by (intros;omega),by trivial⟩,trivial⟩ ?_
    revert hR;refine cd (fun hc3 hR=>?_) fun hc3 hR=>?_
    ·
      refine rg ⟨trivial,om,trivial⟩ ?_
      refine rg ⟨by ( intros;simp only [inR];omega),trivial⟩ ?_
      exact hK2 (v2++[((i2:Nat):Int)]) hii2 zac hR
    ·
      refine rg ⟨by ( intros;simp only [inR];omega),trivial⟩ ?_
      exact hK2 v2 hii2 za2 hR
   ·obtain rfl:i2=x0.toNat:=by have:=of_decide_eq_false hc2;omega
    replace hR:=zbp hR (Nat.lt_irrefl _)
    refine rg ⟨trivial,om,trivial⟩ ?_
    refine rg ⟨by ( intros;simp only [inR];omega),trivial⟩ ?_
    exact hK1 (v1++[v2]) hii1 zac hR
  ·obtain rfl:i1=x0.toNat:=by have:=of_decide_eq_false hc1;omega
   replace hR:=zbp hR (Nat.lt_irrefl _)
   refine rg trivial ?_
   exact congrArg C62S hR
 exact Fn.go 36 Tryz.func62 zah zah (by simp [C62S,FrsN,nrOf,Frs,FrsL,FrsB,rowOf,cInt,cBool,cStr,cSl,zce,zbq,zb4,zbx,cDyad,cLaw,zd4,cStep,zdv,zdh]) (A62S x0 x1) zah (aux _ rfl)
def k62S (x0:Int) (x1:Family×Step×(KV→Option Bool)):Cl:=(hres (C62S (zhk x0 x1)),k2 (zk2 x0 x1))
end Go.Proofs.YtaageiiodlfeiaaGreat
