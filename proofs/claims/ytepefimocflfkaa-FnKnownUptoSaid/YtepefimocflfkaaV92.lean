import Derived.Test.YtepefimocflfkaaV70
set_option maxHeartbeats 4000000
set_option linter.unusedSimpArgs false
set_option linter.unusedVariables false
namespace Go.Proofs.Ytepefimocflfkaa
open Go Go.Lite Go.Proofs
theorem known_eq (x:Family) (y:Int):implKnown x y=specKnown x y:=by
 unfold implKnown specKnown
 rw [isFamily_eq]
 cases hv:specIsFamily x
 ·rfl
 simp only [Bool.not_true,cond_false,jn_bif]
 refine loopN_rel0 (fun i (v u:List Int×List Person)=>v.2=u.2∧v.1.length=x.people.length∧u.1.length=i∧∀ k,k<i→(x.people.getD k default).born≤y→v.1.getD k default=u.1.getD k default) Eq ⟨rfl,by simp,rfl,fun k hk=>absurd hk (Nat.not_lt_zero _)⟩ (fun i v u n1 n2 hi hr hn=>?_) (fun v u hr=>?_)
 ·obtain ⟨h1,h2,h3,h4⟩:=hr
  have hp:=fam_p hv hi
  rw [h1]
  cases hb:decide (y<(x.people.getD i default).born)
  ·have hb:=of_decide_eq_false hb
   simp only [cond_false]
   have e1:∀ q:Int,0≤q→q<i→(x.people.getD q.toNat default).born≤y→(v.1.set i ((u.2.length:Nat):Int)).getD q.toNat default=(u.1++[((u.2.length:Nat):Int)]).getD q.toNat default:=fun q h0 hq hy=>by
    rw [getD_set,if_neg (by omega),snoc_lt' (by omega)]
    exact h4 _ (by omega) hy
   have e2:(bif decide (0≤(x.people.getD i default).father) then (v.1.set i ((u.2.length:Nat):Int)).getD (x.people.getD i default).father.toNat default else (x.people.getD i default).father)=(bif decide (0≤(x.people.getD i default).father) then (u.1++[((u.2.length:Nat):Int)]).getD (x.people.getD i default).father.toNat default else (x.people.getD i default).father):=by
    cases hc:decide (0≤(x.people.getD i default).father)
    ·rfl
    ·have hc:=of_decide_eq_true hc
     have:=hp.fa
     exact e1 _ hc (by omega) (by omega)
   have e3:(bif decide (0≤(x.people.getD i default).mother) then (v.1.set i ((u.2.length:Nat):Int)).getD (x.people.getD i default).mother.toNat default else (x.people.getD i default).mother)=(bif decide (0≤(x.people.getD i default).mother) then (u.1++[((u.2.length:Nat):Int)]).getD (x.people.getD i default).mother.toNat default else (x.people.getD i default).mother):=by
    cases hc:decide (0≤(x.people.getD i default).mother)
    ·rfl
    ·have hc:=of_decide_eq_true hc
     have:=hp.mo
     exact e1 _ hc (by omega) (by omega)
   rw [e2,e3]
   have hk:∀ k,k<i+1→(x.people.getD k default).born≤y→(v.1.set i ((u.2.length:Nat):Int)).getD k default=(u.1++[((u.2.length:Nat):Int)]).getD k default:=fun k hk hy=>by
    by_cases e:k=i
    ·subst e
     rw [getD_set,if_pos ⟨rfl,by omega⟩,snoc_last (by omega)]
    ·rw [getD_set,if_neg (by omega),snoc_lt' (by omega)]
     exact h4 _ (by omega) hy
   cases decide (y<(x.people.getD i default).died)
   ·exact hn _ _ ⟨rfl,by simp [h2],by simp [h3],hk⟩
   ·exact hn _ _ ⟨rfl,by simp [h2],by simp [h3],hk⟩
  ·have hb:=of_decide_eq_true hb
   simp only [cond_true]
   refine hn _ _ ⟨rfl,h2,by simp [h3],fun k hk hy=>?_⟩
   have e:k≠i:=fun e=>by subst e;omega
   rw [snoc_lt' (by omega)]
   exact h4 _ (by omega) hy
 ·obtain ⟨h1,h2,h3,h4⟩:=hr
  refine loopN_rel0 (fun i (v u:List Union)=>v=u) Eq rfl (fun i p q n1 n2 hi hr hn=>?_) (fun p q hr=>by rw [hr,h1])
  subst hr
  have hu:=fam_u hv hi
  cases hb:decide (y<(x.unions.getD i default).from0)
  ·have hb:=of_decide_eq_false hb
   simp only [cond_false]
   have q1:=hu.man;have q2:=hu.woman;have q3:=hu.from0
   rw [h4 _ (show (x.unions.getD i default).man.toNat<x.people.length by omega) (by omega),h4 _ (show (x.unions.getD i default).woman.toNat<x.people.length by omega) (by omega)]
   exact hn _ _ rfl
  ·exact hn _ _ rfl
theorem specKnown_len (x:Family) (y:Int):(specKnown x y).people.length≤40∧(specKnown x y).unions.length≤60:=by
 unfold specKnown
 refine cond_both (p:=fun (r:Family)=>r.people.length≤40∧r.unions.length≤60) (fun _=>by simp) (fun hc=>?_)
 have hv:specIsFamily x=true:=by simpa using hc
 have hn:=fam_n hv
 simp only [jn_bif]
 refine loopN_to (fun i (v:List Int×List Person)=>v.2.length≤i) (fun (r:Family)=>r.people.length≤40∧r.unions.length≤60) (by simp) (fun i v next hi hv hm=>?_) (fun v hv=>?_)
 ·refine cond_both (p:=fun (r:Family)=>r.people.length≤40∧r.unions.length≤60) (fun _=>hm _ (by simp only;omega)) (fun _=>?_)
  exact cond_both (p:=fun (r:Family)=>r.people.length≤40∧r.unions.length≤60) (fun _=>hm _ (by simp;omega)) (fun _=>hm _ (by simp;omega))
 ·refine loopN_to (fun i (u:List Union)=>u.length≤i) (fun (r:Family)=>r.people.length≤40∧r.unions.length≤60) (by simp) (fun i u next hi hu hm=>?_) (fun u hu=>⟨by simp only;omega,by simp only;omega⟩)
  exact cond_both (p:=fun (r:Family)=>r.people.length≤40∧r.unions.length≤60) (fun _=>hm _ (by omega)) (fun _=>hm _ (by simp;omega))
structure Event where
 kind:Int
 year:Int
 name:List UInt8
 sex:Int
 a:Int
 b:Int
 deriving Inhabited
def cEvent (fr:Bool) (x:Event):List LV:=cInt .i64 x.kind++cInt .i64 x.year++cStr x.name++cInt .i64 x.sex++cInt .i64 x.a++cInt .i64 x.b

def l11Union (x0:Family) (x1:Int) (x2:Int):Int:=loopN (fun i1 (v1:Unit) next=>bif ((decide (((x0.unions.getD i1 default).man)=x1))&&(decide (((x0.unions.getD i1 default).woman)=x2))) then ((i1:Nat):Int) else (next ())) (fun (v1:Unit)=>(-1)) x0.unions.length 0 ()
theorem l11Union_rng (x:Family) (a b:Int):-1≤l11Union x a b∧l11Union x a b<x.unions.length:=by
 unfold l11Union
 exact loopN_to (fun i (v:Unit)=>True) (fun (r:Int)=>-1≤r∧r<x.unions.length) trivial (fun i v next hi hv hn=>cond_both (p:=fun (r:Int)=>-1≤r∧r<x.unions.length) (fun _=>by omega) (fun _=>hn _ trivial)) (fun v hv=>by omega)
def l11Do (x0:Family) (x1:Event):Family×Bool:=bif ((!decide (x1.kind=1))&&(((!(x1.name==([]:List UInt8)))||(!decide (x1.sex=0)))||(!(l1In x1.a 0 (((x0.people.length:Nat):Int) - 1))))) then (x0,false) else (bif (decide (x1.kind=1)) then ((Family.mk (x0.people++[(Person.mk x1.name x1.sex x1.a x1.b x1.year (-1))]) x0.unions),decide (((x0.people.length:Nat):Int)<40)) else (bif (decide (x1.kind=2)) then ((Family.mk x0.people (x0.unions++[(Union.mk x1.a x1.b x1.year (-1))])),(l1In x1.b 0 (((x0.people.length:Nat):Int) - 1))&&(decide ((((x0.unions++[(Union.mk x1.a x1.b x1.year (-1))]).length:Nat):Int)≤60))) else (bif (decide (x1.kind=3)) then (bif ((decide ((l11Union x0 x1.a x1.b)<0))||(!decide (((x0.unions.getD ((l11Union x0 x1.a x1.b).toNat) default).to)=(-1)))) then (x0,false) else ((Family.mk x0.people (x0.unions.set ((l11Union x0 x1.a x1.b).toNat) (Union.mk ((x0.unions.getD ((l11Union x0 x1.a x1.b).toNat) default).man) ((x0.unions.getD ((l11Union x0 x1.a x1.b).toNat) default).woman) ((x0.unions.getD ((l11Union x0 x1.a x1.b).toNat) default).from0) x1.year))),true)) else (bif (decide (x1.kind=4)) then (bif ((!decide (x1.b=0))||(!decide (((x0.people.getD x1.a.toNat default).died)=(-1)))) then (x0,false) else ((Family.mk (x0.people.set x1.a.toNat (Person.mk ((x0.people.getD x1.a.toNat default).name) ((x0.people.getD x1.a.toNat default).sex) ((x0.people.getD x1.a.toNat default).father) ((x0.people.getD x1.a.toNat default).mother) ((x0.people.getD x1.a.toNat default).born) x1.year)) x0.unions),true)) else (x0,false)))))
def C114 (R:Bool):LV×List (Nat×BC):=(.bool R,[])
def happenBorn (x0:Int) (x1:Family):Bool:=(decide (0≤x0))&&(decide (x0<((x1.people.length:Nat):Int)))
def A114 (x0:Int) (x1:Family):Ann:=.reg 2 [] [] [3] [] [decide (0≤x0)] [] [] [1,1,1,1,1,1,1] (rt [] (C114 ((decide (0≤x0))&&(decide (x0<((x1.people.length:Nat):Int))))))
theorem ok_impl_happen_1 (x0:Int) (x1:Family) (hx:x1.people.length≤1048576):FnT Try.prog 114 [.int .i64 x0,.ep [.ep [.ro false 6 x1.people.length (rowOf (cPerson false) x1.people),.ro false 4 x1.unions.length (rowOf (cUnion false) x1.unions)] 0] 0] (C114 (happenBorn x0 x1)):=by
 have aux:∀ R,happenBorn x0 x1=R→slim (C114 R) (A114 x0 x1) []:=by
  intro R hR
  refine rg trivial ?_
  exact congrArg C114 hR
 exact Fn.go 15 Try.func114 (by kernel_rfl) (by kernel_rfl) (by simp [C114,Frs,FrsL]) (A114 x0 x1) (by kernel_rfl) (aux _ rfl)
def k114 (x0:Int) (x1:Family):Cl:=(hres (C114 (happenBorn x0 x1)),k1 (ok_impl_happen_1 x0 x1))
def C60 (x0:Family) (x1:Event) (R:Bool×(List Person)×(List Union)):LV×List (Nat×BC):=(.bool R.1,[(900000,.var [.own 0,.own 1]),(0,.arr 6 R.2.1.length (rowOf (cPerson true) R.2.1)),(1,.arr 4 R.2.2.length (rowOf (cUnion true) R.2.2))])
def happen (x0:Family) (x1:Event):Bool×(List Person)×(List Union):=bif ((!decide (x1.kind=1))&&((!(x1.name==([]:List UInt8)))||(!decide (x1.sex=0)))) then (false,x0.people,x0.unions) else (bif (decide (x1.kind=1)) then (true,(x0.people++[(Person.mk x1.name x1.sex x1.a x1.b x1.year (-1))]),x0.unions) else (bif (decide (x1.kind=2)) then (bif ((!(happenBorn x1.a x0))||(!(happenBorn x1.b x0))) then (false,x0.people,x0.unions) else (true,x0.people,(x0.unions++[(Union.mk x1.a x1.b x1.year (-1))]))) else (bif (decide (x1.kind=3)) then (bif ((!(happenBorn x1.a x0))||(!(happenBorn x1.b x0))) then (false,x0.people,x0.unions) else (loopN (fun i1 (v1:Unit) next=>bif ((decide (((x0.unions.getD i1 default).man)=x1.a))&&(decide (((x0.unions.getD i1 default).woman)=x1.b))) then (bif (!decide (((x0.unions.getD i1 default).to)=(-1))) then (false,x0.people,x0.unions) else (true,x0.people,(x0.unions.set i1 (Union.mk ((x0.unions.getD i1 default).man) ((x0.unions.getD i1 default).woman) ((x0.unions.getD i1 default).from0) x1.year)))) else (next ())) (fun (v1:Unit)=>(false,x0.people,x0.unions)) x0.unions.length 0 ())) else (bif (decide (x1.kind=4)) then (bif (((!(happenBorn x1.a x0))||(!decide (x1.b=0)))||(!decide (((x0.people.getD x1.a.toNat default).died)=(-1)))) then (false,x0.people,x0.unions) else (true,(x0.people.set x1.a.toNat (Person.mk ((x0.people.getD x1.a.toNat default).name) ((x0.people.getD x1.a.toNat default).sex) ((x0.people.getD x1.a.toNat default).father) ((x0.people.getD x1.a.toNat default).mother) ((x0.people.getD x1.a.toNat default).born) x1.year)),x0.unions)) else (false,x0.people,x0.unions)))))
def D60b1 (x0:Family) (x1:Event) (i1:Nat) (v1:Unit):Dl:=⟨[(95,.int .i64 ((i1:Nat):Int))],[]⟩
def A60b1 (x0:Family) (x1:Event) (i1:Nat) (v1:Unit):Ann:=r0 1 [2,3,4,94,95,96] [2,3,900000,900001,900002] (cn (decide (((i1:Nat):Int)<((x0.unions.length:Nat):Int))) (.reg 3 [] [] [2,3,4,7,94,95,119] [2,3,900000,900001,900002] [decide (((x0.unions.getD i1 default).man)=x1.a)] [pf (0≤(((i1:Nat):Int):Int)∧(((i1:Nat):Int):Int)<((x0.unions.length:Nat):Int))] [] [0,1,1,1,1,1,1,1] (cn ((decide (((x0.unions.getD i1 default).man)=x1.a))&&(decide (((x0.unions.getD i1 default).woman)=x1.b))) (r0 1 [2,3,4,7,94,95,124] [2,3,900000,900001,900002] (cn (!decide (((x0.unions.getD i1 default).to)=(-1))) (r0 1 [2,3,4,7,94,95] [2,3,900000,900001,900002] (rt [(900000,some 900000),(0,some 900001),(1,some 900002)] (C60 x0 x1 (false,x0.people,x0.unions)))) (.reg 2 [] [(5,stP 900002 (cUnion true) x0.unions.length x0.unions x0.unions i1 3 [.int .i64 x1.year] (Union.mk ((x0.unions.getD i1 default).man) ((x0.unions.getD i1 default).woman) ((x0.unions.getD i1 default).from0) x1.year) (x0.unions.getD i1 default) (.inr ⟨rfl,rfl⟩) rfl)] [2,3,4,94,95] [2,3,900000,900001,900002] [] [] [] [0] (.co false 900002 ((x0.unions.set i1 (Union.mk ((x0.unions.getD i1 default).man) ((x0.unions.getD i1 default).woman) ((x0.unions.getD i1 default).from0) x1.year)).length) (rowOf (cUnion true) (x0.unions.set i1 (Union.mk ((x0.unions.getD i1 default).man) ((x0.unions.getD i1 default).woman) ((x0.unions.getD i1 default).from0) x1.year))) [lnP (rowOf (cUnion true) (x0.unions.set i1 (Union.mk ((x0.unions.getD i1 default).man) ((x0.unions.getD i1 default).woman) ((x0.unions.getD i1 default).from0) x1.year))) x0.unions.length ((x0.unions.set i1 (Union.mk ((x0.unions.getD i1 default).man) ((x0.unions.getD i1 default).woman) ((x0.unions.getD i1 default).from0) x1.year)).length)] [] 0 (rt [(900000,some 900000),(0,some 900001),(1,some 900002)] (C60 x0 x1 (true,x0.people,(x0.unions.set i1 (Union.mk ((x0.unions.getD i1 default).man) ((x0.unions.getD i1 default).woman) ((x0.unions.getD i1 default).from0) x1.year))))))))) (r1 1 [2,3,4,94,95] [2,3,900000,900001,900002] [pf (inR .i64 (((i1:Nat):Int)+1))] [0] (.next 0 [] (D60b1 x0 x1 (i1+1) ()))))) (r0 1 [4] [900000,900001,900002] (rt [(900000,some 900000),(0,some 900001),(1,some 900002)] (C60 x0 x1 (false,x0.people,x0.unions)))))
def A60 (x0:Family) (x1:Event):Ann:=r0 2 [2,3,4,5] [2,3,900000,900001,900002] (.reg 1 [] [] [2,3,4,5,21] [2,3,900000,900001,900002] [!decide (x1.kind=1),(!decide (x1.kind=1))&&(!(!(x1.name==([]:List UInt8))))] [gt (!decide (x1.kind=1)) (gf (!(x1.name==([]:List UInt8))) (pf (((!decide (x1.kind=1))&&(!(!(x1.name==([]:List UInt8)))))=true)))] [] [1,1,1,5,5,1,0,1] (cn ((!decide (x1.kind=1))&&((!(x1.name==([]:List UInt8)))||(!decide (x1.sex=0)))) (r0 1 [2,3,4,5] [2,3,900000,900001,900002] (rt [(900000,some 900000),(0,some 900001),(1,some 900002)] (C60 x0 x1 (false,x0.people,x0.unions)))) (r0 1 [2,3,4,5,23] [2,3,900000,900001,900002] (r0 1 [2,3,4,5,23,24] [2,3,900000,900001,900002] (cn (decide (x1.kind=1)) (.reg 2 [] [(16,bsC 42 (cPerson true) ([(Person.mk x1.name x1.sex x1.a x1.b x1.year (-1))]:List Person)),(17,ap1 43 (cPerson true) 56 x0.people (Person.mk x1.name x1.sex x1.a x1.b x1.year (-1)))] [4] [43,900000,900002] [] [] [] [0,4] (rt [(900000,some 900000),(0,some 43),(1,some 900002)] (C60 x0 x1 (true,(x0.people++[(Person.mk x1.name x1.sex x1.a x1.b x1.year (-1))]),x0.unions)))) (r0 1 [2,3,4,5,23,46] [2,3,900000,900001,900002] (cn (decide (x1.kind=2)) (.reg 1 [] [(3,k114 x1.a x0),(9,cg (!(!(happenBorn x1.a x0))) (k114 x1.b x0))] [2,3,4,59] [2,3,900000,900001,900002] [!(!(happenBorn x1.a x0)),!(happenBorn x1.a x0)] [] [] [0,1,1,1,4,1,6] (cn ((!(happenBorn x1.a x0))||(!(happenBorn x1.b x0))) (r0 1 [2,3,4] [2,3,900000,900001,900002] (rt [(900000,some 900000),(0,some 900001),(1,some 900002)] (C60 x0 x1 (false,x0.people,x0.unions)))) (.reg 2 [] [(12,bsC 72 (cUnion true) ([(Union.mk x1.a x1.b x1.year (-1))]:List Union)),(13,ap1 73 (cUnion true) 32 x0.unions (Union.mk x1.a x1.b x1.year (-1)))] [4] [73,900000,900001] [] [] [] [0,4] (rt [(900000,some 900000),(0,some 900001),(1,some 73)] (C60 x0 x1 (true,x0.people,(x0.unions++[(Union.mk x1.a x1.b x1.year (-1))]))))))) (r0 1 [2,3,4,5,23,76] [2,3,900000,900001,900002] (cn (decide (x1.kind=3)) (.reg 1 [] [(3,k114 x1.a x0),(9,cg (!(!(happenBorn x1.a x0))) (k114 x1.b x0))] [2,3,4,89] [2,3,900000,900001,900002] [!(!(happenBorn x1.a x0)),!(happenBorn x1.a x0)] [] [] [0,1,1,1,4,1,6] (cn ((!(happenBorn x1.a x0))||(!(happenBorn x1.b x0))) (r0 1 [2,3,4] [2,3,900000,900001,900002] (rt [(900000,some 900000),(0,some 900001),(1,some 900002)] (C60 x0 x1 (false,x0.people,x0.unions)))) (r0 1 [2,3,4,94,95] [2,3,900000,900001,900002] (lp (D60b1 x0 x1) [] [] [] (D60b1 x0 x1 0 ()) (A60b1 x0 x1))))) (r0 1 [2,3,4,5,131] [2,3,900000,900001,900002] (cn (decide (x1.kind=4)) (.reg 1 [] [(3,k114 x1.a x0)] [2,3,4,154] [2,3,900000,900001,900002] [!(!(happenBorn x1.a x0)),!(happenBorn x1.a x0),!((!(happenBorn x1.a x0))||(!decide (x1.b=0))),(!(happenBorn x1.a x0))||(!decide (x1.b=0))] [gt (!((!(happenBorn x1.a x0))||(!decide (x1.b=0)))) (pf (0≤(x1.a:Int)∧(x1.a:Int)<((x0.people.length:Nat):Int)))] [] [4,1,1,6,9,9,9,9,9,9,0,9,9,9,14] (cn (((!(happenBorn x1.a x0))||(!decide (x1.b=0)))||(!decide (((x0.people.getD x1.a.toNat default).died)=(-1)))) (r0 1 [2,3,4] [2,3,900000,900001,900002] (rt [(900000,some 900000),(0,some 900001),(1,some 900002)] (C60 x0 x1 (false,x0.people,x0.unions)))) (.reg 2 [] [(10,stP 900001 (cPerson true) x0.people.length x0.people x0.people x1.a.toNat 5 [.int .i64 x1.year] (Person.mk ((x0.people.getD x1.a.toNat default).name) ((x0.people.getD x1.a.toNat default).sex) ((x0.people.getD x1.a.toNat default).father) ((x0.people.getD x1.a.toNat default).mother) ((x0.people.getD x1.a.toNat default).born) x1.year) (x0.people.getD x1.a.toNat default) (.inr ⟨rfl,rfl⟩) rfl)] [4] [900000,900001,900002] [] [pf (0≤(x1.a:Int)∧(x1.a:Int)<((x0.people.length:Nat):Int))] [] [0,4] (.co false 900001 ((x0.people.set x1.a.toNat (Person.mk ((x0.people.getD x1.a.toNat default).name) ((x0.people.getD x1.a.toNat default).sex) ((x0.people.getD x1.a.toNat default).father) ((x0.people.getD x1.a.toNat default).mother) ((x0.people.getD x1.a.toNat default).born) x1.year)).length) (rowOf (cPerson true) (x0.people.set x1.a.toNat (Person.mk ((x0.people.getD x1.a.toNat default).name) ((x0.people.getD x1.a.toNat default).sex) ((x0.people.getD x1.a.toNat default).father) ((x0.people.getD x1.a.toNat default).mother) ((x0.people.getD x1.a.toNat default).born) x1.year))) [lnP (rowOf (cPerson true) (x0.people.set x1.a.toNat (Person.mk ((x0.people.getD x1.a.toNat default).name) ((x0.people.getD x1.a.toNat default).sex) ((x0.people.getD x1.a.toNat default).father) ((x0.people.getD x1.a.toNat default).mother) ((x0.people.getD x1.a.toNat default).born) x1.year))) x0.people.length ((x0.people.set x1.a.toNat (Person.mk ((x0.people.getD x1.a.toNat default).name) ((x0.people.getD x1.a.toNat default).sex) ((x0.people.getD x1.a.toNat default).father) ((x0.people.getD x1.a.toNat default).mother) ((x0.people.getD x1.a.toNat default).born) x1.year)).length)] [] 0 (rt [(900000,some 900000),(0,some 900001),(1,some 900002)] (C60 x0 x1 (true,(x0.people.set x1.a.toNat (Person.mk ((x0.people.getD x1.a.toNat default).name) ((x0.people.getD x1.a.toNat default).sex) ((x0.people.getD x1.a.toNat default).father) ((x0.people.getD x1.a.toNat default).mother) ((x0.people.getD x1.a.toNat default).born) x1.year)),x0.unions))))))) (r0 1 [4] [900000,900001,900002] (rt [(900000,some 900000),(0,some 900001),(1,some 900002)] (C60 x0 x1 (false,x0.people,x0.unions)))))))))))))))
theorem ok_impl_happen (x0:Family) (x1:Event) (hx:x0.people.length≤1048576) (hu:x0.unions.length≤1048576):FnMT Try.prog 60 [.vp 900000 0,.agg (cEvent false x1)] [.var [.own 900001,.own 900002],.arr 6 x0.people.length (rowOf (cPerson true) x0.people),.arr 4 x0.unions.length (rowOf (cUnion true) x0.unions)] (C60 x0 x1 (happen x0 x1)):=by
 have aux:∀ R,happen x0 x1=R→slim (C60 x0 x1 R) (A60 x0 x1) []:=by
  intro R hR
  refine rg trivial ?_
  refine rg ⟨by ((try clear hR);intros;(try simp only [decide_eq_true_eq,decide_eq_false_iff_not,Bool.or_eq_true,Bool.and_eq_true,or_f_iff,not_f_iff,not_t_iff,Bool.not_eq_true',inR] at *);(repeat' apply And.intro)<;>(intros;omega)),trivial⟩ ?_
  revert hR;refine cd (fun hc1 hR=>?_) fun hc1 hR=>?_
  ·
    refine rg trivial ?_
    exact congrArg (C60 x0 x1) hR
  ·
    refine rg trivial ?_
    refine rg trivial ?_
    revert hR;refine cd (fun hc2 hR=>?_) fun hc2 hR=>?_
    ·
      refine rg ⟨trivial,by omega,trivial⟩ ?_
      exact congrArg (C60 x0 x1) hR
    ·
      refine rg trivial ?_
      revert hR;refine cd (fun hc3 hR=>?_) fun hc3 hR=>?_
      ·
        refine rg ⟨by trivial,fun hg0=>by trivial,trivial⟩ ?_
        revert hR;refine cd (fun hc4 hR=>?_) fun hc4 hR=>?_
        ·
          refine rg trivial ?_
          exact congrArg (C60 x0 x1) hR
        ·
          refine rg ⟨trivial,by omega,trivial⟩ ?_
          exact congrArg (C60 x0 x1) hR
      ·
        refine rg trivial ?_
        revert hR;refine cd (fun hc5 hR=>?_) fun hc5 hR=>?_
        ·
          refine rg ⟨by trivial,fun hg0=>by trivial,trivial⟩ ?_
          revert hR;refine cd (fun hc6 hR=>?_) fun hc6 hR=>?_
          ·
            refine rg trivial ?_
            exact congrArg (C60 x0 x1) hR
          ·
            refine rg trivial ?_
            revert hR;refine lN (fun i v=>True) (by trivial) rfl fun i1 v1 F1 hn1 hI1 hR hK1=>?_
            refine rg trivial ?_
            refine ⟨fun hc7=>?_,fun hc7=>?_⟩
            · have hii1:i1<x0.unions.length:=by have:=of_decide_eq_true hc7;omega
              replace hR:=loopN_step hR hii1
              refine rg ⟨by (intros;omega),trivial⟩ ?_
              revert hR;refine cd (fun hc8 hR=>?_) fun hc8 hR=>?_
              ·
                refine rg trivial ?_
                revert hR;refine cd (fun hc9 hR=>?_) fun hc9 hR=>?_
                ·
                  refine rg trivial ?_
                  exact congrArg (C60 x0 x1) hR
                ·
                  refine rg ⟨by trivial,trivial⟩ ?_
                  refine og (by (simp;done)) ?_
                  exact congrArg (C60 x0 x1) hR
              ·
                refine rg ⟨by ( intros;simp only [inR];omega),trivial⟩ ?_
                exact hK1 () hii1 (by trivial) hR
            · obtain rfl:i1=x0.unions.length:=by have:=of_decide_eq_false hc7;omega
              replace hR:=loopN_end hR (Nat.lt_irrefl _)
              refine rg trivial ?_
              exact congrArg (C60 x0 x1) hR
        ·
          refine rg trivial ?_
          revert hR;refine cd (fun hc10 hR=>?_) fun hc10 hR=>?_
          ·
            refine rg ⟨by ((try clear hR);simp only [happenBorn,Bool.and_eq_false_imp,Bool.and_eq_false_iff,or_f_iff,not_f_iff,not_t_iff,l1In,Bool.and_eq_true,decide_eq_true_eq,decide_eq_false_iff_not] at *;omega),by trivial,trivial⟩ ?_
            revert hR;refine cd (fun hc11 hR=>?_) fun hc11 hR=>?_
            ·
              refine rg trivial ?_
              exact congrArg (C60 x0 x1) hR
            ·
              refine rg ⟨by ((try clear hR);simp only [happenBorn,Bool.and_eq_false_imp,Bool.and_eq_false_iff,or_f_iff,not_f_iff,not_t_iff,l1In,Bool.and_eq_true,decide_eq_true_eq,decide_eq_false_iff_not] at *;omega),by ((try clear hR);simp only [happenBorn,Bool.and_eq_false_imp,Bool.and_eq_false_iff,or_f_iff,not_f_iff,not_t_iff,l1In,Bool.and_eq_true,decide_eq_true_eq,decide_eq_false_iff_not] at *;omega),trivial⟩ ?_
              refine og (by (simp;done)) ?_
              exact congrArg (C60 x0 x1) hR
          ·
            refine rg trivial ?_
            exact congrArg (C60 x0 x1) hR
 exact FnM.go 165 Try.func60 (by kernel_rfl) (by kernel_rfl) (A60 x0 x1) (by kernel_rfl) (aux _ rfl)
def k60 (d:Nat) (ids:List Nat) (x0:Family) (x1:Event):Cl:=(hresM d ids (C60 x0 x1 (happen x0 x1)),k2 (ok_impl_happen x0 x1))
theorem getD_name (l:List Person) (j N:Nat) (h:∀ q∈l,q.name.length≤N):(l.getD j default).name.length≤N:=by
 by_cases hj:j<l.length
 ·exact h _ (getD_mem hj)
 ·rw [show l.getD j default=default by rw [List.getD_eq_getElem?_getD,List.getElem?_eq_none (by omega)];rfl];exact Nat.zero_le _
structure Ev (N:Nat) (p r:List Person) (u s:List Union):Prop where
 pl:p.length≤r.length∧r.length≤p.length+1
 ul:u.length≤s.length∧s.length≤u.length+1
 nm:(∀ q∈p,q.name.length≤N)→∀ q∈r,q.name.length≤N
 wf:(∀ w∈u,0≤w.woman∧w.woman<p.length)→∀ w∈s,0≤w.woman∧w.woman<r.length
theorem Ev.rf (N:Nat) (p:List Person) (u:List Union):Ev N p p u u:=⟨by omega,by omega,id,id⟩
theorem Ev.born (N:Nat) (p:List Person) (u:List Union) (e:Event) (he:e.name.length≤N):Ev N p (p++[Person.mk e.name e.sex e.a e.b e.year (-1)]) u u :=
 ⟨by simp,by omega,fun h q hq=>by
  rcases List.mem_append.1 hq with h1 | h1
  ·exact h q h1
  ·rw [List.mem_singleton.1 h1];exact he,fun h w hw=>by have:=h w hw;simp only [List.length_append,List.length_singleton];omega⟩
theorem Ev.wed (N:Nat) (p:List Person) (u:List Union) (w:Union) (hw:0≤w.woman∧w.woman<p.length):Ev N p p u (u++[w]) :=
 ⟨by omega,by simp,id,fun h v hv=>by
  rcases List.mem_append.1 hv with h1 | h1
  ·exact h v h1
  ·rw [List.mem_singleton.1 h1];exact hw⟩
theorem Ev.part (N:Nat) (p:List Person) (u:List Union) (j:Nat) (w:Union) (hj:j<u.length) (hw:w.woman=(u.getD j default).woman):Ev N p p u (u.set j w) :=
 ⟨by omega,by simp,id,fun h v hv=>by
  rcases List.mem_or_eq_of_mem_set hv with h1 | h1
  ·exact h v h1
  ·rw [h1,hw];exact h _ (getD_mem hj)⟩
theorem Ev.dead (N:Nat) (p:List Person) (u:List Union) (j:Nat) (w:Person) (hw:w.name=(p.getD j default).name):Ev N p (p.set j w) u u :=
 ⟨by simp,by omega,fun h q hq=>by
  rcases List.mem_or_eq_of_mem_set hq with h1 | h1
  ·exact h q h1
  ·rw [h1,hw];exact getD_name p j N h,fun h v hv=>by have:=h v hv;simpa using this⟩
theorem l11_ev (N:Nat) (x:Family) (e:Event) (he:e.name.length≤N) (ht:(l11Do x e).2=true):Ev N x.people (l11Do x e).1.people x.unions (l11Do x e).1.unions:=by
 revert ht
 unfold l11Do
 refine cond_both (p:=fun (r:Family×Bool)=>r.2=true→Ev N x.people r.1.people x.unions r.1.unions) (fun _ _=>Ev.rf ..) (fun c1=>?_)
 refine cond_both (p:=fun (r:Family×Bool)=>r.2=true→Ev N x.people r.1.people x.unions r.1.unions) (fun _ _=>Ev.born _ _ _ e he) (fun c2=>?_)
 refine cond_both (p:=fun (r:Family×Bool)=>r.2=true→Ev N x.people r.1.people x.unions r.1.unions) (fun _ h=>Ev.wed _ _ _ _ ?_) (fun c3=>?_)
 ·simp only [l1In,Bool.and_eq_true,decide_eq_true_eq] at h;simp only;omega
 refine cond_both (p:=fun (r:Family×Bool)=>r.2=true→Ev N x.people r.1.people x.unions r.1.unions) (fun c4=>?_) (fun c4=>?_)
 ·refine cond_both (p:=fun (r:Family×Bool)=>r.2=true→Ev N x.people r.1.people x.unions r.1.unions) (fun c5 _=>Ev.rf ..) (fun c5 _=>Ev.part _ _ _ _ _ ?_ rfl)
  have:=l11Union_rng x e.a e.b
  simp only [or_f_iff,decide_eq_false_iff_not] at c5
  omega
 refine cond_both (p:=fun (r:Family×Bool)=>r.2=true→Ev N x.people r.1.people x.unions r.1.unions) (fun c5=>?_) (fun c5 _=>Ev.rf ..)
 exact cond_both (p:=fun (r:Family×Bool)=>r.2=true→Ev N x.people r.1.people x.unions r.1.unions) (fun c6 _=>Ev.rf ..) (fun c6 _=>Ev.dead _ _ _ _ _ rfl)
theorem happen_ev (N:Nat) (x:Family) (e:Event) (he:e.name.length≤N):Ev N x.people (happen x e).2.1 x.unions (happen x e).2.2:=by
 have P:∀ {c:Bool} {a b:Bool×List Person×List Union},(c=true→Ev N x.people a.2.1 x.unions a.2.2)→(c=false→Ev N x.people b.2.1 x.unions b.2.2)→Ev N x.people (bif c then a else b).2.1 x.unions (bif c then a else b).2.2:=fun h1 h2=>cond_both (p:=fun (r:Bool×List Person×List Union)=>Ev N x.people r.2.1 x.unions r.2.2) h1 h2
 unfold happen
 refine P (fun _=>Ev.rf ..) (fun c1=>P (fun _=>Ev.born _ _ _ e he) (fun c2=>P (fun c3=>P (fun c4=>Ev.rf ..) (fun c4=>Ev.wed _ _ _ _ ?_)) (fun c3=>P (fun c4=>P (fun _=>Ev.rf ..) fun c5=>?_) (fun c4=>P (fun c5=>P (fun _=>Ev.rf ..) (fun c6=>Ev.dead _ _ _ _ _ rfl)) (fun c5=>Ev.rf ..)))))
 ·simp only [happenBorn,or_f_iff,not_f_iff,Bool.and_eq_true,decide_eq_true_eq] at c4;exact c4.2
 ·exact loopN_to (fun i (v:Unit)=>True) (fun (r:Bool×List Person×List Union)=>Ev N x.people r.2.1 x.unions r.2.2) trivial (fun i v next hi hv hn=>P (fun _=>P (fun _=>Ev.rf ..) (fun _=>Ev.part _ _ _ _ _ hi rfl)) (fun _=>hn _ trivial)) (fun v hv=>Ev.rf ..)
theorem happen_step {x0 : List Event} (hy : ∀ e ∈ x0, e.name.length ≤ 1048576) {i : Nat} (hi : i < x0.length) {p : List Person} {u : List Union} (hI : p.length ≤ i ∧ u.length ≤ i ∧ ∀ q ∈ p, q.name.length ≤ 1048576) :
    (happen (Family.mk p u) (x0.getD i default)).2.1.length≤i+1∧(happen (Family.mk p u) (x0.getD i default)).2.2.length≤i+1∧∀ q∈(happen (Family.mk p u) (x0.getD i default)).2.1,q.name.length≤1048576:=by
 have h:=happen_ev 1048576 (Family.mk p u) (x0.getD i default) (hy _ (getD_mem hi))
 have h1:=h.pl;have h2:=h.ul
 exact ⟨by simp only at h1 ⊢;omega,by simp only at h2 ⊢;omega,h.nm hI.2.2⟩
def specBuild (x0:List Event):Family×Bool:=loopN (fun i1 (v1:(List Person)×(List Union)) next=>bif ((decide (0<((i1:Nat):Int)))&&(decide (((x0.getD i1 default).year)<((x0.getD ((((i1:Nat):Int) - 1).toNat) default).year)))) then ((Family.mk ([]:List Person) ([]:List Union)),false) else (bif (!((l11Do (Family.mk v1.1 v1.2) (x0.getD i1 default)).2)) then ((Family.mk ([]:List Person) ([]:List Union)),false) else (next (((l11Do (Family.mk v1.1 v1.2) (x0.getD i1 default)).1).people,((l11Do (Family.mk v1.1 v1.2) (x0.getD i1 default)).1).unions)))) (fun (v1:(List Person)×(List Union))=>bif (!(specIsFamily (Family.mk v1.1 v1.2))) then ((Family.mk ([]:List Person) ([]:List Union)),false) else ((Family.mk v1.1 v1.2),true)) x0.length 0 (([]:List Person),([]:List Union))
def C23 (R:Family×Bool):LV×List (Nat×BC):=(.tup [.agg [.own 0,.own 1],.bool R.2],[(0,.arr 6 R.1.people.length (rowOf (cPerson true) R.1.people)),(1,.arr 4 R.1.unions.length (rowOf (cUnion true) R.1.unions))])
def implBuild (x0:List Event):Family×Bool:=bif (decide (200<((x0.length:Nat):Int))) then ((Family.mk ([]:List Person) ([]:List Union)),false) else (loopN (fun i1 (v1:(List Person)×(List Union)) next=>bif (!((decide (0<((i1:Nat):Int)))&&(decide (((x0.getD i1 default).year)<((x0.getD ((((i1:Nat):Int) - 1).toNat) default).year))))) then (bif (((decide (0<((i1:Nat):Int)))&&(decide (((x0.getD i1 default).year)<((x0.getD ((((i1:Nat):Int) - 1).toNat) default).year))))||(!((happen (Family.mk v1.1 v1.2) (x0.getD i1 default)).1))) then ((Family.mk ([]:List Person) ([]:List Union)),false) else (next ((happen (Family.mk v1.1 v1.2) (x0.getD i1 default)).2.1,(happen (Family.mk v1.1 v1.2) (x0.getD i1 default)).2.2))) else (bif (((decide (0<((i1:Nat):Int)))&&(decide (((x0.getD i1 default).year)<((x0.getD ((((i1:Nat):Int) - 1).toNat) default).year))))||(!true)) then ((Family.mk ([]:List Person) ([]:List Union)),false) else (next (v1.1,v1.2)))) (fun (v1:(List Person)×(List Union))=>bif (!(implIsFamily (Family.mk v1.1 v1.2))) then ((Family.mk ([]:List Person) ([]:List Union)),false) else ((Family.mk v1.1 v1.2),true)) x0.length 0 (([]:List Person),([]:List Union)))
def D23b1 (x0:List Event) (i1:Nat) (v1:(List Person)×(List Union)):Dl:=⟨[(13,.int .i64 ((i1:Nat):Int))],[(30400,.arr 6 v1.1.length (rowOf (cPerson true) v1.1)),(30401,.arr 4 v1.2.length (rowOf (cUnion true) v1.2)),(4,.var [.own 30400,.own 30401])]⟩
def A23b1 (x0:List Event) (i1:Nat) (v1:(List Person)×(List Union)):Ann:=r0 1 [0,2,3,4,11,12,13,14] [2,4,30400,30401] (cn (decide (((i1:Nat):Int)<((x0.length:Nat):Int))) (.split (!((decide (0<((i1:Nat):Int)))&&(decide (((x0.getD i1 default).year)<((x0.getD ((((i1:Nat):Int) - 1).toNat) default).year))))) (.reg 2 [] [(1015,cT (k60 33 [4,30400,30401] (Family.mk v1.1 v1.2) (x0.getD i1 default)))] [0,2,3,4,11,12,13,35] [2,4,1033,2033] [decide (0<((i1:Nat):Int)),(decide (0<((i1:Nat):Int)))&&(decide (((x0.getD i1 default).year)<((x0.getD ((((i1:Nat):Int) - 1).toNat) default).year)))] [pf (0≤(((i1:Nat):Int):Int)∧(((i1:Nat):Int):Int)<((x0.length:Nat):Int)),gt (decide (0<((i1:Nat):Int))) (pf (inR .i64 (((i1:Nat):Int) - 1))),gt (decide (0<((i1:Nat):Int))) (pf (0≤(((i1:Nat):Int) - 1:Int)∧(((i1:Nat):Int) - 1:Int)<((x0.length:Nat):Int))),pf ((!((decide (0<((i1:Nat):Int)))&&(decide (((x0.getD i1 default).year)<((x0.getD ((((i1:Nat):Int) - 1).toNat) default).year)))))=true)] [] [0,1,1,4,1,1,8,1,1,1,1,1,12,12,16,6] (cn (((decide (0<((i1:Nat):Int)))&&(decide (((x0.getD i1 default).year)<((x0.getD ((((i1:Nat):Int) - 1).toNat) default).year))))||(!((happen (Family.mk v1.1 v1.2) (x0.getD i1 default)).1))) (r0 1 [0,2,3,4,11,12,13] [2,4,1033,2033] (rt [(0,none),(1,none)] (C23 ((Family.mk ([]:List Person) ([]:List Union)),false)))) (r1 1 [0,2,3,4,11,12,13] [2,4,1033,2033] [pf (inR .i64 (((i1:Nat):Int)+1))] [0] (.next 0 [(30400,some 1033),(30401,some 2033)] (D23b1 x0 (i1+1) ((happen (Family.mk v1.1 v1.2) (x0.getD i1 default)).2.1,(happen (Family.mk v1.1 v1.2) (x0.getD i1 default)).2.2)))))) (.reg 2 [(1015,.gF)] [] [0,2,3,4,11,12,13,35] [2,4,30400,30401] [decide (0<((i1:Nat):Int)),(decide (0<((i1:Nat):Int)))&&(decide (((x0.getD i1 default).year)<((x0.getD ((((i1:Nat):Int) - 1).toNat) default).year)))] [pf (0≤(((i1:Nat):Int):Int)∧(((i1:Nat):Int):Int)<((x0.length:Nat):Int)),gt (decide (0<((i1:Nat):Int))) (pf (inR .i64 (((i1:Nat):Int) - 1))),gt (decide (0<((i1:Nat):Int))) (pf (0≤(((i1:Nat):Int) - 1:Int)∧(((i1:Nat):Int) - 1:Int)<((x0.length:Nat):Int))),pf ((!((decide (0<((i1:Nat):Int)))&&(decide (((x0.getD i1 default).year)<((x0.getD ((((i1:Nat):Int) - 1).toNat) default).year)))))=false),gt (!((decide (0<((i1:Nat):Int)))&&(decide (((x0.getD i1 default).year)<((x0.getD ((((i1:Nat):Int) - 1).toNat) default).year))))) (pf (false=true))] [] [0,1,1,4,1,1,8,1,1,1,1,1,12,16,6] (cn (((decide (0<((i1:Nat):Int)))&&(decide (((x0.getD i1 default).year)<((x0.getD ((((i1:Nat):Int) - 1).toNat) default).year))))||(!true)) (r0 1 [0,2,3,4,11,12,13] [2,4,30400,30401] (rt [(0,none),(1,none)] (C23 ((Family.mk ([]:List Person) ([]:List Union)),false)))) (r1 1 [0,2,3,4,11,12,13] [2,4,30400,30401] [pf (inR .i64 (((i1:Nat):Int)+1))] [0] (.next 0 [(30400,some 30400),(30401,some 30401)] (D23b1 x0 (i1+1) (v1.1,v1.2))))))) (.reg 1 [] [(1,k50 (Family.mk v1.1 v1.2))] [2,3,4,40] [2,4,30400,30401] [] [] [] [0] (cn (!(implIsFamily (Family.mk v1.1 v1.2))) (r0 1 [2,3,4] [2,4,30400,30401] (rt [(0,none),(1,none)] (C23 ((Family.mk ([]:List Person) ([]:List Union)),false)))) (r0 1 [2,3] [2,30400,30401] (rt [(0,some 30400),(1,some 30401)] (C23 ((Family.mk v1.1 v1.2),true)))))))
def A23 (x0:List Event):Ann:=r0 2 [0,2,3,4] [2,4] (r0 1 [0,2,3,4,9] [2,4] (cn (decide (200<((x0.length:Nat):Int))) (r0 1 [0,2,3,4] [2,4] (rt [(0,none),(1,none)] (C23 ((Family.mk ([]:List Person) ([]:List Union)),false)))) (r0 1 [0,2,3,4,11,12,13] [2,4] (lp (D23b1 x0) [] [] [(30400,none),(30401,none)] (D23b1 x0 0 (([]:List Person),([]:List Union))) (A23b1 x0)))))
theorem ok_impl_BuildFamily (x0:List Event) (hx:x0.length≤1048576) (hy:∀ e∈x0,e.name.length≤1048576):FnT Try.prog 23 [.ro false 6 x0.length (rowOf (cEvent false) x0)] (C23 (implBuild x0)):=by
 have aux:∀ R,implBuild x0=R→slim (C23 R) (A23 x0) []:=by
  intro R hR
  refine rg trivial ?_
  refine rg trivial ?_
  revert hR;refine cd (fun hc1 hR=>?_) fun hc1 hR=>?_
  ·
    refine rg trivial ?_
    exact congrArg C23 hR
  ·
    refine rg trivial ?_
    revert hR;refine lN (fun i v=>v.1.length≤i∧v.2.length≤i∧∀ q∈v.1,q.name.length≤1048576) (by trivial) rfl fun i1 v1 F1 hn1 hI1 hR hK1=>?_
    refine rg trivial ?_
    refine ⟨fun hc2=>?_,fun hc2=>?_⟩
    · have hii1:i1<x0.length:=by have:=of_decide_eq_true hc2;omega
      replace hR:=loopN_step hR hii1
      revert hR;refine cd (fun hs3 hR=>?_) fun hs3 hR=>?_
      ·
        refine rg ⟨by (intros;omega),by ( intros;simp only [inR];omega),by ((try clear hR hK1);intros;(try simp only [decide_eq_true_eq,decide_eq_false_iff_not,Bool.or_eq_true,Bool.and_eq_true,or_f_iff,not_f_iff,not_t_iff,Bool.not_eq_true',inR] at *);(repeat' apply And.intro)<;>(intros;omega)),by trivial,⟨by ( intros;simp only [inR];omega),by ( intros;simp only [inR];omega)⟩,trivial⟩ ?_
        revert hR;refine cd (fun hc4 hR=>?_) fun hc4 hR=>?_
        ·
          refine rg trivial ?_
          exact congrArg C23 hR
        ·
          refine rg ⟨by ( intros;simp only [inR];omega),trivial⟩ ?_
          exact hK1 ((happen (Family.mk v1.1 v1.2) (x0.getD i1 default)).2.1,(happen (Family.mk v1.1 v1.2) (x0.getD i1 default)).2.2) hii1 (by (exact happen_step hy hii1 hI1)) hR
      ·
        refine rg ⟨by (intros;omega),by ( intros;simp only [inR];omega),by ((try clear hR hK1);intros;(try simp only [decide_eq_true_eq,decide_eq_false_iff_not,Bool.or_eq_true,Bool.and_eq_true,or_f_iff,not_f_iff,not_t_iff,Bool.not_eq_true',inR] at *);(repeat' apply And.intro)<;>(intros;omega)),by trivial,by ((try clear hR hK1);intros;(try simp only [decide_eq_true_eq,decide_eq_false_iff_not,Bool.or_eq_true,Bool.and_eq_true,or_f_iff,not_f_iff,not_t_iff,Bool.not_eq_true',inR] at *);(repeat' apply And.intro)<;>(simp_all [inR];done)),trivial⟩ ?_
        revert hR;refine cd (fun hc5 hR=>?_) fun hc5 hR=>?_
        ·
          refine rg trivial ?_
          exact congrArg C23 hR
        ·
          refine rg ⟨by ( intros;simp only [inR];omega),trivial⟩ ?_
          exact hK1 (v1.1,v1.2) hii1 (by ((try clear hR hK1);intros;(try simp only [decide_eq_true_eq,decide_eq_false_iff_not,Bool.or_eq_true,Bool.and_eq_true,or_f_iff,not_f_iff,not_t_iff,Bool.not_eq_true',inR] at *);(repeat' apply And.intro)<;>(first | (intros;omega) | (have h9:=hI1.2.2;(try simp only [Int.toNat_natCast]);first | assumption | exact h9 _ (by assumption))))) hR
    · obtain rfl:i1=x0.length:=by have:=of_decide_eq_false hc2;omega
      replace hR:=loopN_end hR (Nat.lt_irrefl _)
      refine rg ⟨⟨by ( intros;simp only [inR];omega),by ( intros;simp only [inR];omega),by (have h9:=hI1.2.2;(try simp only [Int.toNat_natCast]);first | assumption | exact h9 _ (by assumption))⟩,trivial⟩ ?_
      revert hR;refine cd (fun hc6 hR=>?_) fun hc6 hR=>?_
      ·
        refine rg trivial ?_
        exact congrArg C23 hR
      ·
        refine rg trivial ?_
        exact congrArg C23 hR
 exact Fn.go 43 Try.func23 (by kernel_rfl) (by kernel_rfl) (by simp [C23,Frs,FrsL,FrsB,rowOf,cInt,cBool,cStr,cSl,FrsL_app,cPerson,cUnion,cFamily,cEvent]) (A23 x0) (by kernel_rfl) (aux _ rfl)
def k23 (x0:List Event):Cl:=(hres (C23 (implBuild x0)),k2 (ok_impl_BuildFamily x0))
end Go.Proofs.Ytepefimocflfkaa
