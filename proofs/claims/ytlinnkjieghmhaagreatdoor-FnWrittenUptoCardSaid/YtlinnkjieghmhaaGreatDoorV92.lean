import Derived.Test.YtlinnkjieghmhaaGreatDoorV90
set_option maxHeartbeats 4000000
set_option linter.unusedSimpArgs false
set_option linter.unusedVariables false
namespace Go.Proofs.YtlinnkjieghmhaaGreatDoor
open Go Go.Lite Go.Proofs
structure yd where
 kind:Int
 year:Int
 name:List UInt8
 sex:Int
 a:Int
 b:Int
 deriving Inhabited
def zbt (fr:Bool) (x:yd):List LV:=cInt .i64 x.kind++cInt .i64 x.year++cStr x.name++cInt .i64 x.sex++cInt .i64 x.a++cInt .i64 x.b

def zcn (x0:yc) (x1:Int) (x2:Int):Int:=loopN (fun i1 (v1:Unit) next=>bif ((decide (((x0.unions.getD i1 default).man)=x1))&&(decide (((x0.unions.getD i1 default).woman)=x2))) then ((i1:Nat):Int) else (next ())) (fun (v1:Unit)=>(-1)) x0.unions.length 0 ()
theorem zmr (x:yc) (a b:Int):-1≤zcn x a b∧zcn x a b<x.unions.length:=by
 unfold zcn
 exact zbx (fun i (v:Unit)=>True) (fun (r:Int)=>-1≤r∧r<x.unions.length) trivial (fun i v next hi hv hn=>zbe (p:=fun (r:Int)=>-1≤r∧r<x.unions.length) (fun _=>by omega) (fun _=>hn _ trivial)) (fun v hv=>by omega)
def l11Do (x0:yc) (x1:yd):yc×Bool:=bif ((!decide (x1.kind=1))&&(((!(x1.name==([]:List UInt8)))||(!decide (x1.sex=0)))||(!(l1In x1.a 0 (((x0.people.length:Nat):Int) - 1))))) then (x0,false) else (bif (decide (x1.kind=1)) then ((yc.mk (x0.people++[(ya.mk x1.name x1.sex x1.a x1.b x1.year (-1))]) x0.unions),decide (((x0.people.length:Nat):Int)<40)) else (bif (decide (x1.kind=2)) then ((yc.mk x0.people (x0.unions++[(yb.mk x1.a x1.b x1.year (-1))])),(l1In x1.b 0 (((x0.people.length:Nat):Int) - 1))&&(decide ((((x0.unions++[(yb.mk x1.a x1.b x1.year (-1))]).length:Nat):Int)≤60))) else (bif (decide (x1.kind=3)) then (bif ((decide ((zcn x0 x1.a x1.b)<0))||(!decide (((x0.unions.getD ((zcn x0 x1.a x1.b).toNat) default).to)=(-1)))) then (x0,false) else ((yc.mk x0.people (x0.unions.set ((zcn x0 x1.a x1.b).toNat) (yb.mk ((x0.unions.getD ((zcn x0 x1.a x1.b).toNat) default).man) ((x0.unions.getD ((zcn x0 x1.a x1.b).toNat) default).woman) ((x0.unions.getD ((zcn x0 x1.a x1.b).toNat) default).from0) x1.year))),true)) else (bif (decide (x1.kind=4)) then (bif ((!decide (x1.b=0))||(!decide (((x0.people.getD x1.a.toNat default).died)=(-1)))) then (x0,false) else ((yc.mk (x0.people.set x1.a.toNat (ya.mk ((x0.people.getD x1.a.toNat default).name) ((x0.people.getD x1.a.toNat default).sex) ((x0.people.getD x1.a.toNat default).father) ((x0.people.getD x1.a.toNat default).mother) ((x0.people.getD x1.a.toNat default).born) x1.year)) x0.unions),true)) else (x0,false)))))
def C54 (R:Bool):LV×List (Nat×BC):=(.bool R,[])
def zck (x0:Int) (x1:yc):Bool:=(decide (0≤x0))&&(decide (x0<((x1.people.length:Nat):Int)))
def A54 (x0:Int) (x1:yc):Ann:=.reg 2 [] [] [3] [] [decide (0≤x0)] [] [] [1,1,1,1,1,1,1] (rt [] (C54 ((decide (0≤x0))&&(decide (x0<((x1.people.length:Nat):Int))))))
theorem znb (x0:Int) (x1:yc) (hx:x1.people.length≤1048576):FnT Tryz.prog 54 [.int .i64 x0,.ep [.ep [.ro false 6 x1.people.length (rowOf (zbg false) x1.people),.ro false 4 x1.unions.length (rowOf (zbi false) x1.unions)] 0] 0] (C54 (zck x0 x1)):=by
 have aux:∀ R,zck x0 x1=R→slim (C54 R) (A54 x0 x1) []:=by
  intro R hR
  refine rg trivial ?_
  exact congrArg C54 hR
 exact Fn.go 15 Tryz.func54 (by kernel_rfl) (by kernel_rfl) (by simp [C54,Frs,FrsL]) (A54 x0 x1) (by kernel_rfl) (aux _ rfl)
def k54 (x0:Int) (x1:yc):Cl:=(hres (C54 (zck x0 x1)),k1 (znb x0 x1))
def C27 (x0:yc) (x1:yd) (R:Bool×(List ya)×(List yb)):LV×List (Nat×BC):=(.bool R.1,[(900000,.var [.own 0,.own 1]),(0,.arr 6 R.2.1.length (rowOf (zbg true) R.2.1)),(1,.arr 4 R.2.2.length (rowOf (zbi true) R.2.2))])
def zeq (x0:yc) (x1:yd):Bool×(List ya)×(List yb):=bif ((!decide (x1.kind=1))&&((!(x1.name==([]:List UInt8)))||(!decide (x1.sex=0)))) then (false,x0.people,x0.unions) else (bif (decide (x1.kind=1)) then (true,(x0.people++[(ya.mk x1.name x1.sex x1.a x1.b x1.year (-1))]),x0.unions) else (bif (decide (x1.kind=2)) then (bif ((!(zck x1.a x0))||(!(zck x1.b x0))) then (false,x0.people,x0.unions) else (true,x0.people,(x0.unions++[(yb.mk x1.a x1.b x1.year (-1))]))) else (bif (decide (x1.kind=3)) then (bif ((!(zck x1.a x0))||(!(zck x1.b x0))) then (false,x0.people,x0.unions) else (loopN (fun i1 (v1:Unit) next=>bif ((decide (((x0.unions.getD i1 default).man)=x1.a))&&(decide (((x0.unions.getD i1 default).woman)=x1.b))) then (bif (!decide (((x0.unions.getD i1 default).to)=(-1))) then (false,x0.people,x0.unions) else (true,x0.people,(x0.unions.set i1 (yb.mk ((x0.unions.getD i1 default).man) ((x0.unions.getD i1 default).woman) ((x0.unions.getD i1 default).from0) x1.year)))) else (next ())) (fun (v1:Unit)=>(false,x0.people,x0.unions)) x0.unions.length 0 ())) else (bif (decide (x1.kind=4)) then (bif (((!(zck x1.a x0))||(!decide (x1.b=0)))||(!decide (((x0.people.getD x1.a.toNat default).died)=(-1)))) then (false,x0.people,x0.unions) else (true,(x0.people.set x1.a.toNat (ya.mk ((x0.people.getD x1.a.toNat default).name) ((x0.people.getD x1.a.toNat default).sex) ((x0.people.getD x1.a.toNat default).father) ((x0.people.getD x1.a.toNat default).mother) ((x0.people.getD x1.a.toNat default).born) x1.year)),x0.unions)) else (false,x0.people,x0.unions)))))
def D27b1 (i1:Nat) (v1:Unit):Dl:=⟨[(95,.int .i64 ((i1:Nat):Int))],[]⟩
def A27b1 (x0:yc) (x1:yd) (i1:Nat) (v1:Unit):Ann:=let q5:=((i1:Nat):Int);let q3:=x0.unions.getD i1 default;let q6:=((x0.unions.length:Nat):Int);let q2:=(rt [(900000,some 900000),(0,some 900001),(1,some 900002)] (C27 x0 x1 (false,x0.people,x0.unions)));let q1:=yb.mk (q3.man) (q3.woman) (q3.from0) x1.year;let q4:=x0.unions.set i1 q1;let q7:=rowOf (zbi true) q4;r0 1 [2,3,4,94,95,96] [2,3,900000,900001,900002] (cn (decide (q5<q6)) (.reg 3 [] [] [2,3,4,7,94,95,119] [2,3,900000,900001,900002] [decide ((q3.man)=x1.a)] [pf (0≤(q5:Int)∧(q5:Int)<q6)] [] [0,1,1,1,1,1,1,1] (cn ((decide ((q3.man)=x1.a))&&(decide ((q3.woman)=x1.b))) (r0 1 [2,3,4,7,94,95,124] [2,3,900000,900001,900002] (cn (!decide ((q3.to)=(-1))) (r0 1 [2,3,4,7,94,95] [2,3,900000,900001,900002] q2) (.reg 2 [] [(5,stP 900002 (zbi true) x0.unions.length x0.unions x0.unions i1 3 [.int .i64 x1.year] q1 q3 (.inr ⟨rfl,rfl⟩) rfl)] [2,3,4,94,95] [2,3,900000,900001,900002] [] [] [] [0] (.co false 900002 (q4.length) q7 [lnP q7 x0.unions.length (q4.length)] [] 0 (rt [(900000,some 900000),(0,some 900001),(1,some 900002)] (C27 x0 x1 (true,x0.people,q4))))))) (r1 1 [2,3,4,94,95] [2,3,900000,900001,900002] [pf (inR .i64 (q5+1))] [0] (.next 0 [] (D27b1 (i1+1) ()))))) (r0 1 [4] [900000,900001,900002] q2))
def A27 (x0:yc) (x1:yd):Ann:=let q3:=zck x1.a x0;let q9:=!decide (x1.kind=1);let q7:=(!(x1.name==([]:List UInt8)));let q10:=yb.mk x1.a x1.b x1.year (-1);let q12:=x0.people.getD x1.a.toNat default;let q6:=ya.mk x1.name x1.sex x1.a x1.b x1.year (-1);let q11:=(!q3)||(!decide (x1.b=0));let q13:=(!q3)||(!(zck x1.b x0));let q8:=(0≤(x1.a:Int)∧(x1.a:Int)<((x0.people.length:Nat):Int));let q2:=(rt [(900000,some 900000),(0,some 900001),(1,some 900002)] (C27 x0 x1 (false,x0.people,x0.unions)));let q5:=(r0 1 [2,3,4] [2,3,900000,900001,900002] q2);let q1:=ya.mk (q12.name) (q12.sex) (q12.father) (q12.mother) (q12.born) x1.year;let q4:=x0.people.set x1.a.toNat q1;let q14:=rowOf (zbg true) q4;r0 2 [2,3,4,5] [2,3,900000,900001,900002] (.reg 1 [] [] [2,3,4,5,21] [2,3,900000,900001,900002] [!decide (x1.kind=1),q9&&(!q7)] [gt q9 (gf q7 (pf ((q9&&(!q7))=true)))] [] [1,1,1,5,5,1,0,1] (cn (q9&&(q7||(!decide (x1.sex=0)))) (r0 1 [2,3,4,5] [2,3,900000,900001,900002] q2) (r0 1 [2,3,4,5,23] [2,3,900000,900001,900002] (r0 1 [2,3,4,5,23,24] [2,3,900000,900001,900002] (cn (decide (x1.kind=1)) (.reg 2 [] [(16,bsC 42 (zbg true) ([q6]:List ya)),(17,ap1 43 (zbg true) 56 x0.people q6)] [4] [43,900000,900002] [] [] [] [0,4] (rt [(900000,some 900000),(0,some 43),(1,some 900002)] (C27 x0 x1 (true,(x0.people++[q6]),x0.unions)))) (r0 1 [2,3,4,5,23,46] [2,3,900000,900001,900002] (cn (decide (x1.kind=2)) (.reg 1 [] [(3,k54 x1.a x0),(9,cg (!(!q3)) (k54 x1.b x0))] [2,3,4,59] [2,3,900000,900001,900002] [!(!q3),!q3] [] [] [0,1,1,1,4,1,6] (cn q13 q5 (.reg 2 [] [(12,bsC 72 (zbi true) ([q10]:List yb)),(13,ap1 73 (zbi true) 32 x0.unions q10)] [4] [73,900000,900001] [] [] [] [0,4] (rt [(900000,some 900000),(0,some 900001),(1,some 73)] (C27 x0 x1 (true,x0.people,(x0.unions++[q10]))))))) (r0 1 [2,3,4,5,23,76] [2,3,900000,900001,900002] (cn (decide (x1.kind=3)) (.reg 1 [] [(3,k54 x1.a x0),(9,cg (!(!q3)) (k54 x1.b x0))] [2,3,4,89] [2,3,900000,900001,900002] [!(!q3),!q3] [] [] [0,1,1,1,4,1,6] (cn q13 q5 (r0 1 [2,3,4,94,95] [2,3,900000,900001,900002] (lp (D27b1) [] [] [] (D27b1 0 ()) (A27b1 x0 x1))))) (r0 1 [2,3,4,5,131] [2,3,900000,900001,900002] (cn (decide (x1.kind=4)) (.reg 1 [] [(3,k54 x1.a x0)] [2,3,4,154] [2,3,900000,900001,900002] [!(!q3),!q3,!q11,(!q3)||(!decide (x1.b=0))] [gt (!q11) (pf q8)] [] [4,1,1,6,9,9,9,9,9,9,0,9,9,9,14] (cn (q11||(!decide ((q12.died)=(-1)))) q5 (.reg 2 [] [(10,stP 900001 (zbg true) x0.people.length x0.people x0.people x1.a.toNat 5 [.int .i64 x1.year] q1 q12 (.inr ⟨rfl,rfl⟩) rfl)] [4] [900000,900001,900002] [] [pf q8] [] [0,4] (.co false 900001 (q4.length) q14 [lnP q14 x0.people.length (q4.length)] [] 0 (rt [(900000,some 900000),(0,some 900001),(1,some 900002)] (C27 x0 x1 (true,q4,x0.unions))))))) (r0 1 [4] [900000,900001,900002] q2))))))))))))
theorem zp3 (x0:yc) (x1:yd) (hx:x0.people.length≤1048576) (hu:x0.unions.length≤1048576):FnMT Tryz.prog 27 [.vp 900000 0,.agg (zbt false x1)] [.var [.own 900001,.own 900002],.arr 6 x0.people.length (rowOf (zbg true) x0.people),.arr 4 x0.unions.length (rowOf (zbi true) x0.unions)] (C27 x0 x1 (zeq x0 x1)):=by
 have aux:∀ R,zeq x0 x1=R→slim (C27 x0 x1 R) (A27 x0 x1) []:=by
  intro R hR
  refine rg trivial ?_
  refine rg ⟨by ((try clear hR);intros;(try simp only [decide_eq_true_eq,decide_eq_false_iff_not,Bool.or_eq_true,Bool.and_eq_true,zbd,zbb,zbc,Bool.not_eq_true',inR] at *);(repeat' apply And.intro)<;>(intros;omega)),trivial⟩ ?_
  revert hR;refine cd (fun hc1 hR=>?_) fun hc1 hR=>?_
  ·
    refine rg trivial ?_
    exact congrArg (C27 x0 x1) hR
  ·
    refine rg trivial ?_
    refine rg trivial ?_
    revert hR;refine cd (fun hc2 hR=>?_) fun hc2 hR=>?_
    ·
      refine rg ⟨trivial,om,trivial⟩ ?_
      exact congrArg (C27 x0 x1) hR
    ·
      refine rg trivial ?_
      revert hR;refine cd (fun hc3 hR=>?_) fun hc3 hR=>?_
      ·
        refine rg ⟨by trivial,fun hg0=>by trivial,trivial⟩ ?_
        revert hR;refine cd (fun hc4 hR=>?_) fun hc4 hR=>?_
        ·
          refine rg trivial ?_
          exact congrArg (C27 x0 x1) hR
        ·
          refine rg ⟨trivial,om,trivial⟩ ?_
          exact congrArg (C27 x0 x1) hR
      ·
        refine rg trivial ?_
        revert hR;refine cd (fun hc5 hR=>?_) fun hc5 hR=>?_
        ·
          refine rg ⟨by trivial,fun hg0=>by trivial,trivial⟩ ?_
          revert hR;refine cd (fun hc6 hR=>?_) fun hc6 hR=>?_
          ·
            refine rg trivial ?_
            exact congrArg (C27 x0 x1) hR
          ·
            refine rg trivial ?_
            revert hR;refine lN (fun i v=>True) za6 rfl fun i1 v1 F1 hn1 hI1 hR hK1=>?_
            refine rg trivial ?_
            refine ⟨fun hc7=>?_,fun hc7=>?_⟩
            · have hii1:i1<x0.unions.length:=by have:=of_decide_eq_true hc7;omega
              replace hR:=zbq hR hii1
              refine rg ⟨by (intros;omega),trivial⟩ ?_
              revert hR;refine cd (fun hc8 hR=>?_) fun hc8 hR=>?_
              ·
                refine rg trivial ?_
                revert hR;refine cd (fun hc9 hR=>?_) fun hc9 hR=>?_
                ·
                  refine rg trivial ?_
                  exact congrArg (C27 x0 x1) hR
                ·
                  refine rg ⟨by trivial,trivial⟩ ?_
                  refine og (by (simp;done)) ?_
                  exact congrArg (C27 x0 x1) hR
              ·
                refine rg ⟨by ( intros;simp only [inR];omega),trivial⟩ ?_
                exact hK1 () hii1 za6 hR
            · obtain rfl:i1=x0.unions.length:=by have:=of_decide_eq_false hc7;omega
              replace hR:=zbu hR (Nat.lt_irrefl _)
              refine rg trivial ?_
              exact congrArg (C27 x0 x1) hR
        ·
          refine rg trivial ?_
          revert hR;refine cd (fun hc10 hR=>?_) fun hc10 hR=>?_
          ·
            refine rg ⟨by ((try clear hR);simp only [zck,Bool.and_eq_false_imp,Bool.and_eq_false_iff,zbd,zbb,zbc,l1In,Bool.and_eq_true,decide_eq_true_eq,decide_eq_false_iff_not] at *;omega),by trivial,trivial⟩ ?_
            revert hR;refine cd (fun hc11 hR=>?_) fun hc11 hR=>?_
            ·
              refine rg trivial ?_
              exact congrArg (C27 x0 x1) hR
            ·
              refine rg ⟨by ((try clear hR);simp only [zck,Bool.and_eq_false_imp,Bool.and_eq_false_iff,zbd,zbb,zbc,l1In,Bool.and_eq_true,decide_eq_true_eq,decide_eq_false_iff_not] at *;omega),by ((try clear hR);simp only [zck,Bool.and_eq_false_imp,Bool.and_eq_false_iff,zbd,zbb,zbc,l1In,Bool.and_eq_true,decide_eq_true_eq,decide_eq_false_iff_not] at *;omega),trivial⟩ ?_
              refine og (by (simp;done)) ?_
              exact congrArg (C27 x0 x1) hR
          ·
            refine rg trivial ?_
            exact congrArg (C27 x0 x1) hR
 exact FnM.go 165 Tryz.func27 (by kernel_rfl) (by kernel_rfl) (A27 x0 x1) (by kernel_rfl) (aux _ rfl)
def k27 (d:Nat) (ids:List Nat) (x0:yc) (x1:yd):Cl:=(hresM d ids (C27 x0 x1 (zeq x0 x1)),k2 (zp3 x0 x1))
theorem z0b (l:List ya) (j N:Nat) (h:∀ q∈l,q.name.length≤N):(l.getD j default).name.length≤N:=by
 by_cases hj:j<l.length
 ·exact h _ (zd0 hj)
 ·rw [show l.getD j default=default by rw [List.getD_eq_getElem?_getD,List.getElem?_eq_none om];rfl];exact Nat.zero_le _
structure Ev (N:Nat) (p r:List ya) (u s:List yb):Prop where
 pl:p.length≤r.length∧r.length≤p.length+1
 ul:u.length≤s.length∧s.length≤u.length+1
 nm:(∀ q∈p,q.name.length≤N)→∀ q∈r,q.name.length≤N
 wf:(∀ w∈u,0≤w.woman∧w.woman<p.length)→∀ w∈s,0≤w.woman∧w.woman<r.length
theorem Ev.rf (N:Nat) (p:List ya) (u:List yb):Ev N p p u u:=⟨om,om,id,id⟩
theorem Ev.born (N:Nat) (p:List ya) (u:List yb) (e:yd) (he:e.name.length≤N):Ev N p (p++[ya.mk e.name e.sex e.a e.b e.year (-1)]) u u :=
 ⟨by simp,om,fun h q hq=>by
  rcases List.mem_append.1 hq with h1 | h1
  ·exact h q h1
  ·rw [List.mem_singleton.1 h1];exact he,fun h w hw=>by have:=h w hw;simp only [List.length_append,List.length_singleton];omega⟩
theorem Ev.wedd (N:Nat) (p:List ya) (u:List yb) (w:yb) (hw:0≤w.woman∧w.woman<p.length):Ev N p p u (u++[w]) :=
 ⟨om,by simp,id,fun h v hv=>by
  rcases List.mem_append.1 hv with h1 | h1
  ·exact h v h1
  ·rw [List.mem_singleton.1 h1];exact hw⟩
theorem Ev.part (N:Nat) (p:List ya) (u:List yb) (j:Nat) (w:yb) (hj:j<u.length) (hw:w.woman=(u.getD j default).woman):Ev N p p u (u.set j w) :=
 ⟨om,by simp,id,fun h v hv=>by
  rcases List.mem_or_eq_of_mem_set hv with h1 | h1
  ·exact h v h1
  ·rw [h1,hw];exact h _ (zd0 hj)⟩
theorem Ev.dead (N:Nat) (p:List ya) (u:List yb) (j:Nat) (w:ya) (hw:w.name=(p.getD j default).name):Ev N p (p.set j w) u u :=
 ⟨by simp,om,fun h q hq=>by
  rcases List.mem_or_eq_of_mem_set hq with h1 | h1
  ·exact h q h1
  ·rw [h1,hw];exact z0b p j N h,fun h v hv=>by have:=h v hv;simpa using this⟩
theorem l11_ev (N:Nat) (x:yc) (e:yd) (he:e.name.length≤N) (ht:(l11Do x e).2=true):Ev N x.people (l11Do x e).1.people x.unions (l11Do x e).1.unions:=by
 revert ht
 unfold l11Do
 refine zbe (p:=fun (r:yc×Bool)=>r.2=true→Ev N x.people r.1.people x.unions r.1.unions) (fun _ _=>Ev.rf ..) (fun c1=>?_)
 refine zbe (p:=fun (r:yc×Bool)=>r.2=true→Ev N x.people r.1.people x.unions r.1.unions) (fun _ _=>Ev.born _ _ _ e he) (fun c2=>?_)
 refine zbe (p:=fun (r:yc×Bool)=>r.2=true→Ev N x.people r.1.people x.unions r.1.unions) (fun _ h=>Ev.wedd _ _ _ _ ?_) (fun c3=>?_)
 ·simp only [l1In,Bool.and_eq_true,decide_eq_true_eq] at h;simp only;omega
 refine zbe (p:=fun (r:yc×Bool)=>r.2=true→Ev N x.people r.1.people x.unions r.1.unions) (fun c4=>?_) (fun c4=>?_)
 ·refine zbe (p:=fun (r:yc×Bool)=>r.2=true→Ev N x.people r.1.people x.unions r.1.unions) (fun c5 _=>Ev.rf ..) (fun c5 _=>Ev.part _ _ _ _ _ ?_ rfl)
  have:=zmr x e.a e.b
  simp only [zbd,decide_eq_false_iff_not] at c5
  omega
 refine zbe (p:=fun (r:yc×Bool)=>r.2=true→Ev N x.people r.1.people x.unions r.1.unions) (fun c5=>?_) (fun c5 _=>Ev.rf ..)
 exact zbe (p:=fun (r:yc×Bool)=>r.2=true→Ev N x.people r.1.people x.unions r.1.unions) (fun c6 _=>Ev.rf ..) (fun c6 _=>Ev.dead _ _ _ _ _ rfl)
theorem ztq (N:Nat) (x:yc) (e:yd) (he:e.name.length≤N):Ev N x.people (zeq x e).2.1 x.unions (zeq x e).2.2:=by
 have P:∀ {c:Bool} {a b:Bool×List ya×List yb},(c=true→Ev N x.people a.2.1 x.unions a.2.2)→(c=false→Ev N x.people b.2.1 x.unions b.2.2)→Ev N x.people (bif c then a else b).2.1 x.unions (bif c then a else b).2.2:=fun h1 h2=>zbe (p:=fun (r:Bool×List ya×List yb)=>Ev N x.people r.2.1 x.unions r.2.2) h1 h2
 unfold zeq
 refine P (fun _=>Ev.rf ..) (fun c1=>P (fun _=>Ev.born _ _ _ e he) (fun c2=>P (fun c3=>P (fun c4=>Ev.rf ..) (fun c4=>Ev.wedd _ _ _ _ ?_)) (fun c3=>P (fun c4=>P (fun _=>Ev.rf ..) fun c5=>?_) (fun c4=>P (fun c5=>P (fun _=>Ev.rf ..) (fun c6=>Ev.dead _ _ _ _ _ rfl)) (fun c5=>Ev.rf ..)))))
 ·simp only [zck,zbd,zbb,Bool.and_eq_true,decide_eq_true_eq] at c4;exact c4.2
 ·exact zbx (fun i (v:Unit)=>True) (fun (r:Bool×List ya×List yb)=>Ev N x.people r.2.1 x.unions r.2.2) trivial (fun i v next hi hv hn=>P (fun _=>P (fun _=>Ev.rf ..) (fun _=>Ev.part _ _ _ _ _ hi rfl)) (fun _=>hn _ trivial)) (fun v hv=>Ev.rf ..)
theorem zu3 {x0 : List yd} (hy : ∀ e ∈ x0, e.name.length ≤ 1048576) {i : Nat} (hi : i < x0.length) {p : List ya} {u : List yb} (hI : p.length ≤ i ∧ u.length ≤ i ∧ ∀ q ∈ p, q.name.length ≤ 1048576) :
    (zeq (yc.mk p u) (x0.getD i default)).2.1.length≤i+1∧(zeq (yc.mk p u) (x0.getD i default)).2.2.length≤i+1∧∀ q∈(zeq (yc.mk p u) (x0.getD i default)).2.1,q.name.length≤1048576:=by
 have h:=ztq 1048576 (yc.mk p u) (x0.getD i default) (hy _ (zd0 hi))
 have h1:=h.pl;have h2:=h.ul
 exact ⟨by simp only at h1 ⊢;omega,by simp only at h2 ⊢;omega,h.nm hI.2.2⟩
def zbh (x0:List yd):yc×Bool:=loopN (fun i1 (v1:(List ya)×(List yb)) next=>bif ((decide (0<((i1:Nat):Int)))&&(decide (((x0.getD i1 default).year)<((x0.getD ((((i1:Nat):Int) - 1).toNat) default).year)))) then ((yc.mk ([]:List ya) ([]:List yb)),false) else (bif (!((l11Do (yc.mk v1.1 v1.2) (x0.getD i1 default)).2)) then ((yc.mk ([]:List ya) ([]:List yb)),false) else (next (((l11Do (yc.mk v1.1 v1.2) (x0.getD i1 default)).1).people,((l11Do (yc.mk v1.1 v1.2) (x0.getD i1 default)).1).unions)))) (fun (v1:(List ya)×(List yb))=>bif (!(za9 (yc.mk v1.1 v1.2))) then ((yc.mk ([]:List ya) ([]:List yb)),false) else ((yc.mk v1.1 v1.2),true)) x0.length 0 (([]:List ya),([]:List yb))
def C10 (R:yc×Bool):LV×List (Nat×BC):=(.tup [.agg [.own 0,.own 1],.bool R.2],[(0,.arr 6 R.1.people.length (rowOf (zbg true) R.1.people)),(1,.arr 4 R.1.unions.length (rowOf (zbi true) R.1.unions))])
def zbz (x0:List yd):yc×Bool:=bif (decide (200<((x0.length:Nat):Int))) then ((yc.mk ([]:List ya) ([]:List yb)),false) else (loopN (fun i1 (v1:(List ya)×(List yb)) next=>bif (!((decide (0<((i1:Nat):Int)))&&(decide (((x0.getD i1 default).year)<((x0.getD ((((i1:Nat):Int) - 1).toNat) default).year))))) then (bif (((decide (0<((i1:Nat):Int)))&&(decide (((x0.getD i1 default).year)<((x0.getD ((((i1:Nat):Int) - 1).toNat) default).year))))||(!((zeq (yc.mk v1.1 v1.2) (x0.getD i1 default)).1))) then ((yc.mk ([]:List ya) ([]:List yb)),false) else (next ((zeq (yc.mk v1.1 v1.2) (x0.getD i1 default)).2.1,(zeq (yc.mk v1.1 v1.2) (x0.getD i1 default)).2.2))) else (bif (((decide (0<((i1:Nat):Int)))&&(decide (((x0.getD i1 default).year)<((x0.getD ((((i1:Nat):Int) - 1).toNat) default).year))))||(!true)) then ((yc.mk ([]:List ya) ([]:List yb)),false) else (next (v1.1,v1.2)))) (fun (v1:(List ya)×(List yb))=>bif (!(zcb (yc.mk v1.1 v1.2))) then ((yc.mk ([]:List ya) ([]:List yb)),false) else ((yc.mk v1.1 v1.2),true)) x0.length 0 (([]:List ya),([]:List yb)))
def D10b1 (x0:List yd) (i1:Nat) (v1:(List ya)×(List yb)):Dl:=⟨[(13,.int .i64 ((i1:Nat):Int))],[(30400,.arr 6 v1.1.length (rowOf (zbg true) v1.1)),(30401,.arr 4 v1.2.length (rowOf (zbi true) v1.2)),(4,.var [.own 30400,.own 30401])]⟩
def A10b1 (x0:List yd) (i1:Nat) (v1:(List ya)×(List yb)):Ann:=let q2:=((i1:Nat):Int);let q5:=x0.getD i1 default;let q3:=yc.mk v1.1 v1.2;let q4:=((x0.length:Nat):Int);let q6:=decide (0<q2);let q11:=pf (inR .i64 (q2 - 1));let q10:=zeq q3 q5;let q9:=(0≤(q2:Int)∧(q2:Int)<q4);let q7:=decide ((q5.year)<((x0.getD ((q2 - 1).toNat) default).year));let q8:=(pf (0≤(q2 - 1:Int)∧(q2 - 1:Int)<q4));let q1:=q6&&q7;r0 1 [0,2,3,4,11,12,13,14] [2,4,30400,30401] (cn (decide (q2<q4)) (.split (!q1) (.reg 2 [] [(1015,cT (k27 33 [4,30400,30401] q3 q5))] [0,2,3,4,11,12,13,35] [2,4,1033,2033] [decide (0<q2),q6&&q7] [pf q9,gt q6 q11,gt q6 q8,pf ((!q1)=true)] [] [0,1,1,4,1,1,8,1,1,1,1,1,12,12,16,6] (cn (q1||(!(q10.1))) (r0 1 [0,2,3,4,11,12,13] [2,4,1033,2033] (rt [(0,none),(1,none)] (C10 ((yc.mk ([]:List ya) ([]:List yb)),false)))) (r1 1 [0,2,3,4,11,12,13] [2,4,1033,2033] [pf (inR .i64 (q2+1))] [0] (.next 0 [(30400,some 1033),(30401,some 2033)] (D10b1 x0 (i1+1) (q10.2.1,q10.2.2)))))) (.reg 2 [(1015,.gF)] [] [0,2,3,4,11,12,13,35] [2,4,30400,30401] [decide (0<q2),q6&&q7] [pf q9,gt q6 q11,gt q6 q8,pf ((!q1)=false),gt (!q1) (pf (false=true))] [] [0,1,1,4,1,1,8,1,1,1,1,1,12,16,6] (cn (q1||(!true)) (r0 1 [0,2,3,4,11,12,13] [2,4,30400,30401] (rt [(0,none),(1,none)] (C10 ((yc.mk ([]:List ya) ([]:List yb)),false)))) (r1 1 [0,2,3,4,11,12,13] [2,4,30400,30401] [pf (inR .i64 (q2+1))] [0] (.next 0 [(30400,some 30400),(30401,some 30401)] (D10b1 x0 (i1+1) (v1.1,v1.2))))))) (.reg 1 [] [(1,k17 q3)] [2,3,4,40] [2,4,30400,30401] [] [] [] [0] (cn (!(zcb q3)) (r0 1 [2,3,4] [2,4,30400,30401] (rt [(0,none),(1,none)] (C10 ((yc.mk ([]:List ya) ([]:List yb)),false)))) (r0 1 [2,3] [2,30400,30401] (rt [(0,some 30400),(1,some 30401)] (C10 (q3,true)))))))
def A10 (x0:List yd):Ann:=r0 2 [0,2,3,4] [2,4] (r0 1 [0,2,3,4,9] [2,4] (cn (decide (200<((x0.length:Nat):Int))) (r0 1 [0,2,3,4] [2,4] (rt [(0,none),(1,none)] (C10 ((yc.mk ([]:List ya) ([]:List yb)),false)))) (r0 1 [0,2,3,4,11,12,13] [2,4] (lp (D10b1 x0) [] [] [(30400,none),(30401,none)] (D10b1 x0 0 (([]:List ya),([]:List yb))) (A10b1 x0)))))
theorem zj6 (x0:List yd) (hx:x0.length≤1048576) (hy:∀ e∈x0,e.name.length≤1048576):FnT Tryz.prog 10 [.ro false 6 x0.length (rowOf (zbt false) x0)] (C10 (zbz x0)):=by
 have aux:∀ R,zbz x0=R→slim (C10 R) (A10 x0) []:=by
  intro R hR
  refine rg trivial ?_
  refine rg trivial ?_
  revert hR;refine cd (fun hc1 hR=>?_) fun hc1 hR=>?_
  ·
    refine rg trivial ?_
    exact congrArg C10 hR
  ·
    refine rg trivial ?_
    revert hR;refine lN (fun i v=>v.1.length≤i∧v.2.length≤i∧∀ q∈v.1,q.name.length≤1048576) za6 rfl fun i1 v1 F1 hn1 hI1 hR hK1=>?_
    refine rg trivial ?_
    refine ⟨fun hc2=>?_,fun hc2=>?_⟩
    · have hii1:i1<x0.length:=by have:=of_decide_eq_true hc2;omega
      replace hR:=zbq hR hii1
      revert hR;refine cd (fun hs3 hR=>?_) fun hs3 hR=>?_
      ·
        refine rg ⟨by (intros;omega),by ( intros;simp only [inR];omega),by ((try clear hR hK1);intros;(try simp only [decide_eq_true_eq,decide_eq_false_iff_not,Bool.or_eq_true,Bool.and_eq_true,zbd,zbb,zbc,Bool.not_eq_true',inR] at *);(repeat' apply And.intro)<;>(intros;omega)),by trivial,⟨by ( intros;simp only [inR];omega),by ( intros;simp only [inR];omega)⟩,trivial⟩ ?_
        revert hR;refine cd (fun hc4 hR=>?_) fun hc4 hR=>?_
        ·
          refine rg trivial ?_
          exact congrArg C10 hR
        ·
          refine rg ⟨by ( intros;simp only [inR];omega),trivial⟩ ?_
          exact hK1 ((zeq (yc.mk v1.1 v1.2) (x0.getD i1 default)).2.1,(zeq (yc.mk v1.1 v1.2) (x0.getD i1 default)).2.2) hii1 (by (exact zu3 hy hii1 hI1)) hR
      ·
        refine rg ⟨by (intros;omega),by ( intros;simp only [inR];omega),by ((try clear hR hK1);intros;(try simp only [decide_eq_true_eq,decide_eq_false_iff_not,Bool.or_eq_true,Bool.and_eq_true,zbd,zbb,zbc,Bool.not_eq_true',inR] at *);(repeat' apply And.intro)<;>(intros;omega)),by trivial,by ((try clear hR hK1);intros;(try simp only [decide_eq_true_eq,decide_eq_false_iff_not,Bool.or_eq_true,Bool.and_eq_true,zbd,zbb,zbc,Bool.not_eq_true',inR] at *);(repeat' apply And.intro)<;>(simp_all [inR];done)),trivial⟩ ?_
        revert hR;refine cd (fun hc5 hR=>?_) fun hc5 hR=>?_
        ·
          refine rg trivial ?_
          exact congrArg C10 hR
        ·
          refine rg ⟨by ( intros;simp only [inR];omega),trivial⟩ ?_
          exact hK1 (v1.1,v1.2) hii1 (by ((try clear hR hK1);intros;(try simp only [decide_eq_true_eq,decide_eq_false_iff_not,Bool.or_eq_true,Bool.and_eq_true,zbd,zbb,zbc,Bool.not_eq_true',inR] at *);(repeat' apply And.intro)<;>(first | (intros;omega) | (have h9:=hI1.2.2;(try simp only [Int.toNat_natCast]);first | assumption | exact h9 _ za5)))) hR
    · obtain rfl:i1=x0.length:=by have:=of_decide_eq_false hc2;omega
      replace hR:=zbu hR (Nat.lt_irrefl _)
      refine rg ⟨⟨by ( intros;simp only [inR];omega),by ( intros;simp only [inR];omega),by (have h9:=hI1.2.2;(try simp only [Int.toNat_natCast]);first | assumption | exact h9 _ za5)⟩,trivial⟩ ?_
      revert hR;refine cd (fun hc6 hR=>?_) fun hc6 hR=>?_
      ·
        refine rg trivial ?_
        exact congrArg C10 hR
      ·
        refine rg trivial ?_
        exact congrArg C10 hR
 exact Fn.go 43 Tryz.func10 (by kernel_rfl) (by kernel_rfl) (by simp [C10,Frs,FrsL,FrsB,rowOf,cInt,cBool,cStr,cSl,zdm,zbg,zbi,zcf,zbt]) (A10 x0) (by kernel_rfl) (aux _ rfl)
def k10 (x0:List yd):Cl:=(hres (C10 (zbz x0)),k2 (zj6 x0))
end Go.Proofs.YtlinnkjieghmhaaGreatDoor
