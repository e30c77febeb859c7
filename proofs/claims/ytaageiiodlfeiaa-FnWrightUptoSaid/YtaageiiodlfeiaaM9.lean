import Derived.Test.YtaageiiodlfeiaaM7
set_option maxHeartbeats 4000000
set_option linter.unusedSimpArgs false
set_option linter.unusedVariables false
namespace Go.Proofs.Ytaageiiodlfeiaa
open Go Go.Lite Go.Proofs
structure FamP (x:Family) (k:Nat):Prop where
 name:zco (x.people.getD k default).name=true
 sex:1≤(x.people.getD k default).sex∧(x.people.getD k default).sex≤2
 born:0≤(x.people.getD k default).born∧(x.people.getD k default).born≤9999
 died:(x.people.getD k default).died=-1∨(x.people.getD k default).born≤(x.people.getD k default).died∧(x.people.getD k default).died≤9999
 uniq:∀ j,j<k→(x.people.getD j default).name≠(x.people.getD k default).name
 fa : (x.people.getD k default).father = -1 ∨ 0 ≤ (x.people.getD k default).father ∧ (x.people.getD k default).father < k ∧ (x.people.getD (x.people.getD k default).father.toNat default).sex = 1 ∧ (x.people.getD (x.people.getD k default).father.toNat default).born < (x.people.getD k default).born ∧
   ((x.people.getD (x.people.getD k default).father.toNat default).died=-1∨(x.people.getD k default).born≤(x.people.getD (x.people.getD k default).father.toNat default).died+1)
 mo : (x.people.getD k default).mother = -1 ∨ 0 ≤ (x.people.getD k default).mother ∧ (x.people.getD k default).mother < k ∧ (x.people.getD (x.people.getD k default).mother.toNat default).sex = 2 ∧ (x.people.getD (x.people.getD k default).mother.toNat default).born < (x.people.getD k default).born ∧
   ((x.people.getD (x.people.getD k default).mother.toNat default).died=-1∨(x.people.getD k default).born≤(x.people.getD (x.people.getD k default).mother.toNat default).died)
structure FamU (x:Family) (k:Nat):Prop where
 man:0≤(x.unions.getD k default).man∧(x.unions.getD k default).man<x.people.length
 woman:0≤(x.unions.getD k default).woman∧(x.unions.getD k default).woman<x.people.length
 msex:(x.people.getD (x.unions.getD k default).man.toNat default).sex=1
 wsex:(x.people.getD (x.unions.getD k default).woman.toNat default).sex=2
 from0:(x.people.getD (x.unions.getD k default).man.toNat default).born≤(x.unions.getD k default).from0∧(x.people.getD (x.unions.getD k default).woman.toNat default).born≤(x.unions.getD k default).from0∧(x.unions.getD k default).from0≤9999
 to:(x.unions.getD k default).to=-1∨(x.unions.getD k default).from0≤(x.unions.getD k default).to∧(x.unions.getD k default).to≤9999
 mdied:(x.people.getD (x.unions.getD k default).man.toNat default).died=-1∨(x.unions.getD k default).from0≤(x.people.getD (x.unions.getD k default).man.toNat default).died∧(x.unions.getD k default).to≤(x.people.getD (x.unions.getD k default).man.toNat default).died
 wdied:(x.people.getD (x.unions.getD k default).woman.toNat default).died=-1∨(x.unions.getD k default).from0≤(x.people.getD (x.unions.getD k default).woman.toNat default).died∧(x.unions.getD k default).to≤(x.people.getD (x.unions.getD k default).woman.toNat default).died
 uniq:∀ j,j<k→(x.unions.getD j default).man=(x.unions.getD k default).man→¬ (x.unions.getD j default).woman=(x.unions.getD k default).woman
theorem zs0 (x:Family) (k:Nat):zfu x k=true↔FamU x k:=by
 have q0:∀ {α:Type} (a b d:α),[a,b].getD 0 d=a:=fun _ _ _=>rfl
 have q1:∀ {α:Type} (a b d:α),[a,b].getD 1 d=b:=fun _ _ _=>rfl
 have h2:∀ {p:Nat→Prop},(∀ j,j<2→p j)↔p 0∧p 1:=⟨fun h=>⟨h 0 om,h 1 om⟩,fun h j hj=>by
  match j,hj with
  | 0,_=>exact h.1
  | 1,_=>exact h.2⟩
 have e : FamU x k ↔ (0 ≤ (x.unions.getD k default).man ∧ (x.unions.getD k default).man < x.people.length) ∧ (0 ≤ (x.unions.getD k default).woman ∧ (x.unions.getD k default).woman < x.people.length) ∧ (x.people.getD (x.unions.getD k default).man.toNat default).sex = 1 ∧
   (x.people.getD (x.unions.getD k default).woman.toNat default).sex=2∧((x.people.getD (x.unions.getD k default).man.toNat default).born≤(x.unions.getD k default).from0∧(x.people.getD (x.unions.getD k default).woman.toNat default).born≤(x.unions.getD k default).from0∧(x.unions.getD k default).from0≤9999) ∧
   ((x.unions.getD k default).to=-1∨(x.unions.getD k default).from0≤(x.unions.getD k default).to∧(x.unions.getD k default).to≤9999) ∧
   ((x.people.getD (x.unions.getD k default).man.toNat default).died=-1∨(x.unions.getD k default).from0≤(x.people.getD (x.unions.getD k default).man.toNat default).died∧(x.unions.getD k default).to≤(x.people.getD (x.unions.getD k default).man.toNat default).died) ∧
   ((x.people.getD (x.unions.getD k default).woman.toNat default).died=-1∨(x.unions.getD k default).from0≤(x.people.getD (x.unions.getD k default).woman.toNat default).died∧(x.unions.getD k default).to≤(x.people.getD (x.unions.getD k default).woman.toNat default).died) ∧
   (∀ j,j<k→(x.unions.getD j default).man=(x.unions.getD k default).man→¬ (x.unions.getD j default).woman=(x.unions.getD k default).woman) :=
   ⟨fun h=>⟨h.man,h.woman,h.msex,h.wsex,h.from0,h.to,h.mdied,h.wdied,h.uniq⟩,fun ⟨h1,h2,h3,h4,h5,h6,h7,h8,h9⟩=>⟨h1,h2,h3,h4,h5,h6,h7,h8,h9⟩⟩
 rw [e]
 simp only [zfu,zea,zbr,ze4,l1In,Bool.and_eq_true,Bool.or_eq_true,zbo,zbq,zfq,decide_eq_true_eq,decide_eq_false_iff_not,h2,Int.toNat_natCast,q0,q1,and_true]
 generalize (∀ j,j<k→(x.unions.getD j default).man=(x.unions.getD k default).man→¬(x.unions.getD j default).woman=(x.unions.getD k default).woman)=Z
 generalize x.people.getD (x.unions.getD k default).man.toNat default=a
 generalize x.people.getD (x.unions.getD k default).woman.toNat default=b
 generalize x.unions.getD k default=u
 by_cases hz:Z<;>simp only [hz,and_true,and_false]
 omega
theorem zoj {n:Int} (h:-1≤n∧n≤20000):IntKind.wrap .i64 n=n:=zdl (by simp only [inR];omega)
theorem zlg (x:Family) (k:Nat) (hd:∀ j:Nat,j<k→(x.people.getD j default).died=-1∨0≤(x.people.getD j default).died∧(x.people.getD j default).died≤9999):zd5 x k=true↔FamP x k:=by
 have hw:∀ (q:Int),0≤q→q<k→∀ l:Int,0≤l∧l≤1→IntKind.wrap .i64 ((x.people.getD q.toNat default).died+l)=(x.people.getD q.toNat default).died+l:=fun q h0 h1 l hl=>zoj (by have:=hd q.toNat om;omega)
 rw [zfo,zgr,zgr]
 simp only [Int.toNat_natCast]
 constructor
 ·rintro ⟨h1,h2,h3,h4,h5,h6,h7⟩
  refine ⟨h1,h2,h3,h4,h5,h6.imp id fun h=>⟨h.1,h.2.1,h.2.2.1,h.2.2.2.1,?_⟩,h7.imp id fun h=>⟨h.1,h.2.1,h.2.2.1,h.2.2.2.1,?_⟩⟩
  ·rw [← hw _ h.1 h.2.1 1 om];exact h.2.2.2.2
  ·have:=h.2.2.2.2;rw [hw _ h.1 h.2.1 0 om] at this;simpa using this
 ·rintro ⟨h1,h2,h3,h4,h5,h6,h7⟩
  refine ⟨h1,h2,h3,h4,h5,h6.imp id fun h=>⟨h.1,h.2.1,h.2.2.1,h.2.2.2.1,?_⟩,h7.imp id fun h=>⟨h.1,h.2.1,h.2.2.1,h.2.2.2.1,?_⟩⟩
  ·rw [hw _ h.1 h.2.1 1 om];exact h.2.2.2.2
  ·rw [hw _ h.1 h.2.1 0 om];simpa using h.2.2.2.2
theorem zqg (x:Family):zbh x=true↔(x.people.length≤40∧x.unions.length≤60)∧(∀ k:Nat,k<x.people.length→FamP x k)∧(∀ k:Nat,k<x.people.length→(zbv x).getD k default≤10)∧∀ k:Nat,k<x.unions.length→FamU x k:=by
 rw [zcr]
 have e1:∀ k:Nat,(zfu x k=true↔FamU x k):=zs0 x
 simp only [e1]
 refine and_congr_right fun _=>and_congr_left fun _=>?_
 constructor
 ·intro h k hk
  refine (zlg x k fun j hj=>?_).1 (h k hk)
  obtain ⟨_,_,h1,h2,_⟩:=(zfo x j).1 (h j om)
  simp only [Int.toNat_natCast] at h1 h2
  omega
 ·intro h k hk
  refine (zlg x k fun j hj=>?_).2 (h k hk)
  have:=h j om
  have h1:=this.born;have h2:=this.died
  omega
theorem fam_p {x:Family} (h:zbh x=true) {k:Nat} (hk:k<x.people.length):FamP x k:=((zqg x).1 h).2.1 k hk
theorem fam_u {x:Family} (h:zbh x=true) {k:Nat} (hk:k<x.unions.length):FamU x k:=((zqg x).1 h).2.2.2 k hk
theorem fam_n {x:Family} (h:zbh x=true):x.people.length≤40∧x.unions.length≤60:=((zqg x).1 h).1
theorem zdp {α:Type} {l:List α} {z d:α} {k:Nat} (h:k<l.length):(l++[z]).getD k d=l.getD k d:=by
 rw [zdy,if_pos h]
theorem zia {α:Type} {l:List α} {z d:α} {k:Nat} (h:k=l.length):(l++[z]).getD k d=z:=by
 rw [zdy,if_neg om,if_pos h]
theorem zt2 (n:Int):inR .i64 (IntKind.wrap .i64 n):=by
 simp only [inR,IntKind.wrap,IntKind.signed,IntKind.bits]
 simp
 omega
theorem zhl (x m:Int) (k:Nat) (hm:m=k) (hk:k<9223372036854775808):0≤bits .and .i64 x m∧bits .and .i64 x m≤m:=by
 have h1:(BitVec.ofInt 64 x &&& BitVec.ofInt 64 m).toNat≤k:=by
  rw [BitVec.toNat_and]
  refine Nat.le_trans Nat.and_le_right ?_
  subst hm
  simp only [BitVec.toNat_ofInt]
  omega
 have e:bits .and .i64 x m=((BitVec.ofInt 64 x &&& BitVec.ofInt 64 m).toNat:Int):=by
  show IntKind.wrap .i64 _=_
  exact zdl (n:=((BitVec.ofInt 64 x &&& BitVec.ofInt 64 m).toNat:Int)) (by simp only [inR];omega)
 rw [e]
 omega
theorem zhi {l:List Int} (h:∀ y∈l,0≤y∧y≤255) (k:Nat):0≤l.getD k default∧l.getD k default≤255:=by
 rcases Nat.lt_or_ge k l.length with hk | hk
 ·have:=h _ (List.getElem_mem hk)
  simpa [List.getD_eq_getElem?_getD,List.getElem?_eq_getElem hk] using this
 ·simp [List.getD_eq_getElem?_getD,List.getElem?_eq_none hk]
def C53 (R:(List Int)):LV×List (Nat×BC):=(.own 0,[(0,.arr 1 R.length (rowOf (cInt .i64) R))])
def zbk (x0:Family) (x1:Int) (x2:Int):(List Int):=loopN (fun i1 (v1:(List Int)) next=>bif ((decide (0≤((l8Up x0 x1).getD i1 default)))&&(decide (0≤((l8Up x0 x2).getD i1 default)))) then (next (v1++[((i1:Nat):Int)])) else (next v1)) (fun (v1:(List Int))=>v1) ((l8Up x0 x1).length) 0 ([]:List Int)
def D53b1 (x0:Family) (x1:Int) (x2:Int) (i1:Nat) (v1:(List Int)):Dl:=⟨[(20,.int .i64 ((i1:Nat):Int)),(9,.own 20009)],[(20009,.arr 1 v1.length (rowOf (cInt .i64) v1))]⟩
def A53b1 (x0:Family) (x1:Int) (x2:Int) (i1:Nat) (v1:(List Int)):Ann:=r0 1 [6,7,8,9,19,20,21] [1013,1016,20009] (cn (decide (((i1:Nat):Int)<(((l8Up x0 x1).length:Nat):Int))) (.reg 2 [] [] [6,7,8,9,10,19,20,34] [1013,1016,20009] [decide (0≤((l8Up x0 x1).getD i1 default))] [pf (0≤(((i1:Nat):Int):Int)∧(((i1:Nat):Int):Int)<(((l8Up x0 x1).length:Nat):Int)),gt (decide (0≤((l8Up x0 x1).getD i1 default))) (pf (0≤(((i1:Nat):Int):Int)∧(((i1:Nat):Int):Int)<(((l8Up x0 x2).length:Nat):Int)))] [] [0,1,1,4,1,1,1] (cn ((decide (0≤((l8Up x0 x1).getD i1 default)))&&(decide (0≤((l8Up x0 x2).getD i1 default)))) (.reg 1 [] [(2,bsC 37 (cInt .i64) ([((i1:Nat):Int)]:List Int)),(3,ap1 38 (cInt .i64) 8 v1 ((i1:Nat):Int))] [6,7,8,9,19,20] [38,1013,1016] [] [] [] [0,4] (r1 1 [6,7,8,9,19,20] [38,1013,1016] [pf (inR .i64 (((i1:Nat):Int)+1))] [0] (.next 0 [(20009,some 38)] (D53b1 x0 x1 x2 (i1+1) (v1++[((i1:Nat):Int)]))))) (r1 1 [6,7,8,9,19,20] [1013,1016,20009] [pf (inR .i64 (((i1:Nat):Int)+1))] [0] (.next 0 [(20009,some 20009)] (D53b1 x0 x1 x2 (i1+1) v1))))) (r0 1 [6] [20009] (rt [(0,some 20009)] (C53 v1))))
def A53 (x0:Family) (x1:Int) (x2:Int):Ann:=.reg 4 [] [(1002,k108 x0 x1),(2002,k108 x0 x2),(3000,bsC 17 (cInt .i64) ([]:List Int))] [6,7,8,9] [17,1013,1016] [] [] [] [0,4,8] (r0 1 [6,7,8,9,19,20] [17,1013,1016] (lp (D53b1 x0 x1 x2) [] [17] [(20009,some 17)] (D53b1 x0 x1 x2 0 ([]:List Int)) (A53b1 x0 x1 x2)))
theorem zlo (x0:Family) (x1:Int) (x2:Int) (hx:x0.people.length≤1048576) (hi:0≤x1∧x1<x0.people.length) (hj:0≤x2∧x2<x0.people.length) (hp:∀ (k:Nat),k<x0.people.length→(x0.people.getD k default).father<k∧(x0.people.getD k default).mother<k):FnT Try.prog 53 [.agg (zce false x0),.int .i64 x1,.int .i64 x2] (C53 (zbk x0 x1 x2)):=by
 have aux:∀ R,zbk x0 x1 x2=R→slim (C53 R) (A53 x0 x1 x2) []:=by
  intro R hR
  refine rg ⟨⟨by trivial,by trivial,by trivial⟩,⟨by trivial,by trivial,by trivial⟩,trivial,trivial⟩ ?_
  have hp1:=zgq x0 x1
  have hp2:=zgq x0 x2
  refine rg trivial ?_
  revert hR;refine lN (fun i v=>v.length≤i) zay rfl fun i1 v1 F1 hn1 hI1 hR hK1=>?_
  refine rg trivial ?_
  refine ⟨fun hc1=>?_,fun hc1=>?_⟩
  ·have hii1:i1<(l8Up x0 x1).length:=by have:=of_decide_eq_true hc1;omega
   replace hR:=zb0 hR hii1
   refine rg ⟨by (intros;omega),by (intros;omega),trivial⟩ ?_
   revert hR;refine cd (fun hc2 hR=>?_) fun hc2 hR=>?_
   ·
     refine rg ⟨trivial,om,trivial⟩ ?_
     refine rg ⟨by ( intros;simp only [inR];omega),trivial⟩ ?_
     exact hK1 (v1++[((i1:Nat):Int)]) hii1 (by (simp;omega)) hR
   ·
     refine rg ⟨by ( intros;simp only [inR];omega),trivial⟩ ?_
     exact hK1 v1 hii1 zaw hR
  ·obtain rfl:i1=(l8Up x0 x1).length:=by have:=of_decide_eq_false hc1;omega
   replace hR:=zb4 hR (Nat.lt_irrefl _)
   refine rg trivial ?_
   exact congrArg C53 hR
 exact Fn.go 41 Try.func53 zax zax (by simp [C53,Frs,FrsL,FrsB,rowOf,cInt,cBool,cStr,cSl,zdj,zca,zcu,zce]) (A53 x0 x1 x2) zax (aux _ rfl)
def k53 (x0:Family) (x1:Int) (x2:Int):Cl:=(hres (C53 (zbk x0 x1 x2)),k4 (zlo x0 x1 x2))
def C47 (R:(List Int)):LV×List (Nat×BC):=(.own 0,[(0,.arr 1 R.length (rowOf (cInt .i64) R))])
def zbi (x0:Family) (x1:Int) (x2:Int):(List Int):=loopN (fun i1 (v1:(List Int)) next=>bif ((decide (0≤((zet x0 x1).getD i1 default)))&&(decide (0≤((zet x0 x2).getD i1 default)))) then (next (v1++[((i1:Nat):Int)])) else (next v1)) (fun (v1:(List Int))=>v1) x0.people.length 0 ([]:List Int)
def D47b1 (x0:Family) (x1:Int) (x2:Int) (i1:Nat) (v1:(List Int)):Dl:=⟨[(20,.int .i64 ((i1:Nat):Int)),(9,.own 20009)],[(20009,.arr 1 v1.length (rowOf (cInt .i64) v1))]⟩
def A47b1 (x0:Family) (x1:Int) (x2:Int) (i1:Nat) (v1:(List Int)):Ann:=r0 1 [6,7,8,9,19,20,21] [1013,1016,20009] (cn (decide (((i1:Nat):Int)<((x0.people.length:Nat):Int))) (.reg 2 [] [] [6,7,8,9,10,19,20,34] [1013,1016,20009] [decide (0≤((zet x0 x1).getD i1 default))] [pf (0≤(((i1:Nat):Int):Int)∧(((i1:Nat):Int):Int)<(((zet x0 x1).length:Nat):Int)),gt (decide (0≤((zet x0 x1).getD i1 default))) (pf (0≤(((i1:Nat):Int):Int)∧(((i1:Nat):Int):Int)<(((zet x0 x2).length:Nat):Int)))] [] [0,1,1,4,1,1,1] (cn ((decide (0≤((zet x0 x1).getD i1 default)))&&(decide (0≤((zet x0 x2).getD i1 default)))) (.reg 1 [] [(2,bsC 37 (cInt .i64) ([((i1:Nat):Int)]:List Int)),(3,ap1 38 (cInt .i64) 8 v1 ((i1:Nat):Int))] [6,7,8,9,19,20] [38,1013,1016] [] [] [] [0,4] (r1 1 [6,7,8,9,19,20] [38,1013,1016] [pf (inR .i64 (((i1:Nat):Int)+1))] [0] (.next 0 [(20009,some 38)] (D47b1 x0 x1 x2 (i1+1) (v1++[((i1:Nat):Int)]))))) (r1 1 [6,7,8,9,19,20] [1013,1016,20009] [pf (inR .i64 (((i1:Nat):Int)+1))] [0] (.next 0 [(20009,some 20009)] (D47b1 x0 x1 x2 (i1+1) v1))))) (r0 1 [6] [20009] (rt [(0,some 20009)] (C47 v1))))
def A47 (x0:Family) (x1:Int) (x2:Int):Ann:=.reg 3 [] [(1002,k100 x0 x1),(1005,k100 x0 x2)] [3,6,7,8,9] [3,1013,1016] [] [] [] [0,4] (r0 1 [6,7,8,9,19,20] [1013,1016] (lp (D47b1 x0 x1 x2) [] [] [(20009,none)] (D47b1 x0 x1 x2 0 ([]:List Int)) (A47b1 x0 x1 x2)))
theorem zht (x0:Family) (x1:Int) (x2:Int) (hx:x0.people.length≤1048576) (hi:0≤x1∧x1<x0.people.length) (hj:0≤x2∧x2<x0.people.length) (hp:∀ (k:Nat),k<x0.people.length→(x0.people.getD k default).father<k∧(x0.people.getD k default).mother<k):FnT Try.prog 47 [.agg (zce false x0),.int .i64 x1,.int .i64 x2] (C47 (zbi x0 x1 x2)):=by
 have aux:∀ R,zbi x0 x1 x2=R→slim (C47 R) (A47 x0 x1 x2) []:=by
  intro R hR
  refine rg ⟨⟨by trivial,by trivial,by trivial⟩,⟨by trivial,by trivial,by trivial⟩,trivial⟩ ?_
  refine rg trivial ?_
  revert hR;refine lN (fun i v=>v.length≤i) zay rfl fun i1 v1 F1 hn1 hI1 hR hK1=>?_
  refine rg trivial ?_
  refine ⟨fun hc1=>?_,fun hc1=>?_⟩
  ·have hii1:i1<x0.people.length:=by have:=of_decide_eq_true hc1;omega
   replace hR:=zb0 hR hii1
   refine rg ⟨by (have:=zho x0 x1 hp hi;have:=zho x0 x2 hp hj;omega),by (have:=zho x0 x1 hp hi;have:=zho x0 x2 hp hj;omega),trivial⟩ ?_
   revert hR;refine cd (fun hc2 hR=>?_) fun hc2 hR=>?_
   ·
     refine rg ⟨trivial,om,trivial⟩ ?_
     refine rg ⟨by ( intros;simp only [inR];omega),trivial⟩ ?_
     exact hK1 (v1++[((i1:Nat):Int)]) hii1 (by (simp;omega)) hR
   ·
     refine rg ⟨by ( intros;simp only [inR];omega),trivial⟩ ?_
     exact hK1 v1 hii1 zaw hR
  ·obtain rfl:i1=x0.people.length:=by have:=of_decide_eq_false hc1;omega
   replace hR:=zb4 hR (Nat.lt_irrefl _)
   refine rg trivial ?_
   exact congrArg C47 hR
 exact Fn.go 41 Try.func47 zax zax (by simp [C47,Frs,FrsL,FrsB,rowOf,cInt,cBool,cStr,cSl,zdj,zca,zcu,zce]) (A47 x0 x1 x2) zax (aux _ rfl)
def k47 (x0:Family) (x1:Int) (x2:Int):Cl:=(hres (C47 (zbi x0 x1 x2)),k4 (zht x0 x1 x2))
theorem zc5 (x:Family) (a b:Int):(zbk x a b).length≤x.people.length∧∀ q∈zbk x a b,0≤q∧q<x.people.length∧0≤(l8Up x a).getD q.toNat default∧0≤(l8Up x b).getD q.toNat default:=by
 unfold zbk
 rw [zgq]
 refine zcc (fun i (v:List Int)=>v.length≤i∧∀ q∈v,0≤q∧q<i∧0≤(l8Up x a).getD q.toNat default∧0≤(l8Up x b).getD q.toNat default) (fun (v:List Int)=>v.length≤x.people.length∧∀ q∈v,0≤q∧q<x.people.length∧0≤(l8Up x a).getD q.toNat default∧0≤(l8Up x b).getD q.toNat default) ⟨Nat.le_refl _,fun q hq=>by simp at hq⟩ (fun i v next hi hv hn=>?_) (fun v hv=>hv)
 have hw:∀ q∈v,0≤q∧q<((i+1:Nat):Int)∧0≤(l8Up x a).getD q.toNat default∧0≤(l8Up x b).getD q.toNat default:=fun q hq=>by have:=hv.2 q hq;omega
 refine zbz (p:=fun (v:List Int)=>v.length≤x.people.length∧∀ q∈v,0≤q∧q<x.people.length∧0≤(l8Up x a).getD q.toNat default∧0≤(l8Up x b).getD q.toNat default) (fun c=>hn _ ⟨by simp;exact hv.1,fun q hq=>?_⟩) (fun _=>hn _ ⟨Nat.le_succ_of_le hv.1,hw⟩)
 simp only [Bool.and_eq_true,decide_eq_true_eq] at c
 rcases List.mem_append.1 hq with hq | hq
 ·exact hw q hq
 ·rw [List.mem_singleton.1 hq];simp only [Int.toNat_natCast];omega
theorem zgv (x:Family) (a b:Int) (hp:Par x) (ha:0≤a∧a<x.people.length) (hb:0≤b∧b<x.people.length):zbi x a b=zbk x a b:=by
 unfold zbi zbk
 rw [zon x a hp ha,zon x b hp hb,zgq]
theorem zv6 {x:Family} {a b:Int} (hp:Par x) (ha:0≤a∧a<x.people.length) (hb:0≤b∧b<x.people.length):(zbi x a b).length≤x.people.length:=by
 rw [zgv x a b hp ha hb];exact (zc5 x a b).1
end Go.Proofs.Ytaageiiodlfeiaa
