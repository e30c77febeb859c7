import Derived.Test.YtaageiiodlfeiaaGreatV5
set_option maxHeartbeats 4000000
set_option linter.unusedSimpArgs false
set_option linter.unusedVariables false
namespace Go.Proofs.YtaageiiodlfeiaaGreat
open Go Go.Lite Go.Proofs
theorem zg3 (l : List Person) (i q s d : Int) : zcv l i q s d = true ↔ q = -1 ∨ 0 ≤ q ∧ q < i ∧ (l.getD q.toNat default).sex = s ∧ (l.getD q.toNat default).born < (l.getD i.toNat default).born ∧
    ((l.getD q.toNat default).died=-1∨(l.getD i.toNat default).born≤IntKind.wrap .i64 ((l.getD q.toNat default).died+d)):=by
 simp only [zcv,zdo,zqg,zbd,Bool.and_eq_true,Bool.or_eq_true,decide_eq_true_eq,decide_eq_false_iff_not,za9,Int.not_lt,Int.not_le,and_assoc]
theorem zq6 (x:Family) (i q s d:Int):zcv x.people i q s d=zej x i q s d:=by
 rw [Bool.eq_iff_iff,zg3,zgt]
theorem zot {l:List Person} {k:Nat} (h:zcv l k (l.getD k default).father 1 1=true∧zcv l k (l.getD k default).mother 2 0=true):(l.getD k default).father<k∧(l.getD k default).mother<k:=by
 rw [zg3,zg3] at h
 omega
def C35 (R:Bool):LV×List (Nat×BC):=(.bool R,[])
def zb7 (x0:Family):Bool:=bif ((decide (40<((x0.people.length:Nat):Int)))||(decide (60<((x0.unions.length:Nat):Int)))) then false else (loopN (fun i1 (v1:(KV→Option Bool)) next=>bif ((((((!(zca ((x0.people.getD i1 default).name)))||((v1 (KV.s ((x0.people.getD i1 default).name))).getD false))||((!decide (((x0.people.getD i1 default).sex)=1))&&(!decide (((x0.people.getD i1 default).sex)=2))))||(decide (((x0.people.getD i1 default).born)<0)))||(decide (9999<((x0.people.getD i1 default).born))))||((!decide (((x0.people.getD i1 default).died)=(-1)))&&((decide (((x0.people.getD i1 default).died)<((x0.people.getD i1 default).born)))||(decide (9999<((x0.people.getD i1 default).died)))))) then false else (bif ((!(zcv x0.people ((i1:Nat):Int) ((x0.people.getD i1 default).father) 1 1))||(!(zcv x0.people ((i1:Nat):Int) ((x0.people.getD i1 default).mother) 2 0))) then false else (next (mset v1 (KV.s ((x0.people.getD i1 default).name)) true)))) (fun (v1:(KV→Option Bool))=>loopN (fun i2 (v2:Unit) next=>bif (decide (10<((zgx x0.people).getD i2 default))) then false else (next ())) (fun (v2:Unit)=>loopN (fun i3 (v3:Unit) next=>bif (!(zft x0 ((i3:Nat):Int))) then false else (next ())) (fun (v3:Unit)=>true) x0.unions.length 0 ()) ((zgx x0.people).length) 0 ()) x0.people.length 0 (fun _=>none))
def D35b1 (x0:Family) (i1:Nat) (v1:(KV→Option Bool)):Dl:=⟨[(23,.int .i64 ((i1:Nat):Int)),(3,.mp 20003)],[(20003,.mp .str (.b v1))]⟩
def D35b2 (x0:Family) (i1:Nat) (v1:(KV→Option Bool)) (i2:Nat) (v2:Unit):Dl:=⟨[(99,.int .i64 ((i2:Nat):Int))],[]⟩
def D35b3 (x0:Family) (i1:Nat) (v1:(KV→Option Bool)) (i2:Nat) (v2:Unit) (i3:Nat) (v3:Unit):Dl:=⟨[(109,.int .i64 ((i3:Nat):Int))],[]⟩
def A35b3 (x0:Family) (i1:Nat) (v1:(KV→Option Bool)) (i2:Nat) (v2:Unit) (i3:Nat) (v3:Unit):Ann:=r0 1 [1,2,108,109,110] [1] (cn (decide (((i3:Nat):Int)<((x0.unions.length:Nat):Int))) (.reg 2 [] [(1002,k80 x0 ((i3:Nat):Int))] [1,2,108,109,115] [1] [] [] [] [0] (cn (!(zft x0 ((i3:Nat):Int))) (r0 1 [1,2,108,109] [1] (rt [] (C35 false))) (r1 1 [1,2,108,109] [1] [pf (inR .i64 (((i3:Nat):Int)+1))] [0] (.next 0 [] (D35b3 x0 i1 v1 i2 v2 (i3+1) ()))))) (r0 1 [2] [] (rt [] (C35 true))))
def A35b2 (x0:Family) (i1:Nat) (v1:(KV→Option Bool)) (i2:Nat) (v2:Unit):Ann:=r0 1 [1,2,97,98,99,100] [1,1097] (cn (decide (((i2:Nat):Int)<(((zgx x0.people).length:Nat):Int))) (r1 2 [1,2,97,98,99,104] [1,1097] [pf (0≤(((i2:Nat):Int):Int)∧(((i2:Nat):Int):Int)<(((zgx x0.people).length:Nat):Int))] [0] (cn (decide (10<((zgx x0.people).getD i2 default))) (r0 1 [1,2,97,98,99] [1,1097] (rt [] (C35 false))) (r1 1 [1,2,97,98,99] [1,1097] [pf (inR .i64 (((i2:Nat):Int)+1))] [0] (.next 0 [] (D35b2 x0 i1 v1 (i2+1) ()))))) (r0 1 [1,2,108,109] [1] (lp (D35b3 x0 i1 v1 i2 v2) [] [] [] (D35b3 x0 i1 v1 i2 v2 0 ()) (A35b3 x0 i1 v1 i2 v2))))
def A35b1 (x0:Family) (i1:Nat) (v1:(KV→Option Bool)):Ann:=r0 1 [1,2,3,21,22,23,24] [1,20003] (cn (decide (((i1:Nat):Int)<((x0.people.length:Nat):Int))) (r1 1 [1,2,3,4,5,21,22,23] [1,5,20003] [pf (0≤(((i1:Nat):Int):Int)∧(((i1:Nat):Int):Int)<((x0.people.length:Nat):Int))] [0] (.reg 1 [] [(2,k77 ((x0.people.getD i1 default).name))] [1,2,3,4,5,21,22,23,74] [1,5,20003] [!(!(zca ((x0.people.getD i1 default).name))),!(zca ((x0.people.getD i1 default).name)),!((!(zca ((x0.people.getD i1 default).name)))||((v1 (KV.s ((x0.people.getD i1 default).name))).getD false)),(!((!(zca ((x0.people.getD i1 default).name)))||((v1 (KV.s ((x0.people.getD i1 default).name))).getD false)))&&(!decide (((x0.people.getD i1 default).sex)=1)),(!(zca ((x0.people.getD i1 default).name)))||((v1 (KV.s ((x0.people.getD i1 default).name))).getD false),!(((!(zca ((x0.people.getD i1 default).name)))||((v1 (KV.s ((x0.people.getD i1 default).name))).getD false))||((!decide (((x0.people.getD i1 default).sex)=1))&&(!decide (((x0.people.getD i1 default).sex)=2)))),((!(zca ((x0.people.getD i1 default).name)))||((v1 (KV.s ((x0.people.getD i1 default).name))).getD false))||((!decide (((x0.people.getD i1 default).sex)=1))&&(!decide (((x0.people.getD i1 default).sex)=2))),!((((!(zca ((x0.people.getD i1 default).name)))||((v1 (KV.s ((x0.people.getD i1 default).name))).getD false))||((!decide (((x0.people.getD i1 default).sex)=1))&&(!decide (((x0.people.getD i1 default).sex)=2))))||(decide (((x0.people.getD i1 default).born)<0))),(((!(zca ((x0.people.getD i1 default).name)))||((v1 (KV.s ((x0.people.getD i1 default).name))).getD false))||((!decide (((x0.people.getD i1 default).sex)=1))&&(!decide (((x0.people.getD i1 default).sex)=2))))||(decide (((x0.people.getD i1 default).born)<0)),!(((((!(zca ((x0.people.getD i1 default).name)))||((v1 (KV.s ((x0.people.getD i1 default).name))).getD false))||((!decide (((x0.people.getD i1 default).sex)=1))&&(!decide (((x0.people.getD i1 default).sex)=2))))||(decide (((x0.people.getD i1 default).born)<0)))||(decide (9999<((x0.people.getD i1 default).born)))),(!(((((!(zca ((x0.people.getD i1 default).name)))||((v1 (KV.s ((x0.people.getD i1 default).name))).getD false))||((!decide (((x0.people.getD i1 default).sex)=1))&&(!decide (((x0.people.getD i1 default).sex)=2))))||(decide (((x0.people.getD i1 default).born)<0)))||(decide (9999<((x0.people.getD i1 default).born)))))&&(!decide (((x0.people.getD i1 default).died)=(-1))),((!(((((!(zca ((x0.people.getD i1 default).name)))||((v1 (KV.s ((x0.people.getD i1 default).name))).getD false))||((!decide (((x0.people.getD i1 default).sex)=1))&&(!decide (((x0.people.getD i1 default).sex)=2))))||(decide (((x0.people.getD i1 default).born)<0)))||(decide (9999<((x0.people.getD i1 default).born)))))&&(!decide (((x0.people.getD i1 default).died)=(-1))))&&(!(decide (((x0.people.getD i1 default).died)<((x0.people.getD i1 default).born)))),((((!(zca ((x0.people.getD i1 default).name)))||((v1 (KV.s ((x0.people.getD i1 default).name))).getD false))||((!decide (((x0.people.getD i1 default).sex)=1))&&(!decide (((x0.people.getD i1 default).sex)=2))))||(decide (((x0.people.getD i1 default).born)<0)))||(decide (9999<((x0.people.getD i1 default).born)))] [gt (!((!(zca ((x0.people.getD i1 default).name)))||((v1 (KV.s ((x0.people.getD i1 default).name))).getD false))) (gt (!decide (((x0.people.getD i1 default).sex)=1)) (pf (((!((!(zca ((x0.people.getD i1 default).name)))||((v1 (KV.s ((x0.people.getD i1 default).name))).getD false)))&&(!decide (((x0.people.getD i1 default).sex)=1)))=true))),gt ((!(((((!(zca ((x0.people.getD i1 default).name)))||((v1 (KV.s ((x0.people.getD i1 default).name))).getD false))||((!decide (((x0.people.getD i1 default).sex)=1))&&(!decide (((x0.people.getD i1 default).sex)=2))))||(decide (((x0.people.getD i1 default).born)<0)))||(decide (9999<((x0.people.getD i1 default).born)))))&&(!decide (((x0.people.getD i1 default).died)=(-1)))) (gf (decide (((x0.people.getD i1 default).died)<((x0.people.getD i1 default).born))) (pf ((((!(((((!(zca ((x0.people.getD i1 default).name)))||((v1 (KV.s ((x0.people.getD i1 default).name))).getD false))||((!decide (((x0.people.getD i1 default).sex)=1))&&(!decide (((x0.people.getD i1 default).sex)=2))))||(decide (((x0.people.getD i1 default).born)<0)))||(decide (9999<((x0.people.getD i1 default).born)))))&&(!decide (((x0.people.getD i1 default).died)=(-1))))&&(!(decide (((x0.people.getD i1 default).died)<((x0.people.getD i1 default).born)))))=true))),gt (!(((((!(zca ((x0.people.getD i1 default).name)))||((v1 (KV.s ((x0.people.getD i1 default).name))).getD false))||((!decide (((x0.people.getD i1 default).sex)=1))&&(!decide (((x0.people.getD i1 default).sex)=2))))||(decide (((x0.people.getD i1 default).born)<0)))||(decide (9999<((x0.people.getD i1 default).born))))) (gt (!decide (((x0.people.getD i1 default).died)=(-1))) (pf (((!(((((!(zca ((x0.people.getD i1 default).name)))||((v1 (KV.s ((x0.people.getD i1 default).name))).getD false))||((!decide (((x0.people.getD i1 default).sex)=1))&&(!decide (((x0.people.getD i1 default).sex)=2))))||(decide (((x0.people.getD i1 default).born)<0)))||(decide (9999<((x0.people.getD i1 default).born)))))&&(!decide (((x0.people.getD i1 default).died)=(-1))))=true)))] [] [12,1,1,1,6,9,9,9,13,13,9,0,18,21,21,26,29,29,34,37,37,37,41,41,41,41,41,45,45,41,4,37,8,50] (cn ((((((!(zca ((x0.people.getD i1 default).name)))||((v1 (KV.s ((x0.people.getD i1 default).name))).getD false))||((!decide (((x0.people.getD i1 default).sex)=1))&&(!decide (((x0.people.getD i1 default).sex)=2))))||(decide (((x0.people.getD i1 default).born)<0)))||(decide (9999<((x0.people.getD i1 default).born))))||((!decide (((x0.people.getD i1 default).died)=(-1)))&&((decide (((x0.people.getD i1 default).died)<((x0.people.getD i1 default).born)))||(decide (9999<((x0.people.getD i1 default).died)))))) (r0 1 [1,2,3,4,5,21,22,23] [1,5,20003] (rt [] (C35 false))) (.reg 2 [] [(1005,k78 x0.people ((i1:Nat):Int) ((x0.people.getD i1 default).father) 1 1),(1013,cg (!(!(zcv x0.people ((i1:Nat):Int) ((x0.people.getD i1 default).father) 1 1))) (k78 x0.people ((i1:Nat):Int) ((x0.people.getD i1 default).mother) 2 0))] [1,2,3,21,22,23,93] [1,20003] [!(!(zcv x0.people ((i1:Nat):Int) ((x0.people.getD i1 default).father) 1 1)),!(zcv x0.people ((i1:Nat):Int) ((x0.people.getD i1 default).father) 1 1)] [] [] [0,1,1,1,1,1,4,1,6] (cn ((!(zcv x0.people ((i1:Nat):Int) ((x0.people.getD i1 default).father) 1 1))||(!(zcv x0.people ((i1:Nat):Int) ((x0.people.getD i1 default).mother) 2 0))) (r0 1 [1,2,3,21,22,23] [1,20003] (rt [] (C35 false))) (r1 1 [1,2,3,21,22,23] [1,20003] [pf (inR .i64 (((i1:Nat):Int)+1))] [0] (.next 0 [(20003,some 20003)] (D35b1 x0 (i1+1) (mset v1 (KV.s ((x0.people.getD i1 default).name)) true))))))))) (.reg 1 [] [(2,k79 x0.people)] [1,2,97,98,99] [1,1097] [] [] [] [0] (lp (D35b2 x0 i1 v1) [] [] [] (D35b2 x0 i1 v1 0 ()) (A35b2 x0 i1 v1))))
def A35 (x0:Family):Ann:=r0 1 [1,2] [1] (.reg 1 [] [] [1,2,18] [1] [!(decide (40<((x0.people.length:Nat):Int))),decide (40<((x0.people.length:Nat):Int))] [] [] [1,1,1,6] (cn ((decide (40<((x0.people.length:Nat):Int)))||(decide (60<((x0.unions.length:Nat):Int)))) (r0 1 [1,2] [1] (rt [] (C35 false))) (r0 1 [1,2,3] [1,19] (r0 1 [1,2,3,21,22,23] [1,19] (lp (D35b1 x0) [] [19] [(20003,some 19)] (D35b1 x0 0 (fun _=>none)) (A35b1 x0))))))
theorem zmf (x0:Family) (hx:x0.people.length≤1048576) (hu:x0.unions.length≤1048576) (hn:∀ p∈x0.people,p.name.length≤1048576):FnT Tryz.prog 35 [.agg (zbx false x0)] (C35 (zb7 x0)):=by
 have aux:∀ R,zb7 x0=R→slim (C35 R) (A35 x0) []:=by
  intro R hR
  refine rg trivial ?_
  refine rg trivial ?_
  revert hR;refine cd (fun hc1 hR=>?_) fun hc1 hR=>?_
  ·
    refine rg trivial ?_
    exact congrArg C35 hR
  ·
    refine rg trivial ?_
    refine rg trivial ?_
    revert hR;refine lN (fun i v=>∀ k:Nat,k<i→zcv x0.people k (x0.people.getD k default).father 1 1=true∧zcv x0.people k (x0.people.getD k default).mother 2 0=true) za2 rfl fun i1 v1 F1 hn1 hI1 hR hK1=>?_
    refine rg trivial ?_
    refine ⟨fun hc2=>?_,fun hc2=>?_⟩
    · have hii1:i1<x0.people.length:=by have:=of_decide_eq_true hc2;omega
      replace hR:=zbj hR hii1
      refine rg ⟨by (intros;omega),trivial⟩ ?_
      refine rg ⟨by ((try clear hR hK1);intros;(try simp only [decide_eq_true_eq,decide_eq_false_iff_not,Bool.or_eq_true,Bool.and_eq_true,zbd,za9,zba,Bool.not_eq_true',inR] at *);(repeat' apply And.intro)<;>(first | (intros;omega) | (simp_all [inR];done))),by ((try clear hR hK1);intros;(try simp only [decide_eq_true_eq,decide_eq_false_iff_not,Bool.or_eq_true,Bool.and_eq_true,zbd,za9,zba,Bool.not_eq_true',inR] at *);(repeat' apply And.intro)<;>(first | (intros;omega) | (simp_all [inR];done))),by ((try clear hR hK1);intros;(try simp only [decide_eq_true_eq,decide_eq_false_iff_not,Bool.or_eq_true,Bool.and_eq_true,zbd,za9,zba,Bool.not_eq_true',inR] at *);(repeat' apply And.intro)<;>(first | (intros;omega) | (simp_all [inR];done))),by ((try clear hR hK1);intros;(try simp only [decide_eq_true_eq,decide_eq_false_iff_not,Bool.or_eq_true,Bool.and_eq_true,zbd,za9,zba,Bool.not_eq_true',inR] at *);(repeat' apply And.intro)<;>(simp_all [inR];done)),trivial⟩ ?_
      revert hR;refine cd (fun hc3 hR=>?_) fun hc3 hR=>?_
      ·
        refine rg trivial ?_
        exact congrArg C35 hR
      ·
        refine rg ⟨⟨by trivial,by (intros;omega)⟩,fun hg0=>⟨by trivial,by (intros;omega)⟩,trivial⟩ ?_
        revert hR;refine cd (fun hc4 hR=>?_) fun hc4 hR=>?_
        ·
          refine rg trivial ?_
          exact congrArg C35 hR
        ·
          refine rg ⟨by ( intros;simp only [inR];omega),trivial⟩ ?_
          exact hK1 (mset v1 (KV.s ((x0.people.getD i1 default).name)) true) hii1 (by (exact zzg hI1 (by simpa using hc4))) hR
    · obtain rfl:i1=x0.people.length:=by have:=of_decide_eq_false hc2;omega
      replace hR:=zbp hR (Nat.lt_irrefl _)
      refine rg ⟨⟨by trivial,by (exact fun k hk=>zot (hI1 k hk))⟩,trivial⟩ ?_
      have hp1:=zwm x0.people
      revert hR;refine lN (fun i v=>True) zai rfl fun i2 v2 F2 hn2 hI2 hR hK2=>?_
      refine rg trivial ?_
      refine ⟨fun hc5=>?_,fun hc5=>?_⟩
      · have hii2:i2<(zgx x0.people).length:=by have:=of_decide_eq_true hc5;omega
        replace hR:=zbj hR hii2
        refine rg ⟨by (intros;omega),trivial⟩ ?_
        revert hR;refine cd (fun hc6 hR=>?_) fun hc6 hR=>?_
        ·
          refine rg trivial ?_
          exact congrArg C35 hR
        ·
          refine rg ⟨by ( intros;simp only [inR];omega),trivial⟩ ?_
          exact hK2 () hii2 zai hR
      · obtain rfl:i2=(zgx x0.people).length:=by have:=of_decide_eq_false hc5;omega
        replace hR:=zbp hR (Nat.lt_irrefl _)
        refine rg trivial ?_
        revert hR;refine lN (fun i v=>True) zai rfl fun i3 v3 F3 hn3 hI3 hR hK3=>?_
        refine rg trivial ?_
        refine ⟨fun hc7=>?_,fun hc7=>?_⟩
        · have hii3:i3<x0.unions.length:=by have:=of_decide_eq_true hc7;omega
          replace hR:=zbj hR hii3
          refine rg ⟨⟨by trivial,by trivial,by (intros;omega)⟩,trivial⟩ ?_
          revert hR;refine cd (fun hc8 hR=>?_) fun hc8 hR=>?_
          ·
            refine rg trivial ?_
            exact congrArg C35 hR
          ·
            refine rg ⟨by ( intros;simp only [inR];omega),trivial⟩ ?_
            exact hK3 () hii3 zai hR
        · obtain rfl:i3=x0.unions.length:=by have:=of_decide_eq_false hc7;omega
          replace hR:=zbp hR (Nat.lt_irrefl _)
          refine rg trivial ?_
          exact congrArg C35 hR
 exact Fn.go 117 Tryz.func35 zah zah (by simp [C35,Frs,FrsL]) (A35 x0) zah (aux _ rfl)
def k35 (x0:Family):Cl:=(hres (C35 (zb7 x0)),k3 (zmf x0))
def C45 (R:Bool):LV×List (Nat×BC):=(.bool R,[])
def zcm (x0:Family) (x1:List Int):Bool:=bif (!(zb7 x0)) then false else (loopN (fun i1 (v1:Unit) next=>bif ((decide ((x1.getD i1 default)<0))||(decide (((x0.people.length:Nat):Int)≤(x1.getD i1 default)))) then false else (next ())) (fun (v1:Unit)=>true) x1.length 0 ())
def D45b1 (x0:Family) (x1:List Int) (i1:Nat) (v1:Unit):Dl:=⟨[(12,.int .i64 ((i1:Nat):Int))],[]⟩
def A45b1 (x0:Family) (x1:List Int) (i1:Nat) (v1:Unit):Ann:=r0 1 [2,4,10,11,12,13] [2] (cn (decide (((i1:Nat):Int)<((x1.length:Nat):Int))) (.reg 2 [] [] [2,4,10,11,12,24] [2] [!(decide ((x1.getD i1 default)<0)),decide ((x1.getD i1 default)<0)] [pf (0≤(((i1:Nat):Int):Int)∧(((i1:Nat):Int):Int)<((x1.length:Nat):Int))] [] [0,1,1,1,1,6] (cn ((decide ((x1.getD i1 default)<0))||(decide (((x0.people.length:Nat):Int)≤(x1.getD i1 default)))) (r0 1 [2,4,10,11,12] [2] (rt [] (C45 false))) (r1 1 [2,4,10,11,12] [2] [pf (inR .i64 (((i1:Nat):Int)+1))] [0] (.next 0 [] (D45b1 x0 x1 (i1+1) ()))))) (r0 1 [4] [] (rt [] (C45 true))))
def A45 (x0:Family) (x1:List Int):Ann:=r0 1 [1,2,4] [2] (.reg 1 [] [(1,k35 x0)] [1,2,4,9] [2] [] [] [] [0] (cn (!(zb7 x0)) (r0 1 [1,2,4] [2] (rt [] (C45 false))) (r0 1 [2,4,10,11,12] [2] (lp (D45b1 x0 x1) [] [] [] (D45b1 x0 x1 0 ()) (A45b1 x0 x1)))))
theorem zt5 (x0:Family) (x1:List Int) (hx:x0.people.length≤1048576) (hu:x0.unions.length≤1048576) (hn:∀ p∈x0.people,p.name.length≤1048576) (hl:x1.length≤1048576):FnT Tryz.prog 45 [.agg (zbx false x0),.ro false 1 x1.length (rowOf (cInt .i64) x1)] (C45 (zcm x0 x1)):=by
 have aux:∀ R,zcm x0 x1=R→slim (C45 R) (A45 x0 x1) []:=by
  intro R hR
  refine rg trivial ?_
  refine rg ⟨⟨by trivial,by trivial,by trivial⟩,trivial⟩ ?_
  revert hR;refine cd (fun hc1 hR=>?_) fun hc1 hR=>?_
  ·
    refine rg trivial ?_
    exact congrArg C45 hR
  ·
    refine rg trivial ?_
    revert hR;refine lN (fun i v=>True) zai rfl fun i1 v1 F1 hn1 hI1 hR hK1=>?_
    refine rg trivial ?_
    refine ⟨fun hc2=>?_,fun hc2=>?_⟩
    · have hii1:i1<x1.length:=by have:=of_decide_eq_true hc2;omega
      replace hR:=zbj hR hii1
      refine rg ⟨by (intros;omega),trivial⟩ ?_
      revert hR;refine cd (fun hc3 hR=>?_) fun hc3 hR=>?_
      ·
        refine rg trivial ?_
        exact congrArg C45 hR
      ·
        refine rg ⟨by ( intros;simp only [inR];omega),trivial⟩ ?_
        exact hK1 () hii1 zai hR
    · obtain rfl:i1=x1.length:=by have:=of_decide_eq_false hc2;omega
      replace hR:=zbp hR (Nat.lt_irrefl _)
      refine rg trivial ?_
      exact congrArg C45 hR
 exact Fn.go 26 Tryz.func45 zah zah (by simp [C45,Frs,FrsL]) (A45 x0 x1) zah (aux _ rfl)
def k45 (x0:Family) (x1:List Int):Cl:=(hres (C45 (zcm x0 x1)),k4 (zt5 x0 x1))
def C93 (R:(List Int)):LV×List (Nat×BC):=(.own 0,[(0,.arr 1 R.length (rowOf (cInt .i64) R))])
def zbh (x0:Family) (x1:Int):(List Int):=bif (decide (0≤((x0.people.getD x1.toNat default).father))) then (bif (decide (0≤((x0.people.getD x1.toNat default).mother))) then ([(x0.people.getD x1.toNat default).father]++[(x0.people.getD x1.toNat default).mother]) else [(x0.people.getD x1.toNat default).father]) else (bif (decide (0≤((x0.people.getD x1.toNat default).mother))) then [(x0.people.getD x1.toNat default).mother] else ([]:List Int))
def A93 (x0:Family) (x1:Int):Ann:=r0 2 [1,2,4,5] [2] (r1 1 [1,2,4,5,12] [2] [pf (0≤(x1:Int)∧(x1:Int)<((x0.people.length:Nat):Int))] [0] (cn (decide (0≤((x0.people.getD x1.toNat default).father))) (.reg 1 [] [(7,bsC 20 (cInt .i64) ([(x0.people.getD x1.toNat default).father]:List Int)),(8,apN 21 (cInt .i64) 8 [(x0.people.getD x1.toNat default).father])] [1,2,4,5] [2,21] [] [pf (0≤(x1:Int)∧(x1:Int)<((x0.people.length:Nat):Int))] [] [0,4,8] (r1 1 [1,2,4,5,28] [2,21] [pf (0≤(x1:Int)∧(x1:Int)<((x0.people.length:Nat):Int))] [0] (cn (decide (0≤((x0.people.getD x1.toNat default).mother))) (.reg 1 [] [(7,bsC 36 (cInt .i64) ([(x0.people.getD x1.toNat default).mother]:List Int)),(8,ap1 37 (cInt .i64) 8 [(x0.people.getD x1.toNat default).father] ((x0.people.getD x1.toNat default).mother))] [4,5] [37] [] [pf (0≤(x1:Int)∧(x1:Int)<((x0.people.length:Nat):Int))] [] [0,4,8] (r0 1 [4] [37] (rt [(0,some 37)] (C93 ([(x0.people.getD x1.toNat default).father]++[(x0.people.getD x1.toNat default).mother]))))) (r0 1 [4] [21] (rt [(0,some 21)] (C93 [(x0.people.getD x1.toNat default).father])))))) (r1 1 [1,2,4,5,28] [2] [pf (0≤(x1:Int)∧(x1:Int)<((x0.people.length:Nat):Int))] [0] (cn (decide (0≤((x0.people.getD x1.toNat default).mother))) (.reg 1 [] [(7,bsC 36 (cInt .i64) ([(x0.people.getD x1.toNat default).mother]:List Int)),(8,apN 37 (cInt .i64) 8 [(x0.people.getD x1.toNat default).mother])] [4,5] [37] [] [pf (0≤(x1:Int)∧(x1:Int)<((x0.people.length:Nat):Int))] [] [0,4,8] (r0 1 [4] [37] (rt [(0,some 37)] (C93 [(x0.people.getD x1.toNat default).mother])))) (r0 1 [4] [] (rt [(0,none)] (C93 ([]:List Int))))))))
theorem zfu (x:Family) (i:Int):zbh x i=zbe x i:=by
 unfold zbh zbe
 cases h1:decide (0≤(x.people.getD i.toNat default).father)<;>cases h2:decide (0≤(x.people.getD i.toNat default).mother)<;>rfl
theorem zc1 (x:Family) (i:Int):(zbh x i).length≤2∧∀ k:Nat,k<(zbh x i).length→0≤(zbh x i).getD k default∧((zbh x i).getD k default=(x.people.getD i.toNat default).father∨(zbh x i).getD k default=(x.people.getD i.toNat default).mother):=by
 rw [zfu];exact zdb x i
theorem zk5 (x0:Family) (x1:Int) (hx:x0.people.length≤1048576) (hi:0≤x1∧x1<x0.people.length):FnT Tryz.prog 93 [.agg (zbx false x0),.int .i64 x1] (C93 (zbh x0 x1)):=by
 have aux:∀ R,zbh x0 x1=R→slim (C93 R) (A93 x0 x1) []:=by
  intro R hR
  refine rg trivial ?_
  refine rg ⟨by trivial,trivial⟩ ?_
  revert hR;refine cd (fun hc1 hR=>?_) fun hc1 hR=>?_
  ·
    refine rg ⟨by trivial,trivial,by ((try clear hR);intros;(try simp only [decide_eq_true_eq,decide_eq_false_iff_not,Bool.or_eq_true,Bool.and_eq_true,zbd,za9,zba,Bool.not_eq_true',inR] at *);(repeat' apply And.intro)<;>(simp_all [inR];done)),trivial⟩ ?_
    refine rg ⟨by trivial,trivial⟩ ?_
    revert hR;refine cd (fun hc2 hR=>?_) fun hc2 hR=>?_
    ·
      refine rg ⟨by trivial,trivial,by ((try clear hR);intros;(try simp only [decide_eq_true_eq,decide_eq_false_iff_not,Bool.or_eq_true,Bool.and_eq_true,zbd,za9,zba,Bool.not_eq_true',inR] at *);(repeat' apply And.intro)<;>(simp_all [inR];done)),trivial⟩ ?_
      refine rg trivial ?_
      exact congrArg C93 hR
    ·
      refine rg trivial ?_
      exact congrArg C93 hR
  ·
    refine rg ⟨by trivial,trivial⟩ ?_
    revert hR;refine cd (fun hc3 hR=>?_) fun hc3 hR=>?_
    ·
      refine rg ⟨by trivial,trivial,by ((try clear hR);intros;(try simp only [decide_eq_true_eq,decide_eq_false_iff_not,Bool.or_eq_true,Bool.and_eq_true,zbd,za9,zba,Bool.not_eq_true',inR] at *);(repeat' apply And.intro)<;>(simp_all [inR];done)),trivial⟩ ?_
      refine rg trivial ?_
      exact congrArg C93 hR
    ·
      refine rg trivial ?_
      exact congrArg C93 hR
 exact Fn.go 39 Tryz.func93 zah zah (by simp [C93,Frs,FrsL,FrsB,rowOf,cInt,cBool,cStr,cSl,zce,zbq,zb4,zbx]) (A93 x0 x1) zah (aux _ rfl)
def k93 (x0:Family) (x1:Int):Cl:=(hres (C93 (zbh x0 x1)),k2 (zk5 x0 x1))
end Go.Proofs.YtaageiiodlfeiaaGreat
