import Derived.Test.YtlinnkjieghmhaaGreatDoorV5
set_option maxHeartbeats 4000000
set_option linter.unusedSimpArgs false
set_option linter.unusedVariables false
namespace Go.Proofs.YtlinnkjieghmhaaGreatDoor
open Go Go.Lite Go.Proofs
theorem zgr (l : List ya) (i q s d : Int) : zc6 l i q s d = true ↔ q = -1 ∨ 0 ≤ q ∧ q < i ∧ (l.getD q.toNat default).sex = s ∧ (l.getD q.toNat default).born < (l.getD i.toNat default).born ∧
    ((l.getD q.toNat default).died=-1∨(l.getD i.toNat default).born≤IntKind.wrap .i64 ((l.getD q.toNat default).died+d)):=by
 simp only [zc6,zey,zq3,zbd,Bool.and_eq_true,Bool.or_eq_true,decide_eq_true_eq,decide_eq_false_iff_not,zbb,Int.not_lt,Int.not_le,and_assoc]
theorem zrr (x:yc) (i q s d:Int):zc6 x.people i q s d=zeg x i q s d:=by
 rw [Bool.eq_iff_iff,zgr,zgk]
theorem zpx {l:List ya} {k:Nat} (h:zc6 l k (l.getD k default).father 1 1=true∧zc6 l k (l.getD k default).mother 2 0=true):(l.getD k default).father<k∧(l.getD k default).mother<k:=by
 rw [zgr,zgr] at h
 omega
def C17 (R:Bool):LV×List (Nat×BC):=(.bool R,[])
def zcb (x0:yc):Bool:=bif ((decide (40<((x0.people.length:Nat):Int)))||(decide (60<((x0.unions.length:Nat):Int)))) then false else (loopN (fun i1 (v1:(KV→Option Bool)) next=>bif ((((((!(zff ((x0.people.getD i1 default).name)))||((v1 (KV.s ((x0.people.getD i1 default).name))).getD false))||((!decide (((x0.people.getD i1 default).sex)=1))&&(!decide (((x0.people.getD i1 default).sex)=2))))||(decide (((x0.people.getD i1 default).born)<0)))||(decide (9999<((x0.people.getD i1 default).born))))||((!decide (((x0.people.getD i1 default).died)=(-1)))&&((decide (((x0.people.getD i1 default).died)<((x0.people.getD i1 default).born)))||(decide (9999<((x0.people.getD i1 default).died)))))) then false else (bif ((!(zc6 x0.people ((i1:Nat):Int) ((x0.people.getD i1 default).father) 1 1))||(!(zc6 x0.people ((i1:Nat):Int) ((x0.people.getD i1 default).mother) 2 0))) then false else (next (mset v1 (KV.s ((x0.people.getD i1 default).name)) true)))) (fun (v1:(KV→Option Bool))=>loopN (fun i2 (v2:Unit) next=>bif (decide (10<((zg7 x0.people).getD i2 default))) then false else (next ())) (fun (v2:Unit)=>loopN (fun i3 (v3:Unit) next=>bif (!(zfl x0 ((i3:Nat):Int))) then false else (next ())) (fun (v3:Unit)=>true) x0.unions.length 0 ()) ((zg7 x0.people).length) 0 ()) x0.people.length 0 (fun _=>none))
def D17b1 (i1:Nat) (v1:(KV→Option Bool)):Dl:=⟨[(23,.int .i64 ((i1:Nat):Int)),(3,.mp 20003)],[(20003,.mp .str (.b v1))]⟩
def D17b2 (i2:Nat) (v2:Unit):Dl:=⟨[(99,.int .i64 ((i2:Nat):Int))],[]⟩
def D17b3 (i3:Nat) (v3:Unit):Dl:=⟨[(109,.int .i64 ((i3:Nat):Int))],[]⟩
def A17b3 (x0:yc) (i3:Nat) (v3:Unit):Ann:=let q1:=((i3:Nat):Int);r0 1 [1,2,108,109,110] [1] (cn (decide (q1<((x0.unions.length:Nat):Int))) (.reg 2 [] [(1002,k48 x0 q1)] [1,2,108,109,115] [1] [] [] [] [0] (cn (!(zfl x0 q1)) (r0 1 [1,2,108,109] [1] (rt [] (C17 false))) (r1 1 [1,2,108,109] [1] [pf (inR .i64 (q1+1))] [0] (.next 0 [] (D17b3 (i3+1) ()))))) (r0 1 [2] [] (rt [] (C17 true))))
def A17b2 (x0:yc) (i2:Nat) (v2:Unit):Ann:=let q1:=((i2:Nat):Int);let q2:=(((zg7 x0.people).length:Nat):Int);r0 1 [1,2,97,98,99,100] [1,1097] (cn (decide (q1<q2)) (r1 2 [1,2,97,98,99,104] [1,1097] [pf (0≤(q1:Int)∧(q1:Int)<q2)] [0] (cn (decide (10<((zg7 x0.people).getD i2 default))) (r0 1 [1,2,97,98,99] [1,1097] (rt [] (C17 false))) (r1 1 [1,2,97,98,99] [1,1097] [pf (inR .i64 (q1+1))] [0] (.next 0 [] (D17b2 (i2+1) ()))))) (r0 1 [1,2,108,109] [1] (lp (D17b3) [] [] [] (D17b3 0 ()) (A17b3 x0))))
def A17b1 (x0:yc) (i1:Nat) (v1:(KV→Option Bool)):Ann:=let q8:=((i1:Nat):Int);let q1:=x0.people.getD i1 default;let q13:=((x0.people.length:Nat):Int);let q11:=zff (q1.name);let q7:=!decide ((q1.sex)=1);let q6:=!decide ((q1.died)=(-1));let q5:=zc6 x0.people q8 (q1.father) 1 1;let q9:=decide ((q1.died)<(q1.born));let q10:=q7&&(!decide ((q1.sex)=2));let q3:=(!q11)||((v1 (KV.s (q1.name))).getD false);let q2:=(q3||q10)||(decide ((q1.born)<0));let q4:=q2||(decide (9999<(q1.born)));let q12:=(!q4)&&q6;r0 1 [1,2,3,21,22,23,24] [1,20003] (cn (decide (q8<q13)) (r1 1 [1,2,3,4,5,21,22,23] [1,5,20003] [pf (0≤(q8:Int)∧(q8:Int)<q13)] [0] (.reg 1 [] [(2,k45 (q1.name))] [1,2,3,4,5,21,22,23,74] [1,5,20003] [!(!q11),!q11,!q3,(!q3)&&q7,(!q11)||((v1 (KV.s (q1.name))).getD false),!(q3||q10),q3||q10,!q2,(q3||q10)||(decide ((q1.born)<0)),!q4,(!q4)&&q6,q12&&(!q9),q2||(decide (9999<(q1.born)))] [gt (!q3) (gt q7 (pf (((!q3)&&q7)=true))),gt q12 (gf q9 (pf ((q12&&(!q9))=true))),gt (!q4) (gt q6 (pf (q12=true)))] [] [12,1,1,1,6,9,9,9,13,13,9,0,18,21,21,26,29,29,34,37,37,37,41,41,41,41,41,45,45,41,4,37,8,50] (cn (q4||(q6&&(q9||(decide (9999<(q1.died)))))) (r0 1 [1,2,3,4,5,21,22,23] [1,5,20003] (rt [] (C17 false))) (.reg 2 [] [(1005,k46 x0.people q8 (q1.father) 1 1),(1013,cg (!(!q5)) (k46 x0.people q8 (q1.mother) 2 0))] [1,2,3,21,22,23,93] [1,20003] [!(!q5),!q5] [] [] [0,1,1,1,1,1,4,1,6] (cn ((!q5)||(!(zc6 x0.people q8 (q1.mother) 2 0))) (r0 1 [1,2,3,21,22,23] [1,20003] (rt [] (C17 false))) (r1 1 [1,2,3,21,22,23] [1,20003] [pf (inR .i64 (q8+1))] [0] (.next 0 [(20003,some 20003)] (D17b1 (i1+1) (mset v1 (KV.s (q1.name)) true))))))))) (.reg 1 [] [(2,k47 x0.people)] [1,2,97,98,99] [1,1097] [] [] [] [0] (lp (D17b2) [] [] [] (D17b2 0 ()) (A17b2 x0))))
def A17 (x0:yc):Ann:=let q1:=(40<((x0.people.length:Nat):Int));r0 1 [1,2] [1] (.reg 1 [] [] [1,2,18] [1] [!(decide q1),decide q1] [] [] [1,1,1,6] (cn ((decide q1)||(decide (60<((x0.unions.length:Nat):Int)))) (r0 1 [1,2] [1] (rt [] (C17 false))) (r0 1 [1,2,3] [1,19] (r0 1 [1,2,3,21,22,23] [1,19] (lp (D17b1) [] [19] [(20003,some 19)] (D17b1 0 (fun _=>none)) (A17b1 x0))))))
theorem znd (x0:yc) (hx:x0.people.length≤1048576) (hu:x0.unions.length≤1048576) (hn:∀ p∈x0.people,p.name.length≤1048576):FnT Tryz.prog 17 [.agg (zcf false x0)] (C17 (zcb x0)):=by
 have aux:∀ R,zcb x0=R→slim (C17 R) (A17 x0) []:=by
  intro R hR
  refine rg trivial ?_
  refine rg trivial ?_
  revert hR;refine cd (fun hc1 hR=>?_) fun hc1 hR=>?_
  ·
    refine rg trivial ?_
    exact congrArg C17 hR
  ·
    refine rg trivial ?_
    refine rg trivial ?_
    revert hR;refine lN (fun i v=>∀ k:Nat,k<i→zc6 x0.people k (x0.people.getD k default).father 1 1=true∧zc6 x0.people k (x0.people.getD k default).mother 2 0=true) zar rfl fun i1 v1 F1 hn1 hI1 hR hK1=>?_
    refine rg trivial ?_
    refine ⟨fun hc2=>?_,fun hc2=>?_⟩
    · have hii1:i1<x0.people.length:=by have:=of_decide_eq_true hc2;omega
      replace hR:=zbq hR hii1
      refine rg ⟨by (intros;omega),trivial⟩ ?_
      refine rg ⟨by ((try clear hR hK1);intros;(try simp only [decide_eq_true_eq,decide_eq_false_iff_not,Bool.or_eq_true,Bool.and_eq_true,zbd,zbb,zbc,Bool.not_eq_true',inR] at *);(repeat' apply And.intro)<;>(first | (intros;omega) | (simp_all [inR];done))),by ((try clear hR hK1);intros;(try simp only [decide_eq_true_eq,decide_eq_false_iff_not,Bool.or_eq_true,Bool.and_eq_true,zbd,zbb,zbc,Bool.not_eq_true',inR] at *);(repeat' apply And.intro)<;>(first | (intros;omega) | (simp_all [inR];done))),by ((try clear hR hK1);intros;(try simp only [decide_eq_true_eq,decide_eq_false_iff_not,Bool.or_eq_true,Bool.and_eq_true,zbd,zbb,zbc,Bool.not_eq_true',inR] at *);(repeat' apply And.intro)<;>(first | (intros;omega) | (simp_all [inR];done))),by ((try clear hR hK1);intros;(try simp only [decide_eq_true_eq,decide_eq_false_iff_not,Bool.or_eq_true,Bool.and_eq_true,zbd,zbb,zbc,Bool.not_eq_true',inR] at *);(repeat' apply And.intro)<;>(simp_all [inR];done)),trivial⟩ ?_
      revert hR;refine cd (fun hc3 hR=>?_) fun hc3 hR=>?_
      ·
        refine rg trivial ?_
        exact congrArg C17 hR
      ·
        refine rg ⟨⟨by trivial,by (intros;omega)⟩,fun hg0=>⟨by trivial,by (intros;omega)⟩,trivial⟩ ?_
        revert hR;refine cd (fun hc4 hR=>?_) fun hc4 hR=>?_
        ·
          refine rg trivial ?_
          exact congrArg C17 hR
        ·
          refine rg ⟨by ( intros;simp only [inR];omega),trivial⟩ ?_
          exact hK1 (mset v1 (KV.s ((x0.people.getD i1 default).name)) true) hii1 (by (exact z2h hI1 (by simpa using hc4))) hR
    · obtain rfl:i1=x0.people.length:=by have:=of_decide_eq_false hc2;omega
      replace hR:=zbu hR (Nat.lt_irrefl _)
      refine rg ⟨⟨by trivial,by (exact fun k hk=>zpx (hI1 k hk))⟩,trivial⟩ ?_
      have hp1:=zyb x0.people
      revert hR;refine lN (fun i v=>True) za6 rfl fun i2 v2 F2 hn2 hI2 hR hK2=>?_
      refine rg trivial ?_
      refine ⟨fun hc5=>?_,fun hc5=>?_⟩
      · have hii2:i2<(zg7 x0.people).length:=by have:=of_decide_eq_true hc5;omega
        replace hR:=zbq hR hii2
        refine rg ⟨by (intros;omega),trivial⟩ ?_
        revert hR;refine cd (fun hc6 hR=>?_) fun hc6 hR=>?_
        ·
          refine rg trivial ?_
          exact congrArg C17 hR
        ·
          refine rg ⟨by ( intros;simp only [inR];omega),trivial⟩ ?_
          exact hK2 () hii2 za6 hR
      · obtain rfl:i2=(zg7 x0.people).length:=by have:=of_decide_eq_false hc5;omega
        replace hR:=zbu hR (Nat.lt_irrefl _)
        refine rg trivial ?_
        revert hR;refine lN (fun i v=>True) za6 rfl fun i3 v3 F3 hn3 hI3 hR hK3=>?_
        refine rg trivial ?_
        refine ⟨fun hc7=>?_,fun hc7=>?_⟩
        · have hii3:i3<x0.unions.length:=by have:=of_decide_eq_true hc7;omega
          replace hR:=zbq hR hii3
          refine rg ⟨⟨by trivial,by trivial,by (intros;omega)⟩,trivial⟩ ?_
          revert hR;refine cd (fun hc8 hR=>?_) fun hc8 hR=>?_
          ·
            refine rg trivial ?_
            exact congrArg C17 hR
          ·
            refine rg ⟨by ( intros;simp only [inR];omega),trivial⟩ ?_
            exact hK3 () hii3 za6 hR
        · obtain rfl:i3=x0.unions.length:=by have:=of_decide_eq_false hc7;omega
          replace hR:=zbu hR (Nat.lt_irrefl _)
          refine rg trivial ?_
          exact congrArg C17 hR
 exact Fn.go 117 Tryz.func17 (by kernel_rfl) (by kernel_rfl) (by simp [C17,Frs,FrsL]) (A17 x0) (by kernel_rfl) (aux _ rfl)
def k17 (x0:yc):Cl:=(hres (C17 (zcb x0)),k3 (znd x0))
theorem zz6 (s:List UInt8):zff s=zcp s:=by
 rw [Bool.eq_iff_iff]
 simp only [zff,zcp,zey,zbd,zeo,l1In,Bool.and_eq_true,decide_eq_true_eq,decide_eq_false_iff_not,and_true]
 constructor
 ·rintro ⟨⟨h1,h2⟩,h3⟩;exact ⟨h3,om,om⟩
 ·rintro ⟨h3,h1,h2⟩;exact ⟨⟨om,om⟩,h3⟩
theorem z0q (x:yc) (hp:∀ (k:Nat),k<x.people.length→(x.people.getD k default).father<k∧(x.people.getD k default).mother<k):zg7 x.people=zbj x:=by
 unfold zg7 zbj
 refine zja (fun i (v u:List Int)=>u.length=i∧v.length=x.people.length∧(∀ k,k<i→v.getD k default=u.getD k default∧0≤u.getD k default)∧∀ k,i≤k→v.getD k default=0) Eq ⟨rfl,by simp,fun k hk=>absurd hk (Nat.not_lt_zero _),fun k _=>?_⟩ ?_ ?_
 ·rw [zgl];split<;>rfl
 ·rintro i v u n1 n2 hi ⟨h1,h2,h3,h4⟩ hn
  obtain ⟨p1,p2⟩:=hp i hi
  have h5:=h4 i (Nat.le_refl _)
  have key:∀ d:Int,0≤d→n1 (v.set i d)=n2 (u++[d]):=fun d hd=>by
   refine hn _ _ ⟨by simp [h1],by simp [h2],fun k hk=>?_,fun k hk=>?_⟩
   ·rw [zco,zcy,h1]
    by_cases e:k=i
    ·subst e;simp [h2,hi,hd]
    ·rw [if_neg om,if_pos om];exact h3 k om
   ·rw [zco,if_neg om];exact h4 k om
  have hv:v.set i 0=v:=by
   apply List.ext_getElem zas
   intro k hk1 hk2
   rw [List.getElem_set]
   split
   ·rename_i e;subst e;rw [List.getD_eq_getElem?_getD,List.getElem?_eq_getElem hk2] at h5;simpa using h5.symm
   ·rfl
  simp only [loopN]
  have q0:∀ d:Int,[(x.people.getD i default).father,(x.people.getD i default).mother].getD 0 d=(x.people.getD i default).father:=fun _=>rfl
  have q1:∀ d:Int,[(x.people.getD i default).father,(x.people.getD i default).mother].getD (0+1) d=(x.people.getD i default).mother:=fun _=>rfl
  simp only [q0,q1]
  generalize (x.people.getD i default).father=a at p1 ⊢
  generalize (x.people.getD i default).mother=b at p2 ⊢
  have ge:∀ (d:Int) (j:Int),0≤j→j<i→(v.set i d).getD j.toNat default=u.getD j.toNat default∧0≤u.getD j.toNat default:=fun d j j0 j1=>by
   rw [zco,if_neg om];exact h3 _ om
  have gi:∀ d:Int,(v.set i d).getD i default=d:=fun d=>by rw [zco,if_pos ⟨rfl,om⟩]
  by_cases c1:0≤a<;>by_cases c2:0≤b
  ·obtain ⟨g1,g2⟩:=h3 a.toNat om
   obtain ⟨g3,g4⟩:=ge (max 0 (u.getD a.toNat default+1)) b c2 p2
   simp only [c1,c2,decide_true,cond_true,h5,g1,g3,gi,List.set_set]
   have:=key (max (u.getD a.toNat default+1) (u.getD b.toNat default+1)) om
   rw [show max (max 0 (u.getD a.toNat default+1)) (u.getD b.toNat default+1)=max (u.getD a.toNat default+1) (u.getD b.toNat default+1) by omega]
   exact this
  ·obtain ⟨g1,g2⟩:=h3 a.toNat om
   simp only [c1,c2,decide_true,decide_false,cond_true,cond_false,h5,g1]
   rw [show max 0 (u.getD a.toNat default+1)=u.getD a.toNat default+1 by omega]
   exact key _ om
  ·obtain ⟨g1,g2⟩:=h3 b.toNat om
   simp only [c1,c2,decide_true,decide_false,cond_true,cond_false,h5,g1]
   exact key _ om
  ·simp only [c1,c2,decide_false,cond_false]
   have:=key 0 om
   rw [hv] at this
   exact this
 ·rintro v u ⟨h1,h2,h3,h4⟩
  apply List.ext_getElem om
  intro k hk1 hk2
  have:=(h3 k om).1
  rw [List.getD_eq_getElem?_getD,List.getD_eq_getElem?_getD,List.getElem?_eq_getElem hk1,List.getElem?_eq_getElem hk2] at this
  simpa using this
theorem zr6 {p:Nat→Prop}:(∀ j,j<2→p j)↔p 0∧p 1 :=
 ⟨fun h=>⟨h 0 om,h 1 om⟩,fun h j hj=>by
  match j,hj with
  | 0,_=>exact h.1
  | 1,_=>exact h.2⟩
theorem zss (x:yc) (k:Nat) (hv:∀ j:Nat,(x.people.getD j default).died=-1∨0≤(x.people.getD j default).died):zfl x k=zfs x k:=by
 rw [Bool.eq_iff_iff]
 simp only [zfl,zfs,zey,zbd,zeo,l1In,Bool.and_eq_true,Bool.or_eq_true,zbb,zbc,zi0,decide_eq_true_eq,decide_eq_false_iff_not,zr6,Int.toNat_natCast,Nat.zero_add,Nat.sub_zero,and_true]
 have q0:∀ {α:Type} (a b d:α),[a,b].getD 0 d=a:=fun _ _ _=>rfl
 have q1:∀ {α:Type} (a b d:α),[a,b].getD 1 d=b:=fun _ _ _=>rfl
 simp only [q0,q1]
 generalize (∀ j,j<k→(x.unions.getD j default).man=(x.unions.getD k default).man→¬(x.unions.getD j default).woman=(x.unions.getD k default).woman)=Z
 have h1:=hv (x.unions.getD k default).man.toNat
 have h2:=hv (x.unions.getD k default).woman.toNat
 generalize x.people.getD (x.unions.getD k default).man.toNat default=a at *
 generalize x.people.getD (x.unions.getD k default).woman.toNat default=b at *
 generalize x.unions.getD k default=u at *
 by_cases hz:Z<;>simp only [hz,and_true,and_false]
 omega
theorem zul (x:yc) (k:Nat) (h:zd5 x k=true):(x.people.getD k default).died=-1∨0≤(x.people.getD k default).died:=by
 obtain ⟨_,_,h1,h2,_⟩:=(zfo x k).1 h
 simp only [Int.toNat_natCast] at h1 h2
 omega
theorem zyq {c d X:Bool} (h:c=false∧d=false):(bif c then false else bif d then false else X)=X:=by rw [h.1,h.2];rfl
theorem zdk (x:yc):zcb x=za9 x:=by
 unfold zcb za9
 generalize (decide (40<((x.people.length:Nat):Int))||decide (60<((x.unions.length:Nat):Int)))=c
 cases c
 ·simp only [cond_false]
  refine zja (fun i (m:KV→Option Bool) (_:Unit)=>(∀ s,(m (KV.s s)).getD false=true↔∃ j,j<i∧(x.people.getD j default).name=s)∧∀ j:Nat,j<i→zd5 x j=true) Eq ⟨fun s=>by simp,fun j hj=>absurd hj (Nat.not_lt_zero _)⟩ ?_ ?_
  ·rintro i m _ n1 n2 hi ⟨h1,h2⟩ hn
   have hp:=zfo x i
   simp only [Int.toNat_natCast] at hp
   have hnm:=h1 (x.people.getD i default).name
   simp only [zrr,zz6]
   have hdup:(m (KV.s (x.people.getD i default).name)).getD false=false↔∀ j,j<i→(x.people.getD j default).name≠(x.people.getD i default).name:=by
    rw [← Bool.not_eq_true,hnm]
    exact ⟨fun h j hj he=>h ⟨j,hj,he⟩,fun h ⟨j,hj,he⟩=>h j hj he⟩
   cases hq:zd5 x i
   ·simp only [Bool.not_false,cond_true]
    refine Bool.eq_false_iff.2 fun hh=>?_
    refine Bool.false_ne_true (hq.symm.trans (hp.2 ?_))
    simp only [zey,zbd,zbb,zbc,zi0,decide_eq_true_eq,decide_eq_false_iff_not,hdup] at hh
    obtain ⟨⟨⟨⟨⟨⟨g1,g2⟩,g3⟩,g4⟩,g5⟩,g6⟩,⟨g7,g8⟩,_⟩:=hh
    exact ⟨g1,om,om,om,g2,g7,g8⟩
   ·simp only [Bool.not_true,cond_false]
    obtain ⟨g1,g3,g4,g5,g2,g7,g8⟩:=hp.1 hq
    refine (zyq ?_).trans (hn _ () ⟨fun s=>?_,fun j hj=>?_⟩)
    ·simp only [zbd,zbb,zbc,zi0,decide_eq_true_eq,decide_eq_false_iff_not,hdup]
     exact ⟨⟨⟨⟨⟨⟨g1,g2⟩,om⟩,om⟩,om⟩,om⟩,g7,g8⟩
    ·simp only [mset]
     by_cases e:s=(x.people.getD i default).name
     ·subst e;simp only [if_true,Option.getD_some,true_iff];exact ⟨i,om,rfl⟩
     ·rw [if_neg (fun q=>e (by injection q)),h1 s]
      refine ⟨fun ⟨j,hj,he⟩=>⟨j,om,he⟩,fun ⟨j,hj,he⟩=>⟨j,?_,he⟩⟩
      by_cases e2:j=i
      ·subst e2;exact absurd he.symm e
      ·omega
    ·by_cases e:j=i
     ·rw [e];exact hq
     ·exact h2 j om
  ·rintro m _ ⟨h1,h2⟩
   have hpar:=fun k hk=>ziu x k (h2 k hk)
   rw [z0q x hpar]
   have hu:∀ k:Nat,zfl x k=zfs x k:=fun k=>zss x k fun j=>by
    rcases Nat.lt_or_ge j x.people.length with h | h
    ·exact zul x j (h2 j h)
    ·rw [List.getD_eq_getElem?_getD,List.getElem?_eq_none h];right;decide
   simp only [hu]
 ·rfl
def neg (l:List Int):Nat:=l.countP fun x=>decide (x<0)
inductive Up (x : yc) (p : Int) : Nat → Int → Prop
  | zero:Up x p 0 p
  | step {n:Nat} {a q:Int} (h:Up x p n a) (hq:q∈zb4 x a):Up x p (n+1) q
def Par (x:yc):Prop:=∀ (k:Nat),k<x.people.length→(x.people.getD k default).father<k∧(x.people.getD k default).mother<k
theorem zf2 {α:Type} {l:List α} {q d:α} (h:q∈l):∃ k,k<l.length∧l.getD k d=q:=by
 obtain ⟨k,hk,e⟩:=List.getElem_of_mem h
 exact ⟨k,hk,by rw [List.getD_eq_getElem?_getD,List.getElem?_eq_getElem hk,Option.getD_some,e]⟩
theorem zd0 {α:Type} {l:List α} {k:Nat} {d:α} (hk:k<l.length):l.getD k d∈l:=by
 rw [List.getD_eq_getElem?_getD,List.getElem?_eq_getElem hk];exact List.getElem_mem hk
theorem zzh {x:yc} (hp:Par x) {a q:Int} (ha:0≤a∧a<x.people.length) (hq:q∈zb4 x a):0≤q∧q<a:=by
 obtain ⟨k,hk,e⟩:=zf2 (d:=default) hq
 have h1:=(zk5 x a).2 k hk
 rw [e] at h1
 have h2:=hp a.toNat om
 omega
theorem Up.rng {x:yc} (hp:Par x) {p:Int} (h0:0≤p∧p<x.people.length) {n:Nat} {k:Int} (h:Up x p n k):0≤k∧k<x.people.length∧k+n≤p:=by
 induction h with
 | zero=>omega
 | step _ hq ih=>have:=zzh hp ⟨ih.1,ih.2.1⟩ hq;omega
structure FamP (x:yc) (k:Nat):Prop where
 name:zcp (x.people.getD k default).name=true
 sex:1≤(x.people.getD k default).sex∧(x.people.getD k default).sex≤2
 born:0≤(x.people.getD k default).born∧(x.people.getD k default).born≤9999
 died:(x.people.getD k default).died=-1∨(x.people.getD k default).born≤(x.people.getD k default).died∧(x.people.getD k default).died≤9999
 uniq:∀ j,j<k→(x.people.getD j default).name≠(x.people.getD k default).name
 fa : (x.people.getD k default).father = -1 ∨ 0 ≤ (x.people.getD k default).father ∧ (x.people.getD k default).father < k ∧ (x.people.getD (x.people.getD k default).father.toNat default).sex = 1 ∧ (x.people.getD (x.people.getD k default).father.toNat default).born < (x.people.getD k default).born ∧
   ((x.people.getD (x.people.getD k default).father.toNat default).died=-1∨(x.people.getD k default).born≤(x.people.getD (x.people.getD k default).father.toNat default).died+1)
 mo : (x.people.getD k default).mother = -1 ∨ 0 ≤ (x.people.getD k default).mother ∧ (x.people.getD k default).mother < k ∧ (x.people.getD (x.people.getD k default).mother.toNat default).sex = 2 ∧ (x.people.getD (x.people.getD k default).mother.toNat default).born < (x.people.getD k default).born ∧
   ((x.people.getD (x.people.getD k default).mother.toNat default).died=-1∨(x.people.getD k default).born≤(x.people.getD (x.people.getD k default).mother.toNat default).died)
structure FamU (x:yc) (k:Nat):Prop where
 man:0≤(x.unions.getD k default).man∧(x.unions.getD k default).man<x.people.length
 woman:0≤(x.unions.getD k default).woman∧(x.unions.getD k default).woman<x.people.length
 msex:(x.people.getD (x.unions.getD k default).man.toNat default).sex=1
 wsex:(x.people.getD (x.unions.getD k default).woman.toNat default).sex=2
 from0:(x.people.getD (x.unions.getD k default).man.toNat default).born≤(x.unions.getD k default).from0∧(x.people.getD (x.unions.getD k default).woman.toNat default).born≤(x.unions.getD k default).from0∧(x.unions.getD k default).from0≤9999
 to:(x.unions.getD k default).to=-1∨(x.unions.getD k default).from0≤(x.unions.getD k default).to∧(x.unions.getD k default).to≤9999
 mdied:(x.people.getD (x.unions.getD k default).man.toNat default).died=-1∨(x.unions.getD k default).from0≤(x.people.getD (x.unions.getD k default).man.toNat default).died∧(x.unions.getD k default).to≤(x.people.getD (x.unions.getD k default).man.toNat default).died
 wdied:(x.people.getD (x.unions.getD k default).woman.toNat default).died=-1∨(x.unions.getD k default).from0≤(x.people.getD (x.unions.getD k default).woman.toNat default).died∧(x.unions.getD k default).to≤(x.people.getD (x.unions.getD k default).woman.toNat default).died
 uniq:∀ j,j<k→(x.unions.getD j default).man=(x.unions.getD k default).man→¬ (x.unions.getD j default).woman=(x.unions.getD k default).woman
theorem zuw (x:yc) (k:Nat):zfs x k=true↔FamU x k:=by
 have q0:∀ {α:Type} (a b d:α),[a,b].getD 0 d=a:=fun _ _ _=>rfl
 have q1:∀ {α:Type} (a b d:α),[a,b].getD 1 d=b:=fun _ _ _=>rfl
 have h2:∀ {p:Nat→Prop},(∀ j,j<2→p j)↔p 0∧p 1:=⟨fun h=>⟨h 0 om,h 1 om⟩,fun h j hj=>by
  match j,hj with
  | 0,_=>exact h.1
  | 1,_=>exact h.2⟩
 have e : FamU x k ↔ (0 ≤ (x.unions.getD k default).man ∧ (x.unions.getD k default).man < x.people.length) ∧ (0 ≤ (x.unions.getD k default).woman ∧ (x.unions.getD k default).woman < x.people.length) ∧ (x.people.getD (x.unions.getD k default).man.toNat default).sex = 1 ∧
   (x.people.getD (x.unions.getD k default).woman.toNat default).sex=2∧((x.people.getD (x.unions.getD k default).man.toNat default).born≤(x.unions.getD k default).from0∧(x.people.getD (x.unions.getD k default).woman.toNat default).born≤(x.unions.getD k default).from0∧(x.unions.getD k default).from0≤9999) ∧
   ((x.unions.getD k default).to=-1∨(x.unions.getD k default).from0≤(x.unions.getD k default).to∧(x.unions.getD k default).to≤9999) ∧
   ((x.people.getD (x.unions.getD k default).man.toNat default).died=-1∨(x.unions.getD k default).from0≤(x.people.getD (x.unions.getD k default).man.toNat default).died∧(x.unions.getD k default).to≤(x.people.getD (x.unions.getD k default).man.toNat default).died) ∧
   ((x.people.getD (x.unions.getD k default).woman.toNat default).died=-1∨(x.unions.getD k default).from0≤(x.people.getD (x.unions.getD k default).woman.toNat default).died∧(x.unions.getD k default).to≤(x.people.getD (x.unions.getD k default).woman.toNat default).died) ∧
   (∀ j,j<k→(x.unions.getD j default).man=(x.unions.getD k default).man→¬ (x.unions.getD j default).woman=(x.unions.getD k default).woman) :=
   ⟨fun h=>⟨h.man,h.woman,h.msex,h.wsex,h.from0,h.to,h.mdied,h.wdied,h.uniq⟩,fun ⟨h1,h2,h3,h4,h5,h6,h7,h8,h9⟩=>⟨h1,h2,h3,h4,h5,h6,h7,h8,h9⟩⟩
 rw [e]
 simp only [zfs,zey,zbd,zeo,l1In,Bool.and_eq_true,Bool.or_eq_true,zbb,zbc,zi0,decide_eq_true_eq,decide_eq_false_iff_not,h2,Int.toNat_natCast,q0,q1,and_true]
 generalize (∀ j,j<k→(x.unions.getD j default).man=(x.unions.getD k default).man→¬(x.unions.getD j default).woman=(x.unions.getD k default).woman)=Z
 generalize x.people.getD (x.unions.getD k default).man.toNat default=a
 generalize x.people.getD (x.unions.getD k default).woman.toNat default=b
 generalize x.unions.getD k default=u
 by_cases hz:Z<;>simp only [hz,and_true,and_false]
 omega
theorem zp9 {n:Int} (h:-1≤n∧n≤20000):IntKind.wrap .i64 n=n:=zdx (by simp only [inR];omega)
theorem zmq (x:yc) (k:Nat) (hd:∀ j:Nat,j<k→(x.people.getD j default).died=-1∨0≤(x.people.getD j default).died∧(x.people.getD j default).died≤9999):zd5 x k=true↔FamP x k:=by
 have hw:∀ (q:Int),0≤q→q<k→∀ l:Int,0≤l∧l≤1→IntKind.wrap .i64 ((x.people.getD q.toNat default).died+l)=(x.people.getD q.toNat default).died+l:=fun q h0 h1 l hl=>zp9 (by have:=hd q.toNat om;omega)
 rw [zfo,zgk,zgk]
 simp only [Int.toNat_natCast]
 constructor
 ·rintro ⟨h1,h2,h3,h4,h5,h6,h7⟩
  refine ⟨h1,h2,h3,h4,h5,h6.imp id fun h=>⟨h.1,h.2.1,h.2.2.1,h.2.2.2.1,?_⟩,h7.imp id fun h=>⟨h.1,h.2.1,h.2.2.1,h.2.2.2.1,?_⟩⟩
  ·rw [← hw _ h.1 h.2.1 1 om];exact h.2.2.2.2
  ·have:=h.2.2.2.2;rw [hw _ h.1 h.2.1 0 om] at this;simpa using this
 ·rintro ⟨h1,h2,h3,h4,h5,h6,h7⟩
  refine ⟨h1,h2,h3,h4,h5,h6.imp id fun h=>⟨h.1,h.2.1,h.2.2.1,h.2.2.2.1,?_⟩,h7.imp id fun h=>⟨h.1,h.2.1,h.2.2.1,h.2.2.2.1,?_⟩⟩
  ·rw [hw _ h.1 h.2.1 1 om];exact h.2.2.2.2
  ·rw [hw _ h.1 h.2.1 0 om];simpa using h.2.2.2.2
theorem zgw (x:yc):za9 x=true↔(x.people.length≤40∧x.unions.length≤60)∧(∀ k:Nat,k<x.people.length→FamP x k)∧(∀ k:Nat,k<x.people.length→(zbj x).getD k default≤10)∧∀ k:Nat,k<x.unions.length→FamU x k:=by
 rw [zhs]
 have e1:∀ k:Nat,(zfs x k=true↔FamU x k):=zuw x
 simp only [e1]
 refine and_congr_right fun _=>and_congr_left fun _=>?_
 constructor
 ·intro h k hk
  refine (zmq x k fun j hj=>?_).1 (h k hk)
  obtain ⟨_,_,h1,h2,_⟩:=(zfo x j).1 (h j om)
  simp only [Int.toNat_natCast] at h1 h2
  omega
 ·intro h k hk
  refine (zmq x k fun j hj=>?_).2 (h k hk)
  have:=h j om
  have h1:=this.born;have h2:=this.died
  omega
theorem fam_p {x:yc} (h:za9 x=true) {k:Nat} (hk:k<x.people.length):FamP x k:=((zgw x).1 h).2.1 k hk
theorem fam_u {x:yc} (h:za9 x=true) {k:Nat} (hk:k<x.unions.length):FamU x k:=((zgw x).1 h).2.2.2 k hk
theorem fam_n {x:yc} (h:za9 x=true):x.people.length≤40∧x.unions.length≤60:=((zgw x).1 h).1
theorem zc5 {α:Type} {l:List α} {z d:α} {k:Nat} (h:k<l.length):(l++[z]).getD k d=l.getD k d:=by
 rw [zcy,if_pos h]
theorem zf7 {α:Type} {l:List α} {z d:α} {k:Nat} (h:k=l.length):(l++[z]).getD k d=z:=by
 rw [zcy,if_neg om,if_pos h]
theorem zvr (n:Int):inR .i64 (IntKind.wrap .i64 n):=by
 simp only [inR,IntKind.wrap,IntKind.signed,IntKind.bits]
 simp
 omega
theorem zg9 (x m:Int) (k:Nat) (hm:m=k) (hk:k<9223372036854775808):0≤bits .and .i64 x m∧bits .and .i64 x m≤m:=by
 have h1:(BitVec.ofInt 64 x &&& BitVec.ofInt 64 m).toNat≤k:=by
  rw [BitVec.toNat_and]
  refine Nat.le_trans Nat.and_le_right ?_
  subst hm
  simp only [BitVec.toNat_ofInt]
  omega
 have e:bits .and .i64 x m=((BitVec.ofInt 64 x &&& BitVec.ofInt 64 m).toNat:Int):=by
  show IntKind.wrap .i64 _=_
  exact zdx (n:=((BitVec.ofInt 64 x &&& BitVec.ofInt 64 m).toNat:Int)) (by simp only [inR];omega)
 rw [e]
 omega
theorem zle {l:List Int} (h:∀ y∈l,0≤y∧y≤255) (k:Nat):0≤l.getD k default∧l.getD k default≤255:=by
 rcases Nat.lt_or_ge k l.length with hk | hk
 ·have:=h _ (List.getElem_mem hk)
  simpa [List.getD_eq_getElem?_getD,List.getElem?_eq_getElem hk] using this
 ·simp [List.getD_eq_getElem?_getD,List.getElem?_eq_none hk]
def zdg (x0:yc) (x1:Int):yc:=bif (!(za9 x0)) then (yc.mk ([]:List ya) ([]:List yb)) else (loopN (fun i1 (v1:(List Int)×(List ya)) next=>bif (decide (x1<((x0.people.getD i1 default).born))) then (next ((v1.1++[((v1.2.length:Nat):Int)]),v1.2)) else (jn (fun K1=>bif (decide (0≤((x0.people.getD i1 default).father))) then (K1 ((v1.1++[((v1.2.length:Nat):Int)]).getD (((x0.people.getD i1 default).father).toNat) default)) else (K1 ((x0.people.getD i1 default).father))) (fun (j1:Int)=>jn (fun K2=>bif (decide (0≤((x0.people.getD i1 default).mother))) then (K2 ((v1.1++[((v1.2.length:Nat):Int)]).getD (((x0.people.getD i1 default).mother).toNat) default)) else (K2 ((x0.people.getD i1 default).mother))) (fun (j2:Int)=>bif (decide (x1<((x0.people.getD i1 default).died))) then (next ((v1.1++[((v1.2.length:Nat):Int)]),(v1.2++[(ya.mk ((x0.people.getD i1 default).name) ((x0.people.getD i1 default).sex) j1 j2 ((x0.people.getD i1 default).born) (-1))]))) else (next ((v1.1++[((v1.2.length:Nat):Int)]),(v1.2++[(ya.mk ((x0.people.getD i1 default).name) ((x0.people.getD i1 default).sex) j1 j2 ((x0.people.getD i1 default).born) ((x0.people.getD i1 default).died))]))))))) (fun (v1:(List Int)×(List ya))=>loopN (fun i2 (v2:(List yb)) next=>bif (decide (x1<((x0.unions.getD i2 default).from0))) then (next v2) else (jn (fun K3=>bif (decide (x1<((x0.unions.getD i2 default).to))) then (K3 (-1)) else (K3 ((x0.unions.getD i2 default).to))) (fun (j3:Int)=>next (v2++[(yb.mk (v1.1.getD (((x0.unions.getD i2 default).man).toNat) default) (v1.1.getD (((x0.unions.getD i2 default).woman).toNat) default) ((x0.unions.getD i2 default).from0) j3)])))) (fun (v2:(List yb))=>(yc.mk v1.2 v2)) x0.unions.length 0 ([]:List yb)) x0.people.length 0 (([]:List Int),([]:List ya)))
end Go.Proofs.YtlinnkjieghmhaaGreatDoor
