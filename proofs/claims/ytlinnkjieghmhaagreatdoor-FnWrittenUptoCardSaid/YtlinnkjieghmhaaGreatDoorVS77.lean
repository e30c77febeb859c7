import Derived.Test.YtlinnkjieghmhaaGreatDoorVS95
set_option maxHeartbeats 4000000
set_option linter.unusedSimpArgs false
set_option linter.unusedVariables false
namespace Go.Proofs.YtlinnkjieghmhaaGreatDoor
open Go Go.Lite Go.Proofs
def C55 (R:(List Int)):LV×List (Nat×BC):=(.own 0,[(0,.arr 1 R.length (rowOf (cInt .i64) R))])
def zdy (x0:Int):(List Int):=loopN (fun i1 (v1:(List Int)) next=>next (v1++[((i1:Nat):Int)])) (fun (v1:(List Int))=>v1) x0.toNat 0 ([]:List Int)
def D55b1 (i1:Nat) (v1:(List Int)):Dl:=⟨[(6,.int .i64 ((i1:Nat):Int)),(3,.own 20003)],[(20003,.arr 1 v1.length (rowOf (cInt .i64) v1))]⟩
def A55b1 (x0:Int) (i1:Nat) (v1:(List Int)):Ann:=let q1:=((i1:Nat):Int);r0 1 [2,3,5,6,7] [20003] (cn (decide (q1<x0)) (r0 1 [2,3,4,5,6] [20003] (.reg 1 [] [(2,bsC 11 (cInt .i64) ([q1]:List Int)),(3,ap1 12 (cInt .i64) 8 v1 q1)] [2,3,5,6] [12] [] [] [] [0,4] (r1 1 [2,3,5,6] [12] [pf (inR .i64 (q1+1))] [0] (.next 0 [(20003,some 12)] (D55b1 (i1+1) (v1++[q1])))))) (r0 1 [2] [20003] (rt [(0,some 20003)] (C55 v1))))
def A55 (x0:Int):Ann:=r0 2 [0,2,3] [] (r0 1 [2,3,5,6] [] (lp (D55b1) [] [] [(20003,none)] (D55b1 0 ([]:List Int)) (A55b1 x0)))
theorem zna (x0:Int) (h:0≤x0∧x0≤1000):FnT Tryz.prog 55 [.int .i64 x0] (C55 (zdy x0)):=by
 have aux:∀ R,zdy x0=R→slim (C55 R) (A55 x0) []:=by
  intro R hR
  refine rg trivial ?_
  refine rg trivial ?_
  revert hR;refine lN (fun i v=>v.length=i) (by (exact rfl)) rfl fun i1 v1 F1 hn1 hI1 hR hK1=>?_
  refine rg trivial ?_
  refine ⟨fun hc1=>?_,fun hc1=>?_⟩
  ·have hii1:i1<x0.toNat:=by have:=of_decide_eq_true hc1;omega
   replace hR:=zbq hR hii1
   refine rg trivial ?_
   refine rg ⟨trivial,om,trivial⟩ ?_
   refine rg ⟨by ( intros;simp only [inR];omega),trivial⟩ ?_
   exact hK1 (v1++[((i1:Nat):Int)]) hii1 zat hR
  ·obtain rfl:i1=x0.toNat:=by have:=of_decide_eq_false hc1;omega
   replace hR:=zbu hR (Nat.lt_irrefl _)
   refine rg trivial ?_
   exact congrArg C55 hR
 exact Fn.go 15 Tryz.func55 (by kernel_rfl) (by kernel_rfl) (by simp [C55,Frs,FrsL,FrsB,rowOf,cInt,cBool,cStr,cSl,zdm,zbg,zbi,zcf,zbt,zft]) (A55 x0) (by kernel_rfl) (aux _ rfl)
def k55 (x0:Int):Cl:=(hres (C55 (zdy x0)),k1 (zna x0))
def C57 (R:yc):LV×List (Nat×BC):=(.agg [.own 0,.own 1],[(0,.arr 6 R.people.length (rowOf (zbg true) R.people)),(1,.arr 4 R.unions.length (rowOf (zbi true) R.unions))])
def zdc (x0:yc) (x1:List Int):yc:=loopN (fun i1 (v1:(List Int)) next=>next (v1.set ((x1.getD i1 default).toNat) ((i1:Nat):Int))) (fun (v1:(List Int))=>loopN (fun i2 (v2:(List ya)) next=>jn (fun K1=>bif (decide (0≤((x0.people.getD ((x1.getD i2 default).toNat) default).father))) then (K1 (v1.getD (((x0.people.getD ((x1.getD i2 default).toNat) default).father).toNat) default)) else (K1 ((x0.people.getD ((x1.getD i2 default).toNat) default).father))) (fun (j1:Int)=>bif (decide (0≤((x0.people.getD ((x1.getD i2 default).toNat) default).mother))) then (next (v2++[(ya.mk ((x0.people.getD ((x1.getD i2 default).toNat) default).name) ((x0.people.getD ((x1.getD i2 default).toNat) default).sex) j1 (v1.getD (((x0.people.getD ((x1.getD i2 default).toNat) default).mother).toNat) default) ((x0.people.getD ((x1.getD i2 default).toNat) default).born) ((x0.people.getD ((x1.getD i2 default).toNat) default).died))])) else (next (v2++[(ya.mk ((x0.people.getD ((x1.getD i2 default).toNat) default).name) ((x0.people.getD ((x1.getD i2 default).toNat) default).sex) j1 ((x0.people.getD ((x1.getD i2 default).toNat) default).mother) ((x0.people.getD ((x1.getD i2 default).toNat) default).born) ((x0.people.getD ((x1.getD i2 default).toNat) default).died))])))) (fun (v2:(List ya))=>loopN (fun i3 (v3:(List yb)) next=>next (v3++[(yb.mk (v1.getD (((x0.unions.getD i3 default).man).toNat) default) (v1.getD (((x0.unions.getD i3 default).woman).toNat) default) ((x0.unions.getD i3 default).from0) ((x0.unions.getD i3 default).to))])) (fun (v3:(List yb))=>(yc.mk v2 v3)) x0.unions.length 0 ([]:List yb)) x1.length 0 ([]:List ya)) x1.length 0 (List.replicate x1.length (default:Int))
def D57b1 (x1:List Int) (i1:Nat) (v1:(List Int)):Dl:=⟨[(19,.int .i64 ((i1:Nat):Int)),(5,.own 20005)],[(20005,.arr 1 x1.length (rowOf (cInt .i64) v1))]⟩
def D57b2 (i2:Nat) (v2:(List ya)):Dl:=⟨[(31,.int .i64 ((i2:Nat):Int))],[(30800,.arr 6 v2.length (rowOf (zbg true) v2)),(8,.var [.own 30800,.nilS])]⟩
def D57j1 (x0:yc) (x1:List Int) (i2:Nat) (j1:Int):Dl:=let q1:=x0.people.getD ((x1.getD i2 default).toNat) default;⟨[],[(11,.var [.str (q1.name),.int .i64 (q1.sex),.int .i64 j1,.int .i64 (q1.mother),.int .i64 (q1.born),.int .i64 (q1.died)])]⟩
def A57j1 (x0:yc) (x1:List Int) (v1:(List Int)) (i2:Nat) (v2:(List ya)) (j1:Int):Ann:=let q4:=(inR .i64 (((i2:Nat):Int)+1));let q1:=x0.people.getD ((x1.getD i2 default).toNat) default;let q3:=ya.mk (q1.name) (q1.sex) j1 (q1.mother) (q1.born) (q1.died);let q2:=ya.mk (q1.name) (q1.sex) j1 (v1.getD ((q1.mother).toNat) default) (q1.born) (q1.died);r0 1 [2,4,5,8,11,29,30,31,51] [2,4,8,11,20005,30800] (cn (decide (0≤(q1.mother))) (r1 1 [2,4,5,8,11,29,30,31] [2,4,8,11,20005,30800] [pf (0≤(q1.mother:Int)∧(q1.mother:Int)<((x1.length:Nat):Int))] [0] (.reg 1 [] [(3,bsC 61 (zbg true) ([q2]:List ya)),(4,ap1 62 (zbg true) 56 v2 q2)] [2,4,5,8,29,30,31] [2,4,8,62,20005] [] [] [] [0,4] (r1 1 [2,4,5,8,29,30,31] [2,4,8,62,20005] [pf q4] [0] (.next 0 [(30800,some 62)] (D57b2 (i2+1) (v2++[q2])))))) (.reg 1 [] [(3,bsC 61 (zbg true) ([q3]:List ya)),(4,ap1 62 (zbg true) 56 v2 q3)] [2,4,5,8,29,30,31] [2,4,8,62,20005] [] [] [] [0,4] (r1 1 [2,4,5,8,29,30,31] [2,4,8,62,20005] [pf q4] [0] (.next 0 [(30800,some 62)] (D57b2 (i2+1) (v2++[q3]))))))
def D57b3 (i3:Nat) (v3:(List yb)):Dl:=⟨[(68,.int .i64 ((i3:Nat):Int))],[(30801,.arr 4 v3.length (rowOf (zbi true) v3)),(8,.var [.own 30800,.own 30801])]⟩
def A57b3 (x0:yc) (x1:List Int) (v1:(List Int)) (v2:(List ya)) (i3:Nat) (v3:(List yb)):Ann:=let q3:=((i3:Nat):Int);let q5:=((x1.length:Nat):Int);let q2:=x0.unions.getD i3 default;let q4:=((x0.unions.length:Nat):Int);let q1:=yb.mk (v1.getD ((q2.man).toNat) default) (v1.getD ((q2.woman).toNat) default) (q2.from0) (q2.to);r0 1 [4,5,8,66,67,68,69] [4,8,20005,30800,30801] (cn (decide (q3<q4)) (r1 2 [4,5,8,13,66,67,68] [4,8,13,20005,30800,30801] [pf (0≤(q3:Int)∧(q3:Int)<q4),pf (0≤(q2.man:Int)∧(q2.man:Int)<q5),pf (0≤(q2.woman:Int)∧(q2.woman:Int)<q5)] [0,4,8] (.reg 1 [] [(3,bsC 87 (zbi true) ([q1]:List yb)),(4,ap1 88 (zbi true) 32 v3 q1)] [4,5,8,66,67,68] [4,8,88,20005,30800] [] [] [] [0,4] (r1 1 [4,5,8,66,67,68] [4,8,88,20005,30800] [pf (inR .i64 (q3+1))] [0] (.next 0 [(30801,some 88)] (D57b3 (i3+1) (v3++[q1])))))) (r0 1 [4] [4,30800,30801] (rt [(0,some 30800),(1,some 30801)] (C57 (yc.mk v2 v3)))))
def A57b2 (x0:yc) (x1:List Int) (v1:(List Int)) (i2:Nat) (v2:(List ya)):Ann:=let q3:=((i2:Nat):Int);let q2:=((x1.length:Nat):Int);let q4:=((x1.getD i2 default):Int);let q1:=x0.people.getD ((x1.getD i2 default).toNat) default;r0 1 [2,4,5,8,29,30,31,32] [2,4,8,20005,30800] (cn (decide (q3<q2)) (r1 2 [2,4,5,8,11,29,30,31] [2,4,8,11,20005,30800] [pf (0≤(q3:Int)∧(q3:Int)<q2),pf (0≤q4∧q4<((x0.people.length:Nat):Int))] [0,4] (.join 0 Int (D57j1 x0 x1 i2) [2,4,5,8,11,29,30,31] [2,4,20005,8,30800,11] (r0 1 [2,4,5,8,11,29,30,31,42] [2,4,8,11,20005,30800] (cn (decide (0≤(q1.father))) (r1 1 [2,4,5,8,11,29,30,31] [2,4,8,11,20005,30800] [pf (0≤(q1.father:Int)∧(q1.father:Int)<q2)] [0] (.next 0 [] (D57j1 x0 x1 i2 (v1.getD ((q1.father).toNat) default)))) (.next 0 [] (D57j1 x0 x1 i2 (q1.father))))) (A57j1 x0 x1 v1 i2 v2))) (r0 1 [4,5,8,66,67,68] [4,8,20005,30800] (lp (D57b3) [] [] [(30801,none)] (D57b3 0 ([]:List yb)) (A57b3 x0 x1 v1 v2))))
def A57b1 (x0:yc) (x1:List Int) (i1:Nat) (v1:(List Int)):Ann:=let q1:=((i1:Nat):Int);let q2:=x1.getD i1 default;let q3:=((x1.length:Nat):Int);r0 1 [1,2,4,5,17,18,19,20] [2,4,20005] (cn (decide (q1<q3)) (r1 1 [1,2,4,5,6,7,17,18,19] [2,4,20005] [pf (0≤(q1:Int)∧(q1:Int)<q3)] [0] (.reg 1 [] [(4,stC 20005 (cInt .i64) x1.length v1 (q2.toNat) q1)] [1,2,4,5,17,18,19] [2,4,20005] [] [pf (0≤(q2:Int)∧(q2:Int)<q3)] [] [0,4] (r1 1 [1,2,4,5,17,18,19] [2,4,20005] [pf (inR .i64 (q1+1))] [0] (.next 0 [(20005,some 20005)] (D57b1 x1 (i1+1) (v1.set (q2.toNat) q1)))))) (r0 1 [1,2,4,5,8] [2,4,8,20005] (r0 1 [2,4,5,8,29,30,31] [2,4,8,20005] (lp (D57b2) [] [] [(30800,none)] (D57b2 0 ([]:List ya)) (A57b2 x0 x1 v1)))))
def A57 (x0:yc) (x1:List Int):Ann:=let q1:=((x1.length:Nat):Int);.reg 2 [] [(1002,msC 16 (cInt .i64) 8 q1 q1 x1.length (default:Int) (rfl))] [1,2,4,5] [2,4,16] [] [] [] [0] (r0 1 [1,2,4,5,17,18,19] [2,4,16] (lp (D57b1 x1) [] [16] [(20005,some 16)] (D57b1 x1 0 (List.replicate x1.length (default:Int))) (A57b1 x0 x1)))
theorem zou (x0:yc) (x1:List Int) (hx:x0.people.length≤1048576) (hu:x0.unions.length≤1048576) (hn:∀ p∈x0.people,p.name.length≤1048576) (hf:za9 x0=true) (ho:x1.length=x0.people.length) (hr:∀ i:Nat,i<x1.length→0≤x1.getD i default∧x1.getD i default<x0.people.length):FnT Tryz.prog 57 [.agg (zcf false x0),.ro false 1 x1.length (rowOf (cInt .i64) x1)] (C57 (zdc x0 x1)):=by
 have aux:∀ R,zdc x0 x1=R→slim (C57 R) (A57 x0 x1) []:=by
  intro R hR
  refine rg ⟨by (intros;omega),trivial⟩ ?_
  refine rg trivial ?_
  revert hR;refine lN (fun i v=>v.length=x1.length) (by (exact List.length_replicate)) rfl fun i1 v1 F1 hn1 hI1 hR hK1=>?_
  refine rg trivial ?_
  refine ⟨fun hc1=>?_,fun hc1=>?_⟩
  ·have hii1:i1<x1.length:=by have:=of_decide_eq_true hc1;omega
   replace hR:=zbq hR hii1
   refine rg ⟨by (intros;omega),trivial⟩ ?_
   refine rg ⟨by (have h7:=hr i1 om;omega),by (have h7:=hr i1 om;omega),trivial⟩ ?_
   refine rg ⟨by ( intros;simp only [inR];omega),trivial⟩ ?_
   exact hK1 (v1.set ((x1.getD i1 default).toNat) ((i1:Nat):Int)) hii1 (by (simp only [List.length_set];omega)) hR
  ·obtain rfl:i1=x1.length:=by have:=of_decide_eq_false hc1;omega
   replace hR:=zbu hR (Nat.lt_irrefl _)
   refine rg trivial ?_
   refine rg trivial ?_
   revert hR;refine lN (fun i v=>v.length≤i) (by (exact Nat.le_refl _)) rfl fun i2 v2 F2 hn2 hI2 hR hK2=>?_
   refine rg trivial ?_
   refine ⟨fun hc2=>?_,fun hc2=>?_⟩
   ·have hii2:i2<x1.length:=by have:=of_decide_eq_true hc2;omega
    replace hR:=zbq hR hii2
    refine rg ⟨by (intros;omega),by (have h8:=fam_n hf;have h7:=hr i2 om;have h6:=fam_p hf (k:=(x1.getD i2 default).toNat) om;have h5:=h6.fa;have h4:=h6.mo;omega),trivial⟩ ?_
    revert hR;refine jN (fun v=>True) (fun F101 hR hJ101=>?_) (fun j1 hR hJ1=>?_)
    ·
      refine rg trivial ?_
      revert hR;refine cd (fun hc3 hR=>?_) fun hc3 hR=>?_
      ·
        refine rg ⟨by (have h8:=fam_n hf;have h7:=hr i2 om;have h6:=fam_p hf (k:=(x1.getD i2 default).toNat) om;have h5:=h6.fa;have h4:=h6.mo;have h3:=of_decide_eq_true hc3;omega),trivial⟩ ?_
        exact hJ101 _ hR za3
      ·
        exact hJ101 _ hR za3
    ·
      refine rg trivial ?_
      revert hR;refine cd (fun hc4 hR=>?_) fun hc4 hR=>?_
      ·
        refine rg ⟨by (have h8:=fam_n hf;have h7:=hr i2 om;have h6:=fam_p hf (k:=(x1.getD i2 default).toNat) om;have h5:=h6.fa;have h4:=h6.mo;have h3:=of_decide_eq_true hc4;omega),trivial⟩ ?_
        refine rg ⟨trivial,om,trivial⟩ ?_
        refine rg ⟨by ( intros;simp only [inR];omega),trivial⟩ ?_
        exact hK2 (v2++[(ya.mk ((x0.people.getD ((x1.getD i2 default).toNat) default).name) ((x0.people.getD ((x1.getD i2 default).toNat) default).sex) j1 (v1.getD (((x0.people.getD ((x1.getD i2 default).toNat) default).mother).toNat) default) ((x0.people.getD ((x1.getD i2 default).toNat) default).born) ((x0.people.getD ((x1.getD i2 default).toNat) default).died))]) hii2 zat hR
      ·
        refine rg ⟨trivial,om,trivial⟩ ?_
        refine rg ⟨by ( intros;simp only [inR];omega),trivial⟩ ?_
        exact hK2 (v2++[(ya.mk ((x0.people.getD ((x1.getD i2 default).toNat) default).name) ((x0.people.getD ((x1.getD i2 default).toNat) default).sex) j1 ((x0.people.getD ((x1.getD i2 default).toNat) default).mother) ((x0.people.getD ((x1.getD i2 default).toNat) default).born) ((x0.people.getD ((x1.getD i2 default).toNat) default).died))]) hii2 zat hR
   ·obtain rfl:i2=x1.length:=by have:=of_decide_eq_false hc2;omega
    replace hR:=zbu hR (Nat.lt_irrefl _)
    refine rg trivial ?_
    revert hR;refine lN (fun i v=>v.length≤i) (by (exact Nat.le_refl _)) rfl fun i3 v3 F3 hn3 hI3 hR hK3=>?_
    refine rg trivial ?_
    refine ⟨fun hc5=>?_,fun hc5=>?_⟩
    ·have hii3:i3<x0.unions.length:=by have:=of_decide_eq_true hc5;omega
     replace hR:=zbq hR hii3
     refine rg ⟨by (intros;omega),by (have h8:=fam_n hf;have h7:=fam_u hf hii3;have h6:=h7.man;have h5:=h7.woman;omega),by (have h8:=fam_n hf;have h7:=fam_u hf hii3;have h6:=h7.man;have h5:=h7.woman;omega),trivial⟩ ?_
     refine rg ⟨trivial,om,trivial⟩ ?_
     refine rg ⟨by ( intros;simp only [inR];omega),trivial⟩ ?_
     exact hK3 (v3++[(yb.mk (v1.getD (((x0.unions.getD i3 default).man).toNat) default) (v1.getD (((x0.unions.getD i3 default).woman).toNat) default) ((x0.unions.getD i3 default).from0) ((x0.unions.getD i3 default).to))]) hii3 zat hR
    ·obtain rfl:i3=x0.unions.length:=by have:=of_decide_eq_false hc5;omega
     replace hR:=zbu hR (Nat.lt_irrefl _)
     refine rg trivial ?_
     exact congrArg C57 hR
 exact Fn.go 92 Tryz.func57 (by kernel_rfl) (by kernel_rfl) (by simp [C57,Frs,FrsL,FrsB,rowOf,cInt,cBool,cStr,cSl,zdm,zbg,zbi,zcf,zbt,zft]) (A57 x0 x1) (by kernel_rfl) (aux _ rfl)
def k57 (x0:yc) (x1:List Int):Cl:=(hres (C57 (zdc x0 x1)),Go.Lite.k6 (zou x0 x1))
theorem zte : ∀ {l m : List Int}, l.Pairwise (fun a b => a < b) → m.Pairwise (fun a b => a < b) → l.Perm m → l = m
  | [],m,_,_,hp=>(List.Perm.nil_eq hp)
  | a :: l,[],_,_,hp=>absurd hp.length_eq zas
  | a :: l,b :: m,hl,hm,hp=>by
    obtain ⟨hl1,hl2⟩:=List.pairwise_cons.1 hl
    obtain ⟨hm1,hm2⟩:=List.pairwise_cons.1 hm
    have h1:a∈b :: m:=hp.mem_iff.1 List.mem_cons_self
    have h2:b∈a :: l:=hp.mem_iff.2 List.mem_cons_self
    have hab:a=b:=by
      rcases List.mem_cons.1 h1 with e | e
      · exact e
      · rcases List.mem_cons.1 h2 with e2 | e2
        · exact e2.symm
        · have:=hm1 a e;have:=hl1 b e2;omega
    subst hab
    rw [zte hl2 hm2 (List.Perm.cons_inv hp)]
theorem zuf (n:Nat):(upto n).Pairwise (fun a b=>a<b):=by
 unfold upto
 rw [List.pairwise_map]
 exact List.pairwise_lt_range.imp fun h=>by omega
theorem zkj {n k:Nat} (hk:k<n):(upto n).getD k default=((k:Nat):Int):=by
 unfold upto
 rw [List.getD_eq_getElem?_getD,List.getElem?_map,List.getElem?_range hk];rfl
theorem zki {α:Type} [Inhabited α] (l:List α):(upto l.length).map (fun k=>l.getD k.toNat default)=l:=by
 refine ext_g (by rw [List.length_map,zee]) fun k hk=>?_
 rw [List.length_map,zee] at hk
 rw [zdw (fun k:Int=>l.getD k.toNat default) (by rw [zee];exact hk),zkj hk,Int.toNat_natCast]
def byKey {α:Type} (f:α→Int) (u v:α):Bool:=decide (f u<f v)
theorem zt6 {α:Type} (f:α→Int):SWO (byKey f) :=
 ⟨fun x=>decide_eq_false om,fun x y h=>decide_eq_false (by have:=of_decide_eq_true h;omega),fun x y z h1 h2=>decide_eq_false (by have:=of_decide_eq_false h1;have:=of_decide_eq_false h2;omega)⟩
theorem zv0 {α:Type} [Inhabited α] (f:α→Int) (l:List α):SrtL (byKey f) ((zb7 (l.map f)).map fun k=>l.getD k.toNat default)∧StEq (byKey f) l ((zb7 (l.map f)).map fun k=>l.getD k.toNat default):=by
 have ho:=zhe (l.map f)
 have hp:=zgc f l
 have hk:∀ a:Int,a∈zb7 (l.map f)→(l.map f).getD a.toNat default=f (l.getD a.toNat default):=fun a ha=>zdw f (by have:=mem_upto.1 (hp.mem_iff.1 ha);omega)
 refine ⟨?_,fun z=>?_⟩
 ·unfold SrtL
  rw [List.pairwise_map]
  refine ho.pw.imp_of_mem fun {a b} ha hb h=>?_
  unfold kLt at h
  rw [hk a ha,hk b hb] at h
  exact decide_eq_false om
 ·have e:l.filter (eqc (byKey f) z)=((upto l.length).map fun k=>l.getD k.toNat default).filter (eqc (byKey f) z):=by rw [zki]
  rw [e,List.filter_map,List.filter_map]
  congr 1
  refine zte ?_ ((zuf _).filter _) (hp.filter _)
  refine List.Pairwise.imp_of_mem (R:=kLt (l.map f)) (fun {a b} ha hb h=>?_) (ho.pw.filter _)
  obtain ⟨ha1,ha2⟩:=List.mem_filter.1 ha
  obtain ⟨hb1,hb2⟩:=List.mem_filter.1 hb
  unfold kLt at h
  rw [hk a ha1,hk b hb1] at h
  simp only [Function.comp,eqc,byKey,Bool.and_eq_true,Bool.not_eq_true',decide_eq_false_iff_not] at ha2 hb2
  omega
theorem zlt {α:Type} [Inhabited α] (f:α→Int) {l m:List α} (h1:SrtL (byKey f) m) (h2:StEq (byKey f) l m):m=(zb7 (l.map f)).map fun k=>l.getD k.toNat default:=by
 obtain ⟨g1,g2⟩:=zv0 f l
 exact zst (zt6 f) h1 g1 fun x=>(g2 x).trans (h2 x).symm
theorem zwi {α:Type} [Inhabited α] (f:α→Int) {l:List α} (h:l.length≤255):gStb (byKey f) l l.length=(zb7 (l.map f)).map fun k=>l.getD k.toNat default:=by
 obtain ⟨g1,g2⟩:=zwj (zt6 f) h
 exact zlt f g1 g2
theorem zj3 {α:Type} [Inhabited α] (f:α→Int) {l:List α} (h:l.length≤1):l=(zb7 (l.map f)).map fun k=>l.getD k.toNat default:=by
 refine zlt f ?_ (.refl _ l)
 match l,h with
 | [],_=>exact .nil
 | [a],_=>exact List.pairwise_singleton _ _
 | _ :: _ :: _,h=>simp at h
theorem zjd (n:Nat):zdy ((n:Nat):Int)=upto n:=by
 unfold zdy
 rw [Int.toNat_natCast]
 refine zbx (fun i (v:List Int)=>v=upto i) (fun v=>v=upto n) (by simp [upto]) (fun i v next hi hv hn=>hn _ ?_) (fun v hv=>hv)
 rw [hv,zsr]
theorem zoi {x:yc} (hx:za9 x=true) {o:List Int} (ho:o.Perm (upto x.people.length)):zdc x o=zbo x o:=by
 have h:=zzg ho
 have hlen:=h.len
 have hnd:=List.nodup_iff_pairwise_ne.1 (ho.nodup_iff.2 (zls _))
 unfold zdc
 refine zbx (fun i (v:List Int)=>v.length=x.people.length∧∀ k:Nat,k<i→v.getD (o.getD k default).toNat default=((k:Nat):Int)) (fun r=>r=zbo x o) ⟨by rw [List.length_replicate,hlen],fun k hk=>absurd hk (Nat.not_lt_zero _)⟩ (fun i v next hi hv hn=>hn _ ⟨by rw [List.length_set];exact hv.1,fun k hk=>?_⟩) (fun v hv=>?_)
 ·have hri:=h.rng i hi
  rw [zco]
  by_cases c:k=i
  ·subst c;rw [if_pos ⟨rfl,by rw [hv.1];omega⟩]
  ·have hrk:=h.rng k om
   rw [if_neg (fun g=>zkd hnd i hi k om om)]
   exact hv.2 k om
 ·have hpos:∀ q:Int,0≤q→q<x.people.length→v.getD q.toNat default=(zby o ((x.people.length:Nat):Int)).1.getD q.toNat default:=fun q h0 h1=>by
   obtain ⟨g1,g2⟩:=h.pos q h0 h1
   have:=hv.2 ((zby o ((x.people.length:Nat):Int)).1.getD q.toNat default).toNat om
   rw [g2] at this
   omega
  refine zbx (fun i (w:List ya)=>w=(o.take i).map fun i=>zcz (zby o ((x.people.length:Nat):Int)).1 (x.people.getD i.toNat default)) (fun r=>r=zbo x o) rfl (fun i w next hi hw hn=>?_) (fun w hw=>?_)
  ·have hri:=h.rng i hi
   have p:=fam_p hx (k:=(o.getD i default).toNat) om
   have fa:=p.fa
   have mo:=p.mo
   rw [zr0]
   have key:∀ q:ya,q=zcz (zby o ((x.people.length:Nat):Int)).1 (x.people.getD (o.getD i default).toNat default)→w++[q]=(o.take (i+1)).map fun i=>zcz (zby o ((x.people.length:Nat):Int)).1 (x.people.getD i.toNat default):=by
    intro q hq
    rw [ze1 o default hi,List.map_append,← hw,hq];rfl
   have ef:(bif decide (0≤(x.people.getD (o.getD i default).toNat default).father) then v.getD (x.people.getD (o.getD i default).toNat default).father.toNat default else (x.people.getD (o.getD i default).toNat default).father)=(zcz (zby o ((x.people.length:Nat):Int)).1 (x.people.getD (o.getD i default).toNat default)).father:=by
    unfold zcz
    dsimp only
    cases c:decide (0≤(x.people.getD (o.getD i default).toNat default).father)
    ·rfl
    ·have c:=of_decide_eq_true c
     simp only [cond_true]
     exact hpos _ c om
   rw [ef]
   cases c:decide (0≤(x.people.getD (o.getD i default).toNat default).mother)<;>simp only [cond_true,cond_false]
   ·exact hn _ (key _ (by unfold zcz;rw [c];rfl))
   ·refine hn _ (key _ ?_)
    rw [hpos _ (of_decide_eq_true c) (by have:=of_decide_eq_true c;omega)]
    unfold zcz;rw [c];rfl
  ·refine zbx (fun i (u:List yb)=>u=(x.unions.take i).map (zj1 (zby o ((x.people.length:Nat):Int)).1)) (fun r=>r=zbo x o) rfl (fun i u next hi hu hn=>hn _ ?_) (fun u hu=>?_)
   ·have f:=fam_u hx hi
    have hm:=f.man
    have hwm:=f.woman
    rw [ze1 x.unions default hi,List.map_append,← hu,hpos _ hm.1 hm.2,hpos _ hwm.1 hwm.2];rfl
   ·rw [List.take_length] at hw hu
    rw [hw,hu];rfl
theorem zz9 (n:Nat):(zdy ((n:Nat):Int)).length=n:=by rw [zjd,zee]
theorem z2u (x:yc):(upto x.people.length).map (fun u=>(x.people.getD u.toNat default).born)=x.people.map fun p=>p.born:=by
 have e:=congrArg (List.map fun p:ya=>p.born) (zki x.people)
 rw [List.map_map] at e
 exact e
theorem zt8 (x:yc):(zb7 ((upto x.people.length).map fun u=>(x.people.getD u.toNat default).born)).map (fun k=>(upto x.people.length).getD k.toNat default)=zb9 x:=by
 rw [z2u]
 have h:=zdr x
 refine ext_g (by rw [List.length_map];rfl) fun k hk=>?_
 rw [List.length_map] at hk
 rw [zdw (fun k:Int=>(upto x.people.length).getD k.toNat default) hk]
 have hr:=h.rng k hk
 have e:(zb7 (x.people.map fun p=>p.born)).getD k default=(zb9 x).getD k default:=rfl
 rw [e,zkj om]
 omega
theorem zqh {x:yc} (hx:za9 x=true):zf9 (yf.mk x (zdy ((x.people.length:Nat):Int))) ()=zb9 x:=by
 rw [zy2,zjd]
 have h:=zwi (fun u:Int=>(x.people.getD u.toNat default).born) (l:=upto x.people.length) (by rw [zee];have:=fam_n hx;omega)
 rw [zt8] at h
 exact h
theorem zqg {x:yc} (h:decide (2≤(zdy ((x.people.length:Nat):Int)).length)=false):zf8 (yg.mk x (zdy ((x.people.length:Nat):Int))) ()=zb9 x:=by
 have hl:=of_decide_eq_false h
 rw [zz9] at hl
 rw [zy1,zjd]
 have h:=zj3 (fun u:Int=>(x.people.getD u.toNat default).born) (l:=upto x.people.length) (by rw [zee];omega)
 rw [zt8] at h
 exact h
theorem id_lk (x:yc):LkP (yf.mk x (zdy ((x.people.length:Nat):Int))) (yf.mk x (zdy ((x.people.length:Nat):Int))).l:=by
 refine ⟨fun c hc=>?_,rfl⟩
 rw [zjd] at hc
 exact mem_upto.1 hc
theorem zzk {x:yc} (hx:za9 x=true):(zdc x (zb9 x)).unions.length≤255:=by
 have e:zdc x (zb9 x)=zbo x (zb9 x):=zoi hx (zgc (fun p:ya=>p.born) x.people)
 rw [e]
 have:=fam_n hx
 simp only [zbo,List.length_map];omega
theorem z26 {R:yc} (h:R.unions.length≤255):zkq (yh.mk R.people R.unions) ()=(zhv R).map fun k=>R.unions.getD k.toNat default:=by
 rw [zy0]
 exact zwi (fun u:yb=>u.from0) h
theorem z25 {R:yc} (h:decide (2≤R.unions.length)=false):zkp (yi.mk R.people R.unions) ()=(zhv R).map fun k=>R.unions.getD k.toNat default:=by
 rw [zyz]
 exact zj3 (fun u:yb=>u.from0) (l:=R.unions) (by have:=of_decide_eq_false h;omega)
def C28 (R:yc):LV×List (Nat×BC):=(.agg [.own 0,.own 1],[(0,.arr 6 R.people.length (rowOf (zbg true) R.people)),(1,.arr 4 R.unions.length (rowOf (zbi true) R.unions))])
def zb8 (x0:yc):yc:=bif (decide (2≤(zdy ((x0.people.length:Nat):Int)).length)) then (bif (decide (2≤((zdc x0 (zf9 (yf.mk x0 (zdy ((x0.people.length:Nat):Int))) ())).unions).length)) then (yc.mk ((zdc x0 (zf9 (yf.mk x0 (zdy ((x0.people.length:Nat):Int))) ())).people) (zkq (yh.mk ((zdc x0 (zf9 (yf.mk x0 (zdy ((x0.people.length:Nat):Int))) ())).people) ((zdc x0 (zf9 (yf.mk x0 (zdy ((x0.people.length:Nat):Int))) ())).unions)) ())) else (yc.mk ((zdc x0 (zf9 (yf.mk x0 (zdy ((x0.people.length:Nat):Int))) ())).people) (zkp (yi.mk ((zdc x0 (zf9 (yf.mk x0 (zdy ((x0.people.length:Nat):Int))) ())).people) ((zdc x0 (zf9 (yf.mk x0 (zdy ((x0.people.length:Nat):Int))) ())).unions)) ()))) else (bif (decide (2≤((zdc x0 (zf8 (yg.mk x0 (zdy ((x0.people.length:Nat):Int))) ())).unions).length)) then (yc.mk ((zdc x0 (zf8 (yg.mk x0 (zdy ((x0.people.length:Nat):Int))) ())).people) (zkq (yh.mk ((zdc x0 (zf8 (yg.mk x0 (zdy ((x0.people.length:Nat):Int))) ())).people) ((zdc x0 (zf8 (yg.mk x0 (zdy ((x0.people.length:Nat):Int))) ())).unions)) ())) else (yc.mk ((zdc x0 (zf8 (yg.mk x0 (zdy ((x0.people.length:Nat):Int))) ())).people) (zkp (yi.mk ((zdc x0 (zf8 (yg.mk x0 (zdy ((x0.people.length:Nat):Int))) ())).people) ((zdc x0 (zf8 (yg.mk x0 (zdy ((x0.people.length:Nat):Int))) ())).unions)) ())))
def A28 (x0:yc):Ann:=let q4:=((x0.people.length:Nat):Int);let q1:=zdy q4;let q7:=yf.mk x0 q1;let q8:=yg.mk x0 q1;let q2:=zdc x0 (zf9 q7 ());let q3:=zdc x0 (zf8 q8 ());let q5:=q2.people;let q6:=q3.people;let q9:=q2.unions;let q10:=q3.unions;.split (decide (2≤q1.length)) (.split (decide (2≤q9.length)) (.reg 6 [] [(1003,k55 q4),(2003,k51P 12 [1008,1,3] q7 ()),(3002,k57 x0 (zf9 q7 ())),(4004,k51U 20 [2015,4,1015] (yh.mk q5 q9) ())] [2] [2,1015,2015] [] [] [] [0,4,8,12] (rt [(0,some 1015),(1,some 2015)] (C28 (yc.mk q5 (zkq (yh.mk q5 q9) ()))))) (.reg 6 [] [(1003,k55 q4),(2003,k51P 12 [1008,1,3] q7 ()),(3002,k57 x0 (zf9 q7 ())),(4004,k51V 20 [2015,4,1015] (yi.mk q5 q9) ())] [2] [2,1015,2015] [] [] [] [0,4,8,12] (rt [(0,some 1015),(1,some 2015)] (C28 (yc.mk q5 (zkp (yi.mk q5 q9) ())))))) (.split (decide (2≤q10.length)) (.reg 6 [] [(1003,k55 q4),(2003,k51Q 12 [1008,1,3] q8 ()),(3002,k57 x0 (zf8 q8 ())),(4004,k51U 20 [2015,4,1015] (yh.mk q6 q10) ())] [2] [2,1015,2015] [] [] [] [0,4,8,12] (rt [(0,some 1015),(1,some 2015)] (C28 (yc.mk q6 (zkq (yh.mk q6 q10) ()))))) (.reg 6 [] [(1003,k55 q4),(2003,k51Q 12 [1008,1,3] q8 ()),(3002,k57 x0 (zf8 q8 ())),(4004,k51V 20 [2015,4,1015] (yi.mk q6 q10) ())] [2] [2,1015,2015] [] [] [] [0,4,8,12] (rt [(0,some 1015),(1,some 2015)] (C28 (yc.mk q6 (zkp (yi.mk q6 q10) ()))))))
theorem zio (x0:yc) (hx:x0.people.length≤1048576) (hu:x0.unions.length≤1048576) (hn:∀ p∈x0.people,p.name.length≤1048576) (hf:za9 x0=true):FnT Tryz.prog 28 [.agg (zcf false x0)] (C28 (zb8 x0)):=by
 have aux:∀ R,zb8 x0=R→slim (C28 R) (A28 x0) []:=by
  intro R hR
  revert hR;refine cd (fun hs1 hR=>?_) fun hs1 hR=>?_
  ·
    revert hR;refine cd (fun hs2 hR=>?_) fun hs2 hR=>?_
    ·
      refine rg ⟨by (have h9:=fam_n hf;omega),⟨by ((dsimp only;rw [zz9];have h9:=fam_n hf;omega)),by (with_reducible exact id_lk x0),by (with_reducible exact of_decide_eq_true za5)⟩,⟨by with_reducible assumption,by with_reducible assumption,by with_reducible assumption,by with_reducible assumption,by (rw [zqh hf];exact (zdr x0).len),by (rw [zqh hf];exact (zdr x0).rng)⟩,⟨by ((dsimp only;rw [zqh hf];exact zzk hf)),by (exact ⟨trivial,rfl⟩),by (with_reducible exact of_decide_eq_true za5)⟩,trivial⟩ ?_
      exact congrArg C28 hR
    ·
      refine rg ⟨by (have h9:=fam_n hf;omega),⟨by ((dsimp only;rw [zz9];have h9:=fam_n hf;omega)),by (with_reducible exact id_lk x0),by (with_reducible exact of_decide_eq_true za5)⟩,⟨by with_reducible assumption,by with_reducible assumption,by with_reducible assumption,by with_reducible assumption,by (rw [zqh hf];exact (zdr x0).len),by (rw [zqh hf];exact (zdr x0).rng)⟩,by ((dsimp only;exact Nat.le_of_lt_succ (Nat.lt_of_not_le (of_decide_eq_false za5)))),trivial⟩ ?_
      exact congrArg C28 hR
  ·
    revert hR;refine cd (fun hs3 hR=>?_) fun hs3 hR=>?_
    ·
      refine rg ⟨by (have h9:=fam_n hf;omega),by ((dsimp only;exact Nat.le_of_lt_succ (Nat.lt_of_not_le (of_decide_eq_false za5)))),⟨by with_reducible assumption,by with_reducible assumption,by with_reducible assumption,by with_reducible assumption,by (rw [zqg za5];exact (zdr x0).len),by (rw [zqg za5];exact (zdr x0).rng)⟩,⟨by ((dsimp only;rw [zqg za5];exact zzk hf)),by (exact ⟨trivial,rfl⟩),by (with_reducible exact of_decide_eq_true za5)⟩,trivial⟩ ?_
      exact congrArg C28 hR
    ·
      refine rg ⟨by (have h9:=fam_n hf;omega),by ((dsimp only;exact Nat.le_of_lt_succ (Nat.lt_of_not_le (of_decide_eq_false za5)))),⟨by with_reducible assumption,by with_reducible assumption,by with_reducible assumption,by with_reducible assumption,by (rw [zqg za5];exact (zdr x0).len),by (rw [zqg za5];exact (zdr x0).rng)⟩,by ((dsimp only;exact Nat.le_of_lt_succ (Nat.lt_of_not_le (of_decide_eq_false za5)))),trivial⟩ ?_
      exact congrArg C28 hR
 exact Fn.go 22 Tryz.func28 (by kernel_rfl) (by kernel_rfl) (by simp [C28,Frs,FrsL,FrsB,rowOf,cInt,cBool,cStr,cSl,zdm,zbg,zbi,zcf,zbt,zft]) (A28 x0) (by kernel_rfl) (aux _ rfl)
def k28 (x0:yc):Cl:=(hres (C28 (zb8 x0)),Go.Lite.k4 (zio x0))
def C11 (R:yc):LV×List (Nat×BC):=(.agg [.own 0,.own 1],[(0,.arr 6 R.people.length (rowOf (zbg true) R.people)),(1,.arr 4 R.unions.length (rowOf (zbi true) R.unions))])
def zct (x0:yc):yc:=bif (!(zcb x0)) then (yc.mk ([]:List ya) ([]:List yb)) else (zb8 x0)
def A11 (x0:yc):Ann:=r0 1 [1,2] [1,2] (.reg 1 [] [(1,k17 x0)] [1,2,5] [1,2] [] [] [] [0] (cn (!(zcb x0)) (r0 1 [1,2] [1,2] (rt [(0,none),(1,none)] (C11 (yc.mk ([]:List ya) ([]:List yb))))) (.reg 1 [] [(1,k28 x0)] [2] [2,1008,2008] [] [] [] [0] (rt [(0,some 1008),(1,some 2008)] (C11 (zb8 x0))))))
theorem zip (x0:yc) (hx:x0.people.length≤1048576) (hu:x0.unions.length≤1048576) (hn:∀ p∈x0.people,p.name.length≤1048576):FnT Tryz.prog 11 [.agg (zcf false x0)] (C11 (zct x0)):=by
 have aux:∀ R,zct x0=R→slim (C11 R) (A11 x0) []:=by
  intro R hR
  refine rg trivial ?_
  refine rg ⟨⟨by with_reducible assumption,by with_reducible assumption,by with_reducible assumption⟩,trivial⟩ ?_
  revert hR;refine cd (fun hc1 hR=>?_) fun hc1 hR=>?_
  ·
    refine rg trivial ?_
    exact congrArg C11 hR
  ·
    refine rg ⟨⟨by with_reducible assumption,by with_reducible assumption,by with_reducible assumption,by (rw [← zdk];simpa using hc1)⟩,trivial⟩ ?_
    exact congrArg C11 hR
 exact Fn.go 9 Tryz.func11 (by kernel_rfl) (by kernel_rfl) (by simp [C11,Frs,FrsL,FrsB,rowOf,cInt,cBool,cStr,cSl,zdm,zbg,zbi,zcf,zbt,zft]) (A11 x0) (by kernel_rfl) (aux _ rfl)
def k11 (x0:yc):Cl:=(hres (C11 (zct x0)),k3 (zip x0))
end Go.Proofs.YtlinnkjieghmhaaGreatDoor
