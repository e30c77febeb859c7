import Derived.Test.YtaageiiodlfeiaaGreatM231
set_option maxHeartbeats 4000000
set_option linter.unusedSimpArgs false
set_option linter.unusedVariables false
namespace Go.Proofs.YtaageiiodlfeiaaGreat
open Go Go.Lite Go.Proofs
def C85 (R:(List UInt8)):LV×List (Nat×BC):=(.str R,[])
def l3Letters :(List UInt8):=[70,77,66,90,83,68,72,87]
def A85 :Ann:=r0 2 [0] [] (rt [] (C85 [70,77,66,90,83,68,72,87]))
theorem zbk:l3Letters.length=8:=rfl
theorem zku :FnT Tryz.prog 85 [] (C85 l3Letters):=by
 have aux:∀ R,l3Letters=R→slim (C85 R) (A85) []:=by
  intro R hR
  refine rg trivial ?_
  exact congrArg C85 hR
 exact Fn.go 1 Tryz.func85 zah zah (by simp [C85,Frs,FrsL]) (A85) zah (aux _ rfl)
def k85 :Cl:=(hres (C85 l3Letters),k0 (zku))
def C89 (R:(List UInt8)):LV×List (Nat×BC):=(.str R,[])
def zgs (x0:Int):(List UInt8):=bif (decide (x0=1)) then [109,58] else (bif (decide (x0=2)) then [119,58] else ([]:List UInt8))
def A89 (x0:Int):Ann:=r0 1 [0,2] [] (r0 1 [2,3] [] (r0 1 [2,3,4] [] (cn (decide (x0=1)) (r0 1 [2] [] (rt [] (C89 [109,58]))) (r0 1 [2,6] [] (cn (decide (x0=2)) (r0 1 [2] [] (rt [] (C89 [119,58]))) (r0 1 [2] [] (rt [] (C89 ([]:List UInt8)))))))))
theorem zlr (s:Int):(zgs s).length≤2:=by
 unfold zgs
 refine zbm (p:=fun (r:List UInt8)=>r.length≤2) (fun _=>by simp) (fun _=>zbm (p:=fun (r:List UInt8)=>r.length≤2) (fun _=>by simp) (fun _=>by simp))
theorem zl1 (x0:Int):FnT Tryz.prog 89 [.int .i64 x0] (C89 (zgs x0)):=by
 have aux:∀ R,zgs x0=R→slim (C89 R) (A89 x0) []:=by
  intro R hR
  refine rg trivial ?_
  refine rg trivial ?_
  refine rg trivial ?_
  revert hR;refine cd (fun hc1 hR=>?_) fun hc1 hR=>?_
  ·
    refine rg trivial ?_
    exact congrArg C89 hR
  ·
    refine rg trivial ?_
    revert hR;refine cd (fun hc2 hR=>?_) fun hc2 hR=>?_
    ·
      refine rg trivial ?_
      exact congrArg C89 hR
    ·
      refine rg trivial ?_
      exact congrArg C89 hR
 exact Fn.go 8 Tryz.func89 zah zah (by simp [C89,Frs,FrsL]) (A89 x0) zah (aux _ rfl)
def k89 (x0:Int):Cl:=(hres (C89 (zgs x0)),k0 (zl1 x0))
def C90 (R:(List UInt8)):LV×List (Nat×BC):=(.str R,[])
def zlq (x0:List Step):(List UInt8):=loopN (fun i1 (v1:(List UInt8)) next=>bif (decide (((x0.getD i1 default).age)=1)) then (bif (decide (((x0.getD i1 default).age)=2)) then (next (((v1++[101])++[121])++(((l3Letters ).drop ((((x0.getD i1 default).kind) - 1).toNat)).take ((((x0.getD i1 default).kind).toNat) - ((((x0.getD i1 default).kind) - 1).toNat))))) else (next ((v1++[101])++(((l3Letters ).drop ((((x0.getD i1 default).kind) - 1).toNat)).take ((((x0.getD i1 default).kind).toNat) - ((((x0.getD i1 default).kind) - 1).toNat)))))) else (bif (decide (((x0.getD i1 default).age)=2)) then (next ((v1++[121])++(((l3Letters ).drop ((((x0.getD i1 default).kind) - 1).toNat)).take ((((x0.getD i1 default).kind).toNat) - ((((x0.getD i1 default).kind) - 1).toNat))))) else (next (v1++(((l3Letters ).drop ((((x0.getD i1 default).kind) - 1).toNat)).take ((((x0.getD i1 default).kind).toNat) - ((((x0.getD i1 default).kind) - 1).toNat))))))) (fun (v1:(List UInt8))=>bif (v1==([]:List UInt8)) then [46] else v1) x0.length 0 ([]:List UInt8)
def D90b1 (x0:List Step) (i1:Nat) (v1:(List UInt8)):Dl:=⟨[(8,.int .i64 ((i1:Nat):Int)),(3,.str v1)],[]⟩
def A90b1 (x0:List Step) (i1:Nat) (v1:(List UInt8)):Ann:=r0 1 [2,3,6,7,8,9] [] (cn (decide (((i1:Nat):Int)<((x0.length:Nat):Int))) (r1 1 [2,3,5,6,7,8] [5] [pf (0≤(((i1:Nat):Int):Int)∧(((i1:Nat):Int):Int)<((x0.length:Nat):Int))] [0] (r0 1 [2,3,5,6,7,8,14] [5] (cn (decide (((x0.getD i1 default).age)=1)) (r1 1 [2,3,5,6,7,8] [5] [pf (((v1.length+[101].length:Nat):Int)≤9223372036854775807)] [0] (r0 1 [2,3,5,6,7,8,19] [5] (cn (decide (((x0.getD i1 default).age)=2)) (r1 1 [2,3,5,6,7,8] [5] [pf ((((v1++[101]).length+[121].length:Nat):Int)≤9223372036854775807)] [0] (.reg 1 [] [(1,k85 )] [2,3,6,7,8] [] [] [pf (inR .i64 (((x0.getD i1 default).kind) - 1)),pf (0≤(((x0.getD i1 default).kind) - 1:Int)∧(((x0.getD i1 default).kind) - 1:Int)≤(x0.getD i1 default).kind∧((x0.getD i1 default).kind:Int)≤(((l3Letters ).length:Nat):Int)),pf (((((v1++[101])++[121]).length+(((l3Letters ).drop ((((x0.getD i1 default).kind) - 1).toNat)).take ((((x0.getD i1 default).kind).toNat) - ((((x0.getD i1 default).kind) - 1).toNat))).length:Nat):Int)≤9223372036854775807)] [] [12,0,4,8] (r1 1 [2,3,6,7,8] [] [pf (inR .i64 (((i1:Nat):Int)+1))] [0] (.next 0 [] (D90b1 x0 (i1+1) (((v1++[101])++[121])++(((l3Letters ).drop ((((x0.getD i1 default).kind) - 1).toNat)).take ((((x0.getD i1 default).kind).toNat) - ((((x0.getD i1 default).kind) - 1).toNat))))))))) (.reg 1 [] [(1,k85 )] [2,3,6,7,8] [] [] [pf (inR .i64 (((x0.getD i1 default).kind) - 1)),pf (0≤(((x0.getD i1 default).kind) - 1:Int)∧(((x0.getD i1 default).kind) - 1:Int)≤(x0.getD i1 default).kind∧((x0.getD i1 default).kind:Int)≤(((l3Letters ).length:Nat):Int)),pf ((((v1++[101]).length+(((l3Letters ).drop ((((x0.getD i1 default).kind) - 1).toNat)).take ((((x0.getD i1 default).kind).toNat) - ((((x0.getD i1 default).kind) - 1).toNat))).length:Nat):Int)≤9223372036854775807)] [] [12,0,4,8] (r1 1 [2,3,6,7,8] [] [pf (inR .i64 (((i1:Nat):Int)+1))] [0] (.next 0 [] (D90b1 x0 (i1+1) ((v1++[101])++(((l3Letters ).drop ((((x0.getD i1 default).kind) - 1).toNat)).take ((((x0.getD i1 default).kind).toNat) - ((((x0.getD i1 default).kind) - 1).toNat))))))))))) (r0 1 [2,3,5,6,7,8,19] [5] (cn (decide (((x0.getD i1 default).age)=2)) (r1 1 [2,3,5,6,7,8] [5] [pf (((v1.length+[121].length:Nat):Int)≤9223372036854775807)] [0] (.reg 1 [] [(1,k85 )] [2,3,6,7,8] [] [] [pf (inR .i64 (((x0.getD i1 default).kind) - 1)),pf (0≤(((x0.getD i1 default).kind) - 1:Int)∧(((x0.getD i1 default).kind) - 1:Int)≤(x0.getD i1 default).kind∧((x0.getD i1 default).kind:Int)≤(((l3Letters ).length:Nat):Int)),pf ((((v1++[121]).length+(((l3Letters ).drop ((((x0.getD i1 default).kind) - 1).toNat)).take ((((x0.getD i1 default).kind).toNat) - ((((x0.getD i1 default).kind) - 1).toNat))).length:Nat):Int)≤9223372036854775807)] [] [12,0,4,8] (r1 1 [2,3,6,7,8] [] [pf (inR .i64 (((i1:Nat):Int)+1))] [0] (.next 0 [] (D90b1 x0 (i1+1) ((v1++[121])++(((l3Letters ).drop ((((x0.getD i1 default).kind) - 1).toNat)).take ((((x0.getD i1 default).kind).toNat) - ((((x0.getD i1 default).kind) - 1).toNat))))))))) (.reg 1 [] [(1,k85 )] [2,3,6,7,8] [] [] [pf (inR .i64 (((x0.getD i1 default).kind) - 1)),pf (0≤(((x0.getD i1 default).kind) - 1:Int)∧(((x0.getD i1 default).kind) - 1:Int)≤(x0.getD i1 default).kind∧((x0.getD i1 default).kind:Int)≤(((l3Letters ).length:Nat):Int)),pf (((v1.length+(((l3Letters ).drop ((((x0.getD i1 default).kind) - 1).toNat)).take ((((x0.getD i1 default).kind).toNat) - ((((x0.getD i1 default).kind) - 1).toNat))).length:Nat):Int)≤9223372036854775807)] [] [12,0,4,8] (r1 1 [2,3,6,7,8] [] [pf (inR .i64 (((i1:Nat):Int)+1))] [0] (.next 0 [] (D90b1 x0 (i1+1) (v1++(((l3Letters ).drop ((((x0.getD i1 default).kind) - 1).toNat)).take ((((x0.getD i1 default).kind).toNat) - ((((x0.getD i1 default).kind) - 1).toNat))))))))))))) (r0 1 [2,3,33] [] (cn (v1==([]:List UInt8)) (r0 1 [2,3] [] (rt [] (C90 [46]))) (r0 1 [2] [] (rt [] (C90 v1))))))
def A90 (x0:List Step):Ann:=r0 2 [0,2,3] [] (r0 1 [2,3,6,7,8] [] (lp (D90b1 x0) [] [] [] (D90b1 x0 0 ([]:List UInt8)) (A90b1 x0)))
theorem zp2 (l:List Step):(zlq l).length≤10 * l.length+1:=by
 unfold zlq
 refine zb3 (fun i (v:List UInt8)=>v.length≤10 * i) (fun (r:List UInt8)=>r.length≤10 * l.length+1) (Nat.zero_le _) (fun i v next hi hv hn=>?_) (fun v hv=>zbm (p:=fun (r:List UInt8)=>r.length≤10 * l.length+1) (fun _=>by simp) (fun _=>by omega))
 have h8:=zbk
 repeat' refine zbm (p:=fun (r:List UInt8)=>r.length≤10 * l.length+1) (fun _=>?_) (fun _=>?_)
 all_goals exact hn _ (by simp only [List.length_append,List.length_cons,List.length_nil,List.length_take,List.length_drop,zbk];omega)
theorem zut {t:KinType} (h:zc6 t=true):t.steps.length≤8:=by
 unfold zc6 at h
 cases c:(!(l1In t.ego 0 2))||(decide (8<((t.steps.length:Nat):Int))) with
 | true=>rw [c] at h;cases h
 | false=>simp only [zbd,decide_eq_false_iff_not] at c;omega
theorem zv0 {l:List Step} (h:∀ k:Nat,k<l.length→(1≤(l.getD k default).kind∧(l.getD k default).kind≤8)∧0≤(l.getD k default).age∧(l.getD k default).age≤2):∀ s∈l,1≤s.kind∧s.kind≤8:=fun s hs=>by
 obtain ⟨k,hk,e⟩:=zdk (d:=default) hs
 rw [← e];exact (h k hk).1
theorem zou (x0:List Step) (hx:x0.length≤1000) (hs:∀ s∈x0,1≤s.kind∧s.kind≤8):FnT Tryz.prog 90 [.ro false 2 x0.length (rowOf (cStep false) x0)] (C90 (zlq x0)):=by
 have aux:∀ R,zlq x0=R→slim (C90 R) (A90 x0) []:=by
  intro R hR
  refine rg trivial ?_
  refine rg trivial ?_
  revert hR;refine lN (fun i v=>(v:List UInt8).length≤3 * i) (by (exact Nat.zero_le _)) rfl fun i1 v1 F1 hn1 hI1 hR hK1=>?_
  refine rg trivial ?_
  refine ⟨fun hc1=>?_,fun hc1=>?_⟩
  ·have hii1:i1<x0.length:=by have:=of_decide_eq_true hc1;omega
   replace hR:=zbj hR hii1
   refine rg ⟨by (intros;omega),trivial⟩ ?_
   refine rg trivial ?_
   revert hR;refine cd (fun hc2 hR=>?_) fun hc2 hR=>?_
   ·
     refine rg ⟨by (have h9:=hs _ (zb0 (d:=default) hii1);have h8:=zbk;(try simp only [inR,List.length_append,List.length_cons,List.length_nil,List.length_take,List.length_drop,zbk]);omega),trivial⟩ ?_
     refine rg trivial ?_
     revert hR;refine cd (fun hc3 hR=>?_) fun hc3 hR=>?_
     ·
       refine rg ⟨by (have h9:=hs _ (zb0 (d:=default) hii1);have h8:=zbk;(try simp only [inR,List.length_append,List.length_cons,List.length_nil,List.length_take,List.length_drop,zbk]);omega),trivial⟩ ?_
       refine rg ⟨by (have h9:=hs _ (zb0 (d:=default) hii1);have h8:=zbk;(try simp only [inR,List.length_append,List.length_cons,List.length_nil,List.length_take,List.length_drop,zbk]);omega),by (have h9:=hs _ (zb0 (d:=default) hii1);have h8:=zbk;(try simp only [inR,List.length_append,List.length_cons,List.length_nil,List.length_take,List.length_drop,zbk]);omega),by (have h9:=hs _ (zb0 (d:=default) hii1);have h8:=zbk;(try simp only [inR,List.length_append,List.length_cons,List.length_nil,List.length_take,List.length_drop,zbk]);omega),trivial,trivial⟩ ?_
       refine rg ⟨by (have h9:=hs _ (zb0 (d:=default) hii1);have h8:=zbk;(try simp only [inR,List.length_append,List.length_cons,List.length_nil,List.length_take,List.length_drop,zbk]);omega),trivial⟩ ?_
       exact hK1 (((v1++[101])++[121])++(((l3Letters ).drop ((((x0.getD i1 default).kind) - 1).toNat)).take ((((x0.getD i1 default).kind).toNat) - ((((x0.getD i1 default).kind) - 1).toNat)))) hii1 zae hR
     ·
       refine rg ⟨by (have h9:=hs _ (zb0 (d:=default) hii1);have h8:=zbk;(try simp only [inR,List.length_append,List.length_cons,List.length_nil,List.length_take,List.length_drop,zbk]);omega),by (have h9:=hs _ (zb0 (d:=default) hii1);have h8:=zbk;(try simp only [inR,List.length_append,List.length_cons,List.length_nil,List.length_take,List.length_drop,zbk]);omega),by (have h9:=hs _ (zb0 (d:=default) hii1);have h8:=zbk;(try simp only [inR,List.length_append,List.length_cons,List.length_nil,List.length_take,List.length_drop,zbk]);omega),trivial,trivial⟩ ?_
       refine rg ⟨by (have h9:=hs _ (zb0 (d:=default) hii1);have h8:=zbk;(try simp only [inR,List.length_append,List.length_cons,List.length_nil,List.length_take,List.length_drop,zbk]);omega),trivial⟩ ?_
       exact hK1 ((v1++[101])++(((l3Letters ).drop ((((x0.getD i1 default).kind) - 1).toNat)).take ((((x0.getD i1 default).kind).toNat) - ((((x0.getD i1 default).kind) - 1).toNat)))) hii1 zae hR
   ·
     refine rg trivial ?_
     revert hR;refine cd (fun hc4 hR=>?_) fun hc4 hR=>?_
     ·
       refine rg ⟨by (have h9:=hs _ (zb0 (d:=default) hii1);have h8:=zbk;(try simp only [inR,List.length_append,List.length_cons,List.length_nil,List.length_take,List.length_drop,zbk]);omega),trivial⟩ ?_
       refine rg ⟨by (have h9:=hs _ (zb0 (d:=default) hii1);have h8:=zbk;(try simp only [inR,List.length_append,List.length_cons,List.length_nil,List.length_take,List.length_drop,zbk]);omega),by (have h9:=hs _ (zb0 (d:=default) hii1);have h8:=zbk;(try simp only [inR,List.length_append,List.length_cons,List.length_nil,List.length_take,List.length_drop,zbk]);omega),by (have h9:=hs _ (zb0 (d:=default) hii1);have h8:=zbk;(try simp only [inR,List.length_append,List.length_cons,List.length_nil,List.length_take,List.length_drop,zbk]);omega),trivial,trivial⟩ ?_
       refine rg ⟨by (have h9:=hs _ (zb0 (d:=default) hii1);have h8:=zbk;(try simp only [inR,List.length_append,List.length_cons,List.length_nil,List.length_take,List.length_drop,zbk]);omega),trivial⟩ ?_
       exact hK1 ((v1++[121])++(((l3Letters ).drop ((((x0.getD i1 default).kind) - 1).toNat)).take ((((x0.getD i1 default).kind).toNat) - ((((x0.getD i1 default).kind) - 1).toNat)))) hii1 zae hR
     ·
       refine rg ⟨by (have h9:=hs _ (zb0 (d:=default) hii1);have h8:=zbk;(try simp only [inR,List.length_append,List.length_cons,List.length_nil,List.length_take,List.length_drop,zbk]);omega),by (have h9:=hs _ (zb0 (d:=default) hii1);have h8:=zbk;(try simp only [inR,List.length_append,List.length_cons,List.length_nil,List.length_take,List.length_drop,zbk]);omega),by (have h9:=hs _ (zb0 (d:=default) hii1);have h8:=zbk;(try simp only [inR,List.length_append,List.length_cons,List.length_nil,List.length_take,List.length_drop,zbk]);omega),trivial,trivial⟩ ?_
       refine rg ⟨by (have h9:=hs _ (zb0 (d:=default) hii1);have h8:=zbk;(try simp only [inR,List.length_append,List.length_cons,List.length_nil,List.length_take,List.length_drop,zbk]);omega),trivial⟩ ?_
       exact hK1 (v1++(((l3Letters ).drop ((((x0.getD i1 default).kind) - 1).toNat)).take ((((x0.getD i1 default).kind).toNat) - ((((x0.getD i1 default).kind) - 1).toNat)))) hii1 zae hR
  ·obtain rfl:i1=x0.length:=by have:=of_decide_eq_false hc1;omega
   replace hR:=zbp hR (Nat.lt_irrefl _)
   refine rg trivial ?_
   revert hR;refine cd (fun hc5 hR=>?_) fun hc5 hR=>?_
   ·
     refine rg trivial ?_
     exact congrArg C90 hR
   ·
     refine rg trivial ?_
     exact congrArg C90 hR
 exact Fn.go 35 Tryz.func90 zah zah (by simp [C90,Frs,FrsL]) (A90 x0) zah (aux _ rfl)
def k90 (x0:List Step):Cl:=(hres (C90 (zlq x0)),k2 (zou x0))
def C44 (R:(List UInt8)):LV×List (Nat×BC):=(.str R,[])
def zga (x0:KinType):(List UInt8):=bif (!(zc6 x0)) then ([]:List UInt8) else ((zgs x0.ego)++(zlq x0.steps))
def A44 (x0:KinType):Ann:=r0 1 [1,2] [1] (.reg 1 [] [(1,k43 x0)] [1,2,5] [1] [] [] [] [0] (cn (!(zc6 x0)) (r0 1 [1,2] [1] (rt [] (C44 ([]:List UInt8)))) (.reg 1 [] [(2,k89 x0.ego),(5,k90 x0.steps)] [2] [] [] [pf ((((zgs x0.ego).length+(zlq x0.steps).length:Nat):Int)≤9223372036854775807)] [] [4,8,0] (rt [] (C44 ((zgs x0.ego)++(zlq x0.steps)))))))
theorem zjz (x0:KinType) (h0:x0.steps.length≤1048576):FnT Tryz.prog 44 [.agg (zdv false x0)] (C44 (zga x0)):=by
 have aux:∀ R,zga x0=R→slim (C44 R) (A44 x0) []:=by
  intro R hR
  refine rg trivial ?_
  refine rg ⟨by with_reducible assumption,trivial⟩ ?_
  revert hR;refine cd (fun hc1 hR=>?_) fun hc1 hR=>?_
  ·
    refine rg trivial ?_
    exact congrArg C44 hR
  ·
    refine rg ⟨by (have h9:=zut (t:=x0) zag;have h8:=zp2 x0.steps;have h7:=zlr x0.ego;omega),trivial,⟨by (have h9:=zut (t:=x0) zag;have h8:=zp2 x0.steps;have h7:=zlr x0.ego;omega),by (exact zv0 (z0l (t:=x0) zag))⟩,trivial⟩ ?_
    exact congrArg C44 hR
 exact Fn.go 13 Tryz.func44 zah zah (by simp [C44,Frs,FrsL]) (A44 x0) zah (aux _ rfl)
def k44 (x0:KinType):Cl:=(hres (C44 (zga x0)),k1 (zjz x0))
def C42 (R:(List Step)):LV×List (Nat×BC):=(.own 0,[(0,.arr 2 R.length (rowOf (cStep true) R))])
def zf0 (x0:List UInt8):(List Step):=bif (x0==[46]) then ([]:List Step) else (loopW (fun (v1:(List Step)×Int×Int) nx1=>bif ((decide (v1.2.2<((x0.length:Nat):Int)))&&(decide (((v1.1.length:Nat):Int)<20))) then (bif (decide (((x0.getD v1.2.2.toNat 0).toNat:Int)=101)) then (nx1 (v1.1,1,v1.2.2+1)) else (bif (decide (((x0.getD v1.2.2.toNat 0).toNat:Int)=121)) then (nx1 (v1.1,2,v1.2.2+1)) else (loopN (fun i2 (v2:Int) next=>bif (decide ((((l3Letters ).getD i2 0).toNat:Int)=((x0.getD v1.2.2.toNat 0).toNat:Int))) then (next (((i2:Nat):Int)+1)) else (next v2)) (fun (v2:Int)=>nx1 ((v1.1++[(Step.mk v2 v1.2.1)]),0,v1.2.2+1)) 8 0 0))) else v1.1) (((x0.length:Int) - 0).toNat+1) (([]:List Step),0,0))
def D42b1 (x0:List UInt8) (v1:(List Step)×Int×Int):Dl:=⟨[(3,.own 20003),(4,.int .i64 v1.2.1),(5,.int .i64 v1.2.2)],[(20003,.arr 2 v1.1.length (rowOf (cStep true) v1.1))]⟩
def D42b2 (x0:List UInt8) (v1:(List Step)×Int×Int) (i2:Nat) (v2:Int):Dl:=⟨[(7,.int .i64 ((i2:Nat):Int)),(6,.int .i64 v2)],[]⟩
def A42b2 (x0:List UInt8) (v1:(List Step)×Int×Int) (i2:Nat) (v2:Int):Ann:=r0 1 [0,2,3,4,5,6,7,31] [20003] (cn (decide (((i2:Nat):Int)<8)) (.reg 1 [] [(0,k85 )] [0,2,3,4,5,6,7,40] [20003] [] [pf (0≤(((i2:Nat):Int):Int)∧(((i2:Nat):Int):Int)<(((l3Letters ).length:Nat):Int)),pf (0≤(v1.2.2:Int)∧(v1.2.2:Int)<((x0.length:Nat):Int))] [] [8,0,4] (cn (decide ((((l3Letters ).getD i2 0).toNat:Int)=((x0.getD v1.2.2.toNat 0).toNat:Int))) (r1 1 [0,2,3,4,5,6,7] [20003] [pf (inR .i64 (((i2:Nat):Int)+1))] [0] (r1 1 [0,2,3,4,5,6,7] [20003] [pf (inR .i64 (((i2:Nat):Int)+1))] [0] (.next 0 [] (D42b2 x0 v1 (i2+1) (((i2:Nat):Int)+1))))) (r1 1 [0,2,3,4,5,6,7] [20003] [pf (inR .i64 (((i2:Nat):Int)+1))] [0] (.next 0 [] (D42b2 x0 v1 (i2+1) v2))))) (.reg 1 [] [(4,bsC 47 (cStep true) ([(Step.mk v2 v1.2.1)]:List Step)),(5,ap1 48 (cStep true) 16 v1.1 (Step.mk v2 v1.2.1))] [0,2,3,4,5] [48] [] [] [] [0,4] (r0 1 [0,2,3,4,5] [48] (r1 1 [0,2,3,4,5] [48] [pf (inR .i64 (v1.2.2+1))] [0] (.next 1 [(20003,some 48)] (D42b1 x0 ((v1.1++[(Step.mk v2 v1.2.1)]),0,v1.2.2+1)))))))
def A42b1 (x0:List UInt8) (v1:(List Step)×Int×Int):Ann:=.reg 1 [] [] [0,2,3,4,5,20] [20003] [decide (v1.2.2<((x0.length:Nat):Int))] [] [] [1,1,1] (cn ((decide (v1.2.2<((x0.length:Nat):Int)))&&(decide (((v1.1.length:Nat):Int)<20))) (r1 1 [0,2,3,4,5,25] [20003] [pf (0≤(v1.2.2:Int)∧(v1.2.2:Int)<((x0.length:Nat):Int))] [0] (r0 1 [0,2,3,4,5,25,26] [20003] (cn (decide (((x0.getD v1.2.2.toNat 0).toNat:Int)=101)) (r0 1 [0,2,3,4,5] [20003] (r1 1 [0,2,3,4,5] [20003] [pf (inR .i64 (v1.2.2+1))] [0] (.next 0 [(20003,some 20003)] (D42b1 x0 (v1.1,1,v1.2.2+1))))) (r0 1 [0,2,3,4,5,28] [20003] (cn (decide (((x0.getD v1.2.2.toNat 0).toNat:Int)=121)) (r0 1 [0,2,3,4,5] [20003] (r1 1 [0,2,3,4,5] [20003] [pf (inR .i64 (v1.2.2+1))] [0] (.next 0 [(20003,some 20003)] (D42b1 x0 (v1.1,2,v1.2.2+1))))) (r0 1 [0,2,3,4,5,6] [20003] (r0 1 [0,2,3,4,5,6,7] [20003] (lp (D42b2 x0 v1) [] [] [] (D42b2 x0 v1 0 0) (A42b2 x0 v1))))))))) (r0 1 [2] [20003] (rt [(0,some 20003)] (C42 v1.1))))
def A42 (x0:List UInt8):Ann:=.reg 3 [] [(1000,bsC 8 (cStep true) ([]:List Step))] [0,2,3,4] [8] [] [] [] [0] (r0 1 [0,2,3,4,10] [8] (cn (x0==[46]) (r0 1 [0,2,3,4] [8] (rt [(0,some 8)] (C42 ([]:List Step)))) (r0 1 [0,2,3,4,5] [8] (.loop ((List Step)×Int×Int) (D42b1 x0) [] [8] [(20003,some 8)] (D42b1 x0 (([]:List Step),0,0)) (A42b1 x0)))))
theorem zlb (s:List UInt8):(zf0 s).length≤20:=by
 unfold zf0
 refine zbm (p:=fun (r:List Step)=>r.length≤20) (fun _=>Nat.zero_le _) (fun _=>?_)
 refine ze0 (fun (v:List Step×Int×Int)=>v.1.length≤20) (fun v=>((s.length:Int) - v.2.2).toNat) (fun (r:List Step)=>r.length≤20) (fun v next hv hn=>?_) _ _ zay (Nat.zero_le _)
 refine zbm (p:=fun (r:List Step)=>r.length≤20) (fun c=>?_) (fun _=>hv)
 simp only [Bool.and_eq_true,decide_eq_true_eq] at c
 refine zbm (p:=fun (r:List Step)=>r.length≤20) (fun _=>hn _ hv zay) (fun _=>zbm (p:=fun (r:List Step)=>r.length≤20) (fun _=>hn _ hv zay) (fun _=>?_))
 exact zb3 (fun _ _=>True) (fun (r:List Step)=>r.length≤20) trivial (fun i w next _ _ hn2=>zbm (p:=fun (r:List Step)=>r.length≤20) (fun _=>hn2 _ trivial) (fun _=>hn2 _ trivial)) (fun w _=>hn _ (by simp only [List.length_append,List.length_cons,List.length_nil];omega) zay)
theorem zow (x0:List UInt8) (hx:x0.length≤1048576):FnT Tryz.prog 42 [.str x0] (C42 (zf0 x0)):=by
 have aux:∀ R,zf0 x0=R→slim (C42 R) (A42 x0) []:=by
  intro R hR
  refine rg ⟨trivial,trivial⟩ ?_
  refine rg trivial ?_
  revert hR;refine cd (fun hc1 hR=>?_) fun hc1 hR=>?_
  ·
    refine rg trivial ?_
    exact congrArg C42 hR
  ·
    refine rg trivial ?_
    revert hR;refine lW (fun v=>(0≤v.2.2∧v.2.2≤x0.length)∧(v.1:List Step).length≤20) (fun v=>((x0.length:Int) - v.2.2).toNat) (by ((dsimp only;simp only [List.length_append,List.length_cons,List.length_nil];omega))) (Nat.lt_succ_self _) rfl fun m1 v1 F1 hI1 hM1 hR hK1=>?_
    refine rg trivial ?_
    revert hR;refine cd (fun hc2 hR=>?_) fun hc2 hR=>?_
    ·
      refine rg ⟨by ((try clear hR hK1);intros;(try simp only [decide_eq_true_eq,decide_eq_false_iff_not,Bool.or_eq_true,Bool.and_eq_true,zbd,za9,zba,Bool.not_eq_true',inR] at *);(repeat' apply And.intro)<;>(intros;omega)),trivial⟩ ?_
      refine rg trivial ?_
      revert hR;refine cd (fun hc3 hR=>?_) fun hc3 hR=>?_
      ·
        refine rg trivial ?_
        refine rg ⟨by ( intros;simp only [inR];omega),trivial⟩ ?_
        exact hK1 (v1.1,1,v1.2.2+1) zaf zad hR
      ·
        refine rg trivial ?_
        revert hR;refine cd (fun hc4 hR=>?_) fun hc4 hR=>?_
        ·
          refine rg trivial ?_
          refine rg ⟨by ( intros;simp only [inR];omega),trivial⟩ ?_
          exact hK1 (v1.1,2,v1.2.2+1) zaf zad hR
        ·
          refine rg trivial ?_
          refine rg trivial ?_
          revert hR;refine lN (fun i v=>0≤v∧v≤i) za2 rfl fun i2 v2 F2 hn2 hI2 hR hK2=>?_
          refine rg trivial ?_
          refine ⟨fun hc5=>?_,fun hc5=>?_⟩
          · have hii2:i2<8:=by have:=of_decide_eq_true hc5;omega
            replace hR:=zbj hR hii2
            refine rg ⟨by (have h9:=zbk;omega),by ((try clear hR hK1 hK2);intros;(try simp only [decide_eq_true_eq,decide_eq_false_iff_not,Bool.or_eq_true,Bool.and_eq_true,zbd,za9,zba,Bool.not_eq_true',inR] at *);(repeat' apply And.intro)<;>(intros;omega)),trivial,trivial⟩ ?_
            revert hR;refine cd (fun hc6 hR=>?_) fun hc6 hR=>?_
            ·
              refine rg ⟨by ( intros;simp only [inR];omega),trivial⟩ ?_
              refine rg ⟨by ( intros;simp only [inR];omega),trivial⟩ ?_
              exact hK2 (((i2:Nat):Int)+1) hii2 za2 hR
            ·
              refine rg ⟨by ( intros;simp only [inR];omega),trivial⟩ ?_
              exact hK2 v2 hii2 za2 hR
          · obtain rfl:i2=8:=by have:=of_decide_eq_false hc5;omega
            replace hR:=zbp hR (Nat.lt_irrefl _)
            refine rg ⟨trivial,om,trivial⟩ ?_
            refine rg trivial ?_
            refine rg ⟨by ( intros;simp only [inR];omega),trivial⟩ ?_
            exact hK1 ((v1.1++[(Step.mk v2 v1.2.1)]),0,v1.2.2+1) zaf (by ((try clear hR hK1 hK2);intros;(try simp only [decide_eq_true_eq,decide_eq_false_iff_not,Bool.or_eq_true,Bool.and_eq_true,zbd,za9,zba,Bool.not_eq_true',inR] at *);(repeat' apply And.intro)<;>(intros;omega))) hR
    ·
      refine rg trivial ?_
      exact congrArg C42 hR
 exact Fn.go 50 Tryz.func42 zah zah (by simp [C42,Frs,FrsL,FrsB,rowOf,cInt,cBool,cStr,cSl,zce,zbq,zb4,zbx,cDyad,cLaw,zd4,cStep,zdv]) (A42 x0) zah (aux _ rfl)
def k42 (x0:List UInt8):Cl:=(hres (C42 (zf0 x0)),k1 (zow x0))
def C41 (R:Int×(List UInt8)):LV×List (Nat×BC):=(.tup [.int .i64 R.1,.str R.2],[])
def l3Cut (x0:List UInt8):Int×(List UInt8):=bif ((decide (1<((x0.length:Nat):Int)))&&(((x0.drop 0).take (2 - 0))==[109,58])) then (1,(x0.drop 2).take (x0.length - 2)) else (bif ((decide (1<((x0.length:Nat):Int)))&&(((x0.drop 0).take (2 - 0))==[119,58])) then (2,(x0.drop 2).take (x0.length - 2)) else (0,x0))
def A41 (x0:List UInt8):Ann:=r0 1 [0,2,3] [] (.reg 1 [] [] [0,2,3,11] [] [decide (1<((x0.length:Nat):Int))] [gt (decide (1<((x0.length:Nat):Int))) (pf (0≤(0:Int)∧(0:Int)≤2∧(2:Int)≤((x0.length:Nat):Int)))] [] [1,0,1,1] (cn ((decide (1<((x0.length:Nat):Int)))&&(((x0.drop 0).take (2 - 0))==[109,58])) (r1 1 [0,2,3] [] [pf (0≤(2:Int)∧(2:Int)≤((x0.length:Nat):Int)∧(((x0.length:Nat):Int):Int)≤((x0.length:Nat):Int))] [0] (rt [] (C41 (1,(x0.drop 2).take (x0.length - 2))))) (.reg 1 [] [] [0,2,3,21] [] [decide (1<((x0.length:Nat):Int))] [gt (decide (1<((x0.length:Nat):Int))) (pf (0≤(0:Int)∧(0:Int)≤2∧(2:Int)≤((x0.length:Nat):Int)))] [] [1,0,1,1] (cn ((decide (1<((x0.length:Nat):Int)))&&(((x0.drop 0).take (2 - 0))==[119,58])) (r1 1 [0,2,3] [] [pf (0≤(2:Int)∧(2:Int)≤((x0.length:Nat):Int)∧(((x0.length:Nat):Int):Int)≤((x0.length:Nat):Int))] [0] (rt [] (C41 (2,(x0.drop 2).take (x0.length - 2))))) (r0 1 [2,3] [] (rt [] (C41 (0,x0))))))))
theorem zn3 (s:List UInt8):(l3Cut s).2.length≤s.length:=by
 unfold l3Cut
 repeat' refine zbm (p:=fun (r:Int×List UInt8)=>r.2.length≤s.length) (fun _=>?_) (fun _=>?_)
 all_goals simp
theorem zrb (x0:List UInt8) (hx:x0.length≤1048576):FnT Tryz.prog 41 [.str x0] (C41 (l3Cut x0)):=by
 have aux:∀ R,l3Cut x0=R→slim (C41 R) (A41 x0) []:=by
  intro R hR
  refine rg trivial ?_
  refine rg ⟨by ((try clear hR);intros;(try simp only [decide_eq_true_eq,decide_eq_false_iff_not,Bool.or_eq_true,Bool.and_eq_true,zbd,za9,zba,Bool.not_eq_true',inR] at *);(repeat' apply And.intro)<;>(intros;omega)),trivial⟩ ?_
  revert hR;refine cd (fun hc1 hR=>?_) fun hc1 hR=>?_
  ·
    refine rg ⟨by ((try clear hR);intros;(try simp only [decide_eq_true_eq,decide_eq_false_iff_not,Bool.or_eq_true,Bool.and_eq_true,zbd,za9,zba,Bool.not_eq_true',inR] at *);(repeat' apply And.intro)<;>(intros;omega)),trivial⟩ ?_
    exact congrArg C41 hR
  ·
    refine rg ⟨by ((try clear hR);intros;(try simp only [decide_eq_true_eq,decide_eq_false_iff_not,Bool.or_eq_true,Bool.and_eq_true,zbd,za9,zba,Bool.not_eq_true',inR] at *);(repeat' apply And.intro)<;>(intros;omega)),trivial⟩ ?_
    revert hR;refine cd (fun hc2 hR=>?_) fun hc2 hR=>?_
    ·
      refine rg ⟨by ((try clear hR);intros;(try simp only [decide_eq_true_eq,decide_eq_false_iff_not,Bool.or_eq_true,Bool.and_eq_true,zbd,za9,zba,Bool.not_eq_true',inR] at *);(repeat' apply And.intro)<;>(intros;omega)),trivial⟩ ?_
      exact congrArg C41 hR
    ·
      refine rg trivial ?_
      exact congrArg C41 hR
 exact Fn.go 25 Tryz.func41 zah zah (by simp [C41,Frs,FrsL]) (A41 x0) zah (aux _ rfl)
def k41 (x0:List UInt8):Cl:=(hres (C41 (l3Cut x0)),k1 (zrb x0))
def C13 (R:KinType×Bool):LV×List (Nat×BC):=(.tup [.agg [.int .i64 R.1.ego,.own 0],.bool R.2],[(0,.arr 2 R.1.steps.length (rowOf (cStep true) R.1.steps))])
def zbv (x0:List UInt8):KinType×Bool:=bif ((!(zc6 (KinType.mk ((l3Cut x0).1) (zf0 ((l3Cut x0).2)))))||(!((zga (KinType.mk ((l3Cut x0).1) (zf0 ((l3Cut x0).2))))==x0))) then ((KinType.mk 0 ([]:List Step)),false) else ((KinType.mk ((l3Cut x0).1) (zf0 ((l3Cut x0).2))),true)
def A13 (x0:List UInt8):Ann:=.reg 3 [] [(1001,k41 x0),(2002,k42 ((l3Cut x0).2))] [0,2,3,6] [2,6,1014] [] [] [] [0,4] (.reg 1 [] [(1,k43 (KinType.mk ((l3Cut x0).1) (zf0 ((l3Cut x0).2)))),(5,cg (!(!(zc6 (KinType.mk ((l3Cut x0).1) (zf0 ((l3Cut x0).2)))))) (k44 (KinType.mk ((l3Cut x0).1) (zf0 ((l3Cut x0).2)))))] [2,3,6,24] [2,6,1014] [!(!(zc6 (KinType.mk ((l3Cut x0).1) (zf0 ((l3Cut x0).2))))),!(zc6 (KinType.mk ((l3Cut x0).1) (zf0 ((l3Cut x0).2))))] [] [] [0,1,4,1,1,6] (cn ((!(zc6 (KinType.mk ((l3Cut x0).1) (zf0 ((l3Cut x0).2)))))||(!((zga (KinType.mk ((l3Cut x0).1) (zf0 ((l3Cut x0).2))))==x0))) (r0 1 [2,3,6] [2,6,1014] (rt [(0,none)] (C13 ((KinType.mk 0 ([]:List Step)),false)))) (r0 1 [2,3] [2,1014] (rt [(0,some 1014)] (C13 ((KinType.mk ((l3Cut x0).1) (zf0 ((l3Cut x0).2))),true))))))
theorem zkx (x0:List UInt8) (hx:x0.length≤1048576):FnT Tryz.prog 13 [.str x0] (C13 (zbv x0)):=by
 have aux:∀ R,zbv x0=R→slim (C13 R) (A13 x0) []:=by
  intro R hR
  refine rg ⟨by with_reducible assumption,by (have h9:=zn3 x0;have h8:=zlb (l3Cut x0).2;(try dsimp only);omega),trivial⟩ ?_
  refine rg ⟨by (have h9:=zn3 x0;have h8:=zlb (l3Cut x0).2;(try dsimp only);omega),fun hg0=>by (have h9:=zn3 x0;have h8:=zlb (l3Cut x0).2;(try dsimp only);omega),trivial⟩ ?_
  revert hR;refine cd (fun hc1 hR=>?_) fun hc1 hR=>?_
  ·
    refine rg trivial ?_
    exact congrArg C13 hR
  ·
    refine rg trivial ?_
    exact congrArg C13 hR
 exact Fn.go 27 Tryz.func13 zah zah (by simp [C13,Frs,FrsL,FrsB,rowOf,cInt,cBool,cStr,cSl,zce,zbq,zb4,zbx,cDyad,cLaw,zd4,cStep,zdv]) (A13 x0) zah (aux _ rfl)
def k13 (x0:List UInt8):Cl:=(hres (C13 (zbv x0)),k1 (zkx x0))
end Go.Proofs.YtaageiiodlfeiaaGreat
