import Derived.Test.YtkkijpibajigfaaM246
set_option maxHeartbeats 4000000
set_option linter.unusedSimpArgs false
set_option linter.unusedVariables false
namespace Go.Proofs.Ytkkijpibajigfaa
open Go Go.Lite Go.Proofs
def C33 (R:Dyad×Bool):LV×List (Nat×BC):=(.tup [.agg [.int .i64 R.1.num,.int .i64 R.1.exp],.bool R.2],[])
def specKBL (x0:Family) (x1:Int) (x2:Int):Dyad×Bool:=bif ((!(l1Has x0 x1)) || (!(l1Has x0 x2))) then ((Dyad.mk 0 0),false) else (loopN (fun i1 (v1:Int×Int) nx1=>bif ((!((specDescent x0 ((l8Common x0 x1 x2).getD i1 default) x1).2)) || (!((specDescent x0 ((l8Common x0 x1 x2).getD i1 default) x2).2))) then ((Dyad.mk 0 0),false) else (loopN (fun i2 (v2:Int×Int) nx2=>loopN (fun i3 (v3:Int×Int) next=>bif (l8Apart (((specDescent x0 ((l8Common x0 x1 x2).getD i1 default) x1).1).getD i2 default) (((specDescent x0 ((l8Common x0 x1 x2).getD i1 default) x2).1).getD i3 default)) then (next ((l8Add (Dyad.mk v3.1 v3.2) (l8Reduce ((l8Add (Dyad.mk 1 0) (l8Inbreeding x0 (l8Table x0) ((l8Common x0 x1 x2).getD i1 default))).num) (((((l8Add (Dyad.mk 1 0) (l8Inbreeding x0 (l8Table x0) ((l8Common x0 x1 x2).getD i1 default))).exp)+(((((specDescent x0 ((l8Common x0 x1 x2).getD i1 default) x1).1).getD i2 default).length:Nat):Int))+(((((specDescent x0 ((l8Common x0 x1 x2).getD i1 default) x2).1).getD i3 default).length:Nat):Int)) - 1))).num,(l8Add (Dyad.mk v3.1 v3.2) (l8Reduce ((l8Add (Dyad.mk 1 0) (l8Inbreeding x0 (l8Table x0) ((l8Common x0 x1 x2).getD i1 default))).num) (((((l8Add (Dyad.mk 1 0) (l8Inbreeding x0 (l8Table x0) ((l8Common x0 x1 x2).getD i1 default))).exp)+(((((specDescent x0 ((l8Common x0 x1 x2).getD i1 default) x1).1).getD i2 default).length:Nat):Int))+(((((specDescent x0 ((l8Common x0 x1 x2).getD i1 default) x2).1).getD i3 default).length:Nat):Int)) - 1))).exp)) else (next (v3.1,v3.2))) (fun (v3:Int×Int)=>nx2 (v3.1,v3.2)) (((specDescent x0 ((l8Common x0 x1 x2).getD i1 default) x2).1).length) 0 (v2.1,v2.2)) (fun (v2:Int×Int)=>nx1 (v2.1,v2.2)) (((specDescent x0 ((l8Common x0 x1 x2).getD i1 default) x1).1).length) 0 (v1.1,v1.2))) (fun (v1:Int×Int)=>((Dyad.mk v1.1 v1.2),true)) ((l8Common x0 x1 x2).length) 0 (0,0))
def D33b1 (x0:Family) (x1:Int) (x2:Int) (i1:Nat) (v1:Int×Int):Dl:=⟨[(40,.int .i64 ((i1:Nat):Int))],[(8,.var [.int .i64 v1.1,.int .i64 v1.2])]⟩
def D33b2 (x0:Family) (x1:Int) (x2:Int) (i1:Nat) (v1:Int×Int) (i2:Nat) (v2:Int×Int):Dl:=⟨[(73,.int .i64 ((i2:Nat):Int))],[(8,.var [.int .i64 v2.1,.int .i64 v2.2])]⟩
def D33b3 (x0:Family) (x1:Int) (x2:Int) (i1:Nat) (v1:Int×Int) (i2:Nat) (v2:Int×Int) (i3:Nat) (v3:Int×Int):Dl:=⟨[(79,.int .i64 ((i3:Nat):Int))],[(8,.var [.int .i64 v3.1,.int .i64 v3.2])]⟩
def A33b3 (x0:Family) (x1:Int) (x2:Int) (i1:Nat) (v1:Int×Int) (i2:Nat) (v2:Int×Int) (i3:Nat) (v3:Int×Int):Ann:=r0 1 [1,2,3,6,7,8,9,14,16,18,38,39,40,71,72,73,77,78,79,80] [3,6,8,16,1038] (cn (decide (((i3:Nat):Int)<((((specDescent x0 ((l8Common x0 x1 x2).getD i1 default) x2).1).length:Nat):Int))) (.reg 2 [] [(1002,k72 (((specDescent x0 ((l8Common x0 x1 x2).getD i1 default) x1).1).getD i2 default) (((specDescent x0 ((l8Common x0 x1 x2).getD i1 default) x2).1).getD i3 default))] [1,2,3,6,7,8,9,14,16,18,20,38,39,40,71,72,73,77,78,79,85] [3,6,8,16,1038] [] [pf (0≤(((i3:Nat):Int):Int)∧(((i3:Nat):Int):Int)<((((specDescent x0 ((l8Common x0 x1 x2).getD i1 default) x2).1).length:Nat):Int))] [] [0,4] (cn (l8Apart (((specDescent x0 ((l8Common x0 x1 x2).getD i1 default) x1).1).getD i2 default) (((specDescent x0 ((l8Common x0 x1 x2).getD i1 default) x2).1).getD i3 default)) (.reg 1 [] [(12,k73 ((l8Add (Dyad.mk 1 0) (l8Inbreeding x0 (l8Table x0) ((l8Common x0 x1 x2).getD i1 default))).num) (((((l8Add (Dyad.mk 1 0) (l8Inbreeding x0 (l8Table x0) ((l8Common x0 x1 x2).getD i1 default))).exp)+(((((specDescent x0 ((l8Common x0 x1 x2).getD i1 default) x1).1).getD i2 default).length:Nat):Int))+(((((specDescent x0 ((l8Common x0 x1 x2).getD i1 default) x2).1).getD i3 default).length:Nat):Int)) - 1)),(13,k70 (Dyad.mk v3.1 v3.2) (l8Reduce ((l8Add (Dyad.mk 1 0) (l8Inbreeding x0 (l8Table x0) ((l8Common x0 x1 x2).getD i1 default))).num) (((((l8Add (Dyad.mk 1 0) (l8Inbreeding x0 (l8Table x0) ((l8Common x0 x1 x2).getD i1 default))).exp)+(((((specDescent x0 ((l8Common x0 x1 x2).getD i1 default) x1).1).getD i2 default).length:Nat):Int))+(((((specDescent x0 ((l8Common x0 x1 x2).getD i1 default) x2).1).getD i3 default).length:Nat):Int)) - 1)))] [1,2,3,6,7,8,9,14,16,18,38,39,40,71,72,73,77,78,79] [3,6,8,16,1038] [] [pf (inR .i64 (((l8Add (Dyad.mk 1 0) (l8Inbreeding x0 (l8Table x0) ((l8Common x0 x1 x2).getD i1 default))).exp)+(((((specDescent x0 ((l8Common x0 x1 x2).getD i1 default) x1).1).getD i2 default).length:Nat):Int))),pf (inR .i64 ((((l8Add (Dyad.mk 1 0) (l8Inbreeding x0 (l8Table x0) ((l8Common x0 x1 x2).getD i1 default))).exp)+(((((specDescent x0 ((l8Common x0 x1 x2).getD i1 default) x1).1).getD i2 default).length:Nat):Int))+(((((specDescent x0 ((l8Common x0 x1 x2).getD i1 default) x2).1).getD i3 default).length:Nat):Int))),pf (inR .i64 (((((l8Add (Dyad.mk 1 0) (l8Inbreeding x0 (l8Table x0) ((l8Common x0 x1 x2).getD i1 default))).exp)+(((((specDescent x0 ((l8Common x0 x1 x2).getD i1 default) x1).1).getD i2 default).length:Nat):Int))+(((((specDescent x0 ((l8Common x0 x1 x2).getD i1 default) x2).1).getD i3 default).length:Nat):Int)) - 1))] [] [0,4,8,12,16] (r1 1 [1,2,3,6,7,8,9,14,16,18,38,39,40,71,72,73,77,78,79] [3,6,8,16,1038] [pf (inR .i64 (((i3:Nat):Int)+1))] [0] (.next 0 [] (D33b3 x0 x1 x2 i1 v1 i2 v2 (i3+1) ((l8Add (Dyad.mk v3.1 v3.2) (l8Reduce ((l8Add (Dyad.mk 1 0) (l8Inbreeding x0 (l8Table x0) ((l8Common x0 x1 x2).getD i1 default))).num) (((((l8Add (Dyad.mk 1 0) (l8Inbreeding x0 (l8Table x0) ((l8Common x0 x1 x2).getD i1 default))).exp)+(((((specDescent x0 ((l8Common x0 x1 x2).getD i1 default) x1).1).getD i2 default).length:Nat):Int))+(((((specDescent x0 ((l8Common x0 x1 x2).getD i1 default) x2).1).getD i3 default).length:Nat):Int)) - 1))).num,(l8Add (Dyad.mk v3.1 v3.2) (l8Reduce ((l8Add (Dyad.mk 1 0) (l8Inbreeding x0 (l8Table x0) ((l8Common x0 x1 x2).getD i1 default))).num) (((((l8Add (Dyad.mk 1 0) (l8Inbreeding x0 (l8Table x0) ((l8Common x0 x1 x2).getD i1 default))).exp)+(((((specDescent x0 ((l8Common x0 x1 x2).getD i1 default) x1).1).getD i2 default).length:Nat):Int))+(((((specDescent x0 ((l8Common x0 x1 x2).getD i1 default) x2).1).getD i3 default).length:Nat):Int)) - 1))).exp))))) (r1 1 [1,2,3,6,7,8,9,14,16,18,38,39,40,71,72,73,77,78,79] [3,6,8,16,1038] [pf (inR .i64 (((i3:Nat):Int)+1))] [0] (.next 0 [] (D33b3 x0 x1 x2 i1 v1 i2 v2 (i3+1) (v3.1,v3.2)))))) (r1 1 [1,2,3,6,7,8,9,14,16,38,39,40,71,72,73] [3,6,8,16,1038] [pf (inR .i64 (((i2:Nat):Int)+1))] [0] (.next 1 [] (D33b2 x0 x1 x2 i1 v1 (i2+1) (v3.1,v3.2)))))
def A33b2 (x0:Family) (x1:Int) (x2:Int) (i1:Nat) (v1:Int×Int) (i2:Nat) (v2:Int×Int):Ann:=r0 1 [1,2,3,6,7,8,9,14,16,38,39,40,71,72,73,74] [3,6,8,16,1038] (cn (decide (((i2:Nat):Int)<((((specDescent x0 ((l8Common x0 x1 x2).getD i1 default) x1).1).length:Nat):Int))) (r1 2 [1,2,3,6,7,8,9,14,16,18,38,39,40,71,72,73,77,78,79] [3,6,8,16,1038] [pf (0≤(((i2:Nat):Int):Int)∧(((i2:Nat):Int):Int)<((((specDescent x0 ((l8Common x0 x1 x2).getD i1 default) x1).1).length:Nat):Int))] [0] (lp (D33b3 x0 x1 x2 i1 v1 i2 v2) [] [] [] (D33b3 x0 x1 x2 i1 v1 i2 v2 0 (v2.1,v2.2)) (A33b3 x0 x1 x2 i1 v1 i2 v2))) (r1 1 [1,2,3,6,7,8,9,38,39,40] [3,6,8,1038] [pf (inR .i64 (((i1:Nat):Int)+1))] [0] (.next 1 [] (D33b1 x0 x1 x2 (i1+1) (v2.1,v2.2)))))
def A33b1 (x0:Family) (x1:Int) (x2:Int) (i1:Nat) (v1:Int×Int):Ann:=r0 1 [1,2,3,6,7,8,9,38,39,40,41] [3,6,8,1038] (cn (decide (((i1:Nat):Int)<(((l8Common x0 x1 x2).length:Nat):Int))) (.reg 3 [] [(1003,k27 x0 ((l8Common x0 x1 x2).getD i1 default) x1),(2003,k27 x0 ((l8Common x0 x1 x2).getD i1 default) x2)] [1,2,3,6,7,8,9,11,12,13,14,15,38,39,40] [3,6,8,1038,1048,1055] [] [pf (0≤(((i1:Nat):Int):Int)∧(((i1:Nat):Int):Int)<(((l8Common x0 x1 x2).length:Nat):Int))] [] [0,4,8] (.reg 1 [] [] [1,2,3,6,7,8,9,11,12,14,38,39,40,63] [3,6,8,1038,1048,1055] [!(!((specDescent x0 ((l8Common x0 x1 x2).getD i1 default) x1).2)),!((specDescent x0 ((l8Common x0 x1 x2).getD i1 default) x1).2)] [] [] [1,6] (cn ((!((specDescent x0 ((l8Common x0 x1 x2).getD i1 default) x1).2)) || (!((specDescent x0 ((l8Common x0 x1 x2).getD i1 default) x2).2))) (r0 1 [1,2,3,6,7,8,9,11,12,14,38,39,40] [3,6,8,1038,1048,1055] (rt [] (C33 ((Dyad.mk 0 0),false)))) (.reg 2 [] [(4,k71 x0 (l8Table x0) ((l8Common x0 x1 x2).getD i1 default)),(5,k70 (Dyad.mk 1 0) (l8Inbreeding x0 (l8Table x0) ((l8Common x0 x1 x2).getD i1 default)))] [1,2,3,6,7,8,9,14,16,38,39,40,71,72,73] [3,6,8,16,1038,1048,1055] [] [] [] [0,4] (.fits [] [1048] [] ⟨[(71,.ro true 1 (((specDescent x0 ((l8Common x0 x1 x2).getD i1 default) x1).1).length) (rowOf (cSl true 1 (cInt .i64)) ((specDescent x0 ((l8Common x0 x1 x2).getD i1 default) x1).1)))],[]⟩ (.fits [] [1055] [] ⟨[(14,.ro true 1 (((specDescent x0 ((l8Common x0 x1 x2).getD i1 default) x2).1).length) (rowOf (cSl true 1 (cInt .i64)) ((specDescent x0 ((l8Common x0 x1 x2).getD i1 default) x2).1)))],[]⟩ (lp (D33b2 x0 x1 x2 i1 v1) [] [] [] (D33b2 x0 x1 x2 i1 v1 0 (v1.1,v1.2)) (A33b2 x0 x1 x2 i1 v1)))))))) (r0 1 [6,7] [6] (rt [] (C33 ((Dyad.mk v1.1 v1.2),true)))))
def A33 (x0:Family) (x1:Int) (x2:Int):Ann:=r0 1 [1,2,3,6,7] [3,6] (.reg 1 [] [(2,k60 x0 x1),(7,cg (!(!(l1Has x0 x1))) (k60 x0 x2))] [1,2,3,6,7,30] [3,6] [!(!(l1Has x0 x1)),!(l1Has x0 x1)] [] [] [0,1,1,4,1,6] (cn ((!(l1Has x0 x1)) || (!(l1Has x0 x2))) (r0 1 [1,2,3,6,7] [3,6] (rt [] (C33 ((Dyad.mk 0 0),false)))) (.reg 2 [] [(1001,k68 x0)] [1,2,3,6,7,8,9] [3,6,8,1034] [] [] [] [0] (.reg 1 [] [(3,k69 x0 x1 x2)] [1,2,3,6,7,8,9,38,39,40] [3,6,8,1034,1038] [] [] [] [0] (.fits [] [1034] [] ⟨[(9,.ro true 1 ((l8Table x0).length) (rowOf (cSl true 2 (cDyad true)) (l8Table x0)))],[]⟩ (lp (D33b1 x0 x1 x2) [] [] [] (D33b1 x0 x1 x2 0 (0,0)) (A33b1 x0 x1 x2)))))))
theorem ok_spec_KinshipByLines (x0:Family) (x1:Int) (x2:Int) (hx:x0.people.length≤1048576) (hu:x0.unions.length≤1048576) (hn:∀ p ∈ x0.people,p.name.length≤1048576):FnT Try.prog 33 [.agg (cFamily false x0),.int .i64 x1,.int .i64 x2] (C33 (specKBL x0 x1 x2)):=by
 have aux:∀ R,specKBL x0 x1 x2=R→slim (C33 R) (A33 x0 x1 x2) []:=by
  intro R hR
  refine rg trivial ?_
  refine rg ⟨⟨by with_reducible assumption,by with_reducible assumption,by with_reducible assumption⟩,fun hg0=>⟨by with_reducible assumption,by with_reducible assumption,by with_reducible assumption⟩,trivial⟩ ?_
  revert hR;refine cd (fun hc1 hR=>?_) fun hc1 hR=>?_
  ·
    refine rg trivial ?_
    exact congrArg C33 hR
  ·
    refine rg ⟨⟨by with_reducible assumption,by (with_reducible exact (hasD hc1).1)⟩,trivial⟩ ?_
    refine rg ⟨⟨by with_reducible assumption,by (with_reducible exact (hasD hc1).2.1),by (with_reducible exact (hasD hc1).2.2),by (with_reducible exact isFamily_par _ (hasD hc1).1)⟩,trivial⟩ ?_
    refine ft ?_
    revert hR;refine lN (fun i v=>Dyad.mk v.1 v.2=dy (P1 x0 x1 x2 i)) (by (with_reducible exact PS_0 x0 x1 x2)) rfl fun i1 v1 F1 hn1 hI1 hR hK1=>?_
    refine rg trivial ?_
    refine ⟨fun hc2=>?_,fun hc2=>?_⟩
    · have hii1:i1<(l8Common x0 x1 x2).length:=by have:=of_decide_eq_true hc2;omega
      replace hR:=loopN_step hR hii1
      refine rg ⟨by (intros;omega),⟨by with_reducible assumption,by with_reducible assumption,by with_reducible assumption⟩,⟨by with_reducible assumption,by with_reducible assumption,by with_reducible assumption⟩,trivial⟩ ?_
      refine rg trivial ?_
      revert hR;refine cd (fun hc3 hR=>?_) fun hc3 hR=>?_
      ·
        refine rg trivial ?_
        exact congrArg C33 hR
      ·
        refine rg ⟨⟨by with_reducible assumption,by (with_reducible exact l8Table_tab (hasD hc1).1),by (with_reducible exact (hasD hc1).1),by (have h9:=hasD hc1;have h8:=(l8Common_mem x0 x1 x2).2 _ (getD_mem (d:=(default:Int)) hii1);omega)⟩,⟨by (with_reducible exact Dy_one),by (have h9:=hasD hc1;have h8:=(l8Common_mem x0 x1 x2).2 _ (getD_mem (d:=(default:Int)) hii1);with_reducible exact inbr_Dy h9.1 ⟨h8.1,h8.2.1⟩)⟩,trivial⟩ ?_
        refine ft ?_
        refine ft ?_
        revert hR;refine lN (fun i v=>Dyad.mk v.1 v.2=dy (P1 x0 x1 x2 i1+P2 x0 ((l8Common x0 x1 x2).getD i1 default) x1 x2 i)) (by (with_reducible exact hI1.trans (congrArg dy (PS_start2 x0 x1 x2 _ i1)))) rfl fun i2 v2 F2 hn2 hI2 hR hK2=>?_
        refine rg trivial ?_
        refine ⟨fun hc4=>?_,fun hc4=>?_⟩
        · have hii2:i2<((specDescent x0 ((l8Common x0 x1 x2).getD i1 default) x1).1).length:=by have:=of_decide_eq_true hc4;omega
          replace hR:=loopN_step hR hii2
          refine rg ⟨by (intros;omega),trivial⟩ ?_
          revert hR;refine lN (fun i v=>Dyad.mk v.1 v.2=dy (PS x0 x1 x2 i1 i2 i)) (by (with_reducible exact hI2.trans (congrArg dy (PS_start3 x0 x1 x2 i1 i2)))) rfl fun i3 v3 F3 hn3 hI3 hR hK3=>?_
          refine rg trivial ?_
          refine ⟨fun hc5=>?_,fun hc5=>?_⟩
          · have hii3:i3<((specDescent x0 ((l8Common x0 x1 x2).getD i1 default) x2).1).length:=by have:=of_decide_eq_true hc5;omega
            replace hR:=loopN_step hR hii3
            refine rg ⟨by (intros;omega),⟨by (have h9:=hasD hc1;have h8:=kt h9.1 h9.2.1 h9.2.2 hii1 hii2 hii3;have h7:=h8.l1;have h6:=h8.m1;have h5:=h8.len;omega),by (have h9:=hasD hc1;have h8:=kt h9.1 h9.2.1 h9.2.2 hii1 hii2 hii3;have h7:=h8.l1;have h6:=h8.m1;have h5:=h8.len;omega)⟩,trivial⟩ ?_
            revert hR;refine cd (fun hc6 hR=>?_) fun hc6 hR=>?_
            ·
              refine rg ⟨by (have h9:=hasD hc1;have h8:=kt h9.1 h9.2.1 h9.2.2 hii1 hii2 hii3;have h7:=h8.l1;have h6:=h8.m1;have h5:=h8.len;have h4:=h8.exp;(try simp only [inR]);omega),by (have h9:=hasD hc1;have h8:=kt h9.1 h9.2.1 h9.2.2 hii1 hii2 hii3;have h7:=h8.l1;have h6:=h8.m1;have h5:=h8.len;have h4:=h8.exp;(try simp only [inR]);omega),by (have h9:=hasD hc1;have h8:=kt h9.1 h9.2.1 h9.2.2 hii1 hii2 hii3;have h7:=h8.l1;have h6:=h8.m1;have h5:=h8.len;have h4:=h8.exp;(try simp only [inR]);omega),⟨by (have h9:=hasD hc1;have h8:=kt h9.1 h9.2.1 h9.2.2 hii1 hii2 hii3;have h7:=h8.num;omega),by (have h9:=hasD hc1;have h8:=kt h9.1 h9.2.1 h9.2.2 hii1 hii2 hii3;have h7:=h8.l1;have h6:=h8.m1;have h5:=h8.len;have h4:=h8.exp;(try simp only [inR]);omega)⟩,⟨by (have h9:=hasD hc1;with_reducible exact PS_Dy h9.1 h9.2.1 h9.2.2 hii1 hii2 hI3),by (have h9:=hasD hc1;have h8:=kt h9.1 h9.2.1 h9.2.2 hii1 hii2 hii3;with_reducible exact h8.rd)⟩,trivial⟩ ?_
              refine rg ⟨by (have h7:=dl_small x0 ((l8Common x0 x1 x2).getD i1 default) x2;(try simp only [inR]);omega),trivial⟩ ?_
              exact hK3 ((l8Add (Dyad.mk v3.1 v3.2) (l8Reduce ((l8Add (Dyad.mk 1 0) (l8Inbreeding x0 (l8Table x0) ((l8Common x0 x1 x2).getD i1 default))).num) (((((l8Add (Dyad.mk 1 0) (l8Inbreeding x0 (l8Table x0) ((l8Common x0 x1 x2).getD i1 default))).exp)+(((((specDescent x0 ((l8Common x0 x1 x2).getD i1 default) x1).1).getD i2 default).length:Nat):Int))+(((((specDescent x0 ((l8Common x0 x1 x2).getD i1 default) x2).1).getD i3 default).length:Nat):Int)) - 1))).num,(l8Add (Dyad.mk v3.1 v3.2) (l8Reduce ((l8Add (Dyad.mk 1 0) (l8Inbreeding x0 (l8Table x0) ((l8Common x0 x1 x2).getD i1 default))).num) (((((l8Add (Dyad.mk 1 0) (l8Inbreeding x0 (l8Table x0) ((l8Common x0 x1 x2).getD i1 default))).exp)+(((((specDescent x0 ((l8Common x0 x1 x2).getD i1 default) x1).1).getD i2 default).length:Nat):Int))+(((((specDescent x0 ((l8Common x0 x1 x2).getD i1 default) x2).1).getD i3 default).length:Nat):Int)) - 1))).exp) hii3 (by (have h9:=hasD hc1;with_reducible exact (dyad_eta _).trans (kbl_yes h9.1 h9.2.1 h9.2.2 hii1 hii2 hii3 (by assumption) hI3))) hR
            ·
              refine rg ⟨by (have h7:=dl_small x0 ((l8Common x0 x1 x2).getD i1 default) x2;(try simp only [inR]);omega),trivial⟩ ?_
              exact hK3 (v3.1,v3.2) hii3 (by (with_reducible exact (dyad_eta _).trans (kbl_no hii3 (by assumption) hI3))) hR
          · obtain rfl:i3=((specDescent x0 ((l8Common x0 x1 x2).getD i1 default) x2).1).length:=by have:=of_decide_eq_false hc5;omega
            replace hR:=loopN_end hR (Nat.lt_irrefl _)
            refine rg ⟨by (have h7:=dl_small x0 ((l8Common x0 x1 x2).getD i1 default) x1;(try simp only [inR]);omega),trivial⟩ ?_
            exact hK2 (v3.1,v3.2) hii2 (by (with_reducible exact kbl_e3 hii2 hI3)) hR
        · obtain rfl:i2=((specDescent x0 ((l8Common x0 x1 x2).getD i1 default) x1).1).length:=by have:=of_decide_eq_false hc4;omega
          replace hR:=loopN_end hR (Nat.lt_irrefl _)
          refine rg ⟨by (have h9:=hasD hc1;have h8:=(l8Common_mem x0 x1 x2).1;(try simp only [inR]);omega),trivial⟩ ?_
          exact hK1 (v2.1,v2.2) hii1 (by (with_reducible exact kbl_e2 hii1 hI2)) hR
    · obtain rfl:i1=(l8Common x0 x1 x2).length:=by have:=of_decide_eq_false hc2;omega
      replace hR:=loopN_end hR (Nat.lt_irrefl _)
      refine rg trivial ?_
      exact congrArg C33 hR
 exact Fn.go 104 Try.func33 (by kernel_rfl) (by kernel_rfl) (by simp [C33,Frs,FrsL]) (A33 x0 x1 x2) (by kernel_rfl) (aux _ rfl)
def k33 (x0:Family) (x1:Int) (x2:Int):Cl:=(hres (C33 (specKBL x0 x1 x2)),k3 (ok_spec_KinshipByLines x0 x1 x2))
theorem kbi_ca {x:Family} (hf:specIsFamily x=true) {a b:Int} (ha:0≤a∧a<x.people.length) (hb:0≤b∧b<x.people.length):commonAncestors x a b=l8Common x a b:=commonAncestors_eq x a b (isFamily_par x hf) ha hb
theorem kbi_ld {x:Family} (hf:specIsFamily x=true) {q p:Int} (hq:0≤q∧q<x.people.length) (hp:0≤p∧p<x.people.length):linesDown x q p=specDescent x q p:=by
 rw [← descent_eq]
 unfold implDescent
 rw [(implHas2 x q p).2 ⟨hf,hq,hp⟩]
 rfl
theorem kbi_in {x:Family} (hf:specIsFamily x=true) {s:KV→Option Int} (hS:SeenOk x s) {q:Int} (hq:0≤q∧q<x.people.length):(kinInbreeding ⟨x,s⟩ q).1=inb x q∧SeenOk x (kinInbreeding ⟨x,s⟩ q).2:=by
 have hn:=(fam_n hf).1
 unfold kinInbreeding inb
 dsimp only
 have e:(decide ((x.people.getD q.toNat default).father<0) || decide ((x.people.getD q.toNat default).mother<0))=!(decide (0≤(x.people.getD q.toNat default).father) && decide (0≤(x.people.getD q.toNat default).mother)):=by
  rw [Bool.eq_iff_iff]
  simp only [Bool.or_eq_true,Bool.not_eq_true',Bool.and_eq_false_iff,decide_eq_true_eq,decide_eq_false_iff_not]
  omega
 rw [e]
 cases c:(decide (0≤(x.people.getD q.toNat default).father) && decide (0≤(x.people.getD q.toNat default).mother)) with
 | false=>exact ⟨rfl,hS⟩
 | true =>
  have h2:=two_par3 hf hq c
  rw [Bool.not_true,cond_false,cond_true]
  have h3:=btw_ok 100 ⟨x,s⟩ (x.people.getD q.toNat default).father (x.people.getD q.toNat default).mother hf (by dsimp only;omega) (by dsimp only;omega) (by omega) hS
  exact h3
structure KI (x:Family) (a b:Int) (i j k:Nat):Prop where
 q:0≤(commonAncestors x a b).getD i default∧(commonAncestors x a b).getD i default<x.people.length
 len:((linesDown x ((commonAncestors x a b).getD i default) a).1.getD j default).length+((linesDown x ((commonAncestors x a b).getD i default) b).1.getD k default).length≤22
 l1:1≤((linesDown x ((commonAncestors x a b).getD i default) a).1.getD j default).length
 m1:1≤((linesDown x ((commonAncestors x a b).getD i default) b).1.getD k default).length
theorem ki {x:Family} (hf:specIsFamily x=true) {a b:Int} (ha:0≤a∧a<x.people.length) (hb:0≤b∧b<x.people.length) {i j k:Nat} (hi:i<(commonAncestors x a b).length) (hj:j<(linesDown x ((commonAncestors x a b).getD i default) a).1.length) (hk:k<(linesDown x ((commonAncestors x a b).getD i default) b).1.length):KI x a b i j k:=by
 have e:=kbi_ca hf ha hb
 rw [e] at hi hj hk
 have hq:=(l8Common_mem x a b).2 _ (getD_mem (d:=default) hi)
 rw [kbi_ld hf (by omega) ha] at hj
 rw [kbi_ld hf (by omega) hb] at hk
 have h:=kt hf ha hb hi hj hk
 refine ⟨by rw [e];exact h.q,?_,?_,?_⟩
 ·rw [e,kbi_ld hf h.q ha,kbi_ld hf h.q hb];exact h.len
 ·rw [e,kbi_ld hf h.q ha];exact h.l1
 ·rw [e,kbi_ld hf h.q hb];exact h.m1
theorem kq {x:Family} (hf:specIsFamily x=true) {a b:Int} (ha:0≤a∧a<x.people.length) (hb:0≤b∧b<x.people.length) {i:Nat} (hi:i<(commonAncestors x a b).length):0≤(commonAncestors x a b).getD i default∧(commonAncestors x a b).getD i default<x.people.length:=by
 have e:=kbi_ca hf ha hb
 rw [e] at hi ⊢
 have hq:=(l8Common_mem x a b).2 _ (getD_mem (d:=default) hi)
 exact ⟨hq.1,hq.2.1⟩
theorem kl_small {x:Family} (hf:specIsFamily x=true) {a b:Int} (ha:0≤a∧a<x.people.length) (hb:0≤b∧b<x.people.length) {i:Nat} (hi:i<(commonAncestors x a b).length):(linesDown x ((commonAncestors x a b).getD i default) a).1.length≤1000∧(linesDown x ((commonAncestors x a b).getD i default) b).1.length≤1000:=by
 have hq:=kq hf ha hb hi
 rw [kbi_ld hf hq ha,kbi_ld hf hq hb]
 exact ⟨dl_small _ _ _,dl_small _ _ _⟩
theorem kbi_0 (x:Family) (a b:Int):(0:Int)=P1 x a b 0∧SeenOk x (fun _=>none):=⟨rfl,SeenOk.nil x⟩
theorem kbi_s2 {x:Family} {a b q:Int} {i:Nat} {s:Int} {m:KV→Option Int} (h:s=P1 x a b i∧SeenOk x m):s=P1 x a b i+P2 x q a b 0∧SeenOk x m:=⟨h.1.trans (PS_start2 x a b q i),h.2⟩
theorem kbi_s3 {x:Family} {a b:Int} {i j:Nat} {s:Int} {m:KV→Option Int} (h:s=P1 x a b i+P2 x ((l8Common x a b).getD i default) a b j∧SeenOk x m):s=PS x a b i j 0∧SeenOk x m:=⟨h.1.trans (PS_start3 x a b i j),h.2⟩
theorem take_all {l:List Int}:(l.drop 1).take (l.length - 1)=l.drop 1:=by
 rw [List.take_of_length_le];rw [List.length_drop];exact Nat.le_refl _
theorem kbi_apart (l m:List Int):implApart ((l.drop 1).take (l.length - 1)) ((m.drop 1).take (m.length - 1))=l8Apart l m:=by
 rw [take_all,take_all,implApart_eq,l8Apart_eq]
theorem kbi_no {x : Family} (hf : specIsFamily x = true) {a b : Int} (ha : 0 ≤ a ∧ a < x.people.length) (hb : 0 ≤ b ∧ b < x.people.length) {i j k : Nat} (hi : i < (commonAncestors x a b).length) (hk : k < (linesDown x ((commonAncestors x a b).getD i default) b).1.length)
    (h:implApart (((linesDown x ((commonAncestors x a b).getD i default) a).1.getD j default).drop 1 |>.take (((linesDown x ((commonAncestors x a b).getD i default) a).1.getD j default).length - 1)) (((linesDown x ((commonAncestors x a b).getD i default) b).1.getD k default).drop 1 |>.take (((linesDown x ((commonAncestors x a b).getD i default) b).1.getD k default).length - 1))=false)
    {s:Int} {m:KV→Option Int} (hs:s=PS x a b i j k∧SeenOk x m):s=PS x a b i j (k+1)∧SeenOk x m:=by
 have e:=kbi_ca hf ha hb
 have hq:=kq hf ha hb hi
 rw [kbi_ld hf hq hb] at hk h
 rw [kbi_ld hf hq ha,kbi_apart] at h
 rw [e] at hk h
 exact ⟨by rw [PS_no hk h];exact hs.1,hs.2⟩
theorem kbi_yes {x : Family} (hf : specIsFamily x = true) {a b : Int} (ha : 0 ≤ a ∧ a < x.people.length) (hb : 0 ≤ b ∧ b < x.people.length) {i j k : Nat} (hi : i < (commonAncestors x a b).length) (hj : j < (linesDown x ((commonAncestors x a b).getD i default) a).1.length) (hk : k < (linesDown x ((commonAncestors x a b).getD i default) b).1.length)
    (h:implApart (((linesDown x ((commonAncestors x a b).getD i default) a).1.getD j default).drop 1 |>.take (((linesDown x ((commonAncestors x a b).getD i default) a).1.getD j default).length - 1)) (((linesDown x ((commonAncestors x a b).getD i default) b).1.getD k default).drop 1 |>.take (((linesDown x ((commonAncestors x a b).getD i default) b).1.getD k default).length - 1))=true)
    {s:Int} {m:KV→Option Int} (hs:s=PS x a b i j k∧SeenOk x m) :
    s+(1099511627776+(kinInbreeding ⟨x,m⟩ ((commonAncestors x a b).getD i default)).1) / 2 ^ ((((linesDown x ((commonAncestors x a b).getD i default) a).1.getD j default).length:Int)+(((linesDown x ((commonAncestors x a b).getD i default) b).1.getD k default).length:Int) - 1).toNat=PS x a b i j (k+1)∧SeenOk x (kinInbreeding ⟨x,m⟩ ((commonAncestors x a b).getD i default)).2:=by
 have e:=kbi_ca hf ha hb
 have hq:=kq hf ha hb hi
 have h2:=kbi_in hf hs.2 hq
 rw [kbi_ld hf hq hb] at hk h ⊢
 rw [kbi_ld hf hq ha] at hj h ⊢
 rw [kbi_apart] at h
 rw [h2.1]
 refine ⟨?_,h2.2⟩
 rw [e] at hk h ⊢
 rw [PS_yes hk h,hs.1]
 unfold tq
 congr 2
 congr 1
 omega
theorem kbi_e3 {x:Family} (hf:specIsFamily x=true) {a b:Int} (ha:0≤a∧a<x.people.length) (hb:0≤b∧b<x.people.length) {i j:Nat} (hi:i<(commonAncestors x a b).length) (hj:j<(linesDown x ((commonAncestors x a b).getD i default) a).1.length) {s:Int} {m:KV→Option Int} (hs:s=PS x a b i j (linesDown x ((commonAncestors x a b).getD i default) b).1.length∧SeenOk x m):s=P1 x a b i+P2 x ((l8Common x a b).getD i default) a b (j+1)∧SeenOk x m:=by
 have e:=kbi_ca hf ha hb
 have hq:=kq hf ha hb hi
 rw [kbi_ld hf hq hb,e] at hs
 rw [kbi_ld hf hq ha,e] at hj
 exact ⟨by rw [← PS_end3 hj];exact hs.1,hs.2⟩
theorem kbi_e2 {x:Family} (hf:specIsFamily x=true) {a b:Int} (ha:0≤a∧a<x.people.length) (hb:0≤b∧b<x.people.length) {i:Nat} (hi:i<(commonAncestors x a b).length) {s:Int} {m:KV→Option Int} (hs:s=P1 x a b i+P2 x ((l8Common x a b).getD i default) a b (linesDown x ((commonAncestors x a b).getD i default) a).1.length∧SeenOk x m):s=P1 x a b (i+1)∧SeenOk x m:=by
 have e:=kbi_ca hf ha hb
 have hq:=kq hf ha hb hi
 rw [kbi_ld hf hq ha,e] at hs
 rw [e] at hi
 exact ⟨by rw [← PS_end2 hi];exact hs.1,hs.2⟩
theorem kbi_rng {x : Family} (hf : specIsFamily x = true) {a b : Int} (ha : 0 ≤ a ∧ a < x.people.length) (hb : 0 ≤ b ∧ b < x.people.length) {i j k : Nat} (hi : i < (commonAncestors x a b).length) (hj : j < (linesDown x ((commonAncestors x a b).getD i default) a).1.length) {s : Int} {m : KV → Option Int} (hs : s = PS x a b i j k ∧ SeenOk x m) :
    (0≤s∧s≤1099511627776)∧0≤(kinInbreeding ⟨x,m⟩ ((commonAncestors x a b).getD i default)).1∧(kinInbreeding ⟨x,m⟩ ((commonAncestors x a b).getD i default)).1≤1099511627776:=by
 have e:=kbi_ca hf ha hb
 have hq:=kq hf ha hb hi
 have h2:=kbi_in hf hs.2 hq
 have h3:=inb_rng hf hq
 rw [kbi_ld hf hq ha,e] at hj
 rw [e] at hi
 have h4:=PS_rng hf ha hb hi hj (k:=k)
 rw [h2.1,hs.1]
 exact ⟨h4,h3⟩
theorem kbi_part {n:Int} (h:0≤n) (k:Nat):0≤n / 2 ^ k∧n / 2 ^ k≤n:=⟨Int.ediv_nonneg h (Int.le_of_lt (pow_pos2 _)),Int.ediv_le_self _ h⟩
theorem kbi_fin {x:Family} (hf:specIsFamily x=true) {a b:Int} (ha:0≤a∧a<x.people.length) (hb:0≤b∧b<x.people.length) {s:Int} {m:KV→Option Int} (hs:s=P1 x a b (commonAncestors x a b).length∧SeenOk x m):0≤s∧s≤4611686018427387904:=by
 have h1:=P1_le hf ha hb
 have h2:=(kn_rng hf ha hb).1
 have h3:0≤P1 x a b (l8Common x a b).length:=sumL_nn fun q hq=>sumL_nn fun l _=>sumL_nn fun m _=>wq_nn hf (by have:=(l8Common_mem x a b).2 q (List.mem_of_mem_take hq);omega) l m
 rw [kbi_ca hf ha hb] at hs
 rw [hs.1]
 omega
end Go.Proofs.Ytkkijpibajigfaa
