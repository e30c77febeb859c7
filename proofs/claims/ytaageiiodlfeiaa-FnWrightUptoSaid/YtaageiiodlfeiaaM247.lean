import Derived.Test.YtaageiiodlfeiaaM246
set_option maxHeartbeats 4000000
set_option linter.unusedSimpArgs false
set_option linter.unusedVariables false
namespace Go.Proofs.Ytaageiiodlfeiaa
open Go Go.Lite Go.Proofs
def C23 (R:Dyad×Bool):LV×List (Nat×BC):=(.tup [.agg [.int .i64 R.1.num,.int .i64 R.1.exp],.bool R.2],[])
def zeb (x0:Family) (x1:Int) (x2:Int):Dyad×Bool:=bif ((!(l1Has x0 x1))||(!(l1Has x0 x2))) then ((Dyad.mk 0 0),false) else (loopN (fun i1 (v1:Int×Int) nx1=>bif ((!((zbl x0 ((zbk x0 x1 x2).getD i1 default) x1).2))||(!((zbl x0 ((zbk x0 x1 x2).getD i1 default) x2).2))) then ((Dyad.mk 0 0),false) else (loopN (fun i2 (v2:Int×Int) nx2=>loopN (fun i3 (v3:Int×Int) next=>bif (zft (((zbl x0 ((zbk x0 x1 x2).getD i1 default) x1).1).getD i2 default) (((zbl x0 ((zbk x0 x1 x2).getD i1 default) x2).1).getD i3 default)) then (next ((l8Add (Dyad.mk v3.1 v3.2) (zcd ((l8Add (Dyad.mk 1 0) (zbx x0 (zci x0) ((zbk x0 x1 x2).getD i1 default))).num) (((((l8Add (Dyad.mk 1 0) (zbx x0 (zci x0) ((zbk x0 x1 x2).getD i1 default))).exp)+(((((zbl x0 ((zbk x0 x1 x2).getD i1 default) x1).1).getD i2 default).length:Nat):Int))+(((((zbl x0 ((zbk x0 x1 x2).getD i1 default) x2).1).getD i3 default).length:Nat):Int)) - 1))).num,(l8Add (Dyad.mk v3.1 v3.2) (zcd ((l8Add (Dyad.mk 1 0) (zbx x0 (zci x0) ((zbk x0 x1 x2).getD i1 default))).num) (((((l8Add (Dyad.mk 1 0) (zbx x0 (zci x0) ((zbk x0 x1 x2).getD i1 default))).exp)+(((((zbl x0 ((zbk x0 x1 x2).getD i1 default) x1).1).getD i2 default).length:Nat):Int))+(((((zbl x0 ((zbk x0 x1 x2).getD i1 default) x2).1).getD i3 default).length:Nat):Int)) - 1))).exp)) else (next (v3.1,v3.2))) (fun (v3:Int×Int)=>nx2 (v3.1,v3.2)) (((zbl x0 ((zbk x0 x1 x2).getD i1 default) x2).1).length) 0 (v2.1,v2.2)) (fun (v2:Int×Int)=>nx1 (v2.1,v2.2)) (((zbl x0 ((zbk x0 x1 x2).getD i1 default) x1).1).length) 0 (v1.1,v1.2))) (fun (v1:Int×Int)=>((Dyad.mk v1.1 v1.2),true)) ((zbk x0 x1 x2).length) 0 (0,0))
def D23b1 (x0:Family) (x1:Int) (x2:Int) (i1:Nat) (v1:Int×Int):Dl:=⟨[(40,.int .i64 ((i1:Nat):Int))],[(8,.var [.int .i64 v1.1,.int .i64 v1.2])]⟩
def D23b2 (x0:Family) (x1:Int) (x2:Int) (i1:Nat) (v1:Int×Int) (i2:Nat) (v2:Int×Int):Dl:=⟨[(73,.int .i64 ((i2:Nat):Int))],[(8,.var [.int .i64 v2.1,.int .i64 v2.2])]⟩
def D23b3 (x0:Family) (x1:Int) (x2:Int) (i1:Nat) (v1:Int×Int) (i2:Nat) (v2:Int×Int) (i3:Nat) (v3:Int×Int):Dl:=⟨[(79,.int .i64 ((i3:Nat):Int))],[(8,.var [.int .i64 v3.1,.int .i64 v3.2])]⟩
def A23b3 (x0:Family) (x1:Int) (x2:Int) (i1:Nat) (v1:Int×Int) (i2:Nat) (v2:Int×Int) (i3:Nat) (v3:Int×Int):Ann:=r0 1 [1,2,3,6,7,8,9,14,16,18,38,39,40,71,72,73,77,78,79,80] [3,6,8,16,1038] (cn (decide (((i3:Nat):Int)<((((zbl x0 ((zbk x0 x1 x2).getD i1 default) x2).1).length:Nat):Int))) (.reg 2 [] [(1002,k57 (((zbl x0 ((zbk x0 x1 x2).getD i1 default) x1).1).getD i2 default) (((zbl x0 ((zbk x0 x1 x2).getD i1 default) x2).1).getD i3 default))] [1,2,3,6,7,8,9,14,16,18,20,38,39,40,71,72,73,77,78,79,85] [3,6,8,16,1038] [] [pf (0≤(((i3:Nat):Int):Int)∧(((i3:Nat):Int):Int)<((((zbl x0 ((zbk x0 x1 x2).getD i1 default) x2).1).length:Nat):Int))] [] [0,4] (cn (zft (((zbl x0 ((zbk x0 x1 x2).getD i1 default) x1).1).getD i2 default) (((zbl x0 ((zbk x0 x1 x2).getD i1 default) x2).1).getD i3 default)) (.reg 1 [] [(12,k58 ((l8Add (Dyad.mk 1 0) (zbx x0 (zci x0) ((zbk x0 x1 x2).getD i1 default))).num) (((((l8Add (Dyad.mk 1 0) (zbx x0 (zci x0) ((zbk x0 x1 x2).getD i1 default))).exp)+(((((zbl x0 ((zbk x0 x1 x2).getD i1 default) x1).1).getD i2 default).length:Nat):Int))+(((((zbl x0 ((zbk x0 x1 x2).getD i1 default) x2).1).getD i3 default).length:Nat):Int)) - 1)),(13,k55 (Dyad.mk v3.1 v3.2) (zcd ((l8Add (Dyad.mk 1 0) (zbx x0 (zci x0) ((zbk x0 x1 x2).getD i1 default))).num) (((((l8Add (Dyad.mk 1 0) (zbx x0 (zci x0) ((zbk x0 x1 x2).getD i1 default))).exp)+(((((zbl x0 ((zbk x0 x1 x2).getD i1 default) x1).1).getD i2 default).length:Nat):Int))+(((((zbl x0 ((zbk x0 x1 x2).getD i1 default) x2).1).getD i3 default).length:Nat):Int)) - 1)))] [1,2,3,6,7,8,9,14,16,18,38,39,40,71,72,73,77,78,79] [3,6,8,16,1038] [] [pf (inR .i64 (((l8Add (Dyad.mk 1 0) (zbx x0 (zci x0) ((zbk x0 x1 x2).getD i1 default))).exp)+(((((zbl x0 ((zbk x0 x1 x2).getD i1 default) x1).1).getD i2 default).length:Nat):Int))),pf (inR .i64 ((((l8Add (Dyad.mk 1 0) (zbx x0 (zci x0) ((zbk x0 x1 x2).getD i1 default))).exp)+(((((zbl x0 ((zbk x0 x1 x2).getD i1 default) x1).1).getD i2 default).length:Nat):Int))+(((((zbl x0 ((zbk x0 x1 x2).getD i1 default) x2).1).getD i3 default).length:Nat):Int))),pf (inR .i64 (((((l8Add (Dyad.mk 1 0) (zbx x0 (zci x0) ((zbk x0 x1 x2).getD i1 default))).exp)+(((((zbl x0 ((zbk x0 x1 x2).getD i1 default) x1).1).getD i2 default).length:Nat):Int))+(((((zbl x0 ((zbk x0 x1 x2).getD i1 default) x2).1).getD i3 default).length:Nat):Int)) - 1))] [] [0,4,8,12,16] (r1 1 [1,2,3,6,7,8,9,14,16,18,38,39,40,71,72,73,77,78,79] [3,6,8,16,1038] [pf (inR .i64 (((i3:Nat):Int)+1))] [0] (.next 0 [] (D23b3 x0 x1 x2 i1 v1 i2 v2 (i3+1) ((l8Add (Dyad.mk v3.1 v3.2) (zcd ((l8Add (Dyad.mk 1 0) (zbx x0 (zci x0) ((zbk x0 x1 x2).getD i1 default))).num) (((((l8Add (Dyad.mk 1 0) (zbx x0 (zci x0) ((zbk x0 x1 x2).getD i1 default))).exp)+(((((zbl x0 ((zbk x0 x1 x2).getD i1 default) x1).1).getD i2 default).length:Nat):Int))+(((((zbl x0 ((zbk x0 x1 x2).getD i1 default) x2).1).getD i3 default).length:Nat):Int)) - 1))).num,(l8Add (Dyad.mk v3.1 v3.2) (zcd ((l8Add (Dyad.mk 1 0) (zbx x0 (zci x0) ((zbk x0 x1 x2).getD i1 default))).num) (((((l8Add (Dyad.mk 1 0) (zbx x0 (zci x0) ((zbk x0 x1 x2).getD i1 default))).exp)+(((((zbl x0 ((zbk x0 x1 x2).getD i1 default) x1).1).getD i2 default).length:Nat):Int))+(((((zbl x0 ((zbk x0 x1 x2).getD i1 default) x2).1).getD i3 default).length:Nat):Int)) - 1))).exp))))) (r1 1 [1,2,3,6,7,8,9,14,16,18,38,39,40,71,72,73,77,78,79] [3,6,8,16,1038] [pf (inR .i64 (((i3:Nat):Int)+1))] [0] (.next 0 [] (D23b3 x0 x1 x2 i1 v1 i2 v2 (i3+1) (v3.1,v3.2)))))) (r1 1 [1,2,3,6,7,8,9,14,16,38,39,40,71,72,73] [3,6,8,16,1038] [pf (inR .i64 (((i2:Nat):Int)+1))] [0] (.next 1 [] (D23b2 x0 x1 x2 i1 v1 (i2+1) (v3.1,v3.2)))))
def A23b2 (x0:Family) (x1:Int) (x2:Int) (i1:Nat) (v1:Int×Int) (i2:Nat) (v2:Int×Int):Ann:=r0 1 [1,2,3,6,7,8,9,14,16,38,39,40,71,72,73,74] [3,6,8,16,1038] (cn (decide (((i2:Nat):Int)<((((zbl x0 ((zbk x0 x1 x2).getD i1 default) x1).1).length:Nat):Int))) (r1 2 [1,2,3,6,7,8,9,14,16,18,38,39,40,71,72,73,77,78,79] [3,6,8,16,1038] [pf (0≤(((i2:Nat):Int):Int)∧(((i2:Nat):Int):Int)<((((zbl x0 ((zbk x0 x1 x2).getD i1 default) x1).1).length:Nat):Int))] [0] (lp (D23b3 x0 x1 x2 i1 v1 i2 v2) [] [] [] (D23b3 x0 x1 x2 i1 v1 i2 v2 0 (v2.1,v2.2)) (A23b3 x0 x1 x2 i1 v1 i2 v2))) (r1 1 [1,2,3,6,7,8,9,38,39,40] [3,6,8,1038] [pf (inR .i64 (((i1:Nat):Int)+1))] [0] (.next 1 [] (D23b1 x0 x1 x2 (i1+1) (v2.1,v2.2)))))
def A23b1 (x0:Family) (x1:Int) (x2:Int) (i1:Nat) (v1:Int×Int):Ann:=r0 1 [1,2,3,6,7,8,9,38,39,40,41] [3,6,8,1038] (cn (decide (((i1:Nat):Int)<(((zbk x0 x1 x2).length:Nat):Int))) (.reg 3 [] [(1003,k54 x0 ((zbk x0 x1 x2).getD i1 default) x1),(2003,k54 x0 ((zbk x0 x1 x2).getD i1 default) x2)] [1,2,3,6,7,8,9,11,12,13,14,15,38,39,40] [3,6,8,1038,1048,1055] [] [pf (0≤(((i1:Nat):Int):Int)∧(((i1:Nat):Int):Int)<(((zbk x0 x1 x2).length:Nat):Int))] [] [0,4,8] (.reg 1 [] [] [1,2,3,6,7,8,9,11,12,14,38,39,40,63] [3,6,8,1038,1048,1055] [!(!((zbl x0 ((zbk x0 x1 x2).getD i1 default) x1).2)),!((zbl x0 ((zbk x0 x1 x2).getD i1 default) x1).2)] [] [] [1,6] (cn ((!((zbl x0 ((zbk x0 x1 x2).getD i1 default) x1).2))||(!((zbl x0 ((zbk x0 x1 x2).getD i1 default) x2).2))) (r0 1 [1,2,3,6,7,8,9,11,12,14,38,39,40] [3,6,8,1038,1048,1055] (rt [] (C23 ((Dyad.mk 0 0),false)))) (.reg 2 [] [(4,k56 x0 (zci x0) ((zbk x0 x1 x2).getD i1 default)),(5,k55 (Dyad.mk 1 0) (zbx x0 (zci x0) ((zbk x0 x1 x2).getD i1 default)))] [1,2,3,6,7,8,9,14,16,38,39,40,71,72,73] [3,6,8,16,1038,1048,1055] [] [] [] [0,4] (.fits [] [1048] [] ⟨[(71,.ro true 1 (((zbl x0 ((zbk x0 x1 x2).getD i1 default) x1).1).length) (rowOf (cSl true 1 (cInt .i64)) ((zbl x0 ((zbk x0 x1 x2).getD i1 default) x1).1)))],[]⟩ (.fits [] [1055] [] ⟨[(14,.ro true 1 (((zbl x0 ((zbk x0 x1 x2).getD i1 default) x2).1).length) (rowOf (cSl true 1 (cInt .i64)) ((zbl x0 ((zbk x0 x1 x2).getD i1 default) x2).1)))],[]⟩ (lp (D23b2 x0 x1 x2 i1 v1) [] [] [] (D23b2 x0 x1 x2 i1 v1 0 (v1.1,v1.2)) (A23b2 x0 x1 x2 i1 v1)))))))) (r0 1 [6,7] [6] (rt [] (C23 ((Dyad.mk v1.1 v1.2),true)))))
def A23 (x0:Family) (x1:Int) (x2:Int):Ann:=r0 1 [1,2,3,6,7] [3,6] (.reg 1 [] [(2,k41 x0 x1),(7,cg (!(!(l1Has x0 x1))) (k41 x0 x2))] [1,2,3,6,7,30] [3,6] [!(!(l1Has x0 x1)),!(l1Has x0 x1)] [] [] [0,1,1,4,1,6] (cn ((!(l1Has x0 x1))||(!(l1Has x0 x2))) (r0 1 [1,2,3,6,7] [3,6] (rt [] (C23 ((Dyad.mk 0 0),false)))) (.reg 2 [] [(1001,k52 x0)] [1,2,3,6,7,8,9] [3,6,8,1034] [] [] [] [0] (.reg 1 [] [(3,k53 x0 x1 x2)] [1,2,3,6,7,8,9,38,39,40] [3,6,8,1034,1038] [] [] [] [0] (.fits [] [1034] [] ⟨[(9,.ro true 1 ((zci x0).length) (rowOf (cSl true 2 (cDyad true)) (zci x0)))],[]⟩ (lp (D23b1 x0 x1 x2) [] [] [] (D23b1 x0 x1 x2 0 (0,0)) (A23b1 x0 x1 x2)))))))
theorem zh4 (x0:Family) (x1:Int) (x2:Int) (hx:x0.people.length≤1048576) (hu:x0.unions.length≤1048576) (hn:∀ p∈x0.people,p.name.length≤1048576):FnT Try.prog 23 [.agg (zce false x0),.int .i64 x1,.int .i64 x2] (C23 (zeb x0 x1 x2)):=by
 have aux:∀ R,zeb x0 x1 x2=R→slim (C23 R) (A23 x0 x1 x2) []:=by
  intro R hR
  refine rg trivial ?_
  refine rg ⟨⟨by with_reducible assumption,by with_reducible assumption,by with_reducible assumption⟩,fun hg0=>⟨by with_reducible assumption,by with_reducible assumption,by with_reducible assumption⟩,trivial⟩ ?_
  revert hR;refine cd (fun hc1 hR=>?_) fun hc1 hR=>?_
  ·
    refine rg trivial ?_
    exact congrArg C23 hR
  ·
    refine rg ⟨⟨by with_reducible assumption,by (with_reducible exact (hasD hc1).1)⟩,trivial⟩ ?_
    refine rg ⟨⟨by with_reducible assumption,by (with_reducible exact (hasD hc1).2.1),by (with_reducible exact (hasD hc1).2.2),by (with_reducible exact zcb _ (hasD hc1).1)⟩,trivial⟩ ?_
    refine ft ?_
    revert hR;refine lN (fun i v=>Dyad.mk v.1 v.2=dy (P1 x0 x1 x2 i)) (by (with_reducible exact PS_0 x0 x1 x2)) rfl fun i1 v1 F1 hn1 hI1 hR hK1=>?_
    refine rg trivial ?_
    refine ⟨fun hc2=>?_,fun hc2=>?_⟩
    · have hii1:i1<(zbk x0 x1 x2).length:=by have:=of_decide_eq_true hc2;omega
      replace hR:=zb0 hR hii1
      refine rg ⟨by (intros;omega),⟨by with_reducible assumption,by with_reducible assumption,by with_reducible assumption⟩,⟨by with_reducible assumption,by with_reducible assumption,by with_reducible assumption⟩,trivial⟩ ?_
      refine rg trivial ?_
      revert hR;refine cd (fun hc3 hR=>?_) fun hc3 hR=>?_
      ·
        refine rg trivial ?_
        exact congrArg C23 hR
      ·
        refine rg ⟨⟨by with_reducible assumption,by (with_reducible exact zng (hasD hc1).1),by (with_reducible exact (hasD hc1).1),by (have h9:=hasD hc1;have h8:=(zc5 x0 x1 x2).2 _ (zde (d:=(default:Int)) hii1);omega)⟩,⟨by (with_reducible exact Dy_one),by (have h9:=hasD hc1;have h8:=(zc5 x0 x1 x2).2 _ (zde (d:=(default:Int)) hii1);with_reducible exact z1q h9.1 ⟨h8.1,h8.2.1⟩)⟩,trivial⟩ ?_
        refine ft ?_
        refine ft ?_
        revert hR;refine lN (fun i v=>Dyad.mk v.1 v.2=dy (P1 x0 x1 x2 i1+P2 x0 ((zbk x0 x1 x2).getD i1 default) x1 x2 i)) (by (with_reducible exact hI1.trans (congrArg dy (znw x0 x1 x2 _ i1)))) rfl fun i2 v2 F2 hn2 hI2 hR hK2=>?_
        refine rg trivial ?_
        refine ⟨fun hc4=>?_,fun hc4=>?_⟩
        · have hii2:i2<((zbl x0 ((zbk x0 x1 x2).getD i1 default) x1).1).length:=by have:=of_decide_eq_true hc4;omega
          replace hR:=zb0 hR hii2
          refine rg ⟨by (intros;omega),trivial⟩ ?_
          revert hR;refine lN (fun i v=>Dyad.mk v.1 v.2=dy (PS x0 x1 x2 i1 i2 i)) (by (with_reducible exact hI2.trans (congrArg dy (znv x0 x1 x2 i1 i2)))) rfl fun i3 v3 F3 hn3 hI3 hR hK3=>?_
          refine rg trivial ?_
          refine ⟨fun hc5=>?_,fun hc5=>?_⟩
          · have hii3:i3<((zbl x0 ((zbk x0 x1 x2).getD i1 default) x2).1).length:=by have:=of_decide_eq_true hc5;omega
            replace hR:=zb0 hR hii3
            refine rg ⟨by (intros;omega),⟨by (have h9:=hasD hc1;have h8:=kt h9.1 h9.2.1 h9.2.2 hii1 hii2 hii3;have h7:=h8.l1;have h6:=h8.m1;have h5:=h8.len;omega),by (have h9:=hasD hc1;have h8:=kt h9.1 h9.2.1 h9.2.2 hii1 hii2 hii3;have h7:=h8.l1;have h6:=h8.m1;have h5:=h8.len;omega)⟩,trivial⟩ ?_
            revert hR;refine cd (fun hc6 hR=>?_) fun hc6 hR=>?_
            ·
              refine rg ⟨by (have h9:=hasD hc1;have h8:=kt h9.1 h9.2.1 h9.2.2 hii1 hii2 hii3;have h7:=h8.l1;have h6:=h8.m1;have h5:=h8.len;have h4:=h8.exp;(try simp only [inR]);omega),by (have h9:=hasD hc1;have h8:=kt h9.1 h9.2.1 h9.2.2 hii1 hii2 hii3;have h7:=h8.l1;have h6:=h8.m1;have h5:=h8.len;have h4:=h8.exp;(try simp only [inR]);omega),by (have h9:=hasD hc1;have h8:=kt h9.1 h9.2.1 h9.2.2 hii1 hii2 hii3;have h7:=h8.l1;have h6:=h8.m1;have h5:=h8.len;have h4:=h8.exp;(try simp only [inR]);omega),⟨by (have h9:=hasD hc1;have h8:=kt h9.1 h9.2.1 h9.2.2 hii1 hii2 hii3;have h7:=h8.num;omega),by (have h9:=hasD hc1;have h8:=kt h9.1 h9.2.1 h9.2.2 hii1 hii2 hii3;have h7:=h8.l1;have h6:=h8.m1;have h5:=h8.len;have h4:=h8.exp;(try simp only [inR]);omega)⟩,⟨by (have h9:=hasD hc1;with_reducible exact PS_Dy h9.1 h9.2.1 h9.2.2 hii1 hii2 hI3),by (have h9:=hasD hc1;have h8:=kt h9.1 h9.2.1 h9.2.2 hii1 hii2 hii3;with_reducible exact h8.rd)⟩,trivial⟩ ?_
              refine rg ⟨by (have h7:=zkm x0 ((zbk x0 x1 x2).getD i1 default) x2;(try simp only [inR]);omega),trivial⟩ ?_
              exact hK3 ((l8Add (Dyad.mk v3.1 v3.2) (zcd ((l8Add (Dyad.mk 1 0) (zbx x0 (zci x0) ((zbk x0 x1 x2).getD i1 default))).num) (((((l8Add (Dyad.mk 1 0) (zbx x0 (zci x0) ((zbk x0 x1 x2).getD i1 default))).exp)+(((((zbl x0 ((zbk x0 x1 x2).getD i1 default) x1).1).getD i2 default).length:Nat):Int))+(((((zbl x0 ((zbk x0 x1 x2).getD i1 default) x2).1).getD i3 default).length:Nat):Int)) - 1))).num,(l8Add (Dyad.mk v3.1 v3.2) (zcd ((l8Add (Dyad.mk 1 0) (zbx x0 (zci x0) ((zbk x0 x1 x2).getD i1 default))).num) (((((l8Add (Dyad.mk 1 0) (zbx x0 (zci x0) ((zbk x0 x1 x2).getD i1 default))).exp)+(((((zbl x0 ((zbk x0 x1 x2).getD i1 default) x1).1).getD i2 default).length:Nat):Int))+(((((zbl x0 ((zbk x0 x1 x2).getD i1 default) x2).1).getD i3 default).length:Nat):Int)) - 1))).exp) hii3 (by (have h9:=hasD hc1;with_reducible exact (zqi _).trans (zxe h9.1 h9.2.1 h9.2.2 hii1 hii2 hii3 zbf hI3))) hR
            ·
              refine rg ⟨by (have h7:=zkm x0 ((zbk x0 x1 x2).getD i1 default) x2;(try simp only [inR]);omega),trivial⟩ ?_
              exact hK3 (v3.1,v3.2) hii3 (by (with_reducible exact (zqi _).trans (z0b hii3 zbf hI3))) hR
          · obtain rfl:i3=((zbl x0 ((zbk x0 x1 x2).getD i1 default) x2).1).length:=by have:=of_decide_eq_false hc5;omega
            replace hR:=zb4 hR (Nat.lt_irrefl _)
            refine rg ⟨by (have h7:=zkm x0 ((zbk x0 x1 x2).getD i1 default) x1;(try simp only [inR]);omega),trivial⟩ ?_
            exact hK2 (v3.1,v3.2) hii2 (by (with_reducible exact z0d hii2 hI3)) hR
        · obtain rfl:i2=((zbl x0 ((zbk x0 x1 x2).getD i1 default) x1).1).length:=by have:=of_decide_eq_false hc4;omega
          replace hR:=zb4 hR (Nat.lt_irrefl _)
          refine rg ⟨by (have h9:=hasD hc1;have h8:=(zc5 x0 x1 x2).1;(try simp only [inR]);omega),trivial⟩ ?_
          exact hK1 (v2.1,v2.2) hii1 (by (with_reducible exact z0e hii1 hI2)) hR
    · obtain rfl:i1=(zbk x0 x1 x2).length:=by have:=of_decide_eq_false hc2;omega
      replace hR:=zb4 hR (Nat.lt_irrefl _)
      refine rg trivial ?_
      exact congrArg C23 hR
 exact Fn.go 104 Try.func23 zax zax (by simp [C23,Frs,FrsL]) (A23 x0 x1 x2) zax (aux _ rfl)
def k23 (x0:Family) (x1:Int) (x2:Int):Cl:=(hres (C23 (zeb x0 x1 x2)),k3 (zh4 x0 x1 x2))
theorem zkd {x:Family} (hf:zbh x=true) {a b:Int} (ha:0≤a∧a<x.people.length) (hb:0≤b∧b<x.people.length):zbi x a b=zbk x a b:=zgv x a b (zcb x hf) ha hb
theorem ze1 {x:Family} (hf:zbh x=true) {q p:Int} (hq:0≤q∧q<x.people.length) (hp:0≤p∧p<x.people.length):zbt x q p=zbl x q p:=by
 rw [← zk6]
 unfold zgc
 rw [(zch x q p).2 ⟨hf,hq,hp⟩]
 rfl
theorem z0i {x:Family} (hf:zbh x=true) {s:KV→Option Int} (hS:SeenOk x s) {q:Int} (hq:0≤q∧q<x.people.length):(zcg ⟨x,s⟩ q).1=inb x q∧SeenOk x (zcg ⟨x,s⟩ q).2:=by
 have hn:=(fam_n hf).1
 unfold zcg inb
 dsimp only
 have e:(decide ((x.people.getD q.toNat default).father<0)||decide ((x.people.getD q.toNat default).mother<0))=!(decide (0≤(x.people.getD q.toNat default).father)&&decide (0≤(x.people.getD q.toNat default).mother)):=by
  rw [Bool.eq_iff_iff]
  simp only [Bool.or_eq_true,Bool.not_eq_true',Bool.and_eq_false_iff,decide_eq_true_eq,decide_eq_false_iff_not]
  omega
 rw [e]
 cases c:(decide (0≤(x.people.getD q.toNat default).father)&&decide (0≤(x.people.getD q.toNat default).mother)) with
 | false=>exact ⟨rfl,hS⟩
 | true =>
  have h2:=zix hf hq c
  rw [Bool.not_true,cond_false,cond_true]
  have h3:=zeh 100 ⟨x,s⟩ (x.people.getD q.toNat default).father (x.people.getD q.toNat default).mother hf zau zau om hS
  exact h3
structure KI (x:Family) (a b:Int) (i j k:Nat):Prop where
 q:0≤(zbi x a b).getD i default∧(zbi x a b).getD i default<x.people.length
 len:((zbt x ((zbi x a b).getD i default) a).1.getD j default).length+((zbt x ((zbi x a b).getD i default) b).1.getD k default).length≤22
 l1:1≤((zbt x ((zbi x a b).getD i default) a).1.getD j default).length
 m1:1≤((zbt x ((zbi x a b).getD i default) b).1.getD k default).length
theorem ki {x:Family} (hf:zbh x=true) {a b:Int} (ha:0≤a∧a<x.people.length) (hb:0≤b∧b<x.people.length) {i j k:Nat} (hi:i<(zbi x a b).length) (hj:j<(zbt x ((zbi x a b).getD i default) a).1.length) (hk:k<(zbt x ((zbi x a b).getD i default) b).1.length):KI x a b i j k:=by
 have e:=zkd hf ha hb
 rw [e] at hi hj hk
 have hq:=(zc5 x a b).2 _ (zde (d:=default) hi)
 rw [ze1 hf om ha] at hj
 rw [ze1 hf om hb] at hk
 have h:=kt hf ha hb hi hj hk
 refine ⟨by rw [e];exact h.q,?_,?_,?_⟩
 ·rw [e,ze1 hf h.q ha,ze1 hf h.q hb];exact h.len
 ·rw [e,ze1 hf h.q ha];exact h.l1
 ·rw [e,ze1 hf h.q hb];exact h.m1
theorem kq {x:Family} (hf:zbh x=true) {a b:Int} (ha:0≤a∧a<x.people.length) (hb:0≤b∧b<x.people.length) {i:Nat} (hi:i<(zbi x a b).length):0≤(zbi x a b).getD i default∧(zbi x a b).getD i default<x.people.length:=by
 have e:=zkd hf ha hb
 rw [e] at hi ⊢
 have hq:=(zc5 x a b).2 _ (zde (d:=default) hi)
 exact ⟨hq.1,hq.2.1⟩
theorem zqa {x:Family} (hf:zbh x=true) {a b:Int} (ha:0≤a∧a<x.people.length) (hb:0≤b∧b<x.people.length) {i:Nat} (hi:i<(zbi x a b).length):(zbt x ((zbi x a b).getD i default) a).1.length≤1000∧(zbt x ((zbi x a b).getD i default) b).1.length≤1000:=by
 have hq:=kq hf ha hb hi
 rw [ze1 hf hq ha,ze1 hf hq hb]
 exact ⟨zkm _ _ _,zkm _ _ _⟩
theorem kbi_0 (x:Family) (a b:Int):(0:Int)=P1 x a b 0∧SeenOk x (fun _=>none):=⟨rfl,SeenOk.nil x⟩
theorem z0g {x:Family} {a b q:Int} {i:Nat} {s:Int} {m:KV→Option Int} (h:s=P1 x a b i∧SeenOk x m):s=P1 x a b i+P2 x q a b 0∧SeenOk x m:=⟨h.1.trans (znw x a b q i),h.2⟩
theorem z0f {x:Family} {a b:Int} {i j:Nat} {s:Int} {m:KV→Option Int} (h:s=P1 x a b i+P2 x ((zbk x a b).getD i default) a b j∧SeenOk x m):s=PS x a b i j 0∧SeenOk x m:=⟨h.1.trans (znv x a b i j),h.2⟩
theorem zt3 {l:List Int}:(l.drop 1).take (l.length - 1)=l.drop 1:=by
 rw [List.take_of_length_le];rw [List.length_drop];exact Nat.le_refl _
theorem zrt (l m:List Int):zen ((l.drop 1).take (l.length - 1)) ((m.drop 1).take (m.length - 1))=zft l m:=by
 rw [zt3,zt3,zrx,zk2]
theorem z0h {x : Family} (hf : zbh x = true) {a b : Int} (ha : 0 ≤ a ∧ a < x.people.length) (hb : 0 ≤ b ∧ b < x.people.length) {i j k : Nat} (hi : i < (zbi x a b).length) (hk : k < (zbt x ((zbi x a b).getD i default) b).1.length)
    (h:zen (((zbt x ((zbi x a b).getD i default) a).1.getD j default).drop 1 |>.take (((zbt x ((zbi x a b).getD i default) a).1.getD j default).length - 1)) (((zbt x ((zbi x a b).getD i default) b).1.getD k default).drop 1 |>.take (((zbt x ((zbi x a b).getD i default) b).1.getD k default).length - 1))=false)
    {s:Int} {m:KV→Option Int} (hs:s=PS x a b i j k∧SeenOk x m):s=PS x a b i j (k+1)∧SeenOk x m:=by
 have e:=zkd hf ha hb
 have hq:=kq hf ha hb hi
 rw [ze1 hf hq hb] at hk h
 rw [ze1 hf hq ha,zrt] at h
 rw [e] at hk h
 exact ⟨by rw [PS_no hk h];exact hs.1,hs.2⟩
theorem zxg {x : Family} (hf : zbh x = true) {a b : Int} (ha : 0 ≤ a ∧ a < x.people.length) (hb : 0 ≤ b ∧ b < x.people.length) {i j k : Nat} (hi : i < (zbi x a b).length) (hj : j < (zbt x ((zbi x a b).getD i default) a).1.length) (hk : k < (zbt x ((zbi x a b).getD i default) b).1.length)
    (h:zen (((zbt x ((zbi x a b).getD i default) a).1.getD j default).drop 1 |>.take (((zbt x ((zbi x a b).getD i default) a).1.getD j default).length - 1)) (((zbt x ((zbi x a b).getD i default) b).1.getD k default).drop 1 |>.take (((zbt x ((zbi x a b).getD i default) b).1.getD k default).length - 1))=true)
    {s:Int} {m:KV→Option Int} (hs:s=PS x a b i j k∧SeenOk x m) :
    s+(1099511627776+(zcg ⟨x,m⟩ ((zbi x a b).getD i default)).1) / 2 ^ ((((zbt x ((zbi x a b).getD i default) a).1.getD j default).length:Int)+(((zbt x ((zbi x a b).getD i default) b).1.getD k default).length:Int) - 1).toNat=PS x a b i j (k+1)∧SeenOk x (zcg ⟨x,m⟩ ((zbi x a b).getD i default)).2:=by
 have e:=zkd hf ha hb
 have hq:=kq hf ha hb hi
 have h2:=z0i hf hs.2 hq
 rw [ze1 hf hq hb] at hk h ⊢
 rw [ze1 hf hq ha] at hj h ⊢
 rw [zrt] at h
 rw [h2.1]
 refine ⟨?_,h2.2⟩
 rw [e] at hk h ⊢
 rw [z0v hk h,hs.1]
 unfold tq
 congr 2
 congr 1
 omega
theorem z0j {x:Family} (hf:zbh x=true) {a b:Int} (ha:0≤a∧a<x.people.length) (hb:0≤b∧b<x.people.length) {i j:Nat} (hi:i<(zbi x a b).length) (hj:j<(zbt x ((zbi x a b).getD i default) a).1.length) {s:Int} {m:KV→Option Int} (hs:s=PS x a b i j (zbt x ((zbi x a b).getD i default) b).1.length∧SeenOk x m):s=P1 x a b i+P2 x ((zbk x a b).getD i default) a b (j+1)∧SeenOk x m:=by
 have e:=zkd hf ha hb
 have hq:=kq hf ha hb hi
 rw [ze1 hf hq hb,e] at hs
 rw [ze1 hf hq ha,e] at hj
 exact ⟨by rw [← zx5 hj];exact hs.1,hs.2⟩
theorem z0k {x:Family} (hf:zbh x=true) {a b:Int} (ha:0≤a∧a<x.people.length) (hb:0≤b∧b<x.people.length) {i:Nat} (hi:i<(zbi x a b).length) {s:Int} {m:KV→Option Int} (hs:s=P1 x a b i+P2 x ((zbk x a b).getD i default) a b (zbt x ((zbi x a b).getD i default) a).1.length∧SeenOk x m):s=P1 x a b (i+1)∧SeenOk x m:=by
 have e:=zkd hf ha hb
 have hq:=kq hf ha hb hi
 rw [ze1 hf hq ha,e] at hs
 rw [e] at hi
 exact ⟨by rw [← zx6 hi];exact hs.1,hs.2⟩
theorem zxh {x : Family} (hf : zbh x = true) {a b : Int} (ha : 0 ≤ a ∧ a < x.people.length) (hb : 0 ≤ b ∧ b < x.people.length) {i j k : Nat} (hi : i < (zbi x a b).length) (hj : j < (zbt x ((zbi x a b).getD i default) a).1.length) {s : Int} {m : KV → Option Int} (hs : s = PS x a b i j k ∧ SeenOk x m) :
    (0≤s∧s≤1099511627776)∧0≤(zcg ⟨x,m⟩ ((zbi x a b).getD i default)).1∧(zcg ⟨x,m⟩ ((zbi x a b).getD i default)).1≤1099511627776:=by
 have e:=zkd hf ha hb
 have hq:=kq hf ha hb hi
 have h2:=z0i hf hs.2 hq
 have h3:=zqb hf hq
 rw [ze1 hf hq ha,e] at hj
 rw [e] at hi
 have h4:=zx3 hf ha hb hi hj (k:=k)
 rw [h2.1,hs.1]
 exact ⟨h4,h3⟩
theorem zzk {n:Int} (h:0≤n) (k:Nat):0≤n / 2 ^ k∧n / 2 ^ k≤n:=⟨Int.ediv_nonneg h (Int.le_of_lt (zfj _)),Int.ediv_le_self _ h⟩
theorem z1p {x:Family} (hf:zbh x=true) {a b:Int} (ha:0≤a∧a<x.people.length) (hb:0≤b∧b<x.people.length) {s:Int} {m:KV→Option Int} (hs:s=P1 x a b (zbi x a b).length∧SeenOk x m):0≤s∧s≤4611686018427387904:=by
 have h1:=P1_le hf ha hb
 have h2:=(zgb hf ha hb).1
 have h3:0≤P1 x a b (zbk x a b).length:=zei fun q hq=>zei fun l _=>zei fun m _=>wq_nn hf (by have:=(zc5 x a b).2 q (List.mem_of_mem_take hq);omega) l m
 rw [zkd hf ha hb] at hs
 rw [hs.1]
 omega
end Go.Proofs.Ytaageiiodlfeiaa
