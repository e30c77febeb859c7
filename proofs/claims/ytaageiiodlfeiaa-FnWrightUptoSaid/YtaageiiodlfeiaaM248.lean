import Derived.Test.YtaageiiodlfeiaaM247
set_option maxHeartbeats 4000000
set_option linter.unusedSimpArgs false
set_option linter.unusedVariables false
namespace Go.Proofs.Ytaageiiodlfeiaa
open Go Go.Lite Go.Proofs
def C22 (R:Dyad×Bool):LV×List (Nat×BC):=(.tup [.agg [.int .i64 R.1.num,.int .i64 R.1.exp],.bool R.2],[])
def zc0 (x0:Family) (x1:Int) (x2:Int):Dyad×Bool:=bif (!(zfd x0 [x1,x2])) then ((Dyad.mk 0 0),false) else (loopN (fun i1 (v1:Int×(KV→Option Int)) nx1=>bif ((!((zbt x0 ((zbi x0 x1 x2).getD i1 default) x1).2))||(!((zbt x0 ((zbi x0 x1 x2).getD i1 default) x2).2))) then ((Dyad.mk 0 0),false) else (loopN (fun i2 (v2:Int×(KV→Option Int)) nx2=>loopN (fun i3 (v3:Int×(KV→Option Int)) next=>bif (zen (((((zbt x0 ((zbi x0 x1 x2).getD i1 default) x1).1).getD i2 default).drop 1).take (((((zbt x0 ((zbi x0 x1 x2).getD i1 default) x1).1).getD i2 default).length) - 1)) (((((zbt x0 ((zbi x0 x1 x2).getD i1 default) x2).1).getD i3 default).drop 1).take (((((zbt x0 ((zbi x0 x1 x2).getD i1 default) x2).1).getD i3 default).length) - 1))) then (next (v3.1+((1099511627776+((zcg (kin.mk x0 v3.2) ((zbi x0 x1 x2).getD i1 default)).1)) / 2 ^ ((((((((zbt x0 ((zbi x0 x1 x2).getD i1 default) x1).1).getD i2 default).length:Nat):Int)+(((((zbt x0 ((zbi x0 x1 x2).getD i1 default) x2).1).getD i3 default).length:Nat):Int)) - 1).toNat)),(zcg (kin.mk x0 v3.2) ((zbi x0 x1 x2).getD i1 default)).2)) else (next (v3.1,v3.2))) (fun (v3:Int×(KV→Option Int))=>nx2 (v3.1,v3.2)) (((zbt x0 ((zbi x0 x1 x2).getD i1 default) x2).1).length) 0 (v2.1,v2.2)) (fun (v2:Int×(KV→Option Int))=>nx1 (v2.1,v2.2)) (((zbt x0 ((zbi x0 x1 x2).getD i1 default) x1).1).length) 0 (v1.1,v1.2))) (fun (v1:Int×(KV→Option Int))=>(((zh3 v1.1 40).1),(zh3 v1.1 40).2)) ((zbi x0 x1 x2).length) 0 (0,(fun _=>none)))
def D22b1 (x0:Family) (x1:Int) (x2:Int) (i1:Nat) (v1:Int×(KV→Option Int)):Dl:=⟨[(35,.int .i64 ((i1:Nat):Int)),(9,.int .i64 v1.1)],[(30802,.mp .pair (.i v1.2)),(8,.var [.ro false 6 x0.people.length (rowOf (zca false) x0.people),.ro false 4 x0.unions.length (rowOf (zcu false) x0.unions),.mp 30802])]⟩
def D22b2 (x0:Family) (x1:Int) (x2:Int) (i1:Nat) (v1:Int×(KV→Option Int)) (i2:Nat) (v2:Int×(KV→Option Int)):Dl:=⟨[(62,.int .i64 ((i2:Nat):Int)),(9,.int .i64 v2.1)],[(40802,.mp .pair (.i v2.2)),(8,.var [.ro false 6 x0.people.length (rowOf (zca false) x0.people),.ro false 4 x0.unions.length (rowOf (zcu false) x0.unions),.mp 40802])]⟩
def D22b3 (x0:Family) (x1:Int) (x2:Int) (i1:Nat) (v1:Int×(KV→Option Int)) (i2:Nat) (v2:Int×(KV→Option Int)) (i3:Nat) (v3:Int×(KV→Option Int)):Dl:=⟨[(68,.int .i64 ((i3:Nat):Int)),(9,.int .i64 v3.1)],[(30802,.mp .pair (.i v3.2)),(8,.var [.ro false 6 x0.people.length (rowOf (zca false) x0.people),.ro false 4 x0.unions.length (rowOf (zcu false) x0.unions),.mp 30802])]⟩
def A22b3 (x0:Family) (x1:Int) (x2:Int) (i1:Nat) (v1:Int×(KV→Option Int)) (i2:Nat) (v2:Int×(KV→Option Int)) (i3:Nat) (v3:Int×(KV→Option Int)):Ann:=r0 1 [1,2,3,6,7,8,9,11,14,17,33,34,35,60,61,62,66,67,68,69] [3,6,8,1033,30802] (cn (decide (((i3:Nat):Int)<((((zbt x0 ((zbi x0 x1 x2).getD i1 default) x2).1).length:Nat):Int))) (.reg 2 [] [(1001,slC 73 (cInt .i64) ((((zbt x0 ((zbi x0 x1 x2).getD i1 default) x1).1).getD i2 default).length) (1) ((((((zbt x0 ((zbi x0 x1 x2).getD i1 default) x1).1).getD i2 default).length:Nat):Int)) 1 (((((zbt x0 ((zbi x0 x1 x2).getD i1 default) x1).1).getD i2 default).length) - 1) (((zbt x0 ((zbi x0 x1 x2).getD i1 default) x1).1).getD i2 default) rfl rfl),(1003,slC 75 (cInt .i64) ((((zbt x0 ((zbi x0 x1 x2).getD i1 default) x2).1).getD i3 default).length) (1) ((((((zbt x0 ((zbi x0 x1 x2).getD i1 default) x2).1).getD i3 default).length:Nat):Int)) 1 (((((zbt x0 ((zbi x0 x1 x2).getD i1 default) x2).1).getD i3 default).length) - 1) (((zbt x0 ((zbi x0 x1 x2).getD i1 default) x2).1).getD i3 default) rfl rfl),(1004,k49 (((((zbt x0 ((zbi x0 x1 x2).getD i1 default) x1).1).getD i2 default).drop 1).take (((((zbt x0 ((zbi x0 x1 x2).getD i1 default) x1).1).getD i2 default).length) - 1)) (((((zbt x0 ((zbi x0 x1 x2).getD i1 default) x2).1).getD i3 default).drop 1).take (((((zbt x0 ((zbi x0 x1 x2).getD i1 default) x2).1).getD i3 default).length) - 1)))] [1,2,3,6,7,8,9,11,14,17,19,33,34,35,60,61,62,66,67,68,76] [3,6,8,1033,30802] [] [pf (0≤(((i3:Nat):Int):Int)∧(((i3:Nat):Int):Int)<((((zbt x0 ((zbi x0 x1 x2).getD i1 default) x2).1).length:Nat):Int))] [] [0,4,8,12] (cn (zen (((((zbt x0 ((zbi x0 x1 x2).getD i1 default) x1).1).getD i2 default).drop 1).take (((((zbt x0 ((zbi x0 x1 x2).getD i1 default) x1).1).getD i2 default).length) - 1)) (((((zbt x0 ((zbi x0 x1 x2).getD i1 default) x2).1).getD i3 default).drop 1).take (((((zbt x0 ((zbi x0 x1 x2).getD i1 default) x2).1).getD i3 default).length) - 1))) (.reg 1 [] [(2,k50 79 [8,30802] (kin.mk x0 v3.2) ((zbi x0 x1 x2).getD i1 default))] [1,2,3,6,7,8,9,11,14,17,33,34,35,60,61,62,66,67,68] [3,6,8,1033,30802] [] [pf (inR .i64 (1099511627776+((zcg (kin.mk x0 v3.2) ((zbi x0 x1 x2).getD i1 default)).1))),pf (inR .i64 ((((((zbt x0 ((zbi x0 x1 x2).getD i1 default) x1).1).getD i2 default).length:Nat):Int)+(((((zbt x0 ((zbi x0 x1 x2).getD i1 default) x2).1).getD i3 default).length:Nat):Int))),pf (inR .i64 (((((((zbt x0 ((zbi x0 x1 x2).getD i1 default) x1).1).getD i2 default).length:Nat):Int)+(((((zbt x0 ((zbi x0 x1 x2).getD i1 default) x2).1).getD i3 default).length:Nat):Int)) - 1)),pf (0≤((((((((zbt x0 ((zbi x0 x1 x2).getD i1 default) x1).1).getD i2 default).length:Nat):Int)+(((((zbt x0 ((zbi x0 x1 x2).getD i1 default) x2).1).getD i3 default).length:Nat):Int)) - 1):Int)∧(((((((zbt x0 ((zbi x0 x1 x2).getD i1 default) x1).1).getD i2 default).length:Nat):Int)+(((((zbt x0 ((zbi x0 x1 x2).getD i1 default) x2).1).getD i3 default).length:Nat):Int)) - 1)≤(IntKind.bits .i64:Int)),pf (inR .i64 (v3.1+((1099511627776+((zcg (kin.mk x0 v3.2) ((zbi x0 x1 x2).getD i1 default)).1)) / 2 ^ ((((((((zbt x0 ((zbi x0 x1 x2).getD i1 default) x1).1).getD i2 default).length:Nat):Int)+(((((zbt x0 ((zbi x0 x1 x2).getD i1 default) x2).1).getD i3 default).length:Nat):Int)) - 1).toNat))))] [] [20,0,4,8,12,16] (r1 1 [1,2,3,6,7,8,9,11,14,17,33,34,35,60,61,62,66,67,68] [3,6,8,1033,30802] [pf (inR .i64 (((i3:Nat):Int)+1))] [0] (.next 0 [(30802,some 30802)] (D22b3 x0 x1 x2 i1 v1 i2 v2 (i3+1) (v3.1+((1099511627776+((zcg (kin.mk x0 v3.2) ((zbi x0 x1 x2).getD i1 default)).1)) / 2 ^ ((((((((zbt x0 ((zbi x0 x1 x2).getD i1 default) x1).1).getD i2 default).length:Nat):Int)+(((((zbt x0 ((zbi x0 x1 x2).getD i1 default) x2).1).getD i3 default).length:Nat):Int)) - 1).toNat)),(zcg (kin.mk x0 v3.2) ((zbi x0 x1 x2).getD i1 default)).2))))) (r1 1 [1,2,3,6,7,8,9,11,14,17,33,34,35,60,61,62,66,67,68] [3,6,8,1033,30802] [pf (inR .i64 (((i3:Nat):Int)+1))] [0] (.next 0 [(30802,some 30802)] (D22b3 x0 x1 x2 i1 v1 i2 v2 (i3+1) (v3.1,v3.2)))))) (r1 1 [1,2,3,6,7,8,9,11,14,33,34,35,60,61,62] [3,6,8,1033,30802] [pf (inR .i64 (((i2:Nat):Int)+1))] [0] (.next 1 [(40802,some 30802)] (D22b2 x0 x1 x2 i1 v1 (i2+1) (v3.1,v3.2)))))
def A22b2 (x0:Family) (x1:Int) (x2:Int) (i1:Nat) (v1:Int×(KV→Option Int)) (i2:Nat) (v2:Int×(KV→Option Int)):Ann:=r0 1 [1,2,3,6,7,8,9,11,14,33,34,35,60,61,62,63] [3,6,8,1033,40802] (cn (decide (((i2:Nat):Int)<((((zbt x0 ((zbi x0 x1 x2).getD i1 default) x1).1).length:Nat):Int))) (r1 2 [1,2,3,6,7,8,9,11,14,17,33,34,35,60,61,62,66,67,68] [3,6,8,1033,40802] [pf (0≤(((i2:Nat):Int):Int)∧(((i2:Nat):Int):Int)<((((zbt x0 ((zbi x0 x1 x2).getD i1 default) x1).1).length:Nat):Int))] [0] (lp (D22b3 x0 x1 x2 i1 v1 i2 v2) [] [40802] [(30802,some 40802)] (D22b3 x0 x1 x2 i1 v1 i2 v2 0 (v2.1,v2.2)) (A22b3 x0 x1 x2 i1 v1 i2 v2))) (r1 1 [1,2,3,6,7,8,9,33,34,35] [3,6,8,1033,40802] [pf (inR .i64 (((i1:Nat):Int)+1))] [0] (.next 1 [(30802,some 40802)] (D22b1 x0 x1 x2 (i1+1) (v2.1,v2.2)))))
def A22b1 (x0:Family) (x1:Int) (x2:Int) (i1:Nat) (v1:Int×(KV→Option Int)):Ann:=r0 1 [1,2,3,6,7,8,9,33,34,35,36] [3,6,8,1033,30802] (cn (decide (((i1:Nat):Int)<(((zbi x0 x1 x2).length:Nat):Int))) (.reg 3 [] [(1003,k48 x0 ((zbi x0 x1 x2).getD i1 default) x1),(2003,k48 x0 ((zbi x0 x1 x2).getD i1 default) x2)] [1,2,3,6,7,8,9,11,12,13,14,15,33,34,35] [3,6,8,1033,1043,1050,30802] [] [pf (0≤(((i1:Nat):Int):Int)∧(((i1:Nat):Int):Int)<(((zbi x0 x1 x2).length:Nat):Int))] [] [0,4,8] (.reg 1 [] [] [1,2,3,6,7,8,9,11,12,14,33,34,35,58] [3,6,8,1033,1043,1050,30802] [!(!((zbt x0 ((zbi x0 x1 x2).getD i1 default) x1).2)),!((zbt x0 ((zbi x0 x1 x2).getD i1 default) x1).2)] [] [] [1,6] (cn ((!((zbt x0 ((zbi x0 x1 x2).getD i1 default) x1).2))||(!((zbt x0 ((zbi x0 x1 x2).getD i1 default) x2).2))) (r0 1 [1,2,3,6,7,8,9,11,12,14,33,34,35] [3,6,8,1033,1043,1050,30802] (rt [] (C22 ((Dyad.mk 0 0),false)))) (r0 1 [1,2,3,6,7,8,9,11,14,33,34,35,60,61,62] [3,6,8,1033,1043,1050,30802] (.fits [] [1043] [] ⟨[(60,.ro true 1 (((zbt x0 ((zbi x0 x1 x2).getD i1 default) x1).1).length) (rowOf (cSl true 1 (cInt .i64)) ((zbt x0 ((zbi x0 x1 x2).getD i1 default) x1).1)))],[]⟩ (.fits [] [1050] [] ⟨[(14,.ro true 1 (((zbt x0 ((zbi x0 x1 x2).getD i1 default) x2).1).length) (rowOf (cSl true 1 (cInt .i64)) ((zbt x0 ((zbi x0 x1 x2).getD i1 default) x2).1)))],[]⟩ (lp (D22b2 x0 x1 x2 i1 v1) [] [30802] [(40802,some 30802)] (D22b2 x0 x1 x2 i1 v1 0 (v1.1,v1.2)) (A22b2 x0 x1 x2 i1 v1)))))))) (.reg 1 [] [(1,k51 v1.1 40)] [6,7] [6] [] [] [] [0] (rt [] (C22 (((zh3 v1.1 40).1),(zh3 v1.1 40).2)))))
def A22 (x0:Family) (x1:Int) (x2:Int):Ann:=r0 1 [1,2,3,6,7] [3,6] (.reg 1 [] [(3,bsC 23 (cInt .i64) ([x1,x2]:List Int)),(4,k39 x0 [x1,x2])] [1,2,3,6,7,25] [3,6] [] [] [] [0,4] (cn (!(zfd x0 [x1,x2])) (r0 1 [1,2,3,6,7] [3,6] (rt [] (C22 ((Dyad.mk 0 0),false)))) (r0 2 [1,2,3,6,7,8,9] [3,6,8,28] (.reg 1 [] [(3,k47 x0 x1 x2)] [1,2,3,6,7,8,9,33,34,35] [3,6,8,28,1033] [] [] [] [0] (lp (D22b1 x0 x1 x2) [] [28] [(30802,some 28)] (D22b1 x0 x1 x2 0 (0,(fun _=>none))) (A22b1 x0 x1 x2))))))
theorem zh8 (x0:Family) (x1:Int) (x2:Int) (hx:x0.people.length≤1048576) (hu:x0.unions.length≤1048576) (hn:∀ p∈x0.people,p.name.length≤1048576):FnT Try.prog 22 [.agg (zce false x0),.int .i64 x1,.int .i64 x2] (C22 (zc0 x0 x1 x2)):=by
 have aux:∀ R,zc0 x0 x1 x2=R→slim (C22 R) (A22 x0 x1 x2) []:=by
  intro R hR
  refine rg trivial ?_
  refine rg ⟨trivial,⟨by with_reducible assumption,by with_reducible assumption,by with_reducible assumption,by ((simp only [List.length_cons,List.length_nil]);omega)⟩,trivial⟩ ?_
  revert hR;refine cd (fun hc1 hR=>?_) fun hc1 hR=>?_
  ·
    refine rg trivial ?_
    exact congrArg C22 hR
  ·
    refine rg trivial ?_
    refine rg ⟨⟨by with_reducible assumption,by (have h9:=(zch x0 x1 x2).1 zav;with_reducible exact h9.2.1),by (have h9:=(zch x0 x1 x2).1 zav;with_reducible exact h9.2.2),by (have h9:=(zch x0 x1 x2).1 zav;with_reducible exact zcb _ h9.1)⟩,trivial⟩ ?_
    revert hR;refine lN (fun i v=>v.1=P1 x0 x1 x2 i∧SeenOk x0 v.2) (by (with_reducible exact kbi_0 x0 x1 x2)) rfl fun i1 v1 F1 hn1 hI1 hR hK1=>?_
    refine rg trivial ?_
    refine ⟨fun hc2=>?_,fun hc2=>?_⟩
    · have hii1:i1<(zbi x0 x1 x2).length:=by have:=of_decide_eq_true hc2;omega
      replace hR:=zb0 hR hii1
      refine rg ⟨by (intros;omega),⟨by (have h9:=(zch x0 x1 x2).1 zav;have h8:=(fam_n h9.1).1;omega),by (have h9:=(zch x0 x1 x2).1 zav;with_reducible exact h9.2.1),by (have h9:=(zch x0 x1 x2).1 zav;with_reducible exact zcb _ h9.1)⟩,⟨by (have h9:=(zch x0 x1 x2).1 zav;have h8:=(fam_n h9.1).1;omega),by (have h9:=(zch x0 x1 x2).1 zav;with_reducible exact h9.2.2),by (have h9:=(zch x0 x1 x2).1 zav;with_reducible exact zcb _ h9.1)⟩,trivial⟩ ?_
      refine rg trivial ?_
      revert hR;refine cd (fun hc3 hR=>?_) fun hc3 hR=>?_
      ·
        refine rg trivial ?_
        exact congrArg C22 hR
      ·
        refine rg trivial ?_
        refine ft ?_
        refine ft ?_
        revert hR;refine lN (fun i v=>v.1=P1 x0 x1 x2 i1+P2 x0 ((zbk x0 x1 x2).getD i1 default) x1 x2 i∧SeenOk x0 v.2) (by (with_reducible exact z0g hI1)) rfl fun i2 v2 F2 hn2 hI2 hR hK2=>?_
        refine rg trivial ?_
        refine ⟨fun hc4=>?_,fun hc4=>?_⟩
        · have hii2:i2<((zbt x0 ((zbi x0 x1 x2).getD i1 default) x1).1).length:=by have:=of_decide_eq_true hc4;omega
          replace hR:=zb0 hR hii2
          refine rg ⟨by (intros;omega),trivial⟩ ?_
          revert hR;refine lN (fun i v=>v.1=PS x0 x1 x2 i1 i2 i∧SeenOk x0 v.2) (by (with_reducible exact z0f hI2)) rfl fun i3 v3 F3 hn3 hI3 hR hK3=>?_
          refine rg trivial ?_
          refine ⟨fun hc5=>?_,fun hc5=>?_⟩
          · have hii3:i3<((zbt x0 ((zbi x0 x1 x2).getD i1 default) x2).1).length:=by have:=of_decide_eq_true hc5;omega
            replace hR:=zb0 hR hii3
            refine rg ⟨by (intros;omega),by (have h9:=(zch x0 x1 x2).1 zav;have h8:=ki h9.1 h9.2.1 h9.2.2 hii1 hii2 hii3;have h7:=h8.l1;have h6:=h8.m1;have h5:=h8.len;with_reducible refine ⟨rfl,om,om,om⟩),by (have h9:=(zch x0 x1 x2).1 zav;have h8:=ki h9.1 h9.2.1 h9.2.2 hii1 hii2 hii3;have h7:=h8.l1;have h6:=h8.m1;have h5:=h8.len;with_reducible refine ⟨rfl,om,om,om⟩),⟨by (have h9:=(zch x0 x1 x2).1 zav;have h8:=ki h9.1 h9.2.1 h9.2.2 hii1 hii2 hii3;have h7:=h8.l1;have h6:=h8.m1;have h5:=h8.len;(try simp only [List.length_take,List.length_drop]);omega),by (have h9:=(zch x0 x1 x2).1 zav;have h8:=ki h9.1 h9.2.1 h9.2.2 hii1 hii2 hii3;have h7:=h8.l1;have h6:=h8.m1;have h5:=h8.len;(try simp only [List.length_take,List.length_drop]);omega)⟩,trivial⟩ ?_
            revert hR;refine cd (fun hc6 hR=>?_) fun hc6 hR=>?_
            ·
              refine rg ⟨by (have h9:=(zch x0 x1 x2).1 zav;have h8:=ki h9.1 h9.2.1 h9.2.2 hii1 hii2 hii3;have h7:=h8.l1;have h6:=h8.m1;have h5:=h8.len;have h4:=zxh h9.1 h9.2.1 h9.2.2 hii1 hii2 hI3;(try simp only [inR]);omega),by (have h9:=(zch x0 x1 x2).1 zav;have h8:=ki h9.1 h9.2.1 h9.2.2 hii1 hii2 hii3;have h7:=h8.l1;have h6:=h8.m1;have h5:=h8.len;(try simp only [inR]);omega),by (have h9:=(zch x0 x1 x2).1 zav;have h8:=ki h9.1 h9.2.1 h9.2.2 hii1 hii2 hii3;have h7:=h8.l1;have h6:=h8.m1;have h5:=h8.len;(try simp only [inR]);omega),by (have h9:=(zch x0 x1 x2).1 zav;have h8:=ki h9.1 h9.2.1 h9.2.2 hii1 hii2 hii3;have h7:=h8.l1;have h6:=h8.m1;have h5:=h8.len;have h4:((IntKind.i64.bits:Nat):Int)=64:=(by decide);rw [h4];omega),by (have h9:=(zch x0 x1 x2).1 zav;have h8:=ki h9.1 h9.2.1 h9.2.2 hii1 hii2 hii3;have h7:=h8.l1;have h6:=h8.m1;have h5:=h8.len;have h4:=zxh h9.1 h9.2.1 h9.2.2 hii1 hii2 hI3;have h3:=zzk (n:=1099511627776+(zcg (kin.mk x0 v3.2) ((zbi x0 x1 x2).getD i1 default)).1) om ((((zbt x0 ((zbi x0 x1 x2).getD i1 default) x1).1.getD i2 default).length:Int)+(((zbt x0 ((zbi x0 x1 x2).getD i1 default) x2).1.getD i3 default).length:Int) - 1).toNat;(try simp only [inR]);omega),⟨by (have h9:=(zch x0 x1 x2).1 zav;with_reducible exact h9.1),by (have h9:=(zch x0 x1 x2).1 zav;with_reducible exact kq h9.1 h9.2.1 h9.2.2 hii1),by (with_reducible exact hI3.2)⟩,trivial⟩ ?_
              refine rg ⟨by (have h9:=(zch x0 x1 x2).1 zav;have h8:=zqa h9.1 h9.2.1 h9.2.2 hii1;(try simp only [inR]);omega),trivial⟩ ?_
              exact hK3 (v3.1+((1099511627776+((zcg (kin.mk x0 v3.2) ((zbi x0 x1 x2).getD i1 default)).1)) / 2 ^ ((((((((zbt x0 ((zbi x0 x1 x2).getD i1 default) x1).1).getD i2 default).length:Nat):Int)+(((((zbt x0 ((zbi x0 x1 x2).getD i1 default) x2).1).getD i3 default).length:Nat):Int)) - 1).toNat)),(zcg (kin.mk x0 v3.2) ((zbi x0 x1 x2).getD i1 default)).2) hii3 (by (have h9:=(zch x0 x1 x2).1 zav;with_reducible exact zxg h9.1 h9.2.1 h9.2.2 hii1 hii2 hii3 zbf hI3)) hR
            ·
              refine rg ⟨by (have h9:=(zch x0 x1 x2).1 zav;have h8:=zqa h9.1 h9.2.1 h9.2.2 hii1;(try simp only [inR]);omega),trivial⟩ ?_
              exact hK3 (v3.1,v3.2) hii3 (by (have h9:=(zch x0 x1 x2).1 zav;with_reducible exact z0h h9.1 h9.2.1 h9.2.2 hii1 hii3 zbf hI3)) hR
          · obtain rfl:i3=((zbt x0 ((zbi x0 x1 x2).getD i1 default) x2).1).length:=by have:=of_decide_eq_false hc5;omega
            replace hR:=zb4 hR (Nat.lt_irrefl _)
            refine rg ⟨by (have h9:=(zch x0 x1 x2).1 zav;have h8:=zqa h9.1 h9.2.1 h9.2.2 hii1;(try simp only [inR]);omega),trivial⟩ ?_
            exact hK2 (v3.1,v3.2) hii2 (by (have h9:=(zch x0 x1 x2).1 zav;with_reducible exact z0j h9.1 h9.2.1 h9.2.2 hii1 hii2 hI3)) hR
        · obtain rfl:i2=((zbt x0 ((zbi x0 x1 x2).getD i1 default) x1).1).length:=by have:=of_decide_eq_false hc4;omega
          replace hR:=zb4 hR (Nat.lt_irrefl _)
          refine rg ⟨by (have h9:=(zch x0 x1 x2).1 zav;have h8:=zv6 (zcb _ h9.1) h9.2.1 h9.2.2;(try simp only [inR]);omega),trivial⟩ ?_
          exact hK1 (v2.1,v2.2) hii1 (by (have h9:=(zch x0 x1 x2).1 zav;with_reducible exact z0k h9.1 h9.2.1 h9.2.2 hii1 hI2)) hR
    · obtain rfl:i1=(zbi x0 x1 x2).length:=by have:=of_decide_eq_false hc2;omega
      replace hR:=zb4 hR (Nat.lt_irrefl _)
      refine rg ⟨⟨by (have h9:=(zch x0 x1 x2).1 zav;with_reducible exact z1p h9.1 h9.2.1 h9.2.2 hI1),by (intros;omega)⟩,trivial⟩ ?_
      exact congrArg C22 hR
 exact Fn.go 96 Try.func22 zax zax (by simp [C22,Frs,FrsL]) (A22 x0 x1 x2) zax (aux _ rfl)
def k22 (x0:Family) (x1:Int) (x2:Int):Cl:=(hres (C22 (zc0 x0 x1 x2)),k3 (zh8 x0 x1 x2))
theorem zo7 : ∀ (e : Nat) (n : Int) (m : Nat), 0 ≤ n → e < m → (loopW (fun (v1 : Int × Int) next => bif ((decide (0 < v1.2)) && (decide ((v1.1.tmod 2) = 0))) then (next (v1.1.tdiv 2, v1.2 - 1)) else ((Dyad.mk v1.1 v1.2), zh2 (Dyad.mk v1.1 v1.2))) m (n, (e : Int))) = (red n e, zh2 (red n e))
  | 0,n,m+1,_,_=>rfl
  | e+1,n,m+1,hn,hm=>by
    simp only [loopW,red]
    rw [decide_eq_true (show (0:Int)<((e+1:Nat):Int) by omega),Bool.true_and,Int.tmod_eq_emod_of_nonneg hn,Int.tdiv_eq_ediv_of_nonneg hn]
    cases decide (n % 2=0)
    · rfl
    · simp only [cond_true]
      rw [show ((e+1:Nat):Int) - 1=(e:Int) by omega]
      exact zo7 e (n / 2) m om om
theorem zxw {n:Int} (hn:0≤n):zh3 n 40=(dy n,zh2 (dy n)):=by
 unfold zh3 dy
 exact zo7 40 n _ hn (by decide)
theorem dy_isD {n:Int} (h:0≤n∧n≤1099511627776) (h2:(2:Int) ^ 19 ∣ n):zh2 (dy n)=true:=by
 obtain ⟨j,k,h1,h3,h4,h5,h6⟩:=zjl 40 n h.1
 obtain ⟨c,hc⟩:=h2
 have hj:j≤21:=by
  rcases h6 with e | e
  ·omega
  ·rcases Nat.lt_or_ge k 19 with hk | hk
   ·exfalso
    have e2:(2:Int) ^ 19=2 ^ k * (2 * 2 ^ (18 - k)):=by rw [← Int.mul_assoc,← Int.pow_succ,← Int.pow_add];congr 1;omega
    rw [e2,Int.mul_assoc,← h4,Int.mul_comm] at hc
    have:=Int.eq_of_mul_eq_mul_left (Int.ne_of_gt (zfj k)) hc
    rw [Int.mul_assoc] at this
    omega
   ·omega
 have hn:(red n 40).num≤2097152:=by
  have h7 : (red n 40).num * 2 ^ 19 ≤ (red n 40).num * 2 ^ k := Int.mul_le_mul_of_nonneg_left (by
    have:(2:Int) ^ k=2 ^ 19 * 2 ^ (k - 19):=by rw [← Int.pow_add];congr 1;omega
    have h8:=zfj (k - 19)
    rw [this]
    have h9:=Int.mul_le_mul_of_nonneg_left (show (1:Int)≤2 ^ (k - 19) by omega) (show (0:Int)≤2 ^ 19 by decide)
    rwa [Int.mul_one] at h9) h5
  rw [h4] at h7
  have e3:(2:Int) ^ 19=524288:=by rfl
  rw [e3] at h7
  omega
 unfold zh2 dy
 simp only [Bool.and_eq_true,Bool.or_eq_true,decide_eq_true_eq]
 have h10:(red n 40).num.tmod 2=(red n 40).num % 2:=Int.tmod_eq_emod_of_nonneg h5
 omega
theorem kn_isD {x:Family} (hf:zbh x=true) {a b:Int} (ha:0≤a∧a<x.people.length) (hb:0≤b∧b<x.people.length):zh2 (dy (kn x a b))=true:=by
 have hn:=(fam_n hf).1
 have d1:=zgd hf ha
 have d2:=zgd hf hb
 exact dy_isD (zgb hf ha hb).1 (Int.dvd_trans (zh9 om) (zkc hf 100 a b ha hb om).2)
def fewL (x:Family) (a b:Int) (q:Int):Bool:=(zbl x q a).2&&(zbl x q b).2
def kblR (x:Family) (a b:Int):Dyad×Bool:=bif (zbk x a b).all (fewL x a b) then (dy (kn x a b),true) else (⟨0,0⟩,false)
theorem zxf {x:Family} {a b:Int} {i:Nat} (hi:i<(zbk x a b).length) (h:fewL x a b ((zbk x a b).getD i default)=false):kblR x a b=(⟨0,0⟩,false):=by
 unfold kblR
 have:(zbk x a b).all (fewL x a b)=false:=by
  rw [Bool.eq_false_iff]
  intro hh
  rw [List.all_eq_true] at hh
  rw [hh _ (zde hi)] at h
  cases h
 rw [this];rfl
theorem z0c {x:Family} (hf:zbh x=true) {a b:Int} (ha:0≤a∧a<x.people.length) (hb:0≤b∧b<x.people.length) (h:∀ i,i<(zbk x a b).length→fewL x a b ((zbk x a b).getD i default)=true):kblR x a b=(dy (kn x a b),true)∧P1 x a b (zbk x a b).length=kn x a b:=by
 have h1:∀ q∈zbk x a b,fewL x a b q=true:=fun q hq=>by
  obtain ⟨i,h1,h2⟩:=zgn (d:=default) hq
  rw [← h2];exact h i h1
 refine ⟨?_,P1_eq hf ha hb fun q hq=>?_⟩
 ·unfold kblR;rw [List.all_eq_true.2 h1];rfl
 ·have:=h1 q hq
  unfold fewL at this
  simpa using this
theorem few_f {p q:Bool} (h:(!p||!q)=false):(p&&q)=true:=by cases p<;>cases q<;>simp_all
theorem few_t {p q:Bool} (h:(!p||!q)=true):(p&&q)=false:=by cases p<;>cases q<;>simp_all
theorem zoo {x:Family} (hf:zbh x=true) {a b:Int} (ha:0≤a∧a<x.people.length) (hb:0≤b∧b<x.people.length):zeb x a b=kblR x a b:=by
 unfold zeb
 rw [(ze5 x a).2 ⟨ha,hf⟩,(ze5 x b).2 ⟨hb,hf⟩]
 rw [Bool.not_true,Bool.or_false,cond_false]
 refine zcc (fun i (v:Int×Int)=>Dyad.mk v.1 v.2=dy (P1 x a b i)∧∀ j,j<i→fewL x a b ((zbk x a b).getD j default)=true) (fun (r:Dyad×Bool)=>r=kblR x a b) ⟨PS_0 x a b,fun j hj=>absurd hj (Nat.not_lt_zero _)⟩ (fun i v nx hi hv hn=>?_) (fun v hv=>?_)
 ·refine zbz (p:=fun (r:Dyad×Bool)=>r=kblR x a b) (fun c=>(zxf hi (few_t c)).symm) (fun c=>?_)
  have hfew:∀ j,j<i+1→fewL x a b ((zbk x a b).getD j default)=true:=fun j hj=>by
   rcases Nat.lt_or_ge j i with h | h
   ·exact hv.2 j h
   ·have e:j=i:=by omega
    subst e;exact few_f c
  refine zcc (fun j (w:Int×Int)=>Dyad.mk w.1 w.2=dy (P1 x a b i+P2 x ((zbk x a b).getD i default) a b j)) (fun (r:Dyad×Bool)=>r=kblR x a b) (hv.1.trans (congrArg dy (znw x a b _ i))) (fun j w nx2 hj hw hn2=>?_) (fun w hw=>hn _ ⟨z0e hi hw,hfew⟩)
  refine zcc (fun k (u:Int×Int)=>Dyad.mk u.1 u.2=dy (PS x a b i j k)) (fun (r:Dyad×Bool)=>r=kblR x a b) (hw.trans (congrArg dy (znv x a b i j))) (fun k u nx3 hk hu hn3=>?_) (fun u hu=>hn2 _ (z0d hj hu))
  refine zbz (p:=fun (r:Dyad×Bool)=>r=kblR x a b) (fun c2=>hn3 _ ?_) (fun c2=>hn3 _ (z0b hk c2 hu))
  exact (zqi _).trans (zxe hf ha hb hi hj hk c2 hu)
 ·have h:=z0c hf ha hb hv.2
  rw [h.1,hv.1,h.2]
theorem zv2 {x:Family} (hf:zbh x=true) {a b:Int} (ha:0≤a∧a<x.people.length) (hb:0≤b∧b<x.people.length):zc0 x a b=kblR x a b:=by
 have ec:=zkd hf ha hb
 unfold zc0
 rw [(zch x a b).2 ⟨hf,ha,hb⟩,Bool.not_true,cond_false]
 refine zcc (fun i (v:Int×(KV→Option Int))=>(v.1=P1 x a b i∧SeenOk x v.2)∧∀ j,j<i→fewL x a b ((zbk x a b).getD j default)=true) (fun (r:Dyad×Bool)=>r=kblR x a b) ⟨kbi_0 x a b,fun j hj=>absurd hj (Nat.not_lt_zero _)⟩ (fun i v nx hi hv hn=>?_) (fun v hv=>?_)
 ·have hq:=kq hf ha hb hi
  refine zbz (p:=fun (r:Dyad×Bool)=>r=kblR x a b) (fun c=>?_) (fun c=>?_)
  ·rw [ze1 hf hq ha,ze1 hf hq hb,ec] at c
   exact (zxf (by rw [← ec];exact hi) (few_t c)).symm
  have hfew:∀ j,j<i+1→fewL x a b ((zbk x a b).getD j default)=true:=fun j hj=>by
   rcases Nat.lt_or_ge j i with h | h
   ·exact hv.2 j h
   ·have e:j=i:=by omega
    subst e
    rw [ze1 hf hq ha,ze1 hf hq hb,ec] at c
    exact few_f c
  refine zcc (fun j (w:Int×(KV→Option Int))=>w.1=P1 x a b i+P2 x ((zbk x a b).getD i default) a b j∧SeenOk x w.2) (fun (r:Dyad×Bool)=>r=kblR x a b) (z0g hv.1) (fun j w nx2 hj hw hn2=>?_) (fun w hw=>hn _ ⟨z0k hf ha hb hi hw,hfew⟩)
  refine zcc (fun k (u:Int×(KV→Option Int))=>u.1=PS x a b i j k∧SeenOk x u.2) (fun (r:Dyad×Bool)=>r=kblR x a b) (z0f hw) (fun k u nx3 hk hu hn3=>?_) (fun u hu=>hn2 _ (z0j hf ha hb hi hj hu))
  exact zbz (p:=fun (r:Dyad×Bool)=>r=kblR x a b) (fun c2=>hn3 _ (zxg hf ha hb hi hj hk c2 hu)) (fun c2=>hn3 _ (z0h hf ha hb hi hk c2 hu))
 ·have h:=z0c hf ha hb (fun i hi=>hv.2 i (by rw [ec];exact hi))
  have hk:=(zgb hf ha hb).1
  rw [h.1,hv.1.1,ec,h.2,zxw hk.1,kn_isD hf ha hb]
theorem kbl_eq (x:Family) (a b:Int):zc0 x a b=zeb x a b:=by
 cases c:((!l1Has x a)||(!l1Has x b)) with
 | false =>
  obtain ⟨hf,ha,hb⟩:=hasD c
  rw [zv2 hf ha hb,zoo hf ha hb]
 | true =>
  have h2:zfd x [a,b]=false:=by
   rw [Bool.eq_false_iff]
   intro hh
   have h3:=(zch x a b).1 hh
   rw [(ze5 x a).2 ⟨h3.2.1,h3.1⟩,(ze5 x b).2 ⟨h3.2.2,h3.1⟩] at c
   cases c
  unfold zc0 zeb
  rw [h2,c];rfl
end Go.Proofs.Ytaageiiodlfeiaa
