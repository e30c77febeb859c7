import Derived.Test.YtaageiiodlfeiaaGreatV48
set_option maxHeartbeats 4000000
set_option linter.unusedSimpArgs false
set_option linter.unusedVariables false
namespace Go.Proofs.YtaageiiodlfeiaaGreat
open Go Go.Lite Go.Proofs
def C74 (x0:l01Cur) (R:Family×Int×Int):LV×List (Nat×BC):=(.agg [.own 0,.own 1],[(900000,.var [.ro false 1 x0.b.length (rowOf (cInt .u8) x0.b),.int .i64 R.2.1,.int .i64 R.2.2]),(0,.arr 6 R.1.people.length (rowOf (zbq true) R.1.people)),(1,.arr 4 R.1.unions.length (rowOf (zb4 true) R.1.unions))])
def zjl (x0:l01Cur):Family×Int×Int:=jn (fun K1=>K1 (2+((za8 x0 2).1),(za8 x0 2).2.1,(za8 x0 2).2.2)) (fun (j1:Int×Int×Int)=>jn (fun K2=>K2 (((za8 (l01Cur.mk x0.b j1.2.1 j1.2.2) 10).1)+1,(za8 (l01Cur.mk x0.b j1.2.1 j1.2.2) 10).2.1,(za8 (l01Cur.mk x0.b j1.2.1 j1.2.2) 10).2.2)) (fun (j2:Int×Int×Int)=>loopW (fun (v1:Int×(List Person)×Int×Int) nx1=>bif ((decide (0<v1.1))&&(decide ((((v1.2.1.length:Nat):Int)+j1.1)≤40))) then (loopN (fun i2 (v2:(List Person)×Int×Int) next=>jn (fun K3=>jn (fun K4=>bif (decide (0<((v1.2.1.length:Nat):Int))) then (K4 ((decide (0<((v1.2.1.length:Nat):Int)))&&(!((zbo (l01Cur.mk x0.b v2.2.1 v2.2.2) 12).1)),(zbo (l01Cur.mk x0.b v2.2.1 v2.2.2) 12).2.1,(zbo (l01Cur.mk x0.b v2.2.1 v2.2.2) 12).2.2)) else (K4 ((decide (0<((v1.2.1.length:Nat):Int)))&&(!true),v2.2.1,v2.2.2))) (fun (j4:Bool×Int×Int)=>bif j4.1 then (K3 (j4.2.1,j4.2.2,((v1.2.1.length:Nat):Int) - j1.1)) else (K3 (j4.2.1,j4.2.2,(-1))))) (fun (j3:Int×Int×Int)=>jn (fun K5=>bif (decide (0<((v1.2.1.length:Nat):Int))) then (K5 ((decide (0<((v1.2.1.length:Nat):Int)))&&(!((zbo (l01Cur.mk x0.b j3.1 j3.2.1) 12).1)),(zbo (l01Cur.mk x0.b j3.1 j3.2.1) 12).2.1,(zbo (l01Cur.mk x0.b j3.1 j3.2.1) 12).2.2)) else (K5 ((decide (0<((v1.2.1.length:Nat):Int)))&&(!true),j3.1,j3.2.1))) (fun (j5:Bool×Int×Int)=>bif j5.1 then (next ((v2.1++[(Person.mk (zbz (((v1.2.1.length:Nat):Int)+((i2:Nat):Int))) (1+(((i2:Nat):Int).tmod 2)) j3.2.2 ((((v1.2.1.length:Nat):Int) - j1.1)+1) (25 * (12 - v1.1)) (-1))]),j5.2.1,j5.2.2)) else (next ((v2.1++[(Person.mk (zbz (((v1.2.1.length:Nat):Int)+((i2:Nat):Int))) (1+(((i2:Nat):Int).tmod 2)) j3.2.2 (-1) (25 * (12 - v1.1)) (-1))]),j5.2.1,j5.2.2))))) (fun (v2:(List Person)×Int×Int)=>nx1 (v1.1 - 1,v2.1,v2.2.1,v2.2.2)) j1.1.toNat 0 (v1.2.1,v1.2.2.1,v1.2.2.2)) else ((Family.mk v1.2.1 ([]:List Union)),v1.2.2.1,v1.2.2.2)) (Int.toNat (j2.1)+1) (j2.1,([]:List Person),j2.2.1,j2.2.2)))
def D74j1 (x0:l01Cur) (j1:Int×Int×Int):Dl:=⟨[(4,.int .i64 j1.1)],[(900000,.var [.ro false 1 x0.b.length (rowOf (cInt .u8) x0.b),.int .i64 j1.2.1,.int .i64 j1.2.2])]⟩
def D74j2 (x0:l01Cur) (j1:Int×Int×Int) (j2:Int×Int×Int):Dl:=⟨[(5,.int .i64 j2.1)],[(900000,.var [.ro false 1 x0.b.length (rowOf (cInt .u8) x0.b),.int .i64 j2.2.1,.int .i64 j2.2.2])]⟩
def D74b1 (x0:l01Cur) (j1:Int×Int×Int) (j2:Int×Int×Int) (v1:Int×(List Person)×Int×Int):Dl:=⟨[(5,.int .i64 v1.1)],[(30300,.arr 6 v1.2.1.length (rowOf (zbq true) v1.2.1)),(3,.var [.own 30300,.nilS]),(900000,.var [.ro false 1 x0.b.length (rowOf (cInt .u8) x0.b),.int .i64 v1.2.2.1,.int .i64 v1.2.2.2])]⟩
def D74b2 (x0:l01Cur) (j1:Int×Int×Int) (j2:Int×Int×Int) (v1:Int×(List Person)×Int×Int) (i2:Nat) (v2:(List Person)×Int×Int):Dl:=⟨[(7,.int .i64 ((i2:Nat):Int))],[(40300,.arr 6 v2.1.length (rowOf (zbq true) v2.1)),(3,.var [.own 40300,.nilS]),(900000,.var [.ro false 1 x0.b.length (rowOf (cInt .u8) x0.b),.int .i64 v2.2.1,.int .i64 v2.2.2])]⟩
def D74j3 (x0:l01Cur) (j1:Int×Int×Int) (j2:Int×Int×Int) (v1:Int×(List Person)×Int×Int) (i2:Nat) (v2:(List Person)×Int×Int) (j3:Int×Int×Int):Dl:=⟨[],[(900000,.var [.ro false 1 x0.b.length (rowOf (cInt .u8) x0.b),.int .i64 j3.1,.int .i64 j3.2.1]),(8,.var [.str (zbz (((v1.2.1.length:Nat):Int)+((i2:Nat):Int))),.int .i64 (1+(((i2:Nat):Int).tmod 2)),.int .i64 j3.2.2,.int .i64 (-1),.int .i64 (25 * (12 - v1.1)),.int .i64 (-1)])]⟩
def D74j4 (x0:l01Cur) (j1:Int×Int×Int) (j2:Int×Int×Int) (v1:Int×(List Person)×Int×Int) (i2:Nat) (v2:(List Person)×Int×Int) (j4:Bool×Int×Int):Dl:=⟨[(53,.bool j4.1)],[(900000,.var [.ro false 1 x0.b.length (rowOf (cInt .u8) x0.b),.int .i64 j4.2.1,.int .i64 j4.2.2])]⟩
def A74j4 (x0:l01Cur) (j1:Int×Int×Int) (j2:Int×Int×Int) (v1:Int×(List Person)×Int×Int) (i2:Nat) (v2:(List Person)×Int×Int) (j4:Bool×Int×Int):Ann:=cn j4.1 (r1 1 [0,2,3,4,5,6,7,8] [2,3,8,40300,900000] [pf (inR .i64 (((v1.2.1.length:Nat):Int) - j1.1))] [0] (.next 0 [] (D74j3 x0 j1 j2 v1 i2 v2 (j4.2.1,j4.2.2,((v1.2.1.length:Nat):Int) - j1.1)))) (.next 0 [] (D74j3 x0 j1 j2 v1 i2 v2 (j4.2.1,j4.2.2,(-1))))
def D74j5 (x0:l01Cur) (j1:Int×Int×Int) (j2:Int×Int×Int) (v1:Int×(List Person)×Int×Int) (i2:Nat) (v2:(List Person)×Int×Int) (j3:Int×Int×Int) (j5:Bool×Int×Int):Dl:=⟨[(64,.bool j5.1)],[(900000,.var [.ro false 1 x0.b.length (rowOf (cInt .u8) x0.b),.int .i64 j5.2.1,.int .i64 j5.2.2])]⟩
def A74j5 (x0:l01Cur) (j1:Int×Int×Int) (j2:Int×Int×Int) (v1:Int×(List Person)×Int×Int) (i2:Nat) (v2:(List Person)×Int×Int) (j3:Int×Int×Int) (j5:Bool×Int×Int):Ann:=cn j5.1 (r1 1 [0,2,3,4,5,6,7,8] [2,3,8,40300,900000] [pf (inR .i64 (((v1.2.1.length:Nat):Int) - j1.1)),pf (inR .i64 ((((v1.2.1.length:Nat):Int) - j1.1)+1))] [0,4] (.reg 1 [] [(3,bsC 73 (zbq true) ([(Person.mk (zbz (((v1.2.1.length:Nat):Int)+((i2:Nat):Int))) (1+(((i2:Nat):Int).tmod 2)) j3.2.2 ((((v1.2.1.length:Nat):Int) - j1.1)+1) (25 * (12 - v1.1)) (-1))]:List Person)),(4,ap1 74 (zbq true) 56 v2.1 (Person.mk (zbz (((v1.2.1.length:Nat):Int)+((i2:Nat):Int))) (1+(((i2:Nat):Int).tmod 2)) j3.2.2 ((((v1.2.1.length:Nat):Int) - j1.1)+1) (25 * (12 - v1.1)) (-1)))] [0,2,3,4,5,6,7] [2,3,74,900000] [] [] [] [0,4] (r1 1 [0,2,3,4,5,6,7] [2,3,74,900000] [pf (inR .i64 (((i2:Nat):Int)+1))] [0] (.next 0 [(40300,some 74)] (D74b2 x0 j1 j2 v1 (i2+1) ((v2.1++[(Person.mk (zbz (((v1.2.1.length:Nat):Int)+((i2:Nat):Int))) (1+(((i2:Nat):Int).tmod 2)) j3.2.2 ((((v1.2.1.length:Nat):Int) - j1.1)+1) (25 * (12 - v1.1)) (-1))]),j5.2.1,j5.2.2)))))) (.reg 1 [] [(3,bsC 73 (zbq true) ([(Person.mk (zbz (((v1.2.1.length:Nat):Int)+((i2:Nat):Int))) (1+(((i2:Nat):Int).tmod 2)) j3.2.2 (-1) (25 * (12 - v1.1)) (-1))]:List Person)),(4,ap1 74 (zbq true) 56 v2.1 (Person.mk (zbz (((v1.2.1.length:Nat):Int)+((i2:Nat):Int))) (1+(((i2:Nat):Int).tmod 2)) j3.2.2 (-1) (25 * (12 - v1.1)) (-1)))] [0,2,3,4,5,6,7] [2,3,74,900000] [] [] [] [0,4] (r1 1 [0,2,3,4,5,6,7] [2,3,74,900000] [pf (inR .i64 (((i2:Nat):Int)+1))] [0] (.next 0 [(40300,some 74)] (D74b2 x0 j1 j2 v1 (i2+1) ((v2.1++[(Person.mk (zbz (((v1.2.1.length:Nat):Int)+((i2:Nat):Int))) (1+(((i2:Nat):Int).tmod 2)) j3.2.2 (-1) (25 * (12 - v1.1)) (-1))]),j5.2.1,j5.2.2)))))
def A74j3 (x0:l01Cur) (j1:Int×Int×Int) (j2:Int×Int×Int) (v1:Int×(List Person)×Int×Int) (i2:Nat) (v2:(List Person)×Int×Int) (j3:Int×Int×Int):Ann:=.join 1 (Bool×Int×Int) (D74j5 x0 j1 j2 v1 i2 v2 j3) [0,2,3,4,5,6,7,8] [900000,2,3,40300,8] (.split (decide (0<((v1.2.1.length:Nat):Int))) (.reg 1 [] [(4,cT (k76 62 [900000] (l01Cur.mk x0.b j3.1 j3.2.1) 12))] [0,2,3,4,5,6,7,8,64] [2,3,8,40300,900000] [decide (0<((v1.2.1.length:Nat):Int))] [pf ((decide (0<((v1.2.1.length:Nat):Int)))=true)] [] [0,0,4,1] (.next 0 [] (D74j5 x0 j1 j2 v1 i2 v2 j3 ((decide (0<((v1.2.1.length:Nat):Int)))&&(!((zbo (l01Cur.mk x0.b j3.1 j3.2.1) 12).1)),(zbo (l01Cur.mk x0.b j3.1 j3.2.1) 12).2.1,(zbo (l01Cur.mk x0.b j3.1 j3.2.1) 12).2.2)))) (.reg 1 [(4,.gF)] [] [0,2,3,4,5,6,7,8,64] [2,3,8,40300,900000] [decide (0<((v1.2.1.length:Nat):Int))] [pf ((decide (0<((v1.2.1.length:Nat):Int)))=false),gt (decide (0<((v1.2.1.length:Nat):Int))) (pf (false=true))] [] [0,4,1] (.next 0 [] (D74j5 x0 j1 j2 v1 i2 v2 j3 ((decide (0<((v1.2.1.length:Nat):Int)))&&(!true),j3.1,j3.2.1))))) (A74j5 x0 j1 j2 v1 i2 v2 j3)
def A74b2 (x0:l01Cur) (j1:Int×Int×Int) (j2:Int×Int×Int) (v1:Int×(List Person)×Int×Int) (i2:Nat) (v2:(List Person)×Int×Int):Ann:=r0 1 [0,2,3,4,5,6,7,33] [2,3,40300,900000] (cn (decide (((i2:Nat):Int)<j1.1)) (.reg 1 [] [(3,k122 (((v1.2.1.length:Nat):Int)+((i2:Nat):Int)))] [0,2,3,4,5,6,7,8] [2,3,8,40300,900000] [] [pf (inR .i64 (((v1.2.1.length:Nat):Int)+((i2:Nat):Int))),pf ((2:Int)≠0),pf (inR .i64 (1+(((i2:Nat):Int).tmod 2))),pf (inR .i64 (12 - v1.1)),pf (inR .i64 (25 * (12 - v1.1)))] [] [0,20,4,8,12,16] (.join 0 (Int×Int×Int) (D74j3 x0 j1 j2 v1 i2 v2) [0,2,3,4,5,6,7,8] [900000,2,3,40300,8] (.join 0 (Bool×Int×Int) (D74j4 x0 j1 j2 v1 i2 v2) [0,2,3,4,5,6,7,8] [900000,2,3,40300,8] (.split (decide (0<((v1.2.1.length:Nat):Int))) (.reg 1 [] [(4,cT (k76 51 [900000] (l01Cur.mk x0.b v2.2.1 v2.2.2) 12))] [0,2,3,4,5,6,7,8,53] [2,3,8,40300,900000] [decide (0<((v1.2.1.length:Nat):Int))] [pf ((decide (0<((v1.2.1.length:Nat):Int)))=true)] [] [0,0,4,1] (.next 0 [] (D74j4 x0 j1 j2 v1 i2 v2 ((decide (0<((v1.2.1.length:Nat):Int)))&&(!((zbo (l01Cur.mk x0.b v2.2.1 v2.2.2) 12).1)),(zbo (l01Cur.mk x0.b v2.2.1 v2.2.2) 12).2.1,(zbo (l01Cur.mk x0.b v2.2.1 v2.2.2) 12).2.2)))) (.reg 1 [(4,.gF)] [] [0,2,3,4,5,6,7,8,53] [2,3,8,40300,900000] [decide (0<((v1.2.1.length:Nat):Int))] [pf ((decide (0<((v1.2.1.length:Nat):Int)))=false),gt (decide (0<((v1.2.1.length:Nat):Int))) (pf (false=true))] [] [0,4,1] (.next 0 [] (D74j4 x0 j1 j2 v1 i2 v2 ((decide (0<((v1.2.1.length:Nat):Int)))&&(!true),v2.2.1,v2.2.2))))) (A74j4 x0 j1 j2 v1 i2 v2)) (A74j3 x0 j1 j2 v1 i2 v2))) (r1 1 [0,2,3,4,5] [2,3,40300,900000] [pf (inR .i64 (v1.1 - 1))] [0] (.next 1 [(30300,some 40300)] (D74b1 x0 j1 j2 (v1.1 - 1,v2.1,v2.2.1,v2.2.2)))))
def A74b1 (x0:l01Cur) (j1:Int×Int×Int) (j2:Int×Int×Int) (v1:Int×(List Person)×Int×Int):Ann:=.reg 1 [] [] [0,2,3,4,5,25] [2,3,30300,900000] [decide (0<v1.1)] [gt (decide (0<v1.1)) (pf (inR .i64 (((v1.2.1.length:Nat):Int)+j1.1)))] [] [1,1,1,1,0,1,1] (cn ((decide (0<v1.1))&&(decide ((((v1.2.1.length:Nat):Int)+j1.1)≤40))) (r0 2 [0,2,3,4,5,6,7] [2,3,30300,900000] (lp (D74b2 x0 j1 j2 v1) [] [30300] [(40300,some 30300)] (D74b2 x0 j1 j2 v1 0 (v1.2.1,v1.2.2.1,v1.2.2.2)) (A74b2 x0 j1 j2 v1))) (r0 1 [2] [2,30300,900000] (rt [(900000,some 900000),(0,some 30300),(1,none)] (C74 x0 ((Family.mk v1.2.1 ([]:List Union)),v1.2.2.1,v1.2.2.2)))))
def A74j2 (x0:l01Cur) (j1:Int×Int×Int) (j2:Int×Int×Int):Ann:=.loop (Int×(List Person)×Int×Int) (D74b1 x0 j1 j2) [] [] [(30300,none)] (D74b1 x0 j1 j2 (j2.1,([]:List Person),j2.2.1,j2.2.2)) (A74b1 x0 j1 j2)
def A74j1 (x0:l01Cur) (j1:Int×Int×Int):Ann:=.join 1 (Int×Int×Int) (D74j2 x0 j1) [0,2,3,4] [900000,2,3] (.reg 1 [] [(1,k75 14 [900000] (l01Cur.mk x0.b j1.2.1 j1.2.2) 10)] [0,2,3,4,5] [2,3,900000] [] [pf (inR .i64 (((za8 (l01Cur.mk x0.b j1.2.1 j1.2.2) 10).1)+1))] [] [4,0] (.next 0 [] (D74j2 x0 j1 (((za8 (l01Cur.mk x0.b j1.2.1 j1.2.2) 10).1)+1,(za8 (l01Cur.mk x0.b j1.2.1 j1.2.2) 10).2.1,(za8 (l01Cur.mk x0.b j1.2.1 j1.2.2) 10).2.2)))) (A74j2 x0 j1)
def A74 (x0:l01Cur):Ann:=r0 2 [0,2,3] [2,3,900000] (.join 0 (Int×Int×Int) (D74j1 x0) [0,2,3] [900000,2,3] (.reg 1 [] [(1,k75 11 [900000] x0 2)] [0,2,3,4] [2,3,900000] [] [pf (inR .i64 (2+((za8 x0 2).1)))] [] [4,0] (.next 0 [] (D74j1 x0 (2+((za8 x0 2).1),(za8 x0 2).2.1,(za8 x0 2).2.2)))) (A74j1 x0))
theorem znd (x0:l01Cur) (hc:CurOk x0):FnMT Tryz.prog 74 [.vp 900000 0] [.var [.ro false 1 x0.b.length (rowOf (cInt .u8) x0.b),.int .i64 x0.i,.int .i64 x0.h]] (C74 x0 (zjl x0)):=by
 have aux:∀ R,zjl x0=R→slim (C74 x0 R) (A74 x0) []:=by
  intro R hR
  refine rg trivial ?_
  revert hR;refine jN (fun v=>(2≤v.1∧v.1≤3)∧CurOk ⟨x0.b,v.2.1,v.2.2⟩) (fun F101 hR hJ101=>?_) (fun j1 hR hJ1=>?_)
  ·
    refine rg ⟨by (have h9:=zbw hc (n:=2) om;simp only [inR];omega),⟨by with_reducible assumption,by (intros;omega)⟩,trivial⟩ ?_
    exact hJ101 (2+((za8 x0 2).1),(za8 x0 2).2.1,(za8 x0 2).2.2) hR (by (have h9:=zbw hc (n:=2) om;have h8:=h9.1.2.2 om;refine ⟨?_,h9.2⟩;dsimp only;omega))
  ·
    revert hR;refine jN (fun v=>(1≤v.1∧v.1≤10)∧CurOk ⟨x0.b,v.2.1,v.2.2⟩) (fun F102 hR hJ102=>?_) (fun j2 hR hJ2=>?_)
    ·
      refine rg ⟨by (have h9:=zbw hJ1.2 (n:=10) om;simp only [inR];omega),⟨by (with_reducible exact hJ1.2),by (intros;omega)⟩,trivial⟩ ?_
      exact hJ102 (((za8 (l01Cur.mk x0.b j1.2.1 j1.2.2) 10).1)+1,(za8 (l01Cur.mk x0.b j1.2.1 j1.2.2) 10).2.1,(za8 (l01Cur.mk x0.b j1.2.1 j1.2.2) 10).2.2) hR (by (have h9:=zbw hJ1.2 (n:=10) om;have h8:=h9.1.2.2 om;refine ⟨?_,h9.2⟩;dsimp only;omega))
    ·
      revert hR;refine lW (fun v=>CurOk ⟨x0.b,v.2.2.1,v.2.2.2⟩∧Gen j1.1 v.1 v.2.1) (fun v=>Int.toNat (v.1)) (by (with_reducible exact ⟨hJ2.2,Gen.nil (by have h9:=hJ2.1;omega)⟩)) (Nat.lt_succ_self _) rfl fun m1 v1 F1 hI1 hM1 hR hK1=>?_
      refine rg ⟨by (have h4:=hJ1.1;have h5:=hI1.2.gb;have h6:=hI1.2.ok.len;intro h9;simp only [inR];omega),trivial⟩ ?_
      revert hR;refine cd (fun hc1 hR=>?_) fun hc1 hR=>?_
      ·
        refine rg trivial ?_
        revert hR;refine lN (fun i v=>CurOk ⟨x0.b,v.2.1,v.2.2⟩∧GenI j1.1 v1.1 v1.2.1 i v.1) (by (with_reducible exact ⟨hI1.1,hI1.2.start⟩)) rfl fun i2 v2 F2 hn2 hI2 hR hK2=>?_
        refine rg trivial ?_
        refine ⟨fun hc2=>?_,fun hc2=>?_⟩
        · have hii2:i2<j1.1.toNat:=by have:=of_decide_eq_true hc2;omega
          replace hR:=zbj hR hii2
          refine rg ⟨by (have h4:=hJ1.1;have h5:=hI1.2.gb;have h6:=hI1.2.ok.len;have h7:=hI2.2.len;simp only [Bool.and_eq_true,decide_eq_true_eq] at hc1;simp only [inR];omega),by (intros;omega),by (have h4:=hJ1.1;have h5:=hI1.2.gb;have h6:=hI1.2.ok.len;have h7:=hI2.2.len;simp only [Bool.and_eq_true,decide_eq_true_eq] at hc1;have h8:(i2:Int).tmod 2=(i2:Int) % 2:=Int.tmod_eq_emod_of_nonneg om;simp only [inR];omega),by (have h4:=hJ1.1;have h5:=hI1.2.gb;have h6:=hI1.2.ok.len;have h7:=hI2.2.len;simp only [Bool.and_eq_true,decide_eq_true_eq] at hc1;simp only [inR];omega),by (have h4:=hJ1.1;have h5:=hI1.2.gb;have h6:=hI1.2.ok.len;have h7:=hI2.2.len;simp only [Bool.and_eq_true,decide_eq_true_eq] at hc1;simp only [inR];omega),by (have h4:=hJ1.1;have h5:=hI1.2.gb;have h6:=hI1.2.ok.len;have h7:=hI2.2.len;simp only [Bool.and_eq_true,decide_eq_true_eq] at hc1;omega),trivial⟩ ?_
          revert hR;refine jN (fun v=>CurOk ⟨x0.b,v.1,v.2.1⟩∧(v.2.2=-1∨0<v1.2.1.length∧v.2.2=(v1.2.1.length:Int) - j1.1)) (fun F103 hR hJ103=>?_) (fun j3 hR hJ3=>?_)
          ·
            revert hR;refine jN (fun v=>CurOk ⟨x0.b,v.2.1,v.2.2⟩∧(v.1=true→0<v1.2.1.length)) (fun F104 hR hJ104=>?_) (fun j4 hR hJ4=>?_)
            ·
              revert hR;refine cd (fun hs3 hR=>?_) fun hs3 hR=>?_
              ·
                refine rg ⟨by with_reducible assumption,⟨by (with_reducible exact hI2.1),by (intros;omega)⟩,trivial⟩ ?_
                exact hJ104 ((decide (0<((v1.2.1.length:Nat):Int)))&&(!((zbo (l01Cur.mk x0.b v2.2.1 v2.2.2) 12).1)),(zbo (l01Cur.mk x0.b v2.2.1 v2.2.2) 12).2.1,(zbo (l01Cur.mk x0.b v2.2.1 v2.2.2) 12).2.2) hR (by (with_reducible exact ⟨zcy hI2.1 om,fun h9=>by simp only [Bool.and_eq_true,decide_eq_true_eq] at h9;omega⟩))
              ·
                refine rg ⟨by with_reducible assumption,by (intro h9;exact absurd h9 (by simp_all)),trivial⟩ ?_
                exact hJ104 ((decide (0<((v1.2.1.length:Nat):Int)))&&(!true),v2.2.1,v2.2.2) hR (by (with_reducible exact ⟨hI2.1,fun h9=>by simp only [Bool.and_eq_true,decide_eq_true_eq] at h9;omega⟩))
            ·
              revert hR;refine cd (fun hc4 hR=>?_) fun hc4 hR=>?_
              ·
                refine rg ⟨by (have h4:=hJ1.1;have h5:=hI1.2.gb;have h6:=hI1.2.ok.len;have h7:=hI2.2.len;simp only [Bool.and_eq_true,decide_eq_true_eq] at hc1;simp only [inR];omega),trivial⟩ ?_
                exact hJ103 (j4.2.1,j4.2.2,((v1.2.1.length:Nat):Int) - j1.1) hR (by (have h9:=hJ4.2 za3;with_reducible exact ⟨hJ4.1,.inr ⟨h9,rfl⟩⟩))
              ·
                exact hJ103 (j4.2.1,j4.2.2,(-1)) hR (by (with_reducible exact ⟨hJ4.1,.inl rfl⟩))
          ·
            revert hR;refine jN (fun v=>CurOk ⟨x0.b,v.2.1,v.2.2⟩∧(v.1=true→0<v1.2.1.length)) (fun F105 hR hJ105=>?_) (fun j5 hR hJ5=>?_)
            ·
              revert hR;refine cd (fun hs5 hR=>?_) fun hs5 hR=>?_
              ·
                refine rg ⟨by with_reducible assumption,⟨by (with_reducible exact hJ3.1),by (intros;omega)⟩,trivial⟩ ?_
                exact hJ105 ((decide (0<((v1.2.1.length:Nat):Int)))&&(!((zbo (l01Cur.mk x0.b j3.1 j3.2.1) 12).1)),(zbo (l01Cur.mk x0.b j3.1 j3.2.1) 12).2.1,(zbo (l01Cur.mk x0.b j3.1 j3.2.1) 12).2.2) hR (by (with_reducible exact ⟨zcy hJ3.1 om,fun h9=>by simp only [Bool.and_eq_true,decide_eq_true_eq] at h9;omega⟩))
              ·
                refine rg ⟨by with_reducible assumption,by (intro h9;exact absurd h9 (by simp_all)),trivial⟩ ?_
                exact hJ105 ((decide (0<((v1.2.1.length:Nat):Int)))&&(!true),j3.1,j3.2.1) hR (by (with_reducible exact ⟨hJ3.1,fun h9=>by simp only [Bool.and_eq_true,decide_eq_true_eq] at h9;omega⟩))
            ·
              revert hR;refine cd (fun hc6 hR=>?_) fun hc6 hR=>?_
              ·
                refine rg ⟨by (have h4:=hJ1.1;have h5:=hI1.2.gb;have h6:=hI1.2.ok.len;have h7:=hI2.2.len;simp only [Bool.and_eq_true,decide_eq_true_eq] at hc1;simp only [inR];omega),by (have h4:=hJ1.1;have h5:=hI1.2.gb;have h6:=hI1.2.ok.len;have h7:=hI2.2.len;simp only [Bool.and_eq_true,decide_eq_true_eq] at hc1;simp only [inR];omega),trivial⟩ ?_
                refine rg ⟨trivial,by (have h4:=hJ1.1;have h5:=hI1.2.gb;have h6:=hI1.2.ok.len;have h7:=hI2.2.len;simp only [Bool.and_eq_true,decide_eq_true_eq] at hc1;omega),trivial⟩ ?_
                refine rg ⟨by (have h9:=zbw hc (n:=2) om;simp only [inR];omega),trivial⟩ ?_
                exact hK2 ((v2.1++[(Person.mk (zbz (((v1.2.1.length:Nat):Int)+((i2:Nat):Int))) (1+(((i2:Nat):Int).tmod 2)) j3.2.2 ((((v1.2.1.length:Nat):Int) - j1.1)+1) (25 * (12 - v1.1)) (-1))]),j5.2.1,j5.2.2) hii2 (by (have h4:=hJ1.1;have h5:=hI1.2.gb;have h6:=hI1.2.ok.len;have h7:=hI2.2.len;simp only [Bool.and_eq_true,decide_eq_true_eq] at hc1;have h8:=hJ5.2 za3;with_reducible exact ⟨hJ5.1,hI2.2.step hI1.2 om h4 om om hJ3.2 (.inr ⟨h8,rfl⟩)⟩)) hR
              ·
                refine rg ⟨trivial,by (have h4:=hJ1.1;have h5:=hI1.2.gb;have h6:=hI1.2.ok.len;have h7:=hI2.2.len;simp only [Bool.and_eq_true,decide_eq_true_eq] at hc1;omega),trivial⟩ ?_
                refine rg ⟨by (have h9:=zbw hc (n:=2) om;simp only [inR];omega),trivial⟩ ?_
                exact hK2 ((v2.1++[(Person.mk (zbz (((v1.2.1.length:Nat):Int)+((i2:Nat):Int))) (1+(((i2:Nat):Int).tmod 2)) j3.2.2 (-1) (25 * (12 - v1.1)) (-1))]),j5.2.1,j5.2.2) hii2 (by (have h4:=hJ1.1;have h5:=hI1.2.gb;have h6:=hI1.2.ok.len;have h7:=hI2.2.len;simp only [Bool.and_eq_true,decide_eq_true_eq] at hc1;with_reducible exact ⟨hJ5.1,hI2.2.step hI1.2 om h4 om om hJ3.2 (.inl rfl)⟩)) hR
        · obtain rfl:i2=j1.1.toNat:=by have:=of_decide_eq_false hc2;omega
          replace hR:=zbp hR (Nat.lt_irrefl _)
          refine rg ⟨by (have h4:=hJ1.1;have h5:=hI1.2.gb;have h6:=hI1.2.ok.len;have h7:=hI2.2.len;simp only [Bool.and_eq_true,decide_eq_true_eq] at hc1;simp only [inR];omega),trivial⟩ ?_
          exact hK1 (v1.1 - 1,v2.1,v2.2.1,v2.2.2) (by (have h4:=hJ1.1;have h5:=hI1.2.gb;have h6:=hI1.2.ok.len;have h7:=hI2.2.len;simp only [Bool.and_eq_true,decide_eq_true_eq] at hc1;with_reducible exact ⟨hI2.1,hI2.2.done hI1.2 om h4⟩)) (by (have h4:=hJ1.1;have h5:=hI1.2.gb;have h6:=hI1.2.ok.len;have h7:=hI2.2.len;simp only [Bool.and_eq_true,decide_eq_true_eq] at hc1;simp only [inR];omega)) hR
      ·
        refine rg trivial ?_
        exact congrArg (C74 x0) hR
 exact FnM.go 77 Tryz.func74 zah zah (A74 x0) zah (aux _ rfl)
def k74 (d:Nat) (ids:List Nat) (x0:l01Cur):Cl:=(hresM d ids (C74 x0 (zjl x0)),k1 (znd x0))
theorem jn_to {S α:Type} {f:(S→α)→α} {k:S→α} (J:S→Prop) (Q:α→Prop) (h1:∀ K:S→α,(∀ v,J v→Q (K v))→Q (f K)) (h2:∀ v,J v→Q (k v)):Q (jn f k):=h1 k h2
theorem zzd (c:l01Cur) {x:Family} (hf:za4 x=true):za4 (l1Wed c x).1=true:=by
 unfold l1Wed
 refine jn_to (fun _=>True) (fun (r:Family×Int×Int)=>za4 r.1=true) (fun K hK=>hK _ trivial) fun j1 _=>?_
 refine ze0 (fun v=>za4 ⟨v.2.1,v.2.2.1⟩=true) (fun v=>Int.toNat v.1) (fun (r:Family×Int×Int)=>za4 r.1=true) (fun v next hv hn=>?_) _ _ (Nat.lt_succ_self _) (by cases x;exact hf)
 refine zbm (p:=fun (r:Family×Int×Int)=>za4 r.1=true) (fun c1=>?_) (fun _=>hv)
 have c1:=of_decide_eq_true c1
 refine jn_to (fun _=>True) (fun (r:Family×Int×Int)=>za4 r.1=true) (fun K hK=>hK _ trivial) fun j2 _=>?_
 refine jn_to (fun _=>True) (fun (r:Family×Int×Int)=>za4 r.1=true) (fun K hK=>hK _ trivial) fun j3 _=>?_
 refine zbm (p:=fun (r:Family×Int×Int)=>za4 r.1=true) (fun _=>hn _ hv zay) (fun _=>?_)
 refine jn_to (fun _=>True) (fun (r:Family×Int×Int)=>za4 r.1=true) (fun K hK=>hK _ trivial) fun j4 _=>?_
 refine zbm (p:=fun (r:Family×Int×Int)=>za4 r.1=true) (fun _=>?_) (fun _=>?_)
 ·exact zbm (p:=fun (r:Family×Int×Int)=>za4 r.1=true) (fun c2=>hn _ c2 zay) (fun _=>hn _ hv zay)
 ·exact zbm (p:=fun (r:Family×Int×Int)=>za4 r.1=true) (fun c2=>hn _ c2 zay) (fun _=>hn _ hv zay)
theorem zud {x0:l01Cur} (hc:CurOk x0) {x1:Int} (hm:0≤x1∧x1≤40):za4 (zhq x0 x1).1=true:=by
 unfold zhq
 refine jn_to (fun j=>(1≤j.1∧j.1≤25)∧CurOk ⟨x0.b,j.2.1,j.2.2⟩) (fun (r:Family×Int×Int)=>za4 r.1=true) (fun K hK=>hK _ ⟨mem4 (zcl hc zaj).1,(zcl hc zaj).2⟩) fun j1 hJ1=>?_
 refine jn_to (fun j=>(1≤j.1∧j.1≤9)∧CurOk ⟨x0.b,j.2.1,j.2.2⟩) (fun (r:Family×Int×Int)=>za4 r.1=true) (fun K hK=>hK _ ⟨mem3b (zcl hJ1.2 zaj).1,(zcl hJ1.2 zaj).2⟩) fun j2 hJ2=>?_
 refine jn_to (fun j=>CurOk ⟨x0.b,j.1,j.2.1⟩∧Mk j.2.2.2.1∧j.2.2.2.2=[]) (fun (r:Family×Int×Int)=>za4 r.1=true) (fun K3 hK3=>?_) fun j3 hJ3=>?_
 ·refine jn_to (fun j=>(0≤j.1∧j.1≤40)∧CurOk ⟨x0.b,j.2.1,j.2.2⟩) (fun (r:Family×Int×Int)=>za4 r.1=true) (fun K hK=>?_) fun j4 hJ4=>?_
  ·have h9:=zbw hJ2.2 (n:=x1+1) om
   exact hK _ ⟨⟨h9.1.1,by have:=h9.1.2.2 om;dsimp only;omega⟩,h9.2⟩
  refine ze0 (fun v=>((v.2.2.1.length:Int)+v.1≤40∧Mk v.2.2.1∧MkB v.2.2.1)∧v.2.2.2.1=[]∧CurOk ⟨x0.b,v.2.2.2.2.1,v.2.2.2.2.2⟩) (fun v=>Int.toNat v.1) (fun (r:Family×Int×Int)=>za4 r.1=true) (fun v1 next hI1 hn=>?_) _ _ (Nat.lt_succ_self _) ⟨⟨by simp only [List.length_nil];omega,Mk.nil,MkB.nil⟩,rfl,hJ4.2⟩
  refine zbm (p:=fun (r:Family×Int×Int)=>za4 r.1=true) (fun c1=>?_) (fun _=>hK3 _ ⟨hI1.2.2,hI1.1.2.1,hI1.2.1⟩)
  have c1:=of_decide_eq_true c1
  have hb2:=zbw hI1.2.2 (n:=2) om
  refine jn_to (fun j=>CurOk ⟨x0.b,j.1,j.2.1⟩∧PaDp v1.2.2.1 j.2.2 1) (fun (r:Family×Int×Int)=>za4 r.1=true) (fun K5 hK5=>?_) fun j5 hJ5=>?_
  ·refine jn_to (fun j=>CurOk ⟨x0.b,j.2.1,j.2.2⟩) (fun (r:Family×Int×Int)=>za4 r.1=true) (fun K hK=>hK _ (zcy hb2.2 (by have:=hJ2.1;omega))) fun j6 hJ6=>?_
   exact zbm (p:=fun (r:Family×Int×Int)=>za4 r.1=true) (fun _=>hK5 _ (zqu hJ6 hI1.1.2.1 _ 1)) (fun _=>hK5 _ ⟨hJ6,zri _ _⟩)
  refine jn_to (fun j=>CurOk ⟨x0.b,j.1,j.2.1⟩∧PaDp v1.2.2.1 j.2.2 2) (fun (r:Family×Int×Int)=>za4 r.1=true) (fun K7 hK7=>?_) fun j7 hJ7=>?_
  ·refine jn_to (fun j=>CurOk ⟨x0.b,j.2.1,j.2.2⟩) (fun (r:Family×Int×Int)=>za4 r.1=true) (fun K hK=>hK _ (zcy hJ5.1 (by have:=hJ2.1;omega))) fun j8 hJ8=>?_
   exact zbm (p:=fun (r:Family×Int×Int)=>za4 r.1=true) (fun _=>hK7 _ (zqu hJ8 hI1.1.2.1 _ 2)) (fun _=>hK7 _ ⟨hJ8,zri _ _⟩)
  refine jn_to (fun j=>CurOk ⟨x0.b,j.1,j.2.1⟩∧0≤j.2.2∧j.2.2≤11) (fun (r:Family×Int×Int)=>za4 r.1=true) (fun K hK=>?_) fun j9 hJ9=>?_
  ·have h9:=zbw hJ7.1 (n:=12) om
   exact hK _ ⟨h9.2,h9.1.1,by have:=h9.1.2.2 om;dsimp only;omega⟩
  refine zb3 (fun i v=>CurOk ⟨x0.b,v.2.1,v.2.2⟩∧Born v1.2.2.1 (zbe (Family.mk [(Person.mk (zbz ((v1.2.2.1.length:Nat):Int)) (1+((za8 (l01Cur.mk x0.b v1.2.2.2.2.1 v1.2.2.2.2.2) 2).1)) j5.2.2 j7.2.2 j9.2.2 (-1))] ([]:List Union)) 0) i v.1) (fun (r:Family×Int×Int)=>za4 r.1=true) ⟨hJ9.1,born0 hJ9.2⟩ (fun i2 v2 next2 hi hI2 hn2=>?_) fun v2 hI2=>?_
  ·have h7:=zbw hI2.1 (n:=6) om
   exact hn2 _ ⟨h7.2,zth hI2.2 hi hJ1.1 ⟨h7.1.1,h7.1.2.2 om⟩⟩
  have h8:=hI1.1.1
  have h5:=hb2.1.2.2 om
  have h7:=hI1.1.2.1.grow hI1.1.2.2 om (s:=(1+((za8 (l01Cur.mk x0.b v1.2.2.2.2.1 v1.2.2.2.2.2) 2).1))) om hJ5.2.1 hJ7.2.1 hJ5.2.2 hJ7.2.2 hI2.2.1 hI2.2.2.1 (zvr hI2.2)
  exact hn _ ⟨⟨by simp only [List.length_append,List.length_singleton];omega,h7.1,h7.2⟩,hI1.2.1,hI2.1⟩ zay
 refine zb3 (fun i v=>CurOk ⟨x0.b,v.2.1,v.2.2⟩∧Dying j3.2.2.2.1 v.1) (fun (r:Family×Int×Int)=>za4 r.1=true) ⟨hJ3.1,Dying.refl hJ3.2.1⟩ (fun i3 v3 next hi hI3 hn=>?_) fun v3 hI3=>?_
 ·refine jn_to (fun j=>CurOk ⟨x0.b,j.2.1,j.2.2⟩) (fun (r:Family×Int×Int)=>za4 r.1=true) (fun K hK=>hK _ (zcy hI3.1 om)) fun j10 hJ10=>?_
  refine zbm (p:=fun (r:Family×Int×Int)=>za4 r.1=true) (fun _=>?_) (fun _=>hn _ ⟨hJ10,hI3.2⟩)
  refine zb3 (fun i t=>Last v3.1 (zb9 (Family.mk v3.1 j3.2.2.2.2) ((i3:Nat):Int)) i3 i t) (fun (r:Family×Int×Int)=>za4 r.1=true) (last0 hJ3.2.1 hI3.2 hi) (fun i4 v4 next4 hi4 hI4 hn4=>?_) fun v4 hI4=>?_
  ·exact hn4 _ (zsx hI4 (zuh hJ3.2.1 hI3.2 (by have h9:=zg4 hi4;dsimp only at h9;omega)).2)
  ·exact hn _ ⟨(zcl hJ10 zaj).2,zz8 hJ3.2.1 hI3.2 hi hI4 (mem5b (zcl hJ10 zaj).1)⟩
 ·refine jn_to (fun j=>za4 ⟨j.1,j.2.1⟩=true) (fun (r:Family×Int×Int)=>za4 r.1=true) (fun K hK=>hK _ ?_) fun j11 hJ11=>hJ11
  have e:∀ z:Family,za4 z=true→za4 ⟨z.people,z.unions⟩=true:=fun z h=>by cases z;exact h
  have h9:=zzd (l01Cur.mk x0.b v3.2.1 v3.2.2) (x:=Family.mk v3.1 j3.2.2.2.2) (by rw [hJ3.2.2];exact hI3.2.valid hJ3.2.1)
  revert h9
  generalize l1Wed (l01Cur.mk x0.b v3.2.1 v3.2.2) (Family.mk v3.1 j3.2.2.2.2)=z
  intro h9
  exact e z.1 h9
theorem zwg {x0:l01Cur} (hc:CurOk x0):za4 (zjl x0).1=true:=by
 unfold zjl
 refine jn_to (fun j=>(2≤j.1∧j.1≤3)∧CurOk ⟨x0.b,j.2.1,j.2.2⟩) (fun (r:Family×Int×Int)=>za4 r.1=true) (fun K hK=>?_) fun j1 hJ1=>?_
 ·have h9:=zbw hc (n:=2) om
  have h8:=h9.1.2.2 om
  exact hK _ ⟨by dsimp only;omega,h9.2⟩
 refine jn_to (fun j=>(1≤j.1∧j.1≤10)∧CurOk ⟨x0.b,j.2.1,j.2.2⟩) (fun (r:Family×Int×Int)=>za4 r.1=true) (fun K hK=>?_) fun j2 hJ2=>?_
 ·have h9:=zbw hJ1.2 (n:=10) om
  have h8:=h9.1.2.2 om
  exact hK _ ⟨by dsimp only;omega,h9.2⟩
 refine ze0 (fun v=>CurOk ⟨x0.b,v.2.2.1,v.2.2.2⟩∧Gen j1.1 v.1 v.2.1) (fun v=>Int.toNat v.1) (fun (r:Family×Int×Int)=>za4 r.1=true) (fun v1 next hI1 hn=>?_) _ _ (Nat.lt_succ_self _) ⟨hJ2.2,Gen.nil (by have h9:=hJ2.1;omega)⟩
 refine zbm (p:=fun (r:Family×Int×Int)=>za4 r.1=true) (fun c1=>?_) (fun _=>(Dying.refl hI1.2.ok).valid hI1.2.ok)
 simp only [Bool.and_eq_true,decide_eq_true_eq] at c1
 have h4:=hJ1.1
 refine zb3 (fun i v=>CurOk ⟨x0.b,v.2.1,v.2.2⟩∧GenI j1.1 v1.1 v1.2.1 i v.1) (fun (r:Family×Int×Int)=>za4 r.1=true) ⟨hI1.1,hI1.2.start⟩ (fun i2 v2 next2 hi hI2 hn2=>?_) fun v2 hI2=>?_
 ·refine jn_to (fun j=>CurOk ⟨x0.b,j.1,j.2.1⟩∧(j.2.2=-1∨0<v1.2.1.length∧j.2.2=(v1.2.1.length:Int) - j1.1)) (fun (r:Family×Int×Int)=>za4 r.1=true) (fun K3 hK3=>?_) fun j3 hJ3=>?_
  ·refine jn_to (fun j=>CurOk ⟨x0.b,j.2.1,j.2.2⟩∧(j.1=true→0<v1.2.1.length)) (fun (r:Family×Int×Int)=>za4 r.1=true) (fun K hK=>?_) fun j4 hJ4=>?_
   ·exact zbm (p:=fun (r:Family×Int×Int)=>za4 r.1=true) (fun _=>hK _ ⟨zcy hI2.1 om,fun h9=>by simp only [Bool.and_eq_true,decide_eq_true_eq] at h9;omega⟩) (fun _=>hK _ ⟨hI2.1,fun h9=>by simp only [Bool.and_eq_true,decide_eq_true_eq] at h9;omega⟩)
   ·exact zbm (p:=fun (r:Family×Int×Int)=>za4 r.1=true) (fun c=>hK3 _ ⟨hJ4.1,.inr ⟨hJ4.2 c,rfl⟩⟩) (fun _=>hK3 _ ⟨hJ4.1,.inl rfl⟩)
  ·refine jn_to (fun j=>CurOk ⟨x0.b,j.2.1,j.2.2⟩∧(j.1=true→0<v1.2.1.length)) (fun (r:Family×Int×Int)=>za4 r.1=true) (fun K hK=>?_) fun j5 hJ5=>?_
   ·exact zbm (p:=fun (r:Family×Int×Int)=>za4 r.1=true) (fun _=>hK _ ⟨zcy hJ3.1 om,fun h9=>by simp only [Bool.and_eq_true,decide_eq_true_eq] at h9;omega⟩) (fun _=>hK _ ⟨hJ3.1,fun h9=>by simp only [Bool.and_eq_true,decide_eq_true_eq] at h9;omega⟩)
   ·exact zbm (p:=fun (r:Family×Int×Int)=>za4 r.1=true) (fun c=>hn2 _ ⟨hJ5.1,hI2.2.step hI1.2 om h4 om om hJ3.2 (.inr ⟨hJ5.2 c,rfl⟩)⟩) (fun _=>hn2 _ ⟨hJ5.1,hI2.2.step hI1.2 om h4 om om hJ3.2 (.inl rfl)⟩)
 ·exact hn _ ⟨hI2.1,hI2.2.done hI1.2 om h4⟩ zay
theorem zgi {b:List Int} (hb:∀ y∈b,0≤y∧y≤255) (hx:b.length≤1048576):CurOk (zfy b):=by
 unfold zfy
 refine ze0 (fun v=>(0≤v.1∧v.1≤1073741823)∧0≤v.2) (fun v=>4000 - Int.toNat v.2) (fun (r:l01Cur)=>CurOk r) (fun v next hv hn=>?_) _ _ (Nat.lt_succ_self _) zaz
 refine zbm (p:=fun (r:l01Cur)=>CurOk r) (fun c=>hn _ ?_ ?_) (fun _=>⟨hb,hx,⟨by simp only;omega,by simp only;omega⟩,by simp only [inR];omega⟩)
 ·exact ⟨zhf _ 1073741823 1073741823 rfl om,by dsimp only;omega⟩
 ·simp only [Bool.and_eq_true,decide_eq_true_eq] at c;dsimp only;omega
def C31 (R:Family):LV×List (Nat×BC):=(.agg [.own 0,.own 1],[(0,.arr 6 R.people.length (rowOf (zbq true) R.people)),(1,.arr 4 R.unions.length (rowOf (zb4 true) R.unions))])
def zee (x0:List Int) (x1:Int):Family:=((zhq (zfy x0) (Max.max 0 (Min.min x1 40))).1)
def A31 (x0:List Int) (x1:Int):Ann:=.reg 2 [] [(1001,k34 6 [] x0),(1005,k73 10 [1006] (zfy x0) (Max.max 0 (Min.min x1 40)))] [4] [4,1010,2010] [] [] [] [0,4] (rt [(0,some 1010),(1,some 2010)] (C31 ((zhq (zfy x0) (Max.max 0 (Min.min x1 40))).1)))
theorem zjy (x0:List Int) (x1:Int) (hx:x0.length≤1048576) (hb:∀ y∈x0,0≤y∧y≤255):FnT Tryz.prog 31 [.ro false 1 x0.length (rowOf (cInt .u8) x0),.int .i64 x1] (C31 (zee x0 x1)):=by
 have aux:∀ R,zee x0 x1=R→slim (C31 R) (A31 x0 x1) []:=by
  intro R hR
  refine rg ⟨⟨by trivial,by trivial⟩,⟨by (exact zgi hb hx),by (intros;omega)⟩,trivial⟩ ?_
  exact congrArg C31 hR
 exact Fn.go 11 Tryz.func31 zah zah (by simp [C31,Frs,FrsL,FrsB,rowOf,cInt,cBool,cStr,cSl,zce,zbq,zb4,zbx,cDyad,cLaw,zd4]) (A31 x0 x1) zah (aux _ rfl)
def k31 (x0:List Int) (x1:Int):Cl:=(hres (C31 (zee x0 x1)),k2 (zjy x0 x1))
def C32 (R:Family):LV×List (Nat×BC):=(.agg [.own 0,.own 1],[(0,.arr 6 R.people.length (rowOf (zbq true) R.people)),(1,.arr 4 R.unions.length (rowOf (zb4 true) R.unions))])
def zet (x0:List Int):Family:=((zjl (zfy x0)).1)
def A32 (x0:List Int):Ann:=.reg 2 [] [(1001,k34 4 [] x0),(1002,k74 5 [1004] (zfy x0))] [2] [2,1005,2005] [] [] [] [0,4] (rt [(0,some 1005),(1,some 2005)] (C32 ((zjl (zfy x0)).1)))
theorem zkz (x0:List Int) (hx:x0.length≤1048576) (hb:∀ y∈x0,0≤y∧y≤255):FnT Tryz.prog 32 [.ro false 1 x0.length (rowOf (cInt .u8) x0)] (C32 (zet x0)):=by
 have aux:∀ R,zet x0=R→slim (C32 R) (A32 x0) []:=by
  intro R hR
  refine rg ⟨⟨by trivial,by trivial⟩,by (exact zgi hb hx),trivial⟩ ?_
  exact congrArg C32 hR
 exact Fn.go 6 Tryz.func32 zah zah (by simp [C32,Frs,FrsL,FrsB,rowOf,cInt,cBool,cStr,cSl,zce,zbq,zb4,zbx,cDyad,cLaw,zd4]) (A32 x0) zah (aux _ rfl)
def k32 (x0:List Int):Cl:=(hres (C32 (zet x0)),k2 (zkz x0))
def C14 (R:Int):LV×List (Nat×BC):=(.int .i64 R,[])
def at1 (x0:List Int) (x1:Int):Int:=bif (decide (x1<((x0.length:Nat):Int))) then (x0.getD x1.toNat default) else (((x1 * 37)+(((x0.length:Nat):Int) * 11)).tmod 256)
def A14 (x0:List Int) (x1:Int):Ann:=r0 1 [0,1,4] [] (r0 1 [0,1,4,8] [] (cn (decide (x1<((x0.length:Nat):Int))) (r1 1 [0,1,4] [] [pf (0≤(x1:Int)∧(x1:Int)<((x0.length:Nat):Int)),pf (inR .i64 (x0.getD x1.toNat default))] [0,4] (rt [] (C14 (x0.getD x1.toNat default)))) (r1 1 [4] [] [pf (inR .i64 (x1 * 37)),pf (inR .i64 (((x0.length:Nat):Int) * 11)),pf (inR .i64 ((x1 * 37)+(((x0.length:Nat):Int) * 11))),pf ((256:Int)≠0)] [0,4,8,12] (rt [] (C14 (((x1 * 37)+(((x0.length:Nat):Int) * 11)).tmod 256))))))
theorem zci {b:List Int} (hb:∀ y∈b,0≤y∧y≤255) {i:Int} (hi:0≤i):0≤at1 b i∧at1 b i≤255:=by
 unfold at1
 refine zbm (p:=fun (r:Int)=>0≤r∧r≤255) (fun _=>zew hb _) (fun _=>?_)
 rw [Int.tmod_eq_emod_of_nonneg om]
 omega
theorem zv5 (x0:List Int) (x1:Int) (hx:x0.length≤1048576) (hb:∀ y∈x0,0≤y∧y≤255) (hi:0≤x1∧x1≤1000):FnT Tryz.prog 14 [.ro false 1 x0.length (rowOf (cInt .u8) x0),.int .i64 x1] (C14 (at1 x0 x1)):=by
 have aux:∀ R,at1 x0 x1=R→slim (C14 R) (A14 x0 x1) []:=by
  intro R hR
  refine rg trivial ?_
  refine rg trivial ?_
  revert hR;refine cd (fun hc1 hR=>?_) fun hc1 hR=>?_
  ·
    refine rg ⟨by ((try clear hR);intros;(try simp only [decide_eq_true_eq,decide_eq_false_iff_not,Bool.or_eq_true,Bool.and_eq_true,zbd,za9,zba,Bool.not_eq_true',inR] at *);(repeat' apply And.intro)<;>(intros;omega)),by (have h9:=zew hb x1.toNat;simp only [inR];omega),trivial⟩ ?_
    exact congrArg C14 hR
  ·
    refine rg ⟨by ( intros;simp only [inR];omega),by ( intros;simp only [inR];omega),by ( intros;simp only [inR];omega),by trivial,trivial⟩ ?_
    exact congrArg C14 hR
 exact Fn.go 21 Tryz.func14 zah zah (by simp [C14,Frs,FrsL]) (A14 x0 x1) zah (aux _ rfl)
def k14 (x0:List Int) (x1:Int):Cl:=(hres (C14 (at1 x0 x1)),k3 (zv5 x0 x1))
def C10 (R:Int):LV×List (Nat×BC):=(.int .i64 R,[])
def who (x0:List Int) (x1:Int) (x2:Family):Int:=(at1 x0 x1).tmod ((x2.people.length:Nat):Int)
def A10 (x0:List Int) (x1:Int) (x2:Family):Ann:=.reg 2 [] [(1002,k14 x0 x1)] [6] [] [] [pf ((((x2.people.length:Nat):Int):Int)≠0)] [] [4,0] (rt [] (C10 ((at1 x0 x1).tmod ((x2.people.length:Nat):Int))))
theorem zql {b:List Int} (hb:∀ y∈b,0≤y∧y≤255) {i:Int} (hi:0≤i) {x:Family} (hx:0<x.people.length):0≤who b i x∧who b i x<x.people.length:=by
 unfold who
 have h:=zci hb hi
 rw [Int.tmod_eq_emod_of_nonneg h.1]
 exact ⟨Int.emod_nonneg _ om,Int.emod_lt_of_pos _ om⟩
theorem zt2 (x0:List Int) (x1:Int) (x2:Family) (hx:x0.length≤1048576) (hb:∀ y∈x0,0≤y∧y≤255) (hi:0≤x1∧x1≤1000) (hf:0<x2.people.length∧x2.people.length≤40):FnT Tryz.prog 10 [.ro false 1 x0.length (rowOf (cInt .u8) x0),.int .i64 x1,.agg (zbx false x2)] (C10 (who x0 x1 x2)):=by
 have aux:∀ R,who x0 x1 x2=R→slim (C10 R) (A10 x0 x1 x2) []:=by
  intro R hR
  refine rg ⟨by (intros;omega),⟨by trivial,by trivial,by trivial⟩,trivial⟩ ?_
  exact congrArg C10 hR
 exact Fn.go 14 Tryz.func10 zah zah (by simp [C10,Frs,FrsL]) (A10 x0 x1 x2) zah (aux _ rfl)
def k10 (x0:List Int) (x1:Int) (x2:Family):Cl:=(hres (C10 (who x0 x1 x2)),k4 (zt2 x0 x1 x2))
def C5 (R:Family):LV×List (Nat×BC):=(.agg [.own 0,.own 1],[(0,.arr 6 R.people.length (rowOf (zbq true) R.people)),(1,.arr 4 R.unions.length (rowOf (zb4 true) R.unions))])
def crowd (x0:List Int) (x1:Int):Family:=bif (decide (((at1 x0 9).tmod 4)=0)) then (bif (decide (((((zet x0).people).length:Nat):Int)=0)) then (Family.mk [(Person.mk [97,97] 1 (-1) (-1) 0 (-1))] ((zet x0).unions)) else (zet x0)) else (bif (decide (((((zee x0 x1).people).length:Nat):Int)=0)) then (Family.mk [(Person.mk [97,97] 1 (-1) (-1) 0 (-1))] ((zee x0 x1).unions)) else (zee x0 x1))
def A5 (x0:List Int) (x1:Int):Ann:=.reg 2 [] [(1002,k31 x0 x1)] [0,4,5] [4,5,1008,2008] [] [] [] [0] (.reg 1 [] [(1,k14 x0 9)] [0,4,5,12] [4,5,1008,2008] [] [pf ((4:Int)≠0)] [] [4,0] (cn (decide (((at1 x0 9).tmod 4)=0)) (.reg 1 [] [(1,k32 x0)] [4,5] [4,5,1014,2014] [] [] [] [0] (r0 1 [4,5,18] [4,5,1014,2014] (cn (decide (((((zet x0).people).length:Nat):Int)=0)) (.reg 1 [] [(1,bsC 20 (zbq true) ([(Person.mk [97,97] 1 (-1) (-1) 0 (-1))]:List Person))] [4,5] [4,5,20,2014] [] [] [] [0] (r0 1 [4] [4,20,2014] (rt [(0,some 20),(1,some 2014)] (C5 (Family.mk [(Person.mk [97,97] 1 (-1) (-1) 0 (-1))] ((zet x0).unions)))))) (r0 1 [4] [4,1014,2014] (rt [(0,some 1014),(1,some 2014)] (C5 (zet x0))))))) (r0 1 [4,5,18] [4,5,1008,2008] (cn (decide (((((zee x0 x1).people).length:Nat):Int)=0)) (.reg 1 [] [(1,bsC 20 (zbq true) ([(Person.mk [97,97] 1 (-1) (-1) 0 (-1))]:List Person))] [4,5] [4,5,20,2008] [] [] [] [0] (r0 1 [4] [4,20,2008] (rt [(0,some 20),(1,some 2008)] (C5 (Family.mk [(Person.mk [97,97] 1 (-1) (-1) 0 (-1))] ((zee x0 x1).unions)))))) (r0 1 [4] [4,1008,2008] (rt [(0,some 1008),(1,some 2008)] (C5 (zee x0 x1))))))))
theorem zzn {b:List Int} (hx:b.length≤1048576) (hb:∀ y∈b,0≤y∧y≤255) (m:Int):za4 (crowd b m)=true∧0<(crowd b m).people.length:=by
 have one:∀ z:Family,za4 z=true→((z.people.length:Nat):Int)=0→za4 (Family.mk [(Person.mk [97,97] 1 (-1) (-1) 0 (-1))] z.unions)=true:=fun z hz h0=>by
  have hu:z.unions=[]:=by
   cases hu:z.unions with
   | nil=>rfl
   | cons u r =>
    have:=(fam_u hz (k:=0) (by rw [hu];simp)).man
    omega
  rw [hu]
  exact (by kernel_rfl:za4 (Family.mk [(Person.mk [97,97] 1 (-1) (-1) 0 (-1))] [])=true)
 have both:∀ z:Family,za4 z=true→∀ r:Family,(bif decide (((z.people.length:Nat):Int)=0) then (Family.mk [(Person.mk [97,97] 1 (-1) (-1) 0 (-1))] z.unions) else z)=r→za4 r=true∧0<r.people.length:=fun z hz r hr=>by
  subst hr
  exact zbm (p:=fun (r:Family)=>za4 r=true∧0<r.people.length) (fun c=>⟨one z hz (of_decide_eq_true c),by simp⟩) (fun c=>⟨hz,by have:=of_decide_eq_false c;omega⟩)
 unfold crowd
 refine zbm (p:=fun (r:Family)=>za4 r=true∧0<r.people.length) (fun _=>both (zet b) (zwg (zgi hb hx)) _ rfl) (fun _=>both (zee b m) (zud (zgi hb hx) om) _ rfl)
theorem zy8 {s:List UInt8} (h:zcc s=true):s.length≤12:=by
 simp only [zcc,zdo,zbd,zfb,l1In,Bool.and_eq_true,decide_eq_true_eq,decide_eq_false_iff_not,and_true] at h
 omega
theorem zyd {x:Family} (hf:za4 x=true):∀ p∈x.people,p.name.length≤1048576:=fun p hp=>by
 obtain ⟨i,hi,e⟩:=List.getElem_of_mem hp
 have h:=zy8 (fam_p hf hi).name
 rw [List.getD_eq_getElem?_getD,List.getElem?_eq_getElem hi,Option.getD_some,e] at h
 omega
theorem zb1 {x:List Int} (h:x.length≤1048576∧∀ y∈x,inR .u8 y):x.length≤1048576∧∀ y∈x,0≤y∧y≤255:=⟨h.1,fun y hy=>by have:=h.2 y hy;simp only [inR] at this;omega⟩
theorem zbu {b:List Int} (h:b.length≤1048576∧∀ y∈b,inR .u8 y) (m:Int):za4 (crowd b m)=true∧(0<(crowd b m).people.length∧(crowd b m).people.length≤40)∧(crowd b m).unions.length≤60∧∀ p∈(crowd b m).people,p.name.length≤1048576:=by
 have h1:=zzn (zb1 h).1 (zb1 h).2 m
 have h2:=fam_n h1.1
 exact ⟨h1.1,⟨h1.2,h2.1⟩,h2.2,zyd h1.1⟩
theorem zre (x0:List Int) (x1:Int) (hx:x0.length≤1048576) (hb:∀ y∈x0,0≤y∧y≤255) (hm:0≤x1∧x1≤40):FnT Tryz.prog 5 [.ro false 1 x0.length (rowOf (cInt .u8) x0),.int .i64 x1] (C5 (crowd x0 x1)):=by
 have aux:∀ R,crowd x0 x1=R→slim (C5 R) (A5 x0 x1) []:=by
  intro R hR
  refine rg ⟨⟨by trivial,by trivial⟩,trivial⟩ ?_
  refine rg ⟨by trivial,⟨by trivial,by trivial,by trivial⟩,trivial⟩ ?_
  revert hR;refine cd (fun hc1 hR=>?_) fun hc1 hR=>?_
  ·
    refine rg ⟨⟨by trivial,by trivial⟩,trivial⟩ ?_
    refine rg trivial ?_
    revert hR;refine cd (fun hc2 hR=>?_) fun hc2 hR=>?_
    ·
      refine rg ⟨trivial,trivial⟩ ?_
      refine rg trivial ?_
      exact congrArg C5 hR
    ·
      refine rg trivial ?_
      exact congrArg C5 hR
  ·
    refine rg trivial ?_
    revert hR;refine cd (fun hc3 hR=>?_) fun hc3 hR=>?_
    ·
      refine rg ⟨trivial,trivial⟩ ?_
      refine rg trivial ?_
      exact congrArg C5 hR
    ·
      refine rg trivial ?_
      exact congrArg C5 hR
 exact Fn.go 23 Tryz.func5 zah zah (by simp [C5,Frs,FrsL,FrsB,rowOf,cInt,cBool,cStr,cSl,zce,zbq,zb4,zbx,cDyad,cLaw,zd4]) (A5 x0 x1) zah (aux _ rfl)
def k5 (x0:List Int) (x1:Int):Cl:=(hres (C5 (crowd x0 x1)),k3 (zre x0 x1))
end Go.Proofs.YtaageiiodlfeiaaGreat
