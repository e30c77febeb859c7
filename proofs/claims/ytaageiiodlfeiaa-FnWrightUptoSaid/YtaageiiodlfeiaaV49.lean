import Derived.Test.YtaageiiodlfeiaaV48
set_option maxHeartbeats 4000000
set_option linter.unusedSimpArgs false
set_option linter.unusedVariables false
namespace Go.Proofs.Ytaageiiodlfeiaa
open Go Go.Lite Go.Proofs
def C80 (x0:l01Cur) (R:Family×Int×Int):LV×List (Nat×BC):=(.agg [.own 0,.own 1],[(900000,.var [.ro false 1 x0.b.length (rowOf (cInt .u8) x0.b),.int .i64 R.2.1,.int .i64 R.2.2]),(0,.arr 6 R.1.people.length (rowOf (zca true) R.1.people)),(1,.arr 4 R.1.unions.length (rowOf (zcu true) R.1.unions))])
def zjt (x0:l01Cur):Family×Int×Int:=jn (fun K1=>K1 (2+((zbn x0 2).1),(zbn x0 2).2.1,(zbn x0 2).2.2)) (fun (j1:Int×Int×Int)=>jn (fun K2=>K2 (((zbn (l01Cur.mk x0.b j1.2.1 j1.2.2) 10).1)+1,(zbn (l01Cur.mk x0.b j1.2.1 j1.2.2) 10).2.1,(zbn (l01Cur.mk x0.b j1.2.1 j1.2.2) 10).2.2)) (fun (j2:Int×Int×Int)=>loopW (fun (v1:Int×(List Person)×Int×Int) nx1=>bif ((decide (0<v1.1))&&(decide ((((v1.2.1.length:Nat):Int)+j1.1)≤40))) then (loopN (fun i2 (v2:(List Person)×Int×Int) next=>jn (fun K3=>jn (fun K4=>bif (decide (0<((v1.2.1.length:Nat):Int))) then (K4 ((decide (0<((v1.2.1.length:Nat):Int)))&&(!((zb7 (l01Cur.mk x0.b v2.2.1 v2.2.2) 12).1)),(zb7 (l01Cur.mk x0.b v2.2.1 v2.2.2) 12).2.1,(zb7 (l01Cur.mk x0.b v2.2.1 v2.2.2) 12).2.2)) else (K4 ((decide (0<((v1.2.1.length:Nat):Int)))&&(!true),v2.2.1,v2.2.2))) (fun (j4:Bool×Int×Int)=>bif j4.1 then (K3 (j4.2.1,j4.2.2,((v1.2.1.length:Nat):Int) - j1.1)) else (K3 (j4.2.1,j4.2.2,(-1))))) (fun (j3:Int×Int×Int)=>jn (fun K5=>bif (decide (0<((v1.2.1.length:Nat):Int))) then (K5 ((decide (0<((v1.2.1.length:Nat):Int)))&&(!((zb7 (l01Cur.mk x0.b j3.1 j3.2.1) 12).1)),(zb7 (l01Cur.mk x0.b j3.1 j3.2.1) 12).2.1,(zb7 (l01Cur.mk x0.b j3.1 j3.2.1) 12).2.2)) else (K5 ((decide (0<((v1.2.1.length:Nat):Int)))&&(!true),j3.1,j3.2.1))) (fun (j5:Bool×Int×Int)=>bif j5.1 then (next ((v2.1++[(Person.mk (zb6 (((v1.2.1.length:Nat):Int)+((i2:Nat):Int))) (1+(((i2:Nat):Int).tmod 2)) j3.2.2 ((((v1.2.1.length:Nat):Int) - j1.1)+1) (25 * (12 - v1.1)) (-1))]),j5.2.1,j5.2.2)) else (next ((v2.1++[(Person.mk (zb6 (((v1.2.1.length:Nat):Int)+((i2:Nat):Int))) (1+(((i2:Nat):Int).tmod 2)) j3.2.2 (-1) (25 * (12 - v1.1)) (-1))]),j5.2.1,j5.2.2))))) (fun (v2:(List Person)×Int×Int)=>nx1 (v1.1 - 1,v2.1,v2.2.1,v2.2.2)) j1.1.toNat 0 (v1.2.1,v1.2.2.1,v1.2.2.2)) else ((Family.mk v1.2.1 ([]:List Union)),v1.2.2.1,v1.2.2.2)) (Int.toNat (j2.1)+1) (j2.1,([]:List Person),j2.2.1,j2.2.2)))
def D80j1 (x0:l01Cur) (j1:Int×Int×Int):Dl:=⟨[(4,.int .i64 j1.1)],[(900000,.var [.ro false 1 x0.b.length (rowOf (cInt .u8) x0.b),.int .i64 j1.2.1,.int .i64 j1.2.2])]⟩
def D80j2 (x0:l01Cur) (j1:Int×Int×Int) (j2:Int×Int×Int):Dl:=⟨[(5,.int .i64 j2.1)],[(900000,.var [.ro false 1 x0.b.length (rowOf (cInt .u8) x0.b),.int .i64 j2.2.1,.int .i64 j2.2.2])]⟩
def D80b1 (x0:l01Cur) (j1:Int×Int×Int) (j2:Int×Int×Int) (v1:Int×(List Person)×Int×Int):Dl:=⟨[(5,.int .i64 v1.1)],[(30300,.arr 6 v1.2.1.length (rowOf (zca true) v1.2.1)),(3,.var [.own 30300,.nilS]),(900000,.var [.ro false 1 x0.b.length (rowOf (cInt .u8) x0.b),.int .i64 v1.2.2.1,.int .i64 v1.2.2.2])]⟩
def D80b2 (x0:l01Cur) (j1:Int×Int×Int) (j2:Int×Int×Int) (v1:Int×(List Person)×Int×Int) (i2:Nat) (v2:(List Person)×Int×Int):Dl:=⟨[(7,.int .i64 ((i2:Nat):Int))],[(40300,.arr 6 v2.1.length (rowOf (zca true) v2.1)),(3,.var [.own 40300,.nilS]),(900000,.var [.ro false 1 x0.b.length (rowOf (cInt .u8) x0.b),.int .i64 v2.2.1,.int .i64 v2.2.2])]⟩
def D80j3 (x0:l01Cur) (j1:Int×Int×Int) (j2:Int×Int×Int) (v1:Int×(List Person)×Int×Int) (i2:Nat) (v2:(List Person)×Int×Int) (j3:Int×Int×Int):Dl:=⟨[],[(900000,.var [.ro false 1 x0.b.length (rowOf (cInt .u8) x0.b),.int .i64 j3.1,.int .i64 j3.2.1]),(8,.var [.str (zb6 (((v1.2.1.length:Nat):Int)+((i2:Nat):Int))),.int .i64 (1+(((i2:Nat):Int).tmod 2)),.int .i64 j3.2.2,.int .i64 (-1),.int .i64 (25 * (12 - v1.1)),.int .i64 (-1)])]⟩
def D80j4 (x0:l01Cur) (j1:Int×Int×Int) (j2:Int×Int×Int) (v1:Int×(List Person)×Int×Int) (i2:Nat) (v2:(List Person)×Int×Int) (j4:Bool×Int×Int):Dl:=⟨[(53,.bool j4.1)],[(900000,.var [.ro false 1 x0.b.length (rowOf (cInt .u8) x0.b),.int .i64 j4.2.1,.int .i64 j4.2.2])]⟩
def A80j4 (x0:l01Cur) (j1:Int×Int×Int) (j2:Int×Int×Int) (v1:Int×(List Person)×Int×Int) (i2:Nat) (v2:(List Person)×Int×Int) (j4:Bool×Int×Int):Ann:=cn j4.1 (r1 1 [0,2,3,4,5,6,7,8] [2,3,8,40300,900000] [pf (inR .i64 (((v1.2.1.length:Nat):Int) - j1.1))] [0] (.next 0 [] (D80j3 x0 j1 j2 v1 i2 v2 (j4.2.1,j4.2.2,((v1.2.1.length:Nat):Int) - j1.1)))) (.next 0 [] (D80j3 x0 j1 j2 v1 i2 v2 (j4.2.1,j4.2.2,(-1))))
def D80j5 (x0:l01Cur) (j1:Int×Int×Int) (j2:Int×Int×Int) (v1:Int×(List Person)×Int×Int) (i2:Nat) (v2:(List Person)×Int×Int) (j3:Int×Int×Int) (j5:Bool×Int×Int):Dl:=⟨[(64,.bool j5.1)],[(900000,.var [.ro false 1 x0.b.length (rowOf (cInt .u8) x0.b),.int .i64 j5.2.1,.int .i64 j5.2.2])]⟩
def A80j5 (x0:l01Cur) (j1:Int×Int×Int) (j2:Int×Int×Int) (v1:Int×(List Person)×Int×Int) (i2:Nat) (v2:(List Person)×Int×Int) (j3:Int×Int×Int) (j5:Bool×Int×Int):Ann:=cn j5.1 (r1 1 [0,2,3,4,5,6,7,8] [2,3,8,40300,900000] [pf (inR .i64 (((v1.2.1.length:Nat):Int) - j1.1)),pf (inR .i64 ((((v1.2.1.length:Nat):Int) - j1.1)+1))] [0,4] (.reg 1 [] [(3,bsC 73 (zca true) ([(Person.mk (zb6 (((v1.2.1.length:Nat):Int)+((i2:Nat):Int))) (1+(((i2:Nat):Int).tmod 2)) j3.2.2 ((((v1.2.1.length:Nat):Int) - j1.1)+1) (25 * (12 - v1.1)) (-1))]:List Person)),(4,ap1 74 (zca true) 56 v2.1 (Person.mk (zb6 (((v1.2.1.length:Nat):Int)+((i2:Nat):Int))) (1+(((i2:Nat):Int).tmod 2)) j3.2.2 ((((v1.2.1.length:Nat):Int) - j1.1)+1) (25 * (12 - v1.1)) (-1)))] [0,2,3,4,5,6,7] [2,3,74,900000] [] [] [] [0,4] (r1 1 [0,2,3,4,5,6,7] [2,3,74,900000] [pf (inR .i64 (((i2:Nat):Int)+1))] [0] (.next 0 [(40300,some 74)] (D80b2 x0 j1 j2 v1 (i2+1) ((v2.1++[(Person.mk (zb6 (((v1.2.1.length:Nat):Int)+((i2:Nat):Int))) (1+(((i2:Nat):Int).tmod 2)) j3.2.2 ((((v1.2.1.length:Nat):Int) - j1.1)+1) (25 * (12 - v1.1)) (-1))]),j5.2.1,j5.2.2)))))) (.reg 1 [] [(3,bsC 73 (zca true) ([(Person.mk (zb6 (((v1.2.1.length:Nat):Int)+((i2:Nat):Int))) (1+(((i2:Nat):Int).tmod 2)) j3.2.2 (-1) (25 * (12 - v1.1)) (-1))]:List Person)),(4,ap1 74 (zca true) 56 v2.1 (Person.mk (zb6 (((v1.2.1.length:Nat):Int)+((i2:Nat):Int))) (1+(((i2:Nat):Int).tmod 2)) j3.2.2 (-1) (25 * (12 - v1.1)) (-1)))] [0,2,3,4,5,6,7] [2,3,74,900000] [] [] [] [0,4] (r1 1 [0,2,3,4,5,6,7] [2,3,74,900000] [pf (inR .i64 (((i2:Nat):Int)+1))] [0] (.next 0 [(40300,some 74)] (D80b2 x0 j1 j2 v1 (i2+1) ((v2.1++[(Person.mk (zb6 (((v1.2.1.length:Nat):Int)+((i2:Nat):Int))) (1+(((i2:Nat):Int).tmod 2)) j3.2.2 (-1) (25 * (12 - v1.1)) (-1))]),j5.2.1,j5.2.2)))))
def A80j3 (x0:l01Cur) (j1:Int×Int×Int) (j2:Int×Int×Int) (v1:Int×(List Person)×Int×Int) (i2:Nat) (v2:(List Person)×Int×Int) (j3:Int×Int×Int):Ann:=.join 1 (Bool×Int×Int) (D80j5 x0 j1 j2 v1 i2 v2 j3) [0,2,3,4,5,6,7,8] [900000,2,3,40300,8] (.split (decide (0<((v1.2.1.length:Nat):Int))) (.reg 1 [] [(4,cT (k130 62 [900000] (l01Cur.mk x0.b j3.1 j3.2.1) 12))] [0,2,3,4,5,6,7,8,64] [2,3,8,40300,900000] [decide (0<((v1.2.1.length:Nat):Int))] [pf ((decide (0<((v1.2.1.length:Nat):Int)))=true)] [] [0,0,4,1] (.next 0 [] (D80j5 x0 j1 j2 v1 i2 v2 j3 ((decide (0<((v1.2.1.length:Nat):Int)))&&(!((zb7 (l01Cur.mk x0.b j3.1 j3.2.1) 12).1)),(zb7 (l01Cur.mk x0.b j3.1 j3.2.1) 12).2.1,(zb7 (l01Cur.mk x0.b j3.1 j3.2.1) 12).2.2)))) (.reg 1 [(4,.gF)] [] [0,2,3,4,5,6,7,8,64] [2,3,8,40300,900000] [decide (0<((v1.2.1.length:Nat):Int))] [pf ((decide (0<((v1.2.1.length:Nat):Int)))=false),gt (decide (0<((v1.2.1.length:Nat):Int))) (pf (false=true))] [] [0,4,1] (.next 0 [] (D80j5 x0 j1 j2 v1 i2 v2 j3 ((decide (0<((v1.2.1.length:Nat):Int)))&&(!true),j3.1,j3.2.1))))) (A80j5 x0 j1 j2 v1 i2 v2 j3)
def A80b2 (x0:l01Cur) (j1:Int×Int×Int) (j2:Int×Int×Int) (v1:Int×(List Person)×Int×Int) (i2:Nat) (v2:(List Person)×Int×Int):Ann:=r0 1 [0,2,3,4,5,6,7,33] [2,3,40300,900000] (cn (decide (((i2:Nat):Int)<j1.1)) (.reg 1 [] [(3,k129 (((v1.2.1.length:Nat):Int)+((i2:Nat):Int)))] [0,2,3,4,5,6,7,8] [2,3,8,40300,900000] [] [pf (inR .i64 (((v1.2.1.length:Nat):Int)+((i2:Nat):Int))),pf ((2:Int)≠0),pf (inR .i64 (1+(((i2:Nat):Int).tmod 2))),pf (inR .i64 (12 - v1.1)),pf (inR .i64 (25 * (12 - v1.1)))] [] [0,20,4,8,12,16] (.join 0 (Int×Int×Int) (D80j3 x0 j1 j2 v1 i2 v2) [0,2,3,4,5,6,7,8] [900000,2,3,40300,8] (.join 0 (Bool×Int×Int) (D80j4 x0 j1 j2 v1 i2 v2) [0,2,3,4,5,6,7,8] [900000,2,3,40300,8] (.split (decide (0<((v1.2.1.length:Nat):Int))) (.reg 1 [] [(4,cT (k130 51 [900000] (l01Cur.mk x0.b v2.2.1 v2.2.2) 12))] [0,2,3,4,5,6,7,8,53] [2,3,8,40300,900000] [decide (0<((v1.2.1.length:Nat):Int))] [pf ((decide (0<((v1.2.1.length:Nat):Int)))=true)] [] [0,0,4,1] (.next 0 [] (D80j4 x0 j1 j2 v1 i2 v2 ((decide (0<((v1.2.1.length:Nat):Int)))&&(!((zb7 (l01Cur.mk x0.b v2.2.1 v2.2.2) 12).1)),(zb7 (l01Cur.mk x0.b v2.2.1 v2.2.2) 12).2.1,(zb7 (l01Cur.mk x0.b v2.2.1 v2.2.2) 12).2.2)))) (.reg 1 [(4,.gF)] [] [0,2,3,4,5,6,7,8,53] [2,3,8,40300,900000] [decide (0<((v1.2.1.length:Nat):Int))] [pf ((decide (0<((v1.2.1.length:Nat):Int)))=false),gt (decide (0<((v1.2.1.length:Nat):Int))) (pf (false=true))] [] [0,4,1] (.next 0 [] (D80j4 x0 j1 j2 v1 i2 v2 ((decide (0<((v1.2.1.length:Nat):Int)))&&(!true),v2.2.1,v2.2.2))))) (A80j4 x0 j1 j2 v1 i2 v2)) (A80j3 x0 j1 j2 v1 i2 v2))) (r1 1 [0,2,3,4,5] [2,3,40300,900000] [pf (inR .i64 (v1.1 - 1))] [0] (.next 1 [(30300,some 40300)] (D80b1 x0 j1 j2 (v1.1 - 1,v2.1,v2.2.1,v2.2.2)))))
def A80b1 (x0:l01Cur) (j1:Int×Int×Int) (j2:Int×Int×Int) (v1:Int×(List Person)×Int×Int):Ann:=.reg 1 [] [] [0,2,3,4,5,25] [2,3,30300,900000] [decide (0<v1.1)] [gt (decide (0<v1.1)) (pf (inR .i64 (((v1.2.1.length:Nat):Int)+j1.1)))] [] [1,1,1,1,0,1,1] (cn ((decide (0<v1.1))&&(decide ((((v1.2.1.length:Nat):Int)+j1.1)≤40))) (r0 2 [0,2,3,4,5,6,7] [2,3,30300,900000] (lp (D80b2 x0 j1 j2 v1) [] [30300] [(40300,some 30300)] (D80b2 x0 j1 j2 v1 0 (v1.2.1,v1.2.2.1,v1.2.2.2)) (A80b2 x0 j1 j2 v1))) (r0 1 [2] [2,30300,900000] (rt [(900000,some 900000),(0,some 30300),(1,none)] (C80 x0 ((Family.mk v1.2.1 ([]:List Union)),v1.2.2.1,v1.2.2.2)))))
def A80j2 (x0:l01Cur) (j1:Int×Int×Int) (j2:Int×Int×Int):Ann:=.loop (Int×(List Person)×Int×Int) (D80b1 x0 j1 j2) [] [] [(30300,none)] (D80b1 x0 j1 j2 (j2.1,([]:List Person),j2.2.1,j2.2.2)) (A80b1 x0 j1 j2)
def A80j1 (x0:l01Cur) (j1:Int×Int×Int):Ann:=.join 1 (Int×Int×Int) (D80j2 x0 j1) [0,2,3,4] [900000,2,3] (.reg 1 [] [(1,k127 14 [900000] (l01Cur.mk x0.b j1.2.1 j1.2.2) 10)] [0,2,3,4,5] [2,3,900000] [] [pf (inR .i64 (((zbn (l01Cur.mk x0.b j1.2.1 j1.2.2) 10).1)+1))] [] [4,0] (.next 0 [] (D80j2 x0 j1 (((zbn (l01Cur.mk x0.b j1.2.1 j1.2.2) 10).1)+1,(zbn (l01Cur.mk x0.b j1.2.1 j1.2.2) 10).2.1,(zbn (l01Cur.mk x0.b j1.2.1 j1.2.2) 10).2.2)))) (A80j2 x0 j1)
def A80 (x0:l01Cur):Ann:=r0 2 [0,2,3] [2,3,900000] (.join 0 (Int×Int×Int) (D80j1 x0) [0,2,3] [900000,2,3] (.reg 1 [] [(1,k127 11 [900000] x0 2)] [0,2,3,4] [2,3,900000] [] [pf (inR .i64 (2+((zbn x0 2).1)))] [] [4,0] (.next 0 [] (D80j1 x0 (2+((zbn x0 2).1),(zbn x0 2).2.1,(zbn x0 2).2.2)))) (A80j1 x0))
theorem zmy (x0:l01Cur) (hc:CurOk x0):FnMT Try.prog 80 [.vp 900000 0] [.var [.ro false 1 x0.b.length (rowOf (cInt .u8) x0.b),.int .i64 x0.i,.int .i64 x0.h]] (C80 x0 (zjt x0)):=by
 have aux:∀ R,zjt x0=R→slim (C80 x0 R) (A80 x0) []:=by
  intro R hR
  refine rg trivial ?_
  revert hR;refine jN (fun v=>(2≤v.1∧v.1≤3)∧CurOk ⟨x0.b,v.2.1,v.2.2⟩) (fun F101 hR hJ101=>?_) (fun j1 hR hJ1=>?_)
  ·
    refine rg ⟨by (have h9:=zb8 hc (n:=2) om;simp only [inR];omega),⟨by with_reducible assumption,by (intros;omega)⟩,trivial⟩ ?_
    exact hJ101 (2+((zbn x0 2).1),(zbn x0 2).2.1,(zbn x0 2).2.2) hR (by (have h9:=zb8 hc (n:=2) om;have h8:=h9.1.2.2 om;refine ⟨?_,h9.2⟩;dsimp only;omega))
  ·
    revert hR;refine jN (fun v=>(1≤v.1∧v.1≤10)∧CurOk ⟨x0.b,v.2.1,v.2.2⟩) (fun F102 hR hJ102=>?_) (fun j2 hR hJ2=>?_)
    ·
      refine rg ⟨by (have h9:=zb8 hJ1.2 (n:=10) om;simp only [inR];omega),⟨by (with_reducible exact hJ1.2),by (intros;omega)⟩,trivial⟩ ?_
      exact hJ102 (((zbn (l01Cur.mk x0.b j1.2.1 j1.2.2) 10).1)+1,(zbn (l01Cur.mk x0.b j1.2.1 j1.2.2) 10).2.1,(zbn (l01Cur.mk x0.b j1.2.1 j1.2.2) 10).2.2) hR (by (have h9:=zb8 hJ1.2 (n:=10) om;have h8:=h9.1.2.2 om;refine ⟨?_,h9.2⟩;dsimp only;omega))
    ·
      revert hR;refine lW (fun v=>CurOk ⟨x0.b,v.2.2.1,v.2.2.2⟩∧Gen j1.1 v.1 v.2.1) (fun v=>Int.toNat (v.1)) (by (with_reducible exact ⟨hJ2.2,Gen.nil (by have h9:=hJ2.1;omega)⟩)) (Nat.lt_succ_self _) rfl fun m1 v1 F1 hI1 hM1 hR hK1=>?_
      refine rg ⟨by (have h4:=hJ1.1;have h5:=hI1.2.gb;have h6:=hI1.2.ok.len;intro h9;simp only [inR];omega),trivial⟩ ?_
      revert hR;refine cd (fun hc1 hR=>?_) fun hc1 hR=>?_
      ·
        refine rg trivial ?_
        revert hR;refine lN (fun i v=>CurOk ⟨x0.b,v.2.1,v.2.2⟩∧GenI j1.1 v1.1 v1.2.1 i v.1) (by (with_reducible exact ⟨hI1.1,hI1.2.start⟩)) rfl fun i2 v2 F2 hn2 hI2 hR hK2=>?_
        refine rg trivial ?_
        refine ⟨fun hc2=>?_,fun hc2=>?_⟩
        · have hii2:i2<j1.1.toNat:=by have:=of_decide_eq_true hc2;omega
          replace hR:=zb0 hR hii2
          refine rg ⟨by (have h4:=hJ1.1;have h5:=hI1.2.gb;have h6:=hI1.2.ok.len;have h7:=hI2.2.len;simp only [Bool.and_eq_true,decide_eq_true_eq] at hc1;simp only [inR];omega),by (intros;omega),by (have h4:=hJ1.1;have h5:=hI1.2.gb;have h6:=hI1.2.ok.len;have h7:=hI2.2.len;simp only [Bool.and_eq_true,decide_eq_true_eq] at hc1;have h8:(i2:Int).tmod 2=(i2:Int) % 2:=Int.tmod_eq_emod_of_nonneg om;simp only [inR];omega),by (have h4:=hJ1.1;have h5:=hI1.2.gb;have h6:=hI1.2.ok.len;have h7:=hI2.2.len;simp only [Bool.and_eq_true,decide_eq_true_eq] at hc1;simp only [inR];omega),by (have h4:=hJ1.1;have h5:=hI1.2.gb;have h6:=hI1.2.ok.len;have h7:=hI2.2.len;simp only [Bool.and_eq_true,decide_eq_true_eq] at hc1;simp only [inR];omega),by (have h4:=hJ1.1;have h5:=hI1.2.gb;have h6:=hI1.2.ok.len;have h7:=hI2.2.len;simp only [Bool.and_eq_true,decide_eq_true_eq] at hc1;omega),trivial⟩ ?_
          revert hR;refine jN (fun v=>CurOk ⟨x0.b,v.1,v.2.1⟩∧(v.2.2=-1∨0<v1.2.1.length∧v.2.2=(v1.2.1.length:Int) - j1.1)) (fun F103 hR hJ103=>?_) (fun j3 hR hJ3=>?_)
          ·
            revert hR;refine jN (fun v=>CurOk ⟨x0.b,v.2.1,v.2.2⟩∧(v.1=true→0<v1.2.1.length)) (fun F104 hR hJ104=>?_) (fun j4 hR hJ4=>?_)
            ·
              revert hR;refine cd (fun hs3 hR=>?_) fun hs3 hR=>?_
              ·
                refine rg ⟨by with_reducible assumption,⟨by (with_reducible exact hI2.1),by (intros;omega)⟩,trivial⟩ ?_
                exact hJ104 ((decide (0<((v1.2.1.length:Nat):Int)))&&(!((zb7 (l01Cur.mk x0.b v2.2.1 v2.2.2) 12).1)),(zb7 (l01Cur.mk x0.b v2.2.1 v2.2.2) 12).2.1,(zb7 (l01Cur.mk x0.b v2.2.1 v2.2.2) 12).2.2) hR (by (with_reducible exact ⟨zdk hI2.1 om,fun h9=>by simp only [Bool.and_eq_true,decide_eq_true_eq] at h9;omega⟩))
              ·
                refine rg ⟨by with_reducible assumption,by (intro h9;exact absurd h9 (by simp_all)),trivial⟩ ?_
                exact hJ104 ((decide (0<((v1.2.1.length:Nat):Int)))&&(!true),v2.2.1,v2.2.2) hR (by (with_reducible exact ⟨hI2.1,fun h9=>by simp only [Bool.and_eq_true,decide_eq_true_eq] at h9;omega⟩))
            ·
              revert hR;refine cd (fun hc4 hR=>?_) fun hc4 hR=>?_
              ·
                refine rg ⟨by (have h4:=hJ1.1;have h5:=hI1.2.gb;have h6:=hI1.2.ok.len;have h7:=hI2.2.len;simp only [Bool.and_eq_true,decide_eq_true_eq] at hc1;simp only [inR];omega),trivial⟩ ?_
                exact hJ103 (j4.2.1,j4.2.2,((v1.2.1.length:Nat):Int) - j1.1) hR (by (have h9:=hJ4.2 zbf;with_reducible exact ⟨hJ4.1,.inr ⟨h9,rfl⟩⟩))
              ·
                exact hJ103 (j4.2.1,j4.2.2,(-1)) hR (by (with_reducible exact ⟨hJ4.1,.inl rfl⟩))
          ·
            revert hR;refine jN (fun v=>CurOk ⟨x0.b,v.2.1,v.2.2⟩∧(v.1=true→0<v1.2.1.length)) (fun F105 hR hJ105=>?_) (fun j5 hR hJ5=>?_)
            ·
              revert hR;refine cd (fun hs5 hR=>?_) fun hs5 hR=>?_
              ·
                refine rg ⟨by with_reducible assumption,⟨by (with_reducible exact hJ3.1),by (intros;omega)⟩,trivial⟩ ?_
                exact hJ105 ((decide (0<((v1.2.1.length:Nat):Int)))&&(!((zb7 (l01Cur.mk x0.b j3.1 j3.2.1) 12).1)),(zb7 (l01Cur.mk x0.b j3.1 j3.2.1) 12).2.1,(zb7 (l01Cur.mk x0.b j3.1 j3.2.1) 12).2.2) hR (by (with_reducible exact ⟨zdk hJ3.1 om,fun h9=>by simp only [Bool.and_eq_true,decide_eq_true_eq] at h9;omega⟩))
              ·
                refine rg ⟨by with_reducible assumption,by (intro h9;exact absurd h9 (by simp_all)),trivial⟩ ?_
                exact hJ105 ((decide (0<((v1.2.1.length:Nat):Int)))&&(!true),j3.1,j3.2.1) hR (by (with_reducible exact ⟨hJ3.1,fun h9=>by simp only [Bool.and_eq_true,decide_eq_true_eq] at h9;omega⟩))
            ·
              revert hR;refine cd (fun hc6 hR=>?_) fun hc6 hR=>?_
              ·
                refine rg ⟨by (have h4:=hJ1.1;have h5:=hI1.2.gb;have h6:=hI1.2.ok.len;have h7:=hI2.2.len;simp only [Bool.and_eq_true,decide_eq_true_eq] at hc1;simp only [inR];omega),by (have h4:=hJ1.1;have h5:=hI1.2.gb;have h6:=hI1.2.ok.len;have h7:=hI2.2.len;simp only [Bool.and_eq_true,decide_eq_true_eq] at hc1;simp only [inR];omega),trivial⟩ ?_
                refine rg ⟨trivial,by (have h4:=hJ1.1;have h5:=hI1.2.gb;have h6:=hI1.2.ok.len;have h7:=hI2.2.len;simp only [Bool.and_eq_true,decide_eq_true_eq] at hc1;omega),trivial⟩ ?_
                refine rg ⟨by (have h9:=zb8 hc (n:=2) om;simp only [inR];omega),trivial⟩ ?_
                exact hK2 ((v2.1++[(Person.mk (zb6 (((v1.2.1.length:Nat):Int)+((i2:Nat):Int))) (1+(((i2:Nat):Int).tmod 2)) j3.2.2 ((((v1.2.1.length:Nat):Int) - j1.1)+1) (25 * (12 - v1.1)) (-1))]),j5.2.1,j5.2.2) hii2 (by (have h4:=hJ1.1;have h5:=hI1.2.gb;have h6:=hI1.2.ok.len;have h7:=hI2.2.len;simp only [Bool.and_eq_true,decide_eq_true_eq] at hc1;have h8:=hJ5.2 zbf;with_reducible exact ⟨hJ5.1,hI2.2.step hI1.2 om h4 om om hJ3.2 (.inr ⟨h8,rfl⟩)⟩)) hR
              ·
                refine rg ⟨trivial,by (have h4:=hJ1.1;have h5:=hI1.2.gb;have h6:=hI1.2.ok.len;have h7:=hI2.2.len;simp only [Bool.and_eq_true,decide_eq_true_eq] at hc1;omega),trivial⟩ ?_
                refine rg ⟨by (have h9:=zb8 hc (n:=2) om;simp only [inR];omega),trivial⟩ ?_
                exact hK2 ((v2.1++[(Person.mk (zb6 (((v1.2.1.length:Nat):Int)+((i2:Nat):Int))) (1+(((i2:Nat):Int).tmod 2)) j3.2.2 (-1) (25 * (12 - v1.1)) (-1))]),j5.2.1,j5.2.2) hii2 (by (have h4:=hJ1.1;have h5:=hI1.2.gb;have h6:=hI1.2.ok.len;have h7:=hI2.2.len;simp only [Bool.and_eq_true,decide_eq_true_eq] at hc1;with_reducible exact ⟨hJ5.1,hI2.2.step hI1.2 om h4 om om hJ3.2 (.inl rfl)⟩)) hR
        · obtain rfl:i2=j1.1.toNat:=by have:=of_decide_eq_false hc2;omega
          replace hR:=zb4 hR (Nat.lt_irrefl _)
          refine rg ⟨by (have h4:=hJ1.1;have h5:=hI1.2.gb;have h6:=hI1.2.ok.len;have h7:=hI2.2.len;simp only [Bool.and_eq_true,decide_eq_true_eq] at hc1;simp only [inR];omega),trivial⟩ ?_
          exact hK1 (v1.1 - 1,v2.1,v2.2.1,v2.2.2) (by (have h4:=hJ1.1;have h5:=hI1.2.gb;have h6:=hI1.2.ok.len;have h7:=hI2.2.len;simp only [Bool.and_eq_true,decide_eq_true_eq] at hc1;with_reducible exact ⟨hI2.1,hI2.2.done hI1.2 om h4⟩)) (by (have h4:=hJ1.1;have h5:=hI1.2.gb;have h6:=hI1.2.ok.len;have h7:=hI2.2.len;simp only [Bool.and_eq_true,decide_eq_true_eq] at hc1;simp only [inR];omega)) hR
      ·
        refine rg trivial ?_
        exact congrArg (C80 x0) hR
 exact FnM.go 77 Try.func80 zax zax (A80 x0) zax (aux _ rfl)
def k80 (d:Nat) (ids:List Nat) (x0:l01Cur):Cl:=(hresM d ids (C80 x0 (zjt x0)),k1 (zmy x0))
end Go.Proofs.Ytaageiiodlfeiaa
