import Derived.Test.YtepefimocflfkaaV48
set_option maxHeartbeats 4000000
set_option linter.unusedSimpArgs false
set_option linter.unusedVariables false
namespace Go.Proofs.Ytepefimocflfkaa
open Go Go.Lite Go.Proofs
def C93 (x0:l01Cur) (R:Family×Int×Int):LV×List (Nat×BC):=(.agg [.own 0,.own 1],[(900000,.var [.ro false 1 x0.b.length (rowOf (cInt .u8) x0.b),.int .i64 R.2.1,.int .i64 R.2.2]),(0,.arr 6 R.1.people.length (rowOf (cPerson true) R.1.people)),(1,.arr 4 R.1.unions.length (rowOf (cUnion true) R.1.unions))])
def l8Close (x0:l01Cur):Family×Int×Int:=jn (fun K1=>K1 (2+((l01Below x0 2).1),(l01Below x0 2).2.1,(l01Below x0 2).2.2)) (fun (j1:Int×Int×Int)=>jn (fun K2=>K2 (((l01Below (l01Cur.mk x0.b j1.2.1 j1.2.2) 10).1)+1,(l01Below (l01Cur.mk x0.b j1.2.1 j1.2.2) 10).2.1,(l01Below (l01Cur.mk x0.b j1.2.1 j1.2.2) 10).2.2)) (fun (j2:Int×Int×Int)=>loopW (fun (v1:Int×(List Person)×Int×Int) nx1=>bif ((decide (0<v1.1))&&(decide ((((v1.2.1.length:Nat):Int)+j1.1)≤40))) then (loopN (fun i2 (v2:(List Person)×Int×Int) next=>jn (fun K3=>jn (fun K4=>bif (decide (0<((v1.2.1.length:Nat):Int))) then (K4 ((decide (0<((v1.2.1.length:Nat):Int)))&&(!((l01Once (l01Cur.mk x0.b v2.2.1 v2.2.2) 12).1)),(l01Once (l01Cur.mk x0.b v2.2.1 v2.2.2) 12).2.1,(l01Once (l01Cur.mk x0.b v2.2.1 v2.2.2) 12).2.2)) else (K4 ((decide (0<((v1.2.1.length:Nat):Int)))&&(!true),v2.2.1,v2.2.2))) (fun (j4:Bool×Int×Int)=>bif j4.1 then (K3 (j4.2.1,j4.2.2,((v1.2.1.length:Nat):Int) - j1.1)) else (K3 (j4.2.1,j4.2.2,(-1))))) (fun (j3:Int×Int×Int)=>jn (fun K5=>bif (decide (0<((v1.2.1.length:Nat):Int))) then (K5 ((decide (0<((v1.2.1.length:Nat):Int)))&&(!((l01Once (l01Cur.mk x0.b j3.1 j3.2.1) 12).1)),(l01Once (l01Cur.mk x0.b j3.1 j3.2.1) 12).2.1,(l01Once (l01Cur.mk x0.b j3.1 j3.2.1) 12).2.2)) else (K5 ((decide (0<((v1.2.1.length:Nat):Int)))&&(!true),j3.1,j3.2.1))) (fun (j5:Bool×Int×Int)=>bif j5.1 then (next ((v2.1++[(Person.mk (l1Called (((v1.2.1.length:Nat):Int)+((i2:Nat):Int))) (1+(((i2:Nat):Int).tmod 2)) j3.2.2 ((((v1.2.1.length:Nat):Int) - j1.1)+1) (25 * (12 - v1.1)) (-1))]),j5.2.1,j5.2.2)) else (next ((v2.1++[(Person.mk (l1Called (((v1.2.1.length:Nat):Int)+((i2:Nat):Int))) (1+(((i2:Nat):Int).tmod 2)) j3.2.2 (-1) (25 * (12 - v1.1)) (-1))]),j5.2.1,j5.2.2))))) (fun (v2:(List Person)×Int×Int)=>nx1 (v1.1 - 1,v2.1,v2.2.1,v2.2.2)) j1.1.toNat 0 (v1.2.1,v1.2.2.1,v1.2.2.2)) else ((Family.mk v1.2.1 ([]:List Union)),v1.2.2.1,v1.2.2.2)) (Int.toNat (j2.1)+1) (j2.1,([]:List Person),j2.2.1,j2.2.2)))
def D93j1 (x0:l01Cur) (j1:Int×Int×Int):Dl:=⟨[(4,.int .i64 j1.1)],[(900000,.var [.ro false 1 x0.b.length (rowOf (cInt .u8) x0.b),.int .i64 j1.2.1,.int .i64 j1.2.2])]⟩
def D93j2 (x0:l01Cur) (j1:Int×Int×Int) (j2:Int×Int×Int):Dl:=⟨[(5,.int .i64 j2.1)],[(900000,.var [.ro false 1 x0.b.length (rowOf (cInt .u8) x0.b),.int .i64 j2.2.1,.int .i64 j2.2.2])]⟩
def D93b1 (x0:l01Cur) (j1:Int×Int×Int) (j2:Int×Int×Int) (v1:Int×(List Person)×Int×Int):Dl:=⟨[(5,.int .i64 v1.1)],[(30300,.arr 6 v1.2.1.length (rowOf (cPerson true) v1.2.1)),(3,.var [.own 30300,.nilS]),(900000,.var [.ro false 1 x0.b.length (rowOf (cInt .u8) x0.b),.int .i64 v1.2.2.1,.int .i64 v1.2.2.2])]⟩
def D93b2 (x0:l01Cur) (j1:Int×Int×Int) (j2:Int×Int×Int) (v1:Int×(List Person)×Int×Int) (i2:Nat) (v2:(List Person)×Int×Int):Dl:=⟨[(7,.int .i64 ((i2:Nat):Int))],[(40300,.arr 6 v2.1.length (rowOf (cPerson true) v2.1)),(3,.var [.own 40300,.nilS]),(900000,.var [.ro false 1 x0.b.length (rowOf (cInt .u8) x0.b),.int .i64 v2.2.1,.int .i64 v2.2.2])]⟩
def D93j3 (x0:l01Cur) (j1:Int×Int×Int) (j2:Int×Int×Int) (v1:Int×(List Person)×Int×Int) (i2:Nat) (v2:(List Person)×Int×Int) (j3:Int×Int×Int):Dl:=⟨[],[(900000,.var [.ro false 1 x0.b.length (rowOf (cInt .u8) x0.b),.int .i64 j3.1,.int .i64 j3.2.1]),(8,.var [.str (l1Called (((v1.2.1.length:Nat):Int)+((i2:Nat):Int))),.int .i64 (1+(((i2:Nat):Int).tmod 2)),.int .i64 j3.2.2,.int .i64 (-1),.int .i64 (25 * (12 - v1.1)),.int .i64 (-1)])]⟩
def D93j4 (x0:l01Cur) (j1:Int×Int×Int) (j2:Int×Int×Int) (v1:Int×(List Person)×Int×Int) (i2:Nat) (v2:(List Person)×Int×Int) (j4:Bool×Int×Int):Dl:=⟨[(53,.bool j4.1)],[(900000,.var [.ro false 1 x0.b.length (rowOf (cInt .u8) x0.b),.int .i64 j4.2.1,.int .i64 j4.2.2])]⟩
def A93j4 (x0:l01Cur) (j1:Int×Int×Int) (j2:Int×Int×Int) (v1:Int×(List Person)×Int×Int) (i2:Nat) (v2:(List Person)×Int×Int) (j4:Bool×Int×Int):Ann:=cn j4.1 (r1 1 [0,2,3,4,5,6,7,8] [2,3,8,40300,900000] [pf (inR .i64 (((v1.2.1.length:Nat):Int) - j1.1))] [0] (.next 0 [] (D93j3 x0 j1 j2 v1 i2 v2 (j4.2.1,j4.2.2,((v1.2.1.length:Nat):Int) - j1.1)))) (.next 0 [] (D93j3 x0 j1 j2 v1 i2 v2 (j4.2.1,j4.2.2,(-1))))
def D93j5 (x0:l01Cur) (j1:Int×Int×Int) (j2:Int×Int×Int) (v1:Int×(List Person)×Int×Int) (i2:Nat) (v2:(List Person)×Int×Int) (j3:Int×Int×Int) (j5:Bool×Int×Int):Dl:=⟨[(64,.bool j5.1)],[(900000,.var [.ro false 1 x0.b.length (rowOf (cInt .u8) x0.b),.int .i64 j5.2.1,.int .i64 j5.2.2])]⟩
def A93j5 (x0:l01Cur) (j1:Int×Int×Int) (j2:Int×Int×Int) (v1:Int×(List Person)×Int×Int) (i2:Nat) (v2:(List Person)×Int×Int) (j3:Int×Int×Int) (j5:Bool×Int×Int):Ann:=cn j5.1 (r1 1 [0,2,3,4,5,6,7,8] [2,3,8,40300,900000] [pf (inR .i64 (((v1.2.1.length:Nat):Int) - j1.1)),pf (inR .i64 ((((v1.2.1.length:Nat):Int) - j1.1)+1))] [0,4] (.reg 1 [] [(3,bsC 73 (cPerson true) ([(Person.mk (l1Called (((v1.2.1.length:Nat):Int)+((i2:Nat):Int))) (1+(((i2:Nat):Int).tmod 2)) j3.2.2 ((((v1.2.1.length:Nat):Int) - j1.1)+1) (25 * (12 - v1.1)) (-1))]:List Person)),(4,ap1 74 (cPerson true) 56 v2.1 (Person.mk (l1Called (((v1.2.1.length:Nat):Int)+((i2:Nat):Int))) (1+(((i2:Nat):Int).tmod 2)) j3.2.2 ((((v1.2.1.length:Nat):Int) - j1.1)+1) (25 * (12 - v1.1)) (-1)))] [0,2,3,4,5,6,7] [2,3,74,900000] [] [] [] [0,4] (r1 1 [0,2,3,4,5,6,7] [2,3,74,900000] [pf (inR .i64 (((i2:Nat):Int)+1))] [0] (.next 0 [(40300,some 74)] (D93b2 x0 j1 j2 v1 (i2+1) ((v2.1++[(Person.mk (l1Called (((v1.2.1.length:Nat):Int)+((i2:Nat):Int))) (1+(((i2:Nat):Int).tmod 2)) j3.2.2 ((((v1.2.1.length:Nat):Int) - j1.1)+1) (25 * (12 - v1.1)) (-1))]),j5.2.1,j5.2.2)))))) (.reg 1 [] [(3,bsC 73 (cPerson true) ([(Person.mk (l1Called (((v1.2.1.length:Nat):Int)+((i2:Nat):Int))) (1+(((i2:Nat):Int).tmod 2)) j3.2.2 (-1) (25 * (12 - v1.1)) (-1))]:List Person)),(4,ap1 74 (cPerson true) 56 v2.1 (Person.mk (l1Called (((v1.2.1.length:Nat):Int)+((i2:Nat):Int))) (1+(((i2:Nat):Int).tmod 2)) j3.2.2 (-1) (25 * (12 - v1.1)) (-1)))] [0,2,3,4,5,6,7] [2,3,74,900000] [] [] [] [0,4] (r1 1 [0,2,3,4,5,6,7] [2,3,74,900000] [pf (inR .i64 (((i2:Nat):Int)+1))] [0] (.next 0 [(40300,some 74)] (D93b2 x0 j1 j2 v1 (i2+1) ((v2.1++[(Person.mk (l1Called (((v1.2.1.length:Nat):Int)+((i2:Nat):Int))) (1+(((i2:Nat):Int).tmod 2)) j3.2.2 (-1) (25 * (12 - v1.1)) (-1))]),j5.2.1,j5.2.2)))))
def A93j3 (x0:l01Cur) (j1:Int×Int×Int) (j2:Int×Int×Int) (v1:Int×(List Person)×Int×Int) (i2:Nat) (v2:(List Person)×Int×Int) (j3:Int×Int×Int):Ann:=.join 1 (Bool×Int×Int) (D93j5 x0 j1 j2 v1 i2 v2 j3) [0,2,3,4,5,6,7,8] [900000,2,3,40300,8] (.split (decide (0<((v1.2.1.length:Nat):Int))) (.reg 1 [] [(4,cT (k95 62 [900000] (l01Cur.mk x0.b j3.1 j3.2.1) 12))] [0,2,3,4,5,6,7,8,64] [2,3,8,40300,900000] [decide (0<((v1.2.1.length:Nat):Int))] [pf ((decide (0<((v1.2.1.length:Nat):Int)))=true)] [] [0,0,4,1] (.next 0 [] (D93j5 x0 j1 j2 v1 i2 v2 j3 ((decide (0<((v1.2.1.length:Nat):Int)))&&(!((l01Once (l01Cur.mk x0.b j3.1 j3.2.1) 12).1)),(l01Once (l01Cur.mk x0.b j3.1 j3.2.1) 12).2.1,(l01Once (l01Cur.mk x0.b j3.1 j3.2.1) 12).2.2)))) (.reg 1 [(4,.gF)] [] [0,2,3,4,5,6,7,8,64] [2,3,8,40300,900000] [decide (0<((v1.2.1.length:Nat):Int))] [pf ((decide (0<((v1.2.1.length:Nat):Int)))=false),gt (decide (0<((v1.2.1.length:Nat):Int))) (pf (false=true))] [] [0,4,1] (.next 0 [] (D93j5 x0 j1 j2 v1 i2 v2 j3 ((decide (0<((v1.2.1.length:Nat):Int)))&&(!true),j3.1,j3.2.1))))) (A93j5 x0 j1 j2 v1 i2 v2 j3)
def A93b2 (x0:l01Cur) (j1:Int×Int×Int) (j2:Int×Int×Int) (v1:Int×(List Person)×Int×Int) (i2:Nat) (v2:(List Person)×Int×Int):Ann:=r0 1 [0,2,3,4,5,6,7,33] [2,3,40300,900000] (cn (decide (((i2:Nat):Int)<j1.1)) (.reg 1 [] [(3,k143 (((v1.2.1.length:Nat):Int)+((i2:Nat):Int)))] [0,2,3,4,5,6,7,8] [2,3,8,40300,900000] [] [pf (inR .i64 (((v1.2.1.length:Nat):Int)+((i2:Nat):Int))),pf ((2:Int)≠0),pf (inR .i64 (1+(((i2:Nat):Int).tmod 2))),pf (inR .i64 (12 - v1.1)),pf (inR .i64 (25 * (12 - v1.1)))] [] [0,20,4,8,12,16] (.join 0 (Int×Int×Int) (D93j3 x0 j1 j2 v1 i2 v2) [0,2,3,4,5,6,7,8] [900000,2,3,40300,8] (.join 0 (Bool×Int×Int) (D93j4 x0 j1 j2 v1 i2 v2) [0,2,3,4,5,6,7,8] [900000,2,3,40300,8] (.split (decide (0<((v1.2.1.length:Nat):Int))) (.reg 1 [] [(4,cT (k95 51 [900000] (l01Cur.mk x0.b v2.2.1 v2.2.2) 12))] [0,2,3,4,5,6,7,8,53] [2,3,8,40300,900000] [decide (0<((v1.2.1.length:Nat):Int))] [pf ((decide (0<((v1.2.1.length:Nat):Int)))=true)] [] [0,0,4,1] (.next 0 [] (D93j4 x0 j1 j2 v1 i2 v2 ((decide (0<((v1.2.1.length:Nat):Int)))&&(!((l01Once (l01Cur.mk x0.b v2.2.1 v2.2.2) 12).1)),(l01Once (l01Cur.mk x0.b v2.2.1 v2.2.2) 12).2.1,(l01Once (l01Cur.mk x0.b v2.2.1 v2.2.2) 12).2.2)))) (.reg 1 [(4,.gF)] [] [0,2,3,4,5,6,7,8,53] [2,3,8,40300,900000] [decide (0<((v1.2.1.length:Nat):Int))] [pf ((decide (0<((v1.2.1.length:Nat):Int)))=false),gt (decide (0<((v1.2.1.length:Nat):Int))) (pf (false=true))] [] [0,4,1] (.next 0 [] (D93j4 x0 j1 j2 v1 i2 v2 ((decide (0<((v1.2.1.length:Nat):Int)))&&(!true),v2.2.1,v2.2.2))))) (A93j4 x0 j1 j2 v1 i2 v2)) (A93j3 x0 j1 j2 v1 i2 v2))) (r1 1 [0,2,3,4,5] [2,3,40300,900000] [pf (inR .i64 (v1.1 - 1))] [0] (.next 1 [(30300,some 40300)] (D93b1 x0 j1 j2 (v1.1 - 1,v2.1,v2.2.1,v2.2.2)))))
def A93b1 (x0:l01Cur) (j1:Int×Int×Int) (j2:Int×Int×Int) (v1:Int×(List Person)×Int×Int):Ann:=.reg 1 [] [] [0,2,3,4,5,25] [2,3,30300,900000] [decide (0<v1.1)] [gt (decide (0<v1.1)) (pf (inR .i64 (((v1.2.1.length:Nat):Int)+j1.1)))] [] [1,1,1,1,0,1,1] (cn ((decide (0<v1.1))&&(decide ((((v1.2.1.length:Nat):Int)+j1.1)≤40))) (r0 2 [0,2,3,4,5,6,7] [2,3,30300,900000] (lp (D93b2 x0 j1 j2 v1) [] [30300] [(40300,some 30300)] (D93b2 x0 j1 j2 v1 0 (v1.2.1,v1.2.2.1,v1.2.2.2)) (A93b2 x0 j1 j2 v1))) (r0 1 [2] [2,30300,900000] (rt [(900000,some 900000),(0,some 30300),(1,none)] (C93 x0 ((Family.mk v1.2.1 ([]:List Union)),v1.2.2.1,v1.2.2.2)))))
def A93j2 (x0:l01Cur) (j1:Int×Int×Int) (j2:Int×Int×Int):Ann:=.loop (Int×(List Person)×Int×Int) (D93b1 x0 j1 j2) [] [] [(30300,none)] (D93b1 x0 j1 j2 (j2.1,([]:List Person),j2.2.1,j2.2.2)) (A93b1 x0 j1 j2)
def A93j1 (x0:l01Cur) (j1:Int×Int×Int):Ann:=.join 1 (Int×Int×Int) (D93j2 x0 j1) [0,2,3,4] [900000,2,3] (.reg 1 [] [(1,k142 14 [900000] (l01Cur.mk x0.b j1.2.1 j1.2.2) 10)] [0,2,3,4,5] [2,3,900000] [] [pf (inR .i64 (((l01Below (l01Cur.mk x0.b j1.2.1 j1.2.2) 10).1)+1))] [] [4,0] (.next 0 [] (D93j2 x0 j1 (((l01Below (l01Cur.mk x0.b j1.2.1 j1.2.2) 10).1)+1,(l01Below (l01Cur.mk x0.b j1.2.1 j1.2.2) 10).2.1,(l01Below (l01Cur.mk x0.b j1.2.1 j1.2.2) 10).2.2)))) (A93j2 x0 j1)
def A93 (x0:l01Cur):Ann:=r0 2 [0,2,3] [2,3,900000] (.join 0 (Int×Int×Int) (D93j1 x0) [0,2,3] [900000,2,3] (.reg 1 [] [(1,k142 11 [900000] x0 2)] [0,2,3,4] [2,3,900000] [] [pf (inR .i64 (2+((l01Below x0 2).1)))] [] [4,0] (.next 0 [] (D93j1 x0 (2+((l01Below x0 2).1),(l01Below x0 2).2.1,(l01Below x0 2).2.2)))) (A93j1 x0))
theorem ok_spec_l8Close (x0:l01Cur) (hc:CurOk x0):FnMT Try.prog 93 [.vp 900000 0] [.var [.ro false 1 x0.b.length (rowOf (cInt .u8) x0.b),.int .i64 x0.i,.int .i64 x0.h]] (C93 x0 (l8Close x0)):=by
 have aux:∀ R,l8Close x0=R→slim (C93 x0 R) (A93 x0) []:=by
  intro R hR
  refine rg trivial ?_
  revert hR;refine jN (fun v=>(2≤v.1∧v.1≤3)∧CurOk ⟨x0.b,v.2.1,v.2.2⟩) (fun F101 hR hJ101=>?_) (fun j1 hR hJ1=>?_)
  ·
    refine rg ⟨by (have h9:=l01Below_ok hc (n:=2) (by omega);simp only [inR];omega),⟨by with_reducible assumption,by (intros;omega)⟩,trivial⟩ ?_
    exact hJ101 (2+((l01Below x0 2).1),(l01Below x0 2).2.1,(l01Below x0 2).2.2) hR (by (have h9:=l01Below_ok hc (n:=2) (by omega);have h8:=h9.1.2.2 (by omega);refine ⟨?_,h9.2⟩;dsimp only;omega))
  ·
    revert hR;refine jN (fun v=>(1≤v.1∧v.1≤10)∧CurOk ⟨x0.b,v.2.1,v.2.2⟩) (fun F102 hR hJ102=>?_) (fun j2 hR hJ2=>?_)
    ·
      refine rg ⟨by (have h9:=l01Below_ok hJ1.2 (n:=10) (by omega);simp only [inR];omega),⟨by (with_reducible exact hJ1.2),by (intros;omega)⟩,trivial⟩ ?_
      exact hJ102 (((l01Below (l01Cur.mk x0.b j1.2.1 j1.2.2) 10).1)+1,(l01Below (l01Cur.mk x0.b j1.2.1 j1.2.2) 10).2.1,(l01Below (l01Cur.mk x0.b j1.2.1 j1.2.2) 10).2.2) hR (by (have h9:=l01Below_ok hJ1.2 (n:=10) (by omega);have h8:=h9.1.2.2 (by omega);refine ⟨?_,h9.2⟩;dsimp only;omega))
    ·
      revert hR;refine lW (fun v=>CurOk ⟨x0.b,v.2.2.1,v.2.2.2⟩∧Gen j1.1 v.1 v.2.1) (fun v=>Int.toNat (v.1)) (by (with_reducible exact ⟨hJ2.2,Gen.nil (by have h9:=hJ2.1;omega)⟩)) (Nat.lt_succ_self _) rfl fun m1 v1 F1 hI1 hM1 hR hK1=>?_
      refine rg ⟨by (have h4:=hJ1.1;have h5:=hI1.2.gb;have h6:=hI1.2.ok.len;intro h9;simp only [inR];omega),trivial⟩ ?_
      revert hR;refine cd (fun hc1 hR=>?_) fun hc1 hR=>?_
      ·
        refine rg trivial ?_
        revert hR;refine lN (fun i v=>CurOk ⟨x0.b,v.2.1,v.2.2⟩∧GenI j1.1 v1.1 v1.2.1 i v.1) (by (with_reducible exact ⟨hI1.1,hI1.2.start⟩)) rfl fun i2 v2 F2 hn2 hI2 hR hK2=>?_
        refine rg trivial ?_
        refine ⟨fun hc2=>?_,fun hc2=>?_⟩
        · have hii2:i2<j1.1.toNat:=by have:=of_decide_eq_true hc2;omega
          replace hR:=loopN_step hR hii2
          refine rg ⟨by (have h4:=hJ1.1;have h5:=hI1.2.gb;have h6:=hI1.2.ok.len;have h7:=hI2.2.len;simp only [Bool.and_eq_true,decide_eq_true_eq] at hc1;simp only [inR];omega),by (intros;omega),by (have h4:=hJ1.1;have h5:=hI1.2.gb;have h6:=hI1.2.ok.len;have h7:=hI2.2.len;simp only [Bool.and_eq_true,decide_eq_true_eq] at hc1;have h8:(i2:Int).tmod 2=(i2:Int) % 2:=Int.tmod_eq_emod_of_nonneg (by omega);simp only [inR];omega),by (have h4:=hJ1.1;have h5:=hI1.2.gb;have h6:=hI1.2.ok.len;have h7:=hI2.2.len;simp only [Bool.and_eq_true,decide_eq_true_eq] at hc1;simp only [inR];omega),by (have h4:=hJ1.1;have h5:=hI1.2.gb;have h6:=hI1.2.ok.len;have h7:=hI2.2.len;simp only [Bool.and_eq_true,decide_eq_true_eq] at hc1;simp only [inR];omega),by (have h4:=hJ1.1;have h5:=hI1.2.gb;have h6:=hI1.2.ok.len;have h7:=hI2.2.len;simp only [Bool.and_eq_true,decide_eq_true_eq] at hc1;omega),trivial⟩ ?_
          revert hR;refine jN (fun v=>CurOk ⟨x0.b,v.1,v.2.1⟩∧(v.2.2=-1∨0<v1.2.1.length∧v.2.2=(v1.2.1.length:Int) - j1.1)) (fun F103 hR hJ103=>?_) (fun j3 hR hJ3=>?_)
          ·
            revert hR;refine jN (fun v=>CurOk ⟨x0.b,v.2.1,v.2.2⟩∧(v.1=true→0<v1.2.1.length)) (fun F104 hR hJ104=>?_) (fun j4 hR hJ4=>?_)
            ·
              revert hR;refine cd (fun hs3 hR=>?_) fun hs3 hR=>?_
              ·
                refine rg ⟨by with_reducible assumption,⟨by (with_reducible exact hI2.1),by (intros;omega)⟩,trivial⟩ ?_
                exact hJ104 ((decide (0<((v1.2.1.length:Nat):Int)))&&(!((l01Once (l01Cur.mk x0.b v2.2.1 v2.2.2) 12).1)),(l01Once (l01Cur.mk x0.b v2.2.1 v2.2.2) 12).2.1,(l01Once (l01Cur.mk x0.b v2.2.1 v2.2.2) 12).2.2) hR (by (with_reducible exact ⟨l01Once_ok hI2.1 (by omega),fun h9=>by simp only [Bool.and_eq_true,decide_eq_true_eq] at h9;omega⟩))
              ·
                refine rg ⟨by with_reducible assumption,by (intro h9;exact absurd h9 (by simp_all)),trivial⟩ ?_
                exact hJ104 ((decide (0<((v1.2.1.length:Nat):Int)))&&(!true),v2.2.1,v2.2.2) hR (by (with_reducible exact ⟨hI2.1,fun h9=>by simp only [Bool.and_eq_true,decide_eq_true_eq] at h9;omega⟩))
            ·
              revert hR;refine cd (fun hc4 hR=>?_) fun hc4 hR=>?_
              ·
                refine rg ⟨by (have h4:=hJ1.1;have h5:=hI1.2.gb;have h6:=hI1.2.ok.len;have h7:=hI2.2.len;simp only [Bool.and_eq_true,decide_eq_true_eq] at hc1;simp only [inR];omega),trivial⟩ ?_
                exact hJ103 (j4.2.1,j4.2.2,((v1.2.1.length:Nat):Int) - j1.1) hR (by (have h9:=hJ4.2 (by assumption);with_reducible exact ⟨hJ4.1,.inr ⟨h9,rfl⟩⟩))
              ·
                exact hJ103 (j4.2.1,j4.2.2,(-1)) hR (by (with_reducible exact ⟨hJ4.1,.inl rfl⟩))
          ·
            revert hR;refine jN (fun v=>CurOk ⟨x0.b,v.2.1,v.2.2⟩∧(v.1=true→0<v1.2.1.length)) (fun F105 hR hJ105=>?_) (fun j5 hR hJ5=>?_)
            ·
              revert hR;refine cd (fun hs5 hR=>?_) fun hs5 hR=>?_
              ·
                refine rg ⟨by with_reducible assumption,⟨by (with_reducible exact hJ3.1),by (intros;omega)⟩,trivial⟩ ?_
                exact hJ105 ((decide (0<((v1.2.1.length:Nat):Int)))&&(!((l01Once (l01Cur.mk x0.b j3.1 j3.2.1) 12).1)),(l01Once (l01Cur.mk x0.b j3.1 j3.2.1) 12).2.1,(l01Once (l01Cur.mk x0.b j3.1 j3.2.1) 12).2.2) hR (by (with_reducible exact ⟨l01Once_ok hJ3.1 (by omega),fun h9=>by simp only [Bool.and_eq_true,decide_eq_true_eq] at h9;omega⟩))
              ·
                refine rg ⟨by with_reducible assumption,by (intro h9;exact absurd h9 (by simp_all)),trivial⟩ ?_
                exact hJ105 ((decide (0<((v1.2.1.length:Nat):Int)))&&(!true),j3.1,j3.2.1) hR (by (with_reducible exact ⟨hJ3.1,fun h9=>by simp only [Bool.and_eq_true,decide_eq_true_eq] at h9;omega⟩))
            ·
              revert hR;refine cd (fun hc6 hR=>?_) fun hc6 hR=>?_
              ·
                refine rg ⟨by (have h4:=hJ1.1;have h5:=hI1.2.gb;have h6:=hI1.2.ok.len;have h7:=hI2.2.len;simp only [Bool.and_eq_true,decide_eq_true_eq] at hc1;simp only [inR];omega),by (have h4:=hJ1.1;have h5:=hI1.2.gb;have h6:=hI1.2.ok.len;have h7:=hI2.2.len;simp only [Bool.and_eq_true,decide_eq_true_eq] at hc1;simp only [inR];omega),trivial⟩ ?_
                refine rg ⟨trivial,by (have h4:=hJ1.1;have h5:=hI1.2.gb;have h6:=hI1.2.ok.len;have h7:=hI2.2.len;simp only [Bool.and_eq_true,decide_eq_true_eq] at hc1;omega),trivial⟩ ?_
                refine rg ⟨by (have h9:=l01Below_ok hc (n:=2) (by omega);simp only [inR];omega),trivial⟩ ?_
                exact hK2 ((v2.1++[(Person.mk (l1Called (((v1.2.1.length:Nat):Int)+((i2:Nat):Int))) (1+(((i2:Nat):Int).tmod 2)) j3.2.2 ((((v1.2.1.length:Nat):Int) - j1.1)+1) (25 * (12 - v1.1)) (-1))]),j5.2.1,j5.2.2) hii2 (by (have h4:=hJ1.1;have h5:=hI1.2.gb;have h6:=hI1.2.ok.len;have h7:=hI2.2.len;simp only [Bool.and_eq_true,decide_eq_true_eq] at hc1;have h8:=hJ5.2 (by assumption);with_reducible exact ⟨hJ5.1,hI2.2.step hI1.2 (by omega) h4 (by omega) (by omega) hJ3.2 (.inr ⟨h8,rfl⟩)⟩)) hR
              ·
                refine rg ⟨trivial,by (have h4:=hJ1.1;have h5:=hI1.2.gb;have h6:=hI1.2.ok.len;have h7:=hI2.2.len;simp only [Bool.and_eq_true,decide_eq_true_eq] at hc1;omega),trivial⟩ ?_
                refine rg ⟨by (have h9:=l01Below_ok hc (n:=2) (by omega);simp only [inR];omega),trivial⟩ ?_
                exact hK2 ((v2.1++[(Person.mk (l1Called (((v1.2.1.length:Nat):Int)+((i2:Nat):Int))) (1+(((i2:Nat):Int).tmod 2)) j3.2.2 (-1) (25 * (12 - v1.1)) (-1))]),j5.2.1,j5.2.2) hii2 (by (have h4:=hJ1.1;have h5:=hI1.2.gb;have h6:=hI1.2.ok.len;have h7:=hI2.2.len;simp only [Bool.and_eq_true,decide_eq_true_eq] at hc1;with_reducible exact ⟨hJ5.1,hI2.2.step hI1.2 (by omega) h4 (by omega) (by omega) hJ3.2 (.inl rfl)⟩)) hR
        · obtain rfl:i2=j1.1.toNat:=by have:=of_decide_eq_false hc2;omega
          replace hR:=loopN_end hR (Nat.lt_irrefl _)
          refine rg ⟨by (have h4:=hJ1.1;have h5:=hI1.2.gb;have h6:=hI1.2.ok.len;have h7:=hI2.2.len;simp only [Bool.and_eq_true,decide_eq_true_eq] at hc1;simp only [inR];omega),trivial⟩ ?_
          exact hK1 (v1.1 - 1,v2.1,v2.2.1,v2.2.2) (by (have h4:=hJ1.1;have h5:=hI1.2.gb;have h6:=hI1.2.ok.len;have h7:=hI2.2.len;simp only [Bool.and_eq_true,decide_eq_true_eq] at hc1;with_reducible exact ⟨hI2.1,hI2.2.done hI1.2 (by omega) h4⟩)) (by (have h4:=hJ1.1;have h5:=hI1.2.gb;have h6:=hI1.2.ok.len;have h7:=hI2.2.len;simp only [Bool.and_eq_true,decide_eq_true_eq] at hc1;simp only [inR];omega)) hR
      ·
        refine rg trivial ?_
        exact congrArg (C93 x0) hR
 exact FnM.go 77 Try.func93 (by kernel_rfl) (by kernel_rfl) (A93 x0) (by kernel_rfl) (aux _ rfl)
def k93 (d:Nat) (ids:List Nat) (x0:l01Cur):Cl:=(hresM d ids (C93 x0 (l8Close x0)),k1 (ok_spec_l8Close x0))
theorem jn_to {S α:Type} {f:(S→α)→α} {k:S→α} (J:S→Prop) (Q:α→Prop) (h1:∀ K:S→α,(∀ v,J v→Q (K v))→Q (f K)) (h2:∀ v,J v→Q (k v)):Q (jn f k):=h1 k h2
theorem l1Wed_ok (c:l01Cur) {x:Family} (hf:specIsFamily x=true):specIsFamily (l1Wed c x).1=true:=by
 unfold l1Wed
 refine jn_to (fun _=>True) (fun (r:Family×Int×Int)=>specIsFamily r.1=true) (fun K hK=>hK _ trivial) fun j1 _=>?_
 refine loopW_to (fun v=>specIsFamily ⟨v.2.1,v.2.2.1⟩=true) (fun v=>Int.toNat v.1) (fun (r:Family×Int×Int)=>specIsFamily r.1=true) (fun v next hv hn=>?_) _ _ (Nat.lt_succ_self _) (by cases x;exact hf)
 refine cond_both (p:=fun (r:Family×Int×Int)=>specIsFamily r.1=true) (fun c1=>?_) (fun _=>hv)
 have c1:=of_decide_eq_true c1
 refine jn_to (fun _=>True) (fun (r:Family×Int×Int)=>specIsFamily r.1=true) (fun K hK=>hK _ trivial) fun j2 _=>?_
 refine jn_to (fun _=>True) (fun (r:Family×Int×Int)=>specIsFamily r.1=true) (fun K hK=>hK _ trivial) fun j3 _=>?_
 refine cond_both (p:=fun (r:Family×Int×Int)=>specIsFamily r.1=true) (fun _=>hn _ hv (by dsimp only;omega)) (fun _=>?_)
 refine jn_to (fun _=>True) (fun (r:Family×Int×Int)=>specIsFamily r.1=true) (fun K hK=>hK _ trivial) fun j4 _=>?_
 refine cond_both (p:=fun (r:Family×Int×Int)=>specIsFamily r.1=true) (fun _=>?_) (fun _=>?_)
 ·exact cond_both (p:=fun (r:Family×Int×Int)=>specIsFamily r.1=true) (fun c2=>hn _ c2 (by dsimp only;omega)) (fun _=>hn _ hv (by dsimp only;omega))
 ·exact cond_both (p:=fun (r:Family×Int×Int)=>specIsFamily r.1=true) (fun c2=>hn _ c2 (by dsimp only;omega)) (fun _=>hn _ hv (by dsimp only;omega))
theorem l1Family_ok {x0:l01Cur} (hc:CurOk x0) {x1:Int} (hm:0≤x1∧x1≤40):specIsFamily (l1Family x0 x1).1=true:=by
 unfold l1Family
 refine jn_to (fun j=>(1≤j.1∧j.1≤25)∧CurOk ⟨x0.b,j.2.1,j.2.2⟩) (fun (r:Family×Int×Int)=>specIsFamily r.1=true) (fun K hK=>hK _ ⟨mem4 (l01Int_ok hc (by simp)).1,(l01Int_ok hc (by simp)).2⟩) fun j1 hJ1=>?_
 refine jn_to (fun j=>(1≤j.1∧j.1≤9)∧CurOk ⟨x0.b,j.2.1,j.2.2⟩) (fun (r:Family×Int×Int)=>specIsFamily r.1=true) (fun K hK=>hK _ ⟨mem3b (l01Int_ok hJ1.2 (by simp)).1,(l01Int_ok hJ1.2 (by simp)).2⟩) fun j2 hJ2=>?_
 refine jn_to (fun j=>CurOk ⟨x0.b,j.1,j.2.1⟩∧Mk j.2.2.2.1∧j.2.2.2.2=[]) (fun (r:Family×Int×Int)=>specIsFamily r.1=true) (fun K3 hK3=>?_) fun j3 hJ3=>?_
 ·refine jn_to (fun j=>(0≤j.1∧j.1≤40)∧CurOk ⟨x0.b,j.2.1,j.2.2⟩) (fun (r:Family×Int×Int)=>specIsFamily r.1=true) (fun K hK=>?_) fun j4 hJ4=>?_
  ·have h9:=l01Below_ok hJ2.2 (n:=x1+1) (by omega)
   exact hK _ ⟨⟨h9.1.1,by have:=h9.1.2.2 (by omega);dsimp only;omega⟩,h9.2⟩
  refine loopW_to (fun v=>((v.2.2.1.length:Int)+v.1≤40∧Mk v.2.2.1∧MkB v.2.2.1)∧v.2.2.2.1=[]∧CurOk ⟨x0.b,v.2.2.2.2.1,v.2.2.2.2.2⟩) (fun v=>Int.toNat v.1) (fun (r:Family×Int×Int)=>specIsFamily r.1=true) (fun v1 next hI1 hn=>?_) _ _ (Nat.lt_succ_self _) ⟨⟨by simp only [List.length_nil];omega,Mk.nil,MkB.nil⟩,rfl,hJ4.2⟩
  refine cond_both (p:=fun (r:Family×Int×Int)=>specIsFamily r.1=true) (fun c1=>?_) (fun _=>hK3 _ ⟨hI1.2.2,hI1.1.2.1,hI1.2.1⟩)
  have c1:=of_decide_eq_true c1
  have hb2:=l01Below_ok hI1.2.2 (n:=2) (by omega)
  refine jn_to (fun j=>CurOk ⟨x0.b,j.1,j.2.1⟩∧PaDp v1.2.2.1 j.2.2 1) (fun (r:Family×Int×Int)=>specIsFamily r.1=true) (fun K5 hK5=>?_) fun j5 hJ5=>?_
  ·refine jn_to (fun j=>CurOk ⟨x0.b,j.2.1,j.2.2⟩) (fun (r:Family×Int×Int)=>specIsFamily r.1=true) (fun K hK=>hK _ (l01Once_ok hb2.2 (by have:=hJ2.1;omega))) fun j6 hJ6=>?_
   exact cond_both (p:=fun (r:Family×Int×Int)=>specIsFamily r.1=true) (fun _=>hK5 _ (some_ok hJ6 hI1.1.2.1 _ 1)) (fun _=>hK5 _ ⟨hJ6,none_ok _ _⟩)
  refine jn_to (fun j=>CurOk ⟨x0.b,j.1,j.2.1⟩∧PaDp v1.2.2.1 j.2.2 2) (fun (r:Family×Int×Int)=>specIsFamily r.1=true) (fun K7 hK7=>?_) fun j7 hJ7=>?_
  ·refine jn_to (fun j=>CurOk ⟨x0.b,j.2.1,j.2.2⟩) (fun (r:Family×Int×Int)=>specIsFamily r.1=true) (fun K hK=>hK _ (l01Once_ok hJ5.1 (by have:=hJ2.1;omega))) fun j8 hJ8=>?_
   exact cond_both (p:=fun (r:Family×Int×Int)=>specIsFamily r.1=true) (fun _=>hK7 _ (some_ok hJ8 hI1.1.2.1 _ 2)) (fun _=>hK7 _ ⟨hJ8,none_ok _ _⟩)
  refine jn_to (fun j=>CurOk ⟨x0.b,j.1,j.2.1⟩∧0≤j.2.2∧j.2.2≤11) (fun (r:Family×Int×Int)=>specIsFamily r.1=true) (fun K hK=>?_) fun j9 hJ9=>?_
  ·have h9:=l01Below_ok hJ7.1 (n:=12) (by omega)
   exact hK _ ⟨h9.2,h9.1.1,by have:=h9.1.2.2 (by omega);dsimp only;omega⟩
  refine loopN_to (fun i v=>CurOk ⟨x0.b,v.2.1,v.2.2⟩∧Born v1.2.2.1 (l1Parents (Family.mk [(Person.mk (l1Called ((v1.2.2.1.length:Nat):Int)) (1+((l01Below (l01Cur.mk x0.b v1.2.2.2.2.1 v1.2.2.2.2.2) 2).1)) j5.2.2 j7.2.2 j9.2.2 (-1))] ([]:List Union)) 0) i v.1) (fun (r:Family×Int×Int)=>specIsFamily r.1=true) ⟨hJ9.1,born0 hJ9.2⟩ (fun i2 v2 next2 hi hI2 hn2=>?_) fun v2 hI2=>?_
  ·have h7:=l01Below_ok hI2.1 (n:=6) (by omega)
   exact hn2 _ ⟨h7.2,born_step hI2.2 hi hJ1.1 ⟨h7.1.1,h7.1.2.2 (by omega)⟩⟩
  have h8:=hI1.1.1
  have h5:=hb2.1.2.2 (by omega)
  have h7:=hI1.1.2.1.grow hI1.1.2.2 (by omega) (s:=(1+((l01Below (l01Cur.mk x0.b v1.2.2.2.2.1 v1.2.2.2.2.2) 2).1))) (by omega) hJ5.2.1 hJ7.2.1 hJ5.2.2 hJ7.2.2 hI2.2.1 hI2.2.2.1 (born_all hI2.2)
  exact hn _ ⟨⟨by simp only [List.length_append,List.length_singleton];omega,h7.1,h7.2⟩,hI1.2.1,hI2.1⟩ (by dsimp only;omega)
 refine loopN_to (fun i v=>CurOk ⟨x0.b,v.2.1,v.2.2⟩∧Dying j3.2.2.2.1 v.1) (fun (r:Family×Int×Int)=>specIsFamily r.1=true) ⟨hJ3.1,Dying.refl hJ3.2.1⟩ (fun i3 v3 next hi hI3 hn=>?_) fun v3 hI3=>?_
 ·refine jn_to (fun j=>CurOk ⟨x0.b,j.2.1,j.2.2⟩) (fun (r:Family×Int×Int)=>specIsFamily r.1=true) (fun K hK=>hK _ (l01Once_ok hI3.1 (by omega))) fun j10 hJ10=>?_
  refine cond_both (p:=fun (r:Family×Int×Int)=>specIsFamily r.1=true) (fun _=>?_) (fun _=>hn _ ⟨hJ10,hI3.2⟩)
  refine loopN_to (fun i t=>Last v3.1 (l1Children (Family.mk v3.1 j3.2.2.2.2) ((i3:Nat):Int)) i3 i t) (fun (r:Family×Int×Int)=>specIsFamily r.1=true) (last0 hJ3.2.1 hI3.2 hi) (fun i4 v4 next4 hi4 hI4 hn4=>?_) fun v4 hI4=>?_
  ·exact hn4 _ (last_step hI4 (dy_born hJ3.2.1 hI3.2 (by have h9:=l1Children_rng hi4;dsimp only at h9;omega)).2)
  ·exact hn _ ⟨(l01Int_ok hJ10 (by simp)).2,die_ok hJ3.2.1 hI3.2 hi hI4 (mem5b (l01Int_ok hJ10 (by simp)).1)⟩
 ·refine jn_to (fun j=>specIsFamily ⟨j.1,j.2.1⟩=true) (fun (r:Family×Int×Int)=>specIsFamily r.1=true) (fun K hK=>hK _ ?_) fun j11 hJ11=>hJ11
  have e:∀ z:Family,specIsFamily z=true→specIsFamily ⟨z.people,z.unions⟩=true:=fun z h=>by cases z;exact h
  have h9:=l1Wed_ok (l01Cur.mk x0.b v3.2.1 v3.2.2) (x:=Family.mk v3.1 j3.2.2.2.2) (by rw [hJ3.2.2];exact hI3.2.valid hJ3.2.1)
  revert h9
  generalize l1Wed (l01Cur.mk x0.b v3.2.1 v3.2.2) (Family.mk v3.1 j3.2.2.2.2)=z
  intro h9
  exact e z.1 h9
theorem l8Close_ok {x0:l01Cur} (hc:CurOk x0):specIsFamily (l8Close x0).1=true:=by
 unfold l8Close
 refine jn_to (fun j=>(2≤j.1∧j.1≤3)∧CurOk ⟨x0.b,j.2.1,j.2.2⟩) (fun (r:Family×Int×Int)=>specIsFamily r.1=true) (fun K hK=>?_) fun j1 hJ1=>?_
 ·have h9:=l01Below_ok hc (n:=2) (by omega)
  have h8:=h9.1.2.2 (by omega)
  exact hK _ ⟨by dsimp only;omega,h9.2⟩
 refine jn_to (fun j=>(1≤j.1∧j.1≤10)∧CurOk ⟨x0.b,j.2.1,j.2.2⟩) (fun (r:Family×Int×Int)=>specIsFamily r.1=true) (fun K hK=>?_) fun j2 hJ2=>?_
 ·have h9:=l01Below_ok hJ1.2 (n:=10) (by omega)
  have h8:=h9.1.2.2 (by omega)
  exact hK _ ⟨by dsimp only;omega,h9.2⟩
 refine loopW_to (fun v=>CurOk ⟨x0.b,v.2.2.1,v.2.2.2⟩∧Gen j1.1 v.1 v.2.1) (fun v=>Int.toNat v.1) (fun (r:Family×Int×Int)=>specIsFamily r.1=true) (fun v1 next hI1 hn=>?_) _ _ (Nat.lt_succ_self _) ⟨hJ2.2,Gen.nil (by have h9:=hJ2.1;omega)⟩
 refine cond_both (p:=fun (r:Family×Int×Int)=>specIsFamily r.1=true) (fun c1=>?_) (fun _=>(Dying.refl hI1.2.ok).valid hI1.2.ok)
 simp only [Bool.and_eq_true,decide_eq_true_eq] at c1
 have h4:=hJ1.1
 refine loopN_to (fun i v=>CurOk ⟨x0.b,v.2.1,v.2.2⟩∧GenI j1.1 v1.1 v1.2.1 i v.1) (fun (r:Family×Int×Int)=>specIsFamily r.1=true) ⟨hI1.1,hI1.2.start⟩ (fun i2 v2 next2 hi hI2 hn2=>?_) fun v2 hI2=>?_
 ·refine jn_to (fun j=>CurOk ⟨x0.b,j.1,j.2.1⟩∧(j.2.2=-1∨0<v1.2.1.length∧j.2.2=(v1.2.1.length:Int) - j1.1)) (fun (r:Family×Int×Int)=>specIsFamily r.1=true) (fun K3 hK3=>?_) fun j3 hJ3=>?_
  ·refine jn_to (fun j=>CurOk ⟨x0.b,j.2.1,j.2.2⟩∧(j.1=true→0<v1.2.1.length)) (fun (r:Family×Int×Int)=>specIsFamily r.1=true) (fun K hK=>?_) fun j4 hJ4=>?_
   ·exact cond_both (p:=fun (r:Family×Int×Int)=>specIsFamily r.1=true) (fun _=>hK _ ⟨l01Once_ok hI2.1 (by omega),fun h9=>by simp only [Bool.and_eq_true,decide_eq_true_eq] at h9;omega⟩) (fun _=>hK _ ⟨hI2.1,fun h9=>by simp only [Bool.and_eq_true,decide_eq_true_eq] at h9;omega⟩)
   ·exact cond_both (p:=fun (r:Family×Int×Int)=>specIsFamily r.1=true) (fun c=>hK3 _ ⟨hJ4.1,.inr ⟨hJ4.2 c,rfl⟩⟩) (fun _=>hK3 _ ⟨hJ4.1,.inl rfl⟩)
  ·refine jn_to (fun j=>CurOk ⟨x0.b,j.2.1,j.2.2⟩∧(j.1=true→0<v1.2.1.length)) (fun (r:Family×Int×Int)=>specIsFamily r.1=true) (fun K hK=>?_) fun j5 hJ5=>?_
   ·exact cond_both (p:=fun (r:Family×Int×Int)=>specIsFamily r.1=true) (fun _=>hK _ ⟨l01Once_ok hJ3.1 (by omega),fun h9=>by simp only [Bool.and_eq_true,decide_eq_true_eq] at h9;omega⟩) (fun _=>hK _ ⟨hJ3.1,fun h9=>by simp only [Bool.and_eq_true,decide_eq_true_eq] at h9;omega⟩)
   ·exact cond_both (p:=fun (r:Family×Int×Int)=>specIsFamily r.1=true) (fun c=>hn2 _ ⟨hJ5.1,hI2.2.step hI1.2 (by omega) h4 (by omega) (by omega) hJ3.2 (.inr ⟨hJ5.2 c,rfl⟩)⟩) (fun _=>hn2 _ ⟨hJ5.1,hI2.2.step hI1.2 (by omega) h4 (by omega) (by omega) hJ3.2 (.inl rfl)⟩)
 ·exact hn _ ⟨hI2.1,hI2.2.done hI1.2 (by omega) h4⟩ (by dsimp only;omega)
theorem l01New_ok {b:List Int} (hb:∀ y∈b,0≤y∧y≤255) (hx:b.length≤1048576):CurOk (l01New b):=by
 unfold l01New
 refine loopW_to (fun v=>(0≤v.1∧v.1≤1073741823)∧0≤v.2) (fun v=>4000 - Int.toNat v.2) (fun (r:l01Cur)=>CurOk r) (fun v next hv hn=>?_) _ _ (Nat.lt_succ_self _) (by simp only;omega)
 refine cond_both (p:=fun (r:l01Cur)=>CurOk r) (fun c=>hn _ ?_ ?_) (fun _=>⟨hb,hx,⟨by simp only;omega,by simp only;omega⟩,by simp only [inR];omega⟩)
 ·exact ⟨and_small _ 1073741823 1073741823 rfl (by omega),by dsimp only;omega⟩
 ·simp only [Bool.and_eq_true,decide_eq_true_eq] at c;dsimp only;omega
def C46 (R:Family):LV×List (Nat×BC):=(.agg [.own 0,.own 1],[(0,.arr 6 R.people.length (rowOf (cPerson true) R.people)),(1,.arr 4 R.unions.length (rowOf (cUnion true) R.unions))])
def makeFamily (x0:List Int) (x1:Int):Family:=((l1Family (l01New x0) (Max.max 0 (Min.min x1 40))).1)
def A46 (x0:List Int) (x1:Int):Ann:=.reg 2 [] [(1001,k49 6 [] x0),(1005,k92 10 [1006] (l01New x0) (Max.max 0 (Min.min x1 40)))] [4] [4,1010,2010] [] [] [] [0,4] (rt [(0,some 1010),(1,some 2010)] (C46 ((l1Family (l01New x0) (Max.max 0 (Min.min x1 40))).1)))
theorem ok_spec_MakeFamily (x0:List Int) (x1:Int) (hx:x0.length≤1048576) (hb:∀ y∈x0,0≤y∧y≤255):FnT Try.prog 46 [.ro false 1 x0.length (rowOf (cInt .u8) x0),.int .i64 x1] (C46 (makeFamily x0 x1)):=by
 have aux:∀ R,makeFamily x0 x1=R→slim (C46 R) (A46 x0 x1) []:=by
  intro R hR
  refine rg ⟨⟨by trivial,by trivial⟩,⟨by (exact l01New_ok hb hx),by (intros;omega)⟩,trivial⟩ ?_
  exact congrArg C46 hR
 exact Fn.go 11 Try.func46 (by kernel_rfl) (by kernel_rfl) (by simp [C46,Frs,FrsL,FrsB,rowOf,cInt,cBool,cStr,cSl,FrsL_app,cPerson,cUnion,cFamily,cEvent,cl01Cur]) (A46 x0 x1) (by kernel_rfl) (aux _ rfl)
def k46 (x0:List Int) (x1:Int):Cl:=(hres (C46 (makeFamily x0 x1)),k2 (ok_spec_MakeFamily x0 x1))
def C47 (R:Family):LV×List (Nat×BC):=(.agg [.own 0,.own 1],[(0,.arr 6 R.people.length (rowOf (cPerson true) R.people)),(1,.arr 4 R.unions.length (rowOf (cUnion true) R.unions))])
def makeClose (x0:List Int):Family:=((l8Close (l01New x0)).1)
def A47 (x0:List Int):Ann:=.reg 2 [] [(1001,k49 4 [] x0),(1002,k93 5 [1004] (l01New x0))] [2] [2,1005,2005] [] [] [] [0,4] (rt [(0,some 1005),(1,some 2005)] (C47 ((l8Close (l01New x0)).1)))
theorem ok_spec_MakeClose (x0:List Int) (hx:x0.length≤1048576) (hb:∀ y∈x0,0≤y∧y≤255):FnT Try.prog 47 [.ro false 1 x0.length (rowOf (cInt .u8) x0)] (C47 (makeClose x0)):=by
 have aux:∀ R,makeClose x0=R→slim (C47 R) (A47 x0) []:=by
  intro R hR
  refine rg ⟨⟨by trivial,by trivial⟩,by (exact l01New_ok hb hx),trivial⟩ ?_
  exact congrArg C47 hR
 exact Fn.go 6 Try.func47 (by kernel_rfl) (by kernel_rfl) (by simp [C47,Frs,FrsL,FrsB,rowOf,cInt,cBool,cStr,cSl,FrsL_app,cPerson,cUnion,cFamily,cEvent,cl01Cur]) (A47 x0) (by kernel_rfl) (aux _ rfl)
def k47 (x0:List Int):Cl:=(hres (C47 (makeClose x0)),k2 (ok_spec_MakeClose x0))
def C16 (R:Int):LV×List (Nat×BC):=(.int .i64 R,[])
def at1 (x0:List Int) (x1:Int):Int:=bif (decide (x1<((x0.length:Nat):Int))) then (x0.getD x1.toNat default) else (((x1 * 37)+(((x0.length:Nat):Int) * 11)).tmod 256)
def A16 (x0:List Int) (x1:Int):Ann:=r0 1 [0,1,4] [] (r0 1 [0,1,4,8] [] (cn (decide (x1<((x0.length:Nat):Int))) (r1 1 [0,1,4] [] [pf (0≤(x1:Int)∧(x1:Int)<((x0.length:Nat):Int)),pf (inR .i64 (x0.getD x1.toNat default))] [0,4] (rt [] (C16 (x0.getD x1.toNat default)))) (r1 1 [4] [] [pf (inR .i64 (x1 * 37)),pf (inR .i64 (((x0.length:Nat):Int) * 11)),pf (inR .i64 ((x1 * 37)+(((x0.length:Nat):Int) * 11))),pf ((256:Int)≠0)] [0,4,8,12] (rt [] (C16 (((x1 * 37)+(((x0.length:Nat):Int) * 11)).tmod 256))))))
theorem at1_rng {b:List Int} (hb:∀ y∈b,0≤y∧y≤255) {i:Int} (hi:0≤i):0≤at1 b i∧at1 b i≤255:=by
 unfold at1
 refine cond_both (p:=fun (r:Int)=>0≤r∧r≤255) (fun _=>getD_byte hb _) (fun _=>?_)
 rw [Int.tmod_eq_emod_of_nonneg (by omega)]
 omega
theorem ok_laws_at (x0:List Int) (x1:Int) (hx:x0.length≤1048576) (hb:∀ y∈x0,0≤y∧y≤255) (hi:0≤x1∧x1≤1000):FnT Try.prog 16 [.ro false 1 x0.length (rowOf (cInt .u8) x0),.int .i64 x1] (C16 (at1 x0 x1)):=by
 have aux:∀ R,at1 x0 x1=R→slim (C16 R) (A16 x0 x1) []:=by
  intro R hR
  refine rg trivial ?_
  refine rg trivial ?_
  revert hR;refine cd (fun hc1 hR=>?_) fun hc1 hR=>?_
  ·
    refine rg ⟨by ((try clear hR);intros;(try simp only [decide_eq_true_eq,decide_eq_false_iff_not,Bool.or_eq_true,Bool.and_eq_true,or_f_iff,not_f_iff,not_t_iff,Bool.not_eq_true',inR] at *);(repeat' apply And.intro)<;>(intros;omega)),by (have h9:=getD_byte hb x1.toNat;simp only [inR];omega),trivial⟩ ?_
    exact congrArg C16 hR
  ·
    refine rg ⟨by ( intros;simp only [inR];omega),by ( intros;simp only [inR];omega),by ( intros;simp only [inR];omega),by trivial,trivial⟩ ?_
    exact congrArg C16 hR
 exact Fn.go 21 Try.func16 (by kernel_rfl) (by kernel_rfl) (by simp [C16,Frs,FrsL]) (A16 x0 x1) (by kernel_rfl) (aux _ rfl)
def k16 (x0:List Int) (x1:Int):Cl:=(hres (C16 (at1 x0 x1)),k3 (ok_laws_at x0 x1))
def C10 (R:Family):LV×List (Nat×BC):=(.agg [.own 0,.own 1],[(0,.arr 6 R.people.length (rowOf (cPerson true) R.people)),(1,.arr 4 R.unions.length (rowOf (cUnion true) R.unions))])
def crowd (x0:List Int) (x1:Int):Family:=bif (decide (((at1 x0 9).tmod 4)=0)) then (bif (decide (((((makeClose x0).people).length:Nat):Int)=0)) then (Family.mk [(Person.mk [97,97] 1 (-1) (-1) 0 (-1))] ((makeClose x0).unions)) else (makeClose x0)) else (bif (decide (((((makeFamily x0 x1).people).length:Nat):Int)=0)) then (Family.mk [(Person.mk [97,97] 1 (-1) (-1) 0 (-1))] ((makeFamily x0 x1).unions)) else (makeFamily x0 x1))
def A10 (x0:List Int) (x1:Int):Ann:=.reg 2 [] [(1002,k46 x0 x1)] [0,4,5] [4,5,1008,2008] [] [] [] [0] (.reg 1 [] [(1,k16 x0 9)] [0,4,5,12] [4,5,1008,2008] [] [pf ((4:Int)≠0)] [] [4,0] (cn (decide (((at1 x0 9).tmod 4)=0)) (.reg 1 [] [(1,k47 x0)] [4,5] [4,5,1014,2014] [] [] [] [0] (r0 1 [4,5,18] [4,5,1014,2014] (cn (decide (((((makeClose x0).people).length:Nat):Int)=0)) (.reg 1 [] [(1,bsC 20 (cPerson true) ([(Person.mk [97,97] 1 (-1) (-1) 0 (-1))]:List Person))] [4,5] [4,5,20,2014] [] [] [] [0] (r0 1 [4] [4,20,2014] (rt [(0,some 20),(1,some 2014)] (C10 (Family.mk [(Person.mk [97,97] 1 (-1) (-1) 0 (-1))] ((makeClose x0).unions)))))) (r0 1 [4] [4,1014,2014] (rt [(0,some 1014),(1,some 2014)] (C10 (makeClose x0))))))) (r0 1 [4,5,18] [4,5,1008,2008] (cn (decide (((((makeFamily x0 x1).people).length:Nat):Int)=0)) (.reg 1 [] [(1,bsC 20 (cPerson true) ([(Person.mk [97,97] 1 (-1) (-1) 0 (-1))]:List Person))] [4,5] [4,5,20,2008] [] [] [] [0] (r0 1 [4] [4,20,2008] (rt [(0,some 20),(1,some 2008)] (C10 (Family.mk [(Person.mk [97,97] 1 (-1) (-1) 0 (-1))] ((makeFamily x0 x1).unions)))))) (r0 1 [4] [4,1008,2008] (rt [(0,some 1008),(1,some 2008)] (C10 (makeFamily x0 x1))))))))
theorem crowd_ok {b:List Int} (hx:b.length≤1048576) (hb:∀ y∈b,0≤y∧y≤255) (m:Int):specIsFamily (crowd b m)=true∧0<(crowd b m).people.length:=by
 have one:∀ z:Family,specIsFamily z=true→((z.people.length:Nat):Int)=0→specIsFamily (Family.mk [(Person.mk [97,97] 1 (-1) (-1) 0 (-1))] z.unions)=true:=fun z hz h0=>by
  have hu:z.unions=[]:=by
   cases hu:z.unions with
   | nil=>rfl
   | cons u r =>
    have:=(fam_u hz (k:=0) (by rw [hu];simp)).man
    omega
  rw [hu]
  exact (by kernel_rfl:specIsFamily (Family.mk [(Person.mk [97,97] 1 (-1) (-1) 0 (-1))] [])=true)
 have both:∀ z:Family,specIsFamily z=true→∀ r:Family,(bif decide (((z.people.length:Nat):Int)=0) then (Family.mk [(Person.mk [97,97] 1 (-1) (-1) 0 (-1))] z.unions) else z)=r→specIsFamily r=true∧0<r.people.length:=fun z hz r hr=>by
  subst hr
  exact cond_both (p:=fun (r:Family)=>specIsFamily r=true∧0<r.people.length) (fun c=>⟨one z hz (of_decide_eq_true c),by simp⟩) (fun c=>⟨hz,by have:=of_decide_eq_false c;omega⟩)
 unfold crowd
 refine cond_both (p:=fun (r:Family)=>specIsFamily r=true∧0<r.people.length) (fun _=>both (makeClose b) (l8Close_ok (l01New_ok hb hx)) _ rfl) (fun _=>both (makeFamily b m) (l1Family_ok (l01New_ok hb hx) (by omega)) _ rfl)
theorem name_len {s:List UInt8} (h:specIsName s=true):s.length≤12:=by
 simp only [specIsName,cond_f_iff,or_f_iff,loopN_all,l1In,Bool.and_eq_true,decide_eq_true_eq,decide_eq_false_iff_not,and_true] at h
 omega
theorem fam_names {x:Family} (hf:specIsFamily x=true):∀ p∈x.people,p.name.length≤1048576:=fun p hp=>by
 obtain ⟨i,hi,e⟩:=List.getElem_of_mem hp
 have h:=name_len (fam_p hf hi).name
 rw [List.getD_eq_getElem?_getD,List.getElem?_eq_getElem hi,Option.getD_some,e] at h
 omega
theorem bytes_ok {x:List Int} (h:x.length≤1048576∧∀ y∈x,inR .u8 y):x.length≤1048576∧∀ y∈x,0≤y∧y≤255:=⟨h.1,fun y hy=>by have:=h.2 y hy;simp only [inR] at this;omega⟩
theorem crowd_bd {b:List Int} (h:b.length≤1048576∧∀ y∈b,inR .u8 y) (m:Int):specIsFamily (crowd b m)=true∧(0<(crowd b m).people.length∧(crowd b m).people.length≤40)∧(crowd b m).unions.length≤60∧∀ p∈(crowd b m).people,p.name.length≤1048576:=by
 have h1:=crowd_ok (bytes_ok h).1 (bytes_ok h).2 m
 have h2:=fam_n h1.1
 exact ⟨h1.1,⟨h1.2,h2.1⟩,h2.2,fam_names h1.1⟩
theorem ok_laws_crowd (x0:List Int) (x1:Int) (hx:x0.length≤1048576) (hb:∀ y∈x0,0≤y∧y≤255) (hm:0≤x1∧x1≤40):FnT Try.prog 10 [.ro false 1 x0.length (rowOf (cInt .u8) x0),.int .i64 x1] (C10 (crowd x0 x1)):=by
 have aux:∀ R,crowd x0 x1=R→slim (C10 R) (A10 x0 x1) []:=by
  intro R hR
  refine rg ⟨⟨by trivial,by trivial⟩,trivial⟩ ?_
  refine rg ⟨by trivial,⟨by trivial,by trivial,by trivial⟩,trivial⟩ ?_
  revert hR;refine cd (fun hc1 hR=>?_) fun hc1 hR=>?_
  ·
    refine rg ⟨⟨by trivial,by trivial⟩,trivial⟩ ?_
    refine rg trivial ?_
    revert hR;refine cd (fun hc2 hR=>?_) fun hc2 hR=>?_
    ·
      refine rg ⟨trivial,trivial⟩ ?_
      refine rg trivial ?_
      exact congrArg C10 hR
    ·
      refine rg trivial ?_
      exact congrArg C10 hR
  ·
    refine rg trivial ?_
    revert hR;refine cd (fun hc3 hR=>?_) fun hc3 hR=>?_
    ·
      refine rg ⟨trivial,trivial⟩ ?_
      refine rg trivial ?_
      exact congrArg C10 hR
    ·
      refine rg trivial ?_
      exact congrArg C10 hR
 exact Fn.go 23 Try.func10 (by kernel_rfl) (by kernel_rfl) (by simp [C10,Frs,FrsL,FrsB,rowOf,cInt,cBool,cStr,cSl,FrsL_app,cPerson,cUnion,cFamily,cEvent,cl01Cur]) (A10 x0 x1) (by kernel_rfl) (aux _ rfl)
def k10 (x0:List Int) (x1:Int):Cl:=(hres (C10 (crowd x0 x1)),k3 (ok_laws_crowd x0 x1))
end Go.Proofs.Ytepefimocflfkaa
