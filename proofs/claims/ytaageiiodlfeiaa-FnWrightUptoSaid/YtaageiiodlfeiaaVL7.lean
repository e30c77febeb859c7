import Derived.Test.YtaageiiodlfeiaaVL6
set_option maxHeartbeats 4000000
set_option linter.unusedSimpArgs false
set_option linter.unusedVariables false
namespace Go.Proofs.Ytaageiiodlfeiaa
open Go Go.Lite Go.Proofs
def C156L (x0:SrtL) (x1:Int) (x2:Int) (x3:Int) (R:(List (List Int))):LV×List (Nat×BC):=(.tup [],[(900000,.nest true 1 R.length (nrOf (cInt .i64) R)),(900001,.var [.own 900000])])
def zfn : Nat → SrtL → Int → Int → Int → (List (List Int))
  | 0,_,_,_,_=>default
  | m+1,x0,x1,x2,x3=>loopW (fun (v1:Int×Int×Int×Bool×Bool×(List (List Int))) nx1=>bif (decide ((v1.2.1 - v1.1)≤12)) then (jn (fun K1=>K1 (zfk (SrtL.mk v1.2.2.2.2.2) v1.1 v1.2.1)) (fun (j1:(List (List Int)))=>j1)) else (bif (decide (v1.2.2.1=0)) then (jn (fun K2=>K2 (zeo (SrtL.mk v1.2.2.2.2.2) v1.1 v1.2.1)) (fun (j2:(List (List Int)))=>j2)) else (jn (fun K3=>bif (!v1.2.2.2.1) then (jn (fun K4=>K4 (zfp (SrtL.mk v1.2.2.2.2.2) v1.1 v1.2.1)) (fun (j4:(List (List Int)))=>K3 (v1.2.2.1 - 1,j4))) else (K3 (v1.2.2.1,v1.2.2.2.2.2))) (fun (j3:Int×(List (List Int)))=>jn (fun K5=>K5 ((zc6 (SrtL.mk j3.2) v1.1 v1.2.1).1,(zc6 (SrtL.mk j3.2) v1.1 v1.2.1).2)) (fun (j5:Int×Int)=>jn (fun K6=>bif (decide (j5.2=2)) then (jn (fun K7=>K7 (zdu (SrtL.mk j3.2) v1.1 v1.2.1)) (fun (j7:(List (List Int)))=>K6 ((v1.2.1 - 1) - (j5.1 - v1.1),1,j7))) else (K6 (j5.1,j5.2,j3.2))) (fun (j6:Int×Int×(List (List Int)))=>jn (fun K8=>bif ((v1.2.2.2.1&&v1.2.2.2.2.1)&&(decide (j6.2.1=1))) then (jn (fun K9=>K9 ((zc2 (SrtL.mk j6.2.2) v1.1 v1.2.1).1,(zc2 (SrtL.mk j6.2.2) v1.1 v1.2.1).2)) (fun (j9:Bool×(List (List Int)))=>bif j9.1 then j9.2 else (K8 j9.2))) else (K8 j6.2.2)) (fun (j8:(List (List Int)))=>bif ((decide (0<v1.1))&&(!(zb3 (v1.1 - 1) j6.1 j8))) then (jn (fun K10=>K10 ((ze9 (SrtL.mk j8) v1.1 v1.2.1 j6.1).1,(ze9 (SrtL.mk j8) v1.1 v1.2.1 j6.1).2)) (fun (j10:Int×(List (List Int)))=>nx1 (j10.1,v1.2.1,j3.1,v1.2.2.2.1,v1.2.2.2.2.1,j10.2))) else (jn (fun K11=>K11 ((partL (SrtL.mk j8) v1.1 v1.2.1 j6.1).1,(partL (SrtL.mk j8) v1.1 v1.2.1 j6.1).2.1,(partL (SrtL.mk j8) v1.1 v1.2.1 j6.1).2.2)) (fun (j11:Int×Bool×(List (List Int)))=>bif (decide ((j11.1 - v1.1)<(v1.2.1 - j11.1))) then (jn (fun K12=>K12 (zfn m (SrtL.mk j11.2.2) v1.1 j11.1 j3.1)) (fun (j12:(List (List Int)))=>nx1 (j11.1+1,v1.2.1,j3.1,decide (((v1.2.1 - v1.1).tdiv 8)≤(j11.1 - v1.1)),j11.2.1,j12))) else (jn (fun K13=>K13 (zfn m (SrtL.mk j11.2.2) (j11.1+1) v1.2.1 j3.1)) (fun (j13:(List (List Int)))=>nx1 (v1.1,j11.1,j3.1,decide (((v1.2.1 - v1.1).tdiv 8)≤(v1.2.1 - j11.1)),j11.2.1,j13)))))))))))) ((x2 - (x1)).toNat+1) (x1,x2,x3,true,true,x0.l)
def pdqL (x0:SrtL) (x1:Int) (x2:Int) (x3:Int):(List (List Int)):=zfn 256 x0 x1 x2 x3
def zz8 (m d:Nat) (ids:List Nat) (x0:SrtL) (x1:Int) (x2:Int) (x3:Int):Cl:=(hresM d ids (C156L x0 x1 x2 x3 (zfn m x0 x1 x2 x3)),pf (FnMT Try.prog 156 [.agg [.clo 103 [.vp 900001 0],.clo 187 [.own 900000,.k Try.prog.globals.size 42]],.int .i64 x1,.int .i64 x2,.int .i64 x3] [.nest true 1 x0.l.length (nrOf (cInt .i64) x0.l),.var [.own 900000]] (C156L x0 x1 x2 x3 (zfn m x0 x1 x2 x3))))
def zny (m:Nat) (x0:SrtL) (x1:Int) (x2:Int) (x3:Int) (v1:Int×Int×Int×Bool×Bool×(List (List Int))):Dl:=⟨[(1,.int .i64 v1.1),(2,.int .i64 v1.2.1),(3,.int .i64 v1.2.2.1),(8,.bool v1.2.2.2.1),(9,.bool v1.2.2.2.2.1)],[(900000,.nest true 1 v1.2.2.2.2.2.length (nrOf (cInt .i64) v1.2.2.2.2.2))]⟩
def zym (m:Nat) (x0:SrtL) (x1:Int) (x2:Int) (x3:Int) (v1:Int×Int×Int×Bool×Bool×(List (List Int))) (j1:(List (List Int))):Dl:=⟨[],[(900000,.nest true 1 j1.length (nrOf (cInt .i64) j1))]⟩
def z20 (m:Nat) (x0:SrtL) (x1:Int) (x2:Int) (x3:Int) (v1:Int×Int×Int×Bool×Bool×(List (List Int))) (j1:(List (List Int))):Ann:=rt [(900000,some 900000),(900001,some 900001)] (C156L x0 x1 x2 x3 j1)
def zyl (m:Nat) (x0:SrtL) (x1:Int) (x2:Int) (x3:Int) (v1:Int×Int×Int×Bool×Bool×(List (List Int))) (j2:(List (List Int))):Dl:=⟨[],[(900000,.nest true 1 j2.length (nrOf (cInt .i64) j2))]⟩
def z2z (m:Nat) (x0:SrtL) (x1:Int) (x2:Int) (x3:Int) (v1:Int×Int×Int×Bool×Bool×(List (List Int))) (j2:(List (List Int))):Ann:=rt [(900000,some 900000),(900001,some 900001)] (C156L x0 x1 x2 x3 j2)
def zt1 (m:Nat) (x0:SrtL) (x1:Int) (x2:Int) (x3:Int) (v1:Int×Int×Int×Bool×Bool×(List (List Int))) (j3:Int×(List (List Int))):Dl:=⟨[(3,.int .i64 j3.1)],[(900000,.nest true 1 j3.2.length (nrOf (cInt .i64) j3.2))]⟩
def zyk (m:Nat) (x0:SrtL) (x1:Int) (x2:Int) (x3:Int) (v1:Int×Int×Int×Bool×Bool×(List (List Int))) (j4:(List (List Int))):Dl:=⟨[],[(900000,.nest true 1 j4.length (nrOf (cInt .i64) j4))]⟩
def z2x (m:Nat) (x0:SrtL) (x1:Int) (x2:Int) (x3:Int) (v1:Int×Int×Int×Bool×Bool×(List (List Int))) (j4:(List (List Int))):Ann:=r1 1 [1,2,3,4,8,9,10] [4,900000,900001] [pf (inR .i64 (v1.2.2.1 - 1))] [0] (.next 0 [(900000,some 900000)] (zt1 m x0 x1 x2 x3 v1 (v1.2.2.1 - 1,j4)))
def zyj (m:Nat) (x0:SrtL) (x1:Int) (x2:Int) (x3:Int) (v1:Int×Int×Int×Bool×Bool×(List (List Int))) (j3:Int×(List (List Int))) (j5:Int×Int):Dl:=⟨[(11,.int .i64 j5.1),(12,.int .i64 j5.2)],[]⟩
def zt0 (m:Nat) (x0:SrtL) (x1:Int) (x2:Int) (x3:Int) (v1:Int×Int×Int×Bool×Bool×(List (List Int))) (j3:Int×(List (List Int))) (j5:Int×Int) (j6:Int×Int×(List (List Int))):Dl:=⟨[(11,.int .i64 j6.1),(12,.int .i64 j6.2.1)],[(900000,.nest true 1 j6.2.2.length (nrOf (cInt .i64) j6.2.2))]⟩
def zyi (m:Nat) (x0:SrtL) (x1:Int) (x2:Int) (x3:Int) (v1:Int×Int×Int×Bool×Bool×(List (List Int))) (j3:Int×(List (List Int))) (j5:Int×Int) (j7:(List (List Int))):Dl:=⟨[],[(900000,.nest true 1 j7.length (nrOf (cInt .i64) j7))]⟩
def z2u (m:Nat) (x0:SrtL) (x1:Int) (x2:Int) (x3:Int) (v1:Int×Int×Int×Bool×Bool×(List (List Int))) (j3:Int×(List (List Int))) (j5:Int×Int) (j7:(List (List Int))):Ann:=r1 1 [1,2,3,4,8,9,10,11,12] [4,900000,900001] [pf (inR .i64 (v1.2.1 - 1)),pf (inR .i64 (j5.1 - v1.1)),pf (inR .i64 ((v1.2.1 - 1) - (j5.1 - v1.1)))] [0,4,8] (r0 1 [1,2,3,4,8,9,10,11,12] [4,900000,900001] (.next 0 [(900000,some 900000)] (zt0 m x0 x1 x2 x3 v1 j3 j5 ((v1.2.1 - 1) - (j5.1 - v1.1),1,j7))))
def ztz (m:Nat) (x0:SrtL) (x1:Int) (x2:Int) (x3:Int) (v1:Int×Int×Int×Bool×Bool×(List (List Int))) (j3:Int×(List (List Int))) (j5:Int×Int) (j6:Int×Int×(List (List Int))) (j8:(List (List Int))):Dl:=⟨[],[(900000,.nest true 1 j8.length (nrOf (cInt .i64) j8))]⟩
def zyh (m:Nat) (x0:SrtL) (x1:Int) (x2:Int) (x3:Int) (v1:Int×Int×Int×Bool×Bool×(List (List Int))) (j3:Int×(List (List Int))) (j5:Int×Int) (j6:Int×Int×(List (List Int))) (j9:Bool×(List (List Int))):Dl:=⟨[(72,.bool j9.1)],[(900000,.nest true 1 j9.2.length (nrOf (cInt .i64) j9.2))]⟩
def z2s (m:Nat) (x0:SrtL) (x1:Int) (x2:Int) (x3:Int) (v1:Int×Int×Int×Bool×Bool×(List (List Int))) (j3:Int×(List (List Int))) (j5:Int×Int) (j6:Int×Int×(List (List Int))) (j9:Bool×(List (List Int))):Ann:=cn j9.1 (rt [(900000,some 900000),(900001,some 900001)] (C156L x0 x1 x2 x3 j9.2)) (.next 0 [(900000,some 900000)] (ztz m x0 x1 x2 x3 v1 j3 j5 j6 j9.2))
def zvd (m:Nat) (x0:SrtL) (x1:Int) (x2:Int) (x3:Int) (v1:Int×Int×Int×Bool×Bool×(List (List Int))) (j3:Int×(List (List Int))) (j5:Int×Int) (j6:Int×Int×(List (List Int))) (j8:(List (List Int))) (j10:Int×(List (List Int))):Dl:=⟨[(13,.int .i64 j10.1)],[(900000,.nest true 1 j10.2.length (nrOf (cInt .i64) j10.2))]⟩
def zz0 (m:Nat) (x0:SrtL) (x1:Int) (x2:Int) (x3:Int) (v1:Int×Int×Int×Bool×Bool×(List (List Int))) (j3:Int×(List (List Int))) (j5:Int×Int) (j6:Int×Int×(List (List Int))) (j8:(List (List Int))) (j10:Int×(List (List Int))):Ann:=r0 1 [1,2,3,4,8,9,10,11] [4,900000,900001] (.next 0 [(900000,some 900000)] (zny m x0 x1 x2 x3 (j10.1,v1.2.1,j3.1,v1.2.2.2.1,v1.2.2.2.2.1,j10.2)))
def zvc (m:Nat) (x0:SrtL) (x1:Int) (x2:Int) (x3:Int) (v1:Int×Int×Int×Bool×Bool×(List (List Int))) (j3:Int×(List (List Int))) (j5:Int×Int) (j6:Int×Int×(List (List Int))) (j8:(List (List Int))) (j11:Int×Bool×(List (List Int))):Dl:=⟨[(14,.int .i64 j11.1),(15,.bool j11.2.1)],[(900000,.nest true 1 j11.2.2.length (nrOf (cInt .i64) j11.2.2))]⟩
def zvb (m:Nat) (x0:SrtL) (x1:Int) (x2:Int) (x3:Int) (v1:Int×Int×Int×Bool×Bool×(List (List Int))) (j3:Int×(List (List Int))) (j5:Int×Int) (j6:Int×Int×(List (List Int))) (j8:(List (List Int))) (j11:Int×Bool×(List (List Int))) (j12:(List (List Int))):Dl:=⟨[],[(900000,.nest true 1 j12.length (nrOf (cInt .i64) j12))]⟩
def zzy (m:Nat) (x0:SrtL) (x1:Int) (x2:Int) (x3:Int) (v1:Int×Int×Int×Bool×Bool×(List (List Int))) (j3:Int×(List (List Int))) (j5:Int×Int) (j6:Int×Int×(List (List Int))) (j8:(List (List Int))) (j11:Int×Bool×(List (List Int))) (j12:(List (List Int))):Ann:=r1 1 [1,2,3,4,8,9] [4,900000,900001] [pf (inR .i64 (j11.1+1))] [0] (.next 0 [(900000,some 900000)] (zny m x0 x1 x2 x3 (j11.1+1,v1.2.1,j3.1,decide (((v1.2.1 - v1.1).tdiv 8)≤(j11.1 - v1.1)),j11.2.1,j12)))
def zva (m:Nat) (x0:SrtL) (x1:Int) (x2:Int) (x3:Int) (v1:Int×Int×Int×Bool×Bool×(List (List Int))) (j3:Int×(List (List Int))) (j5:Int×Int) (j6:Int×Int×(List (List Int))) (j8:(List (List Int))) (j11:Int×Bool×(List (List Int))) (j13:(List (List Int))):Dl:=⟨[],[(900000,.nest true 1 j13.length (nrOf (cInt .i64) j13))]⟩
def zzx (m:Nat) (x0:SrtL) (x1:Int) (x2:Int) (x3:Int) (v1:Int×Int×Int×Bool×Bool×(List (List Int))) (j3:Int×(List (List Int))) (j5:Int×Int) (j6:Int×Int×(List (List Int))) (j8:(List (List Int))) (j11:Int×Bool×(List (List Int))) (j13:(List (List Int))):Ann:=r0 1 [1,2,3,4,8,9] [4,900000,900001] (.next 0 [(900000,some 900000)] (zny m x0 x1 x2 x3 (v1.1,j11.1,j3.1,decide (((v1.2.1 - v1.1).tdiv 8)≤(v1.2.1 - j11.1)),j11.2.1,j13)))
def zzz (m:Nat) (x0:SrtL) (x1:Int) (x2:Int) (x3:Int) (v1:Int×Int×Int×Bool×Bool×(List (List Int))) (j3:Int×(List (List Int))) (j5:Int×Int) (j6:Int×Int×(List (List Int))) (j8:(List (List Int))) (j11:Int×Bool×(List (List Int))):Ann:=r1 4 [1,2,3,4,8,9,14,16,17,18,109] [4,900000,900001] [pf (inR .i64 (j11.1 - v1.1)),pf (inR .i64 (v1.2.1 - j11.1)),pf ((8:Int)≠0),pf (inR .i64 ((v1.2.1 - v1.1).tdiv 8))] [0,4,8,12] (cn (decide ((j11.1 - v1.1)<(v1.2.1 - j11.1))) (r0 1 [1,2,3,4,8,9,14] [4,900000,900001] (.join 0 (List (List Int)) (zvb m x0 x1 x2 x3 v1 j3 j5 j6 j8 j11) [1,2,3,4,8,9,14] [4,900001,900000] (.reg 1 [] [(4,zz8 m 117 [900000,900001] (SrtL.mk j11.2.2) v1.1 j11.1 j3.1)] [1,2,3,4,8,9,14] [4,900000,900001] [] [] [] [0] (.next 0 [(900000,some 900000)] (zvb m x0 x1 x2 x3 v1 j3 j5 j6 j8 j11 (zfn m (SrtL.mk j11.2.2) v1.1 j11.1 j3.1)))) (zzy m x0 x1 x2 x3 v1 j3 j5 j6 j8 j11))) (r0 1 [1,2,3,4,8,9,14] [4,900000,900001] (.join 0 (List (List Int)) (zva m x0 x1 x2 x3 v1 j3 j5 j6 j8 j11) [1,2,3,4,8,9,14] [4,900001,900000] (.reg 1 [] [(5,zz8 m 128 [900000,900001] (SrtL.mk j11.2.2) (j11.1+1) v1.2.1 j3.1)] [1,2,3,4,8,9,14] [4,900000,900001] [] [pf (inR .i64 (j11.1+1))] [] [0,4] (.next 0 [(900000,some 900000)] (zva m x0 x1 x2 x3 v1 j3 j5 j6 j8 j11 (zfn m (SrtL.mk j11.2.2) (j11.1+1) v1.2.1 j3.1)))) (zzx m x0 x1 x2 x3 v1 j3 j5 j6 j8 j11))))
def z2t (m:Nat) (x0:SrtL) (x1:Int) (x2:Int) (x3:Int) (v1:Int×Int×Int×Bool×Bool×(List (List Int))) (j3:Int×(List (List Int))) (j5:Int×Int) (j6:Int×Int×(List (List Int))) (j8:(List (List Int))):Ann:=.reg 1 [] [(8,cg (decide (0<v1.1)) (k103 (v1.1 - 1) j6.1 j8))] [1,2,3,4,8,9,10,11,83] [4,900000,900001] [decide (0<v1.1)] [gt (decide (0<v1.1)) (pf (inR .i64 (v1.1 - 1)))] [] [1,1,0,1,1,1,4,1,1] (cn ((decide (0<v1.1))&&(!(zb3 (v1.1 - 1) j6.1 j8))) (.join 0 (Int×(List (List Int))) (zvd m x0 x1 x2 x3 v1 j3 j5 j6 j8) [1,2,3,4,8,9,10,11] [4,900001,900000] (.reg 1 [] [(4,k196L 88 [900000,900001] (SrtL.mk j8) v1.1 v1.2.1 j6.1)] [1,2,3,4,8,9,10,11,13] [4,900000,900001] [] [] [] [0] (.next 0 [(900000,some 900000)] (zvd m x0 x1 x2 x3 v1 j3 j5 j6 j8 ((ze9 (SrtL.mk j8) v1.1 v1.2.1 j6.1).1,(ze9 (SrtL.mk j8) v1.1 v1.2.1 j6.1).2)))) (zz0 m x0 x1 x2 x3 v1 j3 j5 j6 j8)) (.join 0 (Int×Bool×(List (List Int))) (zvc m x0 x1 x2 x3 v1 j3 j5 j6 j8) [1,2,3,4,8,9,10] [4,900001,900000] (.reg 1 [] [(4,k197L 95 [900000,900001] (SrtL.mk j8) v1.1 v1.2.1 j6.1)] [1,2,3,4,8,9,10,14,15] [4,900000,900001] [] [] [] [0] (.next 0 [(900000,some 900000)] (zvc m x0 x1 x2 x3 v1 j3 j5 j6 j8 ((partL (SrtL.mk j8) v1.1 v1.2.1 j6.1).1,(partL (SrtL.mk j8) v1.1 v1.2.1 j6.1).2.1,(partL (SrtL.mk j8) v1.1 v1.2.1 j6.1).2.2)))) (zzz m x0 x1 x2 x3 v1 j3 j5 j6 j8)))
def z2v (m:Nat) (x0:SrtL) (x1:Int) (x2:Int) (x3:Int) (v1:Int×Int×Int×Bool×Bool×(List (List Int))) (j3:Int×(List (List Int))) (j5:Int×Int) (j6:Int×Int×(List (List Int))):Ann:=.join 0 (List (List Int)) (ztz m x0 x1 x2 x3 v1 j3 j5 j6) [1,2,3,4,8,9,10,11] [4,900001,900000] (.reg 1 [] [] [1,2,3,4,8,9,10,11,68] [4,900000,900001] [v1.2.2.2.1,v1.2.2.2.1&&v1.2.2.2.2.1] [] [] [1,5,5] (cn ((v1.2.2.2.1&&v1.2.2.2.2.1)&&(decide (j6.2.1=1))) (.join 0 (Bool×(List (List Int))) (zyh m x0 x1 x2 x3 v1 j3 j5 j6) [1,2,3,4,8,9,10,11] [4,900001,900000] (.reg 1 [] [(3,k195L 72 [900000,900001] (SrtL.mk j6.2.2) v1.1 v1.2.1)] [1,2,3,4,8,9,10,11,72] [4,900000,900001] [] [] [] [0] (.next 0 [(900000,some 900000)] (zyh m x0 x1 x2 x3 v1 j3 j5 j6 ((zc2 (SrtL.mk j6.2.2) v1.1 v1.2.1).1,(zc2 (SrtL.mk j6.2.2) v1.1 v1.2.1).2)))) (z2s m x0 x1 x2 x3 v1 j3 j5 j6)) (.next 0 [(900000,some 900000)] (ztz m x0 x1 x2 x3 v1 j3 j5 j6 j6.2.2)))) (z2t m x0 x1 x2 x3 v1 j3 j5 j6)
def z2w (m:Nat) (x0:SrtL) (x1:Int) (x2:Int) (x3:Int) (v1:Int×Int×Int×Bool×Bool×(List (List Int))) (j3:Int×(List (List Int))) (j5:Int×Int):Ann:=.join 0 (Int×Int×(List (List Int))) (zt0 m x0 x1 x2 x3 v1 j3 j5) [1,2,3,4,8,9,10,11,12] [4,900001,900000] (r0 1 [1,2,3,4,8,9,10,11,12,50] [4,900000,900001] (cn (decide (j5.2=2)) (.join 0 (List (List Int)) (zyi m x0 x1 x2 x3 v1 j3 j5) [1,2,3,4,8,9,10,11,12] [4,900001,900000] (.reg 1 [] [(3,k194L 54 [900000,900001] (SrtL.mk j3.2) v1.1 v1.2.1)] [1,2,3,4,8,9,10,11,12] [4,900000,900001] [] [] [] [0] (.next 0 [(900000,some 900000)] (zyi m x0 x1 x2 x3 v1 j3 j5 (zdu (SrtL.mk j3.2) v1.1 v1.2.1)))) (z2u m x0 x1 x2 x3 v1 j3 j5)) (.next 0 [(900000,some 900000)] (zt0 m x0 x1 x2 x3 v1 j3 j5 (j5.1,j5.2,j3.2))))) (z2v m x0 x1 x2 x3 v1 j3 j5)
def z2y (m:Nat) (x0:SrtL) (x1:Int) (x2:Int) (x3:Int) (v1:Int×Int×Int×Bool×Bool×(List (List Int))) (j3:Int×(List (List Int))):Ann:=.join 0 (Int×Int) (zyj m x0 x1 x2 x3 v1 j3) [1,2,3,4,8,9,10] [4,900001,900000] (.reg 1 [] [(3,k193L 46 [900000,900001] (SrtL.mk j3.2) v1.1 v1.2.1)] [1,2,3,4,8,9,10,11,12] [4,900000,900001] [] [] [] [0] (.next 0 [] (zyj m x0 x1 x2 x3 v1 j3 ((zc6 (SrtL.mk j3.2) v1.1 v1.2.1).1,(zc6 (SrtL.mk j3.2) v1.1 v1.2.1).2)))) (z2w m x0 x1 x2 x3 v1 j3)
def z21 (m:Nat) (x0:SrtL) (x1:Int) (x2:Int) (x3:Int) (v1:Int×Int×Int×Bool×Bool×(List (List Int))):Ann:=r1 1 [1,2,3,4,8,9,10] [4,900000,900001] [pf (inR .i64 (v1.2.1 - v1.1))] [0] (r0 1 [1,2,3,4,8,9,10,23] [4,900000,900001] (cn (decide ((v1.2.1 - v1.1)≤12)) (.join 0 (List (List Int)) (zym m x0 x1 x2 x3 v1) [1,2,3,4,8,9,10] [4,900001,900000] (.reg 1 [] [(3,k190L 27 [900000,900001] (SrtL.mk v1.2.2.2.2.2) v1.1 v1.2.1)] [1,2,3,4,8,9,10] [4,900000,900001] [] [] [] [0] (.next 0 [(900000,some 900000)] (zym m x0 x1 x2 x3 v1 (zfk (SrtL.mk v1.2.2.2.2.2) v1.1 v1.2.1)))) (z20 m x0 x1 x2 x3 v1)) (r0 1 [1,2,3,4,8,9,10,29] [4,900000,900001] (cn (decide (v1.2.2.1=0)) (.join 0 (List (List Int)) (zyl m x0 x1 x2 x3 v1) [1,2,3,4,8,9,10] [4,900001,900000] (.reg 1 [] [(3,k191L 33 [900000,900001] (SrtL.mk v1.2.2.2.2.2) v1.1 v1.2.1)] [1,2,3,4,8,9,10] [4,900000,900001] [] [] [] [0] (.next 0 [(900000,some 900000)] (zyl m x0 x1 x2 x3 v1 (zeo (SrtL.mk v1.2.2.2.2.2) v1.1 v1.2.1)))) (z2z m x0 x1 x2 x3 v1)) (.join 0 (Int×(List (List Int))) (zt1 m x0 x1 x2 x3 v1) [1,2,3,4,8,9,10] [4,900001,900000] (r0 1 [1,2,3,4,8,9,10,35] [4,900000,900001] (cn (!v1.2.2.2.1) (.join 0 (List (List Int)) (zyk m x0 x1 x2 x3 v1) [1,2,3,4,8,9,10] [4,900001,900000] (.reg 1 [] [(3,k192L 39 [900000,900001] (SrtL.mk v1.2.2.2.2.2) v1.1 v1.2.1)] [1,2,3,4,8,9,10] [4,900000,900001] [] [] [] [0] (.next 0 [(900000,some 900000)] (zyk m x0 x1 x2 x3 v1 (zfp (SrtL.mk v1.2.2.2.2.2) v1.1 v1.2.1)))) (z2x m x0 x1 x2 x3 v1)) (.next 0 [(900000,some 900000)] (zt1 m x0 x1 x2 x3 v1 (v1.2.2.1,v1.2.2.2.2.2))))) (z2y m x0 x1 x2 x3 v1))))))
def A156L (m:Nat) (x0:SrtL) (x1:Int) (x2:Int) (x3:Int):Ann:=r0 3 [1,2,3,4,8,9] [4,900000,900001] (.loop (Int×Int×Int×Bool×Bool×(List (List Int))) (zny m x0 x1 x2 x3) [] [] [(900000,some 900000)] (zny m x0 x1 x2 x3 (x1,x2,x3,true,true,x0.l)) (z21 m x0 x1 x2 x3))
theorem zid:∀ (m:Nat) (x0:SrtL) (x1 x2 x3:Int),0≤x1∧x1≤x2∧x2≤255→x2≤x0.l.length→(x2 - x1).toNat<m→Sw 0 x0.l.length x0.l (zfn m x0 x1 x2 x3):=by
 intro m
 induction m with
 | zero=>intro x0 x1 x2 x3 h hl hm;exact absurd hm (Nat.not_lt_zero _)
 | succ m ih =>
  intro x0 x1 x2 x3 h hl hm
  rw [zfn]
  have wide:∀ {l l':List (List Int)} {a b:Int},Sw 0 x0.l.length x0.l l→Sw a b l l'→0≤a→b≤x0.l.length→Sw 0 x0.l.length x0.l l':=fun h1 h2 h3 h4=>h1.trans (h2.mono h3 h4)
  refine zcj (fun (v:Int×Int×Int×Bool×Bool×List (List Int))=>(x1≤v.1∧v.1≤v.2.1∧v.2.1≤x2)∧Sw 0 x0.l.length x0.l v.2.2.2.2.2) (fun v=>(v.2.1 - v.1).toNat) (fun (l:List (List Int))=>Sw 0 x0.l.length x0.l l) (fun v next hv hn=>?_) _ _ zau ⟨by dsimp only;omega,.refl⟩
  obtain ⟨hb,hs⟩:=hv
  cases hc:decide (v.2.1 - v.1≤12) with
  | true=>exact wide hs (zex ⟨v.2.2.2.2.2⟩ v.1 v.2.1 om) om om
  | false =>
   have hc:=of_decide_eq_false hc
   cases decide (v.2.2.1=0) with
   | true=>exact wide hs (zee ⟨v.2.2.2.2.2⟩ v.1 v.2.1 om) om om
   | false =>
    rw [cond_false,cond_false]
    refine jn_to (fun (j:Int×List (List Int))=>Sw 0 x0.l.length x0.l j.2) (fun (l:List (List Int))=>Sw 0 x0.l.length x0.l l) (fun K hK=>?_) (fun j3 h3=>?_)
    ·cases !v.2.2.2.1 with
     | true=>exact hK (_,_) (wide hs (zef ⟨v.2.2.2.2.2⟩ v.1 v.2.1 om) om om)
     | false=>exact hK (_,_) hs
    ·refine jn_to (fun (j:Int×Int)=>v.1≤j.1∧j.1<v.2.1) (fun (l:List (List Int))=>Sw 0 x0.l.length x0.l l) (fun K hK=>hK (_,_) (zg9 ⟨j3.2⟩ v.1 v.2.1 om)) (fun j5 h5=>?_)
     refine jn_to (fun (j:Int×Int×List (List Int))=>(v.1≤j.1∧j.1<v.2.1)∧Sw 0 x0.l.length x0.l j.2.2) (fun (l:List (List Int))=>Sw 0 x0.l.length x0.l l) (fun K hK=>?_) (fun j6 h6=>?_)
     ·cases decide (j5.2=2) with
      | true=>exact hK (_,_,_) ⟨by dsimp only;omega,wide h3 (zdg ⟨j3.2⟩ v.1 v.2.1 om) om om⟩
      | false=>exact hK (_,_,_) ⟨h5,h3⟩
     ·obtain ⟨h6,h6s⟩:=h6
      have hl6:=h6s.len
      refine jn_to (fun (j:List (List Int))=>Sw 0 x0.l.length x0.l j) (fun (l:List (List Int))=>Sw 0 x0.l.length x0.l l) (fun K hK=>?_) (fun j8 h8=>?_)
      ·cases (v.2.2.2.1&&v.2.2.2.2.1)&&(decide (j6.2.1=1)) with
       | false=>exact hK _ h6s
       | true =>
        rw [cond_true]
        refine jn_to (fun (j:Bool×List (List Int))=>Sw 0 x0.l.length x0.l j.2) (fun (l:List (List Int))=>Sw 0 x0.l.length x0.l l) (fun K2 hK2=>hK2 (_,_) (wide h6s (ze8 ⟨j6.2.2⟩ v.1 v.2.1 zau) (Int.le_refl _) zau)) (fun j9 h9=>?_)
        cases hj:j9.1 with
        | true=>exact h9
        | false=>exact hK _ h9
      ·have hl8:=h8.len
       cases (decide (0<v.1))&&(!(zb3 (v.1 - 1) j6.1 j8)) with
       | true =>
        have hp:=ziy ⟨j8⟩ v.1 v.2.1 j6.1 om zau
        have hpb:=hp.b
        exact hn (_,_,_,_,_,_) ⟨by dsimp only;omega,wide h8 hp.s om om⟩ zau
       | false =>
        have hp:=zl7 ⟨j8⟩ v.1 v.2.1 j6.1 om zau
        have hpb:=hp.b
        have hps:=wide h8 hp.s om om
        rw [cond_false]
        refine jn_to (fun (j:Int×Bool×List (List Int))=>(v.1≤j.1∧j.1<v.2.1)∧Sw 0 x0.l.length x0.l j.2.2) (fun (l:List (List Int))=>Sw 0 x0.l.length x0.l l) (fun K hK=>hK (_,_,_) ⟨hpb,hps⟩) (fun j11 h11=>?_)
        obtain ⟨h11,hs11⟩:=h11
        have hl11:=hs11.len
        cases decide ((j11.1 - v.1)<(v.2.1 - j11.1)) with
        | true=>exact hn (_,_,_,_,_,_) ⟨by dsimp only;omega,wide hs11 (ih ⟨j11.2.2⟩ v.1 j11.1 j3.1 om zau om) (Int.le_refl _) zau⟩ zau
        | false=>exact hn (_,_,_,_,_,_) ⟨by dsimp only;omega,wide hs11 (ih ⟨j11.2.2⟩ (j11.1+1) v.2.1 j3.1 om zau om) (Int.le_refl _) zau⟩ zau

theorem zh6 (x0:SrtL) (x1:Int) (x2:Int) (x3:Int) (hx:x0.l.length≤255) (hok:OkL x0) (hab:0≤x1∧x1≤x2∧x2≤x0.l.length) (hl:0≤x3∧x3≤64):FnMT Try.prog 156 [.agg [.clo 103 [.vp 900001 0],.clo 187 [.own 900000,.k Try.prog.globals.size 42]],.int .i64 x1,.int .i64 x2,.int .i64 x3] [.nest true 1 x0.l.length (nrOf (cInt .i64) x0.l),.var [.own 900000]] (C156L x0 x1 x2 x3 (pdqL x0 x1 x2 x3)):=by
 have all:∀ (m:Nat) (x0:SrtL) (x1:Int) (x2:Int) (x3:Int) (hx:x0.l.length≤255) (hok:OkL x0) (hab:0≤x1∧x1≤x2∧x2≤x0.l.length) (hl:0≤x3∧x3≤64) (hm:(x2 - x1).toNat<m),FnMT Try.prog 156 [.agg [.clo 103 [.vp 900001 0],.clo 187 [.own 900000,.k Try.prog.globals.size 42]],.int .i64 x1,.int .i64 x2,.int .i64 x3] [.nest true 1 x0.l.length (nrOf (cInt .i64) x0.l),.var [.own 900000]] (C156L x0 x1 x2 x3 (zfn m x0 x1 x2 x3)):=by
  intro m;induction m
  ·intros;exact absurd zbf (Nat.not_lt_zero _)
  rename_i m ih
  intro x0 x1 x2 x3 hx hok hab hl hm
  have aux:∀ R,zfn (m+1) x0 x1 x2 x3=R→slim (C156L x0 x1 x2 x3 R) (A156L m x0 x1 x2 x3) []:=by
   intro R hR
   rw [zfn] at hR
   refine rg trivial ?_
   revert hR;refine lW (fun v=>(x1≤v.1∧v.1≤v.2.1∧v.2.1≤x2∧0≤v.2.2.1∧v.2.2.1≤64)∧(Sw 0 x0.l.length x0.l v.2.2.2.2.2∧v.2.2.2.2.2.length=x0.l.length)) (fun v=>(v.2.1 - (v.1)).toNat) (by (((try clear hR);(try clear hK1);intros;(try simp only [w1,w2,w3,w4,w5,w6,zbs,inR,IntKind.bits] at *));refine ⟨om,?_,trivial⟩;((repeat first | refine Sw.step ?_ _ _ om om | refine Sw.via (zex _ _ _ zat) ?_ zat zat | refine Sw.via (zee _ _ _ zat) ?_ zat zat | refine Sw.via (zef _ _ _ zat) ?_ zat zat | refine Sw.via (zdg _ _ _ zat) ?_ zat zat | refine Sw.via (ze8 _ _ _ zat) ?_ zat zat | refine Sw.via (zhb _ _ _ _ zat zat) ?_ zat zat | refine Sw.via (zj1 _ _ _ _ zat zat) ?_ zat zat | refine Sw.via (zid _ _ _ _ _ zat zat zat) ?_ zat zat)<;>first | exact hJ13.2.1 | exact hJ12.2.1 | exact hJ11.2.1 | exact hJ10.2.1 | exact hJ9.2.1 | exact hJ8.2.1 | exact hJ7.2.1 | exact hJ6.2.1 | exact hJ4.2.1 | exact hJ3.2.1 | exact hI1.2.1 | exact Sw.refl | exact hJ13.2.1.mono om om | exact hJ12.2.1.mono om om | exact hJ11.2.1.mono om om | exact hJ10.2.1.mono om om | exact hJ9.2.1.mono om om | exact hJ8.2.1.mono om om | exact hJ7.2.1.mono om om | exact hJ6.2.1.mono om om | exact hJ4.2.1.mono om om | exact hJ3.2.1.mono om om | exact hI1.2.1.mono om om))) (Nat.lt_succ_self _) rfl fun m1 v1 F1 hI1 hM1 hR hK1=>?_
   refine rg ⟨by ( intros;simp only [inR];omega),trivial⟩ ?_
   refine rg trivial ?_
   revert hR;refine cd (fun hc1 hR=>?_) fun hc1 hR=>?_
   ·
     revert hR;refine jN (fun v=>True) (fun F101 hR hJ101=>?_) (fun j1 hR hJ1=>?_)
     ·
       refine rg ⟨⟨by ( intros;simp only [inR];omega),by (exact OkLL.sw (a:=0) (b:=x0.l.length) hok zab ⟨om,om⟩),by ( intros;simp only [inR];omega)⟩,trivial⟩ ?_
       exact hJ101 (zfk (SrtL.mk v1.2.2.2.2.2) v1.1 v1.2.1) hR zay
     ·
       exact congrArg (C156L x0 x1 x2 x3) hR
   ·
     refine rg trivial ?_
     revert hR;refine cd (fun hc2 hR=>?_) fun hc2 hR=>?_
     ·
       revert hR;refine jN (fun v=>True) (fun F102 hR hJ102=>?_) (fun j2 hR hJ2=>?_)
       ·
         refine rg ⟨⟨by ( intros;simp only [inR];omega),by (exact OkLL.sw (a:=0) (b:=x0.l.length) hok zab ⟨om,om⟩),by ( intros;simp only [inR];omega)⟩,trivial⟩ ?_
         exact hJ102 (zeo (SrtL.mk v1.2.2.2.2.2) v1.1 v1.2.1) hR zay
       ·
         exact congrArg (C156L x0 x1 x2 x3) hR
     ·
       revert hR;refine jN (fun v=>(0≤v.1∧v.1≤64)∧(Sw 0 x0.l.length x0.l v.2∧v.2.length=x0.l.length)) (fun F103 hR hJ103=>?_) (fun j3 hR hJ3=>?_)
       ·
         refine rg trivial ?_
         revert hR;refine cd (fun hc3 hR=>?_) fun hc3 hR=>?_
         ·
           revert hR;refine jN (fun v=>(0≤x1)∧(Sw 0 x0.l.length x0.l v∧v.length=x0.l.length)) (fun F104 hR hJ104=>?_) (fun j4 hR hJ4=>?_)
           ·
             refine rg ⟨⟨by ( intros;simp only [inR];omega),by (exact OkLL.sw (a:=0) (b:=x0.l.length) hok zab ⟨om,om⟩),by ( intros;simp only [inR];omega)⟩,trivial⟩ ?_
             exact hJ104 (zfp (SrtL.mk v1.2.2.2.2.2) v1.1 v1.2.1) hR zaa
           ·
             refine rg ⟨by ( intros;simp only [inR];omega),trivial⟩ ?_
             exact hJ103 (v1.2.2.1 - 1,j4) hR zaa
         ·
           exact hJ103 (v1.2.2.1,v1.2.2.2.2.2) hR zaa
       ·
         revert hR;refine jN (fun v=>v1.1≤v.1∧v.1<v1.2.1) (fun F105 hR hJ105=>?_) (fun j5 hR hJ5=>?_)
         ·
           refine rg ⟨⟨by ( intros;simp only [inR];omega),by (exact OkLL.sw (a:=0) (b:=x0.l.length) hok zab ⟨om,om⟩),by ( intros;simp only [inR];omega)⟩,trivial⟩ ?_
           have hp1:=zg9 (SrtL.mk j3.2) v1.1 v1.2.1
           exact hJ105 ((zc6 (SrtL.mk j3.2) v1.1 v1.2.1).1,(zc6 (SrtL.mk j3.2) v1.1 v1.2.1).2) hR zar
         ·
           revert hR;refine jN (fun v=>(v1.1≤v.1∧v.1<v1.2.1)∧(Sw 0 x0.l.length x0.l v.2.2∧v.2.2.length=x0.l.length)) (fun F106 hR hJ106=>?_) (fun j6 hR hJ6=>?_)
           ·
             refine rg trivial ?_
             revert hR;refine cd (fun hc4 hR=>?_) fun hc4 hR=>?_
             ·
               revert hR;refine jN (fun v=>(0≤x1)∧(Sw 0 x0.l.length x0.l v∧v.length=x0.l.length)) (fun F107 hR hJ107=>?_) (fun j7 hR hJ7=>?_)
               ·
                 refine rg ⟨⟨by ( intros;simp only [inR];omega),by (exact OkLL.sw (a:=0) (b:=x0.l.length) hok zab ⟨om,om⟩),by ( intros;simp only [inR];omega)⟩,trivial⟩ ?_
                 exact hJ107 (zdu (SrtL.mk j3.2) v1.1 v1.2.1) hR zaa
               ·
                 refine rg ⟨by ( intros;simp only [inR];omega),by ( intros;simp only [inR];omega),by ( intros;simp only [inR];omega),trivial⟩ ?_
                 refine rg trivial ?_
                 exact hJ106 ((v1.2.1 - 1) - (j5.1 - v1.1),1,j7) hR zaa
             ·
               exact hJ106 (j5.1,j5.2,j3.2) hR zaa
           ·
             revert hR;refine jN (fun v=>(0≤x1)∧(Sw 0 x0.l.length x0.l v∧v.length=x0.l.length)) (fun F108 hR hJ108=>?_) (fun j8 hR hJ8=>?_)
             ·
               refine rg trivial ?_
               revert hR;refine cd (fun hc5 hR=>?_) fun hc5 hR=>?_
               ·
                 revert hR;refine jN (fun v=>(0≤x1)∧(Sw 0 x0.l.length x0.l v.2∧v.2.length=x0.l.length)) (fun F109 hR hJ109=>?_) (fun j9 hR hJ9=>?_)
                 ·
                   refine rg ⟨⟨by ( intros;simp only [inR];omega),by (exact OkLL.sw (a:=0) (b:=x0.l.length) hok zab ⟨om,om⟩),by ( intros;simp only [inR];omega)⟩,trivial⟩ ?_
                   exact hJ109 ((zc2 (SrtL.mk j6.2.2) v1.1 v1.2.1).1,(zc2 (SrtL.mk j6.2.2) v1.1 v1.2.1).2) hR zaa
                 ·
                   revert hR;refine cd (fun hc6 hR=>?_) fun hc6 hR=>?_
                   ·
                     exact congrArg (C156L x0 x1 x2 x3) hR
                   ·
                     exact hJ108 j9.2 hR zay
               ·
                 exact hJ108 j6.2.2 hR zaa
             ·
               refine rg ⟨by ( intros;simp only [inR];omega),fun hg0=>⟨by (((try clear hR);(try clear hK1);intros;(try simp only [w1,w2,w3,w4,w5,w6,zbs,inR,IntKind.bits] at *));omega),by (intros;omega),by (exact OkLL.sw (a:=0) (b:=x0.l.length) hok zab ⟨om,om⟩)⟩,trivial⟩ ?_
               revert hR;refine cd (fun hc7 hR=>?_) fun hc7 hR=>?_
               ·
                 revert hR;refine jN (fun v=>(v1.1+1≤v.1∧v.1≤v1.2.1)∧(Sw 0 x0.l.length x0.l v.2∧v.2.length=x0.l.length)) (fun F110 hR hJ110=>?_) (fun j10 hR hJ10=>?_)
                 ·
                   refine rg ⟨⟨by ( intros;simp only [inR];omega),by (exact OkLL.sw (a:=0) (b:=x0.l.length) hok zab ⟨om,om⟩),by ( intros;simp only [inR];omega),by (intros;omega)⟩,trivial⟩ ?_
                   exact hJ110 ((ze9 (SrtL.mk j8) v1.1 v1.2.1 j6.1).1,(ze9 (SrtL.mk j8) v1.1 v1.2.1 j6.1).2) hR (by (have hp9:=(ziy ⟨j8⟩ v1.1 v1.2.1 j6.1 om zau).b;((try clear hR);(try clear hK1);intros;(try simp only [w1,w2,w3,w4,w5,w6,zbs,inR,IntKind.bits] at *));refine ⟨om,Sw.both ?_⟩;((repeat first | refine Sw.step ?_ _ _ om om | refine Sw.via (zex _ _ _ zat) ?_ zat zat | refine Sw.via (zee _ _ _ zat) ?_ zat zat | refine Sw.via (zef _ _ _ zat) ?_ zat zat | refine Sw.via (zdg _ _ _ zat) ?_ zat zat | refine Sw.via (ze8 _ _ _ zat) ?_ zat zat | refine Sw.via (zhb _ _ _ _ zat zat) ?_ zat zat | refine Sw.via (zj1 _ _ _ _ zat zat) ?_ zat zat | refine Sw.via (zid _ _ _ _ _ zat zat zat) ?_ zat zat)<;>first | exact hJ13.2.1 | exact hJ12.2.1 | exact hJ11.2.1 | exact hJ10.2.1 | exact hJ9.2.1 | exact hJ8.2.1 | exact hJ7.2.1 | exact hJ6.2.1 | exact hJ4.2.1 | exact hJ3.2.1 | exact hI1.2.1 | exact Sw.refl | exact hJ13.2.1.mono om om | exact hJ12.2.1.mono om om | exact hJ11.2.1.mono om om | exact hJ10.2.1.mono om om | exact hJ9.2.1.mono om om | exact hJ8.2.1.mono om om | exact hJ7.2.1.mono om om | exact hJ6.2.1.mono om om | exact hJ4.2.1.mono om om | exact hJ3.2.1.mono om om | exact hI1.2.1.mono om om)))
                 ·
                   refine rg trivial ?_
                   exact hK1 (j10.1,v1.2.1,j3.1,v1.2.2.2.1,v1.2.2.2.2.1,j10.2) zaa za6 hR
               ·
                 revert hR;refine jN (fun v=>(v1.1≤v.1∧v.1<v1.2.1)∧(Sw 0 x0.l.length x0.l v.2.2∧v.2.2.length=x0.l.length)) (fun F111 hR hJ111=>?_) (fun j11 hR hJ11=>?_)
                 ·
                   refine rg ⟨⟨by ( intros;simp only [inR];omega),by (exact OkLL.sw (a:=0) (b:=x0.l.length) hok zab ⟨om,om⟩),by ( intros;simp only [inR];omega),by (intros;omega)⟩,trivial⟩ ?_
                   exact hJ111 ((partL (SrtL.mk j8) v1.1 v1.2.1 j6.1).1,(partL (SrtL.mk j8) v1.1 v1.2.1 j6.1).2.1,(partL (SrtL.mk j8) v1.1 v1.2.1 j6.1).2.2) hR (by (have hp9:=(zl7 ⟨j8⟩ v1.1 v1.2.1 j6.1 om zau).b;((try clear hR);(try clear hK1);intros;(try simp only [w1,w2,w3,w4,w5,w6,zbs,inR,IntKind.bits] at *));refine ⟨om,Sw.both ?_⟩;((repeat first | refine Sw.step ?_ _ _ om om | refine Sw.via (zex _ _ _ zat) ?_ zat zat | refine Sw.via (zee _ _ _ zat) ?_ zat zat | refine Sw.via (zef _ _ _ zat) ?_ zat zat | refine Sw.via (zdg _ _ _ zat) ?_ zat zat | refine Sw.via (ze8 _ _ _ zat) ?_ zat zat | refine Sw.via (zhb _ _ _ _ zat zat) ?_ zat zat | refine Sw.via (zj1 _ _ _ _ zat zat) ?_ zat zat | refine Sw.via (zid _ _ _ _ _ zat zat zat) ?_ zat zat)<;>first | exact hJ13.2.1 | exact hJ12.2.1 | exact hJ11.2.1 | exact hJ10.2.1 | exact hJ9.2.1 | exact hJ8.2.1 | exact hJ7.2.1 | exact hJ6.2.1 | exact hJ4.2.1 | exact hJ3.2.1 | exact hI1.2.1 | exact Sw.refl | exact hJ13.2.1.mono om om | exact hJ12.2.1.mono om om | exact hJ11.2.1.mono om om | exact hJ10.2.1.mono om om | exact hJ9.2.1.mono om om | exact hJ8.2.1.mono om om | exact hJ7.2.1.mono om om | exact hJ6.2.1.mono om om | exact hJ4.2.1.mono om om | exact hJ3.2.1.mono om om | exact hI1.2.1.mono om om)))
                 ·
                   refine rg ⟨by ( intros;simp only [inR];omega),by ( intros;simp only [inR];omega),by trivial,by (have hp9:=tdiv8 (v1.2.1 - v1.1) om;((try clear hR);(try clear hK1);intros;(try simp only [w1,w2,w3,w4,w5,w6,zbs,inR,IntKind.bits] at *));omega),trivial⟩ ?_
                   revert hR;refine cd (fun hc8 hR=>?_) fun hc8 hR=>?_
                   ·
                     refine rg trivial ?_
                     revert hR;refine jN (fun v=>(0≤x1)∧(Sw 0 x0.l.length x0.l v∧v.length=x0.l.length)) (fun F112 hR hJ112=>?_) (fun j12 hR hJ12=>?_)
                     ·
                       refine rg ⟨ih (SrtL.mk j11.2.2) v1.1 j11.1 j3.1 za6 (by (exact OkLL.sw (a:=0) (b:=x0.l.length) hok zab ⟨om,om⟩)) za6 zaw zaw,trivial⟩ ?_
                       exact hJ112 (zfn m (SrtL.mk j11.2.2) v1.1 j11.1 j3.1) hR zaa
                     ·
                       refine rg ⟨by ( intros;simp only [inR];omega),trivial⟩ ?_
                       exact hK1 (j11.1+1,v1.2.1,j3.1,decide (((v1.2.1 - v1.1).tdiv 8)≤(j11.1 - v1.1)),j11.2.1,j12) zaa za6 hR
                   ·
                     refine rg trivial ?_
                     revert hR;refine jN (fun v=>(0≤x1)∧(Sw 0 x0.l.length x0.l v∧v.length=x0.l.length)) (fun F113 hR hJ113=>?_) (fun j13 hR hJ13=>?_)
                     ·
                       refine rg ⟨by ( intros;simp only [inR];omega),ih (SrtL.mk j11.2.2) (j11.1+1) v1.2.1 j3.1 za6 (by (exact OkLL.sw (a:=0) (b:=x0.l.length) hok zab ⟨om,om⟩)) za6 zaw zaw,trivial⟩ ?_
                       exact hJ113 (zfn m (SrtL.mk j11.2.2) (j11.1+1) v1.2.1 j3.1) hR zaa
                     ·
                       refine rg trivial ?_
                       exact hK1 (v1.1,j11.1,j3.1,decide (((v1.2.1 - v1.1).tdiv 8)≤(v1.2.1 - j11.1)),j11.2.1,j13) zaa za6 hR
  exact FnM.go 130 Try.func156 zax zax (A156L m x0 x1 x2 x3) zax (aux _ rfl)
 exact all 256 x0 x1 x2 x3 hx hok hab hl om
def k156L (d:Nat) (ids:List Nat) (x0:SrtL) (x1:Int) (x2:Int) (x3:Int):Cl:=(hresM d ids (C156L x0 x1 x2 x3 (pdqL x0 x1 x2 x3)),k4 (zh6 x0 x1 x2 x3))
end Go.Proofs.Ytaageiiodlfeiaa
