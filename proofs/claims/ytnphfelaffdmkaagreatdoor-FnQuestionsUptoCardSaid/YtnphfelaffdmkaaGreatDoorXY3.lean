import Derived.Test.YtnphfelaffdmkaaGreatDoorXU2
set_option maxHeartbeats 4000000
set_option linter.unusedSimpArgs false
set_option linter.unusedVariables false
namespace Go.Proofs.YtnphfelaffdmkaaGreatDoor
open Go Go.Lite Go.Proofs
open Go.IntKind renaming bits→YE
open _root_.List renaming replicate→yw, length_set→YF, getD_cons_succ→YP, take_succ_eq_append_getElem→YX
open _root_.Int renaming tdiv_eq_ediv_of_nonneg→Yd, tmod_eq_emod_of_nonneg→yD, eq_ofNat_of_zero_le→Yn, toNat_natCast→yZ, natCast_mul→wg
open _root_.Nat renaming gcd→yU, gcd_pos_of_pos_right→YY, div_mul_cancel→wj, add_mul→Ys, mul_div_mul_right→Y8, zero_le→yS, le_trans→yM
open _root_.Inhabited renaming default→wl
structure yq where
  kind:Int
  year:Int
  name:List UInt8
  sex:Int
  a:Int
  b:Int
  deriving Inhabited
def zal(fr:Bool)(x:yq):List LV:=cInt .i64 x.kind++cInt .i64 x.year++cStr x.name++cInt .i64 x.sex++cInt .i64 x.a++cInt .i64 x.b

def y110(x0:Int)(x1:Int)(x2:List yq):Bool→Cl:=cK Tryz.prog 110 [.int .i64 x0,.int .i64 x1,.ep [.ro false 6 x2.length (rowOf (zal false) x2)] 0] C70
instance (x0:Int) (x1:Int) (x2:List yq):Ct (y110 x0 x1 x2) ((0≤x0∧x0<x2.length)∧0≤x1∧x1<x2.length) (fun r=>True):=Ct.of 35 Tryz.func110 (let q1:=((x2.getD x0.toNat wl).year)<((x2.getD x1.toNat wl).year);let q2:=decide (((x2.getD x0.toNat wl).year)=((x2.getD x1.toNat wl).year));let q3:=decide q1;fe x2 x0.toNat (fe x2 x1.toNat (.reg 3 [] [] [] [] [!q3,(!q3)&&q2,decide q1] [ix x0 x2.length,ix x1 x2.length,gt (!q3) (gt q2 (pf (((!q3)&&q2)=true)))] [] [0,4,1,1,1,1,1,5,5,5,5,1,8,10] (rt [] (C70 (q3||(q2&&(decide (((x2.getD x0.toNat wl).kind)<((x2.getD x1.toNat wl).kind)))))))))) (fun h=>xk)
structure yt where

  l:List yq
  deriving Inhabited
def yswW(d:Nat)(ids:List Nat)(l:List yq)(i j:Int)(r:List yq):Cl:=(.resM d ids [(900000,.arr 6 r.length (rowOf (zal true) r))] (.tup []),k1 (P:=FnX Tryz.prog 231 [.int .i64 i,.int .i64 j,.own 900000,.k Tryz.prog.globals.size 146] [.arr 6 l.length (rowOf (zal true) l)] (.tup []) [(900000,.arr 6 r.length (rowOf (zal true) r))]) fun h=>h)
instance (d:Nat) (ids:List Nat) (l:List yq) (i j:Int):Ct (yswW d ids l i j) ((0≤i∧i<l.length)∧0≤j∧j<l.length) (fun r=>r.length=l.length∧Em l r):=⟨fun h=>⟨swp l i j,⟨zjj l i j,Em.swp h.1 h.2⟩,FnX.swap (b:=false) (ag:=true) Tryz.func231 (by kernel_rfl) (by kernel_rfl) (by kernel_rfl) zaa (by kernel_rfl) (by kernel_rfl) (by kernel_rfl) (by intro h;cases h) h.1 h.2⟩⟩

def C232W(x0:yt)(x1:Int)(x2:Int)(R:(List yq)):LV×List (Nat×BC):=(.tup [],[(900000,.arr 6 R.length (rowOf (zal true) R)),(900001,.var [.own 900000])])
def y232W(d:Nat)(ids:List Nat)(x0:yt)(x1:Int)(x2:Int):(List yq)→Cl:=cM Tryz.prog 232 [.agg [.clo 110 [.vp 900001 0],.clo 231 [.own 900000,.k Tryz.prog.globals.size 146]],.int .i64 x1,.int .i64 x2] [.arr 6 x0.l.length (rowOf (zal true) x0.l),.var [.own 900000]] (C232W x0 x1 x2) d ids
def zql(v1:Int×(List yq)):Dl:=⟨[(6,.int .i64 v1.1)],[(900000,.arr 6 v1.2.length (rowOf (zal true) v1.2))]⟩
def zqk(v2:Int×(List yq)):Dl:=⟨[(7,.int .i64 v2.1)],[(900000,.arr 6 v2.2.length (rowOf (zal true) v2.2))]⟩
abbrev z24(x1:Int)(v1:Int×(List yq))(v2:Int×(List yq)):Ann:=let q2:=v2.1 - 1;let q1:=decide (x1<v2.1);eg q1 (y110 v2.1 q2 v2.2) fun a1 c1=>.reg 1 [] [(9,c1)] [] [] [decide (x1<v2.1)] [gt q1 (iR q2)] [] [1,1,0,1,1,1,4,1] (cn (q1&&a1) (ec (yswW 503 [900000] v2.2 v2.1 q2) fun a2 c2=>.reg 1 [] [(5,c2)] [] [] [] [iR q2] [] [0,4] (r1 1 [] [] [iR q2] [0] (.next 0 [(900000,some 900000)] (zqk (v2.1 - 1,a2))))) (r1 1 [] [] [iR (v1.1+1)] [0] (.next 1 [(900000,some 900000)] (zql (v1.1+1,v2.2)))))
abbrev z25(x0:yt)(x1:Int)(x2:Int)(v1:Int×(List yq)):Ann:=r0 1 [] [] (cn (decide (v1.1<x2)) (r0 1 [1,2,3,6,7] [3,900000,900001] (lM (fun (v:Int×(List yq))=>(x1≤v.1∧v.1≤v1.1)∧v.2.length=x0.l.length∧Em x0.l v.2) (fun v=>(v.1).toNat) (zqk) [] [] [(900000,some 900000)] (zqk (v1.1,v1.2)) (z24 x1 v1))) (rt [(900000,some 900000),(900001,some 900001)] (C232W x0 x1 x2 v1.2)))
instance (d:Nat) (ids:List Nat) (x0:yt) (x1:Int) (x2:Int):Ct (y232W d ids x0 x1 x2) ((x0.l.length≤255)∧(0≤x1∧x1≤x2∧x2≤x0.l.length)) (fun r=>r.length=x0.l.length∧Em x0.l r):=Ct.ofM 35 Tryz.func232 (r1 2 [1,2,3,6] [3,900000,900001] [iR (x1+1)] [0] (lM (fun (v:Int×(List yq))=>(x1+1≤v.1)∧v.2.length=x0.l.length∧Em x0.l v.2) (fun v=>(x2 - (v.1)).toNat) (zql) [] [] [(900000,some 900000)] (zql (x1+1,x0.l)) (z25 x0 x1 x2))) (fun h=>va2)
def C299W(x0:yt)(x1:Int)(x2:Int)(x3:Int)(R:(List yq)):LV×List (Nat×BC):=(.tup [],[(900000,.arr 6 R.length (rowOf (zal true) R)),(900001,.var [.own 900000])])
def y299W(d:Nat)(ids:List Nat)(x0:yt)(x1:Int)(x2:Int)(x3:Int):(List yq)→Cl:=cM Tryz.prog 299 [.agg [.clo 110 [.vp 900001 0],.clo 231 [.own 900000,.k Tryz.prog.globals.size 146]],.int .i64 x1,.int .i64 x2,.int .i64 x3] [.arr 6 x0.l.length (rowOf (zal true) x0.l),.var [.own 900000]] (C299W x0 x1 x2 x3) d ids
def zqe(i1:Nat)(v1:(List yq)):Dl:=⟨[(8,.int .i64 (i1:Int))],[(900000,.arr 6 v1.length (rowOf (zal true) v1))]⟩
abbrev z2n(x0:yt)(x1:Int)(x2:Int)(x3:Int)(i1:Nat)(v1:(List yq)):Ann:=let q1:=(i1:Int);r0 1 [] [] (cn (decide (q1<x3)) (ec (yswW 503 [900000] v1 (x1+q1) (x2+q1)) fun a1 c1=>.reg 1 [] [(8,c1)] [] [] [] [iR (x1+q1),iR (x2+q1)] [] [0,4,8] (r1 1 [] [] [iR (q1+1)] [0] (.next 0 [(900000,some 900000)] (zqe (i1+1) a1)))) (rt [(900000,some 900000),(900001,some 900001)] (C299W x0 x1 x2 x3 v1)))
instance (d:Nat) (ids:List Nat) (x0:yt) (x1:Int) (x2:Int) (x3:Int):Ct (y299W d ids x0 x1 x2 x3) ((x0.l.length≤255)∧((0≤x1∧0≤x2∧0≤x3)∧x1+x3≤x0.l.length∧x2+x3≤x0.l.length)) (fun r=>r.length=x0.l.length∧Em x0.l r):=Ct.ofM 23 Tryz.func299 (r0 2 [1,2,3,4,8] [4,900000,900001] (lI x3.toNat (fun i (v:(List yq))=>v.length=x0.l.length∧Em x0.l v) (zqe) [] [] [(900000,some 900000)] (zqe 0 x0.l) (z2n x0 x1 x2 x3))) (fun h=>va2)
def C284W(x0:yt)(x1:Int)(x2:Int)(x3:Int)(R:(List yq)):LV×List (Nat×BC):=(.tup [],[(900000,.arr 6 R.length (rowOf (zal true) R)),(900001,.var [.own 900000])])
def y284W(d:Nat)(ids:List Nat)(x0:yt)(x1:Int)(x2:Int)(x3:Int):(List yq)→Cl:=cM Tryz.prog 284 [.agg [.clo 110 [.vp 900001 0],.clo 231 [.own 900000,.k Tryz.prog.globals.size 146]],.int .i64 x1,.int .i64 x2,.int .i64 x3] [.arr 6 x0.l.length (rowOf (zal true) x0.l),.var [.own 900000]] (C284W x0 x1 x2 x3) d ids
def znh(v1:Int×Int×(List yq)):Dl:=⟨[(8,.int .i64 v1.1),(9,.int .i64 v1.2.1)],[(900000,.arr 6 v1.2.2.length (rowOf (zal true) v1.2.2))]⟩
abbrev z2o(x0:yt)(x1:Int)(x2:Int)(x3:Int)(v1:Int×Int×(List yq)):Ann:=let q1:=x2 - v1.1;let q3:=x2+v1.2.1;let q2:=yt.mk v1.2.2;r0 1 [] [] (cn (!decide (v1.1=v1.2.1)) (r0 1 [] [] (cn (decide (v1.2.1<v1.1)) (ec (y299W 28 [900000,900001] q2 q1 x2 v1.2.1) fun a1 c1=>.reg 1 [] [(6,c1)] [] [] [] [iR q1] [] [0,4] (r1 1 [] [] [iR (v1.1 - v1.2.1)] [0] (.next 0 [(900000,some 900000)] (znh (v1.1 - v1.2.1,v1.2.1,a1))))) (ec (y299W 42 [900000,900001] q2 q1 (q3 - v1.1) v1.1) fun a1 c1=>.reg 1 [] [(10,c1)] [] [] [] [iR q1,iR q3,iR (q3 - v1.1)] [] [0,4,8,12] (r1 1 [] [] [iR (v1.2.1 - v1.1)] [0] (.next 0 [(900000,some 900000)] (znh (v1.1,v1.2.1 - v1.1,a1))))))) (ec (y299W 52 [900000,900001] q2 q1 x2 v1.1) fun a1 c1=>.reg 1 [] [(6,c1)] [] [] [] [iR q1] [] [0,4] (rt [(900000,some 900000),(900001,some 900001)] (C284W x0 x1 x2 x3 a1))))
instance (d:Nat) (ids:List Nat) (x0:yt) (x1:Int) (x2:Int) (x3:Int):Ct (y284W d ids x0 x1 x2 x3) ((x0.l.length≤255)∧((0≤x1∧x1<x2)∧x2<x3∧x3≤x0.l.length)) (fun r=>r.length=x0.l.length∧Em x0.l r):=Ct.ofM 53 Tryz.func284 (r1 3 [2,4,8,9] [4,900000,900001] [iR (x2 - x1),iR (x3 - x2)] [0,4] (lM (fun (v:Int×Int×(List yq))=>(1≤v.1∧1≤v.2.1∧v.1≤x2 - x1∧v.2.1≤x3 - x2)∧v.2.2.length=x0.l.length∧Em x0.l v.2.2) (fun v=>(v.1+(v.2.1)).toNat) (znh) [] [] [(900000,some 900000)] (znh (x2 - x1,x3 - x2,x0.l)) (z2o x0 x1 x2 x3))) (fun h=>va2)
def C233W(x0:yt)(x1:Int)(x2:Int)(x3:Int)(R:(List yq)):LV×List (Nat×BC):=(.tup [],[(900000,.arr 6 R.length (rowOf (zal true) R)),(900001,.var [.own 900000])])
def y233W(d:Nat)(ids:List Nat)(x0:yt)(x1:Int)(x2:Int)(x3:Int):(List yq)→Cl:=cM Tryz.prog 233 [.agg [.clo 110 [.vp 900001 0],.clo 231 [.own 900000,.k Tryz.prog.globals.size 146]],.int .i64 x1,.int .i64 x2,.int .i64 x3] [.arr 6 x0.l.length (rowOf (zal true) x0.l),.var [.own 900000]] (C233W x0 x1 x2 x3) d ids
def zw1(j1:Int):Dl:=⟨[(8,.int .i64 j1)],[]⟩
def znk(v1:Int×Int):Dl:=⟨[(8,.int .i64 v1.1),(9,.int .i64 v1.2)],[]⟩
abbrev z2z(x0:yt)(x1:Int)(v1:Int×Int):Ann:=let q1:=v1.1+v1.2;let q2:=q1 / 2 ^ 1;r0 1 [] [] (cn (decide (v1.1<v1.2)) (ec (y110 q2 x1 x0.l) fun a1 c1=>.reg 2 [] [(1004,c1)] [] [] [] [iR q1,pf (inR .u64 q1),pf (0≤(1:Int)∧1≤(YE .u64:Int)),iR q2] [] [0,4,8,12,16] (cn a1 (r1 1 [] [] [iR (q2+1)] [0] (.next 0 [] (znk (q2+1,v1.2)))) (r0 1 [] [] (.next 0 [] (znk (v1.1,q1 / 2 ^ 1)))))) (.next 1 [] (zw1 v1.1)))
def zqj(v2:Int×(List yq)):Dl:=⟨[(11,.int .i64 v2.1)],[(900000,.arr 6 v2.2.length (rowOf (zal true) v2.2))]⟩
abbrev z2y(x0:yt)(x1:Int)(x2:Int)(x3:Int)(j1:Int)(v2:Int×(List yq)):Ann:=r1 1 [] [] [iR (j1 - 1)] [0] (cn (decide (v2.1<(j1 - 1))) (ec (yswW 503 [900000] v2.2 v2.1 (v2.1+1)) fun a1 c1=>.reg 1 [] [(5,c1)] [] [] [] [iR (v2.1+1)] [] [0,4] (r1 1 [] [] [iR (v2.1+1)] [0] (.next 0 [(900000,some 900000)] (zqj (v2.1+1,a1))))) (rt [(900000,some 900000),(900001,some 900001)] (C233W x0 x1 x2 x3 v2.2)))
abbrev z2u(x0:yt)(x1:Int)(x2:Int)(x3:Int)(j1:Int):Ann:=r0 1 [1,2,3,4,8,11] [4,900000,900001] (lM (fun (v:Int×(List yq))=>(x1≤v.1)∧v.2.length=x0.l.length∧Em x0.l v.2) (fun v=>(j1 - (v.1)).toNat) (zqj) [] [] [(900000,some 900000)] (zqj (x1,x0.l)) (z2y x0 x1 x2 x3 j1))
def zw0(j2:Int):Dl:=⟨[(12,.int .i64 j2)],[]⟩
def znj(v3:Int×Int):Dl:=⟨[(12,.int .i64 v3.1),(13,.int .i64 v3.2)],[]⟩
abbrev z2x(x0:yt)(x2:Int)(v3:Int×Int):Ann:=let q1:=v3.1+v3.2;let q2:=q1 / 2 ^ 1;r0 1 [] [] (cn (decide (v3.1<v3.2)) (ec (y110 x2 q2 x0.l) fun a1 c1=>.reg 2 [] [(1004,c1)] [] [] [] [iR q1,pf (inR .u64 q1),pf (0≤(1:Int)∧1≤(YE .u64:Int)),iR q2] [] [0,4,8,12,16] (cn (!a1) (r1 1 [] [] [iR (q2+1)] [0] (.next 0 [] (znj (q2+1,v3.2)))) (r0 1 [] [] (.next 0 [] (znj (v3.1,q1 / 2 ^ 1)))))) (.next 1 [] (zw0 v3.1)))
def zqi(v4:Int×(List yq)):Dl:=⟨[(15,.int .i64 v4.1)],[(900000,.arr 6 v4.2.length (rowOf (zal true) v4.2))]⟩
abbrev z2w(x0:yt)(x1:Int)(x2:Int)(x3:Int)(j2:Int)(v4:Int×(List yq)):Ann:=r0 1 [] [] (cn (decide (j2<v4.1)) (ec (yswW 503 [900000] v4.2 v4.1 (v4.1 - 1)) fun a1 c1=>.reg 1 [] [(5,c1)] [] [] [] [iR (v4.1 - 1)] [] [0,4] (r1 1 [] [] [iR (v4.1 - 1)] [0] (.next 0 [(900000,some 900000)] (zqi (v4.1 - 1,a1))))) (rt [(900000,some 900000),(900001,some 900001)] (C233W x0 x1 x2 x3 v4.2)))
abbrev z2t(x0:yt)(x1:Int)(x2:Int)(x3:Int)(j2:Int):Ann:=r0 1 [1,2,3,4,12,15] [4,900000,900001] (lM (fun (v:Int×(List yq))=>(v.1≤x2)∧v.2.length=x0.l.length∧Em x0.l v.2) (fun v=>(v.1 - (j2)).toNat) (zqi) [] [] [(900000,some 900000)] (zqi (x2,x0.l)) (z2w x0 x1 x2 x3 j2))
def zqh(j3:Int×Int):Dl:=⟨[(18,.int .i64 j3.1),(19,.int .i64 j3.2)],[]⟩
def zwz(j4:Int):Dl:=⟨[(18,.int .i64 j4)],[]⟩
def zni(v5:Int×Int):Dl:=⟨[(18,.int .i64 v5.1),(19,.int .i64 v5.2)],[]⟩
abbrev z2v(x0:yt)(x1:Int)(x2:Int)(x3:Int)(v5:Int×Int):Ann:=let q3:=v5.1+v5.2;let q1:=q3 / 2 ^ 1;let q2:=((((x1+x3) / 2 ^ 1)+x2) - 1) - q1;r0 1 [] [] (cn (decide (v5.1<v5.2)) (ec (y110 q2 q1 x0.l) fun a1 c1=>.reg 2 [] [(1006,c1)] [] [] [] [iR q3,pf (inR .u64 q3),pf (0≤(1:Int)∧1≤(YE .u64:Int)),iR q1,iR q2] [] [0,4,8,12,16,20] (cn (!a1) (r1 1 [] [] [iR (q1+1)] [0] (.next 0 [] (zni (q1+1,v5.2)))) (r0 1 [] [] (.next 0 [] (zni (v5.1,q3 / 2 ^ 1)))))) (.next 1 [] (zwz v5.1)))
def zqg(j5:(List yq)):Dl:=⟨[],[(900000,.arr 6 j5.length (rowOf (zal true) j5))]⟩
def zqf(j6:(List yq)):Dl:=⟨[],[(900000,.arr 6 j6.length (rowOf (zal true) j6))]⟩
abbrev z2p(x0:yt)(x1:Int)(x2:Int)(x3:Int)(j4:Int)(j6:(List yq)):Ann:=let q1:=(x1+x3) / 2 ^ 1;let q2:=(q1+x2) - j4;.reg 1 [] [] [] [] [decide (q1<q2)] [] [] [1,1,1] (cn ((decide (q1<q2))&&(decide (q2<x3))) (ec (y233W 176 [900000,900001] (yt.mk j6) q1 q2 x3) fun a1 c1=>.reg 1 [] [(4,c1)] [] [] [] [] [] [0] (rt [(900000,some 900000),(900001,some 900001)] (C233W x0 x1 x2 x3 a1))) (rt [(900000,some 900000),(900001,some 900001)] (C233W x0 x1 x2 x3 j6)))
abbrev z2q(x0:yt)(x1:Int)(x2:Int)(x3:Int)(j4:Int)(j5:(List yq)):Ann:=jI (fun (v:(List yq))=>v.length=x0.l.length∧Em x0.l v) 0 (zqf) [3,4,16,22] [4,900001,900000] (.reg 1 [] [] [] [] [decide (x1<j4)] [] [] [1,1,1] (cn ((decide (x1<j4))&&(decide (j4<((x1+x3) / 2 ^ 1)))) (ec (y233W 163 [900000,900001] (yt.mk j5) x1 j4 ((x1+x3) / 2 ^ 1)) fun a1 c1=>.reg 1 [] [(4,c1)] [] [] [] [] [] [0] (.next 0 [(900000,some 900000)] (zqf a1))) (.next 0 [(900000,some 900000)] (zqf j5)))) (z2p x0 x1 x2 x3 j4)
abbrev z2r(x0:yt)(x1:Int)(x2:Int)(x3:Int)(j4:Int):Ann:=let q1:=(((x1+x3) / 2 ^ 1)+x2) - j4;r1 1 [1,2,3,4,16,18,22] [4,900000,900001] [iR q1] [0] (jI (fun (v:(List yq))=>v.length=x0.l.length∧Em x0.l v) 0 (zqg) [1,3,4,16,18,22] [4,900001,900000] (.reg 1 [] [] [] [] [decide (j4<x2)] [] [] [1,1,1] (cn ((decide (j4<x2))&&(decide (x2<q1))) (ec (y284W 150 [900000,900001] x0 j4 x2 q1) fun a1 c1=>.reg 1 [] [(4,c1)] [] [] [] [] [] [0] (.next 0 [(900000,some 900000)] (zqg a1))) (.next 0 [(900000,some 900000)] (zqg x0.l)))) (z2q x0 x1 x2 x3 j4))
abbrev z2s(x0:yt)(x1:Int)(x2:Int)(x3:Int)(j3:Int×Int):Ann:=r1 1 [1,2,3,4,16,17,18,19,20] [4,900000,900001] [iR ((((x1+x3) / 2 ^ 1)+x2) - 1)] [0] (jI (fun (v:Int)=>j3.1≤v∧v≤j3.2) 0 (zwz) [1,2,3,4,16,17,18] [4,900001,900000] (lM (fun (v:Int×Int)=>j3.1≤v.1∧v.1≤v.2∧v.2≤j3.2) (fun v=>(v.2 - (v.1)).toNat) (zni) [] [] [] (zni (j3.1,j3.2)) (z2v x0 x1 x2 x3)) (z2r x0 x1 x2 x3))
theorem zz8 : ∀(m : Nat) (d : Nat) (ids : List Nat) (x0 : yt) (x1 : Int) (x2 : Int) (x3 : Int), Ct (y233W d ids x0 x1 x2 x3) ((x3 - x1).toNat < m ∧ (x0.l.length ≤ 255) ∧ ((0 ≤ x1 ∧ x1 < x2) ∧ x2 < x3 ∧ x3 ≤ x0.l.length)) (fun r => r.length = x0.l.length ∧ Em x0.l r)
  |0,d,ids,x0,x1,x2,x3=>⟨fun h=>absurd h.1 (oO _)⟩
  |m + 1, d, ids, x0, x1, x2, x3 => by
    have ih:=zz8 m
    exact Ct.ofM 177 Tryz.func233 (let q1:=(x1+x3) / 2 ^ 1;r0 1 [] [] (r1 1 [] [] [iR (x2 - x1)] [0] (cn (decide ((x2 - x1)=1)) (r0 2 [1,2,3,4,8,9] [4,900000,900001] (jI (fun (v:Int)=>x2≤v∧v≤x3) 0 (zw1) [1,2,3,4,8] [4,900001,900000] (lM (fun (v:Int×Int)=>x2≤v.1∧v.1≤v.2∧v.2≤x3) (fun v=>(v.2 - (v.1)).toNat) (znk) [] [] [] (znk (x2,x3)) (z2z x0 x1)) (z2u x0 x1 x2 x3))) (r1 1 [] [] [iR (x3 - x2)] [0] (cn (decide ((x3 - x2)=1)) (r0 2 [1,2,3,4,12,13] [4,900000,900001] (jI (fun (v:Int)=>x1≤v∧v≤x2) 0 (zw0) [1,2,3,4,12] [4,900001,900000] (lM (fun (v:Int×Int)=>x1≤v.1∧v.1≤v.2∧v.2≤x2) (fun v=>(v.2 - (v.1)).toNat) (znj) [] [] [] (znj (x1,x2)) (z2x x0 x2)) (z2t x0 x1 x2 x3))) (r1 3 [1,2,3,4,16,17] [4,900000,900001] [iR (x1+x3),pf (inR .u64 (x1+x3)),pf (0≤(1:Int)∧1≤(YE .u64:Int)),iR q1,iR (q1+x2)] [0,4,8,12,16] (jI (fun (v:Int×Int)=>(x1≤v.1∧v.1≤v.2∧v.2≤x2)∧v.2≤q1∧q1+x2 - v.1≤x3) 0 (zqh) [1,2,3,4,16,17] [4,900001,900000] (r0 1 [] [] (cn (decide (q1<x2)) (r1 1 [] [] [iR ((q1+x2) - x3)] [0] (r0 1 [] [] (.next 0 [] (zqh ((q1+x2) - x3,(x1+x3) / 2 ^ 1))))) (r0 1 [] [] (r0 1 [] [] (.next 0 [] (zqh (x1,x2))))))) (z2s x0 x1 x2 x3)))))))) (fun ⟨hm,h1,h2⟩=>by have m1:=@Em.al;have m2:=@Em.tr;have e1:=@Em.rfl;have e3:(1:Int)≤(IntKind.u64.bits:Nat):=vbW;exact xk)
instance (d:Nat) (ids:List Nat) (x0:yt) (x1:Int) (x2:Int) (x3:Int):Ct (y233W d ids x0 x1 x2 x3) ((x0.l.length≤255)∧((0≤x1∧x1<x2)∧x2<x3∧x3≤x0.l.length)) (fun r=>r.length=x0.l.length∧Em x0.l r):=⟨fun h=>(zz8 _ d ids x0 x1 x2 x3).h ⟨oF _,h⟩⟩
def C168W(x0:yt)(x1:Int)(R:(List yq)):LV×List (Nat×BC):=(.tup [],[(900000,.arr 6 R.length (rowOf (zal true) R)),(900001,.var [.own 900000])])
def y168W(d:Nat)(ids:List Nat)(x0:yt)(x1:Int):(List yq)→Cl:=cM Tryz.prog 168 [.agg [.clo 110 [.vp 900001 0],.clo 231 [.own 900000,.k Tryz.prog.globals.size 146]],.int .i64 x1] [.arr 6 x0.l.length (rowOf (zal true) x0.l),.var [.own 900000]] (C168W x0 x1) d ids
def zqw(v1:Int×Int×(List yq)):Dl:=⟨[(5,.int .i64 v1.1),(6,.int .i64 v1.2.1)],[(900000,.arr 6 v1.2.2.length (rowOf (zal true) v1.2.2))]⟩
def zno(v2:Int×(List yq)):Dl:=⟨[(4,.int .i64 v2.1)],[(900000,.arr 6 v2.2.length (rowOf (zal true) v2.2))]⟩
def zqv(v3:Int×Int×(List yq)):Dl:=⟨[(5,.int .i64 v3.1),(6,.int .i64 v3.2.1)],[(900000,.arr 6 v3.2.2.length (rowOf (zal true) v3.2.2))]⟩
abbrev z3n(x1:Int)(v2:Int×(List yq))(v3:Int×Int×(List yq)):Ann:=let q1:=v3.1+v2.1;r0 1 [] [] (cn (decide (v3.2.1≤x1)) (ec (y233W 38 [900000,900001] (yt.mk v3.2.2) v3.1 q1 v3.2.1) fun a2 c2=>.reg 2 [] [(6,c2)] [] [] [] [iR q1] [] [0,4] (r1 1 [] [] [iR (2 * v2.1),iR (v3.2.1+(2 * v2.1))] [0,4] (.next 0 [(900000,some 900000)] (zqv (v3.2.1,v3.2.1+(2 * v2.1),a2))))) (r1 2 [] [] [iR q1] [0] (cn (decide (q1<x1)) (ec (y233W 54 [900000,900001] (yt.mk v3.2.2) v3.1 q1 x1) fun a2 c2=>.reg 1 [] [(4,c2)] [] [] [] [] [] [0] (r1 1 [] [] [iR (v2.1 * 2)] [0] (.next 1 [(900000,some 900000)] (zno (v2.1 * 2,a2))))) (r1 1 [] [] [iR (v2.1 * 2)] [0] (.next 1 [(900000,some 900000)] (zno (v2.1 * 2,v3.2.2)))))))
abbrev z3o(x0:yt)(x1:Int)(v2:Int×(List yq)):Ann:=r0 1 [] [] (cn (decide (v2.1<x1)) (r1 1 [1,2,4,5,6] [2,900000,900001] [iR (2 * v2.1)] [0] (lM (fun (v:Int×Int×(List yq))=>(0≤v.1∧v.1≤x1∧v.2.1=v.1+2 * v2.1)∧v.2.2.length=x0.l.length∧Em x0.l v.2.2) (fun v=>(x1+1000 - (v.2.1)).toNat) (zqv) [] [] [(900000,some 900000)] (zqv (0,2 * v2.1,v2.2)) (z3n x1 v2))) (rt [(900000,some 900000),(900001,some 900001)] (C168W x0 x1 v2.2)))
abbrev z3p(x0:yt)(x1:Int)(v1:Int×Int×(List yq)):Ann:=r0 1 [] [] (cn (decide (v1.2.1≤x1)) (ec (y232W 15 [900000,900001] (yt.mk v1.2.2) v1.1 v1.2.1) fun a1 c1=>.reg 2 [] [(3,c1)] [] [] [] [] [] [0] (r1 1 [] [] [iR (v1.2.1+20)] [0] (.next 0 [(900000,some 900000)] (zqw (v1.2.1,v1.2.1+20,a1))))) (ec (y232W 23 [900000,900001] (yt.mk v1.2.2) v1.1 x1) fun a1 c1=>.reg 1 [] [(3,c1)] [1,2,4] [2,900000,900001] [] [] [] [0] (lM (fun (v:Int×(List yq))=>(20≤v.1∧v.1≤600)∧v.2.length=x0.l.length∧Em x0.l v.2) (fun v=>(x1+20 - (v.1)).toNat) (zno) [] [] [(900000,some 900000)] (zno (20,a1)) (z3o x0 x1))))
instance (d:Nat) (ids:List Nat) (x0:yt) (x1:Int):Ct (y168W d ids x0 x1) ((x0.l.length≤255)∧(x1=x0.l.length)) (fun r=>r.length=x0.l.length∧Em x0.l r):=Ct.ofM 57 Tryz.func168 (r0 3 [1,2,4,5,6] [2,900000,900001] (lM (fun (v:Int×Int×(List yq))=>(0≤v.1∧v.1≤x1∧v.2.1=v.1+20)∧v.2.2.length=x0.l.length∧Em x0.l v.2.2) (fun v=>(x1+20 - (v.2.1)).toNat) (zqw) [] [] [(900000,some 900000)] (zqw (0,20,x0.l)) (z3p x0 x1))) (fun h=>va2)
noncomputable def kvoW(d:Nat)(ids:List Nat)(l:List yq):Cl:=(.resM d ids [(900000,.arr 6 l.length (rowOf (zal true) l)),(0,.var [.own 900000])] (.agg [.k Tryz.prog.globals.size 104,.vp 0 0,.int .u64 151]),k0 (P:=FnX Tryz.prog 166 [.ifc 104 (.own 900000)] [.arr 6 l.length (rowOf (zal true) l)] (.agg [.k Tryz.prog.globals.size 104,.vp 0 0,.int .u64 151]) [(900000,.arr 6 l.length (rowOf (zal true) l)),(0,.var [.own 900000])]) (FnX.valueOf (t:=104) (e:=146) (ti:=Tryz.t104) Tryz.func166 (by kernel_rfl) (by kernel_rfl) (by kernel_rfl) zaa (by kernel_rfl) (by kernel_rfl)))
noncomputable def klnW(d:Nat)(ids:List Nat)(l:List yq):Cl:=(.resM d ids (enumB [.arr 6 l.length (rowOf (zal true) l),.var [.own 900000]] 900000) (.int .i64 l.length),k0 (P:=FnX Tryz.prog 169 [.agg [.k Tryz.prog.globals.size 104,.vp 900001 0,.int .u64 151]] [.arr 6 l.length (rowOf (zal true) l),.var [.own 900000]] (.int .i64 l.length) (enumB [.arr 6 l.length (rowOf (zal true) l),.var [.own 900000]] 900000)) (FnX.valLen (t:=104) (e:=146) (ti:=Tryz.t104) Tryz.func169 (by kernel_rfl) (by kernel_rfl) (by kernel_rfl) zaa (by kernel_rfl) (by kernel_rfl) (by kernel_rfl) (by kernel_rfl)))
noncomputable def kspW(d:Nat)(ids:List Nat)(l:List yq):Cl:=(.resM d ids (enumB [.arr 6 l.length (rowOf (zal true) l)] 900000) (.clo 231 [.own 900000,.k Tryz.prog.globals.size 146]),k1 (P:=FnX Tryz.prog 167 [.ifc 104 (.own 900000)] [.arr 6 l.length (rowOf (zal true) l)] (.clo 231 [.own 900000,.k Tryz.prog.globals.size 146]) (enumB [.arr 6 l.length (rowOf (zal true) l)] 900000)) fun hn=>FnX.swapper (t:=104) (e:=146) (ti:=Tryz.t104) (ie:=Tryz.t146) (ke:=25) hn Tryz.func167 (by kernel_rfl) (by kernel_rfl) (by kernel_rfl) zaa (by kernel_rfl) (by kernel_rfl) (by kernel_rfl) (fun w=>by kernel_rfl) (fun m=>⟨rfl,vbW⟩) (by kernel_rfl))
noncomputable def yvoW(d:Nat)(ids:List Nat)(l:List yq)(_:Unit):Cl:=kvoW d ids l
instance (d:Nat) (ids:List Nat) (l:List yq):Ct (yvoW d ids l) (True) (fun _=>True):=⟨fun h=>⟨(),True.intro,True.intro⟩⟩
noncomputable def ylnW(d:Nat)(ids:List Nat)(l:List yq)(_:Unit):Cl:=klnW d ids l
instance (d:Nat) (ids:List Nat) (l:List yq):Ct (ylnW d ids l) (True) (fun _=>True):=⟨fun h=>⟨(),True.intro,True.intro⟩⟩
noncomputable def yspW(d:Nat)(ids:List Nat)(l:List yq)(_:Unit):Cl:=kspW d ids l
instance (d:Nat) (ids:List Nat) (l:List yq):Ct (yspW d ids l) (2≤l.length) (fun _=>True):=⟨fun h=>⟨(),True.intro,h⟩⟩

def C109W(x0:yt)(x1:Unit)(R:(List yq)):LV×List (Nat×BC):=(.tup [],[(900000,.arr 6 R.length (rowOf (zal true) R)),(900001,.var [.own 900000])])
def y109W(d:Nat)(ids:List Nat)(x0:yt)(x1:Unit):(List yq)→Cl:=cM Tryz.prog 109 [.ifc 104 (.own 900000),.clo 110 [.vp 900001 0]] [.arr 6 x0.l.length (rowOf (zal true) x0.l),.var [.own 900000]] (C109W x0 x1) d ids
noncomputable abbrev A109W(x0:yt)(x1:Unit):Ann:=ec (yvoW 7 [900000] x0.l) fun a1 c1=>ec (yspW 9 [900000] x0.l) fun a2 c2=>.reg 2 [] [(1,c1),(1001,c2)] [] [] [] [] [] [0,4] (ec (ylnW 14 [900000,1007] x0.l) fun a3 c3=>ec (y168W 15 [900000,900001] x0 (x0.l.length:Int)) fun a4 c4=>.reg 1 [] [(4,c3),(5,c4)] [] [] [] [] [] [0,4] (rt [(900000,some 900000),(900001,some 900001)] (C109W x0 x1 a4)))
instance (d:Nat) (ids:List Nat) (x0:yt) (x1:Unit):Ct (y109W d ids x0 x1) ((x0.l.length≤255)∧(2≤x0.l.length)) (fun r=>r.length=x0.l.length∧Em x0.l r):=Ct.ofM 16 Tryz.func109 (A109W x0 x1) (fun h=>va2)
structure SrtX where

  l:List yq
  deriving Inhabited

def C232X(x0:SrtX)(x1:Int)(x2:Int)(R:(List yq)):LV×List (Nat×BC):=(.tup [],[(900000,.arr 6 R.length (rowOf (zal true) R)),(900001,.var [.own 900000])])
def y232X(d:Nat)(ids:List Nat)(x0:SrtX)(x1:Int)(x2:Int):(List yq)→Cl:=cM Tryz.prog 232 [.agg [.clo 110 [.vp 900001 0],.fv],.int .i64 x1,.int .i64 x2] [.arr 6 x0.l.length (rowOf (zal true) x0.l),.var [.own 900000]] (C232X x0 x1 x2) d ids
def zw3(v1:Int):Dl:=⟨[(6,.int .i64 v1)],[]⟩
abbrev z23(x0:SrtX)(x1:Int)(x2:Int)(v1:Int):Ann:=r0 1 [] [] (cn (decide (v1<x2)) (.next 99 [] ⟨[],[]⟩) (rt [(900000,some 900000),(900001,some 900001)] (C232X x0 x1 x2 x0.l)))
instance (d:Nat) (ids:List Nat) (x0:SrtX) (x1:Int) (x2:Int):Ct (y232X d ids x0 x1 x2) ((x0.l.length≤1)∧(x1=0∧x2=x0.l.length)) (fun r=>r=x0.l):=Ct.ofM 35 Tryz.func232 (r1 2 [1,2,3,6] [3,900000,900001] [iR (x1+1)] [0] (lM (fun (v:Int)=>x1+1≤v) (fun v=>0) (zw3) [] [] [] (zw3 (x1+1)) (z23 x0 x1 x2))) (fun h=>xk)
def C168X(x0:SrtX)(x1:Int)(R:(List yq)):LV×List (Nat×BC):=(.tup [],[(900000,.arr 6 R.length (rowOf (zal true) R)),(900001,.var [.own 900000])])
def y168X(d:Nat)(ids:List Nat)(x0:SrtX)(x1:Int):(List yq)→Cl:=cM Tryz.prog 168 [.agg [.clo 110 [.vp 900001 0],.fv],.int .i64 x1] [.arr 6 x0.l.length (rowOf (zal true) x0.l),.var [.own 900000]] (C168X x0 x1) d ids
def zxs(v1:Int×Int):Dl:=⟨[(5,.int .i64 v1.1),(6,.int .i64 v1.2)],[]⟩
def zxr(v2:Int):Dl:=⟨[(4,.int .i64 v2)],[]⟩
abbrev z3l(x0:SrtX)(x1:Int)(a1:(List yq))(v2:Int):Ann:=r0 1 [] [] (cn (decide (v2<x1)) (.next 99 [] ⟨[],[]⟩) (rt [(900000,some 900000),(900001,some 900001)] (C168X x0 x1 a1)))
abbrev z3m(x0:SrtX)(x1:Int)(v1:Int×Int):Ann:=r0 1 [] [] (cn (decide (v1.2≤x1)) (.next 99 [] ⟨[],[]⟩) (ec (y232X 23 [900000,900001] x0 v1.1 x1) fun a1 c1=>.reg 1 [] [(3,c1)] [1,2,4] [2,900000,900001] [] [] [] [0] (lM (fun (v:Int)=>v=20) (fun v=>0) (zxr) [] [] [] (zxr 20) (z3l x0 x1 a1))))
instance (d:Nat) (ids:List Nat) (x0:SrtX) (x1:Int):Ct (y168X d ids x0 x1) ((x0.l.length≤1)∧(x1=x0.l.length)) (fun r=>r=x0.l):=Ct.ofM 57 Tryz.func168 (r0 3 [1,2,4,5,6] [2,900000,900001] (lM (fun (v:Int×Int)=>v.1=0∧v.2=20) (fun v=>0) (zxs) [] [] [] (zxs (0,20)) (z3m x0 x1))) (fun h=>xk)
noncomputable def kvoX(d:Nat)(ids:List Nat)(l:List yq):Cl:=(.resM d ids [(900000,.arr 6 l.length (rowOf (zal true) l)),(0,.var [.own 900000])] (.agg [.k Tryz.prog.globals.size 104,.vp 0 0,.int .u64 151]),k0 (P:=FnX Tryz.prog 166 [.ifc 104 (.own 900000)] [.arr 6 l.length (rowOf (zal true) l)] (.agg [.k Tryz.prog.globals.size 104,.vp 0 0,.int .u64 151]) [(900000,.arr 6 l.length (rowOf (zal true) l)),(0,.var [.own 900000])]) (FnX.valueOf (t:=104) (e:=146) (ti:=Tryz.t104) Tryz.func166 (by kernel_rfl) (by kernel_rfl) (by kernel_rfl) zaa (by kernel_rfl) (by kernel_rfl)))
noncomputable def klnX(d:Nat)(ids:List Nat)(l:List yq):Cl:=(.resM d ids (enumB [.arr 6 l.length (rowOf (zal true) l),.var [.own 900000]] 900000) (.int .i64 l.length),k0 (P:=FnX Tryz.prog 169 [.agg [.k Tryz.prog.globals.size 104,.vp 900001 0,.int .u64 151]] [.arr 6 l.length (rowOf (zal true) l),.var [.own 900000]] (.int .i64 l.length) (enumB [.arr 6 l.length (rowOf (zal true) l),.var [.own 900000]] 900000)) (FnX.valLen (t:=104) (e:=146) (ti:=Tryz.t104) Tryz.func169 (by kernel_rfl) (by kernel_rfl) (by kernel_rfl) zaa (by kernel_rfl) (by kernel_rfl) (by kernel_rfl) (by kernel_rfl)))
noncomputable def kspX(d:Nat)(ids:List Nat)(l:List yq):Cl:=(.resM d ids (enumB [.arr 6 l.length (rowOf (zal true) l)] 900000) .fv,k1 (P:=FnX Tryz.prog 167 [.ifc 104 (.own 900000)] [.arr 6 l.length (rowOf (zal true) l)] .fv (enumB [.arr 6 l.length (rowOf (zal true) l)] 900000)) fun hn=>FnX.swapper0 (t:=104) (e:=146) (ti:=Tryz.t104) (ie:=Tryz.t146) (ke:=25) (g0:=223) (g1:=224) hn Tryz.func167 (by kernel_rfl) (by kernel_rfl) (by kernel_rfl) zaa (by kernel_rfl) (by kernel_rfl) (by kernel_rfl) (fun w=>by kernel_rfl) (by kernel_rfl) (by kernel_rfl))
noncomputable def yvoX(d:Nat)(ids:List Nat)(l:List yq)(_:Unit):Cl:=kvoX d ids l
instance (d:Nat) (ids:List Nat) (l:List yq):Ct (yvoX d ids l) (True) (fun _=>True):=⟨fun h=>⟨(),True.intro,True.intro⟩⟩
noncomputable def ylnX(d:Nat)(ids:List Nat)(l:List yq)(_:Unit):Cl:=klnX d ids l
instance (d:Nat) (ids:List Nat) (l:List yq):Ct (ylnX d ids l) (True) (fun _=>True):=⟨fun h=>⟨(),True.intro,True.intro⟩⟩
noncomputable def yspX(d:Nat)(ids:List Nat)(l:List yq)(_:Unit):Cl:=kspX d ids l
instance (d:Nat) (ids:List Nat) (l:List yq):Ct (yspX d ids l) (l.length≤1) (fun _=>True):=⟨fun h=>⟨(),True.intro,h⟩⟩

def C109X(x0:SrtX)(x1:Unit)(R:(List yq)):LV×List (Nat×BC):=(.tup [],[(900000,.arr 6 R.length (rowOf (zal true) R)),(900001,.var [.own 900000])])
def y109X(d:Nat)(ids:List Nat)(x0:SrtX)(x1:Unit):(List yq)→Cl:=cM Tryz.prog 109 [.ifc 104 (.own 900000),.clo 110 [.vp 900001 0]] [.arr 6 x0.l.length (rowOf (zal true) x0.l),.var [.own 900000]] (C109X x0 x1) d ids
noncomputable abbrev A109X(x0:SrtX)(x1:Unit):Ann:=ec (yvoX 7 [900000] x0.l) fun a1 c1=>ec (yspX 9 [900000] x0.l) fun a2 c2=>.reg 2 [] [(1,c1),(1001,c2)] [] [] [] [] [] [0,4] (ec (ylnX 14 [900000,1007] x0.l) fun a3 c3=>ec (y168X 15 [900000,900001] x0 (x0.l.length:Int)) fun a4 c4=>.reg 1 [] [(4,c3),(5,c4)] [] [] [] [] [] [0,4] (rt [(900000,some 900000),(900001,some 900001)] (C109X x0 x1 a4)))
instance (d:Nat) (ids:List Nat) (x0:SrtX) (x1:Unit):Ct (y109X d ids x0 x1) (x0.l.length≤1) (fun r=>r=x0.l):=Ct.ofM 16 Tryz.func109 (A109X x0 x1) (fun h=>xk)
def y162(x0:Int):(List Int)→Cl:=cK Tryz.prog 162 [.int .i64 x0] C68
def zx4(i1:Nat)(v1:(List Int)):Dl:=⟨[(6,.int .i64 (i1:Int)),(3,.own 20003)],[(20003,.arr 1 v1.length (rowOf (cInt .i64) v1))]⟩
abbrev A162b1(x0:Int)(i1:Nat)(v1:(List Int)):Ann:=let q1:=(i1:Int);r0 1 [] [] (cn (decide (q1<x0)) (r0 1 [] [] (.reg 1 [] [(2,bsC 11 (cInt .i64) ([q1]:List Int)),(3,ap1 12 (cInt .i64) 8 v1 q1)] [] [] [] [] [] [0,4] (r1 1 [] [] [iR (q1+1)] [0] (.next 0 [(20003,some 12)] (zx4 (i1+1) (v1++[q1])))))) (r0 1 [] [] (rt [(0,some 20003)] (C68 v1))))
instance (x0:Int):Ct (y162 x0) (0≤x0∧x0≤1000) (fun r=>r.length=x0∧Al (fun (c:Int)=>0≤c∧c<x0) r):=Ct.of 15 Tryz.func162 (r0 2 [] [] (r0 1 [2,3,5,6] [] (lI x0.toNat (fun i (v:(List Int))=>v.length=i∧Al (fun (c:Int)=>0≤c∧c<x0) v) (zx4) [] [] [(20003,none)] (zx4 0 ([]:List Int)) (A162b1 x0)))) (fun h=>xk) (fun r=>(by simp[C68,Frs,FrsL,FrsB,rowOf,cInt,cBool,cStr,cSl,zar,cStep,zag,cRule,zam,zah,zab,zac,zaf,cLaw,zay,zbd,zap,za0,zb2,zal]))
def y164(x0:yj)(x1:List Int):yj→Cl:=cK Tryz.prog 164 [.agg (zaf false x0),.ro false 1 x1.length (rowOf (cInt .i64) x1)] C142
def zx3(x1:List Int)(i1:Nat)(v1:(List Int)):Dl:=⟨[(19,.int .i64 (i1:Int)),(5,.own 20005)],[(20005,.arr 1 x1.length (rowOf (cInt .i64) v1))]⟩
def zso(i2:Nat)(v2:(List yh)):Dl:=⟨[(31,.int .i64 (i2:Int))],[(30800,.arr 6 v2.length (rowOf (zab true) v2)),(8,.var [.own 30800,.nilS])]⟩
def zx1(x0:yj)(x1:List Int)(i2:Nat)(j1:Int):Dl:=let q1:=x0.people.getD ((x1.getD i2 wl).toNat) wl;⟨[],[(11,.var [.str (q1.name),.int .i64 (q1.sex),.int .i64 j1,.int .i64 (q1.mother),.int .i64 (q1.born),.int .i64 (q1.died)])]⟩
abbrev A164j1(x0:yj)(x1:List Int)(v1:(List Int))(i2:Nat)(v2:(List yh))(j1:Int):Ann:=let q1:=x0.people.getD ((x1.getD i2 wl).toNat) wl;let q3:=yh.mk (q1.name) (q1.sex) j1 (q1.mother) (q1.born) (q1.died);let q2:=yh.mk (q1.name) (q1.sex) j1 (v1.getD ((q1.mother).toNat) wl) (q1.born) (q1.died);fe x0.people ((x1.getD i2 wl).toNat) (r0 1 [] [] (cn (decide (0≤(q1.mother))) (r1 1 [] [] [ix (q1.mother) x1.length] [0] (fe v1 ((q1.mother).toNat) (.reg 1 [] [(3,bsC 61 (zab true) ([q2]:List yh)),(4,ap1 62 (zab true) 56 v2 q2)] [] [] [] [] [] [0,4] (r1 1 [] [] [iR ((i2:Int)+1)] [0] (.next 0 [(30800,some 62)] (zso (i2+1) (v2++[q2]))))))) (.reg 1 [] [(3,bsC 61 (zab true) ([q3]:List yh)),(4,ap1 62 (zab true) 56 v2 q3)] [] [] [] [] [] [0,4] (r1 1 [] [] [iR ((i2:Int)+1)] [0] (.next 0 [(30800,some 62)] (zso (i2+1) (v2++[q3])))))))
def zx2(i3:Nat)(v3:(List yi)):Dl:=⟨[(68,.int .i64 (i3:Int))],[(30801,.arr 4 v3.length (rowOf (zac true) v3)),(8,.var [.own 30800,.own 30801])]⟩
abbrev A164b3(x0:yj)(x1:List Int)(v1:(List Int))(v2:(List yh))(i3:Nat)(v3:(List yi)):Ann:=let q2:=x0.unions.getD i3 wl;let q1:=yi.mk (v1.getD ((q2.man).toNat) wl) (v1.getD ((q2.woman).toNat) wl) (q2.from0) (q2.to);r0 1 [] [] (cn (decide ((i3:Int)<(x0.unions.length:Int))) (fe x0.unions i3 (r1 2 [] [] [ix i3 x0.unions.length,ix (q2.man) x1.length,ix (q2.woman) x1.length] [0,4,8] (fe v1 ((q2.man).toNat) (fe v1 ((q2.woman).toNat) (.reg 1 [] [(3,bsC 87 (zac true) ([q1]:List yi)),(4,ap1 88 (zac true) 32 v3 q1)] [] [] [] [] [] [0,4] (r1 1 [] [] [iR ((i3:Int)+1)] [0] (.next 0 [(30801,some 88)] (zx2 (i3+1) (v3++[q1]))))))))) (r0 1 [] [] (rt [(0,some 30800),(1,some 30801)] (C142 (yj.mk v2 v3)))))
abbrev A164b2(x0:yj)(x1:List Int)(v1:(List Int))(i2:Nat)(v2:(List yh)):Ann:=let q1:=(x0.people.getD ((x1.getD i2 wl).toNat) wl).father;r0 1 [] [] (cn (decide ((i2:Int)<(x1.length:Int))) (fe x1 i2 (r1 2 [2,4,5,8,11,29,30,31] [2,4,8,11,20005,30800] [ix i2 x1.length,ix (x1.getD i2 wl) x0.people.length] [0,4] (jI (fun (v:Int)=>True) 0 (zx1 x0 x1 i2) [2,4,5,8,11,29,30,31] [2,4,20005,8,30800,11] (fe x0.people ((x1.getD i2 wl).toNat) (r0 1 [] [] (cn (decide (0≤q1)) (r1 1 [] [] [ix q1 x1.length] [0] (.next 0 [] (zx1 x0 x1 i2 (v1.getD (q1.toNat) wl)))) (.next 0 [] (zx1 x0 x1 i2 q1))))) (A164j1 x0 x1 v1 i2 v2)))) (r0 1 [4,5,8,66,67,68] [4,8,20005,30800] (lI x0.unions.length (fun i (v:(List yi))=>v.length=i) (zx2) [] [] [(30801,none)] (zx2 0 ([]:List yi)) (A164b3 x0 x1 v1 v2))))
abbrev A164b1(x0:yj)(x1:List Int)(i1:Nat)(v1:(List Int)):Ann:=let q2:=(i1:Int);let q1:=x1.getD i1 wl;r0 1 [] [] (cn (decide (q2<(x1.length:Int))) (fe x1 i1 (r1 1 [] [] [ix i1 x1.length] [0] (.reg 1 [] [(4,stC 20005 (cInt .i64) x1.length v1 (q1.toNat) q2)] [] [] [] [ix q1 x1.length] [] [0,4] (r1 1 [] [] [iR (q2+1)] [0] (.next 0 [(20005,some 20005)] (zx3 x1 (i1+1) (v1.set (q1.toNat) q2))))))) (r0 1 [] [] (r0 1 [2,4,5,8,29,30,31] [2,4,8,20005] (lI x1.length (fun i (v:(List yh))=>v.length=i) (zso) [] [] [(30800,none)] (zso 0 ([]:List yh)) (A164b2 x0 x1 v1)))))
instance (x0:yj) (x1:List Int):Ct (y164 x0 x1) ((Fam x0)∧(x1.length=x0.people.length)∧(Al (fun (c:Int)=>0≤c∧c<x0.people.length) x1)) (fun r=>r.people.length=x1.length∧r.unions.length=x0.unions.length):=Ct.of 92 Tryz.func164 (.reg 2 [] [(1002,msC 16 (cInt .i64) 8 (x1.length:Int) (x1.length:Int) x1.length (wl:Int) (rfl))] [] [] [] [] [] [0] (r0 1 [1,2,4,5,17,18,19] [2,4,16] (lI x1.length (fun i (v:(List Int))=>v.length=x1.length) (zx3 x1) [] [16] [(20005,some 16)] (zx3 x1 0 (yw x1.length (wl:Int))) (A164b1 x0 x1)))) (fun h=>xk) (fun r=>vak)
def y108(x0:yj):yj→Cl:=cK Tryz.prog 108 [.agg (zaf false x0)] C142
instance (x0:yj):Ct (y108 x0) ((Fam x0)∧(x0.people.length≤14)∧(x0.unions.length≤19)) (fun r=>r.people.length=x0.people.length∧r.unions.length=x0.unions.length):=Ct.of 22 Tryz.func108 (ec (y162 (x0.people.length:Int)) fun a1 c1=>.reg 2 [] [(1003,c1)] [1,2,3] [1,2,3,1008] [] [] [] [0] (.split (decide (2≤a1.length)) (ec (y109P 12 [1008,1,3] (SrtP.mk x0 a1) ()) fun a2 c2=>ec (y164 x0 a2) fun a3 c3=>.reg 2 [] [(3,c2),(1002,c3)] [2,4] [2,4,1015,2015] [] [] [] [0,4] (.split (decide (2≤a3.unions.length)) (ec (y109U 20 [2015,4,1015] (SrtU.mk a3.people a3.unions) ()) fun a4 c4=>.reg 2 [] [(4,c4)] [] [] [] [] [] [0] (rt [(0,some 1015),(1,some 2015)] (C142 (yj.mk a3.people a4)))) (ec (y109V 20 [2015,4,1015] (SrtV.mk a3.people a3.unions) ()) fun a4 c4=>.reg 2 [] [(4,c4)] [] [] [] [] [] [0] (rt [(0,some 1015),(1,some 2015)] (C142 (yj.mk a3.people a4)))))) (ec (y109Q 12 [1008,1,3] (SrtQ.mk x0 a1) ()) fun a2 c2=>ec (y164 x0 a2) fun a3 c3=>.reg 2 [] [(3,c2),(1002,c3)] [2,4] [2,4,1015,2015] [] [] [] [0,4] (.split (decide (2≤a3.unions.length)) (ec (y109U 20 [2015,4,1015] (SrtU.mk a3.people a3.unions) ()) fun a4 c4=>.reg 2 [] [(4,c4)] [] [] [] [] [] [0] (rt [(0,some 1015),(1,some 2015)] (C142 (yj.mk a3.people a4)))) (ec (y109V 20 [2015,4,1015] (SrtV.mk a3.people a3.unions) ()) fun a4 c4=>.reg 2 [] [(4,c4)] [] [] [] [] [] [0] (rt [(0,some 1015),(1,some 2015)] (C142 (yj.mk a3.people a4)))))))) (fun h=>va2) (fun r=>vak)
def C58(R:(List yq)):LV×List (Nat×BC):=(.own 0,[(0,.arr 6 R.length (rowOf (zal true) R))])
def y58(x0:yj):(List yq)→Cl:=cK Tryz.prog 58 [.agg (zaf false x0)] C58
def D58b1(i1:Nat)(v1:(List yq)):Dl:=⟨[(17,.int .i64 (i1:Int))],[(30300,.arr 6 v1.length (rowOf (zal true) v1)),(3,.var [.own 30300])]⟩
def D58b2(i2:Nat)(v2:(List yq)):Dl:=⟨[(39,.int .i64 (i2:Int))],[(40300,.arr 6 v2.length (rowOf (zal true) v2)),(3,.var [.own 40300])]⟩
def D58b3(i3:Nat)(v3:(List yq)):Dl:=⟨[(57,.int .i64 (i3:Int))],[(30300,.arr 6 v3.length (rowOf (zal true) v3)),(3,.var [.own 30300])]⟩
def D58b4(i4:Nat)(v4:(List yq)):Dl:=⟨[(78,.int .i64 (i4:Int))],[(40300,.arr 6 v4.length (rowOf (zal true) v4)),(3,.var [.own 40300])]⟩
abbrev A58b4(a1:yj)(i4:Nat)(v4:(List yq)):Ann:=let q1:=(yq.mk 4 ((a1.people.getD i4 wl).died) ([]:List UInt8) 0 (i4:Int) 0);r0 1 [2,3,76,77,78,79] [3,1013,40300] (cn (decide ((i4:Int)<(a1.people.length:Int))) (fe a1.people i4 (r1 2 [] [] [ix i4 a1.people.length] [0] (cn (!decide (((a1.people.getD i4 wl).died)=(-1))) (.reg 1 [] [(5,bsC 91 (zal true) ([q1]:List yq)),(6,ap1 92 (zal true) 56 v4 q1)] [] [] [] [] [] [0,4] (r1 1 [] [] [iR ((i4:Int)+1)] [0] (.next 0 [(40300,some 92)] (D58b4 (i4+1) (v4++[q1]))))) (r1 1 [] [] [iR ((i4:Int)+1)] [0] (.next 0 [(40300,some 40300)] (D58b4 (i4+1) v4)))))) (.split (decide (2≤v4.length)) (ec (y109W 97 [40300,3] (yt.mk v4) ()) fun a2 c2=>.reg 2 [] [(3,c2)] [] [] [] [] [] [0] (rt [(0,some 40300)] (C58 a2))) (ec (y109X 97 [40300,3] (SrtX.mk v4) ()) fun a2 c2=>.reg 2 [] [(3,c2)] [] [] [] [] [] [0] (rt [(0,some 40300)] (C58 a2)))))
abbrev A58b3(a1:yj)(i3:Nat)(v3:(List yq)):Ann:=let q1:=(yq.mk 3 ((a1.unions.getD i3 wl).to) ([]:List UInt8) 0 ((a1.unions.getD i3 wl).man) ((a1.unions.getD i3 wl).woman));r0 1 [] [] (cn (decide ((i3:Int)<(a1.unions.length:Int))) (fe a1.unions i3 (r1 2 [] [] [ix i3 a1.unions.length] [0] (cn (!decide (((a1.unions.getD i3 wl).to)=(-1))) (.reg 1 [] [(8,bsC 72 (zal true) ([q1]:List yq)),(9,ap1 73 (zal true) 56 v3 q1)] [] [] [] [] [] [0,4] (r1 1 [] [] [iR ((i3:Int)+1)] [0] (.next 0 [(30300,some 73)] (D58b3 (i3+1) (v3++[q1]))))) (r1 1 [] [] [iR ((i3:Int)+1)] [0] (.next 0 [(30300,some 30300)] (D58b3 (i3+1) v3)))))) (r0 1 [2,3,76,77,78] [3,1013,30300] (lI a1.people.length (fun i (v:(List yq))=>v.length≤52+i) (D58b4) [] [30300] [(40300,some 30300)] (D58b4 0 v3) (A58b4 a1))))
abbrev A58b2(a1:yj)(i2:Nat)(v2:(List yq)):Ann:=let q1:=(yq.mk 2 ((a1.unions.getD i2 wl).from0) ([]:List UInt8) 0 ((a1.unions.getD i2 wl).man) ((a1.unions.getD i2 wl).woman));r0 1 [] [] (cn (decide ((i2:Int)<(a1.unions.length:Int))) (r1 1 [] [] [ix i2 a1.unions.length] [0] (fe a1.unions i2 (.reg 1 [] [(8,bsC 51 (zal true) ([q1]:List yq)),(9,ap1 52 (zal true) 56 v2 q1)] [] [] [] [] [] [0,4] (r1 1 [] [] [iR ((i2:Int)+1)] [0] (.next 0 [(40300,some 52)] (D58b2 (i2+1) (v2++[q1]))))))) (r0 1 [1,2,3,55,56,57] [1,3,1013,2013,40300] (lI a1.unions.length (fun i (v:(List yq))=>v.length≤33+i) (D58b3) [] [40300] [(30300,some 40300)] (D58b3 0 v2) (A58b3 a1))))
abbrev A58b1(a1:yj)(i1:Nat)(v1:(List yq)):Ann:=let q1:=yq.mk 1 ((a1.people.getD i1 wl).born) ((a1.people.getD i1 wl).name) ((a1.people.getD i1 wl).sex) ((a1.people.getD i1 wl).father) ((a1.people.getD i1 wl).mother);r0 1 [] [] (cn (decide ((i1:Int)<(a1.people.length:Int))) (r1 1 [] [] [ix i1 a1.people.length] [0] (fe a1.people i1 (.reg 1 [] [(12,bsC 33 (zal true) ([q1]:List yq)),(13,ap1 34 (zal true) 56 v1 q1)] [] [] [] [] [] [0,4] (r1 1 [] [] [iR ((i1:Int)+1)] [0] (.next 0 [(30300,some 34)] (D58b1 (i1+1) (v1++[q1]))))))) (r0 1 [1,2,3,37,38,39] [1,3,1013,2013,30300] (lI a1.unions.length (fun i (v:(List yq))=>v.length≤14+i) (D58b2) [] [30300] [(40300,some 30300)] (D58b2 0 v1) (A58b2 a1))))
instance (x0:yj):Ct (y58 x0) ((Fam x0)∧(x0.people.length≤14)∧(x0.unions.length≤19)) (fun r=>r.length≤1000):=Ct.of 99 Tryz.func58 (ec (y108 x0) fun a1 c1=>.reg 3 [] [(1001,c1)] [] [] [] [] [] [0] (r0 1 [1,2,3,15,16,17] [1,3,1013,2013] (lI a1.people.length (fun i (v:(List yq))=>v.length=i) (D58b1) [] [] [(30300,none)] (D58b1 0 ([]:List yq)) (A58b1 a1)))) (fun h=>xk) (fun r=>(by simp[C58,Frs,FrsL,FrsB,rowOf,cInt,cBool,cStr,cSl,zar,cStep,zag,cRule,zam,zah,zab,zac,zaf,cLaw,zay,zbd,zap,za0,zb2,zal]))
def Dv(v s:Int):Prop:=∃q:Int,v=2 ^ (39 - s).toNat * q
def SnI(g:KV→Option Int):Prop:=∀a b v,g (KV.p a b)=some v→(0≤v∧v≤1099511627776)∧Dv v (a+b)
abbrev BtP(v s:Int)(g:KV→Option Int):Prop:=((0≤v∧v≤1099511627776)∧v.tdiv 2=v / 2)∧Dv v s∧SnI g
theorem sn_nil:SnI fun _=>none:=fun _ _ _ h=>by cases h
theorem bt_get{g : KV → Option Int}{a b s : Int}(h : SnI g)(hs : (g (KV.p a b)).isSome = true)(e : a + b = s) : BtP ((g (KV.p a b)).getD 0) s g := by
 cases c:g (KV.p a b) with
 |none =>rw[c] at hs;cases hs
 |some v =>have h1:=h a b v c;subst e;exact⟨⟨h1.1,Yd h1.1.1⟩,h1.2,h⟩
theorem bt_end{g : KV → Option Int}{a b s v : Int}(h : SnI g)(hv : 0 ≤ v ∧ v ≤ 1099511627776)(hd : Dv v (a + b))(e : a + b = s) : BtP v s (mset g (KV.p a b) v) := by
 subst e;refine⟨⟨hv,Yd hv.1⟩,hd,fun c d w hw=>?_⟩;unfold mset at hw;split at hw
 ·rename_i e;cases e; cases hw;exact ⟨hv, hd⟩
 exact h c d w hw
theorem z14{s:Int}:Dv 0 s:=⟨0,vbZ⟩
theorem z16{s:Int}(h:0≤s):Dv 549755813888 s:=by refine⟨2 ^ (39 - (39 - s).toNat),?_⟩;rw[←Int.pow_add,show(39 - s).toNat+(39 - (39 - s).toNat)=39 by omega];decide
theorem dv_add{v r s t:Int}(h:Dv v s)(hr:Dv r t)(ht:t<s∧s≤39)(e:r.tdiv 2=r / 2):Dv (v+r.tdiv 2) s:=by obtain⟨q,rfl⟩:=h;obtain⟨p,rfl⟩:=hr;obtain⟨k,hk⟩:∃k,(39 - t).toNat=(39 - s).toNat+1+k:=⟨(39 - t).toNat - ((39 - s).toNat+1),vbX⟩;refine⟨q+2 ^ k * p,?_⟩;have e2:(2:Int) ^ (39 - t).toNat * p=2 * (2 ^ (39 - s).toNat * (2 ^ k * p)):=(by rw[hk,Int.pow_add,Int.pow_succ,Int.mul_comm ((2:Int) ^ (39 - s).toNat) 2];simp only[Int.mul_assoc]);rw[e,e2,Int.mul_ediv_cancel_left _ vbW,Int.mul_add]
def DyI(n e:Int):Prop:=((0≤n∧n≤2 ^ e.toNat)∧0≤e∧e≤40)∧∃q:Int,n=2 ^ (e.toNat - 27) * q
theorem zzp{v s:Int}(h:Dv v s)(hv:0≤v∧v≤1099511627776)(hs:s≤26):DyI v 40:=by obtain⟨q,rfl⟩:=h;refine⟨⟨hv,vbW⟩,2 ^ ((39 - s).toNat - 13) * q,?_⟩;rw[←Int.mul_assoc,←Int.pow_add,show(40:Int).toNat - 27+((39 - s).toNat - 13)=(39 - s).toNat by omega]
theorem z13{n e : Int}(h : DyI n e)(he : 0 < e)(h2 : n.tmod 2 = 0) : DyI (n.tdiv 2) (e - 1) := by
 obtain⟨⟨h0,h1⟩,q,hq⟩:=h;rw[yD h0.1] at h2;have e1:n.tdiv 2=n / 2:=Yd h0.1;obtain⟨k,hk⟩:∃k,e.toNat=k+1:=⟨e.toNat - 1,vbX⟩;have e2:(e - 1).toNat=k:=vbX
 rw[e1];have h3:=h0.2;rw[hk,Int.pow_succ] at h3;refine⟨⟨⟨vbX,by rw[e2];omega⟩,vbX⟩,?_⟩;rw[e2];rcases oY k 27 with hl | hg
 ·exact ⟨n / 2, by rw [show k - 27 = 0 by omega]; simp⟩
 refine⟨q,?_⟩;rw[hq,hk,show k+1 - 27=(k - 27)+1 by omega,Int.pow_succ,Int.mul_comm ((2:Int) ^ (k - 27)) 2,Int.mul_assoc,Int.mul_ediv_cancel_left _ vbW]
abbrev DyF(n e:Int):Prop:=(0≤n∧n≤1073741824)∧(0≤e∧e≤30)∧(e=0∨n.tmod 2=1)
theorem dy_end{n e : Int}(h : DyI n e)(hc : ¬0 < e ∨ ¬n.tmod 2 = 0) : DyF n e := by
 obtain⟨⟨h0, h1⟩, q, hq⟩ := h;rw[yD h0.1] at hc;unfold DyF;rw[yD h0.1];have key : e ≤ 27 := by
  by_cases hl:27<e
  ·exfalso;obtain ⟨k, hk⟩ : ∃ k, e.toNat - 27 = k + 1 := ⟨e.toNat - 28, vbX⟩;rw [hk, Int.pow_succ, Int.mul_comm ((2 : Int) ^ k) 2, Int.mul_assoc] at hq;omega
  omega
 have h2:(2:Int) ^ e.toNat≤2 ^ 27:=by obtain⟨k,hk⟩:∃k,27=e.toNat+k:=⟨27 - e.toNat,vbX⟩;rw[hk,Int.pow_add];have a:=Int.pow_pos (n:=2) (m:=e.toNat) vbW;have b:=Int.pow_pos (n:=2) (m:=k) vbW;have c:=Int.mul_le_mul_of_nonneg_left (show(1:Int)≤2 ^ k by omega) (Int.le_of_lt a);omega
 have h3:(2:Int) ^ 27=134217728:=vbW
 omega
theorem dy_bd{n e:Int}(h:DyI n e):n≤1099511627776:=by have h0:=h.1;obtain⟨k,hk⟩:∃k,40=e.toNat+k:=⟨40 - e.toNat,vbX⟩;have a:=Int.pow_pos (n:=2) (m:=e.toNat) vbW;have b:=Int.pow_pos (n:=2) (m:=k) vbW;have c:=Int.mul_le_mul_of_nonneg_left (show(1:Int)≤2 ^ k by omega) (Int.le_of_lt a);rw[←Int.pow_add,←hk] at c;have h3:(2:Int) ^ 40=1099511627776:=vbW;omega
structure Dyad where
  num:Int
  exp:Int
  deriving Inhabited
def cDyad(fr:Bool)(x:Dyad):List LV:=cInt .i64 x.num++cInt .i64 x.exp

def y193(x0:Dyad):Bool→Cl:=cK Tryz.prog 193 [.agg (cDyad false x0)] C70
instance (x0:Dyad):Ct (y193 x0) ((0≤x0.num∧x0.num≤1073741824)∧(0≤x0.exp∧x0.exp≤30)∧(x0.exp=0∨x0.num.tmod 2=1)) (fun r=>r=true):=Ct.of 32 Tryz.func193 (let q2:=decide (x0.exp=0);let q4:=decide (0≤x0.num);let q5:=decide (0≤x0.exp);let q3:=decide (x0.num≤1073741824);let q1:=((q4&&q3)&&q5)&&(decide (x0.exp≤30));.reg 2 [] [] [] [] [decide (0≤x0.num),q4&&q3,(q4&&q3)&&q5,((q4&&q3)&&q5)&&(decide (x0.exp≤30)),q1&&(!q2)] [gt (q1&&(!q2)) (pf ((2:Int)≠0)),gt q1 (gf q2 (pf ((q1&&(!q2))=true)))] [] [1,1,1,5,5,5,9,9,9,13,13,13,17,17,0,17,13,4,13] (rt [] (C70 (q1&&(q2||(decide ((x0.num.tmod 2)=1))))))) (fun h=>xk)
def C260(R:Dyad×Bool):LV×List (Nat×BC):=(.tup [.agg [.int .i64 R.1.num,.int .i64 R.1.exp],.bool R.2],[])
def y260(x0:Int)(x1:Int):(Dyad×Bool)→Cl:=cK Tryz.prog 260 [.int .i64 x0,.int .i64 x1] C260
def zwp(v1:Int×Int):Dl:=⟨[(0,.int .i64 v1.1),(1,.int .i64 v1.2)],[]⟩
abbrev A260b1(v1:Int×Int):Ann:=.reg 1 [] [] [] [] [decide (0<v1.2)] [gt (decide (0<v1.2)) (pf ((2:Int)≠0))] [] [1,0,1,1] (cn ((decide (0<v1.2))&&(decide ((v1.1.tmod 2)=0))) (r1 1 [] [] [pf ((2:Int)≠0),iR (v1.1.tdiv 2)] [0,4] (r1 1 [] [] [iR (v1.2 - 1)] [0] (.next 0 [] (zwp (v1.1.tdiv 2,v1.2 - 1))))) (eb (y193 (Dyad.mk v1.1 v1.2)) fun a1 c1=>.reg 2 [] [(1002,c1)] [] [] [] [] [] [0] (rt [] (C260 ((Dyad.mk v1.1 v1.2),a1)))))
instance (x0:Int) (x1:Int):Ct (y260 x0 x1) (DyI x0 x1) (fun r=>DyF r.1.num r.1.exp):=Ct.of 24 Tryz.func260 (r0 1 [0,1,4,5] [4] (lM (fun (v:Int×Int)=>DyI v.1 v.2∧(v.1.tdiv 2=v.1 / 2∧0≤v.1∧v.1≤1099511627776)∧0≤v.2∧v.2≤40) (fun v=>(v.2).toNat) (zwp) [] [] [] (zwp (x0,x1)) (A260b1))) (fun h=>by have e1:=@z13;have e2:=@dy_end;have q:=h.1;have q2:=dy_bd h;have e3:=fun (a:Int) (h:0≤a)=>(Yd h:a.tdiv 2=a / 2);exact xk)
def C194(R:Dyad):LV×List (Nat×BC):=(.agg [.int .i64 R.num,.int .i64 R.exp],[])
def y194(x0:Int):Dyad→Cl:=cK Tryz.prog 194 [.int .i64 x0] C194
instance (x0:Int):Ct (y194 x0) (DyI x0 40) (fun r=>DyF r.num r.exp):=Ct.of 11 Tryz.func194 (ec (y260 x0 40) fun a1 c1=>.reg 3 [] [(1001,c1)] [] [] [] [] [] [0] (rt [] (C194 a1.1))) (fun h=>xk)
structure kin where
  f:yj
  seen:KV→Option Int
  deriving Inhabited

def C195(x0:kin)(x1:Int)(x2:Int)(R:Int×(KV→Option Int)):LV×List (Nat×BC):=(.int .i64 R.1,[(900001,.mp .pair (.i R.2)),(900000,.var [.ro false 6 x0.f.people.length (rowOf (zab false) x0.f.people),.ro false 4 x0.f.unions.length (rowOf (zac false) x0.f.unions),.mp 900001])])
def y195(d:Nat)(ids:List Nat)(x0:kin)(x1:Int)(x2:Int):(Int×(KV→Option Int))→Cl:=cM Tryz.prog 195 [.vp 900000 0,.int .i64 x1,.int .i64 x2] [.var [.ro false 6 x0.f.people.length (rowOf (zab false) x0.f.people),.ro false 4 x0.f.unions.length (rowOf (zac false) x0.f.unions),.mp 900001],.mp .pair (.i x0.seen)] (C195 x0 x1 x2) d ids
def zxb(j1:Int×Int):Dl:=⟨[(1,.int .i64 j1.1),(2,.int .i64 j1.2)],[]⟩
def zxc(x0:kin)(i1:Nat)(v1:Int×(KV→Option Int)):Dl:=⟨[(66,.int .i64 (i1:Int)),(10,.int .i64 v1.1)],[(900001,.mp .pair (.i v1.2)),(900000,.var [.ro false 6 x0.f.people.length (rowOf (zab false) x0.f.people),.ro false 4 x0.f.unions.length (rowOf (zac false) x0.f.unions),.mp 900001])]⟩
abbrev A195b1(x0:kin)(x1:Int)(x2:Int)(j1:Int×Int)(a1:(List Int))(i1:Nat)(v1:Int×(KV→Option Int)):Ann:=r0 1 [] [] (cn (decide ((i1:Int)<(a1.length:Int))) (fe a1 i1 (r1 1 [] [] [ix i1 a1.length] [0] (ec (y195 74 [900000,900001] (kin.mk x0.f v1.2) (a1.getD i1 wl) j1.2) fun a2 c2=>let q1:=a2.1.tdiv 2;.reg 1 [] [(4,c2)] [] [] [] [pf ((2:Int)≠0),iR q1,iR (v1.1+q1)] [] [12,0,4,8] (r1 1 [] [] [iR ((i1:Int)+1)] [0] (.next 0 [(900001,some 900001)] (zxc x0 (i1+1) (v1.1+q1,a2.2))))))) (r0 2 [] [] (rt [(900001,some 900001),(900000,some 900000)] (C195 x0 x1 x2 (v1.1,mset v1.2 (KV.p j1.1 j1.2) v1.1)))))
abbrev A195j1(x0:kin)(x1:Int)(x2:Int)(j1:Int×Int):Ann:=let q2:=KV.p j1.1 j1.2;let q1:=x0.f.people.getD j1.1.toNat wl;r0 2 [] [] (cn ((x0.seen q2).isSome) (r0 1 [] [] (rt [(900001,some 900001),(900000,some 900000)] (C195 x0 x1 x2 ((x0.seen q2).getD 0,x0.seen)))) (r1 2 [] [] [ix j1.1 x0.f.people.length] [0] (r0 1 [] [] (cn (decide (j1.1=j1.2)) (fe x0.f.people j1.1.toNat (.reg 2 [] [] [] [] [decide (0≤(q1.father))] [] [] [1,1,1] (cn ((decide (0≤(q1.father)))&&(decide (0≤(q1.mother)))) (ec (y195 56 [900000,900001] x0 (q1.father) (q1.mother)) fun a1 c1=>let q3:=a1.1.tdiv 2;.reg 1 [] [(6,c1)] [] [] [] [pf ((2:Int)≠0),iR q3,iR (549755813888+q3)] [] [12,0,4,8] (r0 2 [] [] (rt [(900001,some 900001),(900000,some 900000)] (C195 x0 x1 x2 (549755813888+q3,mset a1.2 q2 (549755813888+q3)))))) (r0 2 [] [] (rt [(900001,some 900001),(900000,some 900000)] (C195 x0 x1 x2 (549755813888,mset x0.seen q2 549755813888))))))) (ec (y261 x0.f j1.1) fun a1 c1=>.reg 1 [] [(5,c1)] [0,1,2,6,10,64,65,66] [1064,900000,900001] [] [] [] [0] (lI a1.length (fun i (v:Int×(KV→Option Int))=>(0≤v.1∧v.1≤549755813888 * i)∧Dv v.1 (j1.1+j1.2)∧SnI v.2) (zxc x0) [] [] [(900001,some 900001)] (zxc x0 0 (0,x0.seen)) (A195b1 x0 x1 x2 j1 a1)))))))
theorem yr195 : ∀(m : Nat) (d : Nat) (ids : List Nat) (x0 : kin) (x1 : Int) (x2 : Int), Ct (y195 d ids x0 x1 x2) ((x1 + x2).toNat < m ∧ (Fam x0.f ∧ x0.f.people.length ≤ 14) ∧ (0 ≤ x1 ∧ x1 < x0.f.people.length) ∧ (0 ≤ x2 ∧ x2 < x0.f.people.length) ∧ (SnI x0.seen)) (fun r => BtP r.1 (x1 + x2) r.2)
  |0,d,ids,x0,x1,x2=>⟨fun h=>absurd h.1 (oO _)⟩
  |m + 1, d, ids, x0, x1, x2 => by
    have ih:=yr195 m
    exact Ct.ofM 87 Tryz.func195 (r0 1 [0,1,2,6] [900000,900001] (jI (fun (v:Int×Int)=>(0≤v.2∧v.2≤v.1∧v.1<x0.f.people.length)∧v.1+v.2=x1+x2) 0 (zxb) [0,1,2,6] [900000,900001] (r0 1 [] [] (cn (decide (x1<x2)) (r0 1 [] [] (.next 0 [] (zxb (x2,x1)))) (.next 0 [] (zxb (x1,x2))))) (A195j1 x0 x1 x2))) (fun ⟨hm,h1,h2,h3,h4⟩=>by have e1:=@bt_get;have e2:=@bt_end;have e3:=@z14;have e4:=@z16;have e5:=@dv_add;exact xk)
instance (d:Nat) (ids:List Nat) (x0:kin) (x1:Int) (x2:Int):Ct (y195 d ids x0 x1 x2) ((Fam x0.f∧x0.f.people.length≤14)∧(0≤x1∧x1<x0.f.people.length)∧(0≤x2∧x2<x0.f.people.length)∧(SnI x0.seen)) (fun r=>BtP r.1 (x1+x2) r.2):=⟨fun h=>(yr195 _ d ids x0 x1 x2).h ⟨oF _,h⟩⟩
def y125(x0:yj)(x1:Int)(x2:Int):Dyad→Cl:=cK Tryz.prog 125 [.agg (zaf false x0),.int .i64 x1,.int .i64 x2] C194
instance (x0:yj) (x1:Int) (x2:Int):Ct (y125 x0 x1 x2) ((Fam x0)∧(0≤x1∧x1<x0.people.length)∧(0≤x2∧x2<x0.people.length)∧(x0.people.length≤14)) (fun r=>(0≤r.num∧r.num≤1073741824)∧(0≤r.exp∧r.exp≤30)∧(r.exp=0∨r.num.tmod 2=1)):=Ct.of 22 Tryz.func125 (r0 1 [] [] (eb (y128R x0 [x1,x2]) fun a1 c1=>.reg 1 [] [(3,bsC 11 (cInt .i64) ([x1,x2]:List Int)),(4,c1)] [] [] [] [] [] [0,4] (cn (!a1) (r0 1 [] [] (rt [] (C194 (Dyad.mk 0 0)))) (ec (y195 20 [7,16] (kin.mk x0 (fun _=>none)) x1 x2) fun a2 c2=>ec (y194 a2.1) fun a3 c3=>.reg 2 [] [(1002,c2),(1003,c3)] [] [] [] [] [] [0,4] (rt [] (C194 a3)))))) (fun h=>by have e1:=@sn_nil;have e2:=@zzp;exact xk)
abbrev WkF(n:Int)(w:List ym):Prop:=(w.length=9∧(w.getD 1 wl).size=n)∧∀k:Nat,k<w.length→RelOk (w.getD k wl)∧(k=0∨(w.getD k wl).size=n)
def WkI(n k:Int)(w:List ym):Prop:=w.length=9∧∀j:Nat,j<w.length→RelOk (w.getD j wl)∧(j=0∨k≤j∨(w.getD j wl).size=n)
theorem z02{n : Int} : WkI n 1 (yw 9 wl) := ⟨rfl, fun j hj => by
  have e : (yw 9 (wl : ym)).getD j wl = wl := by
    rw[oh,List.getElem?_replicate];split<;>rfl
  rw[e]
  exact⟨⟨vbW,rfl,Al.nil⟩,vbX⟩⟩
theorem wk_set{n k k' : Int}{w : List ym}{x : ym}{m : Nat}(h : WkI n k w)(hx : x.size = n)(hr : RelOk x)(e : k' = k + 1 ∧ (m : Int) = k) : WkI n k' (w.set m x) := by
 refine⟨by rw[YF];exact h.1,fun j hj=>?_⟩;rw[YF] at hj;have h2:=h.2 j hj;rw[zdj];split
 ·exact ⟨hr, .inr (.inr hx)⟩
 rename_i c;refine⟨h2.1,?_⟩;have hn:j≠m:=fun e=>c ⟨e,vbX⟩;omega
def Wk(n:Int)(w:List ym):Prop:=WkF n w
theorem wk_end{n k : Int}{w : List ym}(h : WkI n k w)(hk : 9 ≤ k) : Wk n w ∧ WkF n w := by
 have h1:=h.1;have h2:(w.getD 1 wl).size=n:=by have:=(h.2 1 vbX).2;omega
 have h3 : WkF n w := ⟨⟨h1, h2⟩, fun j hj => by
   have:=h.2 j hj
   exact⟨this.1,vbX⟩⟩
 exact⟨h3,h3⟩
theorem wk_of{n m:Int}{w:List ym}(h:Wk n w)(e:n=m):Wk m w:=e ▸ h
theorem zyy{t:yb}(h:zak t=true):Al (fun (s:ya)=>1≤s.kind∧s.kind≤8) t.steps:=(ty_ok h).2.2.2.mono fun _ h=>h.1
def C200N(R:ym):LV×List (Nat×BC):=(.agg [.int .i64 R.size,.ro true 1 R.rows.length (rowOf (cSl true 1 (cInt .i64)) R.rows)],[])
def y200N(x0:yj)(x1:ya):ym→Cl:=cK Tryz.prog 200 [.agg (zaf false x0),.agg (cStep false x1)] C200N
def zku(i1:Nat)(v1:(KV→Option Bool)):Dl:=⟨[(12,.int .i64 (i1:Int))],[(30500,.mp .pair (.b v1)),(5,.var [.mp 30500])]⟩
abbrev z3e(x0:yj)(x1:ya)(i1:Nat)(v1:(KV→Option Bool)):Ann:=let q2:=((i1:Int)+1);let q1:=x0.unions.getD i1 wl;r0 1 [] [] (cn (decide ((i1:Int)<(x0.unions.length:Int))) (r1 2 [] [] [ix i1 x0.unions.length] [0] (r0 1 [] [] (cn (decide (x1.kind=7)) (r0 1 [] [] (r1 1 [] [] [iR q2] [0] (.next 0 [(30500,some 30500)] (zku (i1+1) (mset v1 (KV.p (q1.woman) (q1.man)) true))))) (r0 1 [] [] (cn (decide (x1.kind=8)) (r0 1 [] [] (r1 1 [] [] [iR q2] [0] (.next 0 [(30500,some 30500)] (zku (i1+1) (mset v1 (KV.p (q1.man) (q1.woman)) true))))) (r1 1 [] [] [iR q2] [0] (.next 0 [(30500,some 30500)] (zku (i1+1) v1)))))))) (ec (y197S (x0.people.length:Int) (x0,x1,v1)) fun a1 c1=>.reg 1 [] [(4,c1)] [4] [4,1039] [] [] [] [0] (.fits [] [1039] [] ⟨[],[(4,.var [.int .i64 a1.size,.ro true 1 a1.rows.length (rowOf (cSl true 1 (cInt .i64)) a1.rows)])]⟩ (rt [] (C200N a1)))))
instance (x0:yj) (x1:ya):Ct (y200N x0 x1) (Fam x0) (fun r=>r.size=x0.people.length∧RelOk r):=Ct.of 40 Tryz.func200 (r0 2 [] [] (r0 1 [2,3,4,5,10,11,12] [2,3,4,5,8] (lI x0.unions.length (fun i (v:(KV→Option Bool))=>True) (zku) [] [8] [(30500,some 8)] (zku 0 (fun _=>none)) (z3e x0 x1)))) (fun h=>xk) (fun r=>(by simp[C200N,Frs,FrsL,FrsB,rowOf,cInt,cBool,cStr,cSl,zar,cStep,zag,cRule,zam,zah,zab,zac,zaf,cLaw,zay,zbd,zap,za0,zb2,zal,cDyad]))
def C185(x0:yj)(R:(List ym)):LV×List (Nat×BC):=(.ap 0 2 0 0,[(0,.arr 2 9 (rowOf (zap true) R))])
def y185(d:Nat)(ids:List Nat)(x0:yj):(List ym)→Cl:=cM Tryz.prog 185 [.agg (zaf false x0)] [] (C185 x0) d ids
def zxh(v1:(List ym)×Int):Dl:=⟨[(3,.ap 20003 2 0 0),(4,.int .i64 v1.2)],[(20003,.arr 2 9 (rowOf (zap true) v1.1))]⟩
abbrev A185b1(x0:yj)(v1:(List ym)×Int):Ann:=r0 1 [] [] (cn (decide (v1.2≤8)) (ec (y200N x0 (ya.mk v1.2 0)) fun a1 c1=>.reg 1 [] [(5,c1),(9,stC 20003 (zap true) 9 v1.1 v1.2.toNat a1)] [] [] [] [ix v1.2 9,pf ((v1.2:Int)<((9:Nat):Int))] [] [8,0,4,12] (r1 1 [] [] [iR (v1.2+1)] [0] (.next 0 [(20003,some 20003)] (zxh ((v1.1.set v1.2.toNat a1),v1.2+1))))) (r0 1 [] [] (rt [(0,some 20003)] (C185 x0 v1.1))))
instance (d:Nat) (ids:List Nat) (x0:yj):Ct (y185 d ids x0) (Fam x0) (fun r=>Wk x0.people.length r∧WkF x0.people.length r):=Ct.ofM 21 Tryz.func185 (.reg 2 [] [(1001,bxW 6 (zap true) 9 (wl:ym) [.int .i64 0,.nilS] [.int .i64 0,.nilS,.int .i64 0,.nilS,.int .i64 0,.nilS,.int .i64 0,.nilS,.int .i64 0,.nilS,.int .i64 0,.nilS,.int .i64 0,.nilS,.int .i64 0,.nilS,.int .i64 0,.nilS] rfl (zox (zow zkn)))] [] [] [] [] [] [0] (r0 1 [1,2,3,4] [1,6] (lM (fun (v:(List ym)×Int)=>WkI x0.people.length v.2 v.1∧(1≤v.2∧v.2≤9)∧v.1.length=9) (fun v=>((9:Int) - v.2).toNat) (zxh) [] [6] [(20003,some 6)] (zxh ((yw 9 (wl:ym)),1)) (A185b1 x0)))) (fun h=>by have e1:=@z02;have e2:=@wk_set;have e3:=@wk_end;exact xk)
def C255(x0:List ym)(x1:List Bool)(x2:Int)(R:(List Bool)):LV×List (Nat×BC):=(.own 0,[(900000,.arr 2 9 (rowOf (zap true) x0)),(900001,.arr 1 x1.length (rowOf (cBool) x1)),(0,.arr 1 R.length (rowOf (cBool) R))])
def y255(d:Nat)(ids:List Nat)(x0:List ym)(x1:List Bool)(x2:Int):(List Bool)→Cl:=cM Tryz.prog 255 [.ap 900000 2 0 0,.own 900001,.int .i64 x2] [.arr 2 9 (rowOf (zap true) x0),.arr 1 x1.length (rowOf (cBool) x1)] (C255 x0 x1 x2) d ids
def zsb(x1:List Bool)(i1:Nat)(v1:(List Bool)):Dl:=⟨[(17,.int .i64 (i1:Int)),(7,.own 20007)],[(20007,.arr 1 x1.length (rowOf (cBool) v1))]⟩
def zwu(x1:List Bool)(i2:Nat)(v2:(List Bool)):Dl:=⟨[(34,.int .i64 (i2:Int)),(7,.own 30007)],[(30007,.arr 1 x1.length (rowOf (cBool) v2))]⟩
abbrev A255b2(x0:List ym)(x1:List Bool)(x2:Int)(i1:Nat)(i2:Nat)(v2:(List Bool)):Ann:=let q1:=((x0.getD x2.toNat wl).rows).getD i1 wl;let q2:=q1.getD i2 wl;r0 1 [] [] (cn (decide ((i2:Int)<((q1.length:Nat):Int))) (fe q1 i2 (r1 1 [] [] [ix i2 (q1.length)] [0] (.reg 1 [] [(3,stC 30007 (cBool) x1.length v2 (q2.toNat) true)] [] [] [] [ix q2 x1.length] [] [0,4] (r1 1 [] [] [iR ((i2:Int)+1)] [0] (.next 0 [(30007,some 30007)] (zwu x1 (i2+1) (v2.set (q2.toNat) true))))))) (r1 1 [] [] [iR ((i1:Int)+1)] [0] (.next 1 [(20007,some 30007)] (zsb x1 (i1+1) v2))))
abbrev A255b1(x0:List ym)(x1:List Bool)(x2:Int)(i1:Nat)(v1:(List Bool)):Ann:=let q1:=(x0.getD x2.toNat wl).rows;r0 1 [] [] (cn (decide ((i1:Int)<(x1.length:Int))) (fe x1 i1 (r1 2 [] [] [ix i1 x1.length] [0] (cn (x1.getD i1 wl) (fe x0 x2.toNat (fe q1 i1 (r1 1 [0,2,6,7,15,16,17,32,33,34] [20007,900000,900001] [ix x2 9,pf ((x2:Int)<((9:Nat):Int)),ix i1 (q1.length)] [0,4,8] (lI ((q1.getD i1 wl).length) (fun i (v:(List Bool))=>v.length=x1.length) (zwu x1) [] [20007] [(30007,some 20007)] (zwu x1 0 v1) (A255b2 x0 x1 x2 i1))))) (r1 1 [] [] [iR ((i1:Int)+1)] [0] (.next 0 [(20007,some 20007)] (zsb x1 (i1+1) v1)))))) (r0 1 [6] [20007,900000,900001] (.co false 20007 v1.length (rowOf (cBool) v1) [lnP (rowOf (cBool) v1) x1.length v1.length] [] 0 (rt [(900000,some 900000),(900001,some 900001),(0,some 20007)] (C255 x0 x1 x2 v1)))))
instance (d:Nat) (ids:List Nat) (x0:List ym) (x1:List Bool) (x2:Int):Ct (y255 d ids x0 x1 x2) ((Wk x1.length x0)∧(1≤x2∧x2≤8)∧(x1.length≤40)) (fun r=>r.length=x1.length):=Ct.ofM 44 Tryz.func255 (.reg 2 [] [(1002,msC 14 (cBool) 1 (x1.length:Int) (x1.length:Int) x1.length (wl:Bool) (rfl))] [] [] [] [] [] [0] (r0 1 [0,2,6,7,15,16,17] [14,900000,900001] (lI x1.length (fun i (v:(List Bool))=>v.length=x1.length) (zsb x1) [] [14] [(20007,some 14)] (zsb x1 0 (yw x1.length (wl:Bool))) (A255b1 x0 x1 x2)))) (fun h=>by have q:WkF x1.length x0:=h.1;exact xk)
def C187(x0:List ym)(x1:yb)(x2:Int)(x3:Int)(R:Bool):LV×List (Nat×BC):=(.bool R,[(900000,.arr 2 9 (rowOf (zap true) x0))])
def y187(d:Nat)(ids:List Nat)(x0:List ym)(x1:yb)(x2:Int)(x3:Int):Bool→Cl:=cM Tryz.prog 187 [.ap 900000 2 0 0,.agg (zag false x1),.int .i64 x2,.int .i64 x3] [.arr 2 9 (rowOf (zap true) x0)] (C187 x0 x1 x2 x3) d ids
def zxe(i1:Nat)(v1:(List Bool)):Dl:=⟨[(25,.int .i64 (i1:Int)),(9,.own 20009)],[(20009,.arr 1 v1.length (rowOf (cBool) v1))]⟩
abbrev A187b1(x0:List ym)(x1:yb)(x2:Int)(x3:Int)(i1:Nat)(v1:(List Bool)):Ann:=r0 1 [] [] (cn (decide ((i1:Int)<(x1.steps.length:Int))) (r1 1 [] [] [ix i1 x1.steps.length] [0] (fe x1.steps i1 (ec (y255 33 [900000,20009] x0 v1 ((x1.steps.getD i1 wl).kind)) fun a1 c1=>.reg 1 [] [(4,c1)] [] [] [] [] [] [0] (r1 1 [] [] [iR ((i1:Int)+1)] [0] (.next 0 [(20009,some 1033)] (zxe (i1+1) a1)))))) (fe v1 x3.toNat (r1 1 [] [] [ix x3 v1.length] [0] (rt [(900000,some 900000)] (C187 x0 x1 x2 x3 (v1.getD x3.toNat wl))))))
instance (d:Nat) (ids:List Nat) (x0:List ym) (x1:yb) (x2:Int) (x3:Int):Ct (y187 d ids x0 x1 x2 x3) ((Wk (x0.getD 1 wl).size x0)∧(0≤(x0.getD 1 wl).size∧(x0.getD 1 wl).size≤40)∧(Al (fun (s:ya)=>1≤s.kind∧s.kind≤8) x1.steps)∧(0≤x2∧x2<(x0.getD 1 wl).size)∧(0≤x3∧x3<(x0.getD 1 wl).size)∧(x1.steps.length≤1000)) (fun r=>True):=Ct.ofM 39 Tryz.func187 (let q2:=(x0.getD 1 wl).size;let q3:=q2.toNat;let q1:=((yw q3 (wl:Bool)).set x2.toNat true);fe x0 1 (.reg 3 [] [(1006,msC 18 (cBool) 1 q2 q2 q3 (wl:Bool) (rfl)),(2003,stC 18 (cBool) q3 (yw q3 (wl:Bool)) x2.toNat true)] [] [] [] [ix 1 9,pf ((1:Int)<((9:Nat):Int)),ix x2 q3] [] [0,4,12,8,16] (r0 1 [0,3,8,9,23,24,25] [18,900000] (.co false 18 (q1.length) (rowOf (cBool) q1) [lnP (rowOf (cBool) q1) q3 (q1.length)] [] 0 (lI x1.steps.length (fun i (v:(List Bool))=>(v.length:Int)=(x0.getD 1 wl).size) (zxe) [] [18] [(20009,some 18)] (zxe 0 q1) (A187b1 x0 x1 x2 x3)))))) (fun h=>by have m1:=@wk_of;have q:WkF _ x0:=h.1;exact xk)
def y120(x0:yj)(x1:Int)(x2:Int)(x3:Int):(List yb)→Cl:=cK Tryz.prog 120 [.agg (zaf false x0),.int .i64 x1,.int .i64 x2,.int .i64 x3] C186
def zst(i1:Nat)(v1:(List yb)):Dl:=⟨[(30,.int .i64 (i1:Int)),(10,.own 20010)],[(20010,.arr 2 v1.length (rowOf (zag true) v1))]⟩
abbrev A120b1(x1:Int)(x2:Int)(a2:(List ym))(a3:(List yb))(i1:Nat)(v1:(List yb)):Ann:=let q1:=a3.getD i1 wl;r0 1 [] [] (cn (decide ((i1:Int)<(a3.length:Int))) (fe a3 i1 (ec (y187 38 [1020] a2 q1 x1 x2) fun a4 c4=>.reg 2 [] [(1004,c4)] [] [] [] [ix i1 a3.length] [] [0,4] (cn a4 (.reg 1 [] [(2,bsC 41 (zag true) ([q1]:List yb)),(3,ap1 42 (zag true) 32 v1 q1)] [] [] [] [] [] [0,4] (r1 1 [] [] [iR ((i1:Int)+1)] [0] (.next 0 [(20010,some 42)] (zst (i1+1) (v1++[q1]))))) (r1 1 [] [] [iR ((i1:Int)+1)] [0] (.next 0 [(20010,some 20010)] (zst (i1+1) v1)))))) (r0 1 [] [] (rt [(0,some 20010)] (C186 v1))))
instance (x0:yj) (x1:Int) (x2:Int) (x3:Int):Ct (y120 x0 x1 x2 x3) ((Fam x0)∧(x3=3)) (fun r=>r.length≤584∧Al TyF r):=Ct.of 45 Tryz.func120 (r0 1 [] [] (eb (y128 x0 [x1,x2]) fun a1 c1=>.reg 1 [] [(3,bsC 16 (cInt .i64) ([x1,x2]:List Int)),(4,c1)] [] [] [] [] [] [0,4] (cn (!a1) (r0 1 [] [] (rt [(0,none)] (C186 ([]:List yb)))) (ec (y185 20 [] x0) fun a2 c2=>.reg 2 [] [(1,c2)] [] [] [] [] [] [0] (fe x0.people x1.toNat (ec (y186 ((x0.people.getD x1.toNat wl).sex) x3) fun a3 c3=>.reg 1 [] [(7,c3)] [1,2,8,9,10,28,29,30] [1020,1028] [] [ix x1 x0.people.length] [] [0,4] (lI a3.length (fun i (v:(List yb))=>v.length≤i∧Al TyF v) (zst) [] [] [(20010,none)] (zst 0 ([]:List yb)) (A120b1 x1 x2 a2 a3)))))))) (fun h=>by have e1:=@ty_ok;have e2:=@zyy;have m1:=@wk_of;exact xk) (fun r=>(by simp[C186,Frs,FrsL,FrsB,rowOf,cInt,cBool,cStr,cSl,zar,cStep,zag,cRule,zam,zah,zab,zac,zaf,cLaw,zay,zbd,zap,za0,zb2,zal,cDyad]))
def y256(x0:List Bool)(x1:List Int)(x2:Int):Bool→Cl:=cK Tryz.prog 256 [.ro false 1 x0.length (rowOf (cBool) x0),.ro false 1 x1.length (rowOf (cInt .i64) x1),.int .i64 x2] C70
def zwt(i1:Nat)(v1:Unit):Dl:=⟨[(11,.int .i64 (i1:Int))],[]⟩
abbrev A256b1(x0:List Bool)(x1:List Int)(x2:Int)(i1:Nat)(v1:Unit):Ann:=let q1:=x0.getD i1 wl;r0 1 [] [] (cn (decide ((i1:Int)<(x0.length:Int))) (fe x0 i1 (fe x1 i1 (.reg 2 [] [] [] [] [q1] [ix i1 x0.length,gt q1 (ix i1 x1.length)] [] [0,1,1,4,1,1,1,1] (cn (q1&&(decide ((x1.getD i1 wl)=x2))) (r0 1 [] [] (rt [] (C70 true))) (r1 1 [] [] [iR ((i1:Int)+1)] [0] (.next 0 [] (zwt (i1+1) ()))))))) (r0 1 [] [] (rt [] (C70 false))))
instance (x0:List Bool) (x1:List Int) (x2:Int):Ct (y256 x0 x1 x2) (x0.length=x1.length∧x0.length≤1000) (fun r=>True):=Ct.of 26 Tryz.func256 (r0 1 [] [] (r0 1 [1,2,6,9,10,11] [] (lI x0.length (fun i (v:Unit)=>True) (zwt) [] [] [] (zwt 0 ()) (A256b1 x0 x1 x2)))) (fun h=>xk)
def y183(x0:yj)(x1:Int)(x2:Int):(yb×Bool)→Cl:=cK Tryz.prog 183 [.agg (zaf false x0),.int .i64 x1,.int .i64 x2] C144
def zxm(x0:yj)(i1:Nat)(v1:(List Int)):Dl:=⟨[(36,.int .i64 (i1:Int)),(9,.own 20009)],[(20009,.arr 1 x0.people.length (rowOf (cInt .i64) v1))]⟩
def zxl(x0:yj)(v2:(List Int)×Int):Dl:=⟨[(9,.own 30009),(11,.int .i64 v2.2)],[(30009,.arr 1 x0.people.length (rowOf (cInt .i64) v2.1))]⟩
def zxk(x0:yj)(i3:Nat)(v3:(List Int)):Dl:=⟨[(52,.int .i64 (i3:Int)),(9,.own 20009)],[(20009,.arr 1 x0.people.length (rowOf (cInt .i64) v3))]⟩
def zxj(x0:yj)(v4:(List Int)×Int):Dl:=⟨[(9,.own 30009),(13,.int .i64 v4.2)],[(30009,.arr 1 x0.people.length (rowOf (cInt .i64) v4.1))]⟩
def zsk(x0:yj)(i5:Nat)(v5:(List Int)):Dl:=⟨[(70,.int .i64 (i5:Int)),(9,.own 20009)],[(20009,.arr 1 x0.people.length (rowOf (cInt .i64) v5))]⟩
abbrev A183b5(x0:yj)(a2:(List ym))(v2:(List Int)×Int)(i3:Nat)(v4:(List Int)×Int)(i5:Nat)(v5:(List Int)):Ann:=let q2:=(v5.getD i3 wl)<0;let q1:=((a2.getD v4.2.toNat wl).rows).getD i3 wl;let q3:=q1.getD i5 wl;r0 1 [] [] (cn (decide ((i5:Int)<((q1.length:Nat):Int))) (fe v5 i3 (fe q1 i5 (fe v5 (q3.toNat) (.reg 2 [] [] [] [] [decide q2] [ix i5 (q1.length),ix i3 x0.people.length,gt (decide q2) (ix q3 x0.people.length),gt (decide q2) (iR (v2.2 - 1))] [] [0,4,1,1,8,1,1,12,1,1,1] (cn ((decide q2)&&(decide ((v5.getD (q3.toNat) wl)=(v2.2 - 1)))) (.reg 1 [] [(4,stC 20009 (cInt .i64) x0.people.length v5 i3 v2.2)] [] [] [] [ix i3 x0.people.length] [] [0,4] (r1 1 [] [] [iR ((i5:Int)+1)] [0] (.next 0 [(20009,some 20009)] (zsk x0 (i5+1) (v5.set i3 v2.2))))) (r1 1 [] [] [iR ((i5:Int)+1)] [0] (.next 0 [(20009,some 20009)] (zsk x0 (i5+1) v5)))))))) (r1 1 [] [] [iR (v4.2+1)] [0] (.next 1 [(30009,some 20009)] (zxj x0 (v5,v4.2+1)))))
abbrev A183b4(x0:yj)(a2:(List ym))(v2:(List Int)×Int)(i3:Nat)(v4:(List Int)×Int):Ann:=let q1:=(a2.getD v4.2.toNat wl).rows;r0 1 [] [] (cn (decide (v4.2≤8)) (fe a2 v4.2.toNat (fe q1 i3 (r1 1 [1,3,6,7,8,9,11,12,13,51,52,68,69,70] [3,6,1029,30009] [ix v4.2 9,pf ((v4.2:Int)<((9:Nat):Int)),ix i3 (q1.length)] [0,4,8] (lI ((q1.getD i3 wl).length) (fun i (v:(List Int))=>v.length=x0.people.length∧Al (fun (v:Int)=>-1≤v∧v≤8) v) (zsk x0) [] [30009] [(20009,some 30009)] (zsk x0 0 v4.1) (A183b5 x0 a2 v2 i3 v4))))) (r1 1 [] [] [iR ((i3:Int)+1)] [0] (.next 1 [(20009,some 30009)] (zxk x0 (i3+1) v4.1))))
abbrev A183b3(x0:yj)(a2:(List ym))(v2:(List Int)×Int)(i3:Nat)(v3:(List Int)):Ann:=r0 1 [] [] (cn (decide ((i3:Int)<(x0.people.length:Int))) (r0 2 [1,3,6,7,8,9,11,12,13,51,52] [3,6,1029,20009] (lM (fun (v:(List Int)×Int)=>(v.1.length=x0.people.length∧Al (fun (v:Int)=>-1≤v∧v≤8) v.1)∧1≤v.2∧v.2≤9) (fun v=>((9:Int) - v.2).toNat) (zxj x0) [] [20009] [(30009,some 20009)] (zxj x0 (v3,1)) (A183b4 x0 a2 v2 i3))) (r1 1 [] [] [iR (v2.2+1)] [0] (.next 1 [(30009,some 20009)] (zxl x0 (v3,v2.2+1)))))
def zsj(x0:yj)(x1:Int)(v6:(List Bool)×Int×(List ya)×(List Int)):Dl:=⟨[(17,.own 20017),(18,.int .i64 v6.2.1),(9,.own 20009)],[(20017,.arr 1 v6.1.length (rowOf (cBool) v6.1)),(31601,.arr 2 v6.2.2.1.length (rowOf (cStep true) v6.2.2.1)),(20009,.arr 1 v6.2.2.2.length (rowOf (cInt .i64) v6.2.2.2)),(16,.var [.int .i64 ((x0.people.getD x1.toNat wl).sex),.own 31601])]⟩
def zxi(v7:Int):Dl:=⟨[(19,.int .i64 v7)],[]⟩
abbrev A183b7(x0:yj)(x1:Int)(a2:(List ym))(v6:(List Bool)×Int×(List ya)×(List Int))(v7:Int):Ann:=let q1:=ya.mk v7 0;r0 1 [] [] (cn (decide (v7≤8)) (ec (y255 130 [1029,20017] a2 v6.1 v7) fun a3 c3=>ec (y256 a3 v6.2.2.2 v6.2.1) fun a4 c4=>.reg 2 [] [(3,c3),(1003,c4)] [] [] [] [] [] [0,4] (cn a4 (.reg 2 [] [(4,bsC 139 (cStep true) ([q1]:List ya)),(5,ap1 140 (cStep true) 16 v6.2.2.1 q1)] [] [] [] [] [] [0,4] (r1 1 [] [] [iR (v6.2.1 - 1)] [0] (.next 1 [(20017,some 1130),(31601,some 140),(20009,some 20009)] (zsj x0 x1 (a3,v6.2.1 - 1,(v6.2.2.1++[q1]),v6.2.2.2))))) (r1 1 [] [] [iR (v7+1)] [0] (.next 0 [] (zxi (v7+1)))))) (r1 1 [] [] [iR (v6.2.1 - 1)] [0] (.next 1 [(20017,some 20017),(31601,some 31601),(20009,some 20009)] (zsj x0 x1 (v6.1,v6.2.1 - 1,v6.2.2.1,v6.2.2.2)))))
abbrev A183b6(x0:yj)(x1:Int)(a2:(List ym))(v6:(List Bool)×Int×(List ya)×(List Int)):Ann:=r0 1 [] [] (cn (decide (0≤v6.2.1)) (r0 1 [6,7,8,9,16,17,18,19] [6,16,1029,20009,20017,31601] (lM (fun (v:Int)=>1≤v∧v≤9) (fun v=>((9:Int) - v).toNat) (zxi) [] [] [] (zxi 1) (A183b7 x0 x1 a2 v6))) (r0 1 [] [] (rt [(0,some 31601)] (C144 ((yb.mk ((x0.people.getD x1.toNat wl).sex) v6.2.2.1),true)))))
abbrev A183b2(x0:yj)(x1:Int)(a2:(List ym))(v2:(List Int)×Int):Ann:=let q3:=rowOf (cInt .i64) v2.1;let q2:=v2.1.getD x1.toNat wl;let q1:=((yw x0.people.length (wl:Bool)).set x1.toNat true);r0 1 [] [] (cn (decide (v2.2≤8)) (r0 1 [1,3,6,7,8,9,11,51,52] [3,6,1029,30009] (lI x0.people.length (fun i (v:(List Int))=>v.length=x0.people.length∧Al (fun (v:Int)=>-1≤v∧v≤8) v) (zxk x0) [] [30009] [(20009,some 30009)] (zxk x0 0 v2.1) (A183b3 x0 a2 v2))) (fe v2.1 x1.toNat (r1 1 [] [] [ix x1 x0.people.length] [0] (cn (decide (q2<0)) (r0 1 [] [] (rt [(0,none)] (C144 ((yb.mk 0 ([]:List ya)),false)))) (.reg 3 [] [(1003,msC 110 (cBool) 1 (x0.people.length:Int) (x0.people.length:Int) x0.people.length (wl:Bool) (rfl)),(2003,stC 110 (cBool) x0.people.length (yw x0.people.length (wl:Bool)) x1.toNat true)] [] [] [] [ix x1 x0.people.length] [] [0,4,0,8] (r1 1 [6,7,8,9,16,17,18] [6,16,110,1029,30009] [ix x1 x0.people.length,iR (q2 - 1)] [0,4] (.co false 110 (q1.length) (rowOf (cBool) q1) [lnP (rowOf (cBool) q1) x0.people.length (q1.length)] [] 0 (.co false 30009 v2.1.length q3 [lnP q3 x0.people.length v2.1.length] [] 0 (lM (fun (v:(List Bool)×Int×(List ya)×(List Int))=>(-1≤v.2.1∧v.2.1≤7∧v.2.2.1.length+v.2.1≤7)∧v.1.length=x0.people.length∧v.2.2.2.length=x0.people.length) (fun v=>(v.2.1+1).toNat) (zsj x0 x1) [] [110,30009] [(20017,some 110),(31601,none),(20009,some 30009)] (zsj x0 x1 (q1,q2 - 1,([]:List ya),v2.1)) (A183b6 x0 x1 a2))))))))))
abbrev A183b1(x0:yj)(x1:Int)(x2:Int)(a2:(List ym))(i1:Nat)(v1:(List Int)):Ann:=r0 1 [] [] (cn (decide ((i1:Int)<(x0.people.length:Int))) (r0 1 [] [] (.reg 1 [] [(3,stC 20009 (cInt .i64) x0.people.length v1 i1 (-1))] [] [] [] [ix i1 x0.people.length] [] [0,4] (r1 1 [] [] [iR ((i1:Int)+1)] [0] (.next 0 [(20009,some 20009)] (zxm x0 (i1+1) (v1.set i1 (-1))))))) (.reg 1 [] [(3,stC 20009 (cInt .i64) x0.people.length v1 x2.toNat 0)] [] [] [] [ix x2 x0.people.length] [] [0,4] (r0 1 [1,3,6,7,8,9,11] [3,6,1029,20009] (lM (fun (v:(List Int)×Int)=>(v.1.length=x0.people.length∧Al (fun (v:Int)=>-1≤v∧v≤8) v.1)∧1≤v.2∧v.2≤9) (fun v=>((9:Int) - v.2).toNat) (zxl x0) [] [20009] [(30009,some 20009)] (zxl x0 ((v1.set x2.toNat 0),1)) (A183b2 x0 x1 a2)))))
instance (x0:yj) (x1:Int) (x2:Int):Ct (y183 x0 x1 x2) (Fam x0) (fun r=>r.2=true→r.1.steps.length≤8):=Ct.of 144 Tryz.func183 (r0 1 [] [] (eb (y128 x0 [x1,x2]) fun a1 c1=>.reg 1 [] [(3,bsC 24 (cInt .i64) ([x1,x2]:List Int)),(4,c1)] [] [] [] [] [] [0,4] (cn (!a1) (r0 1 [] [] (rt [(0,none)] (C144 ((yb.mk 0 ([]:List ya)),false)))) (ec (y185 29 [] x0) fun a2 c2=>.reg 2 [] [(1,c2),(1003,msC 33 (cInt .i64) 8 (x0.people.length:Int) (x0.people.length:Int) x0.people.length (wl:Int) (rfl))] [] [] [] [] [] [0,4] (r0 1 [1,2,3,6,7,8,9,35,36] [3,6,33,1029] (lI x0.people.length (fun i (v:(List Int))=>v.length=x0.people.length∧Al (fun (v:Int)=>-1≤v∧v≤8) v) (zxm x0) [] [33] [(20009,some 33)] (zxm x0 0 (yw x0.people.length (wl:Int))) (A183b1 x0 x1 x2 a2))))))) (fun h=>by have m1:=@wk_of;exact xk) (fun r=>(by simp[C144,Frs,FrsL,FrsB,rowOf,cInt,cBool,cStr,cSl,zar,cStep,zag,cRule,zam,zah,zab,zac,zaf,cLaw,zay,zbd,zap,za0,zb2,zal,cDyad]))
def gcI(a b:Int):Int:=((yU a.toNat b.toNat:Nat):Int)
theorem z1v{a b:Int}(ha:0≤a)(hb:0≤b)(h0:¬b=0):gcI b (a.tmod b)=gcI a b:=by obtain⟨c,rfl⟩:=Yn ha;obtain⟨d,rfl⟩:=Yn hb;have e:(c:Int).tmod (d:Int)=((c % d:Nat):Int):=(by rw[yD vbX];rfl);unfold gcI;rw[e];simp only[yZ];rw[Nat.gcd_comm c d,Nat.gcd_rec d c,Nat.gcd_comm]
theorem z1u{a:Int}(ha:0≤a):gcI a 0=a:=by obtain⟨c,rfl⟩:=Yn ha;simp[gcI]
theorem gc_one{b:Int}:gcI 1 b=1:=by simp[gcI]
theorem gc_pos{a b:Int}(hb:0<b):0<gcI a b∧gcI a b≤b:=by unfold gcI;have h1:0<b.toNat:=vbX;have:=YY a.toNat h1;have:=Nat.gcd_le_right a.toNat h1;omega
theorem zwc{D S u den : Nat}(hD : 0 < D)(hd : 0 < den)(hu : u * den = D) : ((S / yU S D) * den + D / yU S D) / yU ((S / yU S D) * den + D / yU S D) ((D / yU S D) * den) = (S + u) / yU (S + u) D ∧ ((D / yU S D) * den) / yU ((S / yU S D) * den + D / yU S D) ((D / yU S D) * den) = D / yU (S + u) D ∧ (S + u ≤ D → (S / yU S D) * den + D / yU S D ≤ (D / yU S D) * den) := by
 have hg:0<yU S D:=YY _ hD;have h1:S / yU S D * yU S D=S:=wj (Nat.gcd_dvd_left S D);have h2:D / yU S D * yU S D=D:=wj (Nat.gcd_dvd_right S D);revert h1 h2 hg;generalize S / yU S D=s;generalize D / yU S D=d;generalize yU S D=g;intro hg h1 h2;have e1:(s * den+d) * g=(S+u) * den:=by rw[Ys,Ys,hu,h2,Nat.mul_right_comm,h1]
 have e2:(d * den) * g=D * den:=by rw[Nat.mul_right_comm,h2]
 have e3:yU (s * den+d) (d * den) * g=yU (S+u) D * den:=by rw[←Nat.gcd_mul_right,e1,e2,Nat.gcd_mul_right]
 refine⟨?_,?_,fun h=>?_⟩
 ·rw [← Y8 _ _ hg, e1, e3, Y8 _ _ hd]
 ·rw [← Y8 _ _ hg, e2, e3, Y8 _ _ hd]
 have:(s * den+d) * g≤(d * den) * g:=by rw[e1,e2];exact oU _ h
 exact Nat.le_of_mul_le_mul_right this hg
structure RepS(D : Nat)(S : List Nat)(num den : List Int) : Prop where
  pos:0<D
  ln:num.length=S.length
  ld:den.length=S.length
  nm:∀k:Nat,k<S.length→num.getD k wl=((S.getD k 0 / yU (S.getD k 0) D:Nat):Int)
  dn:∀k:Nat,k<S.length→den.getD k wl=((D / yU (S.getD k 0) D:Nat):Int)
theorem RepS.add{D : Nat}{S : List Nat}{num den : List Int}(h : RepS D S num den){k u d : Nat}(hk : k < S.length)(hd : 0 < d)(hu : u * d = D) : RepS D (S.set k (S.getD k 0 + u)) (num.set k (((num.getD k wl) * (d : Int) + 1 * (den.getD k wl)).tdiv (gcI ((num.getD k wl) * (d : Int) + 1 * (den.getD k wl)) ((den.getD k wl) * (d : Int))))) (den.set k (((den.getD k wl) * (d : Int)).tdiv (gcI ((num.getD k wl) * (d : Int) + 1 * (den.getD k wl)) ((den.getD k wl) * (d : Int))))) := by
 have e1:=h.nm k hk;have e2:=h.dn k hk;have hr:=zwc (S:=S.getD k 0) h.pos hd hu;rw[e1,e2];have a1:((S.getD k 0 / yU (S.getD k 0) D:Nat):Int) * (d:Int)+1 * ((D / yU (S.getD k 0) D:Nat):Int)=(((S.getD k 0 / yU (S.getD k 0) D) * d+D / yU (S.getD k 0) D:Nat):Int):=by rw[Int.one_mul];simp only[Int.natCast_add,wg]
 have a2:((D / yU (S.getD k 0) D:Nat):Int) * (d:Int)=(((D / yU (S.getD k 0) D) * d:Nat):Int):=by rw[wg]
 unfold gcI;rw[a1,a2,yZ,yZ,←Int.ofNat_tdiv,←Int.ofNat_tdiv,hr.1,hr.2.1];refine⟨h.pos,by simp[h.ln],by simp[h.ld],fun j hj=>?_,fun j hj=>?_⟩
 ·rw [YF] at hj;have hj2 : j < num.length := by rw [h.ln]; exact hj
  rw[zdj,zdj];by_cases e:j=k
  ·subst e; rw [if_pos ⟨rfl, hj2⟩, if_pos ⟨rfl, hj⟩]
  rw[if_neg (fun x=>e x.1),if_neg (fun x=>e x.1)];exact h.nm j hj
 rw[YF] at hj;have hj2:j<den.length:=by rw[h.ld];exact hj
 rw[zdj,zdj];by_cases e:j=k
 ·subst e; rw [if_pos ⟨rfl, hj2⟩, if_pos ⟨rfl, hj⟩]
 rw[if_neg (fun x=>e x.1),if_neg (fun x=>e x.1)];exact h.dn j hj
theorem zt8 : ∀(S : List Nat) (k v : Nat), k < S.length → (S.set k (S.getD k 0 + v)).sum = S.sum + v
  |[],k,v,h=>absurd h (oO _)
  |a :: S,0,v,h=>by simp;omega
  |a :: S, k + 1, v, h => by
    have:=zt8 S k v vbK
    simp only[List.set_cons_succ,YP,List.sum_cons]
    omega
theorem RepS.bd{D:Nat}{S:List Nat}{num den:List Int}(h:RepS D S num den){k:Nat}(hk:k<S.length):(0≤num.getD k wl∧num.getD k wl≤S.getD k 0)∧1≤den.getD k wl∧den.getD k wl≤D:=by rw[h.nm k hk,h.dn k hk];have hg:0<yU (S.getD k 0) D:=YY _ h.pos;have h1:=Nat.div_le_self (S.getD k 0) (yU (S.getD k 0) D);have h2:=Nat.div_le_self D (yU (S.getD k 0) D);have h3:0<D / yU (S.getD k 0) D:=Nat.div_pos (Nat.le_of_dvd h.pos (Nat.gcd_dvd_right _ _)) hg;revert h1 h2 h3;generalize S.getD k 0 / yU (S.getD k 0) D=a;generalize D / yU (S.getD k 0) D=b;omega
theorem RepS.rng{D:Nat}{S:List Nat}{num den:List Int}(h:RepS D S num den){k u d:Nat}(hk:k<S.length)(hd:0<d)(hu:u * d=D)(hs:S.getD k 0+u≤D)(hb:d * D≤9223372036854775807):(0≤(num.getD k wl) * (d:Int)∧(num.getD k wl) * (d:Int)≤9223372036854775807)∧(0≤den.getD k wl∧den.getD k wl≤9223372036854775807)∧(0≤(num.getD k wl) * (d:Int)+1 * (den.getD k wl)∧(num.getD k wl) * (d:Int)+1 * (den.getD k wl)≤9223372036854775807)∧(0<(den.getD k wl) * (d:Int)∧(den.getD k wl) * (d:Int)≤9223372036854775807):=by have hg:0<yU (S.getD k 0) D:=YY _ h.pos;have h2:=Nat.div_le_self D (yU (S.getD k 0) D);have h3:0<D / yU (S.getD k 0) D:=Nat.div_pos (Nat.le_of_dvd h.pos (Nat.gcd_dvd_right _ _)) hg;have h4:=(zwc (S:=S.getD k 0) h.pos hd hu).2.2 hs;have h5:D / yU (S.getD k 0) D * d≤d * D:=(by rw[Nat.mul_comm d D];exact oU _ h2);have h6:0<D / yU (S.getD k 0) D * d:=Nat.mul_pos h3 hd;rw[h.nm k hk,h.dn k hk,Int.one_mul];revert h4 h5 h6 h3 h2;generalize D / yU (S.getD k 0) D=a;generalize S.getD k 0 / yU (S.getD k 0) D=b;intro h2 h3 h4 h5 h6;have h7:a≤a * d:=Nat.le_mul_of_pos_right a hd;rw[←wg,←wg];generalize a * d=e at *;generalize b * d=g at *;omega
def y180P(x0:yj)(x1:Int):(List Int)→Cl:=cK Tryz.prog 180 [.agg (zaf false x0),.int .i64 x1] C68
noncomputable def kidsF(x0:yj)(x1:Int):(List Int):=pk fun r:(List Int)=>(Al (fun (c:Int)=>x1<c∧c<x0.people.length) r∧r.length≤13∧r.length≤kc x0 x1 x0.people.length)∧(y180 x0 x1 r).2.Q
theorem zm3{x0:yj}{x1:Int}(h:(Fam x0)∧(x0.people.length≤14)∧(0≤x1)):(fun r:(List Int)=>(Al (fun (c:Int)=>x1<c∧c<x0.people.length) r∧r.length≤13∧r.length≤kc x0 x1 x0.people.length)∧(y180 x0 x1 r).2.Q) (kidsF x0 x1):=pk_ok ((inferInstance:Ct (y180 x0 x1) _ _).h h)
instance (x0:yj) (x1:Int):Ct (y180P x0 x1) ((Fam x0)∧(x0.people.length≤14)∧(0≤x1)) (fun r=>r=kidsF x0 x1):=⟨fun h=>⟨_,rfl,(zm3 h).2⟩⟩
def sN(w : Nat → Nat) : Nat → Nat
  |0=>0
  |n+1=>sN w n+w n
def pN(w : Nat → Nat) : Nat → Nat
  |0=>1
  |n+1=>pN w n * max 1 (w n)
theorem sN_le{f g : Nat → Nat} : ∀n : Nat, (∀i, i < n → f i ≤ g i) → sN f n ≤ sN g n
  |0,_=>ou _
  |n+1,h=>Nat.add_le_add (sN_le n fun i hi=>h i vbX) (h n vbX)
theorem zuf(f g : Nat → Nat) : ∀n : Nat, sN (fun i => f i + g i) n = sN f n + sN g n
  |0=>rfl
  |n+1=>by simp only[sN,zuf f g n];omega
theorem zue(a : Int) : ∀n : Nat, sN (fun v => (decide (a = ((v : Nat) : Int))).toNat) n ≤ (decide (0 ≤ a ∧ a < (n : Int))).toNat
  |0=>yS _
  |n + 1 => by
    have ih:=zue a n
    simp only[sN]
    by_cases h:a=((n:Nat):Int)
    · rw [oH vbX] at ih
      rw[oK h,oK vbX]
      simpa using ih
    · rw [oH h,Bool.toNat_false,Nat.add_zero]
      refine yM ih ?_
      by_cases h2:0≤a∧a<(n:Int)
      · rw [oK h2,oK vbX];exact ou _
      · rw [oH h2];exact yS _
theorem z0e(w : Nat → Nat) : ∀n : Nat, 0 < pN w n
  |0=>Nat.one_pos
  |n+1=>Nat.mul_pos (z0e w n) vbX
theorem z0f(w : Nat → Nat){a b : Nat}(h : a ≤ b) : pN w a ∣ pN w b := by
 induction h with
 |refl =>exact Nat.dvd_refl _
 |step _ ih =>exact Nat.dvd_trans ih (Nat.dvd_mul_right _ _)
theorem pN_le(w : Nat → Nat) : ∀n : Nat, pN w n ≤ 2 ^ sN w n
  |0=>ou _
  |n + 1 => by
    simp only[pN,sN,Nat.pow_add]
    refine Nat.mul_le_mul (pN_le w n) ?_
    have:=Nat.lt_two_pow_self (n:=w n)
    omega
theorem z0p{f : yj}(h : Fam f)(n : Nat)(h0 : 0 < f.people.length) : ∀m : Nat, sN (fun p => kc f ((p : Nat) : Int) (m + 1)) n ≤ 2 * m
  |0 => by
    have : sN (fun p => kc f ((p : Nat) : Int) 1) n ≤ sN (fun _ => 0) n := sN_le n fun i _ => by
      have hk : isKb f ((i : Nat) : Int) ((0 : Nat) : Int) = false := by
        cases c:isKb f ((i:Nat):Int) ((0:Nat):Int) with
        |false=>rfl
        |true=>have:=zri h (c:=((0:Nat):Int)) vbX c;omega
      simp only[kc,hk];decide
    have e : ∀n : Nat, sN (fun _ => 0) n = 0 := fun n => by
      induction n with
      |zero=>rfl
      |succ n ih=>simp only[sN,ih]
    rw[e] at this;omega
  |m + 1 => by
    have ih:=z0p h n h0 m
    have e : sN (fun p => kc f ((p : Nat) : Int) (m + 1 + 1)) n = sN (fun p => kc f ((p : Nat) : Int) (m + 1)) n + sN (fun p => (isKb f ((p : Nat) : Int) ((m + 1 : Nat) : Int)).toNat) n := by
      rw[←zuf];rfl
    have h1:=zue (f.people.getD (m+1) wl).father n
    have h2:=zue (f.people.getD (m+1) wl).mother n
    have h3 : sN (fun p => (isKb f ((p : Nat) : Int) ((m + 1 : Nat) : Int)).toNat) n ≤ sN (fun p => (decide ((f.people.getD (m + 1) wl).father = ((p : Nat) : Int))).toNat + (decide ((f.people.getD (m + 1) wl).mother = ((p : Nat) : Int))).toNat) n := sN_le n fun i _ => by
      unfold isKb
      rw[show(((m+1:Nat):Int)).toNat=m+1 by omega]
      cases decide ((f.people.getD (m+1) wl).father=((i:Nat):Int))<;>cases decide ((f.people.getD (m+1) wl).mother=((i:Nat):Int))<;>decide
    rw[zuf] at h3
    have h4:∀b:Bool,b.toNat≤1:=fun b=>by cases b<;>decide
    have h5:=h4 (decide (0≤(f.people.getD (m+1) wl).father∧(f.people.getD (m+1) wl).father<(n:Int)))
    have h6:=h4 (decide (0≤(f.people.getD (m+1) wl).mother∧(f.people.getD (m+1) wl).mother<(n:Int)))
    omega
noncomputable def wt(f:yj)(tk:List Bool)(q:Nat):Nat:=((kidsF f ((q:Nat):Int)).filter fun c=>tk.getD c.toNat wl).length
noncomputable def Dw(f:yj)(tk:List Bool)(w0:Nat):Nat:=w0 * pN (wt f tk) f.people.length
theorem dw_bd{f:yj}(h:Fam f)(h14:f.people.length≤14)(h0:0<f.people.length){tk:List Bool}{w0:Nat}(hw:1≤w0∧w0≤14):0<Dw f tk w0∧Dw f tk w0≤939524096:=by have h1:sN (wt f tk) f.people.length≤26:=(by have a:=z0p h f.people.length h0 (f.people.length - 1);rw[show f.people.length - 1+1=f.people.length by omega] at a;have b:sN (wt f tk) f.people.length≤sN (fun p=>kc f ((p:Nat):Int) f.people.length) f.people.length:=sN_le _ fun i _=>(by have c:=(zm3 (x0:=f) (x1:=((i:Nat):Int)) ⟨h,h14,vbX⟩).1.2.2;exact yM (List.length_filter_le _ _) c);omega);have h2:=pN_le (wt f tk) f.people.length;have h3:2 ^ sN (wt f tk) f.people.length≤2 ^ 26:=Nat.pow_le_pow_right vbW h1;have h4:=z0e (wt f tk) f.people.length;have h5:(2:Nat) ^ 26=67108864:=vbW;unfold Dw;refine⟨Nat.mul_pos vbX h4,?_⟩;exact yM (Nat.mul_le_mul hw.2 (show pN (wt f tk) f.people.length≤67108864 by omega)) vbW
def ES(f:yj)(tk:List Bool)(w0 s:Nat)(num den:List Int):Prop:=∃S:List Nat,RepS (Dw f tk w0) S num den∧S.length=f.people.length∧S.sum≤s
theorem zg2 : ∀(S : List Nat) (k : Nat), S.getD k 0 ≤ S.sum
  |[],k=>by simp
  |a :: S,0=>by simp
  |a :: S,k+1=>by have:=zg2 S k;simp only[YP,List.sum_cons];omega
theorem gc_st{a b g:Int}(h:gcI a b=g)(ha:(0≤a∧0≤b)∧¬b=0):gcI b (a.tmod b)=g:=by rw[←h,z1v ha.1.1 ha.1.2 ha.2]
theorem gc_fin{a b g:Int}(h:gcI a b=g)(ha:0≤a∧b=0):a=g:=by rw[←h,ha.2,z1u ha.1]
theorem tm_l{a b:Int}(h:(0≤a∧0≤b)∧¬b=0):0≤a.tmod b:=by rw[yD h.1.1];exact Int.emod_nonneg _ h.2
theorem tm_b{a b:Int}(h:(0≤a∧0≤b)∧¬b=0):a.tmod b<b:=by rw[yD h.1.1];exact Int.emod_lt_of_pos _ vbX
theorem tm_m{a b:Int}(h:(0≤a∧0≤b)∧¬b=0):-9223372036854775808≤a.tmod b:=by have:=tm_l h;omega
theorem tm_h{a b:Int}(h:(0≤a∧0≤b)∧¬b=0)(hb:b≤9223372036854775807):a.tmod b≤9223372036854775807:=by have:=tm_b h;omega
theorem tm_lt{a b:Int}(h:(0≤a∧0≤b)∧¬b=0):(a.tmod b).toNat<b.toNat:=by have:=tm_b h;have:=tm_l h;omega
theorem z1z{α:Type}[Inhabited α]{p:α→Bool}{l o:List α}{i:Nat}(h:o=(l.take i).filter p)(hi:i<l.length)(hp:p (l.getD i wl)=true):o++[l.getD i wl]=(l.take (i+1)).filter p:=by rw[h,YX hi,List.filter_append];have e:l.getD i wl=l[i]:=(by rw[oh,oj hi];rfl);rw[e] at hp ⊢;simp[hp]
theorem z10{α:Type}[Inhabited α]{p:α→Bool}{l o:List α}{i:Nat}(h:o=(l.take i).filter p)(hi:i<l.length)(hp:p (l.getD i wl)=false):o=(l.take (i+1)).filter p:=by rw[h,YX hi,List.filter_append];have e:l.getD i wl=l[i]:=(by rw[oh,oj hi];rfl);rw[e] at hp;simp[hp]
theorem fl_end{α β:Type}{p:α→Bool}{l o:List α}{i:Nat}{t:β}(h:o=(l.take i).filter p)(hi:l.length≤i):(o,t)=(l.filter p,t):=by rw[h,List.take_of_length_le hi]
def y253(x0:Int)(x1:Int):Int→Cl:=cK Tryz.prog 253 [.int .i64 x0,.int .i64 x1] C149
def zwv(v1:Int×Int):Dl:=⟨[(0,.int .i64 v1.1),(1,.int .i64 v1.2)],[]⟩
abbrev A253b1(v1:Int×Int):Ann:=r0 1 [] [] (cn (!decide (v1.2=0)) (r1 1 [] [] [pf ((v1.2:Int)≠0)] [0] (.next 0 [] (zwv (v1.2,v1.1.tmod v1.2)))) (r0 1 [] [] (rt [] (C149 v1.1))))
instance (x0:Int) (x1:Int):Ct (y253 x0 x1) ((0≤x0∧x0≤9223372036854775807)∧(0≤x1∧x1≤9223372036854775807)) (fun r=>r=gcI x0 x1):=Ct.of 12 Tryz.func253 (r0 1 [0,1,4] [] (lM (fun (v:Int×Int)=>((0≤v.1∧v.1≤9223372036854775807)∧0≤v.2∧v.2≤9223372036854775807)∧gcI v.1 v.2=gcI x0 x1) (fun v=>(v.2).toNat) (zwv) [] [] [] (zwv (x0,x1)) (A253b1))) (fun h=>by have m1:=@gc_fin;have m2:=@gc_st;have e1:=@tm_l;have e2:=@tm_m;have e3:=@tm_h;have e4:=@tm_lt;exact xk)
structure estate where
  f:yj
  p:Int
  year:Int
  takes:List Bool
  num:List Int
  den:List Int
  deriving Inhabited
def zg3(fr:Bool)(x:estate):List LV:=zaf fr x.f++cInt .i64 x.p++cInt .i64 x.year++cSl fr 1 (cBool) x.takes++cSl fr 1 (cInt .i64) x.num++cSl fr 1 (cInt .i64) x.den

def C179(x0:estate)(x1:List Int)(R:(List Int)×(List Bool)×(List Int)×(List Int)):LV×List (Nat×BC):=(.own 0,[(900000,.var [.ro false 6 x0.f.people.length (rowOf (zab false) x0.f.people),.ro false 4 x0.f.unions.length (rowOf (zac false) x0.f.unions),.int .i64 x0.p,.int .i64 x0.year,.own 1,.own 2,.own 3]),(900004,.arr 1 x1.length (rowOf (cInt .i64) x1)),(0,.arr 1 R.1.length (rowOf (cInt .i64) R.1)),(1,.arr 1 R.2.1.length (rowOf (cBool) R.2.1)),(2,.arr 1 R.2.2.1.length (rowOf (cInt .i64) R.2.2.1)),(3,.arr 1 R.2.2.2.length (rowOf (cInt .i64) R.2.2.2))])
def y179(d:Nat)(ids:List Nat)(x0:estate)(x1:List Int):((List Int)×(List Bool)×(List Int)×(List Int))→Cl:=cM Tryz.prog 179 [.vp 900000 0,.own 900004] [.var [.ro false 6 x0.f.people.length (rowOf (zab false) x0.f.people),.ro false 4 x0.f.unions.length (rowOf (zac false) x0.f.unions),.int .i64 x0.p,.int .i64 x0.year,.own 900001,.own 900002,.own 900003],.arr 1 x0.takes.length (rowOf (cBool) x0.takes),.arr 1 x0.num.length (rowOf (cInt .i64) x0.num),.arr 1 x0.den.length (rowOf (cInt .i64) x0.den),.arr 1 x1.length (rowOf (cInt .i64) x1)] (C179 x0 x1) d ids
def zsl(i1:Nat)(v1:(List Int)):Dl:=⟨[(10,.int .i64 (i1:Int)),(5,.own 20005)],[(20005,.arr 1 v1.length (rowOf (cInt .i64) v1))]⟩
abbrev A179b1(x0:estate)(x1:List Int)(i1:Nat)(v1:(List Int)):Ann:=let q1:=x1.getD i1 wl;r0 1 [] [] (cn (decide ((i1:Int)<(x1.length:Int))) (fe x1 i1 (fe x0.takes (q1.toNat) (r1 2 [] [] [ix i1 x1.length,ix q1 x0.takes.length] [0,4] (cn (x0.takes.getD (q1.toNat) wl) (.reg 1 [] [(2,bsC 23 (cInt .i64) ([q1]:List Int)),(3,ap1 24 (cInt .i64) 8 v1 q1)] [] [] [] [] [] [0,4] (r1 1 [] [] [iR ((i1:Int)+1)] [0] (.next 0 [(20005,some 24)] (zsl (i1+1) (v1++[q1]))))) (r1 1 [] [] [iR ((i1:Int)+1)] [0] (.next 0 [(20005,some 20005)] (zsl (i1+1) v1))))))) (r0 1 [] [] (rt [(900000,some 900000),(900004,some 900004),(0,some 20005),(1,some 900001),(2,some 900002),(3,some 900003)] (C179 x0 x1 (v1,x0.takes,x0.num,x0.den)))))
instance (d:Nat) (ids:List Nat) (x0:estate) (x1:List Int):Ct (y179 d ids x0 x1) ((x1.length≤100)∧(Al (fun (c:Int)=>0≤c∧c<x0.f.people.length) x1)∧(x0.takes.length=x0.f.people.length)) (fun r=>r=(x1.filter (fun c=>x0.takes.getD c.toNat wl),x0.takes,x0.num,x0.den)):=Ct.ofM 27 Tryz.func179 (r0 2 [] [] (r0 1 [0,4,5,8,9,10] [900000,900001,900002,900003,900004] (lI x1.length (fun i (v:(List Int))=>v.length≤i∧v=(x1.take i).filter (fun c=>x0.takes.getD c.toNat wl)) (zsl) [] [] [(20005,none)] (zsl 0 ([]:List Int)) (A179b1 x0 x1)))) (fun h=>by have e1:=@z1z;have e2:=@z10;have e3:=@fl_end;exact xk)
def C178(x0:estate)(R:(List Bool)×(List Int)×(List Int)):LV×List (Nat×BC):=(.tup [],[(900000,.var [.ro false 6 x0.f.people.length (rowOf (zab false) x0.f.people),.ro false 4 x0.f.unions.length (rowOf (zac false) x0.f.unions),.int .i64 x0.p,.int .i64 x0.year,.own 0,.own 1,.own 2]),(0,.arr 1 R.1.length (rowOf (cBool) R.1)),(1,.arr 1 R.2.1.length (rowOf (cInt .i64) R.2.1)),(2,.arr 1 R.2.2.length (rowOf (cInt .i64) R.2.2))])
def y178(d:Nat)(ids:List Nat)(x0:estate):((List Bool)×(List Int)×(List Int))→Cl:=cM Tryz.prog 178 [.vp 900000 0] [.var [.ro false 6 x0.f.people.length (rowOf (zab false) x0.f.people),.ro false 4 x0.f.unions.length (rowOf (zac false) x0.f.unions),.int .i64 x0.p,.int .i64 x0.year,.own 900001,.own 900002,.own 900003],.arr 1 x0.takes.length (rowOf (cBool) x0.takes),.arr 1 x0.num.length (rowOf (cInt .i64) x0.num),.arr 1 x0.den.length (rowOf (cInt .i64) x0.den)] (C178 x0) d ids
def zsm(x0:estate)(v1:Int×(List Bool)):Dl:=⟨[(3,.int .i64 v1.1)],[(30004,.arr 1 x0.f.people.length (rowOf (cBool) v1.2)),(900000,.var [.ro false 6 x0.f.people.length (rowOf (zab false) x0.f.people),.ro false 4 x0.f.unions.length (rowOf (zac false) x0.f.unions),.int .i64 x0.p,.int .i64 x0.year,.own 30004,.own 900002,.own 900003])]⟩
def zxo(x0:estate)(i2:Nat)(v2:(List Bool)):Dl:=⟨[(68,.int .i64 (i2:Int))],[(40004,.arr 1 x0.f.people.length (rowOf (cBool) v2)),(900000,.var [.ro false 6 x0.f.people.length (rowOf (zab false) x0.f.people),.ro false 4 x0.f.unions.length (rowOf (zac false) x0.f.unions),.int .i64 x0.p,.int .i64 x0.year,.own 40004,.own 900002,.own 900003])]⟩
abbrev A178b2(x0:estate)(v1:Int×(List Bool))(a2:(List Int))(i2:Nat)(v2:(List Bool)):Ann:=let q2:=a2.getD i2 wl;let q1:=v2.getD v1.1.toNat wl;let q3:=q1||(v2.getD (q2.toNat) wl);r0 1 [] [] (cn (decide ((i2:Int)<(a2.length:Int))) (fe a2 i2 (r1 1 [] [] [ix i2 a2.length] [0] (fe v2 v1.1.toNat (fe v2 (q2.toNat) (.reg 1 [] [(22,stC 40004 (cBool) x0.f.people.length v2 v1.1.toNat q3)] [] [] [!q1,q1] [ix v1.1 x0.f.people.length,gt (!q1) (ix q2 x0.f.people.length)] [] [0,1,1,1,1,1,4,1,6,0,8] (r1 1 [] [] [iR ((i2:Int)+1)] [0] (.next 0 [(40004,some 40004)] (zxo x0 (i2+1) (v2.set v1.1.toNat q3))))))))) (r1 1 [] [] [iR (v1.1 - 1)] [0] (.next 1 [(30004,some 40004)] (zsm x0 (v1.1 - 1,v2)))))
abbrev A178b1(x0:estate)(v1:Int×(List Bool)):Ann:=let q1:=decide (v1.1=x0.p);r0 1 [0,3,20] [30004,900000,900001,900002,900003] (cn (decide (0≤v1.1)) (fe x0.f.people v1.1.toNat (.reg 1 [] [] [] [] [!q1,decide (v1.1=x0.p)] [gt (!q1) (ix v1.1 x0.f.people.length)] [] [1,1,1,1,1,1,0,1,1,1,1,1,1,1,6] (cn (q1||(decide (x0.year<((x0.f.people.getD v1.1.toNat wl).born)))) (r1 1 [] [] [iR (v1.1 - 1)] [0] (.next 0 [(30004,some 30004)] (zsm x0 (v1.1 - 1,v1.2)))) (ec (y250 x0.f v1.1 x0.year) fun a1 c1=>ec (y180 x0.f v1.1) fun a2 c2=>.reg 2 [] [(14,c1),(16,stC 30004 (cBool) x0.f.people.length v1.2 v1.1.toNat a1),(1005,c2)] [0,3,66,67,68] [1066,30004,900000,900001,900002,900003] [] [ix v1.1 x0.f.people.length] [] [4,0,8,12] (lI a2.length (fun i (v:(List Bool))=>v.length=x0.f.people.length) (zxo x0) [] [30004] [(40004,some 30004)] (zxo x0 0 (v1.2.set v1.1.toNat a1)) (A178b2 x0 v1 a2)))))) (.co false 30004 v1.2.length (rowOf (cBool) v1.2) [lnP (rowOf (cBool) v1.2) x0.f.people.length v1.2.length] [] 0 (rt [(900000,some 900000),(0,some 30004),(1,some 900002),(2,some 900003)] (C178 x0 (v1.2,x0.num,x0.den)))))
instance (d:Nat) (ids:List Nat) (x0:estate):Ct (y178 d ids x0) (Fam x0.f∧x0.f.people.length≤14) (fun r=>r.1.length=x0.f.people.length∧r.2.1=x0.num∧r.2.2=x0.den):=Ct.ofM 95 Tryz.func178 (let q1:=(x0.f.people.length:Int);.reg 3 [] [(1002,msC 14 (cBool) 1 q1 q1 x0.f.people.length (wl:Bool) (rfl))] [0,3] [14,900000,900001,900002,900003] [] [iR (q1 - 1)] [] [4,0] (lM (fun (v:Int×(List Bool))=>(-1≤v.1∧v.1<x0.f.people.length)∧v.2.length=x0.f.people.length) (fun v=>(v.1+1).toNat) (zsm x0) [] [14] [(30004,some 14)] (zsm x0 (q1 - 1,(yw x0.f.people.length (wl:Bool)))) (A178b1 x0))) (fun h=>xk)
end Go.Proofs.YtnphfelaffdmkaaGreatDoor
