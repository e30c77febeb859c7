import Derived.Test.YtaageiiodlfeiaaGreatV110
set_option maxHeartbeats 4000000
set_option linter.unusedSimpArgs false
set_option linter.unusedVariables false
namespace Go.Proofs.YtaageiiodlfeiaaGreat
open Go Go.Lite Go.Proofs
structure l01Cur where
 b:List Int
 i:Int
 h:Int
 deriving Inhabited
def zd4 (fr:Bool) (x:l01Cur):List LV:=cSl fr 1 (cInt .u8) x.b++cInt .i64 x.i++cInt .i64 x.h

structure CurOk (c:l01Cur):Prop where
 byte:∀ y∈c.b,0≤y∧y≤255
 len:c.b.length≤1048576
 pos:0≤c.i∧c.i≤c.b.length
 num:inR .i64 c.h
theorem CurOk.mk' {c:l01Cur} (h:CurOk c) {i x:Int} (hi:0≤i∧i≤c.b.length) (hx:inR .i64 x):CurOk ⟨c.b,i,x⟩:=⟨h.byte,h.len,hi,hx⟩
def C34 (x0:List Int) (R:l01Cur):LV×List (Nat×BC):=(.vp 0 0,[(0,.var [.ro false 1 R.b.length (rowOf (cInt .u8) R.b),.int .i64 R.i,.int .i64 R.h])])
def zfy (x0:List Int):l01Cur:=loopW (fun (v1:Int×Int) next=>bif ((decide (v1.2<((x0.length:Nat):Int)))&&(decide (v1.2<4000))) then (next (bits .and .i64 (((v1.1 * 1103)+(x0.getD v1.2.toNat default))+7) 1073741823,v1.2+1)) else (l01Cur.mk x0 0 v1.1)) ((4000 - Int.toNat (0))+1) (3221+((x0.length:Nat):Int),0)
def D34b1 (x0:List Int) (v1:Int×Int):Dl:=⟨[(3,.int .i64 v1.1),(4,.int .i64 v1.2)],[]⟩
def A34b1 (x0:List Int) (v1:Int×Int):Ann:=.reg 1 [] [] [0,2,3,4,15] [] [decide (v1.2<((x0.length:Nat):Int))] [] [] [1,1] (cn ((decide (v1.2<((x0.length:Nat):Int)))&&(decide (v1.2<4000))) (r1 1 [0,2,3,4] [] [pf (inR .i64 (v1.1 * 1103)),pf (0≤(v1.2:Int)∧(v1.2:Int)<((x0.length:Nat):Int)),pf (inR .i64 (x0.getD v1.2.toNat default)),pf (inR .i64 ((v1.1 * 1103)+(x0.getD v1.2.toNat default))),pf (inR .i64 (((v1.1 * 1103)+(x0.getD v1.2.toNat default))+7))] [0,4,8,12,16] (r1 1 [0,2,3,4] [] [pf (inR .i64 (v1.2+1))] [0] (.next 0 [] (D34b1 x0 (bits .and .i64 (((v1.1 * 1103)+(x0.getD v1.2.toNat default))+7) 1073741823,v1.2+1))))) (r0 1 [2] [31] (rt [(0,some 31)] (C34 x0 (l01Cur.mk x0 0 v1.1)))))
def A34 (x0:List Int):Ann:=r1 2 [0,2,3] [] [pf (inR .i64 (3221+((x0.length:Nat):Int)))] [0] (r0 1 [0,2,3,4] [] (.loop (Int×Int) (D34b1 x0) [] [] [] (D34b1 x0 (3221+((x0.length:Nat):Int),0)) (A34b1 x0)))
theorem zoz (x0:List Int) (hx:x0.length≤1048576) (hb:∀ y∈x0,0≤y∧y≤255):FnMT Tryz.prog 34 [.ro false 1 x0.length (rowOf (cInt .u8) x0)] [] (C34 x0 (zfy x0)):=by
 have aux:∀ R,zfy x0=R→slim (C34 x0 R) (A34 x0) []:=by
  intro R hR
  refine rg ⟨by ( intros;simp only [inR];omega),trivial⟩ ?_
  refine rg trivial ?_
  revert hR;refine lW (fun v=>(0≤v.2∧v.2≤x0.length∧v.2≤4000)∧0≤v.1∧v.1≤1073741823) (fun v=>(4000 - Int.toNat (v.2))) za2 (Nat.lt_succ_self _) rfl fun m1 v1 F1 hI1 hM1 hR hK1=>?_
  refine rg trivial ?_
  revert hR;refine cd (fun hc1 hR=>?_) fun hc1 hR=>?_
  ·
    refine rg ⟨by ( intros;simp only [inR];omega),by (have h9:=zhf (((v1.1 * 1103)+(x0.getD v1.2.toNat default))+7) 1073741823 1073741823 rfl om;simp only [Bool.and_eq_true,decide_eq_true_eq] at *;omega),by (have h9:=zew hb v1.2.toNat;(try simp only [inR]);omega),by (have h9:=zew hb v1.2.toNat;(try simp only [inR]);omega),by (have h9:=zew hb v1.2.toNat;(try simp only [inR]);omega),trivial⟩ ?_
    refine rg ⟨by ( intros;simp only [inR];omega),trivial⟩ ?_
    exact hK1 (bits .and .i64 (((v1.1 * 1103)+(x0.getD v1.2.toNat default))+7) 1073741823,v1.2+1) (by (have h9:=zhf (((v1.1 * 1103)+(x0.getD v1.2.toNat default))+7) 1073741823 1073741823 rfl om;simp only [Bool.and_eq_true,decide_eq_true_eq] at *;omega)) (by (have h9:=zhf (((v1.1 * 1103)+(x0.getD v1.2.toNat default))+7) 1073741823 1073741823 rfl om;simp only [Bool.and_eq_true,decide_eq_true_eq] at *;omega)) hR
  ·
    refine rg trivial ?_
    exact congrArg (C34 x0) hR
 exact FnM.go 32 Tryz.func34 zah zah (A34 x0) zah (aux _ rfl)
def k34 (d:Nat) (ids:List Nat) (x0:List Int):Cl:=(hresM d ids (C34 x0 (zfy x0)),k2 (zoz x0))
def C127 (x0:l01Cur) (R:Int×Int×Int):LV×List (Nat×BC):=(.int .i64 R.1,[(900000,.var [.ro false 1 x0.b.length (rowOf (cInt .u8) x0.b),.int .i64 R.2.1,.int .i64 R.2.2])])
def zbc (x0:l01Cur):Int×Int×Int:=bif (decide (x0.i<((x0.b.length:Nat):Int))) then (bits .and .i64 ((bits .and .i64 (bits .xor .i64 ((IntKind.wrap .i64 ((IntKind.wrap .i64 (x0.h * 6364136223846793005))+1442695040888963407)) / 2 ^ 33) ((IntKind.wrap .i64 ((IntKind.wrap .i64 (x0.h * 6364136223846793005))+1442695040888963407)) / 2 ^ 45)) 255)+(IntKind.wrap .i64 (x0.b.getD x0.i.toNat default))) 255,x0.i+1,IntKind.wrap .i64 ((IntKind.wrap .i64 (x0.h * 6364136223846793005))+1442695040888963407)) else (bits .and .i64 (bits .xor .i64 ((IntKind.wrap .i64 ((IntKind.wrap .i64 (x0.h * 6364136223846793005))+1442695040888963407)) / 2 ^ 33) ((IntKind.wrap .i64 ((IntKind.wrap .i64 (x0.h * 6364136223846793005))+1442695040888963407)) / 2 ^ 45)) 255,x0.i,IntKind.wrap .i64 ((IntKind.wrap .i64 (x0.h * 6364136223846793005))+1442695040888963407))
def A127 (x0:l01Cur):Ann:=.reg 3 [(1005,.wrap),(1006,.wrap)] [] [0,2,3] [900000] [] [pf (0≤(33:Int)∧33≤(IntKind.bits .i64:Int)),pf (0≤(45:Int)∧45≤(IntKind.bits .i64:Int))] [] [0,4] (r0 1 [0,2,3,34] [900000] (cn (decide (x0.i<((x0.b.length:Nat):Int))) (.reg 1 [(11,.wrap)] [] [0,2,3] [900000] [] [pf (0≤(x0.i:Int)∧(x0.i:Int)<((x0.b.length:Nat):Int)),pf (inR .i64 ((bits .and .i64 (bits .xor .i64 ((IntKind.wrap .i64 ((IntKind.wrap .i64 (x0.h * 6364136223846793005))+1442695040888963407)) / 2 ^ 33) ((IntKind.wrap .i64 ((IntKind.wrap .i64 (x0.h * 6364136223846793005))+1442695040888963407)) / 2 ^ 45)) 255)+(IntKind.wrap .i64 (x0.b.getD x0.i.toNat default))))] [] [0,4] (r1 1 [2,3] [900000] [pf (inR .i64 (x0.i+1))] [0] (r0 1 [2] [900000] (rt [(900000,some 900000)] (C127 x0 (bits .and .i64 ((bits .and .i64 (bits .xor .i64 ((IntKind.wrap .i64 ((IntKind.wrap .i64 (x0.h * 6364136223846793005))+1442695040888963407)) / 2 ^ 33) ((IntKind.wrap .i64 ((IntKind.wrap .i64 (x0.h * 6364136223846793005))+1442695040888963407)) / 2 ^ 45)) 255)+(IntKind.wrap .i64 (x0.b.getD x0.i.toNat default))) 255,x0.i+1,IntKind.wrap .i64 ((IntKind.wrap .i64 (x0.h * 6364136223846793005))+1442695040888963407))))))) (r0 1 [2] [900000] (rt [(900000,some 900000)] (C127 x0 (bits .and .i64 (bits .xor .i64 ((IntKind.wrap .i64 ((IntKind.wrap .i64 (x0.h * 6364136223846793005))+1442695040888963407)) / 2 ^ 33) ((IntKind.wrap .i64 ((IntKind.wrap .i64 (x0.h * 6364136223846793005))+1442695040888963407)) / 2 ^ 45)) 255,x0.i,IntKind.wrap .i64 ((IntKind.wrap .i64 (x0.h * 6364136223846793005))+1442695040888963407)))))))
theorem znj (x0:l01Cur) (hc:CurOk x0):FnMT Tryz.prog 127 [.vp 900000 0] [.var [.ro false 1 x0.b.length (rowOf (cInt .u8) x0.b),.int .i64 x0.i,.int .i64 x0.h]] (C127 x0 (zbc x0)):=by
 have aux:∀ R,zbc x0=R→slim (C127 x0 R) (A127 x0) []:=by
  intro R hR
  refine rg ⟨by trivial,by trivial,trivial⟩ ?_
  refine rg trivial ?_
  revert hR;refine cd (fun hc1 hR=>?_) fun hc1 hR=>?_
  ·
    refine rg ⟨by (have h9:=hc.pos;have h8:=hc.len;(try simp only [inR,decide_eq_true_eq] at *);omega),by (have h9:=zhf (bits .xor .i64 ((IntKind.wrap .i64 ((IntKind.wrap .i64 (x0.h * 6364136223846793005))+1442695040888963407)) / 2 ^ 33) ((IntKind.wrap .i64 ((IntKind.wrap .i64 (x0.h * 6364136223846793005))+1442695040888963407)) / 2 ^ 45)) 255 255 rfl om;have h8:=zew hc.byte x0.i.toNat;have h7:=zf4 (n:=x0.b.getD x0.i.toNat default) om;simp only [inR];omega),trivial⟩ ?_
    refine rg ⟨by (have h9:=hc.pos;have h8:=hc.len;(try simp only [inR,decide_eq_true_eq] at *);omega),trivial⟩ ?_
    refine rg trivial ?_
    exact congrArg (C127 x0) hR
  ·
    refine rg trivial ?_
    exact congrArg (C127 x0) hR
 exact FnM.go 58 Tryz.func127 zah zah (A127 x0) zah (aux _ rfl)
def k127 (d:Nat) (ids:List Nat) (x0:l01Cur):Cl:=(hresM d ids (C127 x0 (zbc x0)),k1 (znj x0))
theorem zyi (x:Int):0≤bits .and .i64 x 255∧bits .and .i64 x 255≤255:=zhf x 255 255 rfl om
theorem zp3 {c:l01Cur} (h:CurOk c):(0≤(zbc c).1∧(zbc c).1≤255)∧CurOk ⟨c.b,(zbc c).2.1,(zbc c).2.2⟩:=by
 unfold zbc
 refine zbm (p:=fun (r:Int×Int×Int)=>(0≤r.1∧r.1≤255)∧CurOk ⟨c.b,r.2.1,r.2.2⟩) (fun c1=>⟨zyi _,h.mk' ?_ (zus _)⟩) (fun _=>⟨zyi _,h.mk' h.pos (zus _)⟩)
 have:=h.pos;have:=of_decide_eq_true c1
 simp only;omega
def C75 (x0:l01Cur) (x1:Int) (R:Int×Int×Int):LV×List (Nat×BC):=(.int .i64 R.1,[(900000,.var [.ro false 1 x0.b.length (rowOf (cInt .u8) x0.b),.int .i64 R.2.1,.int .i64 R.2.2])])
def za8 (x0:l01Cur) (x1:Int):Int×Int×Int:=bif (decide (x1≤0)) then (0,x0.i,x0.h) else (bif (decide (x1≤256)) then (((zbc x0).1).tmod x1,(zbc x0).2.1,(zbc x0).2.2) else (((((((zbc x0).1) * 16777216)+(((zbc (l01Cur.mk x0.b ((zbc x0).2.1) ((zbc x0).2.2))).1) * 65536))+(((zbc (l01Cur.mk x0.b ((zbc (l01Cur.mk x0.b ((zbc x0).2.1) ((zbc x0).2.2))).2.1) ((zbc (l01Cur.mk x0.b ((zbc x0).2.1) ((zbc x0).2.2))).2.2))).1) * 256))+((zbc (l01Cur.mk x0.b ((zbc (l01Cur.mk x0.b ((zbc (l01Cur.mk x0.b ((zbc x0).2.1) ((zbc x0).2.2))).2.1) ((zbc (l01Cur.mk x0.b ((zbc x0).2.1) ((zbc x0).2.2))).2.2))).2.1) ((zbc (l01Cur.mk x0.b ((zbc (l01Cur.mk x0.b ((zbc x0).2.1) ((zbc x0).2.2))).2.1) ((zbc (l01Cur.mk x0.b ((zbc x0).2.1) ((zbc x0).2.2))).2.2))).2.2))).1)).tmod x1,(zbc (l01Cur.mk x0.b ((zbc (l01Cur.mk x0.b ((zbc (l01Cur.mk x0.b ((zbc x0).2.1) ((zbc x0).2.2))).2.1) ((zbc (l01Cur.mk x0.b ((zbc x0).2.1) ((zbc x0).2.2))).2.2))).2.1) ((zbc (l01Cur.mk x0.b ((zbc (l01Cur.mk x0.b ((zbc x0).2.1) ((zbc x0).2.2))).2.1) ((zbc (l01Cur.mk x0.b ((zbc x0).2.1) ((zbc x0).2.2))).2.2))).2.2))).2.1,(zbc (l01Cur.mk x0.b ((zbc (l01Cur.mk x0.b ((zbc (l01Cur.mk x0.b ((zbc x0).2.1) ((zbc x0).2.2))).2.1) ((zbc (l01Cur.mk x0.b ((zbc x0).2.1) ((zbc x0).2.2))).2.2))).2.1) ((zbc (l01Cur.mk x0.b ((zbc (l01Cur.mk x0.b ((zbc x0).2.1) ((zbc x0).2.2))).2.1) ((zbc (l01Cur.mk x0.b ((zbc x0).2.1) ((zbc x0).2.2))).2.2))).2.2))).2.2))
def A75 (x0:l01Cur) (x1:Int):Ann:=r0 1 [0,1,4] [900000] (r0 1 [0,1,4,10] [900000] (cn (decide (x1≤0)) (r0 1 [0,1,4] [900000] (rt [(900000,some 900000)] (C75 x0 x1 (0,x0.i,x0.h)))) (r0 1 [0,1,4,12] [900000] (cn (decide (x1≤256)) (.reg 1 [] [(1,k127 14 [900000] x0)] [0,1,4] [900000] [] [pf ((x1:Int)≠0)] [] [4,0] (rt [(900000,some 900000)] (C75 x0 x1 (((zbc x0).1).tmod x1,(zbc x0).2.1,(zbc x0).2.2)))) (.reg 5 [] [(1,k127 18 [900000] x0),(1001,k127 20 [900000] (l01Cur.mk x0.b ((zbc x0).2.1) ((zbc x0).2.2))),(2001,k127 22 [900000] (l01Cur.mk x0.b ((zbc (l01Cur.mk x0.b ((zbc x0).2.1) ((zbc x0).2.2))).2.1) ((zbc (l01Cur.mk x0.b ((zbc x0).2.1) ((zbc x0).2.2))).2.2))),(3001,k127 24 [900000] (l01Cur.mk x0.b ((zbc (l01Cur.mk x0.b ((zbc (l01Cur.mk x0.b ((zbc x0).2.1) ((zbc x0).2.2))).2.1) ((zbc (l01Cur.mk x0.b ((zbc x0).2.1) ((zbc x0).2.2))).2.2))).2.1) ((zbc (l01Cur.mk x0.b ((zbc (l01Cur.mk x0.b ((zbc x0).2.1) ((zbc x0).2.2))).2.1) ((zbc (l01Cur.mk x0.b ((zbc x0).2.1) ((zbc x0).2.2))).2.2))).2.2)))] [4] [900000] [] [pf (inR .i64 (((zbc x0).1) * 16777216)),pf (inR .i64 (((zbc (l01Cur.mk x0.b ((zbc x0).2.1) ((zbc x0).2.2))).1) * 65536)),pf (inR .i64 ((((zbc x0).1) * 16777216)+(((zbc (l01Cur.mk x0.b ((zbc x0).2.1) ((zbc x0).2.2))).1) * 65536))),pf (inR .i64 (((zbc (l01Cur.mk x0.b ((zbc (l01Cur.mk x0.b ((zbc x0).2.1) ((zbc x0).2.2))).2.1) ((zbc (l01Cur.mk x0.b ((zbc x0).2.1) ((zbc x0).2.2))).2.2))).1) * 256)),pf (inR .i64 (((((zbc x0).1) * 16777216)+(((zbc (l01Cur.mk x0.b ((zbc x0).2.1) ((zbc x0).2.2))).1) * 65536))+(((zbc (l01Cur.mk x0.b ((zbc (l01Cur.mk x0.b ((zbc x0).2.1) ((zbc x0).2.2))).2.1) ((zbc (l01Cur.mk x0.b ((zbc x0).2.1) ((zbc x0).2.2))).2.2))).1) * 256))),pf (inR .i64 ((((((zbc x0).1) * 16777216)+(((zbc (l01Cur.mk x0.b ((zbc x0).2.1) ((zbc x0).2.2))).1) * 65536))+(((zbc (l01Cur.mk x0.b ((zbc (l01Cur.mk x0.b ((zbc x0).2.1) ((zbc x0).2.2))).2.1) ((zbc (l01Cur.mk x0.b ((zbc x0).2.1) ((zbc x0).2.2))).2.2))).1) * 256))+((zbc (l01Cur.mk x0.b ((zbc (l01Cur.mk x0.b ((zbc (l01Cur.mk x0.b ((zbc x0).2.1) ((zbc x0).2.2))).2.1) ((zbc (l01Cur.mk x0.b ((zbc x0).2.1) ((zbc x0).2.2))).2.2))).2.1) ((zbc (l01Cur.mk x0.b ((zbc (l01Cur.mk x0.b ((zbc x0).2.1) ((zbc x0).2.2))).2.1) ((zbc (l01Cur.mk x0.b ((zbc x0).2.1) ((zbc x0).2.2))).2.2))).2.2))).1))),pf ((x1:Int)≠0)] [] [28,32,36,40,0,4,8,12,16,20,24] (rt [(900000,some 900000)] (C75 x0 x1 (((((((zbc x0).1) * 16777216)+(((zbc (l01Cur.mk x0.b ((zbc x0).2.1) ((zbc x0).2.2))).1) * 65536))+(((zbc (l01Cur.mk x0.b ((zbc (l01Cur.mk x0.b ((zbc x0).2.1) ((zbc x0).2.2))).2.1) ((zbc (l01Cur.mk x0.b ((zbc x0).2.1) ((zbc x0).2.2))).2.2))).1) * 256))+((zbc (l01Cur.mk x0.b ((zbc (l01Cur.mk x0.b ((zbc (l01Cur.mk x0.b ((zbc x0).2.1) ((zbc x0).2.2))).2.1) ((zbc (l01Cur.mk x0.b ((zbc x0).2.1) ((zbc x0).2.2))).2.2))).2.1) ((zbc (l01Cur.mk x0.b ((zbc (l01Cur.mk x0.b ((zbc x0).2.1) ((zbc x0).2.2))).2.1) ((zbc (l01Cur.mk x0.b ((zbc x0).2.1) ((zbc x0).2.2))).2.2))).2.2))).1)).tmod x1,(zbc (l01Cur.mk x0.b ((zbc (l01Cur.mk x0.b ((zbc (l01Cur.mk x0.b ((zbc x0).2.1) ((zbc x0).2.2))).2.1) ((zbc (l01Cur.mk x0.b ((zbc x0).2.1) ((zbc x0).2.2))).2.2))).2.1) ((zbc (l01Cur.mk x0.b ((zbc (l01Cur.mk x0.b ((zbc x0).2.1) ((zbc x0).2.2))).2.1) ((zbc (l01Cur.mk x0.b ((zbc x0).2.1) ((zbc x0).2.2))).2.2))).2.2))).2.1,(zbc (l01Cur.mk x0.b ((zbc (l01Cur.mk x0.b ((zbc (l01Cur.mk x0.b ((zbc x0).2.1) ((zbc x0).2.2))).2.1) ((zbc (l01Cur.mk x0.b ((zbc x0).2.1) ((zbc x0).2.2))).2.2))).2.1) ((zbc (l01Cur.mk x0.b ((zbc (l01Cur.mk x0.b ((zbc x0).2.1) ((zbc x0).2.2))).2.1) ((zbc (l01Cur.mk x0.b ((zbc x0).2.1) ((zbc x0).2.2))).2.2))).2.2))).2.2))))))))
theorem zl7 (x0:l01Cur) (x1:Int) (hc:CurOk x0) (hn:x1≤256):FnMT Tryz.prog 75 [.vp 900000 0,.int .i64 x1] [.var [.ro false 1 x0.b.length (rowOf (cInt .u8) x0.b),.int .i64 x0.i,.int .i64 x0.h]] (C75 x0 x1 (za8 x0 x1)):=by
 have aux:∀ R,za8 x0 x1=R→slim (C75 x0 x1 R) (A75 x0 x1) []:=by
  intro R hR
  refine rg trivial ?_
  refine rg trivial ?_
  revert hR;refine cd (fun hc1 hR=>?_) fun hc1 hR=>?_
  ·
    refine rg trivial ?_
    exact congrArg (C75 x0 x1) hR
  ·
    refine rg trivial ?_
    revert hR;refine cd (fun hc2 hR=>?_) fun hc2 hR=>?_
    ·
      refine rg ⟨by ((try clear hR);intros;(try simp only [decide_eq_true_eq,decide_eq_false_iff_not,Bool.or_eq_true,Bool.and_eq_true,zbd,za9,zba,Bool.not_eq_true',inR] at *);(repeat' apply And.intro)<;>(intros;omega)),by trivial,trivial⟩ ?_
      exact congrArg (C75 x0 x1) hR
    ·
      refine rg ⟨by ((try clear hR);intros;(try simp only [decide_eq_true_eq,decide_eq_false_iff_not,Bool.or_eq_true,Bool.and_eq_true,zbd,za9,zba,Bool.not_eq_true',inR] at *);(repeat' apply And.intro)<;>(intros;omega)),by ((try clear hR);intros;(try simp only [decide_eq_true_eq,decide_eq_false_iff_not,Bool.or_eq_true,Bool.and_eq_true,zbd,za9,zba,Bool.not_eq_true',inR] at *);(repeat' apply And.intro)<;>(intros;omega)),by ((try clear hR);intros;(try simp only [decide_eq_true_eq,decide_eq_false_iff_not,Bool.or_eq_true,Bool.and_eq_true,zbd,za9,zba,Bool.not_eq_true',inR] at *);(repeat' apply And.intro)<;>(intros;omega)),by ((try clear hR);intros;(try simp only [decide_eq_true_eq,decide_eq_false_iff_not,Bool.or_eq_true,Bool.and_eq_true,zbd,za9,zba,Bool.not_eq_true',inR] at *);(repeat' apply And.intro)<;>(intros;omega)),by ((try clear hR);intros;(try simp only [decide_eq_true_eq,decide_eq_false_iff_not,Bool.or_eq_true,Bool.and_eq_true,zbd,za9,zba,Bool.not_eq_true',inR] at *);(repeat' apply And.intro)<;>(intros;omega)),by ((try clear hR);intros;(try simp only [decide_eq_true_eq,decide_eq_false_iff_not,Bool.or_eq_true,Bool.and_eq_true,zbd,za9,zba,Bool.not_eq_true',inR] at *);(repeat' apply And.intro)<;>(intros;omega)),by ((try clear hR);intros;(try simp only [decide_eq_true_eq,decide_eq_false_iff_not,Bool.or_eq_true,Bool.and_eq_true,zbd,za9,zba,Bool.not_eq_true',inR] at *);(repeat' apply And.intro)<;>(intros;omega)),by trivial,by ((try clear hR);intros;(try simp only [decide_eq_true_eq,decide_eq_false_iff_not,Bool.or_eq_true,Bool.and_eq_true,zbd,za9,zba,Bool.not_eq_true',inR] at *);(repeat' apply And.intro)<;>(intros;omega)),by ((try clear hR);intros;(try simp only [decide_eq_true_eq,decide_eq_false_iff_not,Bool.or_eq_true,Bool.and_eq_true,zbd,za9,zba,Bool.not_eq_true',inR] at *);(repeat' apply And.intro)<;>(intros;omega)),by ((try clear hR);intros;(try simp only [decide_eq_true_eq,decide_eq_false_iff_not,Bool.or_eq_true,Bool.and_eq_true,zbd,za9,zba,Bool.not_eq_true',inR] at *);(repeat' apply And.intro)<;>(intros;omega)),trivial⟩ ?_
      exact congrArg (C75 x0 x1) hR
 exact FnM.go 37 Tryz.func75 zah zah (A75 x0 x1) zah (aux _ rfl)
def k75 (d:Nat) (ids:List Nat) (x0:l01Cur) (x1:Int):Cl:=(hresM d ids (C75 x0 x1 (za8 x0 x1)),k2 (zl7 x0 x1))
theorem zbw {c:l01Cur} (h:CurOk c) {n:Int} (hn:n≤256):(0≤(za8 c n).1∧(za8 c n).1≤255∧(0<n→(za8 c n).1<n))∧CurOk ⟨c.b,(za8 c n).2.1,(za8 c n).2.2⟩:=by
 unfold za8
 refine zbm (p:=fun (r:Int×Int×Int)=>(0≤r.1∧r.1≤255∧(0<n→r.1<n))∧CurOk ⟨c.b,r.2.1,r.2.2⟩) (fun c1=>⟨⟨by simp,by simp,fun h=>h⟩,h⟩) (fun c1=>?_)
 have c1:=of_decide_eq_false c1
 refine zbm (p:=fun (r:Int×Int×Int)=>(0≤r.1∧r.1≤255∧(0<n→r.1<n))∧CurOk ⟨c.b,r.2.1,r.2.2⟩) (fun c2=>⟨?_,(zp3 h).2⟩) (fun c2=>absurd (of_decide_eq_false c2) om)
 have h1:=(zp3 h).1
 have e:=Int.tmod_eq_emod_of_nonneg (a:=(zbc c).1) (b:=n) h1.1
 have h2:=Int.emod_nonneg (zbc c).1 (show n≠0 by omega)
 have h3:=Int.emod_lt_of_pos (zbc c).1 (show 0<n by omega)
 simp only [e]
 omega
def C76 (x0:l01Cur) (x1:Int) (R:Bool×Int×Int):LV×List (Nat×BC):=(.bool R.1,[(900000,.var [.ro false 1 x0.b.length (rowOf (cInt .u8) x0.b),.int .i64 R.2.1,.int .i64 R.2.2])])
def zbo (x0:l01Cur) (x1:Int):Bool×Int×Int:=(decide (((za8 x0 x1).1)=0),(za8 x0 x1).2.1,(za8 x0 x1).2.2)
def A76 (x0:l01Cur) (x1:Int):Ann:=.reg 2 [] [(1002,k75 7 [900000] x0 x1)] [4] [900000] [] [] [] [0] (rt [(900000,some 900000)] (C76 x0 x1 (decide (((za8 x0 x1).1)=0),(za8 x0 x1).2.1,(za8 x0 x1).2.2)))
theorem zni (x0:l01Cur) (x1:Int) (hc:CurOk x0) (hn:x1≤256):FnMT Tryz.prog 76 [.vp 900000 0,.int .i64 x1] [.var [.ro false 1 x0.b.length (rowOf (cInt .u8) x0.b),.int .i64 x0.i,.int .i64 x0.h]] (C76 x0 x1 (zbo x0 x1)):=by
 have aux:∀ R,zbo x0 x1=R→slim (C76 x0 x1 R) (A76 x0 x1) []:=by
  intro R hR
  refine rg ⟨⟨by trivial,by trivial⟩,trivial⟩ ?_
  exact congrArg (C76 x0 x1) hR
 exact FnM.go 9 Tryz.func76 zah zah (A76 x0 x1) zah (aux _ rfl)
def k76 (d:Nat) (ids:List Nat) (x0:l01Cur) (x1:Int):Cl:=(hresM d ids (C76 x0 x1 (zbo x0 x1)),k2 (zni x0 x1))
def C84 (x0:l01Cur) (x1:List Int) (R:Int×Int×Int):LV×List (Nat×BC):=(.int .i64 R.1,[(900000,.var [.ro false 1 x0.b.length (rowOf (cInt .u8) x0.b),.int .i64 R.2.1,.int .i64 R.2.2])])
def zbb (x0:l01Cur) (x1:List Int):Int×Int×Int:=((x1.getD (((za8 x0 ((x1.length:Nat):Int)).1).toNat) default),(za8 x0 ((x1.length:Nat):Int)).2.1,(za8 x0 ((x1.length:Nat):Int)).2.2)
def A84 (x0:l01Cur) (x1:List Int):Ann:=.reg 2 [] [(1004,k75 9 [900000] x0 ((x1.length:Nat):Int))] [4] [900000,900001] [] [pf (0≤((za8 x0 ((x1.length:Nat):Int)).1:Int)∧((za8 x0 ((x1.length:Nat):Int)).1:Int)<((x1.length:Nat):Int))] [] [4,0] (rt [(900000,some 900000)] (C84 x0 x1 ((x1.getD (((za8 x0 ((x1.length:Nat):Int)).1).toNat) default),(za8 x0 ((x1.length:Nat):Int)).2.1,(za8 x0 ((x1.length:Nat):Int)).2.2)))
theorem zo0 (x0:l01Cur) (x1:List Int) (hc:CurOk x0) (hn:0<x1.length∧x1.length≤256):FnMT Tryz.prog 84 [.vp 900000 0,.own 900001] [.var [.ro false 1 x0.b.length (rowOf (cInt .u8) x0.b),.int .i64 x0.i,.int .i64 x0.h],.arr 1 x1.length (rowOf (cInt .i64) x1)] (C84 x0 x1 (zbb x0 x1)):=by
 have aux:∀ R,zbb x0 x1=R→slim (C84 x0 x1 R) (A84 x0 x1) []:=by
  intro R hR
  refine rg ⟨by (have h9:=zbw hc (n:=((x1.length:Nat):Int)) om;omega),⟨by trivial,by (intros;omega)⟩,trivial⟩ ?_
  exact congrArg (C84 x0 x1) hR
 exact FnM.go 12 Tryz.func84 zah zah (A84 x0 x1) zah (aux _ rfl)
def k84 (d:Nat) (ids:List Nat) (x0:l01Cur) (x1:List Int):Cl:=(hresM d ids (C84 x0 x1 (zbb x0 x1)),k2 (zo0 x0 x1))
def C122 (R:(List UInt8)):LV×List (Nat×BC):=(.str R,[])
def zbz (x0:Int):(List UInt8):=List.map Lite.byteOf ([((([97,98,99,100,101,102,103,104,105,106,107,108,109,110,111,112,113,114,115,116,117,118,119,120,121,122]:List UInt8).getD ((x0.tmod 26).toNat) 0).toNat:Int),((([97,101,105,111,117]:List UInt8).getD (((x0.tdiv 26).tmod 5).toNat) 0).toNat:Int)]:List Int)
def A122 (x0:Int):Ann:=.reg 2 [(1008,.ints ([((([97,98,99,100,101,102,103,104,105,106,107,108,109,110,111,112,113,114,115,116,117,118,119,120,121,122]:List UInt8).getD ((x0.tmod 26).toNat) 0).toNat:Int),((([97,101,105,111,117]:List UInt8).getD (((x0.tdiv 26).tmod 5).toNat) 0).toNat:Int)]:List Int))] [(1007,bsC 10 (cInt .u8) ([((([97,98,99,100,101,102,103,104,105,106,107,108,109,110,111,112,113,114,115,116,117,118,119,120,121,122]:List UInt8).getD ((x0.tmod 26).toNat) 0).toNat:Int),((([97,101,105,111,117]:List UInt8).getD (((x0.tdiv 26).tmod 5).toNat) 0).toNat:Int)]:List Int))] [2] [] [] [pf ((26:Int)≠0),pf (0≤(x0.tmod 26:Int)∧(x0.tmod 26:Int)<((([97,98,99,100,101,102,103,104,105,106,107,108,109,110,111,112,113,114,115,116,117,118,119,120,121,122]:List UInt8).length:Nat):Int)),pf (inR .i64 (x0.tdiv 26)),pf ((5:Int)≠0),pf (0≤((x0.tdiv 26).tmod 5:Int)∧((x0.tdiv 26).tmod 5:Int)<((([97,101,105,111,117]:List UInt8).length:Nat):Int))] [zf (P:=2=([((([97,98,99,100,101,102,103,104,105,106,107,108,109,110,111,112,113,114,115,116,117,118,119,120,121,122]:List UInt8).getD ((x0.tmod 26).toNat) 0).toNat:Int),((([97,101,105,111,117]:List UInt8).getD (((x0.tdiv 26).tmod 5).toNat) 0).toNat:Int)]:List Int).length∧∀ k,k<2→(rowOf (cInt .u8) [((([97,98,99,100,101,102,103,104,105,106,107,108,109,110,111,112,113,114,115,116,117,118,119,120,121,122]:List UInt8).getD ((x0.tmod 26).toNat) 0).toNat:Int),((([97,101,105,111,117]:List UInt8).getD (((x0.tdiv 26).tmod 5).toNat) 0).toNat:Int)]) k=[.int .u8 (([((([97,98,99,100,101,102,103,104,105,106,107,108,109,110,111,112,113,114,115,116,117,118,119,120,121,122]:List UInt8).getD ((x0.tmod 26).toNat) 0).toNat:Int),((([97,101,105,111,117]:List UInt8).getD (((x0.tdiv 26).tmod 5).toNat) 0).toNat:Int)]:List Int).getD k default)]) (⟨by first | rfl | simp,fun _ _=>rfl⟩)] [0,4,0,8,12,16,20,3] (rt [] (C122 (List.map Lite.byteOf ([((([97,98,99,100,101,102,103,104,105,106,107,108,109,110,111,112,113,114,115,116,117,118,119,120,121,122]:List UInt8).getD ((x0.tmod 26).toNat) 0).toNat:Int),((([97,101,105,111,117]:List UInt8).getD (((x0.tdiv 26).tmod 5).toNat) 0).toNat:Int)]:List Int))))
theorem zl6 (x0:Int) (hi:0≤x0∧x0≤1000):FnT Tryz.prog 122 [.int .i64 x0] (C122 (zbz x0)):=by
 have aux:∀ R,zbz x0=R→slim (C122 R) (A122 x0) []:=by
  intro R hR
  refine rg ⟨by trivial,by (have e1:=Int.tmod_eq_emod_of_nonneg (a:=x0) (b:=26) om;have e2:=Int.tdiv_eq_ediv_of_nonneg (a:=x0) (b:=26) om;have e3:=Int.tmod_eq_emod_of_nonneg (a:=x0.tdiv 26) (b:=5) om;(try simp only [List.length_cons,List.length_nil]);omega),by ((try clear hR);intros;(try simp only [decide_eq_true_eq,decide_eq_false_iff_not,Bool.or_eq_true,Bool.and_eq_true,zbd,za9,zba,Bool.not_eq_true',inR] at *);(repeat' apply And.intro)<;>(have e1:=Int.tmod_eq_emod_of_nonneg (a:=x0) (b:=26) om;have e2:=Int.tdiv_eq_ediv_of_nonneg (a:=x0) (b:=26) om;have e3:=Int.tmod_eq_emod_of_nonneg (a:=x0.tdiv 26) (b:=5) om;(try simp only [List.length_cons,List.length_nil]);omega)),by trivial,by (have e1:=Int.tmod_eq_emod_of_nonneg (a:=x0) (b:=26) om;have e2:=Int.tdiv_eq_ediv_of_nonneg (a:=x0) (b:=26) om;have e3:=Int.tmod_eq_emod_of_nonneg (a:=x0.tdiv 26) (b:=5) om;(try simp only [List.length_cons,List.length_nil]);omega),trivial,trivial⟩ ?_
  exact congrArg C122 hR
 exact Fn.go 12 Tryz.func122 zah zah (by simp [C122,Frs,FrsL]) (A122 x0) zah (aux _ rfl)
def k122 (x0:Int):Cl:=(hres (C122 (zbz x0)),k1 (zl6 x0))
theorem zcy {c:l01Cur} (h:CurOk c) {n:Int} (hn:n≤256):CurOk ⟨c.b,(zbo c n).2.1,(zbo c n).2.2⟩:=by
 unfold zbo
 exact (zbw h hn).2
theorem zcl {c:l01Cur} (h:CurOk c) {l:List Int} (hl:0<l.length∧l.length≤256):(zbb c l).1∈l∧CurOk ⟨c.b,(zbb c l).2.1,(zbb c l).2.2⟩:=by
 have h9:=zbw h (n:=((l.length:Nat):Int)) om
 unfold zbb
 exact ⟨zb0 (by have:=h9.1.2.2 om;omega),h9.2⟩
end Go.Proofs.YtaageiiodlfeiaaGreat
