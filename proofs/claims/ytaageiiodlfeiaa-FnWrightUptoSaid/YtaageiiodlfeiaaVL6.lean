import Derived.Test.YtaageiiodlfeiaaVL5
set_option maxHeartbeats 4000000
set_option linter.unusedSimpArgs false
set_option linter.unusedVariables false
namespace Go.Proofs.Ytaageiiodlfeiaa
open Go Go.Lite Go.Proofs
def tab0:List UInt8:=[0,1,2,2,3,3,3,3,4,4,4,4,4,4,4,4,5,5,5,5,5,5,5,5,5,5,5,5,5,5,5,5,6,6,6,6,6,6,6,6,6,6,6,6,6,6,6,6,6,6,6,6,6,6,6,6,6,6,6,6,6,6,6,6,7,7,7,7,7,7,7,7,7,7,7,7,7,7,7,7,7,7,7,7,7,7,7,7,7,7,7,7,7,7,7,7,7,7,7,7,7,7,7,7,7,7,7,7,7,7,7,7,7,7,7,7,7,7,7,7,7,7,7,7,7,7,7,7,8,8,8,8,8,8,8,8,8,8,8,8,8,8,8,8,8,8,8,8,8,8,8,8,8,8,8,8,8,8,8,8,8,8,8,8,8,8,8,8,8,8,8,8,8,8,8,8,8,8,8,8,8,8,8,8,8,8,8,8,8,8,8,8,8,8,8,8,8,8,8,8,8,8,8,8,8,8,8,8,8,8,8,8,8,8,8,8,8,8,8,8,8,8,8,8,8,8,8,8,8,8,8,8,8,8,8,8,8,8,8,8,8,8,8,8,8,8,8,8,8,8,8,8,8,8,8,8]
set_option maxRecDepth 100000 in
theorem zpl:tab0.length=256:=rfl
def C189 (R:Int):LV×List (Nat×BC):=(.int .i64 R,[])
def zis (x0:Int):Int:=jn (fun K1=>bif (decide (4294967296≤x0)) then (K1 (x0 / 2 ^ 32,32)) else (K1 (x0,0))) (fun (j1:Int×Int)=>jn (fun K2=>bif (decide (65536≤j1.1)) then (K2 (j1.1 / 2 ^ 16,j1.2+16)) else (K2 (j1.1,j1.2))) (fun (j2:Int×Int)=>bif (decide (256≤j2.1)) then ((j2.2+8)+((tab0.getD ((j2.1 / 2 ^ 8).toNat) 0).toNat:Int)) else (j2.2+((tab0.getD j2.1.toNat 0).toNat:Int))))
def zye (x0:Int) (j1:Int×Int):Dl:=⟨[(0,.int .u64 j1.1),(2,.int .i64 j1.2)],[]⟩
def zyd (x0:Int) (j1:Int×Int) (j2:Int×Int):Dl:=⟨[(0,.int .u64 j2.1),(2,.int .i64 j2.2)],[]⟩
def A189j2 (x0:Int) (j1:Int×Int) (j2:Int×Int):Ann:=r0 1 [0,2,14] [] (cn (decide (256≤j2.1)) (r1 1 [0,2] [] [pf (0≤(8:Int)∧8≤(IntKind.bits .u64:Int))] [0] (r1 1 [0,2] [] [pf (inR .i64 (j2.2+8))] [0] (r1 1 [2] [] [pf (inR .u8 (j2.1 / 2 ^ 8)),pf (0≤(j2.1 / 2 ^ 8:Int)∧(j2.1 / 2 ^ 8:Int)<((tab0.length:Nat):Int)),pf (inR .i64 ((tab0.getD ((j2.1 / 2 ^ 8).toNat) 0).toNat:Int)),pf (inR .i64 ((j2.2+8)+((tab0.getD ((j2.1 / 2 ^ 8).toNat) 0).toNat:Int)))] [0,4,8,12] (rt [] (C189 ((j2.2+8)+((tab0.getD ((j2.1 / 2 ^ 8).toNat) 0).toNat:Int))))))) (r1 1 [2] [] [pf (inR .u8 j2.1),pf (0≤(j2.1:Int)∧(j2.1:Int)<((tab0.length:Nat):Int)),pf (inR .i64 ((tab0.getD j2.1.toNat 0).toNat:Int)),pf (inR .i64 (j2.2+((tab0.getD j2.1.toNat 0).toNat:Int)))] [0,4,8,12] (rt [] (C189 (j2.2+((tab0.getD j2.1.toNat 0).toNat:Int))))))
def A189j1 (x0:Int) (j1:Int×Int):Ann:=.join 0 (Int×Int) (zyd x0 j1) [0,2] [] (r0 1 [0,2,8] [] (cn (decide (65536≤j1.1)) (r1 1 [0,2] [] [pf (0≤(16:Int)∧16≤(IntKind.bits .u64:Int))] [0] (r1 1 [0,2] [] [pf (inR .i64 (j1.2+16))] [0] (.next 0 [] (zyd x0 j1 (j1.1 / 2 ^ 16,j1.2+16))))) (.next 0 [] (zyd x0 j1 (j1.1,j1.2))))) (A189j2 x0 j1)
def A189 (x0:Int):Ann:=r0 1 [0,2] [] (.join 0 (Int×Int) (zye x0) [0,2] [] (r0 1 [0,2,4] [] (cn (decide (4294967296≤x0)) (r1 1 [0,2] [] [pf (0≤(32:Int)∧32≤(IntKind.bits .u64:Int))] [0] (r0 1 [0,2] [] (.next 0 [] (zye x0 (x0 / 2 ^ 32,32))))) (.next 0 [] (zye x0 (x0,0))))) (A189j1 x0))
theorem zp1 (x0:Int) (hx:0≤x0∧x0≤255):FnT Try.prog 189 [.int .u64 x0] (C189 (zis x0)):=by
 have aux:∀ R,zis x0=R→slim (C189 R) (A189 x0) []:=by
  intro R hR
  refine rg trivial ?_
  revert hR;refine jN (fun v=>v.1=x0∧v.2=0) (fun F101 hR hJ101=>?_) (fun j1 hR hJ1=>?_)
  ·
    refine rg trivial ?_
    revert hR;refine cd (fun hc1 hR=>?_) fun hc1 hR=>?_
    ·
      refine rg ⟨by ((try clear hR);(try clear hJ101);(try clear hJ102);((try clear hR);intros;(try simp only [w1,w2,w3,w4,w5,w6,zbs,inR,IntKind.bits] at *));omega),trivial⟩ ?_
      refine rg trivial ?_
      exact hJ101 (x0 / 2 ^ 32,32) hR (by ((try clear hR);(try clear hJ101);(try clear hJ102);((try clear hR);intros;(try simp only [w1,w2,w3,w4,w5,w6,zbs,inR,IntKind.bits] at *));omega))
    ·
      exact hJ101 (x0,0) hR zaw
  ·
    revert hR;refine jN (fun v=>v.1=x0∧v.2=0) (fun F102 hR hJ102=>?_) (fun j2 hR hJ2=>?_)
    ·
      refine rg trivial ?_
      revert hR;refine cd (fun hc2 hR=>?_) fun hc2 hR=>?_
      ·
        refine rg ⟨by ((try clear hR);(try clear hJ101);(try clear hJ102);((try clear hR);intros;(try simp only [w1,w2,w3,w4,w5,w6,zbs,inR,IntKind.bits] at *));omega),trivial⟩ ?_
        refine rg ⟨by ((try clear hR);(try clear hJ101);(try clear hJ102);((try clear hR);intros;(try simp only [w1,w2,w3,w4,w5,w6,zbs,inR,IntKind.bits] at *));omega),trivial⟩ ?_
        exact hJ102 (j1.1 / 2 ^ 16,j1.2+16) hR (by ((try clear hR);(try clear hJ101);(try clear hJ102);((try clear hR);intros;(try simp only [w1,w2,w3,w4,w5,w6,zbs,inR,IntKind.bits] at *));omega))
      ·
        exact hJ102 (j1.1,j1.2) hR zas
    ·
      refine rg trivial ?_
      revert hR;refine cd (fun hc3 hR=>?_) fun hc3 hR=>?_
      ·
        refine rg ⟨by ((try clear hR);(try clear hJ101);(try clear hJ102);((try clear hR);intros;(try simp only [w1,w2,w3,w4,w5,w6,zbs,inR,IntKind.bits] at *));omega),trivial⟩ ?_
        refine rg ⟨by ((try clear hR);(try clear hJ101);(try clear hJ102);((try clear hR);intros;(try simp only [w1,w2,w3,w4,w5,w6,zbs,inR,IntKind.bits] at *));omega),trivial⟩ ?_
        refine rg ⟨by ((try clear hR);(try clear hJ101);(try clear hJ102);((try clear hR);intros;(try simp only [w1,w2,w3,w4,w5,w6,zbs,inR,IntKind.bits] at *));omega),by ((try clear hR);(try clear hJ101);(try clear hJ102);((try clear hR);intros;(try simp only [w1,w2,w3,w4,w5,w6,zbs,inR,IntKind.bits] at *));omega),by ((try clear hR);(try clear hJ101);(try clear hJ102);((try clear hR);intros;(try simp only [w1,w2,w3,w4,w5,w6,zbs,inR,IntKind.bits] at *));omega),by ((try clear hR);(try clear hJ101);(try clear hJ102);((try clear hR);intros;(try simp only [w1,w2,w3,w4,w5,w6,zbs,inR,IntKind.bits] at *));omega),trivial⟩ ?_
        exact congrArg C189 hR
      ·
        refine rg ⟨by ((try clear hR);(try clear hJ101);(try clear hJ102);((try clear hR);intros;(try simp only [w1,w2,w3,w4,w5,w6,zbs,inR,IntKind.bits] at *));omega),by (have h9:=zpl;have h8:=(tab0.getD j2.1.toNat 0).toNat_lt;have h7:=(tab0.getD (j2.1 / 2 ^ 8).toNat 0).toNat_lt;((try clear hR);intros;(try simp only [w1,w2,w3,w4,w5,w6,zbs,inR,IntKind.bits] at *));omega),by (have h9:=zpl;have h8:=(tab0.getD j2.1.toNat 0).toNat_lt;have h7:=(tab0.getD (j2.1 / 2 ^ 8).toNat 0).toNat_lt;((try clear hR);intros;(try simp only [w1,w2,w3,w4,w5,w6,zbs,inR,IntKind.bits] at *));omega),by (have h9:=zpl;have h8:=(tab0.getD j2.1.toNat 0).toNat_lt;have h7:=(tab0.getD (j2.1 / 2 ^ 8).toNat 0).toNat_lt;((try clear hR);intros;(try simp only [w1,w2,w3,w4,w5,w6,zbs,inR,IntKind.bits] at *));omega),trivial⟩ ?_
        exact congrArg C189 hR
 exact Fn.go 25 Try.func189 zax zax (by simp [C189,Frs,FrsL]) (A189 x0) zax (aux _ rfl)
def k189 (x0:Int):Cl:=(hres (C189 (zis x0)),k1 (zp1 x0))
def C155 (R:Int):LV×List (Nat×BC):=(.int .i64 R,[])
def zdd (x0:Int):Int:=zis x0
def A155 (x0:Int):Ann:=r0 1 [0,2] [] (cn false (.next 99 [] ⟨[],[]⟩) (.reg 1 [] [(1,k189 x0)] [2] [] [] [] [] [0] (rt [] (C155 (zis x0)))))
theorem zir (x0:Int) (h:0≤x0∧x0≤255):0≤zdd x0∧zdd x0≤8∧1≤(2:Int) ^ (zdd x0).toNat∧(2:Int) ^ (zdd x0).toNat≤2 * x0+1∧(x0=0∨(2:Int) ^ (zdd x0).toNat≤2 * x0):=by
 have key:∀ n:Fin 256,0≤zdd (n.val:Int)∧zdd (n.val:Int)≤8∧1≤(2:Int) ^ (zdd (n.val:Int)).toNat∧(2:Int) ^ (zdd (n.val:Int)).toNat≤2 * (n.val:Int)+1∧((n.val:Int)=0∨(2:Int) ^ (zdd (n.val:Int)).toNat≤2 * (n.val:Int)):=by decide +kernel
 have e:x0=((⟨x0.toNat,om⟩:Fin 256).val:Int):=by simp only [];omega
 rw [e]
 exact key _

theorem zst (x0:Int) (hx:0≤x0∧x0≤255):FnT Try.prog 155 [.int .u64 x0] (C155 (zdd x0)):=by
 have aux:∀ R,zdd x0=R→slim (C155 R) (A155 x0) []:=by
  intro R hR
  refine rg trivial ?_
  refine ⟨fun h=>zbg,fun _=>?_⟩
  refine rg ⟨by trivial,trivial⟩ ?_
  exact congrArg C155 hR
 exact Fn.go 8 Try.func155 zax zax (by simp [C155,Frs,FrsL]) (A155 x0) zax (aux _ rfl)
def k155 (x0:Int):Cl:=(hres (C155 (zdd x0)),k1 (zst x0))
def C213 (R:Int):LV×List (Nat×BC):=(.int .u64 R,[])
def zcx (x0:Int):Int:=1 * 2 ^ ((zdd x0).toNat)
def A213 (x0:Int):Ann:=.reg 3 [] [(1002,k155 x0)] [2] [] [] [pf (inR .u64 x0),pf (inR .u64 (zdd x0)),pf (0≤((zdd x0):Int)∧(zdd x0)≤(IntKind.bits .u64:Int)),pf (inR .u64 (1 * 2 ^ ((zdd x0).toNat)))] [] [0,16,4,8,12] (rt [] (C213 (1 * 2 ^ ((zdd x0).toNat))))
theorem zek (x0:Int) (h:1≤x0∧x0≤255):1≤zcx x0∧zcx x0≤2 * x0:=by
 have:=zir x0 om
 unfold zcx
 omega

theorem zh7 (x0:Int) (hx:0≤x0∧x0≤255):FnT Try.prog 213 [.int .i64 x0] (C213 (zcx x0)):=by
 have aux:∀ R,zcx x0=R→slim (C213 R) (A213 x0) []:=by
  intro R hR
  refine rg ⟨by ( intros;simp only [inR];omega),by (have h9:=zir x0 hx;((try clear hR);intros;(try simp only [w1,w2,w3,w4,w5,w6,zbs,inR,IntKind.bits] at *));omega),by (have h9:=zir x0 hx;((try clear hR);intros;(try simp only [w1,w2,w3,w4,w5,w6,zbs,inR,IntKind.bits] at *));omega),by (have h9:=zir x0 hx;((try clear hR);intros;(try simp only [w1,w2,w3,w4,w5,w6,zbs,inR,IntKind.bits] at *));omega),by trivial,trivial⟩ ?_
  exact congrArg C213 hR
 exact Fn.go 10 Try.func213 zax zax (by simp [C213,Frs,FrsL]) (A213 x0) zax (aux _ rfl)
def k213 (x0:Int):Cl:=(hres (C213 (zcx x0)),k1 (zh7 x0))
def C214 (x0:Int) (R:Int×Int):LV×List (Nat×BC):=(.int .u64 R.1,[(900000,.var [.int .u64 R.2])])
def zcw (x0:Int):Int×Int:=(bits .xor .u64 (bits .xor .u64 (bits .xor .u64 x0 (IntKind.wrap .u64 (x0 * 2 ^ 13))) ((bits .xor .u64 x0 (IntKind.wrap .u64 (x0 * 2 ^ 13))) / 2 ^ 7)) (IntKind.wrap .u64 ((bits .xor .u64 (bits .xor .u64 x0 (IntKind.wrap .u64 (x0 * 2 ^ 13))) ((bits .xor .u64 x0 (IntKind.wrap .u64 (x0 * 2 ^ 13))) / 2 ^ 7)) * 2 ^ 17)),bits .xor .u64 (bits .xor .u64 (bits .xor .u64 x0 (IntKind.wrap .u64 (x0 * 2 ^ 13))) ((bits .xor .u64 x0 (IntKind.wrap .u64 (x0 * 2 ^ 13))) / 2 ^ 7)) (IntKind.wrap .u64 ((bits .xor .u64 (bits .xor .u64 x0 (IntKind.wrap .u64 (x0 * 2 ^ 13))) ((bits .xor .u64 x0 (IntKind.wrap .u64 (x0 * 2 ^ 13))) / 2 ^ 7)) * 2 ^ 17)))
def A214 (x0:Int):Ann:=.reg 5 [(1006,.wrap),(3006,.wrap)] [] [2] [900000] [] [pf (0≤(13:Int)∧13≤(IntKind.bits .u64:Int)),pf (0≤(7:Int)∧7≤(IntKind.bits .u64:Int)),pf (0≤(17:Int)∧17≤(IntKind.bits .u64:Int))] [] [0,4,8] (rt [(900000,some 900000)] (C214 x0 (bits .xor .u64 (bits .xor .u64 (bits .xor .u64 x0 (IntKind.wrap .u64 (x0 * 2 ^ 13))) ((bits .xor .u64 x0 (IntKind.wrap .u64 (x0 * 2 ^ 13))) / 2 ^ 7)) (IntKind.wrap .u64 ((bits .xor .u64 (bits .xor .u64 x0 (IntKind.wrap .u64 (x0 * 2 ^ 13))) ((bits .xor .u64 x0 (IntKind.wrap .u64 (x0 * 2 ^ 13))) / 2 ^ 7)) * 2 ^ 17)),bits .xor .u64 (bits .xor .u64 (bits .xor .u64 x0 (IntKind.wrap .u64 (x0 * 2 ^ 13))) ((bits .xor .u64 x0 (IntKind.wrap .u64 (x0 * 2 ^ 13))) / 2 ^ 7)) (IntKind.wrap .u64 ((bits .xor .u64 (bits .xor .u64 x0 (IntKind.wrap .u64 (x0 * 2 ^ 13))) ((bits .xor .u64 x0 (IntKind.wrap .u64 (x0 * 2 ^ 13))) / 2 ^ 7)) * 2 ^ 17)))))
theorem zhf (x0:Int):FnMT Try.prog 214 [.vp 900000 0] [.var [.int .u64 x0]] (C214 x0 (zcw x0)):=by
 have aux:∀ R,zcw x0=R→slim (C214 x0 R) (A214 x0) []:=by
  intro R hR
  refine rg ⟨by trivial,by trivial,by trivial,trivial⟩ ?_
  exact congrArg (C214 x0) hR
 exact FnM.go 33 Try.func214 zax zax (A214 x0) zax (aux _ rfl)
def k214 (d:Nat) (ids:List Nat) (x0:Int):Cl:=(hresM d ids (C214 x0 (zcw x0)),k0 (zhf x0))
def C192L (x0:SrtL) (x1:Int) (x2:Int) (R:(List (List Int))):LV×List (Nat×BC):=(.tup [],[(900000,.nest true 1 R.length (nrOf (cInt .i64) R)),(900001,.var [.own 900000])])
def zfp (x0:SrtL) (x1:Int) (x2:Int):(List (List Int)):=bif (decide (8≤(x2 - x1))) then (loopW (fun (v1:Int×Int×(List (List Int))) next=>bif (decide (v1.1≤((x1+(((x2 - x1).tdiv 4) * 2))+1))) then (bif (decide ((x2 - x1)≤(bits .and .u64 ((zcw v1.2.1).1) ((zcx (x2 - x1)) - 1)))) then (next (v1.1+1,(zcw v1.2.1).2,(swp v1.2.2 v1.1 (x1+((bits .and .u64 ((zcw v1.2.1).1) ((zcx (x2 - x1)) - 1)) - (x2 - x1)))))) else (next (v1.1+1,(zcw v1.2.1).2,(swp v1.2.2 v1.1 (x1+(bits .and .u64 ((zcw v1.2.1).1) ((zcx (x2 - x1)) - 1))))))) else v1.2.2) ((x1+(x2 - x1).tdiv 4 * 2+2 - ((x1+(((x2 - x1).tdiv 4) * 2)) - 1)).toNat+1) ((x1+(((x2 - x1).tdiv 4) * 2)) - 1,x2 - x1,x0.l)) else x0.l
def zqq (x0:SrtL) (x1:Int) (x2:Int) (v1:Int×Int×(List (List Int))):Dl:=⟨[(9,.int .i64 v1.1)],[(7,.var [.int .u64 v1.2.1]),(900000,.nest true 1 v1.2.2.length (nrOf (cInt .i64) v1.2.2))]⟩
def z2l (x0:SrtL) (x1:Int) (x2:Int) (v1:Int×Int×(List (List Int))):Ann:=r1 1 [1,3,6,7,8,9,33] [3,7,900000,900001] [pf ((4:Int)≠0),pf (inR .i64 ((x2 - x1).tdiv 4)),pf (inR .i64 (((x2 - x1).tdiv 4) * 2)),pf (inR .i64 (x1+(((x2 - x1).tdiv 4) * 2))),pf (inR .i64 ((x1+(((x2 - x1).tdiv 4) * 2))+1))] [0,4,8,12,16] (cn (decide (v1.1≤((x1+(((x2 - x1).tdiv 4) * 2))+1))) (.reg 1 [] [(0,k214 36 [7] v1.2.1)] [1,3,6,7,8,9,10] [3,7,900000,900001] [] [pf (inR .u64 ((zcx (x2 - x1)) - 1)),pf (inR .i64 (bits .and .u64 ((zcw v1.2.1).1) ((zcx (x2 - x1)) - 1)))] [] [8,0,4] (r0 1 [1,3,6,7,8,9,10,43] [3,7,900000,900001] (cn (decide ((x2 - x1)≤(bits .and .u64 ((zcw v1.2.1).1) ((zcx (x2 - x1)) - 1)))) (r1 1 [1,3,6,7,8,9,10] [3,7,900000,900001] [pf (inR .i64 ((bits .and .u64 ((zcw v1.2.1).1) ((zcx (x2 - x1)) - 1)) - (x2 - x1)))] [0] (.reg 1 [] [(6,kswL 504 [900000] v1.2.2 v1.1 (x1+((bits .and .u64 ((zcw v1.2.1).1) ((zcx (x2 - x1)) - 1)) - (x2 - x1))))] [1,3,6,7,8,9] [3,7,900000,900001] [] [pf (inR .i64 (x1+((bits .and .u64 ((zcw v1.2.1).1) ((zcx (x2 - x1)) - 1)) - (x2 - x1))))] [] [0,4] (r1 1 [1,3,6,7,8,9] [3,7,900000,900001] [pf (inR .i64 (v1.1+1))] [0] (.next 0 [(900000,some 900000)] (zqq x0 x1 x2 (v1.1+1,(zcw v1.2.1).2,(swp v1.2.2 v1.1 (x1+((bits .and .u64 ((zcw v1.2.1).1) ((zcx (x2 - x1)) - 1)) - (x2 - x1)))))))))) (.reg 1 [] [(6,kswL 504 [900000] v1.2.2 v1.1 (x1+(bits .and .u64 ((zcw v1.2.1).1) ((zcx (x2 - x1)) - 1))))] [1,3,6,7,8,9] [3,7,900000,900001] [] [pf (inR .i64 (x1+(bits .and .u64 ((zcw v1.2.1).1) ((zcx (x2 - x1)) - 1))))] [] [0,4] (r1 1 [1,3,6,7,8,9] [3,7,900000,900001] [pf (inR .i64 (v1.1+1))] [0] (.next 0 [(900000,some 900000)] (zqq x0 x1 x2 (v1.1+1,(zcw v1.2.1).2,(swp v1.2.2 v1.1 (x1+(bits .and .u64 ((zcw v1.2.1).1) ((zcx (x2 - x1)) - 1)))))))))))) (rt [(900000,some 900000),(900001,some 900001)] (C192L x0 x1 x2 v1.2.2)))
def A192L (x0:SrtL) (x1:Int) (x2:Int):Ann:=r1 3 [1,3,6,15] [3,900000,900001] [pf (inR .i64 (x2 - x1))] [0] (cn (decide (8≤(x2 - x1))) (.reg 3 [] [(1001,k213 (x2 - x1))] [1,3,6,7,8,9] [3,7,900000,900001] [] [pf (inR .u64 (x2 - x1)),pf ((4:Int)≠0),pf (inR .i64 ((x2 - x1).tdiv 4)),pf (inR .i64 (((x2 - x1).tdiv 4) * 2)),pf (inR .i64 (x1+(((x2 - x1).tdiv 4) * 2))),pf (inR .i64 ((x1+(((x2 - x1).tdiv 4) * 2)) - 1))] [] [0,24,4,8,12,16,20] (.loop (Int×Int×(List (List Int))) (zqq x0 x1 x2) [] [] [(900000,some 900000)] (zqq x0 x1 x2 ((x1+(((x2 - x1).tdiv 4) * 2)) - 1,x2 - x1,x0.l)) (z2l x0 x1 x2))) (rt [(900000,some 900000),(900001,some 900001)] (C192L x0 x1 x2 x0.l)))
theorem zef (x0:SrtL) (x1 x2:Int) (h:0≤x1∧x1≤x2∧x2≤255):Sw x1 x2 x0.l (zfp x0 x1 x2):=by
 unfold zfp
 have h4:=tdiv4 (x2 - x1) om
 cases hc:decide (8≤x2 - x1) with
 | false=>exact .refl
 | true =>
  have hc:=of_decide_eq_true hc
  have h8:=zek (x2 - x1) om
  refine zcj (fun v=>x1+(x2 - x1).tdiv 4 * 2 - 1≤v.1∧Sw x1 x2 x0.l v.2.2) (fun v=>(x1+(x2 - x1).tdiv 4 * 2+2 - v.1).toNat) (fun l=>Sw x1 x2 x0.l l) (fun v next hv hn=>?_) _ _ zau ⟨by dsimp only;omega,.refl⟩
  have h7:=zdz (zcw v.2.1).1 (zcx (x2 - x1) - 1) om
  cases hd:decide (v.1≤x1+(x2 - x1).tdiv 4 * 2+1) with
  | false=>exact hv.2
  | true =>
   have hd:=of_decide_eq_true hd
   cases he:decide (x2 - x1≤bits .and .u64 (zcw v.2.1).1 (zcx (x2 - x1) - 1)) with
   | true =>
    have he:=of_decide_eq_true he
    exact hn _ ⟨by dsimp only;omega,.step hv.2 _ _ om om⟩ zau
   | false =>
    have he:=of_decide_eq_false he
    exact hn _ ⟨by dsimp only;omega,.step hv.2 _ _ om om⟩ zau

theorem zfz (x0:SrtL) (x1:Int) (x2:Int) (hx:x0.l.length≤255) (hok:OkL x0) (hab:0≤x1∧x1≤x2∧x2≤x0.l.length):FnMT Try.prog 192 [.agg [.clo 103 [.vp 900001 0],.clo 187 [.own 900000,.k Try.prog.globals.size 42]],.int .i64 x1,.int .i64 x2] [.nest true 1 x0.l.length (nrOf (cInt .i64) x0.l),.var [.own 900000]] (C192L x0 x1 x2 (zfp x0 x1 x2)):=by
 have aux:∀ R,zfp x0 x1 x2=R→slim (C192L x0 x1 x2 R) (A192L x0 x1 x2) []:=by
  intro R hR
  refine rg ⟨by ( intros;simp only [inR];omega),trivial⟩ ?_
  revert hR;refine cd (fun hc1 hR=>?_) fun hc1 hR=>?_
  ·
    refine rg ⟨by ( intros;simp only [inR];omega),by trivial,by (have h9:=tdiv4 (x2 - x1) om;((try clear hR);(try clear hK1);intros;(try simp only [w1,w2,w3,w4,w5,w6,zbs,inR,IntKind.bits] at *));omega),by (have h9:=tdiv4 (x2 - x1) om;((try clear hR);(try clear hK1);intros;(try simp only [w1,w2,w3,w4,w5,w6,zbs,inR,IntKind.bits] at *));omega),by (have h9:=tdiv4 (x2 - x1) om;((try clear hR);(try clear hK1);intros;(try simp only [w1,w2,w3,w4,w5,w6,zbs,inR,IntKind.bits] at *));omega),by (have h9:=tdiv4 (x2 - x1) om;((try clear hR);(try clear hK1);intros;(try simp only [w1,w2,w3,w4,w5,w6,zbs,inR,IntKind.bits] at *));omega),by (intros;omega),trivial⟩ ?_
    revert hR;refine lW (fun v=>(x1+(x2 - x1).tdiv 4 * 2 - 1≤v.1)∧(Sw x1 x2 x0.l v.2.2∧v.2.2.length=x0.l.length)) (fun v=>(x1+(x2 - x1).tdiv 4 * 2+2 - (v.1)).toNat) zai (Nat.lt_succ_self _) rfl fun m1 v1 F1 hI1 hM1 hR hK1=>?_
    refine rg ⟨by trivial,by (have h9:=tdiv4 (x2 - x1) om;((try clear hR);(try clear hK1);intros;(try simp only [w1,w2,w3,w4,w5,w6,zbs,inR,IntKind.bits] at *));omega),by (have h9:=tdiv4 (x2 - x1) om;((try clear hR);(try clear hK1);intros;(try simp only [w1,w2,w3,w4,w5,w6,zbs,inR,IntKind.bits] at *));omega),by (have h9:=tdiv4 (x2 - x1) om;((try clear hR);(try clear hK1);intros;(try simp only [w1,w2,w3,w4,w5,w6,zbs,inR,IntKind.bits] at *));omega),by (have h9:=tdiv4 (x2 - x1) om;((try clear hR);(try clear hK1);intros;(try simp only [w1,w2,w3,w4,w5,w6,zbs,inR,IntKind.bits] at *));omega),trivial⟩ ?_
    revert hR;refine cd (fun hc2 hR=>?_) fun hc2 hR=>?_
    ·
      refine rg ⟨by ((try clear hR hK1);intros;(try simp only [decide_eq_true_eq,decide_eq_false_iff_not,Bool.or_eq_true,Bool.and_eq_true,zbr,zbo,zbq,Bool.not_eq_true',inR] at *);(repeat' apply And.intro)<;>(have h9:=tdiv4 (x2 - x1) om;have h8:=zek (x2 - x1) om;have h7:=zdz (zcw v1.2.1).1 (zcx (x2 - x1) - 1) om;((try clear hR);(try clear hK1);intros;(try simp only [w1,w2,w3,w4,w5,w6,zbs,inR,IntKind.bits] at *));omega)),by ((try clear hR hK1);intros;(try simp only [decide_eq_true_eq,decide_eq_false_iff_not,Bool.or_eq_true,Bool.and_eq_true,zbr,zbo,zbq,Bool.not_eq_true',inR] at *);(repeat' apply And.intro)<;>(have h9:=tdiv4 (x2 - x1) om;have h8:=zek (x2 - x1) om;have h7:=zdz (zcw v1.2.1).1 (zcx (x2 - x1) - 1) om;((try clear hR);(try clear hK1);intros;(try simp only [w1,w2,w3,w4,w5,w6,zbs,inR,IntKind.bits] at *));omega)),trivial,trivial⟩ ?_
      refine rg trivial ?_
      revert hR;refine cd (fun hc3 hR=>?_) fun hc3 hR=>?_
      ·
        refine rg ⟨by ((try clear hR hK1);intros;(try simp only [decide_eq_true_eq,decide_eq_false_iff_not,Bool.or_eq_true,Bool.and_eq_true,zbr,zbo,zbq,Bool.not_eq_true',inR] at *);(repeat' apply And.intro)<;>(first | (intros;omega) | (have h9:=tdiv4 (x2 - x1) om;have h8:=zek (x2 - x1) om;have h7:=zdz (zcw v1.2.1).1 (zcx (x2 - x1) - 1) om;((try clear hR);(try clear hK1);intros;(try simp only [w1,w2,w3,w4,w5,w6,zbs,inR,IntKind.bits] at *));omega))),trivial⟩ ?_
        refine rg ⟨by ((try clear hR hK1);intros;(try simp only [decide_eq_true_eq,decide_eq_false_iff_not,Bool.or_eq_true,Bool.and_eq_true,zbr,zbo,zbq,Bool.not_eq_true',inR] at *);(repeat' apply And.intro)<;>(first | (intros;omega) | (have h9:=tdiv4 (x2 - x1) om;have h8:=zek (x2 - x1) om;have h7:=zdz (zcw v1.2.1).1 (zcx (x2 - x1) - 1) om;((try clear hR);(try clear hK1);intros;(try simp only [w1,w2,w3,w4,w5,w6,zbs,inR,IntKind.bits] at *));omega))),⟨by (have h9:=tdiv4 (x2 - x1) om;((try clear hR);(try clear hK1);intros;(try simp only [w1,w2,w3,w4,w5,w6,zbs,inR,IntKind.bits] at *));omega),by ((try clear hR hK1);intros;(try simp only [decide_eq_true_eq,decide_eq_false_iff_not,Bool.or_eq_true,Bool.and_eq_true,zbr,zbo,zbq,Bool.not_eq_true',inR] at *);(repeat' apply And.intro)<;>(first | (intros;omega) | (have h9:=tdiv4 (x2 - x1) om;have h8:=zek (x2 - x1) om;have h7:=zdz (zcw v1.2.1).1 (zcx (x2 - x1) - 1) om;((try clear hR);(try clear hK1);intros;(try simp only [w1,w2,w3,w4,w5,w6,zbs,inR,IntKind.bits] at *));omega)))⟩,trivial⟩ ?_
        refine rg ⟨by (have h9:=tdiv4 (x2 - x1) om;((try clear hR);(try clear hK1);intros;(try simp only [w1,w2,w3,w4,w5,w6,zbs,inR,IntKind.bits] at *));omega),trivial⟩ ?_
        exact hK1 (v1.1+1,(zcw v1.2.1).2,(swp v1.2.2 v1.1 (x1+((bits .and .u64 ((zcw v1.2.1).1) ((zcx (x2 - x1)) - 1)) - (x2 - x1))))) (by ((try clear hR hK1);intros;(try simp only [decide_eq_true_eq,decide_eq_false_iff_not,Bool.or_eq_true,Bool.and_eq_true,zbr,zbo,zbq,Bool.not_eq_true',inR] at *);(repeat' apply And.intro)<;>(first | (intros;omega) | (((try clear hR);(try clear hK1);intros;(try simp only [w1,w2,w3,w4,w5,w6,zbs,inR,IntKind.bits] at *));omega) | (have h9:=tdiv4 (x2 - x1) om;have h8:=zek (x2 - x1) om;have h7:=zdz (zcw v1.2.1).1 (zcx (x2 - x1) - 1) om;((try clear hR);(try clear hK1);intros;(try simp only [w1,w2,w3,w4,w5,w6,zbs,inR,IntKind.bits] at *));(repeat' apply And.intro)<;>first | omega | ((repeat first | refine Sw.step ?_ _ _ om om)<;>first | exact hI1.2.1 | exact Sw.refl | exact hI1.2.1.mono om om))))) zar hR
      ·
        refine rg ⟨by ((try clear hR hK1);intros;(try simp only [decide_eq_true_eq,decide_eq_false_iff_not,Bool.or_eq_true,Bool.and_eq_true,zbr,zbo,zbq,Bool.not_eq_true',inR] at *);(repeat' apply And.intro)<;>(first | (intros;omega) | (have h9:=tdiv4 (x2 - x1) om;have h8:=zek (x2 - x1) om;have h7:=zdz (zcw v1.2.1).1 (zcx (x2 - x1) - 1) om;((try clear hR);(try clear hK1);intros;(try simp only [w1,w2,w3,w4,w5,w6,zbs,inR,IntKind.bits] at *));omega))),⟨by (have h9:=tdiv4 (x2 - x1) om;((try clear hR);(try clear hK1);intros;(try simp only [w1,w2,w3,w4,w5,w6,zbs,inR,IntKind.bits] at *));omega),by ((try clear hR hK1);intros;(try simp only [decide_eq_true_eq,decide_eq_false_iff_not,Bool.or_eq_true,Bool.and_eq_true,zbr,zbo,zbq,Bool.not_eq_true',inR] at *);(repeat' apply And.intro)<;>(first | (intros;omega) | (have h9:=tdiv4 (x2 - x1) om;have h8:=zek (x2 - x1) om;have h7:=zdz (zcw v1.2.1).1 (zcx (x2 - x1) - 1) om;((try clear hR);(try clear hK1);intros;(try simp only [w1,w2,w3,w4,w5,w6,zbs,inR,IntKind.bits] at *));omega)))⟩,trivial⟩ ?_
        refine rg ⟨by (have h9:=tdiv4 (x2 - x1) om;((try clear hR);(try clear hK1);intros;(try simp only [w1,w2,w3,w4,w5,w6,zbs,inR,IntKind.bits] at *));omega),trivial⟩ ?_
        exact hK1 (v1.1+1,(zcw v1.2.1).2,(swp v1.2.2 v1.1 (x1+(bits .and .u64 ((zcw v1.2.1).1) ((zcx (x2 - x1)) - 1))))) (by ((try clear hR hK1);intros;(try simp only [decide_eq_true_eq,decide_eq_false_iff_not,Bool.or_eq_true,Bool.and_eq_true,zbr,zbo,zbq,Bool.not_eq_true',inR] at *);(repeat' apply And.intro)<;>(first | (intros;omega) | (((try clear hR);(try clear hK1);intros;(try simp only [w1,w2,w3,w4,w5,w6,zbs,inR,IntKind.bits] at *));omega) | (have h9:=tdiv4 (x2 - x1) om;have h8:=zek (x2 - x1) om;have h7:=zdz (zcw v1.2.1).1 (zcx (x2 - x1) - 1) om;((try clear hR);(try clear hK1);intros;(try simp only [w1,w2,w3,w4,w5,w6,zbs,inR,IntKind.bits] at *));(repeat' apply And.intro)<;>first | omega | ((repeat first | refine Sw.step ?_ _ _ om om)<;>first | exact hI1.2.1 | exact Sw.refl | exact hI1.2.1.mono om om))))) zar hR
    ·
      exact congrArg (C192L x0 x1 x2) hR
  ·
    exact congrArg (C192L x0 x1 x2) hR
 exact FnM.go 54 Try.func192 zax zax (A192L x0 x1 x2) zax (aux _ rfl)
def k192L (d:Nat) (ids:List Nat) (x0:SrtL) (x1:Int) (x2:Int):Cl:=(hresM d ids (C192L x0 x1 x2 (zfp x0 x1 x2)),k3 (zfz x0 x1 x2))
end Go.Proofs.Ytaageiiodlfeiaa
