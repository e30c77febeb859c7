import Derived.Test.YtkkijpibajigfaaVL5
set_option maxHeartbeats 4000000
set_option linter.unusedSimpArgs false
set_option linter.unusedVariables false
namespace Go.Proofs.Ytkkijpibajigfaa
open Go Go.Lite Go.Proofs
def tab0:List UInt8:=[0,1,2,2,3,3,3,3,4,4,4,4,4,4,4,4,5,5,5,5,5,5,5,5,5,5,5,5,5,5,5,5,6,6,6,6,6,6,6,6,6,6,6,6,6,6,6,6,6,6,6,6,6,6,6,6,6,6,6,6,6,6,6,6,7,7,7,7,7,7,7,7,7,7,7,7,7,7,7,7,7,7,7,7,7,7,7,7,7,7,7,7,7,7,7,7,7,7,7,7,7,7,7,7,7,7,7,7,7,7,7,7,7,7,7,7,7,7,7,7,7,7,7,7,7,7,7,7,8,8,8,8,8,8,8,8,8,8,8,8,8,8,8,8,8,8,8,8,8,8,8,8,8,8,8,8,8,8,8,8,8,8,8,8,8,8,8,8,8,8,8,8,8,8,8,8,8,8,8,8,8,8,8,8,8,8,8,8,8,8,8,8,8,8,8,8,8,8,8,8,8,8,8,8,8,8,8,8,8,8,8,8,8,8,8,8,8,8,8,8,8,8,8,8,8,8,8,8,8,8,8,8,8,8,8,8,8,8,8,8,8,8,8,8,8,8,8,8,8,8,8,8,8,8,8,8]
set_option maxRecDepth 100000 in
theorem tab0_len:tab0.length=256:=rfl
def C153 (R:Int):LV×List (Nat×BC):=(.int .i64 R,[])
def bitsLen64 (x0:Int):Int:=jn (fun K1=>bif (decide (4294967296≤x0)) then (K1 (x0 / 2 ^ 32,32)) else (K1 (x0,0))) (fun (j1:Int×Int)=>jn (fun K2=>bif (decide (65536≤j1.1)) then (K2 (j1.1 / 2 ^ 16,j1.2+16)) else (K2 (j1.1,j1.2))) (fun (j2:Int×Int)=>bif (decide (256≤j2.1)) then ((j2.2+8)+((tab0.getD ((j2.1 / 2 ^ 8).toNat) 0).toNat:Int)) else (j2.2+((tab0.getD j2.1.toNat 0).toNat:Int))))
def D153j1 (x0:Int) (j1:Int×Int):Dl:=⟨[(0,.int .u64 j1.1),(2,.int .i64 j1.2)],[]⟩
def D153j2 (x0:Int) (j1:Int×Int) (j2:Int×Int):Dl:=⟨[(0,.int .u64 j2.1),(2,.int .i64 j2.2)],[]⟩
def A153j2 (x0:Int) (j1:Int×Int) (j2:Int×Int):Ann:=r0 1 [0,2,14] [] (cn (decide (256≤j2.1)) (r1 1 [0,2] [] [pf (0≤(8:Int)∧8≤(IntKind.bits .u64:Int))] [0] (r1 1 [0,2] [] [pf (inR .i64 (j2.2+8))] [0] (r1 1 [2] [] [pf (inR .u8 (j2.1 / 2 ^ 8)),pf (0≤(j2.1 / 2 ^ 8:Int)∧(j2.1 / 2 ^ 8:Int)<((tab0.length:Nat):Int)),pf (inR .i64 ((tab0.getD ((j2.1 / 2 ^ 8).toNat) 0).toNat:Int)),pf (inR .i64 ((j2.2+8)+((tab0.getD ((j2.1 / 2 ^ 8).toNat) 0).toNat:Int)))] [0,4,8,12] (rt [] (C153 ((j2.2+8)+((tab0.getD ((j2.1 / 2 ^ 8).toNat) 0).toNat:Int))))))) (r1 1 [2] [] [pf (inR .u8 j2.1),pf (0≤(j2.1:Int)∧(j2.1:Int)<((tab0.length:Nat):Int)),pf (inR .i64 ((tab0.getD j2.1.toNat 0).toNat:Int)),pf (inR .i64 (j2.2+((tab0.getD j2.1.toNat 0).toNat:Int)))] [0,4,8,12] (rt [] (C153 (j2.2+((tab0.getD j2.1.toNat 0).toNat:Int))))))
def A153j1 (x0:Int) (j1:Int×Int):Ann:=.join 0 (Int×Int) (D153j2 x0 j1) [0,2] [] (r0 1 [0,2,8] [] (cn (decide (65536≤j1.1)) (r1 1 [0,2] [] [pf (0≤(16:Int)∧16≤(IntKind.bits .u64:Int))] [0] (r1 1 [0,2] [] [pf (inR .i64 (j1.2+16))] [0] (.next 0 [] (D153j2 x0 j1 (j1.1 / 2 ^ 16,j1.2+16))))) (.next 0 [] (D153j2 x0 j1 (j1.1,j1.2))))) (A153j2 x0 j1)
def A153 (x0:Int):Ann:=r0 1 [0,2] [] (.join 0 (Int×Int) (D153j1 x0) [0,2] [] (r0 1 [0,2,4] [] (cn (decide (4294967296≤x0)) (r1 1 [0,2] [] [pf (0≤(32:Int)∧32≤(IntKind.bits .u64:Int))] [0] (r0 1 [0,2] [] (.next 0 [] (D153j1 x0 (x0 / 2 ^ 32,32))))) (.next 0 [] (D153j1 x0 (x0,0))))) (A153j1 x0))
theorem ok_bits_Len64 (x0:Int) (hx:0≤x0∧x0≤255):FnT Try.prog 153 [.int .u64 x0] (C153 (bitsLen64 x0)):=by
 have aux:∀ R,bitsLen64 x0=R→slim (C153 R) (A153 x0) []:=by
  intro R hR
  refine rg trivial ?_
  revert hR;refine jN (fun v=>v.1=x0∧v.2=0) (fun F101 hR hJ101=>?_) (fun j1 hR hJ1=>?_)
  ·
    refine rg trivial ?_
    revert hR;refine cd (fun hc1 hR=>?_) fun hc1 hR=>?_
    ·
      refine rg ⟨by ((try clear hR);(try clear hJ101);(try clear hJ102);((try clear hR);intros;(try simp only [w1,w2,w3,w4,w5,w6,swp_len,inR,IntKind.bits] at *));omega),trivial⟩ ?_
      refine rg trivial ?_
      exact hJ101 (x0 / 2 ^ 32,32) hR (by ((try clear hR);(try clear hJ101);(try clear hJ102);((try clear hR);intros;(try simp only [w1,w2,w3,w4,w5,w6,swp_len,inR,IntKind.bits] at *));omega))
    ·
      exact hJ101 (x0,0) hR (by (intros;omega))
  ·
    revert hR;refine jN (fun v=>v.1=x0∧v.2=0) (fun F102 hR hJ102=>?_) (fun j2 hR hJ2=>?_)
    ·
      refine rg trivial ?_
      revert hR;refine cd (fun hc2 hR=>?_) fun hc2 hR=>?_
      ·
        refine rg ⟨by ((try clear hR);(try clear hJ101);(try clear hJ102);((try clear hR);intros;(try simp only [w1,w2,w3,w4,w5,w6,swp_len,inR,IntKind.bits] at *));omega),trivial⟩ ?_
        refine rg ⟨by ((try clear hR);(try clear hJ101);(try clear hJ102);((try clear hR);intros;(try simp only [w1,w2,w3,w4,w5,w6,swp_len,inR,IntKind.bits] at *));omega),trivial⟩ ?_
        exact hJ102 (j1.1 / 2 ^ 16,j1.2+16) hR (by ((try clear hR);(try clear hJ101);(try clear hJ102);((try clear hR);intros;(try simp only [w1,w2,w3,w4,w5,w6,swp_len,inR,IntKind.bits] at *));omega))
      ·
        exact hJ102 (j1.1,j1.2) hR (by with_reducible assumption)
    ·
      refine rg trivial ?_
      revert hR;refine cd (fun hc3 hR=>?_) fun hc3 hR=>?_
      ·
        refine rg ⟨by ((try clear hR);(try clear hJ101);(try clear hJ102);((try clear hR);intros;(try simp only [w1,w2,w3,w4,w5,w6,swp_len,inR,IntKind.bits] at *));omega),trivial⟩ ?_
        refine rg ⟨by ((try clear hR);(try clear hJ101);(try clear hJ102);((try clear hR);intros;(try simp only [w1,w2,w3,w4,w5,w6,swp_len,inR,IntKind.bits] at *));omega),trivial⟩ ?_
        refine rg ⟨by ((try clear hR);(try clear hJ101);(try clear hJ102);((try clear hR);intros;(try simp only [w1,w2,w3,w4,w5,w6,swp_len,inR,IntKind.bits] at *));omega),by ((try clear hR);(try clear hJ101);(try clear hJ102);((try clear hR);intros;(try simp only [w1,w2,w3,w4,w5,w6,swp_len,inR,IntKind.bits] at *));omega),by ((try clear hR);(try clear hJ101);(try clear hJ102);((try clear hR);intros;(try simp only [w1,w2,w3,w4,w5,w6,swp_len,inR,IntKind.bits] at *));omega),by ((try clear hR);(try clear hJ101);(try clear hJ102);((try clear hR);intros;(try simp only [w1,w2,w3,w4,w5,w6,swp_len,inR,IntKind.bits] at *));omega),trivial⟩ ?_
        exact congrArg C153 hR
      ·
        refine rg ⟨by ((try clear hR);(try clear hJ101);(try clear hJ102);((try clear hR);intros;(try simp only [w1,w2,w3,w4,w5,w6,swp_len,inR,IntKind.bits] at *));omega),by (have h9:=tab0_len;have h8:=(tab0.getD j2.1.toNat 0).toNat_lt;have h7:=(tab0.getD (j2.1 / 2 ^ 8).toNat 0).toNat_lt;((try clear hR);intros;(try simp only [w1,w2,w3,w4,w5,w6,swp_len,inR,IntKind.bits] at *));omega),by (have h9:=tab0_len;have h8:=(tab0.getD j2.1.toNat 0).toNat_lt;have h7:=(tab0.getD (j2.1 / 2 ^ 8).toNat 0).toNat_lt;((try clear hR);intros;(try simp only [w1,w2,w3,w4,w5,w6,swp_len,inR,IntKind.bits] at *));omega),by (have h9:=tab0_len;have h8:=(tab0.getD j2.1.toNat 0).toNat_lt;have h7:=(tab0.getD (j2.1 / 2 ^ 8).toNat 0).toNat_lt;((try clear hR);intros;(try simp only [w1,w2,w3,w4,w5,w6,swp_len,inR,IntKind.bits] at *));omega),trivial⟩ ?_
        exact congrArg C153 hR
 exact Fn.go 25 Try.func153 (by kernel_rfl) (by kernel_rfl) (by simp [C153,Frs,FrsL]) (A153 x0) (by kernel_rfl) (aux _ rfl)
def k153 (x0:Int):Cl:=(hres (C153 (bitsLen64 x0)),k1 (ok_bits_Len64 x0))
def C131 (R:Int):LV×List (Nat×BC):=(.int .i64 R,[])
def bitsLen (x0:Int):Int:=bitsLen64 x0
def A131 (x0:Int):Ann:=r0 1 [0,2] [] (cn false (.next 99 [] ⟨[],[]⟩) (.reg 1 [] [(1,k153 x0)] [2] [] [] [] [] [0] (rt [] (C131 (bitsLen64 x0)))))
theorem bitsLen_r (x0:Int) (h:0≤x0∧x0≤255):0≤bitsLen x0∧bitsLen x0≤8∧1≤(2:Int) ^ (bitsLen x0).toNat∧(2:Int) ^ (bitsLen x0).toNat≤2 * x0+1∧(x0=0 ∨ (2:Int) ^ (bitsLen x0).toNat≤2 * x0):=by
 have key:∀ n:Fin 256,0≤bitsLen (n.val:Int)∧bitsLen (n.val:Int)≤8∧1≤(2:Int) ^ (bitsLen (n.val:Int)).toNat∧(2:Int) ^ (bitsLen (n.val:Int)).toNat≤2 * (n.val:Int)+1∧((n.val:Int)=0 ∨ (2:Int) ^ (bitsLen (n.val:Int)).toNat≤2 * (n.val:Int)):=by decide +kernel
 have e:x0=((⟨x0.toNat,by omega⟩:Fin 256).val:Int):=by simp only [];omega
 rw [e]
 exact key _

theorem ok_bits_Len (x0:Int) (hx:0≤x0∧x0≤255):FnT Try.prog 131 [.int .u64 x0] (C131 (bitsLen x0)):=by
 have aux:∀ R,bitsLen x0=R→slim (C131 R) (A131 x0) []:=by
  intro R hR
  refine rg trivial ?_
  refine ⟨fun h=>(by cases h),fun _=>?_⟩
  refine rg ⟨by trivial,trivial⟩ ?_
  exact congrArg C131 hR
 exact Fn.go 8 Try.func131 (by kernel_rfl) (by kernel_rfl) (by simp [C131,Frs,FrsL]) (A131 x0) (by kernel_rfl) (aux _ rfl)
def k131 (x0:Int):Cl:=(hres (C131 (bitsLen x0)),k1 (ok_bits_Len x0))
def C167 (R:Int):LV×List (Nat×BC):=(.int .u64 R,[])
def nextPow (x0:Int):Int:=1 * 2 ^ ((bitsLen x0).toNat)
def A167 (x0:Int):Ann:=.reg 3 [] [(1002,k131 x0)] [2] [] [] [pf (inR .u64 x0),pf (inR .u64 (bitsLen x0)),pf (0≤((bitsLen x0):Int)∧(bitsLen x0)≤(IntKind.bits .u64:Int)),pf (inR .u64 (1 * 2 ^ ((bitsLen x0).toNat)))] [] [0,16,4,8,12] (rt [] (C167 (1 * 2 ^ ((bitsLen x0).toNat))))
theorem nextPow_r (x0:Int) (h:1≤x0∧x0≤255):1≤nextPow x0∧nextPow x0≤2 * x0:=by
 have:=bitsLen_r x0 (by omega)
 unfold nextPow
 omega

theorem ok_sort_nextPowerOfTwo (x0:Int) (hx:0≤x0∧x0≤255):FnT Try.prog 167 [.int .i64 x0] (C167 (nextPow x0)):=by
 have aux:∀ R,nextPow x0=R→slim (C167 R) (A167 x0) []:=by
  intro R hR
  refine rg ⟨by ( intros;simp only [inR];omega),by (have h9:=bitsLen_r x0 hx;((try clear hR);intros;(try simp only [w1,w2,w3,w4,w5,w6,swp_len,inR,IntKind.bits] at *));omega),by (have h9:=bitsLen_r x0 hx;((try clear hR);intros;(try simp only [w1,w2,w3,w4,w5,w6,swp_len,inR,IntKind.bits] at *));omega),by (have h9:=bitsLen_r x0 hx;((try clear hR);intros;(try simp only [w1,w2,w3,w4,w5,w6,swp_len,inR,IntKind.bits] at *));omega),by trivial,trivial⟩ ?_
  exact congrArg C167 hR
 exact Fn.go 10 Try.func167 (by kernel_rfl) (by kernel_rfl) (by simp [C167,Frs,FrsL]) (A167 x0) (by kernel_rfl) (aux _ rfl)
def k167 (x0:Int):Cl:=(hres (C167 (nextPow x0)),k1 (ok_sort_nextPowerOfTwo x0))
def C168 (x0:Int) (R:Int×Int):LV×List (Nat×BC):=(.int .u64 R.1,[(900000,.var [.int .u64 R.2])])
def xorNext (x0:Int):Int×Int:=(bits .xor .u64 (bits .xor .u64 (bits .xor .u64 x0 (IntKind.wrap .u64 (x0 * 2 ^ 13))) ((bits .xor .u64 x0 (IntKind.wrap .u64 (x0 * 2 ^ 13))) / 2 ^ 7)) (IntKind.wrap .u64 ((bits .xor .u64 (bits .xor .u64 x0 (IntKind.wrap .u64 (x0 * 2 ^ 13))) ((bits .xor .u64 x0 (IntKind.wrap .u64 (x0 * 2 ^ 13))) / 2 ^ 7)) * 2 ^ 17)),bits .xor .u64 (bits .xor .u64 (bits .xor .u64 x0 (IntKind.wrap .u64 (x0 * 2 ^ 13))) ((bits .xor .u64 x0 (IntKind.wrap .u64 (x0 * 2 ^ 13))) / 2 ^ 7)) (IntKind.wrap .u64 ((bits .xor .u64 (bits .xor .u64 x0 (IntKind.wrap .u64 (x0 * 2 ^ 13))) ((bits .xor .u64 x0 (IntKind.wrap .u64 (x0 * 2 ^ 13))) / 2 ^ 7)) * 2 ^ 17)))
def A168 (x0:Int):Ann:=.reg 5 [(1006,.wrap),(3006,.wrap)] [] [2] [900000] [] [pf (0≤(13:Int)∧13≤(IntKind.bits .u64:Int)),pf (0≤(7:Int)∧7≤(IntKind.bits .u64:Int)),pf (0≤(17:Int)∧17≤(IntKind.bits .u64:Int))] [] [0,4,8] (rt [(900000,some 900000)] (C168 x0 (bits .xor .u64 (bits .xor .u64 (bits .xor .u64 x0 (IntKind.wrap .u64 (x0 * 2 ^ 13))) ((bits .xor .u64 x0 (IntKind.wrap .u64 (x0 * 2 ^ 13))) / 2 ^ 7)) (IntKind.wrap .u64 ((bits .xor .u64 (bits .xor .u64 x0 (IntKind.wrap .u64 (x0 * 2 ^ 13))) ((bits .xor .u64 x0 (IntKind.wrap .u64 (x0 * 2 ^ 13))) / 2 ^ 7)) * 2 ^ 17)),bits .xor .u64 (bits .xor .u64 (bits .xor .u64 x0 (IntKind.wrap .u64 (x0 * 2 ^ 13))) ((bits .xor .u64 x0 (IntKind.wrap .u64 (x0 * 2 ^ 13))) / 2 ^ 7)) (IntKind.wrap .u64 ((bits .xor .u64 (bits .xor .u64 x0 (IntKind.wrap .u64 (x0 * 2 ^ 13))) ((bits .xor .u64 x0 (IntKind.wrap .u64 (x0 * 2 ^ 13))) / 2 ^ 7)) * 2 ^ 17)))))
theorem ok___sort_xorshift__Next (x0:Int):FnMT Try.prog 168 [.vp 900000 0] [.var [.int .u64 x0]] (C168 x0 (xorNext x0)):=by
 have aux:∀ R,xorNext x0=R→slim (C168 x0 R) (A168 x0) []:=by
  intro R hR
  refine rg ⟨by trivial,by trivial,by trivial,trivial⟩ ?_
  exact congrArg (C168 x0) hR
 exact FnM.go 33 Try.func168 (by kernel_rfl) (by kernel_rfl) (A168 x0) (by kernel_rfl) (aux _ rfl)
def k168 (d:Nat) (ids:List Nat) (x0:Int):Cl:=(hresM d ids (C168 x0 (xorNext x0)),k0 (ok___sort_xorshift__Next x0))
def C156L (x0:SrtL) (x1:Int) (x2:Int) (R:(List (List Int))):LV×List (Nat×BC):=(.tup [],[(900000,.nest true 1 R.length (nrOf (cInt .i64) R)),(900001,.var [.own 900000])])
def breakPatL (x0:SrtL) (x1:Int) (x2:Int):(List (List Int)):=bif (decide (8≤(x2 - x1))) then (loopW (fun (v1:Int×Int×(List (List Int))) next=>bif (decide (v1.1≤((x1+(((x2 - x1).tdiv 4) * 2))+1))) then (bif (decide ((x2 - x1)≤(bits .and .u64 ((xorNext v1.2.1).1) ((nextPow (x2 - x1)) - 1)))) then (next (v1.1+1,(xorNext v1.2.1).2,(swp v1.2.2 v1.1 (x1+((bits .and .u64 ((xorNext v1.2.1).1) ((nextPow (x2 - x1)) - 1)) - (x2 - x1)))))) else (next (v1.1+1,(xorNext v1.2.1).2,(swp v1.2.2 v1.1 (x1+(bits .and .u64 ((xorNext v1.2.1).1) ((nextPow (x2 - x1)) - 1))))))) else v1.2.2) ((x1+(x2 - x1).tdiv 4 * 2+2 - ((x1+(((x2 - x1).tdiv 4) * 2)) - 1)).toNat+1) ((x1+(((x2 - x1).tdiv 4) * 2)) - 1,x2 - x1,x0.l)) else x0.l
def D156Lb1 (x0:SrtL) (x1:Int) (x2:Int) (v1:Int×Int×(List (List Int))):Dl:=⟨[(9,.int .i64 v1.1)],[(7,.var [.int .u64 v1.2.1]),(900000,.nest true 1 v1.2.2.length (nrOf (cInt .i64) v1.2.2))]⟩
def A156Lb1 (x0:SrtL) (x1:Int) (x2:Int) (v1:Int×Int×(List (List Int))):Ann:=r1 1 [1,3,6,7,8,9,33] [3,7,900000,900001] [pf ((4:Int) ≠ 0),pf (inR .i64 ((x2 - x1).tdiv 4)),pf (inR .i64 (((x2 - x1).tdiv 4) * 2)),pf (inR .i64 (x1+(((x2 - x1).tdiv 4) * 2))),pf (inR .i64 ((x1+(((x2 - x1).tdiv 4) * 2))+1))] [0,4,8,12,16] (cn (decide (v1.1≤((x1+(((x2 - x1).tdiv 4) * 2))+1))) (.reg 1 [] [(0,k168 36 [7] v1.2.1)] [1,3,6,7,8,9,10] [3,7,900000,900001] [] [pf (inR .u64 ((nextPow (x2 - x1)) - 1)),pf (inR .i64 (bits .and .u64 ((xorNext v1.2.1).1) ((nextPow (x2 - x1)) - 1)))] [] [8,0,4] (r0 1 [1,3,6,7,8,9,10,43] [3,7,900000,900001] (cn (decide ((x2 - x1)≤(bits .and .u64 ((xorNext v1.2.1).1) ((nextPow (x2 - x1)) - 1)))) (r1 1 [1,3,6,7,8,9,10] [3,7,900000,900001] [pf (inR .i64 ((bits .and .u64 ((xorNext v1.2.1).1) ((nextPow (x2 - x1)) - 1)) - (x2 - x1)))] [0] (.reg 1 [] [(6,kswL 504 [900000] v1.2.2 v1.1 (x1+((bits .and .u64 ((xorNext v1.2.1).1) ((nextPow (x2 - x1)) - 1)) - (x2 - x1))))] [1,3,6,7,8,9] [3,7,900000,900001] [] [pf (inR .i64 (x1+((bits .and .u64 ((xorNext v1.2.1).1) ((nextPow (x2 - x1)) - 1)) - (x2 - x1))))] [] [0,4] (r1 1 [1,3,6,7,8,9] [3,7,900000,900001] [pf (inR .i64 (v1.1+1))] [0] (.next 0 [(900000,some 900000)] (D156Lb1 x0 x1 x2 (v1.1+1,(xorNext v1.2.1).2,(swp v1.2.2 v1.1 (x1+((bits .and .u64 ((xorNext v1.2.1).1) ((nextPow (x2 - x1)) - 1)) - (x2 - x1)))))))))) (.reg 1 [] [(6,kswL 504 [900000] v1.2.2 v1.1 (x1+(bits .and .u64 ((xorNext v1.2.1).1) ((nextPow (x2 - x1)) - 1))))] [1,3,6,7,8,9] [3,7,900000,900001] [] [pf (inR .i64 (x1+(bits .and .u64 ((xorNext v1.2.1).1) ((nextPow (x2 - x1)) - 1))))] [] [0,4] (r1 1 [1,3,6,7,8,9] [3,7,900000,900001] [pf (inR .i64 (v1.1+1))] [0] (.next 0 [(900000,some 900000)] (D156Lb1 x0 x1 x2 (v1.1+1,(xorNext v1.2.1).2,(swp v1.2.2 v1.1 (x1+(bits .and .u64 ((xorNext v1.2.1).1) ((nextPow (x2 - x1)) - 1)))))))))))) (rt [(900000,some 900000),(900001,some 900001)] (C156L x0 x1 x2 v1.2.2)))
def A156L (x0:SrtL) (x1:Int) (x2:Int):Ann:=r1 3 [1,3,6,15] [3,900000,900001] [pf (inR .i64 (x2 - x1))] [0] (cn (decide (8≤(x2 - x1))) (.reg 3 [] [(1001,k167 (x2 - x1))] [1,3,6,7,8,9] [3,7,900000,900001] [] [pf (inR .u64 (x2 - x1)),pf ((4:Int) ≠ 0),pf (inR .i64 ((x2 - x1).tdiv 4)),pf (inR .i64 (((x2 - x1).tdiv 4) * 2)),pf (inR .i64 (x1+(((x2 - x1).tdiv 4) * 2))),pf (inR .i64 ((x1+(((x2 - x1).tdiv 4) * 2)) - 1))] [] [0,24,4,8,12,16,20] (.loop (Int×Int×(List (List Int))) (D156Lb1 x0 x1 x2) [] [] [(900000,some 900000)] (D156Lb1 x0 x1 x2 ((x1+(((x2 - x1).tdiv 4) * 2)) - 1,x2 - x1,x0.l)) (A156Lb1 x0 x1 x2))) (rt [(900000,some 900000),(900001,some 900001)] (C156L x0 x1 x2 x0.l)))
theorem breakPatL_sw (x0:SrtL) (x1 x2:Int) (h:0≤x1∧x1≤x2∧x2≤255):Sw x1 x2 x0.l (breakPatL x0 x1 x2):=by
 unfold breakPatL
 have h4:=tdiv4 (x2 - x1) (by omega)
 cases hc:decide (8≤x2 - x1) with
 | false=>exact .refl
 | true =>
  have hc:=of_decide_eq_true hc
  have h8:=nextPow_r (x2 - x1) (by omega)
  refine loopW_to (fun v=>x1+(x2 - x1).tdiv 4 * 2 - 1≤v.1∧Sw x1 x2 x0.l v.2.2) (fun v=>(x1+(x2 - x1).tdiv 4 * 2+2 - v.1).toNat) (fun l=>Sw x1 x2 x0.l l) (fun v next hv hn=>?_) _ _ (by dsimp only;omega) ⟨by dsimp only;omega,.refl⟩
  have h7:=and_small64 (xorNext v.2.1).1 (nextPow (x2 - x1) - 1) (by omega)
  cases hd:decide (v.1≤x1+(x2 - x1).tdiv 4 * 2+1) with
  | false=>exact hv.2
  | true =>
   have hd:=of_decide_eq_true hd
   cases he:decide (x2 - x1≤bits .and .u64 (xorNext v.2.1).1 (nextPow (x2 - x1) - 1)) with
   | true =>
    have he:=of_decide_eq_true he
    exact hn _ ⟨by dsimp only;omega,.step hv.2 _ _ (by omega) (by omega)⟩ (by dsimp only;omega)
   | false =>
    have he:=of_decide_eq_false he
    exact hn _ ⟨by dsimp only;omega,.step hv.2 _ _ (by omega) (by omega)⟩ (by dsimp only;omega)

theorem ok_sort_breakPatterns_func_L (x0:SrtL) (x1:Int) (x2:Int) (hx:x0.l.length≤255) (hok:OkL x0) (hab:0≤x1∧x1≤x2∧x2≤x0.l.length):FnMT Try.prog 156 [.agg [.clo 110 [.vp 900001 0],.clo 151 [.own 900000,.k Try.prog.globals.size 47]],.int .i64 x1,.int .i64 x2] [.nest true 1 x0.l.length (nrOf (cInt .i64) x0.l),.var [.own 900000]] (C156L x0 x1 x2 (breakPatL x0 x1 x2)):=by
 have aux:∀ R,breakPatL x0 x1 x2=R→slim (C156L x0 x1 x2 R) (A156L x0 x1 x2) []:=by
  intro R hR
  refine rg ⟨by ( intros;simp only [inR];omega),trivial⟩ ?_
  revert hR;refine cd (fun hc1 hR=>?_) fun hc1 hR=>?_
  ·
    refine rg ⟨by ( intros;simp only [inR];omega),by trivial,by (have h9:=tdiv4 (x2 - x1) (by omega);((try clear hR);(try clear hK1);intros;(try simp only [w1,w2,w3,w4,w5,w6,swp_len,inR,IntKind.bits] at *));omega),by (have h9:=tdiv4 (x2 - x1) (by omega);((try clear hR);(try clear hK1);intros;(try simp only [w1,w2,w3,w4,w5,w6,swp_len,inR,IntKind.bits] at *));omega),by (have h9:=tdiv4 (x2 - x1) (by omega);((try clear hR);(try clear hK1);intros;(try simp only [w1,w2,w3,w4,w5,w6,swp_len,inR,IntKind.bits] at *));omega),by (have h9:=tdiv4 (x2 - x1) (by omega);((try clear hR);(try clear hK1);intros;(try simp only [w1,w2,w3,w4,w5,w6,swp_len,inR,IntKind.bits] at *));omega),by (intros;omega),trivial⟩ ?_
    revert hR;refine lW (fun v=>(x1+(x2 - x1).tdiv 4 * 2 - 1≤v.1)∧(Sw x1 x2 x0.l v.2.2∧v.2.2.length=x0.l.length)) (fun v=>(x1+(x2 - x1).tdiv 4 * 2+2 - (v.1)).toNat) (by (((try clear hR);(try clear hK1);intros;(try simp only [w1,w2,w3,w4,w5,w6,swp_len,inR,IntKind.bits] at *));refine ⟨by omega,?_,trivial⟩;((repeat first | refine Sw.step ?_ _ _ (by omega) (by omega)) <;> first | exact hI1.2.1 | exact Sw.refl | exact hI1.2.1.mono (by omega) (by omega)))) (Nat.lt_succ_self _) rfl fun m1 v1 F1 hI1 hM1 hR hK1=>?_
    refine rg ⟨by trivial,by (have h9:=tdiv4 (x2 - x1) (by omega);((try clear hR);(try clear hK1);intros;(try simp only [w1,w2,w3,w4,w5,w6,swp_len,inR,IntKind.bits] at *));omega),by (have h9:=tdiv4 (x2 - x1) (by omega);((try clear hR);(try clear hK1);intros;(try simp only [w1,w2,w3,w4,w5,w6,swp_len,inR,IntKind.bits] at *));omega),by (have h9:=tdiv4 (x2 - x1) (by omega);((try clear hR);(try clear hK1);intros;(try simp only [w1,w2,w3,w4,w5,w6,swp_len,inR,IntKind.bits] at *));omega),by (have h9:=tdiv4 (x2 - x1) (by omega);((try clear hR);(try clear hK1);intros;(try simp only [w1,w2,w3,w4,w5,w6,swp_len,inR,IntKind.bits] at *));omega),trivial⟩ ?_
    revert hR;refine cd (fun hc2 hR=>?_) fun hc2 hR=>?_
    ·
      refine rg ⟨by ((try clear hR hK1);intros;(try simp only [decide_eq_true_eq,decide_eq_false_iff_not,Bool.or_eq_true,Bool.and_eq_true,or_f_iff,not_f_iff,not_t_iff,Bool.not_eq_true',inR] at *);(repeat' apply And.intro) <;> (have h9:=tdiv4 (x2 - x1) (by omega);have h8:=nextPow_r (x2 - x1) (by omega);have h7:=and_small64 (xorNext v1.2.1).1 (nextPow (x2 - x1) - 1) (by omega);((try clear hR);(try clear hK1);intros;(try simp only [w1,w2,w3,w4,w5,w6,swp_len,inR,IntKind.bits] at *));omega)),by ((try clear hR hK1);intros;(try simp only [decide_eq_true_eq,decide_eq_false_iff_not,Bool.or_eq_true,Bool.and_eq_true,or_f_iff,not_f_iff,not_t_iff,Bool.not_eq_true',inR] at *);(repeat' apply And.intro) <;> (have h9:=tdiv4 (x2 - x1) (by omega);have h8:=nextPow_r (x2 - x1) (by omega);have h7:=and_small64 (xorNext v1.2.1).1 (nextPow (x2 - x1) - 1) (by omega);((try clear hR);(try clear hK1);intros;(try simp only [w1,w2,w3,w4,w5,w6,swp_len,inR,IntKind.bits] at *));omega)),trivial,trivial⟩ ?_
      refine rg trivial ?_
      revert hR;refine cd (fun hc3 hR=>?_) fun hc3 hR=>?_
      ·
        refine rg ⟨by ((try clear hR hK1);intros;(try simp only [decide_eq_true_eq,decide_eq_false_iff_not,Bool.or_eq_true,Bool.and_eq_true,or_f_iff,not_f_iff,not_t_iff,Bool.not_eq_true',inR] at *);(repeat' apply And.intro) <;> (first | (intros;omega) | (have h9:=tdiv4 (x2 - x1) (by omega);have h8:=nextPow_r (x2 - x1) (by omega);have h7:=and_small64 (xorNext v1.2.1).1 (nextPow (x2 - x1) - 1) (by omega);((try clear hR);(try clear hK1);intros;(try simp only [w1,w2,w3,w4,w5,w6,swp_len,inR,IntKind.bits] at *));omega))),trivial⟩ ?_
        refine rg ⟨by ((try clear hR hK1);intros;(try simp only [decide_eq_true_eq,decide_eq_false_iff_not,Bool.or_eq_true,Bool.and_eq_true,or_f_iff,not_f_iff,not_t_iff,Bool.not_eq_true',inR] at *);(repeat' apply And.intro) <;> (first | (intros;omega) | (have h9:=tdiv4 (x2 - x1) (by omega);have h8:=nextPow_r (x2 - x1) (by omega);have h7:=and_small64 (xorNext v1.2.1).1 (nextPow (x2 - x1) - 1) (by omega);((try clear hR);(try clear hK1);intros;(try simp only [w1,w2,w3,w4,w5,w6,swp_len,inR,IntKind.bits] at *));omega))),⟨by (have h9:=tdiv4 (x2 - x1) (by omega);((try clear hR);(try clear hK1);intros;(try simp only [w1,w2,w3,w4,w5,w6,swp_len,inR,IntKind.bits] at *));omega),by ((try clear hR hK1);intros;(try simp only [decide_eq_true_eq,decide_eq_false_iff_not,Bool.or_eq_true,Bool.and_eq_true,or_f_iff,not_f_iff,not_t_iff,Bool.not_eq_true',inR] at *);(repeat' apply And.intro) <;> (first | (intros;omega) | (have h9:=tdiv4 (x2 - x1) (by omega);have h8:=nextPow_r (x2 - x1) (by omega);have h7:=and_small64 (xorNext v1.2.1).1 (nextPow (x2 - x1) - 1) (by omega);((try clear hR);(try clear hK1);intros;(try simp only [w1,w2,w3,w4,w5,w6,swp_len,inR,IntKind.bits] at *));omega)))⟩,trivial⟩ ?_
        refine rg ⟨by (have h9:=tdiv4 (x2 - x1) (by omega);((try clear hR);(try clear hK1);intros;(try simp only [w1,w2,w3,w4,w5,w6,swp_len,inR,IntKind.bits] at *));omega),trivial⟩ ?_
        exact hK1 (v1.1+1,(xorNext v1.2.1).2,(swp v1.2.2 v1.1 (x1+((bits .and .u64 ((xorNext v1.2.1).1) ((nextPow (x2 - x1)) - 1)) - (x2 - x1))))) (by ((try clear hR hK1);intros;(try simp only [decide_eq_true_eq,decide_eq_false_iff_not,Bool.or_eq_true,Bool.and_eq_true,or_f_iff,not_f_iff,not_t_iff,Bool.not_eq_true',inR] at *);(repeat' apply And.intro) <;> (first | (intros;omega) | (((try clear hR);(try clear hK1);intros;(try simp only [w1,w2,w3,w4,w5,w6,swp_len,inR,IntKind.bits] at *));omega) | (have h9:=tdiv4 (x2 - x1) (by omega);have h8:=nextPow_r (x2 - x1) (by omega);have h7:=and_small64 (xorNext v1.2.1).1 (nextPow (x2 - x1) - 1) (by omega);((try clear hR);(try clear hK1);intros;(try simp only [w1,w2,w3,w4,w5,w6,swp_len,inR,IntKind.bits] at *));(repeat' apply And.intro) <;> first | omega | ((repeat first | refine Sw.step ?_ _ _ (by omega) (by omega)) <;> first | exact hI1.2.1 | exact Sw.refl | exact hI1.2.1.mono (by omega) (by omega)))))) (by (((try clear hR);(try clear hK1);intros;(try simp only [w1,w2,w3,w4,w5,w6,swp_len,inR,IntKind.bits] at *));omega)) hR
      ·
        refine rg ⟨by ((try clear hR hK1);intros;(try simp only [decide_eq_true_eq,decide_eq_false_iff_not,Bool.or_eq_true,Bool.and_eq_true,or_f_iff,not_f_iff,not_t_iff,Bool.not_eq_true',inR] at *);(repeat' apply And.intro) <;> (first | (intros;omega) | (have h9:=tdiv4 (x2 - x1) (by omega);have h8:=nextPow_r (x2 - x1) (by omega);have h7:=and_small64 (xorNext v1.2.1).1 (nextPow (x2 - x1) - 1) (by omega);((try clear hR);(try clear hK1);intros;(try simp only [w1,w2,w3,w4,w5,w6,swp_len,inR,IntKind.bits] at *));omega))),⟨by (have h9:=tdiv4 (x2 - x1) (by omega);((try clear hR);(try clear hK1);intros;(try simp only [w1,w2,w3,w4,w5,w6,swp_len,inR,IntKind.bits] at *));omega),by ((try clear hR hK1);intros;(try simp only [decide_eq_true_eq,decide_eq_false_iff_not,Bool.or_eq_true,Bool.and_eq_true,or_f_iff,not_f_iff,not_t_iff,Bool.not_eq_true',inR] at *);(repeat' apply And.intro) <;> (first | (intros;omega) | (have h9:=tdiv4 (x2 - x1) (by omega);have h8:=nextPow_r (x2 - x1) (by omega);have h7:=and_small64 (xorNext v1.2.1).1 (nextPow (x2 - x1) - 1) (by omega);((try clear hR);(try clear hK1);intros;(try simp only [w1,w2,w3,w4,w5,w6,swp_len,inR,IntKind.bits] at *));omega)))⟩,trivial⟩ ?_
        refine rg ⟨by (have h9:=tdiv4 (x2 - x1) (by omega);((try clear hR);(try clear hK1);intros;(try simp only [w1,w2,w3,w4,w5,w6,swp_len,inR,IntKind.bits] at *));omega),trivial⟩ ?_
        exact hK1 (v1.1+1,(xorNext v1.2.1).2,(swp v1.2.2 v1.1 (x1+(bits .and .u64 ((xorNext v1.2.1).1) ((nextPow (x2 - x1)) - 1))))) (by ((try clear hR hK1);intros;(try simp only [decide_eq_true_eq,decide_eq_false_iff_not,Bool.or_eq_true,Bool.and_eq_true,or_f_iff,not_f_iff,not_t_iff,Bool.not_eq_true',inR] at *);(repeat' apply And.intro) <;> (first | (intros;omega) | (((try clear hR);(try clear hK1);intros;(try simp only [w1,w2,w3,w4,w5,w6,swp_len,inR,IntKind.bits] at *));omega) | (have h9:=tdiv4 (x2 - x1) (by omega);have h8:=nextPow_r (x2 - x1) (by omega);have h7:=and_small64 (xorNext v1.2.1).1 (nextPow (x2 - x1) - 1) (by omega);((try clear hR);(try clear hK1);intros;(try simp only [w1,w2,w3,w4,w5,w6,swp_len,inR,IntKind.bits] at *));(repeat' apply And.intro) <;> first | omega | ((repeat first | refine Sw.step ?_ _ _ (by omega) (by omega)) <;> first | exact hI1.2.1 | exact Sw.refl | exact hI1.2.1.mono (by omega) (by omega)))))) (by (((try clear hR);(try clear hK1);intros;(try simp only [w1,w2,w3,w4,w5,w6,swp_len,inR,IntKind.bits] at *));omega)) hR
    ·
      exact congrArg (C156L x0 x1 x2) hR
  ·
    exact congrArg (C156L x0 x1 x2) hR
 exact FnM.go 54 Try.func156 (by kernel_rfl) (by kernel_rfl) (A156L x0 x1 x2) (by kernel_rfl) (aux _ rfl)
def k156L (d:Nat) (ids:List Nat) (x0:SrtL) (x1:Int) (x2:Int):Cl:=(hresM d ids (C156L x0 x1 x2 (breakPatL x0 x1 x2)),k3 (ok_sort_breakPatterns_func_L x0 x1 x2))
end Go.Proofs.Ytkkijpibajigfaa
