import Derived.Test.YtlinnkjieghmhaaGreatDoorM41
set_option maxHeartbeats 4000000
set_option linter.unusedSimpArgs false
set_option linter.unusedVariables false
namespace Go.Proofs.YtlinnkjieghmhaaGreatDoor
open Go Go.Lite Go.Proofs
def C30 (x0:ye) (x1:Int) (R:Int×Int×Int):LV×List (Nat×BC):=(.int .i64 R.1,[(900000,.var [.ro false 1 x0.b.length (rowOf (cInt .u8) x0.b),.int .i64 R.2.1,.int .i64 R.2.2])])
def zbf (x0:ye) (x1:Int):Int×Int×Int:=bif (decide (x1≤0)) then (0,x0.i,x0.h) else (bif (decide (x1≤256)) then (((zbn x0).1).tmod x1,(zbn x0).2.1,(zbn x0).2.2) else (((((((zbn x0).1) * 16777216)+(((zbn (ye.mk x0.b ((zbn x0).2.1) ((zbn x0).2.2))).1) * 65536))+(((zbn (ye.mk x0.b ((zbn (ye.mk x0.b ((zbn x0).2.1) ((zbn x0).2.2))).2.1) ((zbn (ye.mk x0.b ((zbn x0).2.1) ((zbn x0).2.2))).2.2))).1) * 256))+((zbn (ye.mk x0.b ((zbn (ye.mk x0.b ((zbn (ye.mk x0.b ((zbn x0).2.1) ((zbn x0).2.2))).2.1) ((zbn (ye.mk x0.b ((zbn x0).2.1) ((zbn x0).2.2))).2.2))).2.1) ((zbn (ye.mk x0.b ((zbn (ye.mk x0.b ((zbn x0).2.1) ((zbn x0).2.2))).2.1) ((zbn (ye.mk x0.b ((zbn x0).2.1) ((zbn x0).2.2))).2.2))).2.2))).1)).tmod x1,(zbn (ye.mk x0.b ((zbn (ye.mk x0.b ((zbn (ye.mk x0.b ((zbn x0).2.1) ((zbn x0).2.2))).2.1) ((zbn (ye.mk x0.b ((zbn x0).2.1) ((zbn x0).2.2))).2.2))).2.1) ((zbn (ye.mk x0.b ((zbn (ye.mk x0.b ((zbn x0).2.1) ((zbn x0).2.2))).2.1) ((zbn (ye.mk x0.b ((zbn x0).2.1) ((zbn x0).2.2))).2.2))).2.2))).2.1,(zbn (ye.mk x0.b ((zbn (ye.mk x0.b ((zbn (ye.mk x0.b ((zbn x0).2.1) ((zbn x0).2.2))).2.1) ((zbn (ye.mk x0.b ((zbn x0).2.1) ((zbn x0).2.2))).2.2))).2.1) ((zbn (ye.mk x0.b ((zbn (ye.mk x0.b ((zbn x0).2.1) ((zbn x0).2.2))).2.1) ((zbn (ye.mk x0.b ((zbn x0).2.1) ((zbn x0).2.2))).2.2))).2.2))).2.2))
def A30 (x0:ye) (x1:Int):Ann:=let q4:=zbn x0;let q6:=ye.mk x0.b (q4.2.1) (q4.2.2);let q2:=((q4.1) * 16777216)+(((zbn q6).1) * 65536);let q1:=ye.mk x0.b ((zbn q6).2.1) ((zbn q6).2.2);let q5:=((zbn q1).1) * 256;let q3:=ye.mk x0.b ((zbn q1).2.1) ((zbn q1).2.2);let q7:=zbn q3;r0 1 [0,1,4] [900000] (r0 1 [0,1,4,10] [900000] (cn (decide (x1≤0)) (r0 1 [0,1,4] [900000] (rt [(900000,some 900000)] (C30 x0 x1 (0,x0.i,x0.h)))) (r0 1 [0,1,4,12] [900000] (cn (decide (x1≤256)) (.reg 1 [] [(1,k59 14 [900000] x0)] [0,1,4] [900000] [] [pf ((x1:Int)≠0)] [] [4,0] (rt [(900000,some 900000)] (C30 x0 x1 ((q4.1).tmod x1,q4.2.1,q4.2.2)))) (.reg 5 [] [(1,k59 18 [900000] x0),(1001,k59 20 [900000] q6),(2001,k59 22 [900000] q1),(3001,k59 24 [900000] q3)] [4] [900000] [] [pf (inR .i64 ((q4.1) * 16777216)),pf (inR .i64 (((zbn q6).1) * 65536)),pf (inR .i64 q2),pf (inR .i64 q5),pf (inR .i64 (q2+q5)),pf (inR .i64 ((q2+q5)+(q7.1))),pf ((x1:Int)≠0)] [] [28,32,36,40,0,4,8,12,16,20,24] (rt [(900000,some 900000)] (C30 x0 x1 (((q2+q5)+(q7.1)).tmod x1,q7.2.1,q7.2.2))))))))
theorem zm4 (x0:ye) (x1:Int) (hc:CurOk x0) (hn:x1≤256):FnMT Tryz.prog 30 [.vp 900000 0,.int .i64 x1] [.var [.ro false 1 x0.b.length (rowOf (cInt .u8) x0.b),.int .i64 x0.i,.int .i64 x0.h]] (C30 x0 x1 (zbf x0 x1)):=by
 have aux:∀ R,zbf x0 x1=R→slim (C30 x0 x1 R) (A30 x0 x1) []:=by
  intro R hR
  refine rg trivial ?_
  refine rg trivial ?_
  revert hR;refine cd (fun hc1 hR=>?_) fun hc1 hR=>?_
  ·
    refine rg trivial ?_
    exact congrArg (C30 x0 x1) hR
  ·
    refine rg trivial ?_
    revert hR;refine cd (fun hc2 hR=>?_) fun hc2 hR=>?_
    ·
      refine rg ⟨by ((try clear hR);intros;(try simp only [decide_eq_true_eq,decide_eq_false_iff_not,Bool.or_eq_true,Bool.and_eq_true,zbd,zbb,zbc,Bool.not_eq_true',inR] at *);(repeat' apply And.intro)<;>(intros;omega)),by trivial,trivial⟩ ?_
      exact congrArg (C30 x0 x1) hR
    ·
      refine rg ⟨by ((try clear hR);intros;(try simp only [decide_eq_true_eq,decide_eq_false_iff_not,Bool.or_eq_true,Bool.and_eq_true,zbd,zbb,zbc,Bool.not_eq_true',inR] at *);(repeat' apply And.intro)<;>(intros;omega)),by ((try clear hR);intros;(try simp only [decide_eq_true_eq,decide_eq_false_iff_not,Bool.or_eq_true,Bool.and_eq_true,zbd,zbb,zbc,Bool.not_eq_true',inR] at *);(repeat' apply And.intro)<;>(intros;omega)),by ((try clear hR);intros;(try simp only [decide_eq_true_eq,decide_eq_false_iff_not,Bool.or_eq_true,Bool.and_eq_true,zbd,zbb,zbc,Bool.not_eq_true',inR] at *);(repeat' apply And.intro)<;>(intros;omega)),by ((try clear hR);intros;(try simp only [decide_eq_true_eq,decide_eq_false_iff_not,Bool.or_eq_true,Bool.and_eq_true,zbd,zbb,zbc,Bool.not_eq_true',inR] at *);(repeat' apply And.intro)<;>(intros;omega)),by ((try clear hR);intros;(try simp only [decide_eq_true_eq,decide_eq_false_iff_not,Bool.or_eq_true,Bool.and_eq_true,zbd,zbb,zbc,Bool.not_eq_true',inR] at *);(repeat' apply And.intro)<;>(intros;omega)),by ((try clear hR);intros;(try simp only [decide_eq_true_eq,decide_eq_false_iff_not,Bool.or_eq_true,Bool.and_eq_true,zbd,zbb,zbc,Bool.not_eq_true',inR] at *);(repeat' apply And.intro)<;>(intros;omega)),by ((try clear hR);intros;(try simp only [decide_eq_true_eq,decide_eq_false_iff_not,Bool.or_eq_true,Bool.and_eq_true,zbd,zbb,zbc,Bool.not_eq_true',inR] at *);(repeat' apply And.intro)<;>(intros;omega)),by trivial,by ((try clear hR);intros;(try simp only [decide_eq_true_eq,decide_eq_false_iff_not,Bool.or_eq_true,Bool.and_eq_true,zbd,zbb,zbc,Bool.not_eq_true',inR] at *);(repeat' apply And.intro)<;>(intros;omega)),by ((try clear hR);intros;(try simp only [decide_eq_true_eq,decide_eq_false_iff_not,Bool.or_eq_true,Bool.and_eq_true,zbd,zbb,zbc,Bool.not_eq_true',inR] at *);(repeat' apply And.intro)<;>(intros;omega)),by ((try clear hR);intros;(try simp only [decide_eq_true_eq,decide_eq_false_iff_not,Bool.or_eq_true,Bool.and_eq_true,zbd,zbb,zbc,Bool.not_eq_true',inR] at *);(repeat' apply And.intro)<;>(intros;omega)),trivial⟩ ?_
      exact congrArg (C30 x0 x1) hR
 exact FnM.go 37 Tryz.func30 (by kernel_rfl) (by kernel_rfl) (A30 x0 x1) (by kernel_rfl) (aux _ rfl)
def k30 (d:Nat) (ids:List Nat) (x0:ye) (x1:Int):Cl:=(hresM d ids (C30 x0 x1 (zbf x0 x1)),k2 (zm4 x0 x1))
theorem zb2 {c:ye} (h:CurOk c) {n:Int} (hn:n≤256):(0≤(zbf c n).1∧(zbf c n).1≤255∧(0<n→(zbf c n).1<n))∧CurOk ⟨c.b,(zbf c n).2.1,(zbf c n).2.2⟩:=by
 unfold zbf
 refine zbe (p:=fun (r:Int×Int×Int)=>(0≤r.1∧r.1≤255∧(0<n→r.1<n))∧CurOk ⟨c.b,r.2.1,r.2.2⟩) (fun c1=>⟨⟨by simp,by simp,fun h=>h⟩,h⟩) (fun c1=>?_)
 have c1:=of_decide_eq_false c1
 refine zbe (p:=fun (r:Int×Int×Int)=>(0≤r.1∧r.1≤255∧(0<n→r.1<n))∧CurOk ⟨c.b,r.2.1,r.2.2⟩) (fun c2=>⟨?_,(zqv h).2⟩) (fun c2=>absurd (of_decide_eq_false c2) om)
 have h1:=(zqv h).1
 have e:=Int.tmod_eq_emod_of_nonneg (a:=(zbn c).1) (b:=n) h1.1
 have h2:=Int.emod_nonneg (zbn c).1 (show n≠0 by omega)
 have h3:=Int.emod_lt_of_pos (zbn c).1 (show 0<n by omega)
 simp only [e]
 omega
def C33 (x0:ye) (x1:Int) (R:Bool×Int×Int):LV×List (Nat×BC):=(.bool R.1,[(900000,.var [.ro false 1 x0.b.length (rowOf (cInt .u8) x0.b),.int .i64 R.2.1,.int .i64 R.2.2])])
def zce (x0:ye) (x1:Int):Bool×Int×Int:=(decide (((zbf x0 x1).1)=0),(zbf x0 x1).2.1,(zbf x0 x1).2.2)
def A33 (x0:ye) (x1:Int):Ann:=let q1:=zbf x0 x1;.reg 2 [] [(1002,k30 7 [900000] x0 x1)] [4] [900000] [] [] [] [0] (rt [(900000,some 900000)] (C33 x0 x1 (decide ((q1.1)=0),q1.2.1,q1.2.2)))
theorem zoq (x0:ye) (x1:Int) (hc:CurOk x0) (hn:x1≤256):FnMT Tryz.prog 33 [.vp 900000 0,.int .i64 x1] [.var [.ro false 1 x0.b.length (rowOf (cInt .u8) x0.b),.int .i64 x0.i,.int .i64 x0.h]] (C33 x0 x1 (zce x0 x1)):=by
 have aux:∀ R,zce x0 x1=R→slim (C33 x0 x1 R) (A33 x0 x1) []:=by
  intro R hR
  refine rg ⟨⟨by trivial,by trivial⟩,trivial⟩ ?_
  exact congrArg (C33 x0 x1) hR
 exact FnM.go 9 Tryz.func33 (by kernel_rfl) (by kernel_rfl) (A33 x0 x1) (by kernel_rfl) (aux _ rfl)
def k33 (d:Nat) (ids:List Nat) (x0:ye) (x1:Int):Cl:=(hresM d ids (C33 x0 x1 (zce x0 x1)),k2 (zoq x0 x1))
def C29 (x0:ye) (x1:List Int) (R:Int×Int×Int):LV×List (Nat×BC):=(.int .i64 R.1,[(900000,.var [.ro false 1 x0.b.length (rowOf (cInt .u8) x0.b),.int .i64 R.2.1,.int .i64 R.2.2])])
def zb5 (x0:ye) (x1:List Int):Int×Int×Int:=((x1.getD (((zbf x0 ((x1.length:Nat):Int)).1).toNat) default),(zbf x0 ((x1.length:Nat):Int)).2.1,(zbf x0 ((x1.length:Nat):Int)).2.2)
def A29 (x0:ye) (x1:List Int):Ann:=let q2:=((x1.length:Nat):Int);let q1:=zbf x0 q2;.reg 2 [] [(1004,k30 9 [900000] x0 q2)] [4] [900000,900001] [] [pf (0≤(q1.1:Int)∧(q1.1:Int)<q2)] [] [4,0] (rt [(900000,some 900000)] (C29 x0 x1 ((x1.getD ((q1.1).toNat) default),q1.2.1,q1.2.2)))
theorem zp1 (x0:ye) (x1:List Int) (hc:CurOk x0) (hn:0<x1.length∧x1.length≤256):FnMT Tryz.prog 29 [.vp 900000 0,.own 900001] [.var [.ro false 1 x0.b.length (rowOf (cInt .u8) x0.b),.int .i64 x0.i,.int .i64 x0.h],.arr 1 x1.length (rowOf (cInt .i64) x1)] (C29 x0 x1 (zb5 x0 x1)):=by
 have aux:∀ R,zb5 x0 x1=R→slim (C29 x0 x1 R) (A29 x0 x1) []:=by
  intro R hR
  refine rg ⟨by (have h9:=zb2 hc (n:=((x1.length:Nat):Int)) om;omega),⟨by trivial,by (intros;omega)⟩,trivial⟩ ?_
  exact congrArg (C29 x0 x1) hR
 exact FnM.go 12 Tryz.func29 (by kernel_rfl) (by kernel_rfl) (A29 x0 x1) (by kernel_rfl) (aux _ rfl)
def k29 (d:Nat) (ids:List Nat) (x0:ye) (x1:List Int):Cl:=(hresM d ids (C29 x0 x1 (zb5 x0 x1)),k2 (zp1 x0 x1))
def C32 (R:(List UInt8)):LV×List (Nat×BC):=(.str R,[])
def zcd (x0:Int):(List UInt8):=List.map Lite.byteOf ([((([97,98,99,100,101,102,103,104,105,106,107,108,109,110,111,112,113,114,115,116,117,118,119,120,121,122]:List UInt8).getD ((x0.tmod 26).toNat) 0).toNat:Int),((([97,101,105,111,117]:List UInt8).getD (((x0.tdiv 26).tmod 5).toNat) 0).toNat:Int)]:List Int)
def A32 (x0:Int):Ann:=let q2:=x0.tdiv 26;let q1:=([((([97,98,99,100,101,102,103,104,105,106,107,108,109,110,111,112,113,114,115,116,117,118,119,120,121,122]:List UInt8).getD ((x0.tmod 26).toNat) 0).toNat:Int),((([97,101,105,111,117]:List UInt8).getD ((q2.tmod 5).toNat) 0).toNat:Int)]:List Int);.reg 2 [(1008,.ints q1)] [(1007,bsC 10 (cInt .u8) q1)] [2] [] [] [pf ((26:Int)≠0),pf (0≤(x0.tmod 26:Int)∧(x0.tmod 26:Int)<((([97,98,99,100,101,102,103,104,105,106,107,108,109,110,111,112,113,114,115,116,117,118,119,120,121,122]:List UInt8).length:Nat):Int)),pf (inR .i64 q2),pf ((5:Int)≠0),pf (0≤(q2.tmod 5:Int)∧(q2.tmod 5:Int)<((([97,101,105,111,117]:List UInt8).length:Nat):Int))] [zf (P:=2=q1.length∧∀ k,k<2→(rowOf (cInt .u8) [((([97,98,99,100,101,102,103,104,105,106,107,108,109,110,111,112,113,114,115,116,117,118,119,120,121,122]:List UInt8).getD ((x0.tmod 26).toNat) 0).toNat:Int),((([97,101,105,111,117]:List UInt8).getD ((q2.tmod 5).toNat) 0).toNat:Int)]) k=[.int .u8 (q1.getD k default)]) (⟨by first | rfl | simp,fun _ _=>rfl⟩)] [0,4,0,8,12,16,20,3] (rt [] (C32 (List.map Lite.byteOf q1)))
theorem zm3 (x0:Int) (hi:0≤x0∧x0≤1000):FnT Tryz.prog 32 [.int .i64 x0] (C32 (zcd x0)):=by
 have aux:∀ R,zcd x0=R→slim (C32 R) (A32 x0) []:=by
  intro R hR
  refine rg ⟨by trivial,by (have e1:=Int.tmod_eq_emod_of_nonneg (a:=x0) (b:=26) om;have e2:=Int.tdiv_eq_ediv_of_nonneg (a:=x0) (b:=26) om;have e3:=Int.tmod_eq_emod_of_nonneg (a:=x0.tdiv 26) (b:=5) om;(try simp only [List.length_cons,List.length_nil]);omega),by ((try clear hR);intros;(try simp only [decide_eq_true_eq,decide_eq_false_iff_not,Bool.or_eq_true,Bool.and_eq_true,zbd,zbb,zbc,Bool.not_eq_true',inR] at *);(repeat' apply And.intro)<;>(have e1:=Int.tmod_eq_emod_of_nonneg (a:=x0) (b:=26) om;have e2:=Int.tdiv_eq_ediv_of_nonneg (a:=x0) (b:=26) om;have e3:=Int.tmod_eq_emod_of_nonneg (a:=x0.tdiv 26) (b:=5) om;(try simp only [List.length_cons,List.length_nil]);omega)),by trivial,by (have e1:=Int.tmod_eq_emod_of_nonneg (a:=x0) (b:=26) om;have e2:=Int.tdiv_eq_ediv_of_nonneg (a:=x0) (b:=26) om;have e3:=Int.tmod_eq_emod_of_nonneg (a:=x0.tdiv 26) (b:=5) om;(try simp only [List.length_cons,List.length_nil]);omega),trivial,trivial⟩ ?_
  exact congrArg C32 hR
 exact Fn.go 12 Tryz.func32 (by kernel_rfl) (by kernel_rfl) (by simp [C32,Frs,FrsL]) (A32 x0) (by kernel_rfl) (aux _ rfl)
def k32 (x0:Int):Cl:=(hres (C32 (zcd x0)),k1 (zm3 x0))
theorem zei {c:ye} (h:CurOk c) {n:Int} (hn:n≤256):CurOk ⟨c.b,(zce c n).2.1,(zce c n).2.2⟩:=by
 unfold zce
 exact (zb2 h hn).2
theorem zcm {c:ye} (h:CurOk c) {l:List Int} (hl:0<l.length∧l.length≤256):(zb5 c l).1∈l∧CurOk ⟨c.b,(zb5 c l).2.1,(zb5 c l).2.2⟩:=by
 have h9:=zb2 h (n:=((l.length:Nat):Int)) om
 unfold zb5
 exact ⟨zd0 (by have:=h9.1.2.2 om;omega),h9.2⟩
def C73 (R:Bool):LV×List (Nat×BC):=(.bool R,[])
def zo4 (x0:yc) (x1:Int) (x2:Int):Bool:=(decide (((x0.people.getD x1.toNat default).born)<((x0.people.getD x2.toNat default).born)))||((decide (((x0.people.getD x1.toNat default).born)=((x0.people.getD x2.toNat default).born)))&&(decide (x1<x2)))
def A73 (x0:yc) (x1:Int) (x2:Int):Ann:=let q4:=((x0.people.length:Nat):Int);let q1:=((x0.people.getD x1.toNat default).born)<((x0.people.getD x2.toNat default).born);let q2:=decide (((x0.people.getD x1.toNat default).born)=((x0.people.getD x2.toNat default).born));let q3:=decide q1;.reg 4 [] [] [6] [] [!q3,(!q3)&&q2,decide q1] [pf (0≤(x1:Int)∧(x1:Int)<q4),pf (0≤(x2:Int)∧(x2:Int)<q4),gt (!q3) (gt q2 (pf (((!q3)&&q2)=true)))] [] [0,4,1,1,1,5,5,1,8,10] (rt [] (C73 (q3||(q2&&(decide (x1<x2))))))
theorem zoo (x0:yc) (x1:Int) (x2:Int) (hx:x0.people.length≤1048576) (h1:0≤x1∧x1<x0.people.length) (h2:0≤x2∧x2<x0.people.length):FnT Tryz.prog 73 [.agg (zcf false x0),.int .i64 x1,.int .i64 x2] (C73 (zo4 x0 x1 x2)):=by
 have aux:∀ R,zo4 x0 x1 x2=R→slim (C73 R) (A73 x0 x1 x2) []:=by
  intro R hR
  refine rg ⟨by trivial,by trivial,by ((try clear hR);intros;(try simp only [decide_eq_true_eq,decide_eq_false_iff_not,Bool.or_eq_true,Bool.and_eq_true,zbd,zbb,zbc,Bool.not_eq_true',inR] at *);(repeat' apply And.intro)<;>(intros;omega)),trivial⟩ ?_
  exact congrArg C73 hR
 exact Fn.go 34 Tryz.func73 (by kernel_rfl) (by kernel_rfl) (by simp [C73,Frs,FrsL]) (A73 x0 x1 x2) (by kernel_rfl) (aux _ rfl)
def k73 (x0:yc) (x1:Int) (x2:Int):Cl:=(hres (C73 (zo4 x0 x1 x2)),k3 (zoo x0 x1 x2))
def C34 (x0:ye) (x1:yc) (x2:List Int) (x3:Int) (R:Int×Int×Int):LV×List (Nat×BC):=(.int .i64 R.1,[(900000,.var [.ro false 1 x0.b.length (rowOf (cInt .u8) x0.b),.int .i64 R.2.1,.int .i64 R.2.2]),(900001,.arr 6 x1.people.length (rowOf (zbg true) x1.people)),(900002,.arr 4 x1.unions.length (rowOf (zbi true) x1.unions)),(900003,.arr 1 x2.length (rowOf (cInt .i64) x2))])
def zcq (x0:ye) (x1:yc) (x2:List Int) (x3:Int):Int×Int×Int:=loopW (fun (v1:Int×Int×Int) next=>bif ((decide (v1.1<6))&&(decide (0<((x1.people.length:Nat):Int)))) then (jn (fun K1=>K1 ((zbf (ye.mk x0.b v1.2.1 v1.2.2) ((x1.people.length:Nat):Int)).1,(zbf (ye.mk x0.b v1.2.1 v1.2.2) ((x1.people.length:Nat):Int)).2.1,(zbf (ye.mk x0.b v1.2.1 v1.2.2) ((x1.people.length:Nat):Int)).2.2)) (fun (j1:Int×Int×Int)=>jn (fun K2=>K2 ((zce (ye.mk x0.b j1.2.1 j1.2.2) 2).1,(zce (ye.mk x0.b j1.2.1 j1.2.2) 2).2.1,(zce (ye.mk x0.b j1.2.1 j1.2.2) 2).2.2)) (fun (j2:Bool×Int×Int)=>bif j2.1 then (bif ((decide (((x1.people.getD (((((x1.people.length:Nat):Int) - 1) - ((zbf (ye.mk x0.b j2.2.1 j2.2.2) (Min.min ((x1.people.length:Nat):Int) 5)).1)).toNat) default).sex)=x3))&&(decide ((x2.getD (((((x1.people.length:Nat):Int) - 1) - ((zbf (ye.mk x0.b j2.2.1 j2.2.2) (Min.min ((x1.people.length:Nat):Int) 5)).1)).toNat) default)<10))) then ((((x1.people.length:Nat):Int) - 1) - ((zbf (ye.mk x0.b j2.2.1 j2.2.2) (Min.min ((x1.people.length:Nat):Int) 5)).1),(zbf (ye.mk x0.b j2.2.1 j2.2.2) (Min.min ((x1.people.length:Nat):Int) 5)).2.1,(zbf (ye.mk x0.b j2.2.1 j2.2.2) (Min.min ((x1.people.length:Nat):Int) 5)).2.2) else (next (v1.1+1,(zbf (ye.mk x0.b j2.2.1 j2.2.2) (Min.min ((x1.people.length:Nat):Int) 5)).2.1,(zbf (ye.mk x0.b j2.2.1 j2.2.2) (Min.min ((x1.people.length:Nat):Int) 5)).2.2))) else (bif ((decide (((x1.people.getD j1.1.toNat default).sex)=x3))&&(decide ((x2.getD j1.1.toNat default)<10))) then (j1.1,j2.2.1,j2.2.2) else (next (v1.1+1,j2.2.1,j2.2.2)))))) else ((-1),v1.2.1,v1.2.2)) ((6 - Int.toNat (0))+1) (0,x0.i,x0.h)
def D34b1 (x0:ye) (v1:Int×Int×Int):Dl:=⟨[(10,.int .i64 v1.1)],[(900000,.var [.ro false 1 x0.b.length (rowOf (cInt .u8) x0.b),.int .i64 v1.2.1,.int .i64 v1.2.2])]⟩
def D34j1 (x0:ye) (j1:Int×Int×Int):Dl:=⟨[(11,.int .i64 j1.1)],[(900000,.var [.ro false 1 x0.b.length (rowOf (cInt .u8) x0.b),.int .i64 j1.2.1,.int .i64 j1.2.2])]⟩
def D34j2 (x0:ye) (j2:Bool×Int×Int):Dl:=⟨[(27,.bool j2.1)],[(900000,.var [.ro false 1 x0.b.length (rowOf (cInt .u8) x0.b),.int .i64 j2.2.1,.int .i64 j2.2.2])]⟩
def A34j2 (x0:ye) (x1:yc) (x2:List Int) (x3:Int) (v1:Int×Int×Int) (j1:Int×Int×Int) (j2:Bool×Int×Int):Ann:=let q6:=(j1.1:Int);let q7:=((x2.length:Nat):Int);let q2:=((x1.people.length:Nat):Int);let q4:=((x1.people.getD j1.1.toNat default).sex)=x3;let q1:=zbf (ye.mk x0.b j2.2.1 j2.2.2) (Min.min q2 5);let q5:=((q2 - 1) - (q1.1):Int);let q3:=((x1.people.getD (((q2 - 1) - (q1.1)).toNat) default).sex)=x3;cn j2.1 (.reg 1 [] [(5,k30 33 [900000] (ye.mk x0.b j2.2.1 j2.2.2) (Min.min q2 5))] [0,2,3,5,8,9,10,11] [5,900000,900001,900002,900003] [] [pf (inR .i64 (q2 - 1)),pf (inR .i64 ((q2 - 1) - (q1.1)))] [] [0,8,4] (.reg 1 [] [] [0,2,3,5,8,9,10,11,49] [5,900000,900001,900002,900003] [decide q3] [pf (0≤q5∧q5<q2),gt (decide q3) (pf (0≤q5∧q5<q7))] [] [0,1,1,4,1,1,1] (cn ((decide q3)&&(decide ((x2.getD (((q2 - 1) - (q1.1)).toNat) default)<10))) (r0 1 [0,2,3,5,8,9,10] [5,900000,900001,900002,900003] (rt [(900000,some 900000),(900001,some 900001),(900002,some 900002),(900003,some 900003)] (C34 x0 x1 x2 x3 ((q2 - 1) - (q1.1),q1.2.1,q1.2.2)))) (r1 1 [0,2,3,5,8,9,10] [5,900000,900001,900002,900003] [pf (inR .i64 (v1.1+1))] [0] (.next 0 [] (D34b1 x0 (v1.1+1,q1.2.1,q1.2.2))))))) (.reg 1 [] [] [0,2,3,5,8,9,10,11,49] [5,900000,900001,900002,900003] [decide q4] [pf (0≤q6∧q6<q2),gt (decide q4) (pf (0≤q6∧q6<q7))] [] [0,1,1,4,1,1,1] (cn ((decide q4)&&(decide ((x2.getD j1.1.toNat default)<10))) (r0 1 [0,2,3,5,8,9,10] [5,900000,900001,900002,900003] (rt [(900000,some 900000),(900001,some 900001),(900002,some 900002),(900003,some 900003)] (C34 x0 x1 x2 x3 (j1.1,j2.2.1,j2.2.2)))) (r1 1 [0,2,3,5,8,9,10] [5,900000,900001,900002,900003] [pf (inR .i64 (v1.1+1))] [0] (.next 0 [] (D34b1 x0 (v1.1+1,j2.2.1,j2.2.2))))))
def A34j1 (x0:ye) (x1:yc) (x2:List Int) (x3:Int) (v1:Int×Int×Int) (j1:Int×Int×Int):Ann:=let q1:=ye.mk x0.b j1.2.1 j1.2.2;let q2:=zce q1 2;.join 1 (Bool×Int×Int) (D34j2 x0) [0,2,3,5,8,9,10,11] [900000,900003,5,900001,900002] (.reg 1 [] [(1,k33 27 [900000] q1 2)] [0,2,3,5,8,9,10,11,27] [5,900000,900001,900002,900003] [] [] [] [0] (.next 0 [] (D34j2 x0 (q2.1,q2.2.1,q2.2.2)))) (A34j2 x0 x1 x2 x3 v1 j1)
def A34b1 (x0:ye) (x1:yc) (x2:List Int) (x3:Int) (v1:Int×Int×Int):Ann:=let q2:=((x1.people.length:Nat):Int);let q1:=zbf (ye.mk x0.b v1.2.1 v1.2.2) q2;.reg 1 [] [] [0,2,3,5,8,9,10,20] [5,900000,900001,900002,900003] [decide (v1.1<6)] [] [] [1,1] (cn ((decide (v1.1<6))&&(decide (0<q2))) (.join 1 (Int×Int×Int) (D34j1 x0) [0,2,3,5,8,9,10] [900000,900003,5,900001,900002] (.reg 1 [] [(2,k30 25 [900000] (ye.mk x0.b v1.2.1 v1.2.2) q2)] [0,2,3,5,8,9,10,11] [5,900000,900001,900002,900003] [] [] [] [0] (.next 0 [] (D34j1 x0 (q1.1,q1.2.1,q1.2.2)))) (A34j1 x0 x1 x2 x3 v1)) (r0 1 [8] [900000,900001,900002,900003] (rt [(900000,some 900000),(900001,some 900001),(900002,some 900002),(900003,some 900003)] (C34 x0 x1 x2 x3 ((-1),v1.2.1,v1.2.2)))))
def A34 (x0:ye) (x1:yc) (x2:List Int) (x3:Int):Ann:=r0 2 [0,2,3,5,8,9] [5,900000,900001,900002,900003] (r0 1 [0,2,3,5,8,9,10] [5,900000,900001,900002,900003] (.loop (Int×Int×Int) (D34b1 x0) [] [] [] (D34b1 x0 (0,x0.i,x0.h)) (A34b1 x0 x1 x2 x3)))
theorem zpy (x0:ye) (x1:yc) (x2:List Int) (x3:Int) (hc:CurOk x0) (hx:x1.people.length≤40) (hd:x2.length=x1.people.length):FnMT Tryz.prog 34 [.vp 900000 0,.agg [.own 900001,.own 900002],.own 900003,.int .i64 x3] [.var [.ro false 1 x0.b.length (rowOf (cInt .u8) x0.b),.int .i64 x0.i,.int .i64 x0.h],.arr 6 x1.people.length (rowOf (zbg true) x1.people),.arr 4 x1.unions.length (rowOf (zbi true) x1.unions),.arr 1 x2.length (rowOf (cInt .i64) x2)] (C34 x0 x1 x2 x3 (zcq x0 x1 x2 x3)):=by
 have aux:∀ R,zcq x0 x1 x2 x3=R→slim (C34 x0 x1 x2 x3 R) (A34 x0 x1 x2 x3) []:=by
  intro R hR
  refine rg trivial ?_
  refine rg trivial ?_
  revert hR;refine lW (fun v=>CurOk ⟨x0.b,v.2.1,v.2.2⟩∧0≤v.1∧v.1≤6) (fun v=>(6 - Int.toNat (v.1))) (by (exact ⟨hc,om⟩)) (Nat.lt_succ_self _) rfl fun m1 v1 F1 hI1 hM1 hR hK1=>?_
  refine rg trivial ?_
  revert hR;refine cd (fun hc1 hR=>?_) fun hc1 hR=>?_
  ·
    revert hR;refine jN (fun v=>(0≤v.1∧v.1<x1.people.length)∧CurOk ⟨x0.b,v.2.1,v.2.2⟩) (fun F101 hR hJ101=>?_) (fun j1 hR hJ1=>?_)
    ·
      refine rg ⟨⟨by (exact hI1.1),by (intros;omega)⟩,trivial⟩ ?_
      exact hJ101 _ hR (by (have h9:=zb2 hI1.1 (n:=((x1.people.length:Nat):Int)) om;simp only [Bool.and_eq_true,decide_eq_true_eq] at hc1;exact ⟨⟨h9.1.1,h9.1.2.2 hc1.2⟩,h9.2⟩))
    ·
      revert hR;refine jN (fun v=>CurOk ⟨x0.b,v.2.1,v.2.2⟩) (fun F102 hR hJ102=>?_) (fun j2 hR hJ2=>?_)
      ·
        refine rg ⟨⟨by (exact hJ1.2),by trivial⟩,trivial⟩ ?_
        exact hJ102 _ hR (by (exact zei hJ1.2 om))
      ·
        revert hR;refine cd (fun hc2 hR=>?_) fun hc2 hR=>?_
        ·
          refine rg ⟨by ( intros;simp only [inR];omega),by (have h9:=zb2 hJ2 (n:=Min.min ((x1.people.length:Nat):Int) 5) om;simp only [Bool.and_eq_true,decide_eq_true_eq] at hc1;(try simp only [inR]);omega),⟨by trivial,by (intros;omega)⟩,trivial⟩ ?_
          refine rg ⟨by (have h9:=zb2 hJ2 (n:=Min.min ((x1.people.length:Nat):Int) 5) om;simp only [Bool.and_eq_true,decide_eq_true_eq] at hc1;(try simp only [inR]);omega),by (have h9:=zb2 hJ2 (n:=Min.min ((x1.people.length:Nat):Int) 5) om;simp only [Bool.and_eq_true,decide_eq_true_eq] at hc1;(try simp only [inR]);omega),trivial⟩ ?_
          revert hR;refine cd (fun hc3 hR=>?_) fun hc3 hR=>?_
          ·
            refine rg trivial ?_
            exact congrArg (C34 x0 x1 x2 x3) hR
          ·
            refine rg ⟨by ( intros;simp only [inR];omega),trivial⟩ ?_
            exact hK1 (v1.1+1,(zbf (ye.mk x0.b j2.2.1 j2.2.2) (Min.min ((x1.people.length:Nat):Int) 5)).2.1,(zbf (ye.mk x0.b j2.2.1 j2.2.2) (Min.min ((x1.people.length:Nat):Int) 5)).2.2) (by (simp only [Bool.and_eq_true,decide_eq_true_eq] at hc1;exact ⟨(zb2 hJ2 (n:=Min.min ((x1.people.length:Nat):Int) 5) om).2,om⟩)) (by (have h9:=zb2 hJ2 (n:=Min.min ((x1.people.length:Nat):Int) 5) om;simp only [Bool.and_eq_true,decide_eq_true_eq] at hc1;(try simp only [inR]);omega)) hR
        ·
          refine rg ⟨by (intros;omega),by (intros;omega),trivial⟩ ?_
          revert hR;refine cd (fun hc4 hR=>?_) fun hc4 hR=>?_
          ·
            refine rg trivial ?_
            exact congrArg (C34 x0 x1 x2 x3) hR
          ·
            refine rg ⟨by ( intros;simp only [inR];omega),trivial⟩ ?_
            exact hK1 (v1.1+1,j2.2.1,j2.2.2) (by (simp only [Bool.and_eq_true,decide_eq_true_eq] at hc1;exact ⟨hJ2,om⟩)) (by (have h9:=zb2 hJ2 (n:=Min.min ((x1.people.length:Nat):Int) 5) om;simp only [Bool.and_eq_true,decide_eq_true_eq] at hc1;(try simp only [inR]);omega)) hR
  ·
    refine rg trivial ?_
    exact congrArg (C34 x0 x1 x2 x3) hR
 exact FnM.go 51 Tryz.func34 (by kernel_rfl) (by kernel_rfl) (A34 x0 x1 x2 x3) (by kernel_rfl) (aux _ rfl)
def k34 (d:Nat) (ids:List Nat) (x0:ye) (x1:yc) (x2:List Int) (x3:Int):Cl:=(hresM d ids (C34 x0 x1 x2 x3 (zcq x0 x1 x2 x3)),k3 (zpy x0 x1 x2 x3))
theorem jn_eq {S α:Type} (f:(S→α)→α) (k:S→α):jn f k=f k:=rfl
theorem zo2 {c : ye} (h : CurOk c) {f : yc} {d : List Int} (hx : f.people.length ≤ 40) (s : Int) :
    ((zcq c f d s).1=-1∨(0≤(zcq c f d s).1∧(zcq c f d s).1<f.people.length∧(f.people.getD (zcq c f d s).1.toNat default).sex=s∧d.getD (zcq c f d s).1.toNat default<10))∧CurOk ⟨c.b,(zcq c f d s).2.1,(zcq c f d s).2.2⟩:=by
 unfold zcq
 refine zcu (fun v=>CurOk ⟨c.b,v.2.1,v.2.2⟩∧0≤v.1∧v.1≤6) (fun v=>6 - Int.toNat v.1) (fun (r:Int×Int×Int)=>(r.1=-1∨(0≤r.1∧r.1<f.people.length∧(f.people.getD r.1.toNat default).sex=s∧d.getD r.1.toNat default<10))∧CurOk ⟨c.b,r.2.1,r.2.2⟩) (fun v next hv hn=>?_) _ _ (Nat.lt_succ_self _) ⟨h,by simp,by simp⟩
 refine zbe (p:=fun (r:Int×Int×Int)=>(r.1=-1∨(0≤r.1∧r.1<f.people.length∧(f.people.getD r.1.toNat default).sex=s∧d.getD r.1.toNat default<10))∧CurOk ⟨c.b,r.2.1,r.2.2⟩) (fun c1=>?_) (fun _=>⟨.inl rfl,hv.1⟩)
 simp only [Bool.and_eq_true,decide_eq_true_eq] at c1
 have b1:=zb2 hv.1 (n:=((f.people.length:Nat):Int)) om
 have b2:=zei b1.2 (n:=2) om
 have b3:=zb2 b2 (n:=Min.min ((f.people.length:Nat):Int) 5) om
 dsimp only at b1 b2 b3
 have hk:∀ a b,CurOk ⟨c.b,a,b⟩→(next (v.1+1,a,b)).1=(next (v.1+1,a,b)).1→((next (v.1+1,a,b)).1=-1∨(0≤(next (v.1+1,a,b)).1∧(next (v.1+1,a,b)).1<f.people.length∧(f.people.getD (next (v.1+1,a,b)).1.toNat default).sex=s∧d.getD (next (v.1+1,a,b)).1.toNat default<10))∧CurOk ⟨c.b,(next (v.1+1,a,b)).2.1,(next (v.1+1,a,b)).2.2⟩:=fun a b hab _=>hn _ ⟨hab,by simp only;omega⟩ (by simp only;omega)
 simp only [jn_eq]
 refine zbe (p:=fun (r:Int×Int×Int)=>(r.1=-1∨(0≤r.1∧r.1<f.people.length∧(f.people.getD r.1.toNat default).sex=s∧d.getD r.1.toNat default<10))∧CurOk ⟨c.b,r.2.1,r.2.2⟩) (fun c2=>?_) (fun c2=>?_)
 ·refine zbe (p:=fun (r:Int×Int×Int)=>(r.1=-1∨(0≤r.1∧r.1<f.people.length∧(f.people.getD r.1.toNat default).sex=s∧d.getD r.1.toNat default<10))∧CurOk ⟨c.b,r.2.1,r.2.2⟩) (fun c3=>?_) (fun c3=>hk _ _ b3.2 rfl)
  simp only [Bool.and_eq_true,decide_eq_true_eq] at c3
  exact ⟨.inr ⟨by simp only;omega,by simp only;omega,c3.1,c3.2⟩,b3.2⟩
 ·refine zbe (p:=fun (r:Int×Int×Int)=>(r.1=-1∨(0≤r.1∧r.1<f.people.length∧(f.people.getD r.1.toNat default).sex=s∧d.getD r.1.toNat default<10))∧CurOk ⟨c.b,r.2.1,r.2.2⟩) (fun c3=>?_) (fun c3=>hk _ _ b2 rfl)
  simp only [Bool.and_eq_true,decide_eq_true_eq] at c3
  exact ⟨.inr ⟨b1.1.1,b1.1.2.2 om,c3.1,c3.2⟩,b2⟩
theorem zgh {x:yc} (hf:za9 x=true) {r:Int} (hr:0≤r∧r<x.people.length):0≤(x.people.getD r.toNat default).born∧(x.people.getD r.toNat default).born≤9999:=(fam_p hf (k:=r.toNat) om).born
theorem mem5 {n:Int} (h:n∈([0,1,16,20,30]:List Int)):0≤n∧n≤30:=by
 simp only [List.mem_cons,List.not_mem_nil,or_false] at h;omega
theorem mem3 {n:Int} (h:n∈([0,1,9]:List Int)):0≤n∧n≤9:=by
 simp only [List.mem_cons,List.not_mem_nil,or_false] at h;omega
end Go.Proofs.YtlinnkjieghmhaaGreatDoor
