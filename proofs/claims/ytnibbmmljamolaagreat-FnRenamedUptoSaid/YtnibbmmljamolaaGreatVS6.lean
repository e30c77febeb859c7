import Derived.Test.YtnibbmmljamolaaGreatVS4
set_option maxHeartbeats 4000000
set_option linter.unusedSimpArgs false
set_option linter.unusedVariables false
namespace Go.Proofs.YtnibbmmljamolaaGreat
open Go Go.Lite Go.Proofs
def C139E(x0:ye)(x1:Int)(x2:Int)(x3:Int)(R:Int×(List Int)):LV×List (Nat×BC):=(.int .i64 R.1,[(900000,.arr 1 R.2.length (rowOf (cInt .i64) R.2)),(900001,.var [.ro false 6 x0.c0.people.length (rowOf (zah false) x0.c0.people),.ro false 4 x0.c0.unions.length (rowOf (zas false) x0.c0.unions)]),(900002,.var [.own 900000])])
def zeh(x0:ye)(x1:Int)(x2:Int)(x3:Int):Int×(List Int):=loopW (fun (v1:Int×Int×(List Int)) nx1=>loopW (fun (v2:Int) next=>bif((decide (v2≤v1.2.1))&&(!(zal x1 v2 x0.c0 v1.2.2))) then(next (v2+1)) else(loopW (fun (v3:Int) next=>bif((decide (v2≤v3))&&(zal x1 v3 x0.c0 v1.2.2)) then(next (v3 - 1)) else(bif(decide (v3<v2)) then(v2,v1.2.2) else(nx1 (v2+1,v3 - 1,(swp v1.2.2 v2 v3))))) ((v1.2.1 - x1+1).toNat+1) v1.2.1)) ((x2 - (v1.1)).toNat+1) v1.1) ((x2 - 1 - (x1+1)+2).toNat+1) (x1+1,x2 - 1,(swp x0.l x1 x3))
def zwj(v1:Int×Int×(List Int)):Dl:=⟨[(9,.int .i64 v1.1),(10,.int .i64 v1.2.1)],[(900000,.arr 1 v1.2.2.length (rowOf (cInt .i64) v1.2.2))]⟩
def zwi(v2:Int):Dl:=⟨[(9,.int .i64 v2)],[]⟩
def zwh(v3:Int):Dl:=⟨[(10,.int .i64 v3)],[]⟩
def z59(x0:ye)(x1:Int)(x2:Int)(x3:Int)(v1:Int×Int×(List Int))(v2:Int)(v3:Int):Ann:=.reg 1 [] [(8,cg (decide (v2≤v3)) (k107 x1 v3 x0.c0 v1.2.2))] [1,4,8,9,10,42] [4,900000,900001,900002] [decide (v2≤v3)] [] [] [1,1,1,1,0,1] (cn ((decide (v2≤v3))&&(zal x1 v3 x0.c0 v1.2.2)) (r1 1 [1,4,8,9,10] [4,900000,900001,900002] [pf (inR .i64 (v3 - 1))] [0] (.next 0 [] (zwh (v3 - 1)))) (r0 1 [1,4,8,9,10,47] [4,900000,900001,900002] (cn (decide (v3<v2)) (r0 1 [8] [900000,900001,900002] (rt [(900000,some 900000),(900001,some 900001),(900002,some 900002)] (C139E x0 x1 x2 x3 (v2,v1.2.2)))) (.reg 2 [] [(4,kswE 504 [900000] v1.2.2 v2 v3)] [1,4,8,9,10] [4,900000,900001,900002] [] [pf (inR .i64 (v2+1))] [] [4,0] (r1 1 [1,4,8,9,10] [4,900000,900001,900002] [pf (inR .i64 (v3 - 1))] [0] (.next 2 [(900000,some 900000)] (zwj (v2+1,v3 - 1,(swp v1.2.2 v2 v3)))))))))
def z6a(x0:ye)(x1:Int)(x2:Int)(x3:Int)(v1:Int×Int×(List Int))(v2:Int):Ann:=let q1:=v2≤v1.2.1;.reg 1 [] [(8,cg (decide q1) (k107 x1 v2 x0.c0 v1.2.2))] [1,4,8,9,10,30] [4,900000,900001,900002] [decide q1] [] [] [1,1,1,1,0,1,1] (cn ((decide q1)&&(!(zal x1 v2 x0.c0 v1.2.2))) (r1 1 [1,4,8,9,10] [4,900000,900001,900002] [pf (inR .i64 (v2+1))] [0] (.next 0 [] (zwi (v2+1)))) (.loop Int (zwh) [30] [] [] (zwh v1.2.1) (z59 x0 x1 x2 x3 v1 v2)))
def z6b(x0:ye)(x1:Int)(x2:Int)(x3:Int)(v1:Int×Int×(List Int)):Ann:=.loop Int (zwi) [] [] [] (zwi v1.1) (z6a x0 x1 x2 x3 v1)
def A139E(x0:ye)(x1:Int)(x2:Int)(x3:Int):Ann:=.reg 3 [] [(1004,kswE 501 [900000] x0.l x1 x3)] [1,4,8,9,10] [4,900000,900001,900002] [] [pf (inR .i64 (x1+1)),pf (inR .i64 (x2 - 1))] [] [8,0,4] (.loop (Int×Int×(List Int)) (zwj) [] [] [(900000,some 900000)] (zwj (x1+1,x2 - 1,(swp x0.l x1 x3))) (z6b x0 x1 x2 x3))
structure PartEqE(x0 : ye)(x1 x2 : Int)(p : Int)(m : Int)(l : List Int) : Prop where
  b:x1+1≤m∧m≤x2
  s:Sw x1 x2 x0.l l
  pv:gi l x1=p
  lo:∀k,x1<k→k<m→zag x0.c0 p (gi l k)=false
  hi:∀k,m≤k→k<x2→zag x0.c0 p (gi l k)=true
theorem zjd(x0 : ye)(x1 x2 x3 : Int)(h : 0 ≤ x1 ∧ x1 ≤ x3 ∧ x3 < x2)(hl : x2 ≤ x0.l.length) : PartEqE x0 x1 x2 (gi x0.l x3) (zeh x0 x1 x2 x3).1 (zeh x0 x1 x2 x3).2 := by
 unfold zeh;have h0:0≤x1∧x2≤x0.l.length:=vdh
 refine za8 (fun (v:Int×Int×List Int)=>PI (fun u w=>!(zag x0.c0 w u)) x1 x2 x0.l (gi x0.l x3) v.1 v.2.1 v.2.2) (fun v=>(v.2.1 - v.1+2).toNat) (fun (r:Int×List Int)=>PartEqE x0 x1 x2 (gi x0.l x3) r.1 r.2) (fun v nx hv hx=>?_) _ _ vcT (PI.start x0.l h0 vdh);refine za8 (fun (i:Int)=>v.1≤i∧PI (fun u w=>!(zag x0.c0 w u)) x1 x2 x0.l (gi x0.l x3) i v.2.1 v.2.2) (fun i=>(x2 - i).toNat) (fun (r:Int×List Int)=>PartEqE x0 x1 x2 (gi x0.l x3) r.1 r.2) (fun i next hi hn=>?_) _ _ vdh ⟨vdh,hv⟩;obtain⟨hi0,hi⟩:=hi;have hb:=hi.b;cases hc:decide (i≤v.2.1)&&!(zal x1 i x0.c0 v.2.2) with
 |true =>simp only[oc,ob] at hc;exact hn _ ⟨vdh,hi.up hc.1 hc.2⟩ vdh
 |false =>
  refine za8 (fun (j:Int)=>j≤v.2.1∧PI (fun u w=>!(zag x0.c0 w u)) x1 x2 x0.l (gi x0.l x3) i j v.2.2) (fun j=>(j - x1+1).toNat) (fun (r:Int×List Int)=>PartEqE x0 x1 x2 (gi x0.l x3) r.1 r.2) (fun j next2 hj hn2=>?_) _ _ vdh ⟨vdh,hi⟩;obtain⟨hj0,hj⟩:=hj;have hb:=hj.b;cases hd:decide (i≤j)&&(zal x1 j x0.c0 v.2.2) with
  |true =>simp only[oc,ob] at hd;have hd2:zag x0.c0 (gi v.2.2 x1) (gi v.2.2 j)=true:=hd.2;exact hn2 _ ⟨vdh,hj.down hd.1 (by rw[hd2];rfl)⟩ vdh
  |false =>
   cases he:decide (j<i) with
   |true =>
    have he:=om he;refine⟨(⟨vdh,vdh⟩:x1+1≤i∧i≤x2),hj.s,hj.pv,fun k h1 h2=>?_,fun k h1 h2=>?_⟩
    ·have := hj.lo k h1 h2; simpa using this
    have h1:i≤k:=h1;have:=hj.hi k vdh h2;simpa using this
   |false =>have he:=oB he;rw[oM (show i≤v.2.1 by omega)] at hc;rw[oM (show i≤j by omega)] at hd;have hc:(!(zag x0.c0 (gi v.2.2 x1) (gi v.2.2 i)))=false:=hc;have hd:zag x0.c0 (gi v.2.2 x1) (gi v.2.2 j)=false:=hd;exact hx _ (hj.swap h0 vdh hc (by rw[hd];rfl)) vcT
theorem zep(x0:ye)(x1 x2 x3:Int)(h:0≤x1∧x1≤x3∧x3<x2)(hl:x2≤x0.l.length):Sw x1 x2 x0.l (zeh x0 x1 x2 x3).2:=(zjd x0 x1 x2 x3 h hl).s

theorem zfy(x0 : ye)(x1 : Int)(x2 : Int)(x3 : Int)(hx : x0.l.length ≤ 255)(hok : OkE x0)(hab : 0 ≤ x1 ∧ x1 ≤ x2 ∧ x2 ≤ x0.l.length)(hp : x1 ≤ x3 ∧ x3 < x2) : FnMT Tryz.prog 139 [.agg [.clo 107 [.vp 900001 0, .vp 900002 0], .clo 126 [.own 900000, .k Tryz.prog.globals.size 3]], .int .i64 x1, .int .i64 x2, .int .i64 x3] [.arr 1 x0.l.length (rowOf (cInt .i64) x0.l), .var [.ro false 6 x0.c0.people.length (rowOf (zah false) x0.c0.people), .ro false 4 x0.c0.unions.length (rowOf (zas false) x0.c0.unions)], .var [.own 900000]] (C139E x0 x1 x2 x3 (zeh x0 x1 x2 x3)) := by
 have aux : ∀R, zeh x0 x1 x2 x3 = R → slim (C139E x0 x1 x2 x3 R) (A139E x0 x1 x2 x3) [] := by
  intro R hR;refine rg ⟨vcx,vcx,⟨vc6,vc6⟩,trivial⟩ ?_;refine lW (fun v=>(x1+1≤v.1∧v.1≤v.2.1+2∧x1≤v.2.1∧v.2.1<x2∧v.1≤x2)∧(Sw x1 x2 x0.l v.2.2∧v.2.2.length=x0.l.length)) (fun v=>(v.2.1 - (v.1)+2).toNat) (by(((try clear hR);(try clear hK1);(try clear hK2);(try clear hK3);intros;(try simp only[w1,w2,w3,w4,w5,w6,za4,inR,IntKind.bits] at *));refine⟨vdh,?_,trivial⟩;((repeat first|refine Sw.step ?_ _ _ vdh vdh)<;>first|exact hI1.2.1|exact Sw.refl|exact hI1.2.1.mono vdh vdh))) (oH _) rfl (fun m1 v1 F1 hI1 hM1 hR hK1=>?_) hR;refine lW (fun v=>x1+1≤v∧v≤v1.2.1+2∧x1≤v1.2.1∧v1.2.1<x2∧v≤x2∧v1.1≤v) (fun v=>(x2 - (v)).toNat) vc6 (oH _) rfl (fun m2 v2 F2 hI2 hM2 hR hK2=>?_) hR;refine rg ⟨fun hg0=>⟨vc6,vbd,vat⟩,trivial⟩ ?_;refine cd (fun hc1 hR=>?_) (fun hc1 hR=>?_) hR
  ·refine rg ⟨vcq, trivial⟩ ?_;exact hK2 (v2 + 1) va3 va3 hR
  refine lW (fun v=>x1+1≤v2∧v2≤v+2∧x1≤v∧v<x2∧v2≤x2∧v1.1≤v2∧v≤v1.2.1) (fun v=>(v - x1+1).toNat) vc6 (oH _) rfl (fun m3 v3 F3 hI3 hM3 hR hK3=>?_) hR;refine rg ⟨fun hg0=>⟨vc6,vc6,vat⟩,trivial⟩ ?_;refine cd (fun hc2 hR=>?_) (fun hc2 hR=>?_) hR
  ·refine rg ⟨vcq, trivial⟩ ?_;exact hK3 (v3 - 1) va3 vc4 hR
  refine rT ?_;refine cd (fun hc3 hR=>?_) (fun hc3 hR=>?_) hR
  ·refine rT ?_;exact oe (C139E x0 x1 x2 x3) hR
  refine rg ⟨vcx,⟨vbd,vc6⟩,trivial⟩ ?_;refine rg ⟨vcx,trivial⟩ ?_;exact hK1 (v2+1,v3 - 1,(swp v1.2.2 v2 v3)) (by(((try clear hR);(try clear hK1);(try clear hK2);(try clear hK3);intros;(try simp only[w1,w2,w3,w4,w5,w6,za4,inR,IntKind.bits] at *));(repeat' apply And.intro)<;>first|omega|((repeat first|refine Sw.step ?_ _ _ vdh vdh)<;>first|exact hI1.2.1|exact Sw.refl|exact hI1.2.1.mono vdh vdh))) vbd hR
 exact FnM.go 58 Tryz.func139 zaa zaa (A139E x0 x1 x2 x3) zaa (aux _ rfl)
def k139E(d:Nat)(ids:List Nat)(x0:ye)(x1:Int)(x2:Int)(x3:Int):Cl:=(hresM d ids (C139E x0 x1 x2 x3 (zeh x0 x1 x2 x3)),Go.Lite.k4 (zfy x0 x1 x2 x3))
def C140E(x0:ye)(x1:Int)(x2:Int)(x3:Int)(R:Int×Bool×(List Int)):LV×List (Nat×BC):=(.tup [.int .i64 R.1,.bool R.2.1],[(900000,.arr 1 R.2.2.length (rowOf (cInt .i64) R.2.2)),(900001,.var [.ro false 6 x0.c0.people.length (rowOf (zah false) x0.c0.people),.ro false 4 x0.c0.unions.length (rowOf (zas false) x0.c0.unions)]),(900002,.var [.own 900000])])
def partE(x0:ye)(x1:Int)(x2:Int)(x3:Int):Int×Bool×(List Int):=loopW (fun (v1:Int) next=>bif((decide (v1≤(x2 - 1)))&&(zal v1 x1 x0.c0 (swp x0.l x1 x3))) then(next (v1+1)) else(loopW (fun (v2:Int) next=>bif((decide (v1≤v2))&&(!(zal v2 x1 x0.c0 (swp x0.l x1 x3)))) then(next (v2 - 1)) else(bif(decide (v2<v1)) then(v2,true,(swp (swp x0.l x1 x3) v2 x1)) else(loopW (fun (v3:Int×Int×(List Int)) nx3=>loopW (fun (v4:Int) next=>bif((decide (v4≤v3.2.1))&&(zal v4 x1 x0.c0 v3.2.2)) then(next (v4+1)) else(loopW (fun (v5:Int) next=>bif((decide (v4≤v5))&&(!(zal v5 x1 x0.c0 v3.2.2))) then(next (v5 - 1)) else(bif(decide (v5<v4)) then(v5,false,(swp v3.2.2 v5 x1)) else(nx3 (v4+1,v5 - 1,(swp v3.2.2 v4 v5))))) ((v3.2.1 - x1+1).toNat+1) v3.2.1)) ((x2 - (v3.1)).toNat+1) v3.1) ((v2 - 1 - (v1+1)+2).toNat+1) (v1+1,v2 - 1,(swp (swp x0.l x1 x3) v1 v2))))) ((x2 - 1 - x1+1).toNat+1) (x2 - 1))) ((x2 - (x1+1)).toNat+1) (x1+1)
def zwg(v1:Int):Dl:=⟨[(10,.int .i64 v1)],[]⟩
def zwf(v2:Int):Dl:=⟨[(11,.int .i64 v2)],[]⟩
def zwe(v3:Int×Int×(List Int)):Dl:=⟨[(10,.int .i64 v3.1),(11,.int .i64 v3.2.1)],[(900000,.arr 1 v3.2.2.length (rowOf (cInt .i64) v3.2.2))]⟩
def zwd(v4:Int):Dl:=⟨[(10,.int .i64 v4)],[]⟩
def zwc(v5:Int):Dl:=⟨[(11,.int .i64 v5)],[]⟩
def z54(x0:ye)(x1:Int)(x2:Int)(x3:Int)(v3:Int×Int×(List Int))(v4:Int)(v5:Int):Ann:=.reg 1 [] [(8,cg (decide (v4≤v5)) (k107 v5 x1 x0.c0 v3.2.2))] [1,4,8,9,10,11,86] [4,900000,900001,900002] [decide (v4≤v5)] [] [] [1,1,1,1,0,1,1] (cn ((decide (v4≤v5))&&(!(zal v5 x1 x0.c0 v3.2.2))) (r1 1 [1,4,8,9,10,11] [4,900000,900001,900002] [pf (inR .i64 (v5 - 1))] [0] (.next 0 [] (zwc (v5 - 1)))) (r0 1 [1,4,8,9,10,11,91] [4,900000,900001,900002] (cn (decide (v5<v4)) (.reg 2 [] [(4,kswE 504 [900000] v3.2.2 v5 x1)] [8,9] [900000,900001,900002] [] [] [] [0] (rt [(900000,some 900000),(900001,some 900001),(900002,some 900002)] (C140E x0 x1 x2 x3 (v5,false,(swp v3.2.2 v5 x1))))) (.reg 2 [] [(4,kswE 504 [900000] v3.2.2 v4 v5)] [1,4,8,9,10,11] [4,900000,900001,900002] [] [pf (inR .i64 (v4+1))] [] [4,0] (r1 1 [1,4,8,9,10,11] [4,900000,900001,900002] [pf (inR .i64 (v5 - 1))] [0] (.next 2 [(900000,some 900000)] (zwe (v4+1,v5 - 1,(swp v3.2.2 v4 v5)))))))))
def z55(x0:ye)(x1:Int)(x2:Int)(x3:Int)(v3:Int×Int×(List Int))(v4:Int):Ann:=let q1:=v4≤v3.2.1;.reg 1 [] [(8,cg (decide q1) (k107 v4 x1 x0.c0 v3.2.2))] [1,4,8,9,10,11,73] [4,900000,900001,900002] [decide q1] [] [] [1,1,1,1,0,1] (cn ((decide q1)&&(zal v4 x1 x0.c0 v3.2.2)) (r1 1 [1,4,8,9,10,11] [4,900000,900001,900002] [pf (inR .i64 (v4+1))] [0] (.next 0 [] (zwd (v4+1)))) (.loop Int (zwc) [73] [] [] (zwc v3.2.1) (z54 x0 x1 x2 x3 v3 v4)))
def z56(x0:ye)(x1:Int)(x2:Int)(x3:Int)(v3:Int×Int×(List Int)):Ann:=.loop Int (zwd) [] [] [] (zwd v3.1) (z55 x0 x1 x2 x3 v3)
def z57(x0:ye)(x1:Int)(x2:Int)(x3:Int)(v1:Int)(v2:Int):Ann:=let q1:=swp x0.l x1 x3;.reg 1 [] [(8,cg (decide (v1≤v2)) (k107 v2 x1 x0.c0 q1))] [1,4,8,9,10,11,43] [4,900000,900001,900002] [decide (v1≤v2)] [] [] [1,1,1,1,0,1,1] (cn ((decide (v1≤v2))&&(!(zal v2 x1 x0.c0 q1))) (r1 1 [1,4,8,9,10,11] [4,900000,900001,900002] [pf (inR .i64 (v2 - 1))] [0] (.next 0 [] (zwf (v2 - 1)))) (r0 1 [1,4,8,9,10,11,48] [4,900000,900001,900002] (cn (decide (v2<v1)) (.reg 2 [] [(4,kswE 504 [900000] q1 v2 x1)] [1,4,8,9,10,11] [4,900000,900001,900002] [] [] [] [0] (rt [(900000,some 900000),(900001,some 900001),(900002,some 900002)] (C140E x0 x1 x2 x3 (v2,true,(swp q1 v2 x1))))) (.reg 3 [] [(4,kswE 504 [900000] q1 v1 v2)] [1,4,8,9,10,11] [4,900000,900001,900002] [] [pf (inR .i64 (v1+1)),pf (inR .i64 (v2 - 1))] [] [8,0,4] (.loop (Int×Int×(List Int)) (zwe) [] [] [(900000,some 900000)] (zwe (v1+1,v2 - 1,(swp q1 v1 v2))) (z56 x0 x1 x2 x3))))))
def z58(x0:ye)(x1:Int)(x2:Int)(x3:Int)(v1:Int):Ann:=let q1:=v1≤(x2 - 1);.reg 1 [] [(8,cg (decide q1) (k107 v1 x1 x0.c0 (swp x0.l x1 x3)))] [1,4,8,9,10,11,30] [4,900000,900001,900002] [decide q1] [] [] [1,1,1,1,0,1] (cn ((decide q1)&&(zal v1 x1 x0.c0 (swp x0.l x1 x3))) (r1 1 [1,4,8,9,10,11] [4,900000,900001,900002] [pf (inR .i64 (v1+1))] [0] (.next 0 [] (zwg (v1+1)))) (.loop Int (zwf) [30] [] [] (zwf (x2 - 1)) (z57 x0 x1 x2 x3 v1)))
def A140E(x0:ye)(x1:Int)(x2:Int)(x3:Int):Ann:=.reg 3 [] [(1004,kswE 501 [900000] x0.l x1 x3)] [1,4,8,9,10,11] [4,900000,900001,900002] [] [pf (inR .i64 (x1+1)),pf (inR .i64 (x2 - 1))] [] [8,0,4] (.loop Int (zwg) [] [] [] (zwg (x1+1)) (z58 x0 x1 x2 x3))
theorem zni(x0 : ye)(x1 x2 x3 : Int)(h : 0 ≤ x1 ∧ x1 ≤ x3 ∧ x3 < x2)(hl : x2 ≤ x0.l.length) : PartOk (zag x0.c0) x1 x2 x0.l (gi x0.l x3) (partE x0 x1 x2 x3).1 (partE x0 x1 x2 x3).2.2 := by
 unfold partE;have h0:0≤x1∧x2≤x0.l.length:=vdh
 refine za8 (fun (i:Int)=>PI (zag x0.c0) x1 x2 x0.l (gi x0.l x3) i (x2 - 1) (swp x0.l x1 x3)) (fun i=>(x2 - i).toNat) (fun (r:Int×Bool×List Int)=>PartOk (zag x0.c0) x1 x2 x0.l (gi x0.l x3) r.1 r.2.2) (fun i next hi hn=>?_) _ _ vdh (PI.start x0.l h0 vdh);cases hc:decide (i≤x2 - 1)&&zal i x1 x0.c0 (swp x0.l x1 x3) with
 |true =>simp only[oc,ob] at hc;exact hn _ (hi.up hc.1 hc.2) vdh
 |false =>
  refine za8 (fun (j:Int)=>j≤x2 - 1∧PI (zag x0.c0) x1 x2 x0.l (gi x0.l x3) i j (swp x0.l x1 x3)) (fun j=>(j - x1+1).toNat) (fun (r:Int×Bool×List Int)=>PartOk (zag x0.c0) x1 x2 x0.l (gi x0.l x3) r.1 r.2.2) (fun j next2 hj hn2=>?_) _ _ vdh ⟨vdh,hi⟩;obtain⟨hj0,hj⟩:=hj;have hb:=hj.b;cases hd:decide (i≤j)&&!(zal j x1 x0.c0 (swp x0.l x1 x3)) with
  |true =>simp only[oc,ob,od] at hd;exact hn2 _ ⟨vdh,hj.down hd.1 hd.2⟩ vdh
  |false =>
   cases he:decide (j<i) with
   |true =>exact hj.done h0 (om he)
   |false =>
    have he:=oB he;rw[oM (show i≤x2 - 1 by omega)] at hc;rw[oM (show i≤j by omega)] at hd;have hc:zag x0.c0 (gi (swp x0.l x1 x3) i) (gi (swp x0.l x1 x3) x1)=false:=hc;have hd:zag x0.c0 (gi (swp x0.l x1 x3) j) (gi (swp x0.l x1 x3) x1)=true:=(by simpa using hd:zal j x1 x0.c0 (swp x0.l x1 x3)=true);refine za8 (fun (v:Int×Int×List Int)=>PI (zag x0.c0) x1 x2 x0.l (gi x0.l x3) v.1 v.2.1 v.2.2) (fun v=>(v.2.1 - v.1+2).toNat) (fun (r:Int×Bool×List Int)=>PartOk (zag x0.c0) x1 x2 x0.l (gi x0.l x3) r.1 r.2.2) (fun v nx hv hx=>?_) _ _ vcT (hj.swap h0 vdh hc hd);refine za8 (fun (i:Int)=>v.1≤i∧PI (zag x0.c0) x1 x2 x0.l (gi x0.l x3) i v.2.1 v.2.2) (fun i=>(x2 - i).toNat) (fun (r:Int×Bool×List Int)=>PartOk (zag x0.c0) x1 x2 x0.l (gi x0.l x3) r.1 r.2.2) (fun i next hi hn=>?_) _ _ vdh ⟨vdh,hv⟩;obtain⟨hi0,hi⟩:=hi;have hb:=hi.b;cases hc:decide (i≤v.2.1)&&zal i x1 x0.c0 v.2.2 with
    |true =>simp only[oc,ob] at hc;exact hn _ ⟨vdh,hi.up hc.1 hc.2⟩ vdh
    |false =>
     refine za8 (fun (j:Int)=>j≤v.2.1∧PI (zag x0.c0) x1 x2 x0.l (gi x0.l x3) i j v.2.2) (fun j=>(j - x1+1).toNat) (fun (r:Int×Bool×List Int)=>PartOk (zag x0.c0) x1 x2 x0.l (gi x0.l x3) r.1 r.2.2) (fun j next2 hj hn2=>?_) _ _ vdh ⟨vdh,hi⟩;obtain⟨hj0,hj⟩:=hj;have hb:=hj.b;cases hd:decide (i≤j)&&!(zal j x1 x0.c0 v.2.2) with
     |true =>simp only[oc,ob,od] at hd;exact hn2 _ ⟨vdh,hj.down hd.1 hd.2⟩ vdh
     |false =>
      cases he:decide (j<i) with
      |true =>exact hj.done h0 (om he)
      |false =>have he:=oB he;rw[oM (show i≤v.2.1 by omega)] at hc;rw[oM (show i≤j by omega)] at hd;have hc:zag x0.c0 (gi v.2.2 i) (gi v.2.2 x1)=false:=hc;have hd:zag x0.c0 (gi v.2.2 j) (gi v.2.2 x1)=true:=(by simpa using hd:zal j x1 x0.c0 v.2.2=true);exact hx _ (hj.swap h0 vdh hc hd) vcT
theorem zgt(x0:ye)(x1 x2 x3:Int)(h:0≤x1∧x1≤x3∧x3<x2)(hl:x2≤x0.l.length):Sw x1 x2 x0.l (partE x0 x1 x2 x3).2.2:=(zni x0 x1 x2 x3 h hl).s

theorem zhi(x0 : ye)(x1 : Int)(x2 : Int)(x3 : Int)(hx : x0.l.length ≤ 255)(hok : OkE x0)(hab : 0 ≤ x1 ∧ x1 ≤ x2 ∧ x2 ≤ x0.l.length)(hp : x1 ≤ x3 ∧ x3 < x2) : FnMT Tryz.prog 140 [.agg [.clo 107 [.vp 900001 0, .vp 900002 0], .clo 126 [.own 900000, .k Tryz.prog.globals.size 3]], .int .i64 x1, .int .i64 x2, .int .i64 x3] [.arr 1 x0.l.length (rowOf (cInt .i64) x0.l), .var [.ro false 6 x0.c0.people.length (rowOf (zah false) x0.c0.people), .ro false 4 x0.c0.unions.length (rowOf (zas false) x0.c0.unions)], .var [.own 900000]] (C140E x0 x1 x2 x3 (partE x0 x1 x2 x3)) := by
 have aux : ∀R, partE x0 x1 x2 x3 = R → slim (C140E x0 x1 x2 x3 R) (A140E x0 x1 x2 x3) [] := by
  intro R hR;refine rg ⟨vcx,vcx,⟨vc6,vc6⟩,trivial⟩ ?_;refine lW (fun v=>x1+1≤v∧v≤x2) (fun v=>(x2 - (v)).toNat) vc6 (oH _) rfl (fun m1 v1 F1 hI1 hM1 hR hK1=>?_) hR;refine rg ⟨fun hg0=>⟨vaU,vaU,vap⟩,trivial⟩ ?_;refine cd (fun hc1 hR=>?_) (fun hc1 hR=>?_) hR
  ·refine rg ⟨vcq, trivial⟩ ?_;exact hK1 (v1 + 1) vaN vaN hR
  refine lW (fun v=>x1+1≤v1∧v1≤v+2∧x1≤v∧v<x2∧v1≤x2) (fun v=>(v - x1+1).toNat) vc6 (oH _) rfl (fun m2 v2 F2 hI2 hM2 hR hK2=>?_) hR;refine rg ⟨fun hg0=>⟨vaU,vaU,vap⟩,trivial⟩ ?_;refine cd (fun hc2 hR=>?_) (fun hc2 hR=>?_) hR
  ·refine rg ⟨vcq, trivial⟩ ?_;exact hK2 (v2 - 1) vaN vc4 hR
  refine rT ?_;refine cd (fun hc3 hR=>?_) (fun hc3 hR=>?_) hR
  ·refine rg ⟨⟨vaN, vaN⟩, trivial⟩ ?_;exact oe (C140E x0 x1 x2 x3) hR
  refine rg ⟨vcx,vcx,⟨vaU,vaU⟩,trivial⟩ ?_;refine lW (fun v=>(x1+1≤v.1∧v.1≤v.2.1+2∧x1≤v.2.1∧v.2.1<x2∧v.1≤x2)∧(Sw x1 x2 x0.l v.2.2∧v.2.2.length=x0.l.length)) (fun v=>(v.2.1 - (v.1)+2).toNat) (by(((try clear hR);(try clear hK1);(try clear hK2);(try clear hK3);(try clear hK4);(try clear hK5);intros;(try simp only[w1,w2,w3,w4,w5,w6,za4,inR,IntKind.bits] at *));refine⟨vdh,?_,trivial⟩;((repeat first|refine Sw.step ?_ _ _ vdh vdh)<;>first|exact hI3.2.1|exact Sw.refl|exact hI3.2.1.mono vdh vdh))) (oH _) rfl (fun m3 v3 F3 hI3 hM3 hR hK3=>?_) hR;refine lW (fun v=>x1+1≤v∧v≤v3.2.1+2∧x1≤v3.2.1∧v3.2.1<x2∧v≤x2∧v3.1≤v) (fun v=>(x2 - (v)).toNat) vc6 (oH _) rfl (fun m4 v4 F4 hI4 hM4 hR hK4=>?_) hR;refine rg ⟨fun hg0=>⟨vaU,vc6,vap⟩,trivial⟩ ?_;refine cd (fun hc4 hR=>?_) (fun hc4 hR=>?_) hR
  ·refine rg ⟨vcq, trivial⟩ ?_;exact hK4 (v4 + 1) vaN vaN hR
  refine lW (fun v=>x1+1≤v4∧v4≤v+2∧x1≤v∧v<x2∧v4≤x2∧v3.1≤v4∧v≤v3.2.1) (fun v=>(v - x1+1).toNat) vc6 (oH _) rfl (fun m5 v5 F5 hI5 hM5 hR hK5=>?_) hR;refine rg ⟨fun hg0=>⟨vc6,vc6,vap⟩,trivial⟩ ?_;refine cd (fun hc5 hR=>?_) (fun hc5 hR=>?_) hR
  ·refine rg ⟨vcq, trivial⟩ ?_;exact hK5 (v5 - 1) vaN vc4 hR
  refine rT ?_;refine cd (fun hc6 hR=>?_) (fun hc6 hR=>?_) hR
  ·refine rg ⟨⟨vc4, vc4⟩, trivial⟩ ?_;exact oe (C140E x0 x1 x2 x3) hR
  refine rg ⟨vcx,⟨vaU,vc6⟩,trivial⟩ ?_;refine rg ⟨vcx,trivial⟩ ?_;exact hK3 (v4+1,v5 - 1,(swp v3.2.2 v4 v5)) (by(((try clear hR);(try clear hK1);(try clear hK2);(try clear hK3);(try clear hK4);(try clear hK5);intros;(try simp only[w1,w2,w3,w4,w5,w6,za4,inR,IntKind.bits] at *));(repeat' apply And.intro)<;>first|omega|((repeat first|refine Sw.step ?_ _ _ vdh vdh)<;>first|exact hI3.2.1|exact Sw.refl|exact hI3.2.1.mono vdh vdh))) vaU hR
 exact FnM.go 107 Tryz.func140 zaa zaa (A140E x0 x1 x2 x3) zaa (aux _ rfl)
def k140E(d:Nat)(ids:List Nat)(x0:ye)(x1:Int)(x2:Int)(x3:Int):Cl:=(hresM d ids (C140E x0 x1 x2 x3 (partE x0 x1 x2 x3)),Go.Lite.k4 (zhi x0 x1 x2 x3))
def tab0:List UInt8:=[0,1,2,2,3,3,3,3,4,4,4,4,4,4,4,4,5,5,5,5,5,5,5,5,5,5,5,5,5,5,5,5,6,6,6,6,6,6,6,6,6,6,6,6,6,6,6,6,6,6,6,6,6,6,6,6,6,6,6,6,6,6,6,6,7,7,7,7,7,7,7,7,7,7,7,7,7,7,7,7,7,7,7,7,7,7,7,7,7,7,7,7,7,7,7,7,7,7,7,7,7,7,7,7,7,7,7,7,7,7,7,7,7,7,7,7,7,7,7,7,7,7,7,7,7,7,7,7,8,8,8,8,8,8,8,8,8,8,8,8,8,8,8,8,8,8,8,8,8,8,8,8,8,8,8,8,8,8,8,8,8,8,8,8,8,8,8,8,8,8,8,8,8,8,8,8,8,8,8,8,8,8,8,8,8,8,8,8,8,8,8,8,8,8,8,8,8,8,8,8,8,8,8,8,8,8,8,8,8,8,8,8,8,8,8,8,8,8,8,8,8,8,8,8,8,8,8,8,8,8,8,8,8,8,8,8,8,8,8,8,8,8,8,8,8,8,8,8,8,8,8,8,8,8,8,8]
set_option maxRecDepth 100000 in
theorem z2o:tab0.length=256:=rfl
def C132(R:Int):LV×List (Nat×BC):=(.int .i64 R,[])
def zi4(x0:Int):Int:=jn (fun K1=>bif(decide (4294967296≤x0)) then(K1 (x0 / 2 ^ 32,32)) else(K1 (x0,0))) (fun (j1:Int×Int)=>jn (fun K2=>bif(decide (65536≤j1.1)) then(K2 (j1.1 / 2 ^ 16,j1.2+16)) else(K2 (j1.1,j1.2))) (fun (j2:Int×Int)=>bif(decide (256≤j2.1)) then((j2.2+8)+((tab0.getD ((j2.1 / 2 ^ 8).toNat) 0).toNat:Int)) else(j2.2+((tab0.getD j2.1.toNat 0).toNat:Int))))
def z10(j1:Int×Int):Dl:=⟨[(0,.int .u64 j1.1),(2,.int .i64 j1.2)],[]⟩
def z1z(j2:Int×Int):Dl:=⟨[(0,.int .u64 j2.1),(2,.int .i64 j2.2)],[]⟩
def A132j2(j2:Int×Int):Ann:=let q2:=((tab0.getD j2.1.toNat 0).toNat:Int);let q1:=((tab0.getD ((j2.1 / 2 ^ 8).toNat) 0).toNat:Int);r0 1 [0,2,14] [] (cn (decide (256≤j2.1)) (r1 1 [0,2] [] [pf (0≤(8:Int)∧8≤(IntKind.bits .u64:Int))] [0] (r1 1 [0,2] [] [pf (inR .i64 (j2.2+8))] [0] (r1 1 [2] [] [pf (inR .u8 (j2.1 / 2 ^ 8)),pf (0≤(j2.1 / 2 ^ 8:Int)∧(j2.1 / 2 ^ 8:Int)<((tab0.length:Nat):Int)),pf (inR .i64 q1),pf (inR .i64 ((j2.2+8)+q1))] [0,4,8,12] (rt [] (C132 ((j2.2+8)+q1)))))) (r1 1 [2] [] [pf (inR .u8 j2.1),pf (0≤(j2.1:Int)∧(j2.1:Int)<((tab0.length:Nat):Int)),pf (inR .i64 q2),pf (inR .i64 (j2.2+q2))] [0,4,8,12] (rt [] (C132 (j2.2+q2)))))
def A132j1(j1:Int×Int):Ann:=.join 0 (Int×Int) (z1z) [0,2] [] (r0 1 [0,2,8] [] (cn (decide (65536≤j1.1)) (r1 1 [0,2] [] [pf (0≤(16:Int)∧16≤(IntKind.bits .u64:Int))] [0] (r1 1 [0,2] [] [pf (inR .i64 (j1.2+16))] [0] (.next 0 [] (z1z (j1.1 / 2 ^ 16,j1.2+16))))) (.next 0 [] (z1z (j1.1,j1.2))))) (A132j2)
def A132(x0:Int):Ann:=r0 1 [0,2] [] (.join 0 (Int×Int) (z10) [0,2] [] (r0 1 [0,2,4] [] (cn (decide (4294967296≤x0)) (r1 1 [0,2] [] [pf (0≤(32:Int)∧32≤(IntKind.bits .u64:Int))] [0] (r0 1 [0,2] [] (.next 0 [] (z10 (x0 / 2 ^ 32,32))))) (.next 0 [] (z10 (x0,0))))) (A132j1))
theorem zsd(x0 : Int)(hx : 0 ≤ x0 ∧ x0 ≤ 255) : FnT Tryz.prog 132 [.int .u64 x0] (C132 (zi4 x0)) := by
 have aux : ∀R, zi4 x0 = R → slim (C132 R) (A132 x0) [] := by
  intro R hR;refine rT ?_;refine jN (fun v=>v.1=x0∧v.2=0) (fun F101 hR hJ101=>?_) (fun j1 hR hJ1=>?_) hR
  ·refine rT ?_;refine cd (fun hc1 hR => ?_) (fun hc1 hR => ?_) hR
   ·refine rg ⟨va0, trivial⟩ ?_;refine rT ?_;exact hJ101 _ hR va0
   exact hJ101 _ hR vc6
  refine jN (fun v=>v.1=x0∧v.2=0) (fun F102 hR hJ102=>?_) (fun j2 hR hJ2=>?_) hR
  ·refine rT ?_;refine cd (fun hc2 hR => ?_) (fun hc2 hR => ?_) hR
   ·refine rg ⟨va0, trivial⟩ ?_;refine rg ⟨va0, trivial⟩ ?_;exact hJ102 _ hR va0
   exact hJ102 _ hR vcA
  refine rT ?_;refine cd (fun hc3 hR=>?_) (fun hc3 hR=>?_) hR
  ·refine rg ⟨va0, trivial⟩ ?_;refine rg ⟨va0, trivial⟩ ?_;refine rg ⟨va0, va0, va0, va0, trivial⟩ ?_;exact oe C132 hR
  refine rg ⟨by((try clear hR);(try clear hJ101);(try clear hJ102);((try clear hR);intros;(try simp only[w1,w2,w3,w4,w5,w6,za4,inR,IntKind.bits] at *));omega),vaI,vaI,vaI,trivial⟩ ?_;exact oe C132 hR
 exact Fn.go 25 Tryz.func132 zaa zaa (by simp[C132,Frs,FrsL]) (A132 x0) zaa (aux _ rfl)
def k132(x0:Int):Cl:=(hres (C132 (zi4 x0)),k1 (zsd x0))
def C117(R:Int):LV×List (Nat×BC):=(.int .i64 R,[])
def zcr(x0:Int):Int:=zi4 x0
def A117(x0:Int):Ann:=r0 1 [0,2] [] (cn false (.next 99 [] ⟨[],[]⟩) (.reg 1 [] [(1,k132 x0)] [2] [] [] [] [] [0] (rt [] (C117 (zi4 x0)))))
theorem zpj(x0:Int)(h:0≤x0∧x0≤255):0≤zcr x0∧zcr x0≤8∧1≤(2:Int) ^ (zcr x0).toNat∧(2:Int) ^ (zcr x0).toNat≤2 * x0+1∧(x0=0∨(2:Int) ^ (zcr x0).toNat≤2 * x0):=by have key:∀n:Fin 256,0≤zcr (n.val:Int)∧zcr (n.val:Int)≤8∧1≤(2:Int) ^ (zcr (n.val:Int)).toNat∧(2:Int) ^ (zcr (n.val:Int)).toNat≤2 * (n.val:Int)+1∧((n.val:Int)=0∨(2:Int) ^ (zcr (n.val:Int)).toNat≤2 * (n.val:Int)):=vc1;have e:x0=((⟨x0.toNat,vdh⟩:Fin 256).val:Int):=(by simp only[];omega);rw[e];exact key _

theorem zvg(x0:Int)(hx:0≤x0∧x0≤255):FnT Tryz.prog 117 [.int .u64 x0] (C117 (zcr x0)):=by have aux:∀R,zcr x0=R→slim (C117 R) (A117 x0) []:=(by intro R hR;refine rT ?_;refine⟨fun h=>vdf,fun _=>?_⟩;refine rg ⟨vdg,trivial⟩ ?_;exact oe C117 hR);exact Fn.go 8 Tryz.func117 zaa zaa (by simp[C117,Frs,FrsL]) (A117 x0) zaa (aux _ rfl)
def k117(x0:Int):Cl:=(hres (C117 (zcr x0)),k1 (zvg x0))
def C144(R:Int):LV×List (Nat×BC):=(.int .u64 R,[])
def zda(x0:Int):Int:=1 * 2 ^ ((zcr x0).toNat)
def A144(x0:Int):Ann:=let q1:=zcr x0;.reg 3 [] [(1002,k117 x0)] [2] [] [] [pf (inR .u64 x0),pf (inR .u64 q1),pf (0≤(q1:Int)∧q1≤(IntKind.bits .u64:Int)),pf (inR .u64 (1 * 2 ^ (q1.toNat)))] [] [0,16,4,8,12] (rt [] (C144 (1 * 2 ^ (q1.toNat))))
theorem zhn(x0:Int)(h:1≤x0∧x0≤255):1≤zda x0∧zda x0≤2 * x0:=by have:=zpj x0 vdh;unfold zda;omega

theorem zig(x0:Int)(hx:0≤x0∧x0≤255):FnT Tryz.prog 144 [.int .i64 x0] (C144 (zda x0)):=by have aux:∀R,zda x0=R→slim (C144 R) (A144 x0) []:=(by intro R hR;refine rg ⟨vcx,vbt,vbt,vbt,vdg,trivial⟩ ?_;exact oe C144 hR);exact Fn.go 10 Tryz.func144 zaa zaa (by simp[C144,Frs,FrsL]) (A144 x0) zaa (aux _ rfl)
def k144(x0:Int):Cl:=(hres (C144 (zda x0)),k1 (zig x0))
def C145(x0:Int)(R:Int×Int):LV×List (Nat×BC):=(.int .u64 R.1,[(900000,.var [.int .u64 R.2])])
def zcu(x0:Int):Int×Int:=(bits .xor .u64 (bits .xor .u64 (bits .xor .u64 x0 (IntKind.wrap .u64 (x0 * 2 ^ 13))) ((bits .xor .u64 x0 (IntKind.wrap .u64 (x0 * 2 ^ 13))) / 2 ^ 7)) (IntKind.wrap .u64 ((bits .xor .u64 (bits .xor .u64 x0 (IntKind.wrap .u64 (x0 * 2 ^ 13))) ((bits .xor .u64 x0 (IntKind.wrap .u64 (x0 * 2 ^ 13))) / 2 ^ 7)) * 2 ^ 17)),bits .xor .u64 (bits .xor .u64 (bits .xor .u64 x0 (IntKind.wrap .u64 (x0 * 2 ^ 13))) ((bits .xor .u64 x0 (IntKind.wrap .u64 (x0 * 2 ^ 13))) / 2 ^ 7)) (IntKind.wrap .u64 ((bits .xor .u64 (bits .xor .u64 x0 (IntKind.wrap .u64 (x0 * 2 ^ 13))) ((bits .xor .u64 x0 (IntKind.wrap .u64 (x0 * 2 ^ 13))) / 2 ^ 7)) * 2 ^ 17)))
def A145(x0:Int):Ann:=let q1:=bits .xor .u64 (bits .xor .u64 x0 (IntKind.wrap .u64 (x0 * 2 ^ 13))) ((bits .xor .u64 x0 (IntKind.wrap .u64 (x0 * 2 ^ 13))) / 2 ^ 7);let q2:=IntKind.wrap .u64 (q1 * 2 ^ 17);.reg 5 [(1006,.wrap),(3006,.wrap)] [] [2] [900000] [] [pf (0≤(13:Int)∧13≤(IntKind.bits .u64:Int)),pf (0≤(7:Int)∧7≤(IntKind.bits .u64:Int)),pf (0≤(17:Int)∧17≤(IntKind.bits .u64:Int))] [] [0,4,8] (rt [(900000,some 900000)] (C145 x0 (bits .xor .u64 q1 q2,bits .xor .u64 q1 q2)))
theorem zhl(x0:Int):FnMT Tryz.prog 145 [.vp 900000 0] [.var [.int .u64 x0]] (C145 x0 (zcu x0)):=by have aux:∀R,zcu x0=R→slim (C145 x0 R) (A145 x0) []:=(by intro R hR;refine rg ⟨vdg,vdg,vdg,trivial⟩ ?_;exact oe (C145 x0) hR);exact FnM.go 33 Tryz.func145 zaa zaa (A145 x0) zaa (aux _ rfl)
def k145(d:Nat)(ids:List Nat)(x0:Int):Cl:=(hresM d ids (C145 x0 (zcu x0)),k0 (zhl x0))
def C135E(x0:ye)(x1:Int)(x2:Int)(R:(List Int)):LV×List (Nat×BC):=(.tup [],[(900000,.arr 1 R.length (rowOf (cInt .i64) R)),(900001,.var [.ro false 6 x0.c0.people.length (rowOf (zah false) x0.c0.people),.ro false 4 x0.c0.unions.length (rowOf (zas false) x0.c0.unions)]),(900002,.var [.own 900000])])
def zdv(x0:ye)(x1:Int)(x2:Int):(List Int):=bif(decide (8≤(x2 - x1))) then(loopW (fun (v1:Int×Int×(List Int)) next=>bif(decide (v1.1≤((x1+(((x2 - x1).tdiv 4) * 2))+1))) then(bif(decide ((x2 - x1)≤(bits .and .u64 ((zcu v1.2.1).1) ((zda (x2 - x1)) - 1)))) then(next (v1.1+1,(zcu v1.2.1).2,(swp v1.2.2 v1.1 (x1+((bits .and .u64 ((zcu v1.2.1).1) ((zda (x2 - x1)) - 1)) - (x2 - x1)))))) else(next (v1.1+1,(zcu v1.2.1).2,(swp v1.2.2 v1.1 (x1+(bits .and .u64 ((zcu v1.2.1).1) ((zda (x2 - x1)) - 1))))))) else v1.2.2) ((x1+(x2 - x1).tdiv 4 * 2+2 - ((x1+(((x2 - x1).tdiv 4) * 2)) - 1)).toNat+1) ((x1+(((x2 - x1).tdiv 4) * 2)) - 1,x2 - x1,x0.l)) else x0.l
def zs3(v1:Int×Int×(List Int)):Dl:=⟨[(9,.int .i64 v1.1)],[(7,.var [.int .u64 v1.2.1]),(900000,.arr 1 v1.2.2.length (rowOf (cInt .i64) v1.2.2))]⟩
def z6m(x0:ye)(x1:Int)(x2:Int)(v1:Int×Int×(List Int)):Ann:=let q2:=((x2 - x1).tdiv 4) * 2;let q1:=bits .and .u64 ((zcu v1.2.1).1) ((zda (x2 - x1)) - 1);let q3:=x1+(q1 - (x2 - x1));r1 1 [1,3,6,7,8,9,33] [3,7,900000,900001,900002] [pf ((4:Int)≠0),pf (inR .i64 ((x2 - x1).tdiv 4)),pf (inR .i64 q2),pf (inR .i64 (x1+q2)),pf (inR .i64 ((x1+q2)+1))] [0,4,8,12,16] (cn (decide (v1.1≤((x1+q2)+1))) (.reg 1 [] [(0,k145 36 [7] v1.2.1)] [1,3,6,7,8,9,10] [3,7,900000,900001,900002] [] [pf (inR .u64 ((zda (x2 - x1)) - 1)),pf (inR .i64 q1)] [] [8,0,4] (r0 1 [1,3,6,7,8,9,10,43] [3,7,900000,900001,900002] (cn (decide ((x2 - x1)≤q1)) (r1 1 [1,3,6,7,8,9,10] [3,7,900000,900001,900002] [pf (inR .i64 (q1 - (x2 - x1)))] [0] (.reg 1 [] [(6,kswE 505 [900000] v1.2.2 v1.1 q3)] [1,3,6,7,8,9] [3,7,900000,900001,900002] [] [pf (inR .i64 q3)] [] [0,4] (r1 1 [1,3,6,7,8,9] [3,7,900000,900001,900002] [pf (inR .i64 (v1.1+1))] [0] (.next 0 [(900000,some 900000)] (zs3 (v1.1+1,(zcu v1.2.1).2,(swp v1.2.2 v1.1 q3))))))) (.reg 1 [] [(6,kswE 505 [900000] v1.2.2 v1.1 (x1+q1))] [1,3,6,7,8,9] [3,7,900000,900001,900002] [] [pf (inR .i64 (x1+q1))] [] [0,4] (r1 1 [1,3,6,7,8,9] [3,7,900000,900001,900002] [pf (inR .i64 (v1.1+1))] [0] (.next 0 [(900000,some 900000)] (zs3 (v1.1+1,(zcu v1.2.1).2,(swp v1.2.2 v1.1 (x1+q1)))))))))) (rt [(900000,some 900000),(900001,some 900001),(900002,some 900002)] (C135E x0 x1 x2 v1.2.2)))
def A135E(x0:ye)(x1:Int)(x2:Int):Ann:=let q2:=x2 - x1;let q1:=(q2.tdiv 4) * 2;r1 3 [1,3,6,15] [3,900000,900001,900002] [pf (inR .i64 q2)] [0] (cn (decide (8≤q2)) (.reg 3 [] [(1001,k144 q2)] [1,3,6,7,8,9] [3,7,900000,900001,900002] [] [pf (inR .u64 q2),pf ((4:Int)≠0),pf (inR .i64 (q2.tdiv 4)),pf (inR .i64 q1),pf (inR .i64 (x1+q1)),pf (inR .i64 ((x1+q1) - 1))] [] [0,24,4,8,12,16,20] (.loop (Int×Int×(List Int)) (zs3) [] [] [(900000,some 900000)] (zs3 ((x1+q1) - 1,x2 - x1,x0.l)) (z6m x0 x1 x2))) (rt [(900000,some 900000),(900001,some 900001),(900002,some 900002)] (C135E x0 x1 x2 x0.l)))
theorem zci(x0 : ye)(x1 x2 : Int)(h : 0 ≤ x1 ∧ x1 ≤ x2 ∧ x2 ≤ 255) : Sw x1 x2 x0.l (zdv x0 x1 x2) := by
 unfold zdv;have h4:=tdiv4 (x2 - x1) vdh;cases hc:decide (8≤x2 - x1) with
 |false =>exact .refl
 |true =>
  have hc:=om hc;have h8:=zhn (x2 - x1) vdh;refine za8 (fun v=>x1+(x2 - x1).tdiv 4 * 2 - 1≤v.1∧Sw x1 x2 x0.l v.2.2) (fun v=>(x1+(x2 - x1).tdiv 4 * 2+2 - v.1).toNat) (fun l=>Sw x1 x2 x0.l l) (fun v next hv hn=>?_) _ _ vcT ⟨vcT,.refl⟩;have h7:=zfi (zcu v.2.1).1 (zda (x2 - x1) - 1) vdh;cases hd:decide (v.1≤x1+(x2 - x1).tdiv 4 * 2+1) with
  |false =>exact hv.2
  |true =>
   have hd:=om hd;cases he:decide (x2 - x1≤bits .and .u64 (zcu v.2.1).1 (zda (x2 - x1) - 1)) with
   |true =>have he:=om he;exact hn _ ⟨vcT,.step hv.2 _ _ vdh vdh⟩ vcT
   |false =>have he:=oB he;exact hn _ ⟨vcT,.step hv.2 _ _ vdh vdh⟩ vcT

theorem zf7(x0 : ye)(x1 : Int)(x2 : Int)(hx : x0.l.length ≤ 255)(hok : OkE x0)(hab : 0 ≤ x1 ∧ x1 ≤ x2 ∧ x2 ≤ x0.l.length) : FnMT Tryz.prog 135 [.agg [.clo 107 [.vp 900001 0, .vp 900002 0], .clo 126 [.own 900000, .k Tryz.prog.globals.size 3]], .int .i64 x1, .int .i64 x2] [.arr 1 x0.l.length (rowOf (cInt .i64) x0.l), .var [.ro false 6 x0.c0.people.length (rowOf (zah false) x0.c0.people), .ro false 4 x0.c0.unions.length (rowOf (zas false) x0.c0.unions)], .var [.own 900000]] (C135E x0 x1 x2 (zdv x0 x1 x2)) := by
 have aux : ∀R, zdv x0 x1 x2 = R → slim (C135E x0 x1 x2 R) (A135E x0 x1 x2) [] := by
  intro R hR;refine rg ⟨vcx,trivial⟩ ?_;refine cd (fun hc1 hR=>?_) (fun hc1 hR=>?_) hR
  ·refine rg ⟨vcq, vdg, vaY, vaY, vaY, vaY, vc4, trivial⟩ ?_;refine lW (fun v => (x1 + (x2 - x1).tdiv 4 * 2 - 1 ≤ v.1) ∧ (Sw x1 x2 x0.l v.2.2 ∧ v.2.2.length = x0.l.length)) (fun v => (x1 + (x2 - x1).tdiv 4 * 2 + 2 - (v.1)).toNat) (by (((try clear hR); (try clear hK1); intros; (try simp only [w1, w2, w3, w4, w5, w6, za4, inR, IntKind.bits] at *)); refine ⟨vdh, ?_, trivial⟩; ((repeat first | refine Sw.step ?_ _ _ vdh vdh) <;> first | exact hI1.2.1 | exact Sw.refl | exact hI1.2.1.mono vdh vdh))) (oH _) rfl (fun m1 v1 F1 hI1 hM1 hR hK1 => ?_) hR;refine rg ⟨vdg, vaY, vaY, vaY, vaY, trivial⟩ ?_;refine cd (fun hc2 hR => ?_) (fun hc2 hR => ?_) hR
   ·refine rg ⟨vak, vak, trivial, trivial⟩ ?_;refine rT ?_;refine cd (fun hc3 hR => ?_) (fun hc3 hR => ?_) hR
    ·refine rg ⟨vag, trivial⟩ ?_;refine rg ⟨vag, ⟨vaY, vag⟩, trivial⟩ ?_;refine rg ⟨vaY, trivial⟩ ?_;exact hK1 (v1.1 + 1, (zcu v1.2.1).2, (swp v1.2.2 v1.1 (x1 + ((bits .and .u64 ((zcu v1.2.1).1) ((zda (x2 - x1)) - 1)) - (x2 - x1))))) (by ((try clear hR hK1); intros; (try simp only [ob, oa, oj, oc, zar, zan, not_t_iff, od, inR] at *); (repeat' apply And.intro) <;> (first | (intros; omega) | (((try clear hR); (try clear hK1); intros; (try simp only [w1, w2, w3, w4, w5, w6, za4, inR, IntKind.bits] at *)); omega) | (have h9 := tdiv4 (x2 - x1) vdh; have h8 := zhn (x2 - x1) vdh; have h7 := zfi (zcu v1.2.1).1 (zda (x2 - x1) - 1) vdh; ((try clear hR); (try clear hK1); intros; (try simp only [w1, w2, w3, w4, w5, w6, za4, inR, IntKind.bits] at *)); (repeat' apply And.intro) <;> first | omega | ((repeat first | refine Sw.step ?_ _ _ vdh vdh) <;> first | exact hI1.2.1 | exact Sw.refl | exact hI1.2.1.mono vdh vdh))))) vbr hR
    refine rg ⟨van,⟨va9,van⟩,trivial⟩ ?_;refine rg ⟨va9,trivial⟩ ?_;exact hK1 (v1.1+1,(zcu v1.2.1).2,(swp v1.2.2 v1.1 (x1+(bits .and .u64 ((zcu v1.2.1).1) ((zda (x2 - x1)) - 1))))) (by((try clear hR hK1);intros;(try simp only[ob,oa,oj,oc,zar,zan,not_t_iff,od,inR] at *);(repeat' apply And.intro)<;>(first|(intros;omega)|(((try clear hR);(try clear hK1);intros;(try simp only[w1,w2,w3,w4,w5,w6,za4,inR,IntKind.bits] at *));omega)|(have h9:=tdiv4 (x2 - x1) vdh;have h8:=zhn (x2 - x1) vdh;have h7:=zfi (zcu v1.2.1).1 (zda (x2 - x1) - 1) vdh;((try clear hR);(try clear hK1);intros;(try simp only[w1,w2,w3,w4,w5,w6,za4,inR,IntKind.bits] at *));(repeat' apply And.intro)<;>first|omega|((repeat first|refine Sw.step ?_ _ _ vdh vdh)<;>first|exact hI1.2.1|exact Sw.refl|exact hI1.2.1.mono vdh vdh))))) vbv hR
   exact oe (C135E x0 x1 x2) hR
  exact oe (C135E x0 x1 x2) hR
 exact FnM.go 54 Tryz.func135 zaa zaa (A135E x0 x1 x2) zaa (aux _ rfl)
def k135E(d:Nat)(ids:List Nat)(x0:ye)(x1:Int)(x2:Int):Cl:=(hresM d ids (C135E x0 x1 x2 (zdv x0 x1 x2)),k3 (zf7 x0 x1 x2))
end Go.Proofs.YtnibbmmljamolaaGreat
