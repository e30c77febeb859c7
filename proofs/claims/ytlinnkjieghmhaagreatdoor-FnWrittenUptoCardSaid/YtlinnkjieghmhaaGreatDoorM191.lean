import Derived.Test.YtlinnkjieghmhaaGreatDoorVS72
set_option maxHeartbeats 4000000
set_option linter.unusedSimpArgs false
set_option linter.unusedVariables false
namespace Go.Proofs.YtlinnkjieghmhaaGreatDoor
open Go Go.Lite Go.Proofs
def C70P (x0:yf) (x1:Int) (R:(List Int)):LV×List (Nat×BC):=(.tup [],[(900000,.arr 1 R.length (rowOf (cInt .i64) R)),(900001,.var [.ro false 6 x0.c0.people.length (rowOf (zbg false) x0.c0.people),.ro false 4 x0.c0.unions.length (rowOf (zbi false) x0.c0.unions)]),(900002,.var [.own 900000])])
def zjz (x0:yf) (x1:Int):(List Int):=loopW (fun (v1:Int×Int×(List Int)) next=>bif (decide (v1.2.1≤x1)) then (jn (fun K1=>K1 (zfb (yf.mk x0.c0 v1.2.2) v1.1 v1.2.1)) (fun (j1:(List Int))=>next (v1.2.1,v1.2.1+20,j1))) else (jn (fun K2=>K2 (zfb (yf.mk x0.c0 v1.2.2) v1.1 x1)) (fun (j2:(List Int))=>loopW (fun (v2:Int×(List Int)) nx2=>bif (decide (v2.1<x1)) then (loopW (fun (v3:Int×Int×(List Int)) next=>bif (decide (v3.2.1≤x1)) then (jn (fun K3=>K3 (ze4 (yf.mk x0.c0 v3.2.2) v3.1 (v3.1+v2.1) v3.2.1)) (fun (j3:(List Int))=>next (v3.2.1,v3.2.1+(2 * v2.1),j3))) else (bif (decide ((v3.1+v2.1)<x1)) then (nx2 (v2.1 * 2,ze4 (yf.mk x0.c0 v3.2.2) v3.1 (v3.1+v2.1) x1)) else (nx2 (v2.1 * 2,v3.2.2)))) ((x1+1000 - (2 * v2.1)).toNat+1) (0,2 * v2.1,v2.2)) else v2.2) ((x1+20 - (20)).toNat+1) (20,j2)))) ((x1+20 - (20)).toNat+1) (0,20,x0.l)
def z1v (v1:Int×Int×(List Int)):Dl:=⟨[(5,.int .i64 v1.1),(6,.int .i64 v1.2.1)],[(900000,.arr 1 v1.2.2.length (rowOf (cInt .i64) v1.2.2))]⟩
def z4l (j1:(List Int)):Dl:=⟨[],[(900000,.arr 1 j1.length (rowOf (cInt .i64) j1))]⟩
def A70Pj1 (v1:Int×Int×(List Int)) (j1:(List Int)):Ann:=r0 1 [1,2,4,5,6] [2,900000,900001,900002] (r1 1 [1,2,4,5,6] [2,900000,900001,900002] [pf (inR .i64 (v1.2.1+20))] [0] (.next 0 [(900000,some 900000)] (z1v (v1.2.1,v1.2.1+20,j1))))
def z4k (j2:(List Int)):Dl:=⟨[],[(900000,.arr 1 j2.length (rowOf (cInt .i64) j2))]⟩
def zxa (v2:Int×(List Int)):Dl:=⟨[(4,.int .i64 v2.1)],[(900000,.arr 1 v2.2.length (rowOf (cInt .i64) v2.2))]⟩
def z1u (v3:Int×Int×(List Int)):Dl:=⟨[(5,.int .i64 v3.1),(6,.int .i64 v3.2.1)],[(900000,.arr 1 v3.2.2.length (rowOf (cInt .i64) v3.2.2))]⟩
def z4j (j3:(List Int)):Dl:=⟨[],[(900000,.arr 1 j3.length (rowOf (cInt .i64) j3))]⟩
def A70Pj3 (v2:Int×(List Int)) (v3:Int×Int×(List Int)) (j3:(List Int)):Ann:=r0 1 [1,2,4,5,6] [2,900000,900001,900002] (r1 1 [1,2,4,5,6] [2,900000,900001,900002] [pf (inR .i64 (2 * v2.1)),pf (inR .i64 (v3.2.1+(2 * v2.1)))] [0,4] (.next 0 [(900000,some 900000)] (z1u (v3.2.1,v3.2.1+(2 * v2.1),j3))))
def A70Pb3 (x0:yf) (x1:Int) (v2:Int×(List Int)) (v3:Int×Int×(List Int)):Ann:=let q1:=v3.1+v2.1;let q2:=yf.mk x0.c0 v3.2.2;r0 1 [1,2,4,5,6,31] [2,900000,900001,900002] (cn (decide (v3.2.1≤x1)) (.join 0 (List Int) (z4j) [1,2,4,5,6] [2,900001,900002,900000] (.reg 1 [] [(6,k92P 38 [900000,900001,900002] q2 v3.1 q1 v3.2.1)] [1,2,4,5,6] [2,900000,900001,900002] [] [pf (inR .i64 q1)] [] [0,4] (.next 0 [(900000,some 900000)] (z4j (ze4 q2 v3.1 q1 v3.2.1)))) (A70Pj3 v2 v3)) (r1 2 [1,2,4,5,7,49] [2,900000,900001,900002] [pf (inR .i64 q1)] [0] (cn (decide (q1<x1)) (.reg 1 [] [(4,k92P 54 [900000,900001,900002] q2 v3.1 q1 x1)] [1,2,4] [2,900000,900001,900002] [] [] [] [0] (r1 1 [1,2,4] [2,900000,900001,900002] [pf (inR .i64 (v2.1 * 2))] [0] (.next 1 [(900000,some 900000)] (zxa (v2.1 * 2,ze4 q2 v3.1 q1 x1))))) (r1 1 [1,2,4] [2,900000,900001,900002] [pf (inR .i64 (v2.1 * 2))] [0] (.next 1 [(900000,some 900000)] (zxa (v2.1 * 2,v3.2.2)))))))
def A70Pb2 (x0:yf) (x1:Int) (v2:Int×(List Int)):Ann:=r0 1 [1,2,4,26] [2,900000,900001,900002] (cn (decide (v2.1<x1)) (r1 1 [1,2,4,5,6] [2,900000,900001,900002] [pf (inR .i64 (2 * v2.1))] [0] (.loop (Int×Int×(List Int)) (z1u) [] [] [(900000,some 900000)] (z1u (0,2 * v2.1,v2.2)) (A70Pb3 x0 x1 v2))) (rt [(900000,some 900000),(900001,some 900001),(900002,some 900002)] (C70P x0 x1 v2.2)))
def A70Pj2 (x0:yf) (x1:Int) (j2:(List Int)):Ann:=.loop (Int×(List Int)) (zxa) [] [] [(900000,some 900000)] (zxa (20,j2)) (A70Pb2 x0 x1)
def A70Pb1 (x0:yf) (x1:Int) (v1:Int×Int×(List Int)):Ann:=let q1:=yf.mk x0.c0 v1.2.2;r0 1 [1,2,4,5,6,11] [2,900000,900001,900002] (cn (decide (v1.2.1≤x1)) (.join 0 (List Int) (z4l) [1,2,4,5,6] [2,900001,900002,900000] (.reg 1 [] [(3,k91P 15 [900000,900001,900002] q1 v1.1 v1.2.1)] [1,2,4,5,6] [2,900000,900001,900002] [] [] [] [0] (.next 0 [(900000,some 900000)] (z4l (zfb q1 v1.1 v1.2.1)))) (A70Pj1 v1)) (.join 0 (List Int) (z4k) [1,2,4] [2,900001,900002,900000] (.reg 1 [] [(3,k91P 23 [900000,900001,900002] q1 v1.1 x1)] [1,2,4] [2,900000,900001,900002] [] [] [] [0] (.next 0 [(900000,some 900000)] (z4k (zfb q1 v1.1 x1)))) (A70Pj2 x0 x1)))
def A70P (x0:yf) (x1:Int):Ann:=r0 3 [1,2,4,5,6] [2,900000,900001,900002] (.loop (Int×Int×(List Int)) (z1v) [] [] [(900000,some 900000)] (z1v (0,20,x0.l)) (A70Pb1 x0 x1))
theorem zxh (x:yf) (n:Int):zjz x n=gStb (RP x) x.l n:=by
 unfold zjz gStb ze4
 simp only [zh2,zu2]
 rfl

theorem zie (x0:yf) (x1:Int) (hx:x0.l.length≤255) (hk:LkP x0 x0.l) (hn:x1=x0.l.length):FnMT Tryz.prog 70 [.agg [.clo 56 [.vp 900001 0,.vp 900002 0],.clo 86 [.own 900000,.k Tryz.prog.globals.size 3]],.int .i64 x1] [.arr 1 x0.l.length (rowOf (cInt .i64) x0.l),.var [.ro false 6 x0.c0.people.length (rowOf (zbg false) x0.c0.people),.ro false 4 x0.c0.unions.length (rowOf (zbi false) x0.c0.unions)],.var [.own 900000]] (C70P x0 x1 (zjz x0 x1)):=by
 have aux:∀ R,zjz x0 x1=R→slim (C70P x0 x1 R) (A70P x0 x1) []:=by
  intro R hR
  refine rg trivial ?_
  revert hR;refine lW (fun v=>(0≤v.1∧v.1≤x1∧v.2.1=v.1+20)∧LkP x0 v.2.2) (fun v=>(x1+20 - (v.2.1)).toNat) zak (Nat.lt_succ_self _) rfl fun m1 v1 F1 hI1 hM1 hR hK1=>?_
  refine rg trivial ?_
  revert hR;refine cd (fun hc1 hR=>?_) fun hc1 hR=>?_
  ·
    revert hR;refine jN (fun v=>LkP x0 v) (fun F101 hR hJ101=>?_) (fun j1 hR hJ1=>?_)
    ·
      refine rg ⟨⟨by (have h9:=(hI1.2).2;intros;(try simp only [decide_eq_true_eq,decide_eq_false_iff_not,Bool.and_eq_true,Bool.not_eq_true',zba,inR] at *);first | done | omega),by (exact (hI1.2).me),by (have h9:=(hI1.2).2;intros;(try simp only [decide_eq_true_eq,decide_eq_false_iff_not,Bool.and_eq_true,Bool.not_eq_true',zba,inR] at *);first | done | omega)⟩,trivial⟩ ?_
      exact hJ101 _ hR (by (have h9:=(hI1.2).2;intros;(try simp only [decide_eq_true_eq,decide_eq_false_iff_not,Bool.and_eq_true,Bool.not_eq_true',zba,inR] at *);exact (hI1.2).of (zpc (hI1.2).me zap)))
    ·
      refine rg trivial ?_
      refine rg ⟨by (have h9:=(hk).2;intros;(try simp only [decide_eq_true_eq,decide_eq_false_iff_not,Bool.and_eq_true,Bool.not_eq_true',zba,inR] at *);first | done | omega),trivial⟩ ?_
      exact hK1 (v1.2.1,v1.2.1+20,j1) (by ((try clear hR hK1);intros;(try simp only [decide_eq_true_eq,decide_eq_false_iff_not,Bool.or_eq_true,Bool.and_eq_true,zbd,zbb,zbc,Bool.not_eq_true',inR] at *);(repeat' apply And.intro)<;>(first | (intros;omega) | (have h9:=(hk).2;intros;(try simp only [decide_eq_true_eq,decide_eq_false_iff_not,Bool.and_eq_true,Bool.not_eq_true',zba,inR] at *);first | done | omega) | (exact (hJ1).1) | (have h9:=(hJ1).2;intros;(try simp only [decide_eq_true_eq,decide_eq_false_iff_not,Bool.and_eq_true,Bool.not_eq_true',zba,inR] at *);first | done | omega)))) zan hR
  ·
    revert hR;refine jN (fun v=>LkP x0 v) (fun F102 hR hJ102=>?_) (fun j2 hR hJ2=>?_)
    ·
      refine rg ⟨⟨by (have h9:=(hI1.2).2;intros;(try simp only [decide_eq_true_eq,decide_eq_false_iff_not,Bool.and_eq_true,Bool.not_eq_true',zba,inR] at *);first | done | omega),by (exact (hI1.2).me),by (have h9:=(hI1.2).2;intros;(try simp only [decide_eq_true_eq,decide_eq_false_iff_not,Bool.and_eq_true,Bool.not_eq_true',zba,inR] at *);first | done | omega)⟩,trivial⟩ ?_
      exact hJ102 _ hR (by (have h9:=(hI1.2).2;intros;(try simp only [decide_eq_true_eq,decide_eq_false_iff_not,Bool.and_eq_true,Bool.not_eq_true',zba,inR] at *);exact (hI1.2).of (zpc (hI1.2).me zap)))
    ·
      revert hR;refine lW (fun v=>(20≤v.1∧v.1≤600)∧LkP x0 v.2) (fun v=>(x1+20 - (v.1)).toNat) zaj (Nat.lt_succ_self _) rfl fun m2 v2 F2 hI2 hM2 hR hK2=>?_
      refine rg trivial ?_
      revert hR;refine cd (fun hc2 hR=>?_) fun hc2 hR=>?_
      ·
        refine rg ⟨by (have h9:=(hk).2;intros;(try simp only [decide_eq_true_eq,decide_eq_false_iff_not,Bool.and_eq_true,Bool.not_eq_true',zba,inR] at *);first | done | omega),trivial⟩ ?_
        revert hR;refine lW (fun v=>(0≤v.1∧v.1≤x1∧v.2.1=v.1+2 * v2.1)∧LkP x0 v.2.2) (fun v=>(x1+1000 - (v.2.1)).toNat) zaf (Nat.lt_succ_self _) rfl fun m3 v3 F3 hI3 hM3 hR hK3=>?_
        refine rg trivial ?_
        revert hR;refine cd (fun hc3 hR=>?_) fun hc3 hR=>?_
        ·
          revert hR;refine jN (fun v=>LkP x0 v) (fun F103 hR hJ103=>?_) (fun j3 hR hJ3=>?_)
          ·
            refine rg ⟨by (have h9:=(hk).2;intros;(try simp only [decide_eq_true_eq,decide_eq_false_iff_not,Bool.and_eq_true,Bool.not_eq_true',zba,inR] at *);first | done | omega),⟨by (have h9:=(hI3.2).2;intros;(try simp only [decide_eq_true_eq,decide_eq_false_iff_not,Bool.and_eq_true,Bool.not_eq_true',zba,inR] at *);first | done | omega),by (exact (hI3.2).me),by (have h9:=(hI3.2).2;intros;(try simp only [decide_eq_true_eq,decide_eq_false_iff_not,Bool.and_eq_true,Bool.not_eq_true',zba,inR] at *);first | done | omega)⟩,trivial⟩ ?_
            exact hJ103 _ hR (by (have h9:=(hI3.2).2;intros;(try simp only [decide_eq_true_eq,decide_eq_false_iff_not,Bool.and_eq_true,Bool.not_eq_true',zba,inR] at *);exact (hI3.2).of (zh1 _ (hI3.2).me zap)))
          ·
            refine rg trivial ?_
            refine rg ⟨by (have h9:=(hk).2;intros;(try simp only [decide_eq_true_eq,decide_eq_false_iff_not,Bool.and_eq_true,Bool.not_eq_true',zba,inR] at *);first | done | omega),by (have h9:=(hk).2;intros;(try simp only [decide_eq_true_eq,decide_eq_false_iff_not,Bool.and_eq_true,Bool.not_eq_true',zba,inR] at *);first | done | omega),trivial⟩ ?_
            exact hK3 (v3.2.1,v3.2.1+(2 * v2.1),j3) (by ((try clear hR hK1 hK2 hK3);intros;(try simp only [decide_eq_true_eq,decide_eq_false_iff_not,Bool.or_eq_true,Bool.and_eq_true,zbd,zbb,zbc,Bool.not_eq_true',inR] at *);(repeat' apply And.intro)<;>(first | (intros;omega) | (have h9:=(hk).2;intros;(try simp only [decide_eq_true_eq,decide_eq_false_iff_not,Bool.and_eq_true,Bool.not_eq_true',zba,inR] at *);first | done | omega) | (exact (hJ3).1) | (have h9:=(hJ3).2;intros;(try simp only [decide_eq_true_eq,decide_eq_false_iff_not,Bool.and_eq_true,Bool.not_eq_true',zba,inR] at *);first | done | omega)))) zan hR
        ·
          refine rg ⟨by (have h9:=(hk).2;intros;(try simp only [decide_eq_true_eq,decide_eq_false_iff_not,Bool.and_eq_true,Bool.not_eq_true',zba,inR] at *);first | done | omega),trivial⟩ ?_
          revert hR;refine cd (fun hc4 hR=>?_) fun hc4 hR=>?_
          ·
            refine rg ⟨⟨by (have h9:=(hI3.2).2;intros;(try simp only [decide_eq_true_eq,decide_eq_false_iff_not,Bool.and_eq_true,Bool.not_eq_true',zba,inR] at *);first | done | omega),by (exact (hI3.2).me),by (have h9:=(hI3.2).2;intros;(try simp only [decide_eq_true_eq,decide_eq_false_iff_not,Bool.and_eq_true,Bool.not_eq_true',zba,inR] at *);first | done | omega)⟩,trivial⟩ ?_
            refine rg ⟨by (have h9:=(hk).2;intros;(try simp only [decide_eq_true_eq,decide_eq_false_iff_not,Bool.and_eq_true,Bool.not_eq_true',zba,inR] at *);first | done | omega),trivial⟩ ?_
            exact hK2 (v2.1 * 2,ze4 (yf.mk x0.c0 v3.2.2) v3.1 (v3.1+v2.1) x1) (by (have h9:=(hI3.2).2;intros;(try simp only [decide_eq_true_eq,decide_eq_false_iff_not,Bool.and_eq_true,Bool.not_eq_true',zba,inR] at *);refine ⟨by ((try dsimp only);omega),(hI3.2).of (zh1 _ (hI3.2).me zap)⟩)) zan hR
          ·
            refine rg ⟨by (have h9:=(hk).2;intros;(try simp only [decide_eq_true_eq,decide_eq_false_iff_not,Bool.and_eq_true,Bool.not_eq_true',zba,inR] at *);first | done | omega),trivial⟩ ?_
            exact hK2 (v2.1 * 2,v3.2.2) zag zan hR
      ·
        exact congrArg (C70P x0 x1) hR
 exact FnM.go 57 Tryz.func70 (by kernel_rfl) (by kernel_rfl) (A70P x0 x1) (by kernel_rfl) (aux _ rfl)
def k70P (d:Nat) (ids:List Nat) (x0:yf) (x1:Int):Cl:=(hresM d ids (C70P x0 x1 (zjz x0 x1)),k3 (zie x0 x1))
def eqc {α:Type} (R:α→α→Bool) (x y:α):Bool:=!R x y&&!R y x
def StEq {α:Type} (R:α→α→Bool) (l m:List α):Prop:=∀ x,m.filter (eqc R x)=l.filter (eqc R x)
theorem StEq.refl {α:Type} (R:α→α→Bool) (l:List α):StEq R l l:=fun _=>rfl
theorem StEq.trans {α:Type} {R:α→α→Bool} {l m n:List α} (h:StEq R l m) (h2:StEq R m n):StEq R l n:=fun x=>(h2 x).trans (h x)
theorem StEq.mid {α:Type} {R:α→α→Bool} {u v X Y:List α} (h:StEq R u v):StEq R (X++u++Y) (X++v++Y):=fun x=>by
 simp only [List.filter_append,h x]
theorem StEq.swap {α:Type} {R:α→α→Bool} (hR:SWO R) {u v:List α} (h:∀ y∈u,∀ z∈v,R z y=true):StEq R (u++v) (v++u):=fun x=>by
 rw [List.filter_append,List.filter_append]
 by_cases hu:u.filter (eqc R x)=[]
 ·rw [hu];simp
 ·have hv:v.filter (eqc R x)=[]:=by
   obtain ⟨y,hy⟩:=List.exists_mem_of_ne_nil _ hu
   obtain ⟨hy1,hy2⟩:=List.mem_filter.1 hy
   rw [List.filter_eq_nil_iff]
   intro z hz hc
   simp only [eqc,Bool.and_eq_true,Bool.not_eq_true'] at hy2 hc
   have h1:=h y hy1 z hz
   rw [hR.ntr z x y hc.2 hy2.1] at h1
   cases h1
  rw [hv];simp
theorem ext_gi {α:Type} [Inhabited α] {l m:List α} (h:l.length=m.length) (hk:∀ k:Int,0≤k→k<l.length→gi l k=gi m k):l=m:=by
 apply List.ext_getElem h
 intro k h1 h2
 have:=hk k om om
 rw [zwg l k om om,zwg m k om om] at this
 simpa using this
def seg {α:Type} (l:List α) (a b:Int):List α:=(l.drop a.toNat).take (b - a).toNat
theorem zn6 {α:Type} {l:List α} {a b:Int} (h:0≤a∧a≤b∧b≤l.length):(seg l a b).length=(b - a).toNat:=by
 unfold seg;rw [List.length_take,List.length_drop];omega
theorem zn7 {α:Type} [Inhabited α] {l:List α} {a b:Int} (h:0≤a∧a≤b∧b≤l.length) {k:Int} (hk:0≤k∧k<b - a):gi (seg l a b) k=gi l (a+k):=by
 unfold gi seg
 rw [List.getD_eq_getElem?_getD,List.getD_eq_getElem?_getD,List.getElem?_take,if_pos om,List.getElem?_drop,show a.toNat+k.toNat=(a+k).toNat by omega]
theorem zy3 {α:Type} [Inhabited α] {l:List α} {a b:Int} (h:0≤a∧a≤b∧b≤l.length) {y:α} (hy:y∈seg l a b):∃ k,a≤k∧k<b∧y=gi l k:=by
 obtain ⟨k,hk,e⟩:=zf2 (d:=default) hy
 rw [zn6 h] at hk
 refine ⟨a+k,om,om,?_⟩
 rw [← zn7 h (k:=k) om,← e]
 unfold gi;rw [Int.toNat_natCast]
theorem zwh {α:Type} [Inhabited α] (X Y:List α) {k:Int} (hk:0≤k):gi (X++Y) k=if k<X.length then gi X k else gi Y (k - X.length):=by
 unfold gi
 rw [List.getD_eq_getElem?_getD,List.getD_eq_getElem?_getD,List.getD_eq_getElem?_getD,List.getElem?_append]
 by_cases c:k<X.length
 ·rw [if_pos om,if_pos c]
 ·rw [if_neg om,if_neg c,show k.toNat - X.length=(k - X.length).toNat by omega]
theorem parts {α : Type} [Inhabited α] {l : List α} {a b : Int} {M : List α} (h : 0 ≤ a ∧ a ≤ b ∧ b ≤ l.length) (hM : (M.length : Int) = b - a) {l' : List α} (hl : l'.length = l.length) (ho : ∀ k, 0 ≤ k → k < a ∨ b ≤ k → gi l' k = gi l k)
    (hm:∀ k,0≤k→k<b - a→gi l' (a+k)=gi M k):l'=seg l 0 a++M++seg l b l.length:=by
 have l1:=zn6 (l:=l) (a:=0) (b:=a) om
 have l2:=zn6 (l:=l) (a:=b) (b:=l.length) om
 refine ext_gi (by rw [List.length_append,List.length_append,l1,l2];omega) fun k h0 h1=>?_
 rw [zwh _ _ h0,List.length_append,l1]
 by_cases c1:k<b
 ·rw [if_pos om,zwh _ _ h0,l1]
  by_cases c2:k<a
  ·rw [if_pos om,zn7 om om,ho k h0 (.inl c2),Int.zero_add]
  ·rw [if_neg om,← hm _ om om]
   congr 1;omega
 ·rw [if_neg om,zn7 om om,ho k h0 (.inr om)]
  congr 1;omega
structure MrgOk {α:Type} [Inhabited α] (R:α→α→Bool) (a b:Int) (l l':List α):Prop where
 len:l'.length=l.length
 out:∀ k,0≤k→k<a∨b≤k→gi l' k=gi l k
 inn:∀ k,a≤k→k<b→∃ k',a≤k'∧k'<b∧gi l' k=gi l k'
 st:StEq R l l'
theorem MrgOk.refl {α:Type} [Inhabited α] (R:α→α→Bool) (a b:Int) (l:List α):MrgOk R a b l l:=⟨rfl,fun _ _ _=>rfl,fun k h1 h2=>⟨k,h1,h2,rfl⟩,.refl R l⟩
theorem MrgOk.trans {α:Type} [Inhabited α] {R:α→α→Bool} {a b:Int} {l m n:List α} (h:MrgOk R a b l m) (h2:MrgOk R a b m n):MrgOk R a b l n :=
 ⟨h2.len.trans h.len,fun k h0 h1=>(h2.out k h0 h1).trans (h.out k h0 h1),fun k h0 h1=>by
  obtain ⟨k1,a1,a2,e1⟩:=h2.inn k h0 h1
  obtain ⟨k2,b1,b2,e2⟩:=h.inn k1 a1 a2
  exact ⟨k2,b1,b2,e1.trans e2⟩,h.st.trans h2.st⟩
theorem MrgOk.mono {α:Type} [Inhabited α] {R:α→α→Bool} {a b c d:Int} {l m:List α} (h:MrgOk R a b l m) (h0:0≤c) (h1:c≤a) (h2:b≤d):MrgOk R c d l m :=
 ⟨h.len,fun k g0 g1=>h.out k g0 om,fun k g0 g1=>by
  by_cases q:a≤k∧k<b
  ·obtain ⟨k',a1,a2,e⟩:=h.inn k q.1 q.2
   exact ⟨k',om,om,e⟩
  ·exact ⟨k,g0,g1,h.out k om om⟩,h.st⟩
theorem z4q {α:Type} [Inhabited α] {R:α→α→Bool} (hR:SWO R) {l:List α} {a:Int} (h:0≤a∧a+1<l.length) (hr:R (gi l (a+1)) (gi l a)=true) {l':List α} (hl:l'.length=l.length) (ho:∀ k,0≤k→k≠a→k≠a+1→gi l' k=gi l k) (h1:gi l' a=gi l (a+1)) (h2:gi l' (a+1)=gi l a):StEq R l l':=by
 have e1:l=seg l 0 a++([gi l a]++[gi l (a+1)])++seg l (a+2) l.length:=parts om (by simp;omega) rfl (fun _ _ _=>rfl) (fun k g0 g1=>by
  have:k=0∨k=1:=by omega
  rcases this with rfl | rfl
  ·rw [Int.add_zero];rfl
  ·rfl)
 have e2:l'=seg l 0 a++([gi l (a+1)]++[gi l a])++seg l (a+2) l.length:=parts om (by simp;omega) hl (fun k g0 g1=>ho k g0 om om) (fun k g0 g1=>by
  have:k=0∨k=1:=by omega
  rcases this with rfl | rfl
  ·rw [Int.add_zero,h1];rfl
  ·rw [h2];rfl)
 have hs:StEq R (seg l 0 a++([gi l a]++[gi l (a+1)])++seg l (a+2) l.length) (seg l 0 a++([gi l (a+1)]++[gi l a])++seg l (a+2) l.length) :=
  (StEq.swap hR (u:=[gi l a]) (v:=[gi l (a+1)]) (fun y hy z hz=>by rw [List.mem_singleton.1 hy,List.mem_singleton.1 hz];exact hr)).mid
 rw [← e1,← e2] at hs
 exact hs
theorem zut {α:Type} [Inhabited α] {R:α→α→Bool} (hR:SWO R) {l:List α} {a b k i j:Int} (h:0≤a∧a≤k∧k+1<b∧b≤l.length) (hr:R (gi l (k+1)) (gi l k)=true) (hij:(i=k∧j=k+1)∨(i=k+1∧j=k)):MrgOk R a b l (swp l i j):=by
 have g:=fun q (h0:0≤q)=>ztr l i j q om om h0
 refine ⟨zba _ _ _,fun q h0 h1=>?_,fun q h0 h1=>?_,z4q hR (a:=k) om hr (zba _ _ _) (fun q h0 h1 h2=>?_) ?_ ?_⟩
 ·rw [g q h0,if_neg om,if_neg om]
 ·rw [g q om]
  split
  ·exact ⟨i,om,om,rfl⟩
  ·split
   ·exact ⟨j,om,om,rfl⟩
   ·exact ⟨q,om,om,rfl⟩
 ·rw [g q h0,if_neg om,if_neg om]
 ·rw [g k om]
  rcases hij with ⟨rfl,rfl⟩ | ⟨rfl,rfl⟩
  ·rw [if_neg om,if_pos rfl]
  ·rw [if_pos rfl]
 ·rw [g (k+1) om]
  rcases hij with ⟨rfl,rfl⟩ | ⟨rfl,rfl⟩
  ·rw [if_pos rfl]
  ·rw [if_neg om,if_pos rfl]
theorem zu4 {α:Type} [Inhabited α] {l:List α} {a b n:Int} (h:0≤a∧0≤n∧a+n≤b∧b+n≤l.length):(gSwp l a b n).length=l.length∧∀ k,0≤k→gi (gSwp l a b n) k=if a≤k∧k<a+n then gi l (k - a+b) else if b≤k∧k<b+n then gi l (k - b+a) else gi l k:=by
 suffices key:(fun r:List α=>r.length=l.length∧∀ k,0≤k→gi r k=if a≤k∧k<a+n then gi l (k - a+b) else if b≤k∧k<b+n then gi l (k - b+a) else gi l k) (gSwp l a b n) from key
 unfold gSwp
 refine zbx (fun i (v : List α) => v.length = l.length ∧ ∀ k, 0 ≤ k → gi v k = if a ≤ k ∧ k < a + ((i : Nat) : Int) then gi l (k - a + b) else if b ≤ k ∧ k < b + ((i : Nat) : Int) then gi l (k - b + a) else gi l k) (fun r : List α => r.length = l.length ∧ ∀ k, 0 ≤ k → gi r k = if a ≤ k ∧ k < a + n then gi l (k - a + b) else if b ≤ k ∧ k < b + n then gi l (k - b + a) else gi l k)
   ⟨rfl,fun k hk=>by rw [if_neg om,if_neg om]⟩ (fun i v next hi hv hn=>hn _ ⟨by rw [zba];exact hv.1,fun k hk=>?_⟩) (fun v hv=>by rw [show ((n.toNat:Nat):Int)=n by omega] at hv;exact hv)
 obtain ⟨hl,hg⟩:=hv
 rw [ztr v _ _ k om om hk]
 by_cases c1:k=b+((i:Nat):Int)
 ·rw [if_pos c1,hg _ om,if_neg om,if_neg om,if_neg om,if_pos om]
  congr 1;omega
 ·rw [if_neg c1]
  by_cases c2:k=a+((i:Nat):Int)
  ·rw [if_pos c2,hg _ om,if_neg om,if_neg om,if_pos om]
   congr 1;omega
  ·rw [if_neg c2,hg k hk]
   by_cases c3:a≤k∧k<a+((i:Nat):Int)
   ·rw [if_pos c3,if_pos om]
   ·by_cases c4:b≤k∧k<b+((i:Nat):Int)
    ·rw [if_neg c3,if_pos c4,if_neg om,if_pos om]
    ·rw [if_neg c3,if_neg c4,if_neg om,if_neg om]
def rotAt {α:Type} [Inhabited α] (l:List α) (a m b k:Int):α:=if a≤k∧k<a+(b - m) then gi l (k+(m - a)) else if a+(b - m)≤k∧k<b then gi l (k - (b - m)) else gi l k
theorem z0e {α:Type} [Inhabited α] {l:List α} {a m b:Int} (h:0≤a∧a<m∧m<b∧b≤l.length):(gRot l a m b).length=l.length∧∀ k,0≤k→gi (gRot l a m b) k=rotAt l a m b k:=by
 suffices key:(fun r:List α=>r.length=l.length∧∀ k,0≤k→gi r k=rotAt l a m b k) (gRot l a m b) from key
 unfold gRot
 refine zcu (fun v => (1 ≤ v.1 ∧ 1 ≤ v.2.1 ∧ v.1 ≤ m - a ∧ v.2.1 ≤ b - m) ∧ v.2.2.length = l.length ∧ ∀ k, 0 ≤ k → rotAt v.2.2 (m - v.1) m (m + v.2.1) k = rotAt l a m b k) (fun v => (v.1 + v.2.1).toNat) (fun r : List α => r.length = l.length ∧ ∀ k, 0 ≤ k → gi r k = rotAt l a m b k) (fun v next hv hn => ?_) _ _ (by dsimp only; omega)
   ⟨by dsimp only;omega,rfl,fun k hk=>by dsimp only;rw [show m - (m - a)=a by omega,show m+(b - m)=b by omega]⟩
 obtain ⟨i,j,v⟩:=v
 dsimp only at hv hn ⊢
 obtain ⟨hb,hl,hr⟩:=hv
 by_cases c:i=j
 ·rw [decide_eq_true c]
  simp only [Bool.not_true,cond_false]
  have g:=zu4 (l:=v) (a:=m - i) (b:=m) (n:=i) om
  refine ⟨g.1.trans hl,fun k hk=>?_⟩
  rw [← hr k hk,g.2 k hk]
  unfold rotAt
  by_cases c1:m - i≤k∧k<m
  ·rw [if_pos om,if_pos om];congr 1;omega
  ·by_cases c2:m≤k∧k<m+i
   ·rw [if_neg om,if_pos c2,if_neg om,if_pos om];congr 1;omega
   ·rw [if_neg om,if_neg c2,if_neg om,if_neg om]
 ·rw [decide_eq_false c]
  simp only [Bool.not_false,cond_true]
  by_cases d:j<i
  ·rw [decide_eq_true d]
   simp only [cond_true]
   have g:=zu4 (l:=v) (a:=m - i) (b:=m) (n:=j) om
   refine hn _ ⟨by dsimp only;omega,g.1.trans hl,fun k hk=>?_⟩ zaq
   dsimp only
   rw [← hr k hk]
   unfold rotAt
   by_cases c1:m - i≤k∧k<m - i+j
   ·rw [if_neg om,if_neg om,g.2 k hk,if_pos c1,if_pos om];congr 1;omega
   ·by_cases c2:m - i+j≤k∧k<m+j
    ·rw [if_neg (show ¬ (m - i≤k∧k<m - i+(m+j - m)) by omega),if_pos (show m - i+(m+j - m)≤k∧k<m+j by omega)]
     by_cases c3:k<m - (i - j)+j
     ·rw [if_pos om,g.2 _ om,if_neg om,if_pos om];congr 1;omega
     ·rw [if_neg om,if_pos om,g.2 _ om,if_neg om,if_neg om]
    ·rw [if_neg om,if_neg om,if_neg om,if_neg om,g.2 k hk,if_neg om,if_neg om]
  ·rw [decide_eq_false d]
   simp only [cond_false]
   have g:=zu4 (l:=v) (a:=m - i) (b:=m+j - i) (n:=i) om
   refine hn _ ⟨by dsimp only;omega,g.1.trans hl,fun k hk=>?_⟩ zaq
   dsimp only
   rw [← hr k hk]
   unfold rotAt
   by_cases c1:m+j - i≤k∧k<m+j
   ·rw [if_neg om,if_neg om,g.2 k hk,if_neg om,if_pos om,if_neg om,if_pos om];congr 1;omega
   ·by_cases c2:m - i≤k∧k<m+j - i
    ·by_cases c3:k<m - i+(j - i)
     ·rw [if_pos om,if_pos om,g.2 _ om,if_neg om,if_neg om]
     ·rw [if_neg om,if_pos om,g.2 _ om,if_pos om]
      by_cases c4:k<m - i+j
      ·rw [if_pos om];congr 1;omega
      ·rw [if_neg om,if_pos om];congr 1;omega
    ·rw [if_neg om,if_neg om,if_neg om,if_neg om,g.2 k hk,if_neg om,if_neg om]
theorem z48 {α:Type} [Inhabited α] {R:α→α→Bool} (hR:SWO R) {l:List α} {a m b:Int} (h:0≤a∧a<m∧m<b∧b≤l.length) (hr:∀ i j,a≤i→i<m→m≤j→j<b→R (gi l j) (gi l i)=true):MrgOk R a b l (gRot l a m b):=by
 obtain ⟨hl,hg⟩:=z0e h
 refine ⟨hl,fun k h0 h1=>?_,fun k h0 h1=>?_,?_⟩
 ·rw [hg k h0];unfold rotAt;rw [if_neg om,if_neg om]
 ·rw [hg k om]
  unfold rotAt
  by_cases c:k<a+(b - m)
  ·rw [if_pos om];exact ⟨_,om,om,rfl⟩
  ·rw [if_neg om,if_pos om];exact ⟨_,om,om,rfl⟩
 ·have s1:=zn6 (l:=l) (a:=a) (b:=m) om
  have s2:=zn6 (l:=l) (a:=m) (b:=b) om
  have e1:l=seg l 0 a++(seg l a m++seg l m b)++seg l b l.length:=parts om (by rw [List.length_append,s1,s2];omega) rfl (fun _ _ _=>rfl) (fun k g0 g1=>by
   rw [zwh _ _ g0,s1]
   by_cases c:k<m - a
   ·rw [if_pos om,zn7 om om]
   ·rw [if_neg om,zn7 om om];congr 1;omega)
  have e2:gRot l a m b=seg l 0 a++(seg l m b++seg l a m)++seg l b l.length:=parts om (by rw [List.length_append,s1,s2];omega) hl (fun k g0 g1=>by rw [hg k g0];unfold rotAt;rw [if_neg om,if_neg om]) (fun k g0 g1=>by
   rw [zwh _ _ g0,s2,hg _ om]
   unfold rotAt
   by_cases c:k<b - m
   ·rw [if_pos om,if_pos om,zn7 om om];congr 1;omega
   ·rw [if_neg om,if_pos om,if_neg om,zn7 om om];congr 1;omega)
  have hs:StEq R (seg l 0 a++(seg l a m++seg l m b)++seg l b l.length) (seg l 0 a++(seg l m b++seg l a m)++seg l b l.length) :=
   (StEq.swap hR (u:=seg l a m) (v:=seg l m b) (fun y hy z hz=>by
    obtain ⟨i,i1,i2,rfl⟩:=zy3 om hy
    obtain ⟨j,j1,j2,rfl⟩:=zy3 om hz
    exact hr i j i1 i2 j1 j2)).mid
  rw [← e1,← e2] at hs
  exact hs
end Go.Proofs.YtlinnkjieghmhaaGreatDoor
