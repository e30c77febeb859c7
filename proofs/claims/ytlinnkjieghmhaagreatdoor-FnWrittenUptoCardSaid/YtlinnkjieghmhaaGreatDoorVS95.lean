import Derived.Test.YtlinnkjieghmhaaGreatDoorVS92
set_option maxHeartbeats 4000000
set_option linter.unusedSimpArgs false
set_option linter.unusedVariables false
namespace Go.Proofs.YtlinnkjieghmhaaGreatDoor
open Go Go.Lite Go.Proofs
def C70W (x0:yj) (x1:Int) (R:(List yd)):LV×List (Nat×BC):=(.tup [],[(900000,.arr 6 R.length (rowOf (zbt true) R)),(900001,.var [.own 900000])])
def zjx (x0:yj) (x1:Int):(List yd):=loopW (fun (v1:Int×Int×(List yd)) next=>bif (decide (v1.2.1≤x1)) then (jn (fun K1=>K1 (ze9 (yj.mk v1.2.2) v1.1 v1.2.1)) (fun (j1:(List yd))=>next (v1.2.1,v1.2.1+20,j1))) else (jn (fun K2=>K2 (ze9 (yj.mk v1.2.2) v1.1 x1)) (fun (j2:(List yd))=>loopW (fun (v2:Int×(List yd)) nx2=>bif (decide (v2.1<x1)) then (loopW (fun (v3:Int×Int×(List yd)) next=>bif (decide (v3.2.1≤x1)) then (jn (fun K3=>K3 (ze2 (yj.mk v3.2.2) v3.1 (v3.1+v2.1) v3.2.1)) (fun (j3:(List yd))=>next (v3.2.1,v3.2.1+(2 * v2.1),j3))) else (bif (decide ((v3.1+v2.1)<x1)) then (nx2 (v2.1 * 2,ze2 (yj.mk v3.2.2) v3.1 (v3.1+v2.1) x1)) else (nx2 (v2.1 * 2,v3.2.2)))) ((x1+1000 - (2 * v2.1)).toNat+1) (0,2 * v2.1,v2.2)) else v2.2) ((x1+20 - (20)).toNat+1) (20,j2)))) ((x1+20 - (20)).toNat+1) (0,20,x0.l)
def z1r (v1:Int×Int×(List yd)):Dl:=⟨[(5,.int .i64 v1.1),(6,.int .i64 v1.2.1)],[(900000,.arr 6 v1.2.2.length (rowOf (zbt true) v1.2.2))]⟩
def z4b (j1:(List yd)):Dl:=⟨[],[(900000,.arr 6 j1.length (rowOf (zbt true) j1))]⟩
def A70Wj1 (v1:Int×Int×(List yd)) (j1:(List yd)):Ann:=r0 1 [1,2,4,5,6] [2,900000,900001] (r1 1 [1,2,4,5,6] [2,900000,900001] [pf (inR .i64 (v1.2.1+20))] [0] (.next 0 [(900000,some 900000)] (z1r (v1.2.1,v1.2.1+20,j1))))
def z4a (j2:(List yd)):Dl:=⟨[],[(900000,.arr 6 j2.length (rowOf (zbt true) j2))]⟩
def zw8 (v2:Int×(List yd)):Dl:=⟨[(4,.int .i64 v2.1)],[(900000,.arr 6 v2.2.length (rowOf (zbt true) v2.2))]⟩
def z1q (v3:Int×Int×(List yd)):Dl:=⟨[(5,.int .i64 v3.1),(6,.int .i64 v3.2.1)],[(900000,.arr 6 v3.2.2.length (rowOf (zbt true) v3.2.2))]⟩
def z39 (j3:(List yd)):Dl:=⟨[],[(900000,.arr 6 j3.length (rowOf (zbt true) j3))]⟩
def A70Wj3 (v2:Int×(List yd)) (v3:Int×Int×(List yd)) (j3:(List yd)):Ann:=r0 1 [1,2,4,5,6] [2,900000,900001] (r1 1 [1,2,4,5,6] [2,900000,900001] [pf (inR .i64 (2 * v2.1)),pf (inR .i64 (v3.2.1+(2 * v2.1)))] [0,4] (.next 0 [(900000,some 900000)] (z1q (v3.2.1,v3.2.1+(2 * v2.1),j3))))
def A70Wb3 (x1:Int) (v2:Int×(List yd)) (v3:Int×Int×(List yd)):Ann:=let q1:=v3.1+v2.1;let q2:=yj.mk v3.2.2;r0 1 [1,2,4,5,6,31] [2,900000,900001] (cn (decide (v3.2.1≤x1)) (.join 0 (List yd) (z39) [1,2,4,5,6] [2,900001,900000] (.reg 1 [] [(6,k92W 38 [900000,900001] q2 v3.1 q1 v3.2.1)] [1,2,4,5,6] [2,900000,900001] [] [pf (inR .i64 q1)] [] [0,4] (.next 0 [(900000,some 900000)] (z39 (ze2 q2 v3.1 q1 v3.2.1)))) (A70Wj3 v2 v3)) (r1 2 [1,2,4,5,7,49] [2,900000,900001] [pf (inR .i64 q1)] [0] (cn (decide (q1<x1)) (.reg 1 [] [(4,k92W 54 [900000,900001] q2 v3.1 q1 x1)] [1,2,4] [2,900000,900001] [] [] [] [0] (r1 1 [1,2,4] [2,900000,900001] [pf (inR .i64 (v2.1 * 2))] [0] (.next 1 [(900000,some 900000)] (zw8 (v2.1 * 2,ze2 q2 v3.1 q1 x1))))) (r1 1 [1,2,4] [2,900000,900001] [pf (inR .i64 (v2.1 * 2))] [0] (.next 1 [(900000,some 900000)] (zw8 (v2.1 * 2,v3.2.2)))))))
def A70Wb2 (x0:yj) (x1:Int) (v2:Int×(List yd)):Ann:=r0 1 [1,2,4,26] [2,900000,900001] (cn (decide (v2.1<x1)) (r1 1 [1,2,4,5,6] [2,900000,900001] [pf (inR .i64 (2 * v2.1))] [0] (.loop (Int×Int×(List yd)) (z1q) [] [] [(900000,some 900000)] (z1q (0,2 * v2.1,v2.2)) (A70Wb3 x1 v2))) (rt [(900000,some 900000),(900001,some 900001)] (C70W x0 x1 v2.2)))
def A70Wj2 (x0:yj) (x1:Int) (j2:(List yd)):Ann:=.loop (Int×(List yd)) (zw8) [] [] [(900000,some 900000)] (zw8 (20,j2)) (A70Wb2 x0 x1)
def A70Wb1 (x0:yj) (x1:Int) (v1:Int×Int×(List yd)):Ann:=let q1:=yj.mk v1.2.2;r0 1 [1,2,4,5,6,11] [2,900000,900001] (cn (decide (v1.2.1≤x1)) (.join 0 (List yd) (z4b) [1,2,4,5,6] [2,900001,900000] (.reg 1 [] [(3,k91W 15 [900000,900001] q1 v1.1 v1.2.1)] [1,2,4,5,6] [2,900000,900001] [] [] [] [0] (.next 0 [(900000,some 900000)] (z4b (ze9 q1 v1.1 v1.2.1)))) (A70Wj1 v1)) (.join 0 (List yd) (z4a) [1,2,4] [2,900001,900000] (.reg 1 [] [(3,k91W 23 [900000,900001] q1 v1.1 x1)] [1,2,4] [2,900000,900001] [] [] [] [0] (.next 0 [(900000,some 900000)] (z4a (ze9 q1 v1.1 x1)))) (A70Wj2 x0 x1)))
def A70W (x0:yj) (x1:Int):Ann:=r0 3 [1,2,4,5,6] [2,900000,900001] (.loop (Int×Int×(List yd)) (z1r) [] [] [(900000,some 900000)] (z1r (0,20,x0.l)) (A70Wb1 x0 x1))
theorem zxf (x:yj) (n:Int):zjx x n=gStb (RW x) x.l n:=by
 unfold zjx gStb ze2
 simp only [zhy,zu0]
 rfl

theorem zia (x0:yj) (x1:Int) (hx:x0.l.length≤255) (hk:LkW x0 x0.l) (hn:x1=x0.l.length):FnMT Tryz.prog 70 [.agg [.clo 52 [.vp 900001 0],.clo 90 [.own 900000,.k Tryz.prog.globals.size 65]],.int .i64 x1] [.arr 6 x0.l.length (rowOf (zbt true) x0.l),.var [.own 900000]] (C70W x0 x1 (zjx x0 x1)):=by
 have aux:∀ R,zjx x0 x1=R→slim (C70W x0 x1 R) (A70W x0 x1) []:=by
  intro R hR
  refine rg trivial ?_
  revert hR;refine lW (fun v=>(0≤v.1∧v.1≤x1∧v.2.1=v.1+20)∧LkW x0 v.2.2) (fun v=>(x1+20 - (v.2.1)).toNat) zak (Nat.lt_succ_self _) rfl fun m1 v1 F1 hI1 hM1 hR hK1=>?_
  refine rg trivial ?_
  revert hR;refine cd (fun hc1 hR=>?_) fun hc1 hR=>?_
  ·
    revert hR;refine jN (fun v=>LkW x0 v) (fun F101 hR hJ101=>?_) (fun j1 hR hJ1=>?_)
    ·
      refine rg ⟨⟨by (have h9:=(hI1.2).2;intros;(try simp only [decide_eq_true_eq,decide_eq_false_iff_not,Bool.and_eq_true,Bool.not_eq_true',zba,inR] at *);first | done | omega),by (exact (hI1.2).me),by (have h9:=(hI1.2).2;intros;(try simp only [decide_eq_true_eq,decide_eq_false_iff_not,Bool.and_eq_true,Bool.not_eq_true',zba,inR] at *);first | done | omega)⟩,trivial⟩ ?_
      exact hJ101 _ hR (by (have h9:=(hI1.2).2;intros;(try simp only [decide_eq_true_eq,decide_eq_false_iff_not,Bool.and_eq_true,Bool.not_eq_true',zba,inR] at *);exact (hI1.2).of (zpa (hI1.2).me zap)))
    ·
      refine rg trivial ?_
      refine rg ⟨by (have h9:=(hk).2;intros;(try simp only [decide_eq_true_eq,decide_eq_false_iff_not,Bool.and_eq_true,Bool.not_eq_true',zba,inR] at *);first | done | omega),trivial⟩ ?_
      exact hK1 (v1.2.1,v1.2.1+20,j1) (by ((try clear hR hK1);intros;(try simp only [decide_eq_true_eq,decide_eq_false_iff_not,Bool.or_eq_true,Bool.and_eq_true,zbd,zbb,zbc,Bool.not_eq_true',inR] at *);(repeat' apply And.intro)<;>(first | (intros;omega) | (exact (hk).1) | (have h9:=(hJ1).2;intros;(try simp only [decide_eq_true_eq,decide_eq_false_iff_not,Bool.and_eq_true,Bool.not_eq_true',zba,inR] at *);first | done | omega)))) zan hR
  ·
    revert hR;refine jN (fun v=>LkW x0 v) (fun F102 hR hJ102=>?_) (fun j2 hR hJ2=>?_)
    ·
      refine rg ⟨⟨by (have h9:=(hI1.2).2;intros;(try simp only [decide_eq_true_eq,decide_eq_false_iff_not,Bool.and_eq_true,Bool.not_eq_true',zba,inR] at *);first | done | omega),by (exact (hI1.2).me),by (have h9:=(hI1.2).2;intros;(try simp only [decide_eq_true_eq,decide_eq_false_iff_not,Bool.and_eq_true,Bool.not_eq_true',zba,inR] at *);first | done | omega)⟩,trivial⟩ ?_
      exact hJ102 _ hR (by (have h9:=(hI1.2).2;intros;(try simp only [decide_eq_true_eq,decide_eq_false_iff_not,Bool.and_eq_true,Bool.not_eq_true',zba,inR] at *);exact (hI1.2).of (zpa (hI1.2).me zap)))
    ·
      revert hR;refine lW (fun v=>(20≤v.1∧v.1≤600)∧LkW x0 v.2) (fun v=>(x1+20 - (v.1)).toNat) zaj (Nat.lt_succ_self _) rfl fun m2 v2 F2 hI2 hM2 hR hK2=>?_
      refine rg trivial ?_
      revert hR;refine cd (fun hc2 hR=>?_) fun hc2 hR=>?_
      ·
        refine rg ⟨by (have h9:=(hk).2;intros;(try simp only [decide_eq_true_eq,decide_eq_false_iff_not,Bool.and_eq_true,Bool.not_eq_true',zba,inR] at *);first | done | omega),trivial⟩ ?_
        revert hR;refine lW (fun v=>(0≤v.1∧v.1≤x1∧v.2.1=v.1+2 * v2.1)∧LkW x0 v.2.2) (fun v=>(x1+1000 - (v.2.1)).toNat) zaf (Nat.lt_succ_self _) rfl fun m3 v3 F3 hI3 hM3 hR hK3=>?_
        refine rg trivial ?_
        revert hR;refine cd (fun hc3 hR=>?_) fun hc3 hR=>?_
        ·
          revert hR;refine jN (fun v=>LkW x0 v) (fun F103 hR hJ103=>?_) (fun j3 hR hJ3=>?_)
          ·
            refine rg ⟨by (have h9:=(hk).2;intros;(try simp only [decide_eq_true_eq,decide_eq_false_iff_not,Bool.and_eq_true,Bool.not_eq_true',zba,inR] at *);first | done | omega),⟨by (have h9:=(hI3.2).2;intros;(try simp only [decide_eq_true_eq,decide_eq_false_iff_not,Bool.and_eq_true,Bool.not_eq_true',zba,inR] at *);first | done | omega),by (exact (hI3.2).me),by (have h9:=(hI3.2).2;intros;(try simp only [decide_eq_true_eq,decide_eq_false_iff_not,Bool.and_eq_true,Bool.not_eq_true',zba,inR] at *);first | done | omega)⟩,trivial⟩ ?_
            exact hJ103 _ hR (by (have h9:=(hI3.2).2;intros;(try simp only [decide_eq_true_eq,decide_eq_false_iff_not,Bool.and_eq_true,Bool.not_eq_true',zba,inR] at *);exact (hI3.2).of (zhx _ (hI3.2).me zap)))
          ·
            refine rg trivial ?_
            refine rg ⟨by (have h9:=(hk).2;intros;(try simp only [decide_eq_true_eq,decide_eq_false_iff_not,Bool.and_eq_true,Bool.not_eq_true',zba,inR] at *);first | done | omega),by (have h9:=(hk).2;intros;(try simp only [decide_eq_true_eq,decide_eq_false_iff_not,Bool.and_eq_true,Bool.not_eq_true',zba,inR] at *);first | done | omega),trivial⟩ ?_
            exact hK3 (v3.2.1,v3.2.1+(2 * v2.1),j3) (by ((try clear hR hK1 hK2 hK3);intros;(try simp only [decide_eq_true_eq,decide_eq_false_iff_not,Bool.or_eq_true,Bool.and_eq_true,zbd,zbb,zbc,Bool.not_eq_true',inR] at *);(repeat' apply And.intro)<;>(first | (intros;omega) | (exact (hk).1) | (have h9:=(hJ3).2;intros;(try simp only [decide_eq_true_eq,decide_eq_false_iff_not,Bool.and_eq_true,Bool.not_eq_true',zba,inR] at *);first | done | omega)))) zan hR
        ·
          refine rg ⟨by (have h9:=(hk).2;intros;(try simp only [decide_eq_true_eq,decide_eq_false_iff_not,Bool.and_eq_true,Bool.not_eq_true',zba,inR] at *);first | done | omega),trivial⟩ ?_
          revert hR;refine cd (fun hc4 hR=>?_) fun hc4 hR=>?_
          ·
            refine rg ⟨⟨by (have h9:=(hI3.2).2;intros;(try simp only [decide_eq_true_eq,decide_eq_false_iff_not,Bool.and_eq_true,Bool.not_eq_true',zba,inR] at *);first | done | omega),by (exact (hI3.2).me),by (have h9:=(hI3.2).2;intros;(try simp only [decide_eq_true_eq,decide_eq_false_iff_not,Bool.and_eq_true,Bool.not_eq_true',zba,inR] at *);first | done | omega)⟩,trivial⟩ ?_
            refine rg ⟨by (have h9:=(hk).2;intros;(try simp only [decide_eq_true_eq,decide_eq_false_iff_not,Bool.and_eq_true,Bool.not_eq_true',zba,inR] at *);first | done | omega),trivial⟩ ?_
            exact hK2 (v2.1 * 2,ze2 (yj.mk v3.2.2) v3.1 (v3.1+v2.1) x1) (by (have h9:=(hI3.2).2;intros;(try simp only [decide_eq_true_eq,decide_eq_false_iff_not,Bool.and_eq_true,Bool.not_eq_true',zba,inR] at *);refine ⟨by ((try dsimp only);omega),(hI3.2).of (zhx _ (hI3.2).me zap)⟩)) zan hR
          ·
            refine rg ⟨by (have h9:=(hk).2;intros;(try simp only [decide_eq_true_eq,decide_eq_false_iff_not,Bool.and_eq_true,Bool.not_eq_true',zba,inR] at *);first | done | omega),trivial⟩ ?_
            exact hK2 (v2.1 * 2,v3.2.2) zag zan hR
      ·
        exact congrArg (C70W x0 x1) hR
 exact FnM.go 57 Tryz.func70 (by kernel_rfl) (by kernel_rfl) (A70W x0 x1) (by kernel_rfl) (aux _ rfl)
def k70W (d:Nat) (ids:List Nat) (x0:yj) (x1:Int):Cl:=(hresM d ids (C70W x0 x1 (zjx x0 x1)),k3 (zia x0 x1))
noncomputable def kvoW (d:Nat) (ids:List Nat) (l:List yd):Cl:=(.resM d ids [(900000,.arr 6 l.length (rowOf (zbt true) l)),(0,.var [.own 900000])] (.agg [.k Tryz.prog.globals.size 31,.vp 0 0,.int .u64 151]),k0 (P:=FnX Tryz.prog 68 [.ifc 31 (.own 900000)] [.arr 6 l.length (rowOf (zbt true) l)] (.agg [.k Tryz.prog.globals.size 31,.vp 0 0,.int .u64 151]) [(900000,.arr 6 l.length (rowOf (zbt true) l)),(0,.var [.own 900000])]) (FnX.valueOf (t:=31) (e:=65) (ti:=Tryz.t31) Tryz.func68 (by kernel_rfl) (by kernel_rfl) (by kernel_rfl) za8 (by kernel_rfl) (by kernel_rfl)))
noncomputable def klnW (d:Nat) (ids:List Nat) (l:List yd):Cl:=(.resM d ids (enumB [.arr 6 l.length (rowOf (zbt true) l),.var [.own 900000]] 900000) (.int .i64 l.length),k0 (P:=FnX Tryz.prog 71 [.agg [.k Tryz.prog.globals.size 31,.vp 900001 0,.int .u64 151]] [.arr 6 l.length (rowOf (zbt true) l),.var [.own 900000]] (.int .i64 l.length) (enumB [.arr 6 l.length (rowOf (zbt true) l),.var [.own 900000]] 900000)) (FnX.valLen (t:=31) (e:=65) (ti:=Tryz.t31) Tryz.func71 (by kernel_rfl) (by kernel_rfl) (by kernel_rfl) za8 (by kernel_rfl) (by kernel_rfl) (by kernel_rfl) (by kernel_rfl)))
noncomputable def kspW (d:Nat) (ids:List Nat) (l:List yd):Cl:=(.resM d ids (enumB [.arr 6 l.length (rowOf (zbt true) l)] 900000) (.clo 90 [.own 900000,.k Tryz.prog.globals.size 65]),k1 (P:=FnX Tryz.prog 69 [.ifc 31 (.own 900000)] [.arr 6 l.length (rowOf (zbt true) l)] (.clo 90 [.own 900000,.k Tryz.prog.globals.size 65]) (enumB [.arr 6 l.length (rowOf (zbt true) l)] 900000)) fun hn=>FnX.swapper (t:=31) (e:=65) (ti:=Tryz.t31) (ie:=Tryz.t65) (ke:=25) hn Tryz.func69 (by kernel_rfl) (by kernel_rfl) (by kernel_rfl) za8 (by kernel_rfl) (by kernel_rfl) (by kernel_rfl) (fun w=>by kernel_rfl) (fun m=>⟨rfl,by decide⟩) (by kernel_rfl))

def C51W (x0:yj) (x1:Unit) (R:(List yd)):LV×List (Nat×BC):=(.tup [],[(900000,.arr 6 R.length (rowOf (zbt true) R)),(900001,.var [.own 900000])])
def zmh (x0:yj) (x1:Unit):(List yd):=zjx x0 (x0.l.length:Int)
noncomputable def A51W (x0:yj) (x1:Unit):Ann:=.reg 2 [] [(1,kvoW 7 [900000] x0.l),(1001,kspW 9 [900000] x0.l)] [1,4,5] [4,1007,900000,900001] [] [] [] [0,4] (.reg 1 [] [(4,klnW 14 [900000,1007] x0.l),(5,k70W 15 [900000,900001] x0 (x0.l.length:Int))] [] [900000,900001] [] [] [] [0,4] (rt [(900000,some 900000),(900001,some 900001)] (C51W x0 x1 (zjx x0 (x0.l.length:Int)))))
theorem zyy (x:yj):zmh x ()=gStb (RW x) x.l x.l.length:=zxf x _

theorem zij (x0:yj) (x1:Unit) (hx:x0.l.length≤255) (hk:LkW x0 x0.l) (h2:2≤x0.l.length):FnMT Tryz.prog 51 [.ifc 31 (.own 900000),.clo 52 [.vp 900001 0]] [.arr 6 x0.l.length (rowOf (zbt true) x0.l),.var [.own 900000]] (C51W x0 x1 (zmh x0 x1)):=by
 have aux:∀ R,zmh x0 x1=R→slim (C51W x0 x1 R) (A51W x0 x1) []:=by
  intro R hR
  refine rg ⟨trivial,by with_reducible assumption,trivial⟩ ?_
  refine rg ⟨trivial,⟨by with_reducible assumption,by with_reducible assumption,by (intros;omega)⟩,trivial⟩ ?_
  exact congrArg (C51W x0 x1) hR
 exact FnM.go 16 Tryz.func51 (by kernel_rfl) (by kernel_rfl) (A51W x0 x1) (by kernel_rfl) (aux _ rfl)
def k51W (d:Nat) (ids:List Nat) (x0:yj) (x1:Unit):Cl:=(hresM d ids (C51W x0 x1 (zmh x0 x1)),k3 (zij x0 x1))
structure yk where

  l:List yd
  deriving Inhabited

def C91X (x0:yk) (x1:Int) (x2:Int) (R:(List yd)):LV×List (Nat×BC):=(.tup [],[(900000,.arr 6 R.length (rowOf (zbt true) R)),(900001,.var [.own 900000])])
def zk9 (x0:yk) (x1:Int) (x2:Int):(List yd):=loopW (fun (v1:Int) next=>x0.l) (0+1) (x1+1)
def z33 (v1:Int):Dl:=⟨[(6,.int .i64 v1)],[]⟩
def A91Xb1 (x0:yk) (x1:Int) (x2:Int) (v1:Int):Ann:=r0 1 [1,2,3,6,12] [3,900000,900001] (cn (decide (v1<x2)) (.next 99 [] ⟨[],[]⟩) (rt [(900000,some 900000),(900001,some 900001)] (C91X x0 x1 x2 x0.l)))
def A91X (x0:yk) (x1:Int) (x2:Int):Ann:=r1 2 [1,2,3,6] [3,900000,900001] [pf (inR .i64 (x1+1))] [0] (.loop Int (z33) [] [] [] (z33 (x1+1)) (A91Xb1 x0 x1 x2))
theorem zfv (x0:yk) (x1:Int) (x2:Int) (hx:x0.l.length≤1) (hab:x1=0∧x2=x0.l.length):FnMT Tryz.prog 91 [.agg [.clo 52 [.vp 900001 0],.fv],.int .i64 x1,.int .i64 x2] [.arr 6 x0.l.length (rowOf (zbt true) x0.l),.var [.own 900000]] (C91X x0 x1 x2 (zk9 x0 x1 x2)):=by
 have aux:∀ R,zk9 x0 x1 x2=R→slim (C91X x0 x1 x2 R) (A91X x0 x1 x2) []:=by
  intro R hR
  refine rg ⟨by (simp only [decide_eq_true_eq,decide_eq_false_iff_not,inR] at *;omega),trivial⟩ ?_
  revert hR;refine lW (fun v=>x1+1≤v) (fun v=>0) zar (Nat.lt_succ_self _) rfl fun m1 v1 F1 hI1 hM1 hR hK1=>?_
  refine rg trivial ?_
  refine ⟨fun hq=>absurd hq zao,fun hc1=>?_⟩
  exact congrArg (C91X x0 x1 x2) hR
 exact FnM.go 35 Tryz.func91 (by kernel_rfl) (by kernel_rfl) (A91X x0 x1 x2) (by kernel_rfl) (aux _ rfl)
def k91X (d:Nat) (ids:List Nat) (x0:yk) (x1:Int) (x2:Int):Cl:=(hresM d ids (C91X x0 x1 x2 (zk9 x0 x1 x2)),k2 (zfv x0 x1 x2))
def C70X (x0:yk) (x1:Int) (R:(List yd)):LV×List (Nat×BC):=(.tup [],[(900000,.arr 6 R.length (rowOf (zbt true) R)),(900001,.var [.own 900000])])
def znx (x0:yk) (x1:Int):(List yd):=loopW (fun (v1:Int×Int) next=>loopW (fun (v2:Int) next=>zk9 x0 v1.1 x1) (0+1) 20) (0+1) (0,20)
def z38 (v1:Int×Int):Dl:=⟨[(5,.int .i64 v1.1),(6,.int .i64 v1.2)],[]⟩
def z36 (v2:Int):Dl:=⟨[(4,.int .i64 v2)],[]⟩
def A70Xb2 (x0:yk) (x1:Int) (v1:Int×Int) (v2:Int):Ann:=r0 1 [1,2,4,26] [2,900000,900001] (cn (decide (v2<x1)) (.next 99 [] ⟨[],[]⟩) (rt [(900000,some 900000),(900001,some 900001)] (C70X x0 x1 (zk9 x0 v1.1 x1))))
def A70Xb1 (x0:yk) (x1:Int) (v1:Int×Int):Ann:=r0 1 [1,2,4,5,6,11] [2,900000,900001] (cn (decide (v1.2≤x1)) (.next 99 [] ⟨[],[]⟩) (.reg 1 [] [(3,k91X 23 [900000,900001] x0 v1.1 x1)] [1,2,4] [2,900000,900001] [] [] [] [0] (.loop Int (z36) [] [] [] (z36 20) (A70Xb2 x0 x1 v1))))
def A70X (x0:yk) (x1:Int):Ann:=r0 3 [1,2,4,5,6] [2,900000,900001] (.loop (Int×Int) (z38) [] [] [] (z38 (0,20)) (A70Xb1 x0 x1))
theorem zh9 (x0:yk) (x1:Int) (hx:x0.l.length≤1) (hn:x1=x0.l.length):FnMT Tryz.prog 70 [.agg [.clo 52 [.vp 900001 0],.fv],.int .i64 x1] [.arr 6 x0.l.length (rowOf (zbt true) x0.l),.var [.own 900000]] (C70X x0 x1 (znx x0 x1)):=by
 have aux:∀ R,znx x0 x1=R→slim (C70X x0 x1 R) (A70X x0 x1) []:=by
  intro R hR
  refine rg trivial ?_
  revert hR;refine lW (fun v=>v.1=0∧v.2=20) (fun v=>0) zar (Nat.lt_succ_self _) rfl fun m1 v1 F1 hI1 hM1 hR hK1=>?_
  refine rg trivial ?_
  refine ⟨fun hq=>absurd hq zao,fun hc1=>?_⟩
  refine rg ⟨⟨by with_reducible assumption,by (intros;omega)⟩,trivial⟩ ?_
  revert hR;refine lW (fun v=>v=20) (fun v=>0) zar (Nat.lt_succ_self _) rfl fun m2 v2 F2 hI2 hM2 hR hK2=>?_
  refine rg trivial ?_
  refine ⟨fun hq=>absurd hq zao,fun hc2=>?_⟩
  exact congrArg (C70X x0 x1) hR
 exact FnM.go 57 Tryz.func70 (by kernel_rfl) (by kernel_rfl) (A70X x0 x1) (by kernel_rfl) (aux _ rfl)
def k70X (d:Nat) (ids:List Nat) (x0:yk) (x1:Int):Cl:=(hresM d ids (C70X x0 x1 (znx x0 x1)),k2 (zh9 x0 x1))
noncomputable def kvoX (d:Nat) (ids:List Nat) (l:List yd):Cl:=(.resM d ids [(900000,.arr 6 l.length (rowOf (zbt true) l)),(0,.var [.own 900000])] (.agg [.k Tryz.prog.globals.size 31,.vp 0 0,.int .u64 151]),k0 (P:=FnX Tryz.prog 68 [.ifc 31 (.own 900000)] [.arr 6 l.length (rowOf (zbt true) l)] (.agg [.k Tryz.prog.globals.size 31,.vp 0 0,.int .u64 151]) [(900000,.arr 6 l.length (rowOf (zbt true) l)),(0,.var [.own 900000])]) (FnX.valueOf (t:=31) (e:=65) (ti:=Tryz.t31) Tryz.func68 (by kernel_rfl) (by kernel_rfl) (by kernel_rfl) za8 (by kernel_rfl) (by kernel_rfl)))
noncomputable def klnX (d:Nat) (ids:List Nat) (l:List yd):Cl:=(.resM d ids (enumB [.arr 6 l.length (rowOf (zbt true) l),.var [.own 900000]] 900000) (.int .i64 l.length),k0 (P:=FnX Tryz.prog 71 [.agg [.k Tryz.prog.globals.size 31,.vp 900001 0,.int .u64 151]] [.arr 6 l.length (rowOf (zbt true) l),.var [.own 900000]] (.int .i64 l.length) (enumB [.arr 6 l.length (rowOf (zbt true) l),.var [.own 900000]] 900000)) (FnX.valLen (t:=31) (e:=65) (ti:=Tryz.t31) Tryz.func71 (by kernel_rfl) (by kernel_rfl) (by kernel_rfl) za8 (by kernel_rfl) (by kernel_rfl) (by kernel_rfl) (by kernel_rfl)))
noncomputable def kspX (d:Nat) (ids:List Nat) (l:List yd):Cl:=(.resM d ids (enumB [.arr 6 l.length (rowOf (zbt true) l)] 900000) .fv,k1 (P:=FnX Tryz.prog 69 [.ifc 31 (.own 900000)] [.arr 6 l.length (rowOf (zbt true) l)] .fv (enumB [.arr 6 l.length (rowOf (zbt true) l)] 900000)) fun hn=>FnX.swapper0 (t:=31) (e:=65) (ti:=Tryz.t31) (ie:=Tryz.t65) (ke:=25) (g0:=82) (g1:=83) hn Tryz.func69 (by kernel_rfl) (by kernel_rfl) (by kernel_rfl) za8 (by kernel_rfl) (by kernel_rfl) (by kernel_rfl) (fun w=>by kernel_rfl) (by kernel_rfl) (by kernel_rfl))

def C51X (x0:yk) (x1:Unit) (R:(List yd)):LV×List (Nat×BC):=(.tup [],[(900000,.arr 6 R.length (rowOf (zbt true) R)),(900001,.var [.own 900000])])
def zmg (x0:yk) (x1:Unit):(List yd):=znx x0 (x0.l.length:Int)
noncomputable def A51X (x0:yk) (x1:Unit):Ann:=.reg 2 [] [(1,kvoX 7 [900000] x0.l),(1001,kspX 9 [900000] x0.l)] [1,4,5] [4,1007,900000,900001] [] [] [] [0,4] (.reg 1 [] [(4,klnX 14 [900000,1007] x0.l),(5,k70X 15 [900000,900001] x0 (x0.l.length:Int))] [] [900000,900001] [] [] [] [0,4] (rt [(900000,some 900000),(900001,some 900001)] (C51X x0 x1 (znx x0 (x0.l.length:Int)))))
theorem zyx (x:yk):zmg x ()=x.l:=rfl

theorem zii (x0:yk) (x1:Unit) (hx:x0.l.length≤1):FnMT Tryz.prog 51 [.ifc 31 (.own 900000),.clo 52 [.vp 900001 0]] [.arr 6 x0.l.length (rowOf (zbt true) x0.l),.var [.own 900000]] (C51X x0 x1 (zmg x0 x1)):=by
 have aux:∀ R,zmg x0 x1=R→slim (C51X x0 x1 R) (A51X x0 x1) []:=by
  intro R hR
  refine rg ⟨trivial,by with_reducible assumption,trivial⟩ ?_
  refine rg ⟨trivial,⟨by with_reducible assumption,by (intros;omega)⟩,trivial⟩ ?_
  exact congrArg (C51X x0 x1) hR
 exact FnM.go 16 Tryz.func51 (by kernel_rfl) (by kernel_rfl) (A51X x0 x1) (by kernel_rfl) (aux _ rfl)
def k51X (d:Nat) (ids:List Nat) (x0:yk) (x1:Unit):Cl:=(hresM d ids (C51X x0 x1 (zmg x0 x1)),k1 (zii x0 x1))
end Go.Proofs.YtlinnkjieghmhaaGreatDoor
