import Derived.Test.YtlinnkjieghmhaaGreatDoorVS82
set_option maxHeartbeats 4000000
set_option linter.unusedSimpArgs false
set_option linter.unusedVariables false
namespace Go.Proofs.YtlinnkjieghmhaaGreatDoor
open Go Go.Lite Go.Proofs
def C70U (x0:yh) (x1:Int) (R:(List yb)):LV×List (Nat×BC):=(.tup [],[(900000,.arr 4 R.length (rowOf (zbi true) R)),(900001,.var [.own 900002,.own 900000]),(900002,.arr 6 x0.c0.length (rowOf (zbg true) x0.c0))])
def zjy (x0:yh) (x1:Int):(List yb):=loopW (fun (v1:Int×Int×(List yb)) next=>bif (decide (v1.2.1≤x1)) then (jn (fun K1=>K1 (zfa (yh.mk x0.c0 v1.2.2) v1.1 v1.2.1)) (fun (j1:(List yb))=>next (v1.2.1,v1.2.1+20,j1))) else (jn (fun K2=>K2 (zfa (yh.mk x0.c0 v1.2.2) v1.1 x1)) (fun (j2:(List yb))=>loopW (fun (v2:Int×(List yb)) nx2=>bif (decide (v2.1<x1)) then (loopW (fun (v3:Int×Int×(List yb)) next=>bif (decide (v3.2.1≤x1)) then (jn (fun K3=>K3 (ze3 (yh.mk x0.c0 v3.2.2) v3.1 (v3.1+v2.1) v3.2.1)) (fun (j3:(List yb))=>next (v3.2.1,v3.2.1+(2 * v2.1),j3))) else (bif (decide ((v3.1+v2.1)<x1)) then (nx2 (v2.1 * 2,ze3 (yh.mk x0.c0 v3.2.2) v3.1 (v3.1+v2.1) x1)) else (nx2 (v2.1 * 2,v3.2.2)))) ((x1+1000 - (2 * v2.1)).toNat+1) (0,2 * v2.1,v2.2)) else v2.2) ((x1+20 - (20)).toNat+1) (20,j2)))) ((x1+20 - (20)).toNat+1) (0,20,x0.l)
def z1t (v1:Int×Int×(List yb)):Dl:=⟨[(5,.int .i64 v1.1),(6,.int .i64 v1.2.1)],[(900000,.arr 4 v1.2.2.length (rowOf (zbi true) v1.2.2))]⟩
def z4g (j1:(List yb)):Dl:=⟨[],[(900000,.arr 4 j1.length (rowOf (zbi true) j1))]⟩
def A70Uj1 (v1:Int×Int×(List yb)) (j1:(List yb)):Ann:=r0 1 [1,2,4,5,6] [2,900000,900001,900002] (r1 1 [1,2,4,5,6] [2,900000,900001,900002] [pf (inR .i64 (v1.2.1+20))] [0] (.next 0 [(900000,some 900000)] (z1t (v1.2.1,v1.2.1+20,j1))))
def z4f (j2:(List yb)):Dl:=⟨[],[(900000,.arr 4 j2.length (rowOf (zbi true) j2))]⟩
def zw9 (v2:Int×(List yb)):Dl:=⟨[(4,.int .i64 v2.1)],[(900000,.arr 4 v2.2.length (rowOf (zbi true) v2.2))]⟩
def z1s (v3:Int×Int×(List yb)):Dl:=⟨[(5,.int .i64 v3.1),(6,.int .i64 v3.2.1)],[(900000,.arr 4 v3.2.2.length (rowOf (zbi true) v3.2.2))]⟩
def z4e (j3:(List yb)):Dl:=⟨[],[(900000,.arr 4 j3.length (rowOf (zbi true) j3))]⟩
def A70Uj3 (v2:Int×(List yb)) (v3:Int×Int×(List yb)) (j3:(List yb)):Ann:=r0 1 [1,2,4,5,6] [2,900000,900001,900002] (r1 1 [1,2,4,5,6] [2,900000,900001,900002] [pf (inR .i64 (2 * v2.1)),pf (inR .i64 (v3.2.1+(2 * v2.1)))] [0,4] (.next 0 [(900000,some 900000)] (z1s (v3.2.1,v3.2.1+(2 * v2.1),j3))))
def A70Ub3 (x0:yh) (x1:Int) (v2:Int×(List yb)) (v3:Int×Int×(List yb)):Ann:=let q1:=v3.1+v2.1;let q2:=yh.mk x0.c0 v3.2.2;r0 1 [1,2,4,5,6,31] [2,900000,900001,900002] (cn (decide (v3.2.1≤x1)) (.join 0 (List yb) (z4e) [1,2,4,5,6] [2,900001,900002,900000] (.reg 1 [] [(6,k92U 38 [900000,900001,900002] q2 v3.1 q1 v3.2.1)] [1,2,4,5,6] [2,900000,900001,900002] [] [pf (inR .i64 q1)] [] [0,4] (.next 0 [(900000,some 900000)] (z4e (ze3 q2 v3.1 q1 v3.2.1)))) (A70Uj3 v2 v3)) (r1 2 [1,2,4,5,7,49] [2,900000,900001,900002] [pf (inR .i64 q1)] [0] (cn (decide (q1<x1)) (.reg 1 [] [(4,k92U 54 [900000,900001,900002] q2 v3.1 q1 x1)] [1,2,4] [2,900000,900001,900002] [] [] [] [0] (r1 1 [1,2,4] [2,900000,900001,900002] [pf (inR .i64 (v2.1 * 2))] [0] (.next 1 [(900000,some 900000)] (zw9 (v2.1 * 2,ze3 q2 v3.1 q1 x1))))) (r1 1 [1,2,4] [2,900000,900001,900002] [pf (inR .i64 (v2.1 * 2))] [0] (.next 1 [(900000,some 900000)] (zw9 (v2.1 * 2,v3.2.2)))))))
def A70Ub2 (x0:yh) (x1:Int) (v2:Int×(List yb)):Ann:=r0 1 [1,2,4,26] [2,900000,900001,900002] (cn (decide (v2.1<x1)) (r1 1 [1,2,4,5,6] [2,900000,900001,900002] [pf (inR .i64 (2 * v2.1))] [0] (.loop (Int×Int×(List yb)) (z1s) [] [] [(900000,some 900000)] (z1s (0,2 * v2.1,v2.2)) (A70Ub3 x0 x1 v2))) (rt [(900000,some 900000),(900001,some 900001),(900002,some 900002)] (C70U x0 x1 v2.2)))
def A70Uj2 (x0:yh) (x1:Int) (j2:(List yb)):Ann:=.loop (Int×(List yb)) (zw9) [] [] [(900000,some 900000)] (zw9 (20,j2)) (A70Ub2 x0 x1)
def A70Ub1 (x0:yh) (x1:Int) (v1:Int×Int×(List yb)):Ann:=let q1:=yh.mk x0.c0 v1.2.2;r0 1 [1,2,4,5,6,11] [2,900000,900001,900002] (cn (decide (v1.2.1≤x1)) (.join 0 (List yb) (z4g) [1,2,4,5,6] [2,900001,900002,900000] (.reg 1 [] [(3,k91U 15 [900000,900001,900002] q1 v1.1 v1.2.1)] [1,2,4,5,6] [2,900000,900001,900002] [] [] [] [0] (.next 0 [(900000,some 900000)] (z4g (zfa q1 v1.1 v1.2.1)))) (A70Uj1 v1)) (.join 0 (List yb) (z4f) [1,2,4] [2,900001,900002,900000] (.reg 1 [] [(3,k91U 23 [900000,900001,900002] q1 v1.1 x1)] [1,2,4] [2,900000,900001,900002] [] [] [] [0] (.next 0 [(900000,some 900000)] (z4f (zfa q1 v1.1 x1)))) (A70Uj2 x0 x1)))
def A70U (x0:yh) (x1:Int):Ann:=r0 3 [1,2,4,5,6] [2,900000,900001,900002] (.loop (Int×Int×(List yb)) (z1t) [] [] [(900000,some 900000)] (z1t (0,20,x0.l)) (A70Ub1 x0 x1))
theorem zxg (x:yh) (n:Int):zjy x n=gStb (RU x) x.l n:=by
 unfold zjy gStb ze3
 simp only [zh0,zu1]
 rfl

theorem zic (x0:yh) (x1:Int) (hx:x0.l.length≤255) (hk:LkU x0 x0.l) (hn:x1=x0.l.length):FnMT Tryz.prog 70 [.agg [.clo 58 [.vp 900001 0],.clo 90 [.own 900000,.k Tryz.prog.globals.size 62]],.int .i64 x1] [.arr 4 x0.l.length (rowOf (zbi true) x0.l),.var [.own 900002,.own 900000],.arr 6 x0.c0.length (rowOf (zbg true) x0.c0)] (C70U x0 x1 (zjy x0 x1)):=by
 have aux:∀ R,zjy x0 x1=R→slim (C70U x0 x1 R) (A70U x0 x1) []:=by
  intro R hR
  refine rg trivial ?_
  revert hR;refine lW (fun v=>(0≤v.1∧v.1≤x1∧v.2.1=v.1+20)∧LkU x0 v.2.2) (fun v=>(x1+20 - (v.2.1)).toNat) zak (Nat.lt_succ_self _) rfl fun m1 v1 F1 hI1 hM1 hR hK1=>?_
  refine rg trivial ?_
  revert hR;refine cd (fun hc1 hR=>?_) fun hc1 hR=>?_
  ·
    revert hR;refine jN (fun v=>LkU x0 v) (fun F101 hR hJ101=>?_) (fun j1 hR hJ1=>?_)
    ·
      refine rg ⟨⟨by (have h9:=(hI1.2).2;intros;(try simp only [decide_eq_true_eq,decide_eq_false_iff_not,Bool.and_eq_true,Bool.not_eq_true',zba,inR] at *);first | done | omega),by (exact (hI1.2).me),by (have h9:=(hI1.2).2;intros;(try simp only [decide_eq_true_eq,decide_eq_false_iff_not,Bool.and_eq_true,Bool.not_eq_true',zba,inR] at *);first | done | omega)⟩,trivial⟩ ?_
      exact hJ101 _ hR (by (have h9:=(hI1.2).2;intros;(try simp only [decide_eq_true_eq,decide_eq_false_iff_not,Bool.and_eq_true,Bool.not_eq_true',zba,inR] at *);exact (hI1.2).of (zpb (hI1.2).me zap)))
    ·
      refine rg trivial ?_
      refine rg ⟨by (have h9:=(hk).2;intros;(try simp only [decide_eq_true_eq,decide_eq_false_iff_not,Bool.and_eq_true,Bool.not_eq_true',zba,inR] at *);first | done | omega),trivial⟩ ?_
      exact hK1 (v1.2.1,v1.2.1+20,j1) (by ((try clear hR hK1);intros;(try simp only [decide_eq_true_eq,decide_eq_false_iff_not,Bool.or_eq_true,Bool.and_eq_true,zbd,zbb,zbc,Bool.not_eq_true',inR] at *);(repeat' apply And.intro)<;>(first | (intros;omega) | (exact (hk).1) | (have h9:=(hJ1).2;intros;(try simp only [decide_eq_true_eq,decide_eq_false_iff_not,Bool.and_eq_true,Bool.not_eq_true',zba,inR] at *);first | done | omega)))) zan hR
  ·
    revert hR;refine jN (fun v=>LkU x0 v) (fun F102 hR hJ102=>?_) (fun j2 hR hJ2=>?_)
    ·
      refine rg ⟨⟨by (have h9:=(hI1.2).2;intros;(try simp only [decide_eq_true_eq,decide_eq_false_iff_not,Bool.and_eq_true,Bool.not_eq_true',zba,inR] at *);first | done | omega),by (exact (hI1.2).me),by (have h9:=(hI1.2).2;intros;(try simp only [decide_eq_true_eq,decide_eq_false_iff_not,Bool.and_eq_true,Bool.not_eq_true',zba,inR] at *);first | done | omega)⟩,trivial⟩ ?_
      exact hJ102 _ hR (by (have h9:=(hI1.2).2;intros;(try simp only [decide_eq_true_eq,decide_eq_false_iff_not,Bool.and_eq_true,Bool.not_eq_true',zba,inR] at *);exact (hI1.2).of (zpb (hI1.2).me zap)))
    ·
      revert hR;refine lW (fun v=>(20≤v.1∧v.1≤600)∧LkU x0 v.2) (fun v=>(x1+20 - (v.1)).toNat) zaj (Nat.lt_succ_self _) rfl fun m2 v2 F2 hI2 hM2 hR hK2=>?_
      refine rg trivial ?_
      revert hR;refine cd (fun hc2 hR=>?_) fun hc2 hR=>?_
      ·
        refine rg ⟨by (have h9:=(hk).2;intros;(try simp only [decide_eq_true_eq,decide_eq_false_iff_not,Bool.and_eq_true,Bool.not_eq_true',zba,inR] at *);first | done | omega),trivial⟩ ?_
        revert hR;refine lW (fun v=>(0≤v.1∧v.1≤x1∧v.2.1=v.1+2 * v2.1)∧LkU x0 v.2.2) (fun v=>(x1+1000 - (v.2.1)).toNat) zaf (Nat.lt_succ_self _) rfl fun m3 v3 F3 hI3 hM3 hR hK3=>?_
        refine rg trivial ?_
        revert hR;refine cd (fun hc3 hR=>?_) fun hc3 hR=>?_
        ·
          revert hR;refine jN (fun v=>LkU x0 v) (fun F103 hR hJ103=>?_) (fun j3 hR hJ3=>?_)
          ·
            refine rg ⟨by (have h9:=(hk).2;intros;(try simp only [decide_eq_true_eq,decide_eq_false_iff_not,Bool.and_eq_true,Bool.not_eq_true',zba,inR] at *);first | done | omega),⟨by (have h9:=(hI3.2).2;intros;(try simp only [decide_eq_true_eq,decide_eq_false_iff_not,Bool.and_eq_true,Bool.not_eq_true',zba,inR] at *);first | done | omega),by (exact (hI3.2).me),by (have h9:=(hI3.2).2;intros;(try simp only [decide_eq_true_eq,decide_eq_false_iff_not,Bool.and_eq_true,Bool.not_eq_true',zba,inR] at *);first | done | omega)⟩,trivial⟩ ?_
            exact hJ103 _ hR (by (have h9:=(hI3.2).2;intros;(try simp only [decide_eq_true_eq,decide_eq_false_iff_not,Bool.and_eq_true,Bool.not_eq_true',zba,inR] at *);exact (hI3.2).of (zhz _ (hI3.2).me zap)))
          ·
            refine rg trivial ?_
            refine rg ⟨by (have h9:=(hk).2;intros;(try simp only [decide_eq_true_eq,decide_eq_false_iff_not,Bool.and_eq_true,Bool.not_eq_true',zba,inR] at *);first | done | omega),by (have h9:=(hk).2;intros;(try simp only [decide_eq_true_eq,decide_eq_false_iff_not,Bool.and_eq_true,Bool.not_eq_true',zba,inR] at *);first | done | omega),trivial⟩ ?_
            exact hK3 (v3.2.1,v3.2.1+(2 * v2.1),j3) (by ((try clear hR hK1 hK2 hK3);intros;(try simp only [decide_eq_true_eq,decide_eq_false_iff_not,Bool.or_eq_true,Bool.and_eq_true,zbd,zbb,zbc,Bool.not_eq_true',inR] at *);(repeat' apply And.intro)<;>(first | (intros;omega) | (exact (hk).1) | (have h9:=(hJ3).2;intros;(try simp only [decide_eq_true_eq,decide_eq_false_iff_not,Bool.and_eq_true,Bool.not_eq_true',zba,inR] at *);first | done | omega)))) zan hR
        ·
          refine rg ⟨by (have h9:=(hk).2;intros;(try simp only [decide_eq_true_eq,decide_eq_false_iff_not,Bool.and_eq_true,Bool.not_eq_true',zba,inR] at *);first | done | omega),trivial⟩ ?_
          revert hR;refine cd (fun hc4 hR=>?_) fun hc4 hR=>?_
          ·
            refine rg ⟨⟨by (have h9:=(hI3.2).2;intros;(try simp only [decide_eq_true_eq,decide_eq_false_iff_not,Bool.and_eq_true,Bool.not_eq_true',zba,inR] at *);first | done | omega),by (exact (hI3.2).me),by (have h9:=(hI3.2).2;intros;(try simp only [decide_eq_true_eq,decide_eq_false_iff_not,Bool.and_eq_true,Bool.not_eq_true',zba,inR] at *);first | done | omega)⟩,trivial⟩ ?_
            refine rg ⟨by (have h9:=(hk).2;intros;(try simp only [decide_eq_true_eq,decide_eq_false_iff_not,Bool.and_eq_true,Bool.not_eq_true',zba,inR] at *);first | done | omega),trivial⟩ ?_
            exact hK2 (v2.1 * 2,ze3 (yh.mk x0.c0 v3.2.2) v3.1 (v3.1+v2.1) x1) (by (have h9:=(hI3.2).2;intros;(try simp only [decide_eq_true_eq,decide_eq_false_iff_not,Bool.and_eq_true,Bool.not_eq_true',zba,inR] at *);refine ⟨by ((try dsimp only);omega),(hI3.2).of (zhz _ (hI3.2).me zap)⟩)) zan hR
          ·
            refine rg ⟨by (have h9:=(hk).2;intros;(try simp only [decide_eq_true_eq,decide_eq_false_iff_not,Bool.and_eq_true,Bool.not_eq_true',zba,inR] at *);first | done | omega),trivial⟩ ?_
            exact hK2 (v2.1 * 2,v3.2.2) zag zan hR
      ·
        exact congrArg (C70U x0 x1) hR
 exact FnM.go 57 Tryz.func70 (by kernel_rfl) (by kernel_rfl) (A70U x0 x1) (by kernel_rfl) (aux _ rfl)
def k70U (d:Nat) (ids:List Nat) (x0:yh) (x1:Int):Cl:=(hresM d ids (C70U x0 x1 (zjy x0 x1)),k3 (zic x0 x1))
noncomputable def kvoU (d:Nat) (ids:List Nat) (l:List yb):Cl:=(.resM d ids [(900000,.arr 4 l.length (rowOf (zbi true) l)),(0,.var [.own 900000])] (.agg [.k Tryz.prog.globals.size 24,.vp 0 0,.int .u64 151]),k0 (P:=FnX Tryz.prog 68 [.ifc 24 (.own 900000)] [.arr 4 l.length (rowOf (zbi true) l)] (.agg [.k Tryz.prog.globals.size 24,.vp 0 0,.int .u64 151]) [(900000,.arr 4 l.length (rowOf (zbi true) l)),(0,.var [.own 900000])]) (FnX.valueOf (t:=24) (e:=62) (ti:=Tryz.t24) Tryz.func68 (by kernel_rfl) (by kernel_rfl) (by kernel_rfl) za8 (by kernel_rfl) (by kernel_rfl)))
noncomputable def klnU (d:Nat) (ids:List Nat) (l:List yb):Cl:=(.resM d ids (enumB [.arr 4 l.length (rowOf (zbi true) l),.var [.own 900000]] 900000) (.int .i64 l.length),k0 (P:=FnX Tryz.prog 71 [.agg [.k Tryz.prog.globals.size 24,.vp 900001 0,.int .u64 151]] [.arr 4 l.length (rowOf (zbi true) l),.var [.own 900000]] (.int .i64 l.length) (enumB [.arr 4 l.length (rowOf (zbi true) l),.var [.own 900000]] 900000)) (FnX.valLen (t:=24) (e:=62) (ti:=Tryz.t24) Tryz.func71 (by kernel_rfl) (by kernel_rfl) (by kernel_rfl) za8 (by kernel_rfl) (by kernel_rfl) (by kernel_rfl) (by kernel_rfl)))
noncomputable def kspU (d:Nat) (ids:List Nat) (l:List yb):Cl:=(.resM d ids (enumB [.arr 4 l.length (rowOf (zbi true) l)] 900000) (.clo 90 [.own 900000,.k Tryz.prog.globals.size 62]),k1 (P:=FnX Tryz.prog 69 [.ifc 24 (.own 900000)] [.arr 4 l.length (rowOf (zbi true) l)] (.clo 90 [.own 900000,.k Tryz.prog.globals.size 62]) (enumB [.arr 4 l.length (rowOf (zbi true) l)] 900000)) fun hn=>FnX.swapper (t:=24) (e:=62) (ti:=Tryz.t24) (ie:=Tryz.t62) (ke:=25) hn Tryz.func69 (by kernel_rfl) (by kernel_rfl) (by kernel_rfl) za8 (by kernel_rfl) (by kernel_rfl) (by kernel_rfl) (fun w=>by kernel_rfl) (fun m=>⟨rfl,by decide⟩) (by kernel_rfl))

def C51U (x0:yh) (x1:Unit) (R:(List yb)):LV×List (Nat×BC):=(.tup [],[(900000,.arr 4 R.length (rowOf (zbi true) R)),(900001,.var [.own 900002,.own 900000]),(900002,.arr 6 x0.c0.length (rowOf (zbg true) x0.c0))])
def zkq (x0:yh) (x1:Unit):(List yb):=zjy x0 (x0.l.length:Int)
noncomputable def A51U (x0:yh) (x1:Unit):Ann:=.reg 2 [] [(1,kvoU 7 [900000] x0.l),(1001,kspU 9 [900000] x0.l)] [1,4,5] [4,1007,900000,900001,900002] [] [] [] [0,4] (.reg 1 [] [(4,klnU 14 [900000,1007] x0.l),(5,k70U 15 [900000,900001,900002] x0 (x0.l.length:Int))] [] [900000,900001,900002] [] [] [] [0,4] (rt [(900000,some 900000),(900001,some 900001),(900002,some 900002)] (C51U x0 x1 (zjy x0 (x0.l.length:Int)))))
theorem zy0 (x:yh):zkq x ()=gStb (RU x) x.l x.l.length:=zxg x _

theorem zil (x0:yh) (x1:Unit) (hx:x0.l.length≤255) (hk:LkU x0 x0.l) (h2:2≤x0.l.length):FnMT Tryz.prog 51 [.ifc 24 (.own 900000),.clo 58 [.vp 900001 0]] [.arr 4 x0.l.length (rowOf (zbi true) x0.l),.var [.own 900002,.own 900000],.arr 6 x0.c0.length (rowOf (zbg true) x0.c0)] (C51U x0 x1 (zkq x0 x1)):=by
 have aux:∀ R,zkq x0 x1=R→slim (C51U x0 x1 R) (A51U x0 x1) []:=by
  intro R hR
  refine rg ⟨trivial,by with_reducible assumption,trivial⟩ ?_
  refine rg ⟨trivial,⟨by with_reducible assumption,by with_reducible assumption,by (intros;omega)⟩,trivial⟩ ?_
  exact congrArg (C51U x0 x1) hR
 exact FnM.go 16 Tryz.func51 (by kernel_rfl) (by kernel_rfl) (A51U x0 x1) (by kernel_rfl) (aux _ rfl)
def k51U (d:Nat) (ids:List Nat) (x0:yh) (x1:Unit):Cl:=(hresM d ids (C51U x0 x1 (zkq x0 x1)),k3 (zil x0 x1))
structure yi where
 c0:List ya
 l:List yb
 deriving Inhabited

def C91V (x0:yi) (x1:Int) (x2:Int) (R:(List yb)):LV×List (Nat×BC):=(.tup [],[(900000,.arr 4 R.length (rowOf (zbi true) R)),(900001,.var [.own 900002,.own 900000]),(900002,.arr 6 x0.c0.length (rowOf (zbg true) x0.c0))])
def zla (x0:yi) (x1:Int) (x2:Int):(List yb):=loopW (fun (v1:Int) next=>x0.l) (0+1) (x1+1)
def z34 (v1:Int):Dl:=⟨[(6,.int .i64 v1)],[]⟩
def A91Vb1 (x0:yi) (x1:Int) (x2:Int) (v1:Int):Ann:=r0 1 [1,2,3,6,12] [3,900000,900001,900002] (cn (decide (v1<x2)) (.next 99 [] ⟨[],[]⟩) (rt [(900000,some 900000),(900001,some 900001),(900002,some 900002)] (C91V x0 x1 x2 x0.l)))
def A91V (x0:yi) (x1:Int) (x2:Int):Ann:=r1 2 [1,2,3,6] [3,900000,900001,900002] [pf (inR .i64 (x1+1))] [0] (.loop Int (z34) [] [] [] (z34 (x1+1)) (A91Vb1 x0 x1 x2))
theorem zfx (x0:yi) (x1:Int) (x2:Int) (hx:x0.l.length≤1) (hab:x1=0∧x2=x0.l.length):FnMT Tryz.prog 91 [.agg [.clo 58 [.vp 900001 0],.fv],.int .i64 x1,.int .i64 x2] [.arr 4 x0.l.length (rowOf (zbi true) x0.l),.var [.own 900002,.own 900000],.arr 6 x0.c0.length (rowOf (zbg true) x0.c0)] (C91V x0 x1 x2 (zla x0 x1 x2)):=by
 have aux:∀ R,zla x0 x1 x2=R→slim (C91V x0 x1 x2 R) (A91V x0 x1 x2) []:=by
  intro R hR
  refine rg ⟨by (simp only [decide_eq_true_eq,decide_eq_false_iff_not,inR] at *;omega),trivial⟩ ?_
  revert hR;refine lW (fun v=>x1+1≤v) (fun v=>0) zar (Nat.lt_succ_self _) rfl fun m1 v1 F1 hI1 hM1 hR hK1=>?_
  refine rg trivial ?_
  refine ⟨fun hq=>absurd hq zao,fun hc1=>?_⟩
  exact congrArg (C91V x0 x1 x2) hR
 exact FnM.go 35 Tryz.func91 (by kernel_rfl) (by kernel_rfl) (A91V x0 x1 x2) (by kernel_rfl) (aux _ rfl)
def k91V (d:Nat) (ids:List Nat) (x0:yi) (x1:Int) (x2:Int):Cl:=(hresM d ids (C91V x0 x1 x2 (zla x0 x1 x2)),k2 (zfx x0 x1 x2))
def C70V (x0:yi) (x1:Int) (R:(List yb)):LV×List (Nat×BC):=(.tup [],[(900000,.arr 4 R.length (rowOf (zbi true) R)),(900001,.var [.own 900002,.own 900000]),(900002,.arr 6 x0.c0.length (rowOf (zbg true) x0.c0))])
def zny (x0:yi) (x1:Int):(List yb):=loopW (fun (v1:Int×Int) next=>loopW (fun (v2:Int) next=>zla x0 v1.1 x1) (0+1) 20) (0+1) (0,20)
def z4d (v1:Int×Int):Dl:=⟨[(5,.int .i64 v1.1),(6,.int .i64 v1.2)],[]⟩
def z4c (v2:Int):Dl:=⟨[(4,.int .i64 v2)],[]⟩
def A70Vb2 (x0:yi) (x1:Int) (v1:Int×Int) (v2:Int):Ann:=r0 1 [1,2,4,26] [2,900000,900001,900002] (cn (decide (v2<x1)) (.next 99 [] ⟨[],[]⟩) (rt [(900000,some 900000),(900001,some 900001),(900002,some 900002)] (C70V x0 x1 (zla x0 v1.1 x1))))
def A70Vb1 (x0:yi) (x1:Int) (v1:Int×Int):Ann:=r0 1 [1,2,4,5,6,11] [2,900000,900001,900002] (cn (decide (v1.2≤x1)) (.next 99 [] ⟨[],[]⟩) (.reg 1 [] [(3,k91V 23 [900000,900001,900002] x0 v1.1 x1)] [1,2,4] [2,900000,900001,900002] [] [] [] [0] (.loop Int (z4c) [] [] [] (z4c 20) (A70Vb2 x0 x1 v1))))
def A70V (x0:yi) (x1:Int):Ann:=r0 3 [1,2,4,5,6] [2,900000,900001,900002] (.loop (Int×Int) (z4d) [] [] [] (z4d (0,20)) (A70Vb1 x0 x1))
theorem zib (x0:yi) (x1:Int) (hx:x0.l.length≤1) (hn:x1=x0.l.length):FnMT Tryz.prog 70 [.agg [.clo 58 [.vp 900001 0],.fv],.int .i64 x1] [.arr 4 x0.l.length (rowOf (zbi true) x0.l),.var [.own 900002,.own 900000],.arr 6 x0.c0.length (rowOf (zbg true) x0.c0)] (C70V x0 x1 (zny x0 x1)):=by
 have aux:∀ R,zny x0 x1=R→slim (C70V x0 x1 R) (A70V x0 x1) []:=by
  intro R hR
  refine rg trivial ?_
  revert hR;refine lW (fun v=>v.1=0∧v.2=20) (fun v=>0) zar (Nat.lt_succ_self _) rfl fun m1 v1 F1 hI1 hM1 hR hK1=>?_
  refine rg trivial ?_
  refine ⟨fun hq=>absurd hq zao,fun hc1=>?_⟩
  refine rg ⟨⟨by with_reducible assumption,by (intros;omega)⟩,trivial⟩ ?_
  revert hR;refine lW (fun v=>v=20) (fun v=>0) zar (Nat.lt_succ_self _) rfl fun m2 v2 F2 hI2 hM2 hR hK2=>?_
  refine rg trivial ?_
  refine ⟨fun hq=>absurd hq zao,fun hc2=>?_⟩
  exact congrArg (C70V x0 x1) hR
 exact FnM.go 57 Tryz.func70 (by kernel_rfl) (by kernel_rfl) (A70V x0 x1) (by kernel_rfl) (aux _ rfl)
def k70V (d:Nat) (ids:List Nat) (x0:yi) (x1:Int):Cl:=(hresM d ids (C70V x0 x1 (zny x0 x1)),k2 (zib x0 x1))
noncomputable def kvoV (d:Nat) (ids:List Nat) (l:List yb):Cl:=(.resM d ids [(900000,.arr 4 l.length (rowOf (zbi true) l)),(0,.var [.own 900000])] (.agg [.k Tryz.prog.globals.size 24,.vp 0 0,.int .u64 151]),k0 (P:=FnX Tryz.prog 68 [.ifc 24 (.own 900000)] [.arr 4 l.length (rowOf (zbi true) l)] (.agg [.k Tryz.prog.globals.size 24,.vp 0 0,.int .u64 151]) [(900000,.arr 4 l.length (rowOf (zbi true) l)),(0,.var [.own 900000])]) (FnX.valueOf (t:=24) (e:=62) (ti:=Tryz.t24) Tryz.func68 (by kernel_rfl) (by kernel_rfl) (by kernel_rfl) za8 (by kernel_rfl) (by kernel_rfl)))
noncomputable def klnV (d:Nat) (ids:List Nat) (l:List yb):Cl:=(.resM d ids (enumB [.arr 4 l.length (rowOf (zbi true) l),.var [.own 900000]] 900000) (.int .i64 l.length),k0 (P:=FnX Tryz.prog 71 [.agg [.k Tryz.prog.globals.size 24,.vp 900001 0,.int .u64 151]] [.arr 4 l.length (rowOf (zbi true) l),.var [.own 900000]] (.int .i64 l.length) (enumB [.arr 4 l.length (rowOf (zbi true) l),.var [.own 900000]] 900000)) (FnX.valLen (t:=24) (e:=62) (ti:=Tryz.t24) Tryz.func71 (by kernel_rfl) (by kernel_rfl) (by kernel_rfl) za8 (by kernel_rfl) (by kernel_rfl) (by kernel_rfl) (by kernel_rfl)))
noncomputable def kspV (d:Nat) (ids:List Nat) (l:List yb):Cl:=(.resM d ids (enumB [.arr 4 l.length (rowOf (zbi true) l)] 900000) .fv,k1 (P:=FnX Tryz.prog 69 [.ifc 24 (.own 900000)] [.arr 4 l.length (rowOf (zbi true) l)] .fv (enumB [.arr 4 l.length (rowOf (zbi true) l)] 900000)) fun hn=>FnX.swapper0 (t:=24) (e:=62) (ti:=Tryz.t24) (ie:=Tryz.t62) (ke:=25) (g0:=82) (g1:=83) hn Tryz.func69 (by kernel_rfl) (by kernel_rfl) (by kernel_rfl) za8 (by kernel_rfl) (by kernel_rfl) (by kernel_rfl) (fun w=>by kernel_rfl) (by kernel_rfl) (by kernel_rfl))

def C51V (x0:yi) (x1:Unit) (R:(List yb)):LV×List (Nat×BC):=(.tup [],[(900000,.arr 4 R.length (rowOf (zbi true) R)),(900001,.var [.own 900002,.own 900000]),(900002,.arr 6 x0.c0.length (rowOf (zbg true) x0.c0))])
def zkp (x0:yi) (x1:Unit):(List yb):=zny x0 (x0.l.length:Int)
noncomputable def A51V (x0:yi) (x1:Unit):Ann:=.reg 2 [] [(1,kvoV 7 [900000] x0.l),(1001,kspV 9 [900000] x0.l)] [1,4,5] [4,1007,900000,900001,900002] [] [] [] [0,4] (.reg 1 [] [(4,klnV 14 [900000,1007] x0.l),(5,k70V 15 [900000,900001,900002] x0 (x0.l.length:Int))] [] [900000,900001,900002] [] [] [] [0,4] (rt [(900000,some 900000),(900001,some 900001),(900002,some 900002)] (C51V x0 x1 (zny x0 (x0.l.length:Int)))))
theorem zyz (x:yi):zkp x ()=x.l:=rfl

theorem zik (x0:yi) (x1:Unit) (hx:x0.l.length≤1):FnMT Tryz.prog 51 [.ifc 24 (.own 900000),.clo 58 [.vp 900001 0]] [.arr 4 x0.l.length (rowOf (zbi true) x0.l),.var [.own 900002,.own 900000],.arr 6 x0.c0.length (rowOf (zbg true) x0.c0)] (C51V x0 x1 (zkp x0 x1)):=by
 have aux:∀ R,zkp x0 x1=R→slim (C51V x0 x1 R) (A51V x0 x1) []:=by
  intro R hR
  refine rg ⟨trivial,by with_reducible assumption,trivial⟩ ?_
  refine rg ⟨trivial,⟨by with_reducible assumption,by (intros;omega)⟩,trivial⟩ ?_
  exact congrArg (C51V x0 x1) hR
 exact FnM.go 16 Tryz.func51 (by kernel_rfl) (by kernel_rfl) (A51V x0 x1) (by kernel_rfl) (aux _ rfl)
def k51V (d:Nat) (ids:List Nat) (x0:yi) (x1:Unit):Cl:=(hresM d ids (C51V x0 x1 (zkp x0 x1)),k1 (zik x0 x1))
def C52 (R:Bool):LV×List (Nat×BC):=(.bool R,[])
def zed (x0:Int) (x1:Int) (x2:List yd):Bool:=(decide (((x2.getD x0.toNat default).year)<((x2.getD x1.toNat default).year)))||((decide (((x2.getD x0.toNat default).year)=((x2.getD x1.toNat default).year)))&&(decide (((x2.getD x0.toNat default).kind)<((x2.getD x1.toNat default).kind))))
def A52 (x0:Int) (x1:Int) (x2:List yd):Ann:=let q4:=((x2.length:Nat):Int);let q1:=((x2.getD x0.toNat default).year)<((x2.getD x1.toNat default).year);let q2:=decide (((x2.getD x0.toNat default).year)=((x2.getD x1.toNat default).year));let q3:=decide q1;.reg 3 [] [] [5] [] [!q3,(!q3)&&q2,decide q1] [pf (0≤(x0:Int)∧(x0:Int)<q4),pf (0≤(x1:Int)∧(x1:Int)<q4),gt (!q3) (gt q2 (pf (((!q3)&&q2)=true)))] [] [0,4,1,1,1,1,1,5,5,5,5,1,8,10] (rt [] (C52 (q3||(q2&&(decide (((x2.getD x0.toNat default).kind)<((x2.getD x1.toNat default).kind)))))))
theorem zk0 (x0:Int) (x1:Int) (x2:List yd) (h0:0≤x0∧x0<x2.length) (h1:0≤x1∧x1<x2.length):FnT Tryz.prog 52 [.int .i64 x0,.int .i64 x1,.ep [.ro false 6 x2.length (rowOf (zbt false) x2)] 0] (C52 (zed x0 x1 x2)):=by
 have aux:∀ R,zed x0 x1 x2=R→slim (C52 R) (A52 x0 x1 x2) []:=by
  intro R hR
  refine rg ⟨by trivial,by trivial,by ((try clear hR);intros;(try simp only [decide_eq_true_eq,decide_eq_false_iff_not,Bool.or_eq_true,Bool.and_eq_true,zbd,zbb,zbc,Bool.not_eq_true',inR] at *);(repeat' apply And.intro)<;>(intros;omega)),trivial⟩ ?_
  exact congrArg C52 hR
 exact Fn.go 35 Tryz.func52 (by kernel_rfl) (by kernel_rfl) (by simp [C52,Frs,FrsL]) (A52 x0 x1 x2) (by kernel_rfl) (aux _ rfl)
def k52 (x0:Int) (x1:Int) (x2:List yd):Cl:=(hres (C52 (zed x0 x1 x2)),k2 (zk0 x0 x1 x2))
structure yj where

  l:List yd
  deriving Inhabited
def kswW (d : Nat) (ids : List Nat) (l : List yd) (i j : Int) : Cl := (.resM d ids [(900000, .arr 6 (swp l i j).length (rowOf (zbt true) (swp l i j)))] (.tup []), k2 (P := FnX Tryz.prog 90 [.int .i64 i, .int .i64 j, .own 900000, .k Tryz.prog.globals.size 65] [.arr 6 l.length (rowOf (zbt true) l)] (.tup []) [(900000, .arr 6 (swp l i j).length (rowOf (zbt true) (swp l i j)))])
  fun hi hj=>FnX.swap (b:=false) (ag:=true) Tryz.func90 (by kernel_rfl) (by kernel_rfl) (by kernel_rfl) za8 (by kernel_rfl) (by kernel_rfl) (by kernel_rfl) (by intro h;cases h) hi hj)
def LkW (x:yj) (l:List yd):Prop:=(True)∧l.length=x.l.length
theorem LkW.swp {x:yj} {l:List yd} (h:LkW x l) {i j:Int} (hi:0≤i∧i<x.l.length) (hj:0≤j∧j<x.l.length):LkW x (swp l i j):=⟨trivial,by rw [zba];exact h.2⟩
def RW (x:yj):yd→yd→Bool:=fun u v=>(decide (u.year<v.year))||((decide (u.year=v.year))&&(decide (u.kind<v.kind)))
theorem LkW.pm {x:yj} {l l':List yd} (h:LkW x l) (hp:Pm l l'):LkW x l':=⟨trivial,hp.1.trans h.2⟩
theorem LkW.me {x:yj} {l:List yd} (h:LkW x l):LkW (yj.mk l) l:=⟨h.1,rfl⟩
theorem LkW.of {x:yj} {l l':List yd} (h:LkW x l) (h':LkW (yj.mk l) l'):LkW x l':=⟨h'.1,h'.2.trans h.2⟩

def C91W (x0:yj) (x1:Int) (x2:Int) (R:(List yd)):LV×List (Nat×BC):=(.tup [],[(900000,.arr 6 R.length (rowOf (zbt true) R)),(900001,.var [.own 900000])])
def ze9 (x0:yj) (x1:Int) (x2:Int):(List yd):=loopW (fun (v1:Int×(List yd)) nx1=>bif (decide (v1.1<x2)) then (loopW (fun (v2:Int×(List yd)) next=>bif ((decide (x1<v2.1))&&(zed v2.1 (v2.1 - 1) v2.2)) then (next (v2.1 - 1,(swp v2.2 v2.1 (v2.1 - 1)))) else (nx1 (v1.1+1,v2.2))) ((v1.1).toNat+1) (v1.1,v1.2)) else v1.2) ((x2 - (x1+1)).toNat+1) (x1+1,x0.l)
def z1l (v1:Int×(List yd)):Dl:=⟨[(6,.int .i64 v1.1)],[(900000,.arr 6 v1.2.length (rowOf (zbt true) v1.2))]⟩
def z1k (v2:Int×(List yd)):Dl:=⟨[(7,.int .i64 v2.1)],[(900000,.arr 6 v2.2.length (rowOf (zbt true) v2.2))]⟩
def A91Wb2 (x1:Int) (v1:Int×(List yd)) (v2:Int×(List yd)):Ann:=let q1:=v2.1 - 1;let q2:=decide (x1<v2.1);let q3:=inR .i64 q1;.reg 1 [] [(9,cg q2 (k52 v2.1 q1 v2.2))] [1,2,3,6,7,26] [3,900000,900001] [decide (x1<v2.1)] [gt q2 (pf q3)] [] [1,1,0,1,1,1,4,1] (cn (q2&&(zed v2.1 q1 v2.2)) (.reg 1 [] [(5,kswW 503 [900000] v2.2 v2.1 q1)] [1,2,3,6,7] [3,900000,900001] [] [pf q3] [] [0,4] (r1 1 [1,2,3,6,7] [3,900000,900001] [pf q3] [0] (.next 0 [(900000,some 900000)] (z1k (v2.1 - 1,(swp v2.2 v2.1 q1)))))) (r1 1 [1,2,3,6] [3,900000,900001] [pf (inR .i64 (v1.1+1))] [0] (.next 1 [(900000,some 900000)] (z1l (v1.1+1,v2.2)))))
def A91Wb1 (x0:yj) (x1:Int) (x2:Int) (v1:Int×(List yd)):Ann:=r0 1 [1,2,3,6,12] [3,900000,900001] (cn (decide (v1.1<x2)) (r0 1 [1,2,3,6,7] [3,900000,900001] (.loop (Int×(List yd)) (z1k) [] [] [(900000,some 900000)] (z1k (v1.1,v1.2)) (A91Wb2 x1 v1))) (rt [(900000,some 900000),(900001,some 900001)] (C91W x0 x1 x2 v1.2)))
def A91W (x0:yj) (x1:Int) (x2:Int):Ann:=r1 2 [1,2,3,6] [3,900000,900001] [pf (inR .i64 (x1+1))] [0] (.loop (Int×(List yd)) (z1l) [] [] [(900000,some 900000)] (z1l (x1+1,x0.l)) (A91Wb1 x0 x1 x2))
theorem zu0 (x:yj) (a b:Int):ze9 x a b=gIns (RW x) x.l a b:=rfl
theorem zpa {x:yj} (hk:LkW x x.l) {a b:Int} (h:0≤a∧a≤b∧b≤x.l.length):LkW x (ze9 x a b):=hk.pm (zu5 (RW x) h)

theorem zfw (x0:yj) (x1:Int) (x2:Int) (hx:x0.l.length≤255) (hk:LkW x0 x0.l) (hab:0≤x1∧x1≤x2∧x2≤x0.l.length):FnMT Tryz.prog 91 [.agg [.clo 52 [.vp 900001 0],.clo 90 [.own 900000,.k Tryz.prog.globals.size 65]],.int .i64 x1,.int .i64 x2] [.arr 6 x0.l.length (rowOf (zbt true) x0.l),.var [.own 900000]] (C91W x0 x1 x2 (ze9 x0 x1 x2)):=by
 have aux:∀ R,ze9 x0 x1 x2=R→slim (C91W x0 x1 x2 R) (A91W x0 x1 x2) []:=by
  intro R hR
  refine rg ⟨by (have h9:=(hk).2;intros;(try simp only [decide_eq_true_eq,decide_eq_false_iff_not,Bool.and_eq_true,Bool.not_eq_true',zba,inR] at *);first | done | omega),trivial⟩ ?_
  revert hR;refine lW (fun v=>x1+1≤v.1∧LkW x0 v.2) (fun v=>(x2 - (v.1)).toNat) zak (Nat.lt_succ_self _) rfl fun m1 v1 F1 hI1 hM1 hR hK1=>?_
  refine rg trivial ?_
  revert hR;refine cd (fun hc1 hR=>?_) fun hc1 hR=>?_
  ·
    refine rg trivial ?_
    revert hR;refine lW (fun v=>(x1≤v.1∧v.1≤v1.1)∧LkW x0 v.2) (fun v=>(v.1).toNat) zae (Nat.lt_succ_self _) rfl fun m2 v2 F2 hI2 hM2 hR hK2=>?_
    refine rg ⟨by (have h9:=(hk).2;intros;(try simp only [decide_eq_true_eq,decide_eq_false_iff_not,Bool.and_eq_true,Bool.not_eq_true',zba,inR] at *);first | done | omega),fun hg0=>⟨by (have h9:=(hI2.2).2;intros;(try simp only [decide_eq_true_eq,decide_eq_false_iff_not,Bool.and_eq_true,Bool.not_eq_true',zba,inR] at *);first | done | omega),by (have h9:=(hI2.2).2;intros;(try simp only [decide_eq_true_eq,decide_eq_false_iff_not,Bool.and_eq_true,Bool.not_eq_true',zba,inR] at *);first | done | omega)⟩,trivial⟩ ?_
    revert hR;refine cd (fun hc2 hR=>?_) fun hc2 hR=>?_
    ·
      refine rg ⟨by (have h9:=(hk).2;intros;(try simp only [decide_eq_true_eq,decide_eq_false_iff_not,Bool.and_eq_true,Bool.not_eq_true',zba,inR] at *);first | done | omega),⟨by (have h9:=(hI2.2).2;intros;(try simp only [decide_eq_true_eq,decide_eq_false_iff_not,Bool.and_eq_true,Bool.not_eq_true',zba,inR] at *);first | done | omega),by (have h9:=(hI2.2).2;intros;(try simp only [decide_eq_true_eq,decide_eq_false_iff_not,Bool.and_eq_true,Bool.not_eq_true',zba,inR] at *);first | done | omega)⟩,trivial⟩ ?_
      refine rg ⟨by (have h9:=(hk).2;intros;(try simp only [decide_eq_true_eq,decide_eq_false_iff_not,Bool.and_eq_true,Bool.not_eq_true',zba,inR] at *);first | done | omega),trivial⟩ ?_
      exact hK2 (v2.1 - 1,(swp v2.2 v2.1 (v2.1 - 1))) zab zan hR
    ·
      refine rg ⟨by (have h9:=(hk).2;intros;(try simp only [decide_eq_true_eq,decide_eq_false_iff_not,Bool.and_eq_true,Bool.not_eq_true',zba,inR] at *);first | done | omega),trivial⟩ ?_
      exact hK1 (v1.1+1,v2.2) zaf zan hR
  ·
    exact congrArg (C91W x0 x1 x2) hR
 exact FnM.go 35 Tryz.func91 (by kernel_rfl) (by kernel_rfl) (A91W x0 x1 x2) (by kernel_rfl) (aux _ rfl)
def k91W (d:Nat) (ids:List Nat) (x0:yj) (x1:Int) (x2:Int):Cl:=(hresM d ids (C91W x0 x1 x2 (ze9 x0 x1 x2)),k3 (zfw x0 x1 x2))
def C123W (x0:yj) (x1:Int) (x2:Int) (x3:Int) (R:(List yd)):LV×List (Nat×BC):=(.tup [],[(900000,.arr 6 R.length (rowOf (zbt true) R)),(900001,.var [.own 900000])])
def zdo (x0:yj) (x1:Int) (x2:Int) (x3:Int):(List yd):=loopN (fun i1 (v1:(List yd)) next=>next (swp v1 (x1+((i1:Nat):Int)) (x2+((i1:Nat):Int)))) (fun (v1:(List yd))=>v1) x3.toNat 0 x0.l
def zvn (i1:Nat) (v1:(List yd)):Dl:=⟨[(8,.int .i64 ((i1:Nat):Int))],[(900000,.arr 6 v1.length (rowOf (zbt true) v1))]⟩
def z5g (x0:yj) (x1:Int) (x2:Int) (x3:Int) (i1:Nat) (v1:(List yd)):Ann:=let q1:=((i1:Nat):Int);r0 1 [1,2,3,4,8,11] [4,900000,900001] (cn (decide (q1<x3)) (.reg 1 [] [(8,kswW 503 [900000] v1 (x1+q1) (x2+q1))] [1,2,3,4,8] [4,900000,900001] [] [pf (inR .i64 (x1+q1)),pf (inR .i64 (x2+q1))] [] [0,4,8] (r1 1 [1,2,3,4,8] [4,900000,900001] [pf (inR .i64 (q1+1))] [0] (.next 0 [(900000,some 900000)] (zvn (i1+1) (swp v1 (x1+q1) (x2+q1)))))) (rt [(900000,some 900000),(900001,some 900001)] (C123W x0 x1 x2 x3 v1)))
def A123W (x0:yj) (x1:Int) (x2:Int) (x3:Int):Ann:=r0 2 [1,2,3,4,8] [4,900000,900001] (lp (zvn) [] [] [(900000,some 900000)] (zvn 0 x0.l) (z5g x0 x1 x2 x3))
theorem zkk {x:yj} (hk:LkW x x.l) {a b n:Int} (h:(0≤a∧0≤b∧0≤n)∧a+n≤x.l.length∧b+n≤x.l.length):LkW x (zdo x a b n):=hk.pm (zme h)

theorem zgz (x0:yj) (x1:Int) (x2:Int) (x3:Int) (hx:x0.l.length≤255) (hk:LkW x0 x0.l) (hab:(0≤x1∧0≤x2∧0≤x3)∧x1+x3≤x0.l.length∧x2+x3≤x0.l.length):FnMT Tryz.prog 123 [.agg [.clo 52 [.vp 900001 0],.clo 90 [.own 900000,.k Tryz.prog.globals.size 65]],.int .i64 x1,.int .i64 x2,.int .i64 x3] [.arr 6 x0.l.length (rowOf (zbt true) x0.l),.var [.own 900000]] (C123W x0 x1 x2 x3 (zdo x0 x1 x2 x3)):=by
 have aux:∀ R,zdo x0 x1 x2 x3=R→slim (C123W x0 x1 x2 x3 R) (A123W x0 x1 x2 x3) []:=by
  intro R hR
  refine rg trivial ?_
  revert hR;refine lN (fun i v=>LkW x0 v) za1 rfl fun i1 v1 F1 hn1 hI1 hR hK1=>?_
  refine rg trivial ?_
  refine ⟨fun hc1=>?_,fun hc1=>?_⟩
  ·have hii1:i1<x3.toNat:=by have:=of_decide_eq_true hc1;omega
   replace hR:=zbq hR hii1
   refine rg ⟨by (have h9:=(hk).2;intros;(try simp only [decide_eq_true_eq,decide_eq_false_iff_not,Bool.and_eq_true,Bool.not_eq_true',zba,inR] at *);first | done | omega),by (have h9:=(hk).2;intros;(try simp only [decide_eq_true_eq,decide_eq_false_iff_not,Bool.and_eq_true,Bool.not_eq_true',zba,inR] at *);first | done | omega),⟨by (have h9:=(hI1).2;intros;(try simp only [decide_eq_true_eq,decide_eq_false_iff_not,Bool.and_eq_true,Bool.not_eq_true',zba,inR] at *);first | done | omega),by (have h9:=(hI1).2;intros;(try simp only [decide_eq_true_eq,decide_eq_false_iff_not,Bool.and_eq_true,Bool.not_eq_true',zba,inR] at *);first | done | omega)⟩,trivial⟩ ?_
   refine rg ⟨by (have h9:=(hk).2;intros;(try simp only [decide_eq_true_eq,decide_eq_false_iff_not,Bool.and_eq_true,Bool.not_eq_true',zba,inR] at *);first | done | omega),trivial⟩ ?_
   exact hK1 (swp v1 (x1+((i1:Nat):Int)) (x2+((i1:Nat):Int))) hii1 zai hR
  ·obtain rfl:i1=x3.toNat:=by have:=of_decide_eq_false hc1;omega
   replace hR:=zbu hR (Nat.lt_irrefl _)
   exact congrArg (C123W x0 x1 x2 x3) hR
 exact FnM.go 23 Tryz.func123 (by kernel_rfl) (by kernel_rfl) (A123W x0 x1 x2 x3) (by kernel_rfl) (aux _ rfl)
def k123W (d:Nat) (ids:List Nat) (x0:yj) (x1:Int) (x2:Int) (x3:Int):Cl:=(hresM d ids (C123W x0 x1 x2 x3 (zdo x0 x1 x2 x3)),k3 (zgz x0 x1 x2 x3))
def C109W (x0:yj) (x1:Int) (x2:Int) (x3:Int) (R:(List yd)):LV×List (Nat×BC):=(.tup [],[(900000,.arr 6 R.length (rowOf (zbt true) R)),(900001,.var [.own 900000])])
def zh4 (x0:yj) (x1:Int) (x2:Int) (x3:Int):(List yd):=loopW (fun (v1:Int×Int×(List yd)) next=>bif (!decide (v1.1=v1.2.1)) then (bif (decide (v1.2.1<v1.1)) then (next (v1.1 - v1.2.1,v1.2.1,zdo (yj.mk v1.2.2) (x2 - v1.1) x2 v1.2.1)) else (next (v1.1,v1.2.1 - v1.1,zdo (yj.mk v1.2.2) (x2 - v1.1) ((x2+v1.2.1) - v1.1) v1.1))) else (zdo (yj.mk v1.2.2) (x2 - v1.1) x2 v1.1)) ((x2 - x1+(x3 - x2)).toNat+1) (x2 - x1,x3 - x2,x0.l)
def zsg (v1:Int×Int×(List yd)):Dl:=⟨[(8,.int .i64 v1.1),(9,.int .i64 v1.2.1)],[(900000,.arr 6 v1.2.2.length (rowOf (zbt true) v1.2.2))]⟩
def z5j (x0:yj) (x1:Int) (x2:Int) (x3:Int) (v1:Int×Int×(List yd)):Ann:=let q2:=x2 - v1.1;let q1:=yj.mk v1.2.2;let q3:=(x2+v1.2.1) - v1.1;let q4:=inR .i64 q2;r0 1 [2,4,8,9,18] [4,900000,900001] (cn (!decide (v1.1=v1.2.1)) (r0 1 [2,4,8,9,21] [4,900000,900001] (cn (decide (v1.2.1<v1.1)) (.reg 1 [] [(6,k123W 28 [900000,900001] q1 q2 x2 v1.2.1)] [2,4,8,9] [4,900000,900001] [] [pf q4] [] [0,4] (r1 1 [2,4,8,9] [4,900000,900001] [pf (inR .i64 (v1.1 - v1.2.1))] [0] (.next 0 [(900000,some 900000)] (zsg (v1.1 - v1.2.1,v1.2.1,zdo q1 q2 x2 v1.2.1))))) (.reg 1 [] [(10,k123W 42 [900000,900001] q1 q2 q3 v1.1)] [2,4,8,9] [4,900000,900001] [] [pf q4,pf (inR .i64 (x2+v1.2.1)),pf (inR .i64 q3)] [] [0,4,8,12] (r1 1 [2,4,8,9] [4,900000,900001] [pf (inR .i64 (v1.2.1 - v1.1))] [0] (.next 0 [(900000,some 900000)] (zsg (v1.1,v1.2.1 - v1.1,zdo q1 q2 q3 v1.1))))))) (.reg 1 [] [(6,k123W 52 [900000,900001] q1 q2 x2 v1.1)] [] [900000,900001] [] [pf q4] [] [0,4] (rt [(900000,some 900000),(900001,some 900001)] (C109W x0 x1 x2 x3 (zdo q1 q2 x2 v1.1)))))
def A109W (x0:yj) (x1:Int) (x2:Int) (x3:Int):Ann:=r1 3 [2,4,8,9] [4,900000,900001] [pf (inR .i64 (x2 - x1)),pf (inR .i64 (x3 - x2))] [0,4] (.loop (Int×Int×(List yd)) (zsg) [] [] [(900000,some 900000)] (zsg (x2 - x1,x3 - x2,x0.l)) (z5j x0 x1 x2 x3))
theorem zxl (x:yj) (a m b:Int):zh4 x a m b=gRot x.l a m b:=rfl
theorem zxk {x:yj} (hk:LkW x x.l) {a m b:Int} (h:0≤a∧a<m∧m<b∧b≤x.l.length):LkW x (zh4 x a m b):=hk.pm (zr3 h)

theorem zif (x0:yj) (x1:Int) (x2:Int) (x3:Int) (hx:x0.l.length≤255) (hk:LkW x0 x0.l) (hab:0≤x1∧x1<x2∧x2<x3∧x3≤x0.l.length):FnMT Tryz.prog 109 [.agg [.clo 52 [.vp 900001 0],.clo 90 [.own 900000,.k Tryz.prog.globals.size 65]],.int .i64 x1,.int .i64 x2,.int .i64 x3] [.arr 6 x0.l.length (rowOf (zbt true) x0.l),.var [.own 900000]] (C109W x0 x1 x2 x3 (zh4 x0 x1 x2 x3)):=by
 have aux:∀ R,zh4 x0 x1 x2 x3=R→slim (C109W x0 x1 x2 x3 R) (A109W x0 x1 x2 x3) []:=by
  intro R hR
  refine rg ⟨by (have h9:=(hk).2;intros;(try simp only [decide_eq_true_eq,decide_eq_false_iff_not,Bool.and_eq_true,Bool.not_eq_true',zba,inR] at *);first | done | omega),by (have h9:=(hk).2;intros;(try simp only [decide_eq_true_eq,decide_eq_false_iff_not,Bool.and_eq_true,Bool.not_eq_true',zba,inR] at *);first | done | omega),trivial⟩ ?_
  revert hR;refine lW (fun v=>(1≤v.1∧1≤v.2.1∧v.1≤x2 - x1∧v.2.1≤x3 - x2)∧LkW x0 v.2.2) (fun v=>(v.1+(v.2.1)).toNat) zak (Nat.lt_succ_self _) rfl fun m1 v1 F1 hI1 hM1 hR hK1=>?_
  refine rg trivial ?_
  revert hR;refine cd (fun hc1 hR=>?_) fun hc1 hR=>?_
  ·
    refine rg trivial ?_
    revert hR;refine cd (fun hc2 hR=>?_) fun hc2 hR=>?_
    ·
      refine rg ⟨by (have h9:=(hk).2;intros;(try simp only [decide_eq_true_eq,decide_eq_false_iff_not,Bool.and_eq_true,Bool.not_eq_true',zba,inR] at *);first | done | omega),⟨by (have h9:=(hI1.2).2;intros;(try simp only [decide_eq_true_eq,decide_eq_false_iff_not,Bool.and_eq_true,Bool.not_eq_true',zba,inR] at *);first | done | omega),by (exact (hI1.2).me),by (have h9:=(hI1.2).2;intros;(try simp only [decide_eq_true_eq,decide_eq_false_iff_not,Bool.and_eq_true,Bool.not_eq_true',zba,inR] at *);first | done | omega)⟩,trivial⟩ ?_
      refine rg ⟨by (have h9:=(hk).2;intros;(try simp only [decide_eq_true_eq,decide_eq_false_iff_not,Bool.and_eq_true,Bool.not_eq_true',zba,inR] at *);first | done | omega),trivial⟩ ?_
      exact hK1 (v1.1 - v1.2.1,v1.2.1,zdo (yj.mk v1.2.2) (x2 - v1.1) x2 v1.2.1) (by (have h9:=(hI1.2).2;intros;(try simp only [decide_eq_true_eq,decide_eq_false_iff_not,Bool.and_eq_true,Bool.not_eq_true',zba,inR] at *);refine ⟨by ((try dsimp only);omega),(hI1.2).of (zkk (hI1.2).me zap)⟩)) zan hR
    ·
      refine rg ⟨by (have h9:=(hk).2;intros;(try simp only [decide_eq_true_eq,decide_eq_false_iff_not,Bool.and_eq_true,Bool.not_eq_true',zba,inR] at *);first | done | omega),by (have h9:=(hk).2;intros;(try simp only [decide_eq_true_eq,decide_eq_false_iff_not,Bool.and_eq_true,Bool.not_eq_true',zba,inR] at *);first | done | omega),by (have h9:=(hk).2;intros;(try simp only [decide_eq_true_eq,decide_eq_false_iff_not,Bool.and_eq_true,Bool.not_eq_true',zba,inR] at *);first | done | omega),⟨by (have h9:=(hI1.2).2;intros;(try simp only [decide_eq_true_eq,decide_eq_false_iff_not,Bool.and_eq_true,Bool.not_eq_true',zba,inR] at *);first | done | omega),by (exact (hI1.2).me),by (have h9:=(hI1.2).2;intros;(try simp only [decide_eq_true_eq,decide_eq_false_iff_not,Bool.and_eq_true,Bool.not_eq_true',zba,inR] at *);first | done | omega)⟩,trivial⟩ ?_
      refine rg ⟨by (have h9:=(hk).2;intros;(try simp only [decide_eq_true_eq,decide_eq_false_iff_not,Bool.and_eq_true,Bool.not_eq_true',zba,inR] at *);first | done | omega),trivial⟩ ?_
      exact hK1 (v1.1,v1.2.1 - v1.1,zdo (yj.mk v1.2.2) (x2 - v1.1) ((x2+v1.2.1) - v1.1) v1.1) (by (have h9:=(hI1.2).2;intros;(try simp only [decide_eq_true_eq,decide_eq_false_iff_not,Bool.and_eq_true,Bool.not_eq_true',zba,inR] at *);refine ⟨by ((try dsimp only);omega),(hI1.2).of (zkk (hI1.2).me zap)⟩)) zan hR
  ·
    refine rg ⟨by (have h9:=(hk).2;intros;(try simp only [decide_eq_true_eq,decide_eq_false_iff_not,Bool.and_eq_true,Bool.not_eq_true',zba,inR] at *);first | done | omega),⟨by (have h9:=(hI1.2).2;intros;(try simp only [decide_eq_true_eq,decide_eq_false_iff_not,Bool.and_eq_true,Bool.not_eq_true',zba,inR] at *);first | done | omega),by (exact (hI1.2).me),by ((try clear hR hK1);intros;(try simp only [decide_eq_true_eq,decide_eq_false_iff_not,Bool.or_eq_true,Bool.and_eq_true,zbd,zbb,zbc,Bool.not_eq_true',inR] at *);(repeat' apply And.intro)<;>(first | (intros;omega) | (have h9:=(hI1.2).2;intros;(try simp only [decide_eq_true_eq,decide_eq_false_iff_not,Bool.and_eq_true,Bool.not_eq_true',zba,inR] at *);first | done | omega)))⟩,trivial⟩ ?_
    exact congrArg (C109W x0 x1 x2 x3) hR
 exact FnM.go 53 Tryz.func109 (by kernel_rfl) (by kernel_rfl) (A109W x0 x1 x2 x3) (by kernel_rfl) (aux _ rfl)
def k109W (d:Nat) (ids:List Nat) (x0:yj) (x1:Int) (x2:Int) (x3:Int):Cl:=(hresM d ids (C109W x0 x1 x2 x3 (zh4 x0 x1 x2 x3)),k3 (zif x0 x1 x2 x3))
end Go.Proofs.YtlinnkjieghmhaaGreatDoor
