import Derived.Test.YtikfeeaapenplabSE
set_option maxHeartbeats 4000000
set_option linter.unusedSimpArgs false
set_option linter.unusedVariables false
namespace Go.Proofs.Ytikfeeaapenplab
open Go Go.Lite Go.Proofs
noncomputable def kvoE (d:Nat) (ids:List Nat) (l:List Int):Cl:=(.resM d ids [(900000,.arr 1 l.length (rowOf (cInt .i64) l)),(0,.var [.own 900000])] (.agg [.k Try.prog.globals.size 35,.vp 0 0,.int .u64 151]),k0 (P:=FnX Try.prog 124 [.ifc 35 (.own 900000)] [.arr 1 l.length (rowOf (cInt .i64) l)] (.agg [.k Try.prog.globals.size 35,.vp 0 0,.int .u64 151]) [(900000,.arr 1 l.length (rowOf (cInt .i64) l)),(0,.var [.own 900000])]) (FnX.valueOf (t:=35) (e:=3) (ti:=Try.t35) Try.func124 (by kernel_rfl) (by kernel_rfl) (by kernel_rfl) (by rfl) (by kernel_rfl) (by kernel_rfl)))
noncomputable def klnE (d:Nat) (ids:List Nat) (l:List Int):Cl:=(.resM d ids (enumB [.arr 1 l.length (rowOf (cInt .i64) l),.var [.own 900000]] 900000) (.int .i64 l.length),k0 (P:=FnX Try.prog 126 [.agg [.k Try.prog.globals.size 35,.vp 900001 0,.int .u64 151]] [.arr 1 l.length (rowOf (cInt .i64) l),.var [.own 900000]] (.int .i64 l.length) (enumB [.arr 1 l.length (rowOf (cInt .i64) l),.var [.own 900000]] 900000)) (FnX.valLen (t:=35) (e:=3) (ti:=Try.t35) Try.func126 (by kernel_rfl) (by kernel_rfl) (by kernel_rfl) (by rfl) (by kernel_rfl) (by kernel_rfl) (by kernel_rfl) (by kernel_rfl)))
noncomputable def kspE (d:Nat) (ids:List Nat) (l:List Int):Cl:=(.resM d ids (enumB [.arr 1 l.length (rowOf (cInt .i64) l)] 900000) (.clo 151 [.own 900000,.k Try.prog.globals.size 3]),k1 (P:=FnX Try.prog 125 [.ifc 35 (.own 900000)] [.arr 1 l.length (rowOf (cInt .i64) l)] (.clo 151 [.own 900000,.k Try.prog.globals.size 3]) (enumB [.arr 1 l.length (rowOf (cInt .i64) l)] 900000)) fun hn=>FnX.swapper (t:=35) (e:=3) (ti:=Try.t35) (ie:=Try.t3) (ke:=2) hn Try.func125 (by kernel_rfl) (by kernel_rfl) (by kernel_rfl) (by rfl) (by kernel_rfl) (by kernel_rfl) (by kernel_rfl) (fun w=>by kernel_rfl) (fun m=>⟨rfl,by decide⟩) (by kernel_rfl))

def C82E (x0:SrtE) (x1:Unit) (R:(List Int)):LV×List (Nat×BC):=(.tup [],[(900000,.arr 1 R.length (rowOf (cInt .i64) R)),(900001,.var [.ro false 6 x0.c0.people.length (rowOf (cPerson false) x0.c0.people),.ro false 4 x0.c0.unions.length (rowOf (cUnion false) x0.c0.unions)]),(900002,.var [.own 900000])])
def sliceE (x0:SrtE) (x1:Unit):(List Int):=pdqE x0 0 (x0.l.length:Int) (bitsLen (x0.l.length:Int))
noncomputable def A82E (x0:SrtE) (x1:Unit):Ann:=.reg 4 [] [(1,kvoE 9 [900000] x0.l),(1001,kspE 11 [900000] x0.l),(2001,klnE 13 [900000,1009] x0.l),(3002,k127 (x0.l.length:Int))] [1,5,6,7] [900000,900001,900002] [] [pf (inR .u64 (x0.l.length:Int))] [] [4,8,12,0,16] (.reg 1 [] [(5,k128E 22 [900000,900001,900002] x0 0 (x0.l.length:Int) (bitsLen (x0.l.length:Int)))] [] [900000,900001,900002] [] [] [] [0] (rt [(900000,some 900000),(900001,some 900001),(900002,some 900002)] (C82E x0 x1 (pdqE x0 0 (x0.l.length:Int) (bitsLen (x0.l.length:Int))))))
theorem ok_sort_Slice_E (x0 : SrtE) (x1 : Unit) (hx : x0.l.length < 50) (hok : OkE x0) (h2 : 2 ≤ x0.l.length) : FnMT Try.prog 82 [.ifc 35 (.own 900000), .clo 131 [.vp 900001 0, .vp 900002 0]] [.arr 1 x0.l.length (rowOf (cInt .i64) x0.l), .var [.ro false 6 x0.c0.people.length (rowOf (cPerson false) x0.c0.people), .ro false 4 x0.c0.unions.length (rowOf (cUnion false) x0.c0.unions)], .var [.own 900000]] (C82E x0 x1 (sliceE x0 x1)) := by
  have aux : ∀ R, sliceE x0 x1 = R → slim (C82E x0 x1 R) (A82E x0 x1) [] := by
    intro R hR
    refine rg ⟨by ( intros;simp only [inR];omega),trivial,by trivial,trivial,by (intros;omega),trivial⟩ ?_
    refine rg ⟨⟨by (intros;omega),by trivial,by (intros;omega),by (have h9:=bitsLen_r x0.l.length (by omega);((try clear hR);intros;(try simp only [w1,w2,w3,w4,w5,w6,swp_len,inR,IntKind.bits] at *));omega)⟩,trivial⟩ ?_
    exact congrArg (C82E x0 x1) hR
  exact FnM.go 23 Try.func82 (by kernel_rfl) (by kernel_rfl) (A82E x0 x1) (by kernel_rfl) (aux _ rfl)
def k82E (d:Nat) (ids:List Nat) (x0:SrtE) (x1:Unit):Cl:=(hresM d ids (C82E x0 x1 (sliceE x0 x1)),k3 (ok_sort_Slice_E x0 x1))
structure SrtZ where
  c0:Family
  l:List Int
  deriving Inhabited

def C158Z (x0:SrtZ) (x1:Int) (x2:Int) (R:(List Int)):LV×List (Nat×BC):=(.tup [],[(900000,.arr 1 R.length (rowOf (cInt .i64) R)),(900001,.var [.ro false 6 x0.c0.people.length (rowOf (cPerson false) x0.c0.people),.ro false 4 x0.c0.unions.length (rowOf (cUnion false) x0.c0.unions)]),(900002,.var [.own 900000])])
def insSortZ (x0:SrtZ) (x1:Int) (x2:Int):(List Int):=loopW (fun (v1:Int) next=>x0.l) (0+1) (x1+1)
def D158Zb1 (x0:SrtZ) (x1:Int) (x2:Int) (v1:Int):Dl:=⟨[(6,.int .i64 v1)],[]⟩
def A158Zb1 (x0:SrtZ) (x1:Int) (x2:Int) (v1:Int):Ann:=r0 1 [1,2,3,6,12] [3,900000,900001,900002] (cn (decide (v1<x2)) (.next 99 [] ⟨[],[]⟩) (rt [(900000,some 900000),(900001,some 900001),(900002,some 900002)] (C158Z x0 x1 x2 x0.l)))
def A158Z (x0:SrtZ) (x1:Int) (x2:Int):Ann:=r1 2 [1,2,3,6] [3,900000,900001,900002] [pf (inR .i64 (x1+1))] [0] (.loop Int (D158Zb1 x0 x1 x2) [] [] [] (D158Zb1 x0 x1 x2 (x1+1)) (A158Zb1 x0 x1 x2))
theorem ok_sort_insertionSort_func_Z (x0 : SrtZ) (x1 : Int) (x2 : Int) (hx : x0.l.length ≤ 1) (hab : x1 = 0 ∧ x2 = x0.l.length) : FnMT Try.prog 158 [.agg [.clo 131 [.vp 900001 0, .vp 900002 0], .fv], .int .i64 x1, .int .i64 x2] [.arr 1 x0.l.length (rowOf (cInt .i64) x0.l), .var [.ro false 6 x0.c0.people.length (rowOf (cPerson false) x0.c0.people), .ro false 4 x0.c0.unions.length (rowOf (cUnion false) x0.c0.unions)], .var [.own 900000]] (C158Z x0 x1 x2 (insSortZ x0 x1 x2)) := by
  have aux : ∀ R, insSortZ x0 x1 x2 = R → slim (C158Z x0 x1 x2 R) (A158Z x0 x1 x2) [] := by
    intro R hR
    refine rg ⟨by ( intros;simp only [inR];omega),trivial⟩ ?_
    revert hR;refine lW (fun v=>x1+1≤v) (fun v=>0) (by (intros;omega)) (Nat.lt_succ_self _) rfl fun m1 v1 F1 hI1 hM1 hR hK1=>?_
    refine rg trivial ?_
    refine ⟨fun hq=>absurd hq (by simp only [decide_eq_true_eq,decide_eq_false_iff_not,Bool.not_eq_true,Bool.not_eq_false];omega),fun hc1=>?_⟩
    exact congrArg (C158Z x0 x1 x2) hR
  exact FnM.go 35 Try.func158 (by kernel_rfl) (by kernel_rfl) (A158Z x0 x1 x2) (by kernel_rfl) (aux _ rfl)
def k158Z (d:Nat) (ids:List Nat) (x0:SrtZ) (x1:Int) (x2:Int):Cl:=(hresM d ids (C158Z x0 x1 x2 (insSortZ x0 x1 x2)),k2 (ok_sort_insertionSort_func_Z x0 x1 x2))
def C128Z (x0:SrtZ) (x1:Int) (x2:Int) (x3:Int) (R:(List Int)):LV×List (Nat×BC):=(.tup [],[(900000,.arr 1 R.length (rowOf (cInt .i64) R)),(900001,.var [.ro false 6 x0.c0.people.length (rowOf (cPerson false) x0.c0.people),.ro false 4 x0.c0.unions.length (rowOf (cUnion false) x0.c0.unions)]),(900002,.var [.own 900000])])
def pdqZ (x0:SrtZ) (x1:Int) (x2:Int) (x3:Int):(List Int):=loopW (fun (v1:Int×Int×Int×Bool×Bool) next=>insSortZ x0 v1.1 v1.2.1) (0+1) (x1,x2,x3,true,true)
def D128Zb1 (x0:SrtZ) (x1:Int) (x2:Int) (x3:Int) (v1:Int×Int×Int×Bool×Bool):Dl:=⟨[(1,.int .i64 v1.1),(2,.int .i64 v1.2.1),(3,.int .i64 v1.2.2.1),(8,.bool v1.2.2.2.1),(9,.bool v1.2.2.2.2)],[]⟩
def A128Zb1 (x0:SrtZ) (x1:Int) (x2:Int) (x3:Int) (v1:Int×Int×Int×Bool×Bool):Ann:=r1 1 [1,2,3,4,8,9,10] [4,900000,900001,900002] [pf (inR .i64 (v1.2.1 - v1.1))] [0] (r0 1 [1,2,3,4,8,9,10,23] [4,900000,900001,900002] (cn (decide ((v1.2.1 - v1.1)≤12)) (.reg 1 [] [(3,k158Z 27 [900000,900001,900002] x0 v1.1 v1.2.1)] [1,2,3,4,8,9,10] [4,900000,900001,900002] [] [] [] [0] (rt [(900000,some 900000),(900001,some 900001),(900002,some 900002)] (C128Z x0 x1 x2 x3 (insSortZ x0 v1.1 v1.2.1)))) (.next 99 [] ⟨[],[]⟩)))
def A128Z (x0:SrtZ) (x1:Int) (x2:Int) (x3:Int):Ann:=r0 3 [1,2,3,4,8,9] [4,900000,900001,900002] (.loop (Int×Int×Int×Bool×Bool) (D128Zb1 x0 x1 x2 x3) [] [] [] (D128Zb1 x0 x1 x2 x3 (x1,x2,x3,true,true)) (A128Zb1 x0 x1 x2 x3))
theorem ok_sort_pdqsort_func_Z (x0 : SrtZ) (x1 : Int) (x2 : Int) (x3 : Int) (hx : x0.l.length ≤ 1) (hab : x1 = 0 ∧ x2 = x0.l.length) : FnMT Try.prog 128 [.agg [.clo 131 [.vp 900001 0, .vp 900002 0], .fv], .int .i64 x1, .int .i64 x2, .int .i64 x3] [.arr 1 x0.l.length (rowOf (cInt .i64) x0.l), .var [.ro false 6 x0.c0.people.length (rowOf (cPerson false) x0.c0.people), .ro false 4 x0.c0.unions.length (rowOf (cUnion false) x0.c0.unions)], .var [.own 900000]] (C128Z x0 x1 x2 x3 (pdqZ x0 x1 x2 x3)) := by
  have aux : ∀ R, pdqZ x0 x1 x2 x3 = R → slim (C128Z x0 x1 x2 x3 R) (A128Z x0 x1 x2 x3) [] := by
    intro R hR
    refine rg trivial ?_
    revert hR;refine lW (fun v=>v.1=x1∧v.2.1=x2) (fun v=>0) (by trivial) (Nat.lt_succ_self _) rfl fun m1 v1 F1 hI1 hM1 hR hK1=>?_
    refine rg ⟨by ( intros;simp only [inR];omega),trivial⟩ ?_
    refine rg trivial ?_
    refine ⟨fun hc1=>?_,fun hq=>absurd hq (by simp only [decide_eq_true_eq,decide_eq_false_iff_not,Bool.not_eq_true,Bool.not_eq_false];omega)⟩
    refine rg ⟨⟨by trivial,by (intros;omega)⟩,trivial⟩ ?_
    exact congrArg (C128Z x0 x1 x2 x3) hR
  exact FnM.go 130 Try.func128 (by kernel_rfl) (by kernel_rfl) (A128Z x0 x1 x2 x3) (by kernel_rfl) (aux _ rfl)
def k128Z (d:Nat) (ids:List Nat) (x0:SrtZ) (x1:Int) (x2:Int) (x3:Int):Cl:=(hresM d ids (C128Z x0 x1 x2 x3 (pdqZ x0 x1 x2 x3)),k2 (ok_sort_pdqsort_func_Z x0 x1 x2 x3))
noncomputable def kvoZ (d:Nat) (ids:List Nat) (l:List Int):Cl:=(.resM d ids [(900000,.arr 1 l.length (rowOf (cInt .i64) l)),(0,.var [.own 900000])] (.agg [.k Try.prog.globals.size 35,.vp 0 0,.int .u64 151]),k0 (P:=FnX Try.prog 124 [.ifc 35 (.own 900000)] [.arr 1 l.length (rowOf (cInt .i64) l)] (.agg [.k Try.prog.globals.size 35,.vp 0 0,.int .u64 151]) [(900000,.arr 1 l.length (rowOf (cInt .i64) l)),(0,.var [.own 900000])]) (FnX.valueOf (t:=35) (e:=3) (ti:=Try.t35) Try.func124 (by kernel_rfl) (by kernel_rfl) (by kernel_rfl) (by rfl) (by kernel_rfl) (by kernel_rfl)))
noncomputable def klnZ (d:Nat) (ids:List Nat) (l:List Int):Cl:=(.resM d ids (enumB [.arr 1 l.length (rowOf (cInt .i64) l),.var [.own 900000]] 900000) (.int .i64 l.length),k0 (P:=FnX Try.prog 126 [.agg [.k Try.prog.globals.size 35,.vp 900001 0,.int .u64 151]] [.arr 1 l.length (rowOf (cInt .i64) l),.var [.own 900000]] (.int .i64 l.length) (enumB [.arr 1 l.length (rowOf (cInt .i64) l),.var [.own 900000]] 900000)) (FnX.valLen (t:=35) (e:=3) (ti:=Try.t35) Try.func126 (by kernel_rfl) (by kernel_rfl) (by kernel_rfl) (by rfl) (by kernel_rfl) (by kernel_rfl) (by kernel_rfl) (by kernel_rfl)))
noncomputable def kspZ (d:Nat) (ids:List Nat) (l:List Int):Cl:=(.resM d ids (enumB [.arr 1 l.length (rowOf (cInt .i64) l)] 900000) .fv,k1 (P:=FnX Try.prog 125 [.ifc 35 (.own 900000)] [.arr 1 l.length (rowOf (cInt .i64) l)] .fv (enumB [.arr 1 l.length (rowOf (cInt .i64) l)] 900000)) fun hn=>FnX.swapper0 (t:=35) (e:=3) (ti:=Try.t35) (ie:=Try.t3) (ke:=2) (g0:=147) (g1:=148) hn Try.func125 (by kernel_rfl) (by kernel_rfl) (by kernel_rfl) (by rfl) (by kernel_rfl) (by kernel_rfl) (by kernel_rfl) (fun w=>by kernel_rfl) (by kernel_rfl) (by kernel_rfl))

def C82Z (x0:SrtZ) (x1:Unit) (R:(List Int)):LV×List (Nat×BC):=(.tup [],[(900000,.arr 1 R.length (rowOf (cInt .i64) R)),(900001,.var [.ro false 6 x0.c0.people.length (rowOf (cPerson false) x0.c0.people),.ro false 4 x0.c0.unions.length (rowOf (cUnion false) x0.c0.unions)]),(900002,.var [.own 900000])])
def sliceZ (x0:SrtZ) (x1:Unit):(List Int):=pdqZ x0 0 (x0.l.length:Int) (bitsLen (x0.l.length:Int))
noncomputable def A82Z (x0:SrtZ) (x1:Unit):Ann:=.reg 4 [] [(1,kvoZ 9 [900000] x0.l),(1001,kspZ 11 [900000] x0.l),(2001,klnZ 13 [900000,1009] x0.l),(3002,k127 (x0.l.length:Int))] [1,5,6,7] [900000,900001,900002] [] [pf (inR .u64 (x0.l.length:Int))] [] [4,8,12,0,16] (.reg 1 [] [(5,k128Z 22 [900000,900001,900002] x0 0 (x0.l.length:Int) (bitsLen (x0.l.length:Int)))] [] [900000,900001,900002] [] [] [] [0] (rt [(900000,some 900000),(900001,some 900001),(900002,some 900002)] (C82Z x0 x1 (pdqZ x0 0 (x0.l.length:Int) (bitsLen (x0.l.length:Int))))))
theorem ok_sort_Slice_Z (x0 : SrtZ) (x1 : Unit) (hx : x0.l.length ≤ 1) : FnMT Try.prog 82 [.ifc 35 (.own 900000), .clo 131 [.vp 900001 0, .vp 900002 0]] [.arr 1 x0.l.length (rowOf (cInt .i64) x0.l), .var [.ro false 6 x0.c0.people.length (rowOf (cPerson false) x0.c0.people), .ro false 4 x0.c0.unions.length (rowOf (cUnion false) x0.c0.unions)], .var [.own 900000]] (C82Z x0 x1 (sliceZ x0 x1)) := by
  have aux : ∀ R, sliceZ x0 x1 = R → slim (C82Z x0 x1 R) (A82Z x0 x1) [] := by
    intro R hR
    refine rg ⟨by ( intros;simp only [inR];omega),trivial,by trivial,trivial,by (intros;omega),trivial⟩ ?_
    refine rg ⟨⟨by trivial,by trivial⟩,trivial⟩ ?_
    exact congrArg (C82Z x0 x1) hR
  exact FnM.go 23 Try.func82 (by kernel_rfl) (by kernel_rfl) (A82Z x0 x1) (by kernel_rfl) (aux _ rfl)
def k82Z (d:Nat) (ids:List Nat) (x0:SrtZ) (x1:Unit):Cl:=(hresM d ids (C82Z x0 x1 (sliceZ x0 x1)),k1 (ok_sort_Slice_Z x0 x1))
def C49 (R:Bool):LV×List (Nat×BC):=(.bool R,[])
def implParent (x0:Family) (x1:Int) (x2:Int):Bool:=(decide (((x0.people.getD x2.toNat default).father)=x1)) || (decide (((x0.people.getD x2.toNat default).mother)=x1))
def A49 (x0:Family) (x1:Int) (x2:Int):Ann:=.reg 2 [] [] [6] [] [!(decide (((x0.people.getD x2.toNat default).father)=x1)),decide (((x0.people.getD x2.toNat default).father)=x1)] [pf (0≤(x2:Int)∧(x2:Int)<((x0.people.length:Nat):Int)),gt (!(decide (((x0.people.getD x2.toNat default).father)=x1))) (pf (0≤(x2:Int)∧(x2:Int)<((x0.people.length:Nat):Int)))] [] [0,1,1,1,4,1,1,1,1,6] (rt [] (C49 ((decide (((x0.people.getD x2.toNat default).father)=x1)) || (decide (((x0.people.getD x2.toNat default).mother)=x1)))))
theorem ok_impl_isParent (x0 : Family) (x1 : Int) (x2 : Int) (h2 : 0 ≤ x2 ∧ x2 < x0.people.length) : FnT Try.prog 49 [.agg (cFamily false x0), .int .i64 x1, .int .i64 x2] (C49 (implParent x0 x1 x2)) := by
  have aux : ∀ R, implParent x0 x1 x2 = R → slim (C49 R) (A49 x0 x1 x2) [] := by
    intro R hR
    refine rg ⟨by trivial,by (intros;omega),trivial⟩ ?_
    exact congrArg C49 hR
  exact Fn.go 25 Try.func49 (by kernel_rfl) (by kernel_rfl) (by simp [C49,Frs,FrsL]) (A49 x0 x1 x2) (by kernel_rfl) (aux _ rfl)
def k49 (x0:Family) (x1:Int) (x2:Int):Cl:=(hres (C49 (implParent x0 x1 x2)),k1 (ok_impl_isParent x0 x1 x2))
def C88 (R:Bool):LV×List (Nat×BC):=(.bool R,[])
def kidP (x0:Int) (x1:Family) (x2:Int):Bool:=implParent x1 x2 x0
def A88 (x0:Int) (x1:Family) (x2:Int):Ann:=.reg 2 [] [(1003,k49 x1 x2 x0)] [4] [] [] [] [] [0] (rt [] (C88 (implParent x1 x2 x0)))
theorem ok_impl_childrenOf_1 (x0 : Int) (x1 : Family) (x2 : Int) (h0 : 0 ≤ x0 ∧ x0 < x1.people.length) : FnT Try.prog 88 [.int .i64 x0, .ep [.ro false 6 x1.people.length (rowOf (cPerson false) x1.people), .ro false 4 x1.unions.length (rowOf (cUnion false) x1.unions)] 0, .ep [.int .i64 x2] 0] (C88 (kidP x0 x1 x2)) := by
  have aux : ∀ R, kidP x0 x1 x2 = R → slim (C88 R) (A88 x0 x1 x2) [] := by
    intro R hR
    refine rg ⟨by trivial,trivial⟩ ?_
    exact congrArg C88 hR
  exact Fn.go 9 Try.func88 (by kernel_rfl) (by kernel_rfl) (by simp [C88,Frs,FrsL]) (A88 x0 x1 x2) (by kernel_rfl) (aux _ rfl)
def k88 (x0:Int) (x1:Family) (x2:Int):Cl:=(hres (C88 (kidP x0 x1 x2)),k1 (ok_impl_childrenOf_1 x0 x1 x2))
def C87 (R:(List Int)):LV×List (Nat×BC):=(.own 0,[(0,.arr 1 R.length (rowOf (cInt .i64) R))])
def implChosen (x0:Family) (x1:Family×Int):(List Int):=loopN (fun i1 (v1:(List Int)) next=>bif (kidP ((i1:Nat):Int) x1.1 x1.2) then (next (v1++[((i1:Nat):Int)])) else (next v1)) (fun (v1:(List Int))=>bif (decide (2≤v1.length)) then (sliceE (SrtE.mk x0 v1) ()) else (sliceZ (SrtZ.mk x0 v1) ())) x0.people.length 0 ([]:List Int)
def D87b1 (x0:Family) (x1:Family×Int) (i1:Nat) (v1:(List Int)):Dl:=⟨[(10,.int .i64 ((i1:Nat):Int))],[(30500,.arr 1 v1.length (rowOf (cInt .i64) v1)),(5,.var [.own 30500])]⟩
def A87b1 (x0:Family) (x1:Family×Int) (i1:Nat) (v1:(List Int)):Ann:=r0 1 [1,2,4,5,9,10,11] [2,5,30500] (cn (decide (((i1:Nat):Int)<((x0.people.length:Nat):Int))) (.reg 2 [] [(1002,k88 ((i1:Nat):Int) x1.1 x1.2)] [1,2,4,5,6,9,10,15] [2,5,30500] [] [] [] [0] (cn (kidP ((i1:Nat):Int) x1.1 x1.2) (.reg 1 [] [(2,bsC 18 (cInt .i64) ([((i1:Nat):Int)]:List Int)),(3,ap1 19 (cInt .i64) 8 v1 ((i1:Nat):Int))] [1,2,4,5,9,10] [2,5,19] [] [] [] [0,4] (r1 1 [1,2,4,5,9,10] [2,5,19] [pf (inR .i64 (((i1:Nat):Int)+1))] [0] (.next 0 [(30500,some 19)] (D87b1 x0 x1 (i1+1) (v1++[((i1:Nat):Int)]))))) (r1 1 [1,2,4,5,9,10] [2,5,30500] [pf (inR .i64 (((i1:Nat):Int)+1))] [0] (.next 0 [(30500,some 30500)] (D87b1 x0 x1 (i1+1) v1))))) (.split (decide (2≤v1.length)) (.reg 2 [] [(3,k82E 24 [30500,2,5] (SrtE.mk x0 v1) ())] [4] [30500] [] [] [] [0] (rt [(0,some 30500)] (C87 (sliceE (SrtE.mk x0 v1) ())))) (.reg 2 [] [(3,k82Z 24 [30500,2,5] (SrtZ.mk x0 v1) ())] [4] [30500] [] [] [] [0] (rt [(0,some 30500)] (C87 (sliceZ (SrtZ.mk x0 v1) ()))))))
def A87 (x0:Family) (x1:Family×Int):Ann:=r0 2 [1,2,4,5] [2,5] (r0 1 [1,2,4,5,9,10] [2,5] (lp (D87b1 x0 x1) [] [] [(30500,none)] (D87b1 x0 x1 0 ([]:List Int)) (A87b1 x0 x1)))
theorem ok_impl_chosen (x0 : Family) (x1 : Family × Int) (hf : x0.people.length ≤ 40) (he : x1.1 = x0) : FnT Try.prog 87 [.agg (cFamily false x0), .clo 88 [.ep [.ro false 6 x1.1.people.length (rowOf (cPerson false) x1.1.people), .ro false 4 x1.1.unions.length (rowOf (cUnion false) x1.1.unions)] 0, .ep [.int .i64 x1.2] 0]] (C87 (implChosen x0 x1)) := by
  have aux : ∀ R, implChosen x0 x1 = R → slim (C87 R) (A87 x0 x1) [] := by
    intro R hR
    refine rg trivial ?_
    refine rg trivial ?_
    revert hR;refine lN (fun i v=>OkL x0 v∧v.length≤i) (by (exact ⟨fun c hc=>absurd hc List.not_mem_nil,Nat.le_refl _⟩)) rfl fun i1 v1 F1 hn1 hI1 hR hK1=>?_
    refine rg trivial ?_
    refine ⟨fun hc1=>?_,fun hc1=>?_⟩
    · have hii1 : i1 < x0.people.length := by have := of_decide_eq_true hc1; omega
      replace hR:=loopN_step hR hii1
      refine rg ⟨by (rw [he];omega),trivial⟩ ?_
      revert hR;refine cd (fun hc2 hR=>?_) fun hc2 hR=>?_
      ·
        refine rg ⟨trivial,by omega,trivial⟩ ?_
        refine rg ⟨by ( intros;simp only [inR];omega),trivial⟩ ?_
        exact hK1 (v1++[((i1:Nat):Int)]) hii1 (by (exact ⟨fun c hc=>(by rcases List.mem_append.1 hc with hc | hc;exact hI1.1 c hc;have:=List.mem_singleton.1 hc;omega),by rw [List.length_append];simp;omega⟩)) hR
      ·
        refine rg ⟨by ( intros;simp only [inR];omega),trivial⟩ ?_
        exact hK1 v1 hii1 (by (exact ⟨hI1.1,by omega⟩)) hR
    · obtain rfl : i1 = x0.people.length := by have := of_decide_eq_false hc1; omega
      replace hR:=loopN_end hR (Nat.lt_irrefl _)
      revert hR;refine cd (fun hs3 hR=>?_) fun hs3 hR=>?_
      ·
        refine rg ⟨⟨by ( intros;simp only [inR];omega),by (exact hI1.1),by (simp only [decide_eq_true_eq,decide_eq_false_iff_not] at *;omega)⟩,trivial⟩ ?_
        exact congrArg C87 hR
      ·
        refine rg ⟨by (simp only [decide_eq_true_eq,decide_eq_false_iff_not] at *;omega),trivial⟩ ?_
        exact congrArg C87 hR
  exact Fn.go 26 Try.func87 (by kernel_rfl) (by kernel_rfl) (by simp [C87,Frs,FrsL,FrsB,rowOf,cInt,cBool,cStr,cSl,FrsL_app,cPerson,cUnion,cFamily,cDyad,cl01Cur]) (A87 x0 x1) (by kernel_rfl) (aux _ rfl)
def k87 (x0:Family) (x1:Family×Int):Cl:=(hres (C87 (implChosen x0 x1)),k2 (ok_impl_chosen x0 x1))
def C48 (R:(List Int)):LV×List (Nat×BC):=(.own 0,[(0,.arr 1 R.length (rowOf (cInt .i64) R))])
def implKids (x0:Family) (x1:Int):(List Int):=implChosen x0 (x0,x1)
def A48 (x0:Family) (x1:Int):Ann:=.reg 2 [] [(1002,k87 x0 (x0,x1))] [4] [1007] [] [] [] [0] (rt [(0,some 1007)] (C48 (implChosen x0 (x0,x1))))
theorem ok_impl_childrenOf (x0 : Family) (x1 : Int) (hf : x0.people.length ≤ 40) : FnT Try.prog 48 [.agg (cFamily false x0), .int .i64 x1] (C48 (implKids x0 x1)) := by
  have aux : ∀ R, implKids x0 x1 = R → slim (C48 R) (A48 x0 x1) [] := by
    intro R hR
    refine rg ⟨⟨by trivial,by trivial⟩,trivial⟩ ?_
    exact congrArg C48 hR
  exact Fn.go 8 Try.func48 (by kernel_rfl) (by kernel_rfl) (by simp [C48,Frs,FrsL,FrsB,rowOf,cInt,cBool,cStr,cSl,FrsL_app,cPerson,cUnion,cFamily,cDyad,cl01Cur]) (A48 x0 x1) (by kernel_rfl) (aux _ rfl)
def k48 (x0:Family) (x1:Int):Cl:=(hres (C48 (implKids x0 x1)),k1 (ok_impl_childrenOf x0 x1))
theorem elder_tot (f : Family) (x y : Int) (h1 : implElder f x y = false) (h2 : implElder f y x = false) : x = y := by
  simp only [implElder,Bool.or_eq_false_iff,Bool.and_eq_false_iff,decide_eq_false_iff_not] at *
  omega
def ByAge (f:Family) (l:List Int):Prop:=l.Pairwise fun x y=>implElder f y x=false
theorem byAge_unique {f : Family} {l m : List Int} (h1 : ByAge f l) (h2 : ByAge f m) (hp : l.Perm m) : l = m :=
  hp.eq_of_pairwise (fun a b _ _ k1 k2=>elder_tot f a b k2 k1) h1 h2
theorem slice_byAge (f : Family) (l : List Int) (h : l.length < 50) : ByAge f (bif decide (2 ≤ l.length) then (sliceE (SrtE.mk f l) ()) else (sliceZ (SrtZ.mk f l) ())) ∧ (bif decide (2 ≤ l.length) then (sliceE (SrtE.mk f l) ()) else (sliceZ (SrtZ.mk f l) ())).Perm l := by
  cases hc:decide (2≤l.length) with
  | true =>
    have hs:=pdqE_sorted ⟨f,l⟩ (bitsLen l.length) h
    have e:((SrtE.mk f l).l.length:Int)=((pdqE ⟨f,l⟩ 0 (SrtE.mk f l).l.length (bitsLen l.length)).length:Int):=by rw [hs.2.length_eq]
    have key:∀ (r:List Int) (n:Int),n=(r.length:Int)→Srt (implElder f) 0 n r→ByAge f r:=fun r n e h=>by subst e;exact Srt.pairwise h
    exact ⟨key _ _ e hs.1,hs.2⟩
  | false =>
    have hc:=of_decide_eq_false hc
    have e:sliceZ (SrtZ.mk f l) ()=l:=rfl
    refine ⟨?_,by rw [cond_false,e]⟩
    rw [cond_false,e]
    match l,hc with
    | [],_=>exact List.Pairwise.nil
    | [x],_=>exact List.pairwise_singleton _ _
    | _ :: _ :: _,hc=>exact absurd (by simp) hc
def isKid (f:Family) (p:Int) (c:Nat):Bool:=(decide ((f.people.getD c default).father=p)) || (decide ((f.people.getD c default).mother=p))
def kidList (f:Family) (p:Int) (n:Nat):List Int:=((List.range n).filter (isKid f p)).map fun (c:Nat)=>(c:Int)
theorem kidList_succ (f : Family) (p : Int) (n : Nat) : kidList f p (n + 1) = kidList f p n ++ (if isKid f p n then [(n : Int)] else []) := by
  unfold kidList
  rw [List.range_succ,List.filter_append,List.map_append]
  congr 1
  cases h:isKid f p n <;> simp [h]
theorem kidList_mem {f : Family} {p y : Int} {n : Nat} (h : y ∈ kidList f p n) : 0 ≤ y ∧ y < n := by
  unfold kidList at h
  obtain ⟨c,h1,h2⟩:=List.mem_map.1 h
  have:=List.mem_range.1 (List.mem_filter.1 h1).1
  omega
theorem kidList_len (f : Family) (p : Int) (n : Nat) : (kidList f p n).length ≤ n := by
  unfold kidList
  rw [List.length_map]
  exact Nat.le_trans (List.length_filter_le _ _) (by simp)
theorem l1ByAge_split (f : Family) (l : List Int) (p : Int) : ∃ a b, l = a ++ b ∧ l1ByAge f l p = a ++ p :: b ∧ (∀ q ∈ a, implElder f p q = false) ∧ (b = [] ∨ ∃ c t, b = c :: t ∧ implElder f p c = true) := by
  unfold l1ByAge
  refine loopN_to (fun i (v:List Int×Bool)=>i≤l.length∧((v.2=false∧v.1=l.take i∧∀ q ∈ v.1,implElder f p q=false) ∨ (v.2=true∧∃ a c t,l.take i=a++c :: t∧v.1=a++p :: c :: t∧(∀ q ∈ a,implElder f p q=false)∧implElder f p c=true))) (fun (r:List Int)=>∃ a b,l=a++b∧r=a++p :: b∧(∀ q ∈ a,implElder f p q=false)∧(b=[] ∨ ∃ c t,b=c :: t∧implElder f p c=true)) ⟨Nat.zero_le _,.inl ⟨rfl,by simp,by simp⟩⟩ (fun i v next hi hv hn=>?_) (fun v hv=>?_)
  · have e : l.take (i + 1) = l.take i ++ [l.getD i default] := by
      rw [List.take_add_one,List.getD_eq_getElem?_getD,List.getElem?_eq_getElem hi];rfl
    obtain ⟨w,d⟩:=v
    obtain ⟨h1,h2⟩:=hv
    refine cond_both (p:=fun (r:List Int)=>∃ a b,l=a++b∧r=a++p :: b∧(∀ q ∈ a,implElder f p q=false)∧(b=[] ∨ ∃ c t,b=c :: t∧implElder f p c=true)) (fun c=>hn _ ⟨hi,?_⟩) (fun c=>hn _ ⟨hi,?_⟩)
    · simp only [Bool.and_eq_true, not_t_iff] at c
      rcases h2 with ⟨_,h3,h4⟩ | ⟨h3,_⟩
      · simp only at h3 h4
        refine .inr ⟨rfl,w,l.getD i default,[],by rw [e,h3],by simp,h4,c.2⟩
      · exact absurd h3 (by simp [c.1])
    · rcases h2 with ⟨h3, h4, h5⟩ | ⟨h3, a, x, t, h4, h5, h6, h7⟩
      · simp only at h3 h4 h5
        subst h3
        simp only [Bool.not_false,Bool.true_and] at c
        refine .inl ⟨rfl,by simp only [h4,e],fun q hq=>?_⟩
        rcases List.mem_append.1 hq with hq | hq
        · exact h5 q hq
        · rw [List.mem_singleton.1 hq];exact c
      · simp only at h3 h5
        refine .inr ⟨h3,a,x,t++[l.getD i default],by rw [e,h4];simp,by simp only [h5];simp,h6,h7⟩
  · have e : l.take l.length = l := List.take_length
    obtain ⟨w,d⟩:=v
    rw [e] at hv
    rcases hv.2 with ⟨h3,h4,h5⟩ | ⟨h3,a,x,t,h4,h5,h6,h7⟩
    · simp only at h3 h4 h5
      subst h3
      exact ⟨w,[],by simp [h4],by simp,h5,.inl rfl⟩
    · simp only at h3 h5
      subst h3
      exact ⟨a,x :: t,h4,h5,h6,.inr ⟨x,t,rfl,h7⟩⟩
theorem byAge_ins {f : Family} {l : List Int} (p : Int) (h : ByAge f l) : ByAge f (l1ByAge f l p) ∧ (l1ByAge f l p).Perm (l ++ [p]) := by
  have hR:=elder_swo f
  obtain ⟨a,b,h1,h2,h3,h4⟩:=l1ByAge_split f l p
  rw [h2,h1]
  unfold ByAge at h ⊢
  rw [h1,List.pairwise_append] at h
  refine ⟨List.pairwise_append.2 ⟨h.1,List.pairwise_cons.2 ⟨fun y hy=>?_,h.2.1⟩,fun x hx y hy=>?_⟩,?_⟩
  · rcases h4 with h4 | ⟨c, t, h4, h5⟩
    · rw [h4] at hy;cases hy
    · rw [h4] at hy h
      have h6:=(List.pairwise_cons.1 h.2.1).1
      rcases List.mem_cons.1 hy with hy | hy
      · rw [hy];exact hR.asym _ _ h5
      · exact hR.ntr _ _ _ (h6 y hy) (hR.asym _ _ h5)
  · rcases List.mem_cons.1 hy with hy | hy
    · rw [hy];exact h3 x hx
    · exact h.2.2 x hx y hy
  · rw [List.append_assoc]
    exact List.Perm.append_left a (List.perm_append_singleton p b).symm
theorem l1Children_age (f : Family) (p : Int) : ByAge f (l1Children f p) ∧ (l1Children f p).Perm (kidList f p f.people.length) := by
  unfold l1Children
  refine loopN_to (fun i (v:List Int)=>ByAge f v∧v.Perm (kidList f p i)) (fun (r:List Int)=>ByAge f r∧r.Perm (kidList f p f.people.length)) ⟨List.Pairwise.nil,.refl _⟩ (fun i v next hi hv hn=>?_) (fun v hv=>hv)
  refine cond_both (p:=fun (r:List Int)=>ByAge f r∧r.Perm (kidList f p f.people.length)) (fun c=>hn _ ?_) (fun c=>hn _ ?_)
  · have h := byAge_ins (i : Int) hv.1
    refine ⟨h.1,?_⟩
    rw [kidList_succ,if_pos (show isKid f p i=true from c)]
    exact h.2.trans (hv.2.append_right _)
  · refine ⟨hv.1, ?_⟩
    rw [kidList_succ,if_neg (by rw [show isKid f p i=false from c];simp),List.append_nil]
    exact hv.2
theorem implKids_age (f : Family) (p : Int) (hf : f.people.length ≤ 40) : ByAge f (implKids f p) ∧ (implKids f p).Perm (kidList f p f.people.length) := by
  unfold implKids implChosen
  refine loopN_to (fun i (v:List Int)=>v=kidList f p i) (fun (r:List Int)=>ByAge f r∧r.Perm (kidList f p f.people.length)) rfl (fun i v next hi hv hn=>?_) (fun v hv=>?_)
  · refine cond_both (p := fun (r : List Int) => ByAge f r ∧ r.Perm (kidList f p f.people.length)) (fun c => hn _ ?_) (fun c => hn _ ?_)
    · rw [hv,kidList_succ,if_pos (show isKid f p i=true from c)]
    · rw [hv,kidList_succ,if_neg (by rw [show isKid f p i=false from c];simp),List.append_nil]
  · have h := slice_byAge f v (by rw [hv]; have := kidList_len f p f.people.length; omega)
    rw [hv] at h
    revert h
    subst hv
    exact fun h=>h
theorem implKids_eq (f : Family) (p : Int) (hf : f.people.length ≤ 40) : implKids f p = l1Children f p := by
  have h1:=implKids_age f p hf
  have h2:=l1Children_age f p
  exact byAge_unique h1.1 h2.1 (h1.2.trans h2.2.symm)
theorem l1Children_okl (f : Family) (p : Int) : (∀ c ∈ l1Children f p, 0 ≤ c ∧ c < f.people.length) ∧ (l1Children f p).length ≤ f.people.length :=
  ⟨fun c hc=>kidList_mem ((l1Children_age f p).2.mem_iff.1 hc),l1Children_len f p⟩
theorem implKids_ok (f : Family) (p : Int) (hf : f.people.length ≤ 40) : (∀ c ∈ implKids f p, 0 ≤ c ∧ c < f.people.length) ∧ (implKids f p).length ≤ f.people.length := by
  rw [implKids_eq f p hf];exact l1Children_okl f p
end Go.Proofs.Ytikfeeaapenplab
