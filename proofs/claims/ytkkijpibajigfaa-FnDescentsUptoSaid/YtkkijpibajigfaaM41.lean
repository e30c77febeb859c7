import Derived.Test.YtkkijpibajigfaaM9
set_option maxHeartbeats 4000000
set_option linter.unusedSimpArgs false
set_option linter.unusedVariables false
namespace Go.Proofs.Ytkkijpibajigfaa
open Go Go.Lite Go.Proofs
def specDescendants (x0:Family) (x1:Int):(List Int):=bif (!(l1Has x0 x1)) then ([]:List Int) else (loopN (fun i1 (v1:(List Int)) next=>bif (decide (0<((l8Up x0 ((i1:Nat):Int)).getD x1.toNat default))) then (next (v1++[((i1:Nat):Int)])) else (next v1)) (fun (v1:(List Int))=>v1) x0.people.length 0 ([]:List Int))
def C79 (R:Bool):LV×List (Nat×BC):=(.bool R,[])
def isAncestor (x0:Family) (x1:Int) (x2:Int):Bool:=decide (0<((stepsUp x0 x2).getD x1.toNat default))
def A79 (x0:Family) (x1:Int) (x2:Int):Ann:=.reg 2 [] [(1002,k78 x0 x2)] [6] [] [] [pf (0≤(x1:Int)∧(x1:Int)<(((stepsUp x0 x2).length:Nat):Int))] [] [4,0] (rt [] (C79 (decide (0<((stepsUp x0 x2).getD x1.toNat default)))))
theorem ok_impl_isAncestor (x0:Family) (x1:Int) (x2:Int) (hx:x0.people.length≤1048576) (hi:0≤x1∧x1<x0.people.length) (hj:0≤x2∧x2<x0.people.length) (hp:∀ (k:Nat),k<x0.people.length→(x0.people.getD k default).father<k∧(x0.people.getD k default).mother<k):FnT Try.prog 79 [.agg (cFamily false x0),.int .i64 x1,.int .i64 x2] (C79 (isAncestor x0 x1 x2)):=by
 have aux:∀ R,isAncestor x0 x1 x2=R→slim (C79 R) (A79 x0 x1 x2) []:=by
  intro R hR
  refine rg ⟨by (have:=stepsUp_len x0 x2 hp hj;omega),⟨by trivial,by trivial,by trivial⟩,trivial⟩ ?_
  exact congrArg C79 hR
 exact Fn.go 14 Try.func79 (by kernel_rfl) (by kernel_rfl) (by simp [C79,Frs,FrsL]) (A79 x0 x1 x2) (by kernel_rfl) (aux _ rfl)
def k79 (x0:Family) (x1:Int) (x2:Int):Cl:=(hres (C79 (isAncestor x0 x1 x2)),k4 (ok_impl_isAncestor x0 x1 x2))
def C37 (R:(List Int)):LV×List (Nat×BC):=(.own 0,[(0,.arr 1 R.length (rowOf (cInt .i64) R))])
def implAncestors (x0:Family) (x1:Int):(List Int):=bif (!(implHas x0 [x1])) then ([]:List Int) else (loopN (fun i1 (v1:(List Int)) next=>bif (decide (0<((stepsUp x0 x1).getD i1 default))) then (next (v1++[((i1:Nat):Int)])) else (next v1)) (fun (v1:(List Int))=>v1) ((stepsUp x0 x1).length) 0 ([]:List Int))
def D37b1 (x0:Family) (x1:Int) (i1:Nat) (v1:(List Int)):Dl:=⟨[(17,.int .i64 ((i1:Nat):Int)),(5,.own 20005)],[(20005,.arr 1 v1.length (rowOf (cInt .i64) v1))]⟩
def A37b1 (x0:Family) (x1:Int) (i1:Nat) (v1:(List Int)):Ann:=r0 1 [4,5,15,16,17,18] [1015,20005] (cn (decide (((i1:Nat):Int)<(((stepsUp x0 x1).length:Nat):Int))) (r1 2 [4,5,6,15,16,17,23] [1015,20005] [pf (0≤(((i1:Nat):Int):Int)∧(((i1:Nat):Int):Int)<(((stepsUp x0 x1).length:Nat):Int))] [0] (cn (decide (0<((stepsUp x0 x1).getD i1 default))) (.reg 1 [] [(2,bsC 26 (cInt .i64) ([((i1:Nat):Int)]:List Int)),(3,ap1 27 (cInt .i64) 8 v1 ((i1:Nat):Int))] [4,5,15,16,17] [27,1015] [] [] [] [0,4] (r1 1 [4,5,15,16,17] [27,1015] [pf (inR .i64 (((i1:Nat):Int)+1))] [0] (.next 0 [(20005,some 27)] (D37b1 x0 x1 (i1+1) (v1++[((i1:Nat):Int)]))))) (r1 1 [4,5,15,16,17] [1015,20005] [pf (inR .i64 (((i1:Nat):Int)+1))] [0] (.next 0 [(20005,some 20005)] (D37b1 x0 x1 (i1+1) v1))))) (r0 1 [4] [20005] (rt [(0,some 20005)] (C37 v1))))
def A37 (x0:Family) (x1:Int):Ann:=r0 1 [1,2,4] [2] (.reg 1 [] [(2,bsC 10 (cInt .i64) ([x1]:List Int)),(3,k59 x0 [x1])] [1,2,4,12] [2] [] [] [] [0,4] (cn (!(implHas x0 [x1])) (r0 1 [1,2,4] [2] (rt [(0,none)] (C37 ([]:List Int)))) (r0 1 [1,2,4,5] [2] (.reg 1 [] [(2,k78 x0 x1)] [4,5,15,16,17] [1015] [] [] [] [0] (lp (D37b1 x0 x1) [] [] [(20005,none)] (D37b1 x0 x1 0 ([]:List Int)) (A37b1 x0 x1))))))
theorem ok_impl_AncestorsOf (x0:Family) (x1:Int) (hx:x0.people.length≤1048576) (hu:x0.unions.length≤1048576) (hn:∀ p ∈ x0.people,p.name.length≤1048576):FnT Try.prog 37 [.agg (cFamily false x0),.int .i64 x1] (C37 (implAncestors x0 x1)):=by
 have aux:∀ R,implAncestors x0 x1=R→slim (C37 R) (A37 x0 x1) []:=by
  intro R hR
  refine rg trivial ?_
  refine rg ⟨trivial,⟨by trivial,by trivial,by trivial,by ((try clear hR);intros;(try simp only [decide_eq_true_eq,decide_eq_false_iff_not,Bool.or_eq_true,Bool.and_eq_true,or_f_iff,not_f_iff,not_t_iff,Bool.not_eq_true',inR] at *);(repeat' apply And.intro) <;> (simp_all [inR];done))⟩,trivial⟩ ?_
  revert hR;refine cd (fun hc1 hR=>?_) fun hc1 hR=>?_
  ·
    refine rg trivial ?_
    exact congrArg C37 hR
  ·
    refine rg trivial ?_
    refine rg ⟨⟨by trivial,by (have h9:=(implHas1 x0 x1).1 (by simpa using hc1);omega),by (have h9:=(implHas1 x0 x1).1 (by simpa using hc1);exact isFamily_par _ h9.1)⟩,trivial⟩ ?_
    revert hR;refine lN (fun i v=>v.length≤i) (by trivial) rfl fun i1 v1 F1 hn1 hI1 hR hK1=>?_
    refine rg trivial ?_
    refine ⟨fun hc2=>?_,fun hc2=>?_⟩
    · have hii1:i1<(stepsUp x0 x1).length:=by have:=of_decide_eq_true hc2;omega
      replace hR:=loopN_step hR hii1
      refine rg ⟨by (intros;omega),trivial⟩ ?_
      revert hR;refine cd (fun hc3 hR=>?_) fun hc3 hR=>?_
      ·
        refine rg ⟨trivial,by (have h8:=(implHas1 x0 x1).1 (by simpa using hc1);have h9:=stepsUp_len x0 x1 (isFamily_par _ h8.1) h8.2;omega),trivial⟩ ?_
        refine rg ⟨by ((try clear hR hK1);intros;(try simp only [decide_eq_true_eq,decide_eq_false_iff_not,Bool.or_eq_true,Bool.and_eq_true,or_f_iff,not_f_iff,not_t_iff,Bool.not_eq_true',inR] at *);(repeat' apply And.intro) <;> (first | (intros;omega) | (have h8:=(implHas1 x0 x1).1 (by simpa using hc1);have h9:=stepsUp_len x0 x1 (isFamily_par _ h8.1) h8.2;omega))),trivial⟩ ?_
        exact hK1 (v1++[((i1:Nat):Int)]) hii1 (by (simp;omega)) hR
      ·
        refine rg ⟨by ((try clear hR hK1);intros;(try simp only [decide_eq_true_eq,decide_eq_false_iff_not,Bool.or_eq_true,Bool.and_eq_true,or_f_iff,not_f_iff,not_t_iff,Bool.not_eq_true',inR] at *);(repeat' apply And.intro) <;> (first | (intros;omega) | (have h8:=(implHas1 x0 x1).1 (by simpa using hc1);have h9:=stepsUp_len x0 x1 (isFamily_par _ h8.1) h8.2;omega))),trivial⟩ ?_
        exact hK1 v1 hii1 (by (intros;omega)) hR
    · obtain rfl:i1=(stepsUp x0 x1).length:=by have:=of_decide_eq_false hc2;omega
      replace hR:=loopN_end hR (Nat.lt_irrefl _)
      refine rg trivial ?_
      exact congrArg C37 hR
 exact Fn.go 30 Try.func37 (by kernel_rfl) (by kernel_rfl) (by simp [C37,Frs,FrsL,FrsB,rowOf,cInt,cBool,cStr,cSl,FrsL_app,cPerson,cUnion,cFamily]) (A37 x0 x1) (by kernel_rfl) (aux _ rfl)
def k37 (x0:Family) (x1:Int):Cl:=(hres (C37 (implAncestors x0 x1)),k3 (ok_impl_AncestorsOf x0 x1))
def C38 (R:(List Int)):LV×List (Nat×BC):=(.own 0,[(0,.arr 1 R.length (rowOf (cInt .i64) R))])
def implDescendants (x0:Family) (x1:Int):(List Int):=bif (!(implHas x0 [x1])) then ([]:List Int) else (loopN (fun i1 (v1:(List Int)) next=>bif (isAncestor x0 x1 ((i1:Nat):Int)) then (next (v1++[((i1:Nat):Int)])) else (next v1)) (fun (v1:(List Int))=>v1) x0.people.length 0 ([]:List Int))
def D38b1 (x0:Family) (x1:Int) (i1:Nat) (v1:(List Int)):Dl:=⟨[(15,.int .i64 ((i1:Nat):Int)),(5,.own 20005)],[(20005,.arr 1 v1.length (rowOf (cInt .i64) v1))]⟩
def A38b1 (x0:Family) (x1:Int) (i1:Nat) (v1:(List Int)):Ann:=r0 1 [1,2,4,5,14,15,16] [2,20005] (cn (decide (((i1:Nat):Int)<((x0.people.length:Nat):Int))) (.reg 2 [] [(1003,k79 x0 x1 ((i1:Nat):Int))] [1,2,4,5,6,14,15,21] [2,20005] [] [] [] [0] (cn (isAncestor x0 x1 ((i1:Nat):Int)) (.reg 1 [] [(2,bsC 24 (cInt .i64) ([((i1:Nat):Int)]:List Int)),(3,ap1 25 (cInt .i64) 8 v1 ((i1:Nat):Int))] [1,2,4,5,14,15] [2,25] [] [] [] [0,4] (r1 1 [1,2,4,5,14,15] [2,25] [pf (inR .i64 (((i1:Nat):Int)+1))] [0] (.next 0 [(20005,some 25)] (D38b1 x0 x1 (i1+1) (v1++[((i1:Nat):Int)]))))) (r1 1 [1,2,4,5,14,15] [2,20005] [pf (inR .i64 (((i1:Nat):Int)+1))] [0] (.next 0 [(20005,some 20005)] (D38b1 x0 x1 (i1+1) v1))))) (r0 1 [4] [20005] (rt [(0,some 20005)] (C38 v1))))
def A38 (x0:Family) (x1:Int):Ann:=r0 1 [1,2,4] [2] (.reg 1 [] [(2,bsC 9 (cInt .i64) ([x1]:List Int)),(3,k59 x0 [x1])] [1,2,4,11] [2] [] [] [] [0,4] (cn (!(implHas x0 [x1])) (r0 1 [1,2,4] [2] (rt [(0,none)] (C38 ([]:List Int)))) (r0 1 [1,2,4,5] [2] (r0 1 [1,2,4,5,14,15] [2] (lp (D38b1 x0 x1) [] [] [(20005,none)] (D38b1 x0 x1 0 ([]:List Int)) (A38b1 x0 x1))))))
theorem ok_impl_DescendantsOf (x0:Family) (x1:Int) (hx:x0.people.length≤1048576) (hu:x0.unions.length≤1048576) (hn:∀ p ∈ x0.people,p.name.length≤1048576):FnT Try.prog 38 [.agg (cFamily false x0),.int .i64 x1] (C38 (implDescendants x0 x1)):=by
 have aux:∀ R,implDescendants x0 x1=R→slim (C38 R) (A38 x0 x1) []:=by
  intro R hR
  refine rg trivial ?_
  refine rg ⟨trivial,⟨by trivial,by trivial,by trivial,by ((try clear hR);intros;(try simp only [decide_eq_true_eq,decide_eq_false_iff_not,Bool.or_eq_true,Bool.and_eq_true,or_f_iff,not_f_iff,not_t_iff,Bool.not_eq_true',inR] at *);(repeat' apply And.intro) <;> (simp_all [inR];done))⟩,trivial⟩ ?_
  revert hR;refine cd (fun hc1 hR=>?_) fun hc1 hR=>?_
  ·
    refine rg trivial ?_
    exact congrArg C38 hR
  ·
    refine rg trivial ?_
    refine rg trivial ?_
    revert hR;refine lN (fun i v=>v.length≤i) (by trivial) rfl fun i1 v1 F1 hn1 hI1 hR hK1=>?_
    refine rg trivial ?_
    refine ⟨fun hc2=>?_,fun hc2=>?_⟩
    · have hii1:i1<x0.people.length:=by have:=of_decide_eq_true hc2;omega
      replace hR:=loopN_step hR hii1
      refine rg ⟨⟨by trivial,by (have h9:=(implHas1 x0 x1).1 (by simpa using hc1);omega),by (intros;omega),by (have h9:=(implHas1 x0 x1).1 (by simpa using hc1);exact isFamily_par _ h9.1)⟩,trivial⟩ ?_
      revert hR;refine cd (fun hc3 hR=>?_) fun hc3 hR=>?_
      ·
        refine rg ⟨trivial,by omega,trivial⟩ ?_
        refine rg ⟨by ( intros;simp only [inR];omega),trivial⟩ ?_
        exact hK1 (v1++[((i1:Nat):Int)]) hii1 (by (simp;omega)) hR
      ·
        refine rg ⟨by ( intros;simp only [inR];omega),trivial⟩ ?_
        exact hK1 v1 hii1 (by (intros;omega)) hR
    · obtain rfl:i1=x0.people.length:=by have:=of_decide_eq_false hc2;omega
      replace hR:=loopN_end hR (Nat.lt_irrefl _)
      refine rg trivial ?_
      exact congrArg C38 hR
 exact Fn.go 28 Try.func38 (by kernel_rfl) (by kernel_rfl) (by simp [C38,Frs,FrsL,FrsB,rowOf,cInt,cBool,cStr,cSl,FrsL_app,cPerson,cUnion,cFamily]) (A38 x0 x1) (by kernel_rfl) (aux _ rfl)
def k38 (x0:Family) (x1:Int):Cl:=(hres (C38 (implDescendants x0 x1)),k3 (ok_impl_DescendantsOf x0 x1))
theorem isAncestor_eq {x:Family} (hf:specIsFamily x=true) {q p:Int} (hp:0≤p∧p<x.people.length):isAncestor x q p=decide (0<(l8Up x p).getD q.toNat default):=by
 unfold isAncestor
 rw [stepsUp_eq x p (isFamily_par x hf) hp]
theorem has1_eq (x:Family) (p:Int):implHas x [p]=l1Has x p:=by
 rw [Bool.eq_iff_iff,implHas1,l1Has_iff];exact and_comm
theorem descendants_eq (x:Family) (p:Int):implDescendants x p=specDescendants x p:=by
 unfold implDescendants specDescendants
 rw [has1_eq]
 cases h:l1Has x p
 ·rfl
 ·have h:=(l1Has_iff x p).1 h
  simp only [Bool.not_true,cond_false]
  refine loopN_rel0 (fun i (v u:List Int)=>v=u) Eq rfl (fun i v u n1 n2 hi hv hn=>?_) (fun v u hv=>hv)
  subst hv
  rw [isAncestor_eq h.2 ⟨by omega,by omega⟩]
  cases decide (0<(l8Up x (i:Int)).getD p.toNat default)
  ·exact hn _ _ rfl
  ·exact hn _ _ rfl
theorem filterLoop_len {n:Nat} {p:Nat→Bool} {f:Nat→Int}:(loopN (fun i (v:List Int) next=>bif p i then next (v++[f i]) else next v) (fun v=>v) n 0 []).length≤n :=
 loopN_to (fun i (v:List Int)=>v.length≤i) (fun (r:List Int)=>r.length≤n) (by simp) (fun i v next hi hv hn=>cond_both (p:=fun (r:List Int)=>r.length≤n) (fun _=>hn _ (by simp;omega)) (fun _=>hn _ (by omega))) (fun v hv=>hv)
theorem specDescendants_len (x:Family) (p:Int):(specDescendants x p).length≤x.people.length:=by
 unfold specDescendants
 exact cond_both (p:=fun (r:List Int)=>r.length≤x.people.length) (fun _=>by simp) (fun _=>filterLoop_len)
theorem implDescendants_len (x:Family) (p:Int):(implDescendants x p).length≤x.people.length:=by rw [descendants_eq];exact specDescendants_len x p
def C142 (R:Family):LV×List (Nat×BC):=(.agg [.own 0,.own 1],[(0,.arr 6 R.people.length (rowOf (cPerson true) R.people)),(1,.arr 4 R.unions.length (rowOf (cUnion true) R.unions))])
def l1Copy (x0:Family):Family:=x0
def A142 (x0:Family):Ann:=.reg 5 [] [(2004,apN 9 (cPerson true) 56 x0.people),(3004,apN 15 (cUnion true) 32 x0.unions)] [2] [2,9,15] [] [] [] [0,4] (rt [(0,some 9),(1,some 15)] (C142 x0))
theorem ok_spec_l1Copy (x0:Family) (hx:x0.people.length≤1048576) (hu:x0.unions.length≤1048576):FnT Try.prog 142 [.agg (cFamily false x0)] (C142 (l1Copy x0)):=by
 have aux:∀ R,l1Copy x0=R→slim (C142 R) (A142 x0) []:=by
  intro R hR
  refine rg ⟨by omega,by omega,trivial⟩ ?_
  exact congrArg C142 hR
 exact Fn.go 18 Try.func142 (by kernel_rfl) (by kernel_rfl) (by simp [C142,Frs,FrsL,FrsB,rowOf,cInt,cBool,cStr,cSl,FrsL_app,cPerson,cUnion,cFamily]) (A142 x0) (by kernel_rfl) (aux _ rfl)
def k142 (x0:Family):Cl:=(hres (C142 (l1Copy x0)),k2 (ok_spec_l1Copy x0))
structure l01Cur where
 b:List Int
 i:Int
 h:Int
 deriving Inhabited
def cl01Cur (fr:Bool) (x:l01Cur):List LV:=cSl fr 1 (cInt .u8) x.b++cInt .i64 x.i++cInt .i64 x.h

structure CurOk (c:l01Cur):Prop where
 byte:∀ y ∈ c.b,0≤y∧y≤255
 len:c.b.length≤1048576
 pos:0≤c.i∧c.i≤c.b.length
 num:inR .i64 c.h
theorem CurOk.mk' {c:l01Cur} (h:CurOk c) {i x:Int} (hi:0≤i∧i≤c.b.length) (hx:inR .i64 x):CurOk ⟨c.b,i,x⟩:=⟨h.byte,h.len,hi,hx⟩
def C58 (x0:List Int) (R:l01Cur):LV×List (Nat×BC):=(.vp 0 0,[(0,.var [.ro false 1 R.b.length (rowOf (cInt .u8) R.b),.int .i64 R.i,.int .i64 R.h])])
def l01New (x0:List Int):l01Cur:=loopW (fun (v1:Int×Int) next=>bif ((decide (v1.2<((x0.length:Nat):Int))) && (decide (v1.2<4000))) then (next (bits .and .i64 (((v1.1 * 1103)+(x0.getD v1.2.toNat default))+7) 1073741823,v1.2+1)) else (l01Cur.mk x0 0 v1.1)) ((4000 - Int.toNat (0))+1) (3221+((x0.length:Nat):Int),0)
def D58b1 (x0:List Int) (v1:Int×Int):Dl:=⟨[(3,.int .i64 v1.1),(4,.int .i64 v1.2)],[]⟩
def A58b1 (x0:List Int) (v1:Int×Int):Ann:=.reg 1 [] [] [0,2,3,4,15] [] [decide (v1.2<((x0.length:Nat):Int))] [] [] [1,1] (cn ((decide (v1.2<((x0.length:Nat):Int))) && (decide (v1.2<4000))) (r1 1 [0,2,3,4] [] [pf (inR .i64 (v1.1 * 1103)),pf (0≤(v1.2:Int)∧(v1.2:Int)<((x0.length:Nat):Int)),pf (inR .i64 (x0.getD v1.2.toNat default)),pf (inR .i64 ((v1.1 * 1103)+(x0.getD v1.2.toNat default))),pf (inR .i64 (((v1.1 * 1103)+(x0.getD v1.2.toNat default))+7))] [0,4,8,12,16] (r1 1 [0,2,3,4] [] [pf (inR .i64 (v1.2+1))] [0] (.next 0 [] (D58b1 x0 (bits .and .i64 (((v1.1 * 1103)+(x0.getD v1.2.toNat default))+7) 1073741823,v1.2+1))))) (r0 1 [2] [31] (rt [(0,some 31)] (C58 x0 (l01Cur.mk x0 0 v1.1)))))
def A58 (x0:List Int):Ann:=r1 2 [0,2,3] [] [pf (inR .i64 (3221+((x0.length:Nat):Int)))] [0] (r0 1 [0,2,3,4] [] (.loop (Int×Int) (D58b1 x0) [] [] [] (D58b1 x0 (3221+((x0.length:Nat):Int),0)) (A58b1 x0)))
theorem ok_spec_l01New (x0:List Int) (hx:x0.length≤1048576) (hb:∀ y ∈ x0,0≤y∧y≤255):FnMT Try.prog 58 [.ro false 1 x0.length (rowOf (cInt .u8) x0)] [] (C58 x0 (l01New x0)):=by
 have aux:∀ R,l01New x0=R→slim (C58 x0 R) (A58 x0) []:=by
  intro R hR
  refine rg ⟨by ( intros;simp only [inR];omega),trivial⟩ ?_
  refine rg trivial ?_
  revert hR;refine lW (fun v=>(0≤v.2∧v.2≤x0.length∧v.2≤4000)∧0≤v.1∧v.1≤1073741823) (fun v=>(4000 - Int.toNat (v.2))) (by (intros;omega)) (Nat.lt_succ_self _) rfl fun m1 v1 F1 hI1 hM1 hR hK1=>?_
  refine rg trivial ?_
  revert hR;refine cd (fun hc1 hR=>?_) fun hc1 hR=>?_
  ·
    refine rg ⟨by ( intros;simp only [inR];omega),by (have h9:=and_small (((v1.1 * 1103)+(x0.getD v1.2.toNat default))+7) 1073741823 1073741823 rfl (by omega);simp only [Bool.and_eq_true,decide_eq_true_eq] at *;omega),by (have h9:=getD_byte hb v1.2.toNat;(try simp only [inR]);omega),by (have h9:=getD_byte hb v1.2.toNat;(try simp only [inR]);omega),by (have h9:=getD_byte hb v1.2.toNat;(try simp only [inR]);omega),trivial⟩ ?_
    refine rg ⟨by ( intros;simp only [inR];omega),trivial⟩ ?_
    exact hK1 (bits .and .i64 (((v1.1 * 1103)+(x0.getD v1.2.toNat default))+7) 1073741823,v1.2+1) (by (have h9:=and_small (((v1.1 * 1103)+(x0.getD v1.2.toNat default))+7) 1073741823 1073741823 rfl (by omega);simp only [Bool.and_eq_true,decide_eq_true_eq] at *;omega)) (by (have h9:=and_small (((v1.1 * 1103)+(x0.getD v1.2.toNat default))+7) 1073741823 1073741823 rfl (by omega);simp only [Bool.and_eq_true,decide_eq_true_eq] at *;omega)) hR
  ·
    refine rg trivial ?_
    exact congrArg (C58 x0) hR
 exact FnM.go 32 Try.func58 (by kernel_rfl) (by kernel_rfl) (A58 x0) (by kernel_rfl) (aux _ rfl)
def k58 (d:Nat) (ids:List Nat) (x0:List Int):Cl:=(hresM d ids (C58 x0 (l01New x0)),k2 (ok_spec_l01New x0))
def C140 (x0:l01Cur) (R:Int×Int×Int):LV×List (Nat×BC):=(.int .i64 R.1,[(900000,.var [.ro false 1 x0.b.length (rowOf (cInt .u8) x0.b),.int .i64 R.2.1,.int .i64 R.2.2])])
def l01Byte (x0:l01Cur):Int×Int×Int:=bif (decide (x0.i<((x0.b.length:Nat):Int))) then (bits .and .i64 ((bits .and .i64 (bits .xor .i64 ((IntKind.wrap .i64 ((IntKind.wrap .i64 (x0.h * 6364136223846793005))+1442695040888963407)) / 2 ^ 33) ((IntKind.wrap .i64 ((IntKind.wrap .i64 (x0.h * 6364136223846793005))+1442695040888963407)) / 2 ^ 45)) 255)+(IntKind.wrap .i64 (x0.b.getD x0.i.toNat default))) 255,x0.i+1,IntKind.wrap .i64 ((IntKind.wrap .i64 (x0.h * 6364136223846793005))+1442695040888963407)) else (bits .and .i64 (bits .xor .i64 ((IntKind.wrap .i64 ((IntKind.wrap .i64 (x0.h * 6364136223846793005))+1442695040888963407)) / 2 ^ 33) ((IntKind.wrap .i64 ((IntKind.wrap .i64 (x0.h * 6364136223846793005))+1442695040888963407)) / 2 ^ 45)) 255,x0.i,IntKind.wrap .i64 ((IntKind.wrap .i64 (x0.h * 6364136223846793005))+1442695040888963407))
def A140 (x0:l01Cur):Ann:=.reg 3 [(1005,.wrap),(1006,.wrap)] [] [0,2,3] [900000] [] [pf (0≤(33:Int)∧33≤(IntKind.bits .i64:Int)),pf (0≤(45:Int)∧45≤(IntKind.bits .i64:Int))] [] [0,4] (r0 1 [0,2,3,34] [900000] (cn (decide (x0.i<((x0.b.length:Nat):Int))) (.reg 1 [(11,.wrap)] [] [0,2,3] [900000] [] [pf (0≤(x0.i:Int)∧(x0.i:Int)<((x0.b.length:Nat):Int)),pf (inR .i64 ((bits .and .i64 (bits .xor .i64 ((IntKind.wrap .i64 ((IntKind.wrap .i64 (x0.h * 6364136223846793005))+1442695040888963407)) / 2 ^ 33) ((IntKind.wrap .i64 ((IntKind.wrap .i64 (x0.h * 6364136223846793005))+1442695040888963407)) / 2 ^ 45)) 255)+(IntKind.wrap .i64 (x0.b.getD x0.i.toNat default))))] [] [0,4] (r1 1 [2,3] [900000] [pf (inR .i64 (x0.i+1))] [0] (r0 1 [2] [900000] (rt [(900000,some 900000)] (C140 x0 (bits .and .i64 ((bits .and .i64 (bits .xor .i64 ((IntKind.wrap .i64 ((IntKind.wrap .i64 (x0.h * 6364136223846793005))+1442695040888963407)) / 2 ^ 33) ((IntKind.wrap .i64 ((IntKind.wrap .i64 (x0.h * 6364136223846793005))+1442695040888963407)) / 2 ^ 45)) 255)+(IntKind.wrap .i64 (x0.b.getD x0.i.toNat default))) 255,x0.i+1,IntKind.wrap .i64 ((IntKind.wrap .i64 (x0.h * 6364136223846793005))+1442695040888963407))))))) (r0 1 [2] [900000] (rt [(900000,some 900000)] (C140 x0 (bits .and .i64 (bits .xor .i64 ((IntKind.wrap .i64 ((IntKind.wrap .i64 (x0.h * 6364136223846793005))+1442695040888963407)) / 2 ^ 33) ((IntKind.wrap .i64 ((IntKind.wrap .i64 (x0.h * 6364136223846793005))+1442695040888963407)) / 2 ^ 45)) 255,x0.i,IntKind.wrap .i64 ((IntKind.wrap .i64 (x0.h * 6364136223846793005))+1442695040888963407)))))))
theorem ok_spec_l01Byte (x0:l01Cur) (hc:CurOk x0):FnMT Try.prog 140 [.vp 900000 0] [.var [.ro false 1 x0.b.length (rowOf (cInt .u8) x0.b),.int .i64 x0.i,.int .i64 x0.h]] (C140 x0 (l01Byte x0)):=by
 have aux:∀ R,l01Byte x0=R→slim (C140 x0 R) (A140 x0) []:=by
  intro R hR
  refine rg ⟨by trivial,by trivial,trivial⟩ ?_
  refine rg trivial ?_
  revert hR;refine cd (fun hc1 hR=>?_) fun hc1 hR=>?_
  ·
    refine rg ⟨by (have h9:=hc.pos;have h8:=hc.len;(try simp only [inR,decide_eq_true_eq] at *);omega),by (have h9:=and_small (bits .xor .i64 ((IntKind.wrap .i64 ((IntKind.wrap .i64 (x0.h * 6364136223846793005))+1442695040888963407)) / 2 ^ 33) ((IntKind.wrap .i64 ((IntKind.wrap .i64 (x0.h * 6364136223846793005))+1442695040888963407)) / 2 ^ 45)) 255 255 rfl (by omega);have h8:=getD_byte hc.byte x0.i.toNat;have h7:=wrap_small (n:=x0.b.getD x0.i.toNat default) (by omega);simp only [inR];omega),trivial⟩ ?_
    refine rg ⟨by (have h9:=hc.pos;have h8:=hc.len;(try simp only [inR,decide_eq_true_eq] at *);omega),trivial⟩ ?_
    refine rg trivial ?_
    exact congrArg (C140 x0) hR
  ·
    refine rg trivial ?_
    exact congrArg (C140 x0) hR
 exact FnM.go 58 Try.func140 (by kernel_rfl) (by kernel_rfl) (A140 x0) (by kernel_rfl) (aux _ rfl)
def k140 (d:Nat) (ids:List Nat) (x0:l01Cur):Cl:=(hresM d ids (C140 x0 (l01Byte x0)),k1 (ok_spec_l01Byte x0))
theorem byte_bd (x:Int):0≤bits .and .i64 x 255∧bits .and .i64 x 255≤255:=and_small x 255 255 rfl (by omega)
theorem l01Byte_ok {c:l01Cur} (h:CurOk c):(0≤(l01Byte c).1∧(l01Byte c).1≤255)∧CurOk ⟨c.b,(l01Byte c).2.1,(l01Byte c).2.2⟩:=by
 unfold l01Byte
 refine cond_both (p:=fun (r:Int×Int×Int)=>(0≤r.1∧r.1≤255)∧CurOk ⟨c.b,r.2.1,r.2.2⟩) (fun c1=>⟨byte_bd _,h.mk' ?_ (wrap_inR _)⟩) (fun _=>⟨byte_bd _,h.mk' h.pos (wrap_inR _)⟩)
 have:=h.pos;have:=of_decide_eq_true c1
 simp only;omega
end Go.Proofs.Ytkkijpibajigfaa
