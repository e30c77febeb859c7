import Derived.Test.YtnibbmmljamolaaGreatM120
set_option maxHeartbeats 4000000
set_option linter.unusedSimpArgs false
set_option linter.unusedVariables false
namespace Go.Proofs.YtnibbmmljamolaaGreat
open Go Go.Lite Go.Proofs
structure yg where
  prefer:Int
  youngest:Bool
  represent:Bool
  deriving Inhabited
def zcq(fr:Bool)(x:yg):List LV:=cInt .i64 x.prefer++cBool x.youngest++cBool x.represent

def C113(R:(List Int)):LV×List (Nat×BC):=(.own 0,[(0,.arr 1 R.length (rowOf (cInt .i64) R))])
def zcm(x0:Int)(x1:List Int)(x2:yc):(List Int):=loopN (fun i1 (v1:(List Int)) next=>bif(decide (((x2.people.getD ((x1.getD i1 default).toNat) default).sex)=x0)) then(next (v1++[(x1.getD i1 default)])) else(next v1)) (fun (v1:(List Int))=>v1) x1.length 0 ([]:List Int)
def zyb(i1:Nat)(v1:(List Int)):Dl:=⟨[(10,.int .i64 ((i1:Nat):Int)),(5,.own 20005)],[(20005,.arr 1 v1.length (rowOf (cInt .i64) v1))]⟩
def A113b1(x0:Int)(x1:List Int)(x2:yc)(i1:Nat)(v1:(List Int)):Ann:=let q2:=((i1:Nat):Int);let q1:=x1.getD i1 default;let q3:=((x1.length:Nat):Int);r0 1 [0,2,4,5,8,9,10,11] [20005] (cn (decide (q2<q3)) (r1 2 [0,2,4,5,7,8,9,10,21] [20005] [pf (0≤(q2:Int)∧(q2:Int)<q3),pf (0≤(q1:Int)∧(q1:Int)<((x2.people.length:Nat):Int))] [0,4] (cn (decide (((x2.people.getD (q1.toNat) default).sex)=x0)) (.reg 1 [] [(2,bsC 24 (cInt .i64) ([q1]:List Int)),(3,ap1 25 (cInt .i64) 8 v1 q1)] [0,2,4,5,8,9,10] [25] [] [] [] [0,4] (r1 1 [0,2,4,5,8,9,10] [25] [pf (inR .i64 (q2+1))] [0] (.next 0 [(20005,some 25)] (zyb (i1+1) (v1++[q1]))))) (r1 1 [0,2,4,5,8,9,10] [20005] [pf (inR .i64 (q2+1))] [0] (.next 0 [(20005,some 20005)] (zyb (i1+1) v1))))) (r0 1 [4] [20005] (rt [(0,some 20005)] (C113 v1))))
def A113(x0:Int)(x1:List Int)(x2:yc):Ann:=r0 2 [0,1,2,4,5] [] (r0 1 [0,2,4,5,8,9,10] [] (lp (zyb) [] [] [(20005,none)] (zyb 0 ([]:List Int)) (A113b1 x0 x1 x2)))
theorem zq4(s:Int)(l:List Int)(f:yc):(zcm s l f).length≤l.length:=by unfold zcm;exact za3 (fun i (v:List Int)=>v.length≤i) (fun (r:List Int)=>r.length≤l.length) vdj (fun i v next hi hv hn=>zaj (p:=fun (r:List Int)=>r.length≤l.length) (fun _=>hn _ vc8) (fun _=>hn _ vdh)) (fun v hv=>hv)
theorem z48{f : yc}{l : List Int}(h : ∀c ∈ l, 0 ≤ c ∧ c < f.people.length){i j a b : Nat}(hi : i < l.length)(hj : j < l.length) : ∀c ∈ (l.set a (l.getD j default)).set b (l.getD i default), 0 ≤ c ∧ c < f.people.length := fun c hc => by
  rcases List.mem_or_eq_of_mem_set hc with hc | hc
  · rcases List.mem_or_eq_of_mem_set hc with hc | hc
    · exact h c hc
    · rw [hc];exact h _ (zbf hj)
  · rw [hc];exact h _ (zbf hi)
theorem zh0(x0 : Int)(x1 : List Int)(x2 : yc)(hx : x1.length ≤ 1048576)(hk : ∀c ∈ x1, 0 ≤ c ∧ c < x2.people.length) : FnT Tryz.prog 113 [.int .i64 x0, .ep [.ro false 1 x1.length (rowOf (cInt .i64) x1)] 0, .ep [.ro false 6 x2.people.length (rowOf (zah false) x2.people), .ro false 4 x2.unions.length (rowOf (zas false) x2.unions)] 0] (C113 (zcm x0 x1 x2)) := by
 have aux : ∀R, zcm x0 x1 x2 = R → slim (C113 R) (A113 x0 x1 x2) [] := by
  intro R hR;refine rT ?_;refine rT ?_;refine lN (fun i v=>v.length≤i) vdg rfl (fun i1 v1 F1 hn1 hI1 hR hK1=>?_) hR;refine rT ?_;refine⟨fun hc1=>?_,fun hc1=>?_⟩
  ·have hii1 : i1 < x1.length := vcH;replace hR := zai hR hii1;refine rg ⟨vc4, vaZ, trivial⟩ ?_;refine cd (fun hc2 hR => ?_) (fun hc2 hR => ?_) hR
   ·refine rg ⟨trivial, vdh, trivial⟩ ?_;refine rg ⟨vcq, trivial⟩ ?_;exact hK1 (v1 ++ [(x1.getD i1 default)]) hii1 vbO hR
   refine rg ⟨vcx,trivial⟩ ?_;exact hK1 v1 hii1 vc6 hR
  obtain rfl:i1=x1.length:=by have:=oB hc1;omega
  replace hR:=zaq hR (oR _);refine rT ?_;exact oe C113 hR
 exact Fn.go 28 Tryz.func113 zaa zaa (by simp[C113,Frs,FrsL,FrsB,rowOf,cInt,cBool,cStr,cSl,zbd,zah,zas,zaw,cDyad,cLaw,zcc]) (A113 x0 x1 x2) zaa (aux _ rfl)
def k113(x0:Int)(x1:List Int)(x2:yc):Cl:=(hres (C113 (zcm x0 x1 x2)),k2 (zh0 x0 x1 x2))
def C105(R:(List Int)):LV×List (Nat×BC):=(.own 0,[(0,.arr 1 R.length (rowOf (cInt .i64) R))])
def za6(x0:yc)(x1:yg)(x2:Int):(List Int):=jn (fun K1=>bif x1.youngest then(loopW (fun (v1:Int×Int×(List Int)) next=>bif(decide (v1.1<v1.2.1)) then(next (v1.1+1,v1.2.1 - 1,((v1.2.2.set v1.1.toNat (v1.2.2.getD v1.2.1.toNat default)).set v1.2.1.toNat (v1.2.2.getD v1.1.toNat default)))) else(K1 v1.2.2)) (((((zau x0 x2).length:Nat):Int) - 1 - (0)+2).toNat+1) (0,(((zau x0 x2).length:Nat):Int) - 1,zau x0 x2)) else(K1 (zau x0 x2))) (fun (j1:(List Int))=>bif(decide (x1.prefer=1)) then((zcm 1 j1 x0)++(zcm 2 j1 x0)) else(bif(decide (x1.prefer=2)) then((zcm 2 j1 x0)++(zcm 1 j1 x0)) else(bif(decide (x1.prefer=3)) then(zcm 1 j1 x0) else(bif(decide (x1.prefer=4)) then(zcm 2 j1 x0) else j1))))
def z2e(j1:(List Int)):Dl:=⟨[],[(30700,.arr 1 j1.length (rowOf (cInt .i64) j1)),(7,.var [.own 30700])]⟩
def z2f(v1:Int×Int×(List Int)):Dl:=⟨[(8,.int .i64 v1.1),(9,.int .i64 v1.2.1)],[(30700,.arr 1 v1.2.2.length (rowOf (cInt .i64) v1.2.2)),(7,.var [.own 30700])]⟩
def A105b1(v1:Int×Int×(List Int)):Ann:=let q2:=(v1.2.1:Int);let q4:=((v1.2.2.length:Nat):Int);let q3:=v1.2.2.getD v1.1.toNat default;let q1:=v1.2.2.set v1.1.toNat (v1.2.2.getD v1.2.1.toNat default);r0 1 [3,4,6,7,8,9,21] [3,4,7,30700] (cn (decide (v1.1<v1.2.1)) (.reg 1 [] [(13,stL 30700 (cInt .i64) v1.2.2 v1.1.toNat (v1.2.2.getD v1.2.1.toNat default)),(15,stL 30700 (cInt .i64) q1 v1.2.1.toNat q3)] [3,4,6,7,8,9] [3,4,7,30700] [] [pf (0≤q2∧q2<q4),pf (0≤(v1.1:Int)∧(v1.1:Int)<q4),pf (0≤q2∧q2<((q1.length:Nat):Int))] [] [0,4,4,12,8,16] (r1 1 [3,4,6,7,8,9] [3,4,7,30700] [pf (inR .i64 (v1.1+1)),pf (inR .i64 (v1.2.1 - 1))] [0,4] (.next 0 [(30700,some 30700)] (z2f (v1.1+1,v1.2.1 - 1,(q1.set v1.2.1.toNat q3)))))) (.next 1 [(30700,some 30700)] (z2e v1.2.2)))
def A105j1(x0:yc)(x1:yg)(j1:(List Int)):Ann:=let q1:=zcm 1 j1 x0;let q2:=zcm 2 j1 x0;r0 1 [4,6,7,10] [3,4,7,30700] (r0 1 [6,7,10,42] [3,7,30700] (r0 1 [6,7,10,42,43] [3,7,30700] (cn (decide (x1.prefer=1)) (.reg 1 [] [(1,k113 1 j1 x0),(3,k113 2 j1 x0),(4,apC 49 (cInt .i64) 8 q1 q2)] [6,7] [7,49,30700] [] [] [] [0,4,8] (rt [(0,some 49)] (C105 (q1++q2)))) (r0 1 [6,7,10,42,50] [3,7,30700] (cn (decide (x1.prefer=2)) (.reg 1 [] [(1,k113 2 j1 x0),(3,k113 1 j1 x0),(4,apC 56 (cInt .i64) 8 q2 q1)] [6,7] [7,56,30700] [] [] [] [0,4,8] (rt [(0,some 56)] (C105 (q2++q1)))) (r0 1 [6,7,10,42,57] [3,7,30700] (cn (decide (x1.prefer=3)) (.reg 1 [] [(1,k113 1 j1 x0)] [6,7] [7,1060,30700] [] [] [] [0] (rt [(0,some 1060)] (C105 q1))) (r0 1 [6,7,10,61] [3,7,30700] (cn (decide (x1.prefer=4)) (.reg 1 [] [(1,k113 2 j1 x0)] [6,7] [7,1064,30700] [] [] [] [0] (rt [(0,some 1064)] (C105 q2))) (r0 1 [6] [30700] (rt [(0,some 30700)] (C105 j1))))))))))))
def A105(x0:yc)(x1:yg)(x2:Int):Ann:=let q1:=(((zau x0 x2).length:Nat):Int);.reg 2 [] [(1002,k46 x0 x2)] [3,4,6,7] [3,4,7,1013] [] [] [] [0] (.join 0 (List Int) (z2e) [3,4,6,7] [3,4,7] (r0 1 [3,4,6,7,15] [3,4,7,1013] (cn x1.youngest (r1 1 [3,4,6,7,8,9] [3,4,7,1013] [pf (inR .i64 (q1 - 1))] [0] (.loop (Int×Int×(List Int)) (z2f) [] [1013] [(30700,some 1013)] (z2f (0,q1 - 1,zau x0 x2)) (A105b1))) (.next 0 [(30700,some 1013)] (z2e (zau x0 x2))))) (A105j1 x0 x1))
theorem ziq(x0 : yc)(x1 : yg)(x2 : Int)(hf : x0.people.length ≤ 40) : FnT Tryz.prog 105 [.agg (zaw false x0), .agg (zcq false x1), .int .i64 x2] (C105 (za6 x0 x1 x2)) := by
 have aux : ∀R, za6 x0 x1 x2 = R → slim (C105 R) (A105 x0 x1 x2) [] := by
  intro R hR;refine rg ⟨vdg,trivial⟩ ?_;refine jN (fun v=>(∀c∈v,0≤c∧c<x0.people.length)∧v.length≤40) (fun F101 hR hJ101=>?_) (fun j1 hR hJ1=>?_) hR
  ·refine rT ?_;refine cd (fun hc1 hR => ?_) (fun hc1 hR => ?_) hR
   ·refine rg ⟨by ((try clear hR hJ101); intros; (try simp only [ob, oa, oj, oc, zar, zan, not_t_iff, od, inR] at *); (repeat' apply And.intro) <;> (first | (intros; omega) | (have h9 := zcn x0 x2 hf; omega))), trivial⟩ ?_;refine lW (fun v => (0 ≤ v.1 ∧ v.1 ≤ v.2.1 + 2 ∧ v.2.1 < v.2.2.length) ∧ (∀ c ∈ v.2.2, 0 ≤ c ∧ c < x0.people.length) ∧ v.2.2.length ≤ 40) (fun v => (v.2.1 - (v.1) + 2).toNat) (by ((try clear hR hJ101); intros; (try simp only [ob, oa, oj, oc, zar, zan, not_t_iff, od, inR] at *); (repeat' apply And.intro) <;> (first | (intros; omega) | (have h9 := zcn x0 x2 hf; omega) | (exact (zcn x0 x2 hf).1)))) (oH _) rfl (fun m1 v1 F1 hI1 hM1 hR hK1 => ?_) hR;refine rT ?_;refine cd (fun hc2 hR => ?_) (fun hc2 hR => ?_) hR
    ·refine rg ⟨vcr, vcr, vcr, vcr, vcr, trivial⟩ ?_;refine rg ⟨vcq, vcq, trivial⟩ ?_;exact hK1 (v1.1 + 1, v1.2.1 - 1, ((v1.2.2.set v1.1.toNat (v1.2.2.getD v1.2.1.toNat default)).set v1.2.1.toNat (v1.2.2.getD v1.1.toNat default))) (by (have hc2 := om hc2; refine ⟨by (dsimp only; simp only [Ob]; omega), z48 hI1.2.1 vdh vdh, by (dsimp only; simp only [Ob]; omega)⟩)) vcr hR
    exact hJ101 v1.2.2 hR (by(exact hI1.2))
   exact hJ101 _ hR (by(refine⟨(zcn x0 x2 hf).1,?_⟩;have h9:=zcn x0 x2 hf;omega))
  refine rT ?_;refine rT ?_;refine rT ?_;refine cd (fun hc3 hR=>?_) (fun hc3 hR=>?_) hR
  ·refine rg ⟨⟨vc4, by (exact hJ1.1)⟩, ⟨vc4, by (exact hJ1.1)⟩, vbZ, trivial⟩ ?_;exact oe C105 hR
  refine rT ?_;refine cd (fun hc4 hR=>?_) (fun hc4 hR=>?_) hR
  ·refine rg ⟨⟨vc4, by (exact hJ1.1)⟩, ⟨vc4, by (exact hJ1.1)⟩, vbZ, trivial⟩ ?_;exact oe C105 hR
  refine rT ?_;refine cd (fun hc5 hR=>?_) (fun hc5 hR=>?_) hR
  ·refine rg ⟨⟨vc4, by (exact hJ1.1)⟩, trivial⟩ ?_;exact oe C105 hR
  refine rT ?_;refine cd (fun hc6 hR=>?_) (fun hc6 hR=>?_) hR
  ·refine rg ⟨⟨vc4, by (exact hJ1.1)⟩, trivial⟩ ?_;exact oe C105 hR
  refine rT ?_;exact oe C105 hR
 exact Fn.go 66 Tryz.func105 zaa zaa (by simp[C105,Frs,FrsL,FrsB,rowOf,cInt,cBool,cStr,cSl,zbd,zah,zas,zaw,cDyad,cLaw,zcc,zcq]) (A105 x0 x1 x2) zaa (aux _ rfl)
def k105(x0:yc)(x1:yg)(x2:Int):Cl:=(hres (C105 (za6 x0 x1 x2)),k1 (ziq x0 x1 x2))
def l10Of(x0:yc)(x1:yg)(x2:List Int)(x3:Int):(List Int):=loopN (fun i1 (v1:(List Int)) next=>bif((!decide (x3=0))&&(!decide (((x0.people.getD ((x2.getD i1 default).toNat) default).sex)=x3))) then(next v1) else(bif x1.youngest then(next ([(x2.getD i1 default)]++v1)) else(next (v1++[(x2.getD i1 default)])))) (fun (v1:(List Int))=>v1) x2.length 0 ([]:List Int)
theorem zo6(f:yc)(x:yg)(l:List Int)(s:Int):(l10Of f x l s).length≤l.length:=by unfold l10Of;refine za3 (fun i (v:List Int)=>v.length≤i) (fun (r:List Int)=>r.length≤l.length) vdj (fun i v next hi hv hn=>?_) (fun v hv=>hv);refine zaj (p:=fun (r:List Int)=>r.length≤l.length) (fun _=>hn _ vdh) (fun _=>?_);exact zaj (p:=fun (r:List Int)=>r.length≤l.length) (fun _=>hn _ vc8) (fun _=>hn _ vc8)
def zcl(x0:yc)(x1:yg)(x2:Int):(List Int):=bif(decide (x1.prefer=1)) then((l10Of x0 x1 (zap x0 x2) 1)++(l10Of x0 x1 (zap x0 x2) 2)) else(bif(decide (x1.prefer=2)) then((l10Of x0 x1 (zap x0 x2) 2)++(l10Of x0 x1 (zap x0 x2) 1)) else(bif(decide (x1.prefer=3)) then(l10Of x0 x1 (zap x0 x2) 1) else(bif(decide (x1.prefer=4)) then(l10Of x0 x1 (zap x0 x2) 2) else(l10Of x0 x1 (zap x0 x2) 0))))
def ofSex(f:yc)(s:Int)(c:Int):Bool:=decide ((f.people.getD c.toNat default).sex=s)
theorem zd7{α:Type}(l:List α)(d:α){i:Nat}(hi:i<l.length):l.take (i+1)=l.take i++[l.getD i d]:=by rw[List.take_add_one,oi,ol hi];rfl
theorem zel{α:Type}(p:α→Bool)(l:List α)(x:α):(l++[x]).filter p=l.filter p++(bif p x then[x] else[]):=by rw[List.filter_append];cases h:p x<;>simp[h]
theorem zy0(s : Int)(l : List Int)(f : yc) : zcm s l f = l.filter (ofSex f s) := by
 unfold zcm;refine za3 (fun i (v:List Int)=>v=(l.take i).filter (ofSex f s)) (fun r=>r=l.filter (ofSex f s)) vdj (fun i v next hi hv hn=>?_) (fun v hv=>by rw[hv,List.take_length]);refine zaj (p:=fun r=>r=l.filter (ofSex f s)) (fun c=>hn _ ?_) (fun c=>hn _ ?_)
 ·rw [zd7 l default hi, zel, show ofSex f s (l.getD i default) = true from c, hv]; rfl
 rw[zd7 l default hi,zel,show ofSex f s (l.getD i default)=false from c,hv];simp
def ze7(f:yc)(s:Int)(c:Int):Bool:=decide (s=0)||ofSex f s c
theorem zo5(f : yc)(x : yg)(l : List Int)(s : Int) : l10Of f x l s = bif x.youngest then(l.filter (ze7 f s)).reverse else l.filter (ze7 f s) := by
 unfold l10Of;refine za3 (fun i (v:List Int)=>v=bif x.youngest then((l.take i).filter (ze7 f s)).reverse else(l.take i).filter (ze7 f s)) (fun r=>r=bif x.youngest then(l.filter (ze7 f s)).reverse else l.filter (ze7 f s)) (by cases x.youngest<;>simp) (fun i v next hi hv hn=>?_) (fun v hv=>by rw[hv,List.take_length]);refine zaj (p:=fun r=>r=bif x.youngest then(l.filter (ze7 f s)).reverse else l.filter (ze7 f s)) (fun c=>hn _ ?_) (fun c=>?_)
 ·have e : ze7 f s (l.getD i default) = false := by simp only [oc, od, oa, ob] at c;simp only [ze7, ofSex, Bool.or_eq_false_iff, oa];exact ⟨c.1, c.2⟩
  rw[zd7 l default hi,zel,e,hv];cases x.youngest<;>simp
 have e:ze7 f s (l.getD i default)=true:=by simp only[ze7,ofSex,oj,ob];simp only[Bool.and_eq_false_iff,Bool.not_eq_false',ob,oa] at c;omega
 refine zaj (p:=fun r=>r=bif x.youngest then(l.filter (ze7 f s)).reverse else l.filter (ze7 f s)) (fun y=>hn _ ?_) (fun y=>hn _ ?_)
 ·rw [zd7 l default hi, zel, e, hv, y]; simp
 rw[zd7 l default hi,zel,e,hv,y];simp
theorem z1c{l m:List Int}(h:l.length=m.length)(hk:∀k,k<l.length→l.getD k default=m.getD k default):l=m:=by refine List.ext_getElem h fun k h1 h2=>?_;have:=hk k h1;rw[oi,oi,ol h1,ol h2] at this;exact this
theorem z3f(l:List Int){k:Nat}(h:k<l.length):l.reverse.getD k default=l.getD (l.length - 1 - k) default:=by rw[oi,oi,ol vc3,ol vdh,List.getElem_reverse]
theorem z2w(K : List Int → List Int)(l0 : List Int)(f : Nat)(hf : f = ((((l0.length : Nat) : Int) - 1 - (0) + 2).toNat + 1)) : loopW (fun (v1 : Int × Int × (List Int)) next => bif(decide (v1.1 < v1.2.1)) then(next (v1.1 + 1, v1.2.1 - 1, ((v1.2.2.set v1.1.toNat (v1.2.2.getD v1.2.1.toNat default)).set v1.2.1.toNat (v1.2.2.getD v1.1.toNat default)))) else(K v1.2.2)) f (0, (((l0.length : Nat) : Int) - 1), l0) = K l0.reverse := by
 subst hf;refine za8 (fun v=>(0≤v.1∧v.1+v.2.1=(l0.length:Int) - 1∧v.1≤v.2.1+2)∧v.2.2.length=l0.length∧∀k:Nat,k<l0.length→v.2.2.getD k default=if((k:Int)<v.1∨v.2.1<(k:Int)) then l0.getD (l0.length - 1 - k) default else l0.getD k default) (fun v=>(v.2.1 - v.1+2).toNat) (fun r=>r=K l0.reverse) (fun v next hv hn=>?_) _ _ vcF ⟨vcF,rfl,fun k hk=>(if_neg vcF).symm⟩;obtain⟨hb,hl,hk⟩:=hv;cases hc:decide (v.1<v.2.1) with
 |false =>
  have hc:=oB hc;refine oe K (z1c (by simp[hl]) fun k h=>?_);rw[hk k vdh,z3f l0 vdh];by_cases e:(k:Int)<v.1∨v.2.1<(k:Int)
  ·rw [if_pos e]
  rw[if_neg e];congr 1;omega
 |true =>
  have hc:=om hc;refine hn _ ⟨vcT,by simp[hl],fun k h=>?_⟩ vcT;dsimp only;simp only[zbc,Ob,hl];have h1:=hk v.1.toNat vdh;have h2:=hk v.2.1.toNat vdh;rw[if_neg vdh] at h1;rw[if_neg vdh] at h2;by_cases e1:k=v.2.1.toNat
  ·rw [if_pos vdh, h1, if_pos vdh]; congr 1; omega
  rw[if_neg vdh];by_cases e2:k=v.1.toNat
  ·rw [if_pos vdh, h2, if_pos vdh]; congr 1; omega
  rw[if_neg vdh,hk k h];by_cases e3:(k:Int)<v.1∨v.2.1<(k:Int)
  ·rw [if_pos e3, if_pos vdh]
  rw[if_neg e3,if_neg vdh]
theorem zlf(f : yc)(x : yg)(p : Int)(hf : f.people.length ≤ 40) : za6 f x p = zcl f x p := by
 have key : ∀l : List Int, l = (bif x.youngest then(zap f p).reverse else zap f p) → (bif(decide (x.prefer = 1)) then((zcm 1 l f) ++ (zcm 2 l f)) else(bif(decide (x.prefer = 2)) then((zcm 2 l f) ++ (zcm 1 l f)) else(bif(decide (x.prefer = 3)) then(zcm 1 l f) else(bif(decide (x.prefer = 4)) then(zcm 2 l f) else l)))) = zcl f x p := by
  intro l hl;unfold zcl;have h0:l=l10Of f x (zap f p) 0:=by have e:(zap f p).filter (ze7 f 0)=zap f p:=List.filter_eq_self.2 fun c _=>(by simp[ze7]);rw[zo5,e];exact hl
  have hs : ∀s : Int, s ≠ 0 → zcm s l f = l10Of f x (zap f p) s := fun s h => by
   have e:ze7 f s=ofSex f s:=(by funext c;simp[ze7,h]);rw[zy0,zo5,e,hl];cases x.youngest
   ·rfl
   simp[List.filter_reverse]
  rw[hs 1 (by decide),hs 2 (by decide),←h0]
 unfold za6 jn;rw[zh6 f p hf];cases hy:x.youngest with
 |true =>refine Eq.trans (z2w (fun j1=>bif(decide (x.prefer=1)) then((zcm 1 j1 f)++(zcm 2 j1 f)) else(bif(decide (x.prefer=2)) then((zcm 2 j1 f)++(zcm 1 j1 f)) else(bif(decide (x.prefer=3)) then(zcm 1 j1 f) else(bif(decide (x.prefer=4)) then(zcm 2 j1 f) else j1)))) _ _ rfl) ?_;exact key _ (by rw[hy];rfl)
 |false =>exact key _ (by rw[hy];rfl)
theorem z47{x:yc}{p:Int}{c:Bool}(h:(c||(!(l1Has x p)))=false):(zad x=true∧(x.people.length≤40∧x.unions.length≤60))∧0≤p∧p<x.people.length:=by simp only[zar,zan,ze0] at h;exact⟨⟨h.2.2,fam_n h.2.2⟩,h.2.1⟩
theorem zr3{x:yc}{p:Int}{c:Bool}(h:((!(zco x [p]))||c)=false):(zad x=true∧(x.people.length≤40∧x.unions.length≤60))∧0≤p∧p<x.people.length:=by rw[z5s,Bool.or_comm] at h;exact z47 h
def C42(R:Bool):LV×List (Nat×BC):=(.bool R,[])
def zfw(x0:yg):Bool:=(decide (0≤x0.prefer))&&(decide (x0.prefer≤4))
def A42(x0:yg):Ann:=.reg 2 [] [] [2] [] [decide (0≤x0.prefer)] [] [] [1,1,1] (rt [] (C42 ((decide (0≤x0.prefer))&&(decide (x0.prefer≤4)))))
theorem znd(x0:yg):FnT Tryz.prog 42 [.agg (zcq false x0)] (C42 (zfw x0)):=by have aux:∀R,zfw x0=R→slim (C42 R) (A42 x0) []:=(by intro R hR;refine rT ?_;exact oe C42 hR);exact Fn.go 11 Tryz.func42 zaa zaa (by simp[C42,Frs,FrsL]) (A42 x0) zaa (aux _ rfl)
def k42(x0:yg):Cl:=(hres (C42 (zfw x0)),k0 (znd x0))
theorem zt0{f:yc}(hf:zad f=true){p c:Int}(hp:0≤p)(h:c∈zap f p):p<c∧c<f.people.length:=by obtain⟨k,h1,h2,h3⟩:=(zfo f p c).1 h;have h4:=fam_p hf h1;have h5:=h4.fa;have h6:=h4.mo;omega
theorem z5k{f : yc}{x : yg}{p c : Int}(h : c ∈ zcl f x p) : c ∈ zap f p := by
 have key:∀s,c∈l10Of f x (zap f p) s→c∈zap f p:=fun s hc=>by rw[zo5] at hc;cases hy:x.youngest<;>rw[hy] at hc<;>simp only[oE,oD,List.mem_reverse] at hc<;>exact(o9.1 hc).1
 revert h;unfold zcl;refine zaj (p:=fun r=>c∈r→c∈zap f p) (fun _ h=>?_) (fun _=>?_)
 ·rcases List.mem_append.1 h with h | h <;> exact key _ h
 refine zaj (p:=fun r=>c∈r→c∈zap f p) (fun _ h=>?_) (fun _=>?_)
 ·rcases List.mem_append.1 h with h | h <;> exact key _ h
 refine zaj (p:=fun r=>c∈r→c∈zap f p) (fun _ h=>key _ h) (fun _=>?_);exact zaj (p:=fun r=>c∈r→c∈zap f p) (fun _ h=>key _ h) (fun _ h=>key _ h)
theorem l10_lt{f:yc}(hf:zad f=true){x:yg}{p c:Int}(hp:0≤p)(h:c∈zcl f x p):p<c∧c<f.people.length:=zt0 hf hp (z5k h)
theorem l10_at{f:yc}(hf:zad f=true){x:yg}{p:Int}(hp:0≤p){i:Nat}(h:i<(zcl f x p).length):p<(zcl f x p).getD i default∧(zcl f x p).getD i default<f.people.length:=l10_lt hf hp (zbf h)
theorem zqo{f:yc}(hf:zad f=true){x:yg}{p:Int}(hp:0≤p){i:Nat}(h:i<(za6 f x p).length):p<(za6 f x p).getD i default∧(za6 f x p).getD i default<f.people.length:=by rw[zlf f x p (fam_n hf).1] at *;exact l10_at hf hp h
theorem z5l(f:yc)(x:yg)(p:Int):(zcl f x p).length≤2 * f.people.length:=by have h1:=zo6 f x (zap f p) 1;have h2:=zo6 f x (zap f p) 2;have h0:=zo6 f x (zap f p) 0;have h3:=(zg9 f p).2;unfold zcl;(repeat' refine zaj (p:=fun (r:List Int)=>r.length≤2 * f.people.length) (fun h=>?_) (fun h=>?_));all_goals (try simp only[oh]);omega
theorem zva{f:yc}(hf:zad f=true)(x:yg)(p:Int):(za6 f x p).length≤80:=by have h:=(fam_n hf).1;rw[zlf f x p h];have:=z5l f x p;omega
def C83(R:Bool):LV×List (Nat×BC):=(.bool R,[])
def zb1(x0:yc)(x1:Int)(x2:Int):Bool:=(decide (((x0.people.getD x1.toNat default).born)≤x2))&&((decide (((x0.people.getD x1.toNat default).died)=(-1)))||(decide (x2<((x0.people.getD x1.toNat default).died))))
def A83(x0:yc)(x1:Int)(x2:Int):Ann:=let q1:=x0.people.getD x1.toNat default;let q2:=decide ((q1.born)≤x2);let q3:=decide ((q1.died)=(-1));.reg 3 [] [] [6] [] [decide ((q1.born)≤x2),q2&&(!q3)] [pf (0≤(x1:Int)∧(x1:Int)<((x0.people.length:Nat):Int)),gt q2 (gf q3 (pf ((q2&&(!q3))=true)))] [] [0,1,1,1,5,5,5,1,4,1] (rt [] (C83 (q2&&(q3||(decide (x2<(q1.died)))))))
theorem zon(x0:yc)(x1:Int)(x2:Int)(hx:x0.people.length≤1048576)(h1:0≤x1∧x1<x0.people.length):FnT Tryz.prog 83 [.agg (zaw false x0),.int .i64 x1,.int .i64 x2] (C83 (zb1 x0 x1 x2)):=by have aux:∀R,zb1 x0 x1 x2=R→slim (C83 R) (A83 x0 x1 x2) []:=(by intro R hR;refine rg ⟨vdg,vbj,trivial⟩ ?_;exact oe C83 hR);exact Fn.go 28 Tryz.func83 zaa zaa (by simp[C83,Frs,FrsL]) (A83 x0 x1 x2) zaa (aux _ rfl)
def k83(x0:yc)(x1:Int)(x2:Int):Cl:=(hres (C83 (zb1 x0 x1 x2)),k2 (zon x0 x1 x2))
def zfb(x0:yc)(x1:Int)(x2:Int):Bool:=(decide (((x0.people.getD x1.toNat default).born)≤x2))&&((decide (((x0.people.getD x1.toNat default).died)=(-1)))||(decide (x2<((x0.people.getD x1.toNat default).died))))
structure heirList where
  f:yc
  custom:yg
  year:Int
  list:List Int
  listed:KV→Option Bool
  gone:KV→Option Bool
  deriving Inhabited

def C80(x0:yc)(x1:yg)(x2:Int)(R:heirList):LV×List (Nat×BC):=(.vp 0 0,[(0,.var [.ro false 6 R.f.people.length (rowOf (zah false) R.f.people),.ro false 4 R.f.unions.length (rowOf (zas false) R.f.unions),.int .i64 R.custom.prefer,.bool R.custom.youngest,.bool R.custom.represent,.int .i64 R.year,.own 1,.mp 2,.mp 3]),(1,.arr 1 R.list.length (rowOf (cInt .i64) R.list)),(2,.mp (.int .i64) (.b R.listed)),(3,.mp (.int .i64) (.b R.gone))])
def zbb(x0:yc)(x1:yg)(x2:Int):heirList:=(heirList.mk x0 x1 x2 ([]:List Int) (fun _=>none) (fun _=>none))
def A80(x0:yc)(x1:yg)(x2:Int):Ann:=r0 2 [6] [10,11,13] (rt [(0,some 13),(1,none),(2,some 10),(3,some 11)] (C80 x0 x1 x2 (heirList.mk x0 x1 x2 ([]:List Int) (fun _=>none) (fun _=>none))))
theorem zm6(x0:yc)(x1:yg)(x2:Int):FnMT Tryz.prog 80 [.agg (zaw false x0),.agg (zcq false x1),.int .i64 x2] [] (C80 x0 x1 x2 (zbb x0 x1 x2)):=by have aux:∀R,zbb x0 x1 x2=R→slim (C80 x0 x1 x2 R) (A80 x0 x1 x2) []:=(by intro R hR;refine rT ?_;exact oe (C80 x0 x1 x2) hR);exact FnM.go 14 Tryz.func80 zaa zaa (A80 x0 x1 x2) zaa (aux _ rfl)
def k80(d:Nat)(ids:List Nat)(x0:yc)(x1:yg)(x2:Int):Cl:=(hresM d ids (C80 x0 x1 x2 (zbb x0 x1 x2)),k0 (zm6 x0 x1 x2))
structure HOk(f : yc)(l : List Int)(m : Int → Bool) : Prop where
  nd:l.Nodup
  rg:∀c∈l,(0≤c∧c<f.people.length)∧m c=true
theorem zw6 : ∀{l m : List Int}, l.Nodup → (∀x ∈ l, x ∈ m) → l.length ≤ m.length
  |[],_,_,_=>Nat.zero_le _
  |a :: l, m, h, hs => by
    have h1:=List.nodup_cons.1 h
    have ha:=hs a vdj
    have:=zw6 (m:=m.erase a) h1.2 fun x hx=>(List.mem_erase_of_ne (fun e=>h1.1 (by rw[←e];exact hx))).2 (hs x (by simp[hx]))
    rw[List.length_erase_of_mem ha] at this
    have:=List.length_pos_of_mem ha
    simp only[ow];omega
theorem HOk.len{f:yc}{l:List Int}{m:Int→Bool}(h:HOk f l m):l.length≤f.people.length:=by have:=zw6 (m:=(List.range f.people.length).map fun (c:Nat)=>(c:Int)) h.nd fun x hx=>(by have:=(h.rg x hx).1;exact List.mem_map.2 ⟨x.toNat,oX.2 vdh,vdh⟩);simpa using this
theorem HOk.mono{f:yc}{l:List Int}{m m':Int→Bool}(h:HOk f l m)(hm:∀c,m c=true→m' c=true):HOk f l m':=⟨h.nd,fun c hc=>⟨(h.rg c hc).1,hm c (h.rg c hc).2⟩⟩
theorem HOk.snoc{f : yc}{l : List Int}{m m' : Int → Bool}(h : HOk f l m){c : Int}(hc : 0 ≤ c ∧ c < f.people.length)(h0 : m c = false)(h1 : m' c = true)(hm : ∀c, m c = true → m' c = true) : HOk f (l ++ [c]) m' := by
 refine⟨?_,fun d hd=>?_⟩
 ·rw [List.nodup_append];refine ⟨h.nd, vdj, fun a ha b hb e => ?_⟩;rw [oT.1 hb] at e;subst e;have := (h.rg a ha).2;rw [h0] at this; cases this
 rcases List.mem_append.1 hd with hd | hd
 ·exact ⟨(h.rg d hd).1, hm d (h.rg d hd).2⟩
 rw[oT.1 hd];exact⟨hc,h1⟩
theorem HOk.nil(f:yc)(m:Int→Bool):HOk f [] m:=⟨List.nodup_nil,fun c hc=>absurd hc Oa⟩
def mk2(g:KV→Option Bool)(c:Int):Bool:=(g (KV.i c)).getD false
theorem zvo(g : KV → Option Bool)(c d : Int)(b : Bool) : mk2 (mset g (KV.i c) b) d = if d = c then b else mk2 g d := by
 unfold mk2 mset;by_cases e:d=c
 ·subst e; simp
 rw[if_neg (by simpa using e),if_neg e]
theorem zsk(g : KV → Option Bool)(c : Int) : ∀d, mk2 g d = true → mk2 (mset g (KV.i c) true) d = true := fun d h => by
  rw[zvo];split
  · rfl
  · exact h
def C82(x0:heirList)(x1:Int)(R:(List Int)×(KV→Option Bool)×(KV→Option Bool)):LV×List (Nat×BC):=(.tup [],[(900002,.mp (.int .i64) (.b R.2.1)),(900003,.mp (.int .i64) (.b R.2.2)),(900000,.var [.ro false 6 x0.f.people.length (rowOf (zah false) x0.f.people),.ro false 4 x0.f.unions.length (rowOf (zas false) x0.f.unions),.int .i64 x0.custom.prefer,.bool x0.custom.youngest,.bool x0.custom.represent,.int .i64 x0.year,.own 0,.mp 900002,.mp 900003]),(0,.arr 1 R.1.length (rowOf (cInt .i64) R.1))])
def zdg : Nat → heirList → Int → (List Int) × (KV → Option Bool) × (KV → Option Bool)
  |0,_,_=>default
  |m+1,x0,x1=>bif((x0.gone (KV.i x1)).getD false) then(x0.list,x0.listed,x0.gone) else(loopN (fun i1 (v1:(List Int)×(KV→Option Bool)×(KV→Option Bool)) nx1=>bif(decide (x0.year<((x0.f.people.getD (((za6 x0.f x0.custom x1).getD i1 default).toNat) default).born))) then(nx1 (v1.1,v1.2.1,v1.2.2)) else(jn (fun K1=>bif((zb1 x0.f ((za6 x0.f x0.custom x1).getD i1 default) x0.year)&&(!((v1.2.1 (KV.i ((za6 x0.f x0.custom x1).getD i1 default))).getD false))) then(K1 ((v1.1++[((za6 x0.f x0.custom x1).getD i1 default)]),mset v1.2.1 (KV.i ((za6 x0.f x0.custom x1).getD i1 default)) true)) else(K1 (v1.1,v1.2.1))) (fun (j1:(List Int)×(KV→Option Bool))=>bif((zb1 x0.f ((za6 x0.f x0.custom x1).getD i1 default) x0.year)||x0.custom.represent) then(nx1 ((zdg m (heirList.mk x0.f x0.custom x0.year j1.1 j1.2 v1.2.2) ((za6 x0.f x0.custom x1).getD i1 default)).1,(zdg m (heirList.mk x0.f x0.custom x0.year j1.1 j1.2 v1.2.2) ((za6 x0.f x0.custom x1).getD i1 default)).2.1,(zdg m (heirList.mk x0.f x0.custom x0.year j1.1 j1.2 v1.2.2) ((za6 x0.f x0.custom x1).getD i1 default)).2.2)) else(nx1 (j1.1,j1.2,v1.2.2))))) (fun (v1:(List Int)×(KV→Option Bool)×(KV→Option Bool))=>(v1.1,v1.2.1,v1.2.2)) ((za6 x0.f x0.custom x1).length) 0 (x0.list,x0.listed,mset x0.gone (KV.i x1) true))
def below(x0:heirList)(x1:Int):(List Int)×(KV→Option Bool)×(KV→Option Bool):=zdg 100 x0 x1
def kr82(m d:Nat)(ids:List Nat)(x0:heirList)(x1:Int):Cl:=(hresM d ids (C82 x0 x1 (zdg m x0 x1)),pf (FnMT Tryz.prog 82 [.vp 900000 0,.int .i64 x1] [.var [.ro false 6 x0.f.people.length (rowOf (zah false) x0.f.people),.ro false 4 x0.f.unions.length (rowOf (zas false) x0.f.unions),.int .i64 x0.custom.prefer,.bool x0.custom.youngest,.bool x0.custom.represent,.int .i64 x0.year,.own 900001,.mp 900002,.mp 900003],.arr 1 x0.list.length (rowOf (cInt .i64) x0.list),.mp (.int .i64) (.b x0.listed),.mp (.int .i64) (.b x0.gone)] (C82 x0 x1 (zdg m x0 x1))))
def D82b1(m:Nat)(x0:heirList)(x1:Int)(i1:Nat)(v1:(List Int)×(KV→Option Bool)×(KV→Option Bool)):Dl:=⟨[(29,.int .i64 ((i1:Nat):Int))],[(30006,.arr 1 v1.1.length (rowOf (cInt .i64) v1.1)),(900002,.mp (.int .i64) (.b v1.2.1)),(900003,.mp (.int .i64) (.b v1.2.2)),(900000,.var [.ro false 6 x0.f.people.length (rowOf (zah false) x0.f.people),.ro false 4 x0.f.unions.length (rowOf (zas false) x0.f.unions),.int .i64 x0.custom.prefer,.bool x0.custom.youngest,.bool x0.custom.represent,.int .i64 x0.year,.own 30006,.mp 900002,.mp 900003])]⟩
def D82j1(m:Nat)(x0:heirList)(x1:Int)(i1:Nat)(v1:(List Int)×(KV→Option Bool)×(KV→Option Bool))(j1:(List Int)×(KV→Option Bool)):Dl:=⟨[],[(40006,.arr 1 j1.1.length (rowOf (cInt .i64) j1.1)),(900002,.mp (.int .i64) (.b j1.2)),(900000,.var [.ro false 6 x0.f.people.length (rowOf (zah false) x0.f.people),.ro false 4 x0.f.unions.length (rowOf (zas false) x0.f.unions),.int .i64 x0.custom.prefer,.bool x0.custom.youngest,.bool x0.custom.represent,.int .i64 x0.year,.own 40006,.mp 900002,.mp 900003])]⟩
def A82j1(m:Nat)(x0:heirList)(x1:Int)(i1:Nat)(v1:(List Int)×(KV→Option Bool)×(KV→Option Bool))(j1:(List Int)×(KV→Option Bool)):Ann:=let q3:=(inR .i64 (((i1:Nat):Int)+1));let q1:=(za6 x0.f x0.custom x1).getD i1 default;let q2:=heirList.mk x0.f x0.custom x0.year j1.1 j1.2 v1.2.2;let q5:=zb1 x0.f q1 x0.year;let q4:=zdg m q2 q1;.reg 1 [] [] [0,5,27,28,29,89] [1027,40006,900000,900002,900003] [!q5,zb1 x0.f q1 x0.year] [] [] [1,1,1,1,6] (cn (q5||x0.custom.represent) (.reg 1 [] [(2,kr82 m 92 [900000,40006,900002,900003] q2 q1)] [0,27,28,29] [1027,1092,900000,900002,900003] [] [] [] [0] (r1 1 [0,27,28,29] [1027,1092,900000,900002,900003] [pf q3] [0] (.next 0 [(30006,some 1092),(900002,some 900002),(900003,some 900003)] (D82b1 m x0 x1 (i1+1) (q4.1,q4.2.1,q4.2.2))))) (r1 1 [0,27,28,29] [1027,40006,900000,900002,900003] [pf q3] [0] (.next 0 [(30006,some 40006),(900002,some 900002),(900003,some 900003)] (D82b1 m x0 x1 (i1+1) (j1.1,j1.2,v1.2.2)))))
def A82b1(m:Nat)(x0:heirList)(x1:Int)(i1:Nat)(v1:(List Int)×(KV→Option Bool)×(KV→Option Bool)):Ann:=let q3:=((i1:Nat):Int);let q1:=(za6 x0.f x0.custom x1).getD i1 default;let q2:=(((za6 x0.f x0.custom x1).length:Nat):Int);r0 1 [0,27,28,29,30] [1027,30006,900000,900002,900003] (cn (decide (q3<q2)) (r1 1 [0,5,27,28,29] [1027,30006,900000,900002,900003] [pf (0≤(q3:Int)∧(q3:Int)<q2)] [0] (r1 1 [0,5,27,28,29,46] [1027,30006,900000,900002,900003] [pf (0≤(q1:Int)∧(q1:Int)<((x0.f.people.length:Nat):Int))] [0] (cn (decide (x0.year<((x0.f.people.getD (q1.toNat) default).born))) (r1 1 [0,27,28,29] [1027,30006,900000,900002,900003] [pf (inR .i64 (q3+1))] [0] (.next 0 [(30006,some 30006),(900002,some 900002),(900003,some 900003)] (D82b1 m x0 x1 (i1+1) (v1.1,v1.2.1,v1.2.2)))) (.reg 1 [] [(9,k83 x0.f q1 x0.year)] [0,5,6,27,28,29] [1027,30006,900000,900002,900003] [] [] [] [0] (.join 0 ((List Int)×(KV→Option Bool)) (D82j1 m x0 x1 i1 v1) [0,5,6,27,28,29] [900000,900002,900003,1027] (.reg 1 [] [] [0,5,6,27,28,29,66] [1027,30006,900000,900002,900003] [zb1 x0.f q1 x0.year] [] [] [1,1,1,1,1,1,1] (cn ((zb1 x0.f q1 x0.year)&&(!((v1.2.1 (KV.i q1)).getD false))) (r0 1 [0,5,6,27,28,29] [1027,30006,900000,900002,900003] (.reg 1 [] [(6,bsC 78 (cInt .i64) ([q1]:List Int)),(7,ap1 79 (cInt .i64) 8 v1.1 q1)] [0,5,6,27,28,29] [79,1027,900000,900002,900003] [] [] [] [0,4] (.next 0 [(40006,some 79),(900002,some 900002)] (D82j1 m x0 x1 i1 v1 ((v1.1++[q1]),mset v1.2.1 (KV.i q1) true))))) (.next 0 [(40006,some 30006),(900002,some 900002)] (D82j1 m x0 x1 i1 v1 (v1.1,v1.2.1))))) (A82j1 m x0 x1 i1 v1)))))) (rt [(900002,some 900002),(900003,some 900003),(900000,some 900000),(0,some 30006)] (C82 x0 x1 (v1.1,v1.2.1,v1.2.2))))
def A82(m:Nat)(x0:heirList)(x1:Int):Ann:=r0 1 [0,1,12] [900000,900001,900002,900003] (cn ((x0.gone (KV.i x1)).getD false) (rt [(900002,some 900002),(900003,some 900003),(900000,some 900000),(0,some 900001)] (C82 x0 x1 (x0.list,x0.listed,x0.gone))) (.reg 2 [] [(1009,k105 x0.f x0.custom x1)] [0,27,28,29] [1027,900000,900001,900002,900003] [] [] [] [0] (lp (D82b1 m x0 x1) [] [900001] [(30006,some 900001),(900002,some 900002),(900003,some 900003)] (D82b1 m x0 x1 0 (x0.list,x0.listed,mset x0.gone (KV.i x1) true)) (A82b1 m x0 x1))))
theorem zpk : ∀(m : Nat) (h : heirList) (p : Int), zad h.f = true → (0 ≤ p ∧ p < h.f.people.length) → (h.f.people.length - p).toNat < m → HOk h.f h.list (mk2 h.listed) → HOk h.f (zdg m h p).1 (mk2 (zdg m h p).2.1) ∧ ∀c, mk2 h.listed c = true → mk2 (zdg m h p).2.1 c = true := by
 intro m;induction m with
 |zero =>intro h p _ _ hm _;exact absurd hm (oQ _)
 |succ m ih =>
  intro h p hf hp hm hh;rw[zdg];refine zaj (p:=fun (r:(List Int)×(KV→Option Bool)×(KV→Option Bool))=>HOk h.f r.1 (mk2 r.2.1)∧∀c,mk2 h.listed c=true→mk2 r.2.1 c=true) (fun _=>⟨hh,fun _ h=>h⟩) (fun _=>?_);refine za3 (fun i (v:(List Int)×(KV→Option Bool)×(KV→Option Bool))=>HOk h.f v.1 (mk2 v.2.1)∧∀c,mk2 h.listed c=true→mk2 v.2.1 c=true) (fun (r:(List Int)×(KV→Option Bool)×(KV→Option Bool))=>HOk h.f r.1 (mk2 r.2.1)∧∀c,mk2 h.listed c=true→mk2 r.2.1 c=true) ⟨hh,fun _ h=>h⟩ (fun i v next hi hv hn=>?_) (fun v hv=>hv);have hc:=zqo hf (x:=h.custom) hp.1 hi;refine zaj (p:=fun (r:(List Int)×(KV→Option Bool)×(KV→Option Bool))=>HOk h.f r.1 (mk2 r.2.1)∧∀c,mk2 h.listed c=true→mk2 r.2.1 c=true) (fun _=>hn _ hv) (fun _=>?_);refine jn_to (fun (j:(List Int)×(KV→Option Bool))=>HOk h.f j.1 (mk2 j.2)∧∀c,mk2 h.listed c=true→mk2 j.2 c=true) (fun (r:(List Int)×(KV→Option Bool)×(KV→Option Bool))=>HOk h.f r.1 (mk2 r.2.1)∧∀c,mk2 h.listed c=true→mk2 r.2.1 c=true) (fun K hK=>?_) (fun j hj=>?_)
  ·refine zaj (p := fun (r : (List Int) × (KV → Option Bool) × (KV → Option Bool)) => HOk h.f r.1 (mk2 r.2.1) ∧ ∀ c, mk2 h.listed c = true → mk2 r.2.1 c = true) (fun c => hK _ ?_) (fun _ => hK _ hv);simp only [oc, od] at c;exact ⟨hv.1.snoc vdh c.2 (by rw [zvo, if_pos rfl]) (zsk _ _), fun d hd => zsk _ _ d (hv.2 d hd)⟩
  refine zaj (p:=fun (r:(List Int)×(KV→Option Bool)×(KV→Option Bool))=>HOk h.f r.1 (mk2 r.2.1)∧∀c,mk2 h.listed c=true→mk2 r.2.1 c=true) (fun c=>hn _ ?_) (fun _=>hn _ hj);have:=ih (heirList.mk h.f h.custom h.year j.1 j.2 v.2.2) ((za6 h.f h.custom p).getD i default) hf vcT vcT hj.1;exact⟨this.1,fun d hd=>this.2 d (hj.2 d hd)⟩

theorem zh1(x0 : heirList)(x1 : Int)(hf : zad x0.f = true)(hp : 0 ≤ x1 ∧ x1 < x0.f.people.length)(hl : HOk x0.f x0.list (mk2 x0.listed)) : FnMT Tryz.prog 82 [.vp 900000 0, .int .i64 x1] [.var [.ro false 6 x0.f.people.length (rowOf (zah false) x0.f.people), .ro false 4 x0.f.unions.length (rowOf (zas false) x0.f.unions), .int .i64 x0.custom.prefer, .bool x0.custom.youngest, .bool x0.custom.represent, .int .i64 x0.year, .own 900001, .mp 900002, .mp 900003], .arr 1 x0.list.length (rowOf (cInt .i64) x0.list), .mp (.int .i64) (.b x0.listed), .mp (.int .i64) (.b x0.gone)] (C82 x0 x1 (below x0 x1)) := by
 have all : ∀(m : Nat) (x0 : heirList) (x1 : Int) (hf : zad x0.f = true) (hp : 0 ≤ x1 ∧ x1 < x0.f.people.length) (hl : HOk x0.f x0.list (mk2 x0.listed)) (hm : (x0.f.people.length - x1).toNat < m), FnMT Tryz.prog 82 [.vp 900000 0, .int .i64 x1] [.var [.ro false 6 x0.f.people.length (rowOf (zah false) x0.f.people), .ro false 4 x0.f.unions.length (rowOf (zas false) x0.f.unions), .int .i64 x0.custom.prefer, .bool x0.custom.youngest, .bool x0.custom.represent, .int .i64 x0.year, .own 900001, .mp 900002, .mp 900003], .arr 1 x0.list.length (rowOf (cInt .i64) x0.list), .mp (.int .i64) (.b x0.listed), .mp (.int .i64) (.b x0.gone)] (C82 x0 x1 (zdg m x0 x1)) := by
  intro m;induction m
  ·intros; exact absurd vc9 (oQ _)
  rename_i m ih;intro x0 x1 hf hp hl hm;have aux : ∀R, zdg (m + 1) x0 x1 = R → slim (C82 x0 x1 R) (A82 m x0 x1) [] := by
   intro R hR;rw[zdg] at hR;refine rT ?_;refine cd (fun hc1 hR=>?_) (fun hc1 hR=>?_) hR
   ·exact oe (C82 x0 x1) hR
   refine rg ⟨by(with_reducible exact(fam_n hf).1),trivial⟩ ?_;refine lN (fun i v=>HOk x0.f v.1 (mk2 v.2.1)) vcA rfl (fun i1 v1 F1 hn1 hI1 hR hK1=>?_) hR;refine rT ?_;refine⟨fun hc2=>?_,fun hc2=>?_⟩
   ·have hii1 : i1 < (za6 x0.f x0.custom x1).length := vcI;replace hR := zai hR hii1;refine rg ⟨vc4, trivial⟩ ?_;refine rg ⟨by (have h9 := zqo hf (x := x0.custom) hp.1 hii1; have h8 := fam_n hf; omega), trivial⟩ ?_;refine cd (fun hc3 hR => ?_) (fun hc3 hR => ?_) hR
    ·refine rg ⟨by (have h9 := zva hf x0.custom x1; simp only [inR]; omega), trivial⟩ ?_;exact hK1 (v1.1, v1.2.1, v1.2.2) hii1 vcA hR
    refine rg ⟨⟨by(have h9:=fam_n hf;have h8:=hI1.len;omega),by(have h9:=zqo hf (x:=x0.custom) hp.1 hii1;have h8:=fam_n hf;omega)⟩,trivial⟩ ?_;refine jN (fun v=>HOk x0.f v.1 (mk2 v.2)) (fun F101 hR hJ101=>?_) (fun j1 hR hJ1=>?_) hR
    ·refine rT ?_;refine cd (fun hc4 hR => ?_) (fun hc4 hR => ?_) hR
     ·refine rT ?_;refine rg ⟨trivial, by (have h9 := fam_n hf; have h8 := hI1.len; omega), trivial⟩ ?_;exact hJ101 _ hR (by (have h9 := zqo hf (x := x0.custom) hp.1 hii1; simp only [oc, od] at hc4; have h8 : mk2 v1.2.1 ((za6 x0.f x0.custom x1).getD i1 default) = false := hc4.2; with_reducible exact hI1.snoc vdh h8 (by rw [zvo, if_pos rfl]) (zsk _ _)))
     exact hJ101 _ hR vcA
    refine rT ?_;refine cd (fun hc5 hR=>?_) (fun hc5 hR=>?_) hR
    ·refine rg ⟨ih (heirList.mk x0.f x0.custom x0.year j1.1 j1.2 v1.2.2) ((za6 x0.f x0.custom x1).getD i1 default) vcA vb1 vcA vb1, trivial⟩ ?_;refine rg ⟨by (have h9 := zva hf x0.custom x1; simp only [inR]; omega), trivial⟩ ?_;exact hK1 ((zdg m (heirList.mk x0.f x0.custom x0.year j1.1 j1.2 v1.2.2) ((za6 x0.f x0.custom x1).getD i1 default)).1, (zdg m (heirList.mk x0.f x0.custom x0.year j1.1 j1.2 v1.2.2) ((za6 x0.f x0.custom x1).getD i1 default)).2.1, (zdg m (heirList.mk x0.f x0.custom x0.year j1.1 j1.2 v1.2.2) ((za6 x0.f x0.custom x1).getD i1 default)).2.2) hii1 (by (have h9 := zqo hf (x := x0.custom) hp.1 hii1; with_reducible exact (zpk m (heirList.mk x0.f x0.custom x0.year j1.1 j1.2 v1.2.2) ((za6 x0.f x0.custom x1).getD i1 default) hf vcQ vcQ hJ1).1)) hR
    refine rg ⟨by(have h9:=zva hf x0.custom x1;simp only[inR];omega),trivial⟩ ?_;exact hK1 (j1.1,j1.2,v1.2.2) hii1 vcA hR
   obtain rfl:i1=(za6 x0.f x0.custom x1).length:=vcP;replace hR:=zaq hR (oR _);exact oe (C82 x0 x1) hR
  exact FnM.go 94 Tryz.func82 zaa zaa (A82 m x0 x1) zaa (aux _ rfl)
 exact all 100 x0 x1 hf hp hl (by have h:=fam_n hf;omega)
def k82(d:Nat)(ids:List Nat)(x0:heirList)(x1:Int):Cl:=(hresM d ids (C82 x0 x1 (below x0 x1)),k3 (zh1 x0 x1))
def C81(R:Int):LV×List (Nat×BC):=(.int .i64 R,[])
def wayUp(x0:yc)(x1:yg)(x2:Int):Int:=bif(decide (x1.prefer=3)) then((x0.people.getD x2.toNat default).father) else(bif(decide (x1.prefer=4)) then((x0.people.getD x2.toNat default).mother) else(bif(decide (0≤((x0.people.getD x2.toNat default).father))) then((x0.people.getD x2.toNat default).father) else((x0.people.getD x2.toNat default).mother)))
def A81(x0:yc)(x1:yg)(x2:Int):Ann:=let q2:=x0.people.getD x2.toNat default;let q4:=rt [] (C81 (q2.mother));let q1:=(0≤(x2:Int)∧(x2:Int)<((x0.people.length:Nat):Int));let q3:=(r1 1 [2,3,6] [3] [pf q1] [0] (rt [] (C81 (q2.father))));r0 1 [2,3,4,6] [3,4] (r0 1 [2,3,6,8] [3] (r0 1 [2,3,6,8,9] [3] (cn (decide (x1.prefer=3)) q3 (r0 1 [2,3,6,17] [3] (cn (decide (x1.prefer=4)) (r1 1 [2,3,6] [3] [pf q1] [0] q4) (r1 1 [2,3,6,31] [3] [pf q1] [0] (cn (decide (0≤(q2.father))) q3 (r1 1 [6] [] [pf q1] [0] q4))))))))
theorem zsa(x0 : yc)(x1 : yg)(x2 : Int)(hx : x0.people.length ≤ 1048576)(h1 : 0 ≤ x2 ∧ x2 < x0.people.length) : FnT Tryz.prog 81 [.agg (zaw false x0), .agg (zcq false x1), .int .i64 x2] (C81 (wayUp x0 x1 x2)) := by
 have aux : ∀R, wayUp x0 x1 x2 = R → slim (C81 R) (A81 x0 x1 x2) [] := by
  intro R hR;refine rT ?_;refine rT ?_;refine rT ?_;refine cd (fun hc1 hR=>?_) (fun hc1 hR=>?_) hR
  ·refine rg ⟨vdg, trivial⟩ ?_;exact oe C81 hR
  refine rT ?_;refine cd (fun hc2 hR=>?_) (fun hc2 hR=>?_) hR
  ·refine rg ⟨vdg, trivial⟩ ?_;exact oe C81 hR
  refine rg ⟨vdg,trivial⟩ ?_;refine cd (fun hc3 hR=>?_) (fun hc3 hR=>?_) hR
  ·refine rg ⟨vdg, trivial⟩ ?_;exact oe C81 hR
  refine rg ⟨vdg,trivial⟩ ?_;exact oe C81 hR
 exact Fn.go 44 Tryz.func81 zaa zaa (by simp[C81,Frs,FrsL]) (A81 x0 x1 x2) zaa (aux _ rfl)
def k81(x0:yc)(x1:yg)(x2:Int):Cl:=(hres (C81 (wayUp x0 x1 x2)),k2 (zsa x0 x1 x2))
end Go.Proofs.YtnibbmmljamolaaGreat
