import Derived.Test.YtnibbmmljamolaaGreatM280
set_option maxHeartbeats 4000000
set_option linter.unusedSimpArgs false
set_option linter.unusedVariables false
namespace Go.Proofs.YtnibbmmljamolaaGreat
open Go Go.Lite Go.Proofs
def C39(R:yk):LV×List (Nat×BC):=(.agg [.int .i64 R.size,.own 0],[(0,.nest 1 true 1 R.rows.length (nrOf (cInt .i64) R.rows))])
def zcd(x0:yc)(x1:yi):yk:=loopN (fun i1 (v1:(KV→Option Bool)) next=>bif(decide (x1.kind=7)) then(next (mset v1 (KV.p ((x0.unions.getD i1 default).woman) ((x0.unions.getD i1 default).man)) true)) else(bif(decide (x1.kind=8)) then(next (mset v1 (KV.p ((x0.unions.getD i1 default).man) ((x0.unions.getD i1 default).woman)) true)) else(next v1))) (fun (v1:(KV→Option Bool))=>(zfm ((x0.people.length:Nat):Int) (x0,x1,v1))) x0.unions.length 0 (fun _=>none)
def D39b1(i1:Nat)(v1:(KV→Option Bool)):Dl:=⟨[(12,.int .i64 ((i1:Nat):Int))],[(30500,.mp .pair (.b v1)),(5,.var [.mp 30500])]⟩
def A39b1(x0:yc)(x1:yi)(i1:Nat)(v1:(KV→Option Bool)):Ann:=let q1:=((i1:Nat):Int);let q2:=x0.unions.getD i1 default;let q4:=((x0.unions.length:Nat):Int);let q5:=((x0.people.length:Nat):Int);let q3:=inR .i64 (q1+1);r0 1 [2,3,4,5,10,11,12,13] [2,3,4,5,30500] (cn (decide (q1<q4)) (r1 2 [2,3,4,5,7,10,11,12,17] [2,3,4,5,7,30500] [pf (0≤(q1:Int)∧(q1:Int)<q4)] [0] (r0 1 [2,3,4,5,7,10,11,12,17,18] [2,3,4,5,7,30500] (cn (decide (x1.kind=7)) (r0 1 [2,3,4,5,10,11,12] [2,3,4,5,30500] (r1 1 [2,3,4,5,10,11,12] [2,3,4,5,30500] [pf q3] [0] (.next 0 [(30500,some 30500)] (D39b1 (i1+1) (mset v1 (KV.p (q2.woman) (q2.man)) true))))) (r0 1 [2,3,4,5,7,10,11,12,26] [2,3,4,5,7,30500] (cn (decide (x1.kind=8)) (r0 1 [2,3,4,5,10,11,12] [2,3,4,5,30500] (r1 1 [2,3,4,5,10,11,12] [2,3,4,5,30500] [pf q3] [0] (.next 0 [(30500,some 30500)] (D39b1 (i1+1) (mset v1 (KV.p (q2.man) (q2.woman)) true))))) (r1 1 [2,3,4,5,10,11,12] [2,3,4,5,30500] [pf q3] [0] (.next 0 [(30500,some 30500)] (D39b1 (i1+1) v1)))))))) (.reg 1 [] [(4,k36S q5 (x0,x1,v1))] [4] [4,1039] [] [] [] [0] (rt [(0,some 1039)] (C39 (zfm q5 (x0,x1,v1))))))
def A39(x0:yc)(x1:yi):Ann:=r0 2 [2,3,4,5] [2,3,4,5,8] (r0 1 [2,3,4,5,10,11,12] [2,3,4,5,8] (lp (D39b1) [] [8] [(30500,some 8)] (D39b1 0 (fun _=>none)) (A39b1 x0 x1)))
theorem zjo(x0 : yc)(x1 : yi)(hx : x0.people.length ≤ 1048576)(hu : x0.unions.length ≤ 1048576) : FnT Tryz.prog 39 [.agg (zaw false x0), .agg (cStep false x1)] (C39 (zcd x0 x1)) := by
 have aux : ∀R, zcd x0 x1 = R → slim (C39 R) (A39 x0 x1) [] := by
  intro R hR;refine rT ?_;refine rT ?_;refine lN (fun i v=>True) vdg rfl (fun i1 v1 F1 hn1 hI1 hR hK1=>?_) hR;refine rT ?_;refine⟨fun hc1=>?_,fun hc1=>?_⟩
  ·have hii1 : i1 < x0.unions.length := vcH;replace hR := zai hR hii1;refine rg ⟨vc4, trivial⟩ ?_;refine rT ?_;refine cd (fun hc2 hR => ?_) (fun hc2 hR => ?_) hR
   ·refine rT ?_;refine rg ⟨vcq, trivial⟩ ?_;exact hK1 (mset v1 (KV.p ((x0.unions.getD i1 default).woman) ((x0.unions.getD i1 default).man)) true) hii1 vdg hR
   refine rT ?_;refine cd (fun hc3 hR=>?_) (fun hc3 hR=>?_) hR
   ·refine rT ?_;refine rg ⟨vcq, trivial⟩ ?_;exact hK1 (mset v1 (KV.p ((x0.unions.getD i1 default).man) ((x0.unions.getD i1 default).woman)) true) hii1 vdg hR
   refine rg ⟨vcx,trivial⟩ ?_;exact hK1 v1 hii1 vdg hR
  obtain rfl:i1=x0.unions.length:=by have:=oB hc1;omega
  replace hR:=zaq hR (oR _);refine rg ⟨⟨vcx,vdg⟩,trivial⟩ ?_;exact oe C39 hR
 exact Fn.go 40 Tryz.func39 zaa zaa (by simp[C39,FrsN,nrOf,Frs,FrsL,FrsB,rowOf,cInt,cBool,cStr,cSl,zbd,zah,zas,zaw,cDyad,cLaw,zcc,zcq,ze6,zdu,cStep,zc7,zbn]) (A39 x0 x1) zaa (aux _ rfl)
def k39(x0:yc)(x1:yi):Cl:=(hres (C39 (zcd x0 x1)),k2 (zjo x0 x1))
def C38(R:yk):LV×List (Nat×BC):=(.agg [.int .i64 R.size,.own 0],[(0,.nest 1 true 1 R.rows.length (nrOf (cInt .i64) R.rows))])
def zff(x0:yk)(x1:yk):yk:=bif(!(zmk x0 x1)) then(yk.mk 0 ([]:List (List Int))) else(zjc x0.size (x0,x1))
def A38(x0:yk)(x1:yk):Ann:=r0 1 [2,3,4] [2,3,4] (.reg 1 [] [(2,k65 x0 x1)] [2,3,4,8] [2,3,4] [] [] [] [0] (cn (!(zmk x0 x1)) (r0 1 [2,3,4] [2,3,4] (rt [(0,none)] (C38 (yk.mk 0 ([]:List (List Int)))))) (.reg 1 [] [(3,k36C x0.size (x0,x1))] [4] [4,1013] [] [] [] [0] (rt [(0,some 1013)] (C38 (zjc x0.size (x0,x1)))))))
theorem zhk(x0 : yk)(x1 : yk)(hx : x0.rows.length ≤ 1048576 ∧ ∀y ∈ x0.rows, y.length ≤ 1048576)(hy : x1.rows.length ≤ 1048576 ∧ ∀y ∈ x1.rows, y.length ≤ 1048576) : FnT Tryz.prog 38 [.agg (zbn false x0), .agg (zbn false x1)] (C38 (zff x0 x1)) := by
 have aux : ∀R, zff x0 x1 = R → slim (C38 R) (A38 x0 x1) [] := by
  intro R hR;refine rT ?_;refine rg ⟨⟨vcA,vcA⟩,trivial⟩ ?_;refine cd (fun hc1 hR=>?_) (fun hc1 hR=>?_) hR
  ·refine rT ?_;exact oe C38 hR
  refine rg ⟨⟨by((try clear hR);intros;(try simp only[ob,oa,oj,oc,zar,zan,not_t_iff,od,inR] at *);(repeat' apply And.intro)<;>(have h9:=zzk vcW;omega)),by(have h9:=zzk vcW;exact fun y h8=>⟨hx.2 y h8,h9.2.2.2 y h8⟩),by(exact hy.2)⟩,trivial⟩ ?_;exact oe C38 hR
 exact Fn.go 14 Tryz.func38 zaa zaa (by simp[C38,FrsN,nrOf,Frs,FrsL,FrsB,rowOf,cInt,cBool,cStr,cSl,zbd,zah,zas,zaw,cDyad,cLaw,zcc,zcq,ze6,zdu,cStep,zc7,zbn]) (A38 x0 x1) zaa (aux _ rfl)
def k38(x0:yk)(x1:yk):Cl:=(hres (C38 (zff x0 x1)),k2 (zhk x0 x1))
theorem zu4{n:Int}{c:yj×yc}(h:n≤1048576):RelOk 1048576 (zee n c):=by rw[zn0];exact zlu vdh _ _
def zrw(x:yc)(s:yi):KV→Option Bool:=loopN (fun i1 (v1:(KV→Option Bool)) next=>bif(decide (s.kind=7)) then(next (mset v1 (KV.p ((x.unions.getD i1 default).woman) ((x.unions.getD i1 default).man)) true)) else(bif(decide (s.kind=8)) then(next (mset v1 (KV.p ((x.unions.getD i1 default).man) ((x.unions.getD i1 default).woman)) true)) else(next v1))) (fun v=>v) x.unions.length 0 (fun _=>none)
theorem zox{S α : Type}(g : Nat → S → (S → α) → α)(f : Nat → S → S)(hg : ∀i s next, g i s next = next (f i s))(k : S → α) : ∀m i s, loopN g k m i s = k (loopN (fun i s next => next (f i s)) (fun s => s) m i s)
  |0,i,s=>rfl
  |m+1,i,s=>by simp only[loopN];rw[hg];exact zox g f hg k m (i+1) (f i s)
theorem zj4(x : yc)(s : yi) : zcd x s = yk.mk (x.people.length : Int) (zbr x.people.length fun a b => zex a b x s (zrw x s)) := by
 have hg:∀{α:Type} (i:Nat) (v:KV→Option Bool) (next:(KV→Option Bool)→α),(bif(decide (s.kind=7)) then(next (mset v (KV.p ((x.unions.getD i default).woman) ((x.unions.getD i default).man)) true)) else(bif(decide (s.kind=8)) then(next (mset v (KV.p ((x.unions.getD i default).man) ((x.unions.getD i default).woman)) true)) else(next v)))=next (bif(decide (s.kind=7)) then(mset v (KV.p ((x.unions.getD i default).woman) ((x.unions.getD i default).man)) true) else(bif(decide (s.kind=8)) then(mset v (KV.p ((x.unions.getD i default).man) ((x.unions.getD i default).woman)) true) else v)):=fun i v next=>by cases decide (s.kind=7)<;>cases decide (s.kind=8)<;>rfl
 have e:zcd x s=zfm ((x.people.length:Nat):Int) (x,s,zrw x s):=by unfold zcd zrw;rw[zox _ _ (fun i v next=>hg i v next),zox (fun i1 (v1:(KV→Option Bool)) next=>bif(decide (s.kind=7)) then(next (mset v1 (KV.p ((x.unions.getD i1 default).woman) ((x.unions.getD i1 default).man)) true)) else(bif(decide (s.kind=8)) then(next (mset v1 (KV.p ((x.unions.getD i1 default).man) ((x.unions.getD i1 default).woman)) true)) else(next v1))) _ (fun i v next=>hg i v next) (fun v=>v)]
 rw[e,zu3];rfl
theorem zuy{x:yc}(h:x.people.length≤1048576)(s:yi):RelOk 1048576 (zcd x s):=by rw[zj4];exact zlu h _ _
theorem zy7{r s:yk}:RelOk 1048576 (zff r s):=by unfold zff;refine zaj (p:=RelOk 1048576) (fun _=>⟨Nat.zero_le _,fun y hy=>absurd hy Oa⟩) (fun c=>?_);have h:=zzk (r:=r) (s:=s) (by simpa using c);rw[zn1];exact zlu vdh _ _
theorem zsp{α:Type}(l:List α)(k:Nat)(d:α)(h:k<l.length):l[k]=l.getD k d:=by rw[oi,ol h];rfl
theorem zq5{n : Nat}(h : n ≤ 40)(is : Int → Int → Bool) : zde (yk.mk (n : Int) (zbr n is)) = true := by
 unfold zde;refine zaj (p:=fun (b:Bool)=>b=true) (fun c=>?_) (fun _=>?_)
 ·exfalso;dsimp only at c;simp only [zgd, oj, ob, od, oa] at c;rcases c with (c | c) | c
  ·omega
  ·omega
  exact c trivial
 refine za3 (fun _ _ => True) (fun (b : Bool) => b = true) trivial (fun i v next hi _ hn => ?_) (fun _ _ => rfl);rw [show (yk.mk (n : Int) (zbr n is)).rows = zbr n is from rfl, zgd] at hi;refine (zdb _ _ _).2 ⟨fun j hj => ?_, hn _ trivial⟩;have hs : ((zbr n is).getD i default).Pairwise (· < ·) := by rw [zj5 n is hi, List.pairwise_map];exact (List.pairwise_lt_range.filter _).imp (fun {a b} h => vdh)
 have hm:=(zn4 (is:=is) hi).1 (zbf (d:=default) hj);simp only[zar,oa];refine⟨⟨vdh,vdh⟩,?_⟩;cases c:decide (0<((j:Nat):Int)) with
 |false =>rfl
 |true =>have c:=om c;have hj:j<((zbr n is).getD i default).length:=hj;have h1:=List.pairwise_iff_getElem.1 hs (j - 1) j vdh hj vdh;rw[zsp _ _ default,zsp _ _ default] at h1;rw[Bool.true_and,oa,show(((j:Nat):Int) - 1).toNat=j - 1 by omega];omega
theorem zum{n:Nat}(h:n≤40)(p q:Int→Int→Bool):zff (yk.mk (n:Int) (zbr n p)) (yk.mk (n:Int) (zbr n q))=yk.mk (n:Int) (zbr n fun a b=>zfn a b (yk.mk (n:Int) (zbr n p)) (yk.mk (n:Int) (zbr n q))):=by unfold zff zmk;rw[zq5 h,zq5 h,oM rfl,zn1];rfl
def relIs(x : yc)(t : yj) : Nat → Int → Int → Bool
  |0=>fun a b=>zge a b t x
  |i+1=>fun a b=>zfn a b (yk.mk (x.people.length:Int) (zbr x.people.length (relIs x t i))) (zcd x (t.steps.getD i default))
def C15(R:yk):LV×List (Nat×BC):=(.agg [.int .i64 R.size,.own 0],[(0,.nest 1 true 1 R.rows.length (nrOf (cInt .i64) R.rows))])
def zeo(x0:yc)(x1:yj):yk:=bif((!(zbh x0))||(!(zfc x1))) then(yk.mk 0 ([]:List (List Int))) else(loopN (fun i1 (v1:Int×(List (List Int))) next=>next ((zff (yk.mk v1.1 v1.2) (zcd x0 (x1.steps.getD i1 default))).size,(zff (yk.mk v1.1 v1.2) (zcd x0 (x1.steps.getD i1 default))).rows)) (fun (v1:Int×(List (List Int)))=>(yk.mk v1.1 v1.2)) x1.steps.length 0 ((zee ((x0.people.length:Nat):Int) (x1,x0)).size,(zee ((x0.people.length:Nat):Int) (x1,x0)).rows))
def D15b1(i1:Nat)(v1:Int×(List (List Int))):Dl:=⟨[(25,.int .i64 ((i1:Nat):Int))],[(30501,.nest 1 true 1 v1.2.length (nrOf (cInt .i64) v1.2)),(5,.var [.int .i64 v1.1,.own 30501])]⟩
def A15b1(x0:yc)(x1:yj)(i1:Nat)(v1:Int×(List (List Int))):Ann:=let q2:=((i1:Nat):Int);let q4:=((x1.steps.length:Nat):Int);let q1:=zcd x0 (x1.steps.getD i1 default);let q3:=zff (yk.mk v1.1 v1.2) q1;r0 1 [2,4,5,23,24,25,26] [2,4,5,30501] (cn (decide (q2<q4)) (r1 1 [2,4,5,7,23,24,25] [2,4,5,7,30501] [pf (0≤(q2:Int)∧(q2:Int)<q4)] [0] (.reg 1 [] [(3,k39 x0 (x1.steps.getD i1 default)),(4,k38 (yk.mk v1.1 v1.2) q1)] [2,4,5,23,24,25] [2,4,5,1033] [] [] [] [0,4] (r1 1 [2,4,5,23,24,25] [2,4,5,1033] [pf (inR .i64 (q2+1))] [0] (.next 0 [(30501,some 1033)] (D15b1 (i1+1) (q3.size,q3.rows)))))) (r0 1 [4] [4,30501] (rt [(0,some 30501)] (C15 (yk.mk v1.1 v1.2)))))
def A15(x0:yc)(x1:yj):Ann:=let q2:=zbh x0;let q1:=((x0.people.length:Nat):Int);r0 1 [2,3,4] [2,3,4] (.reg 1 [] [(1,k23 x0),(5,cg (!(!q2)) (k35 x1))] [2,3,4,15] [2,3,4] [!(!q2),!q2] [] [] [0,1,4,1,6] (cn ((!q2)||(!(zfc x1))) (r0 1 [2,3,4] [2,3,4] (rt [(0,none)] (C15 (yk.mk 0 ([]:List (List Int)))))) (.reg 1 [] [(4,k36F q1 (x1,x0))] [2,3,4,5] [2,3,4,5,1021] [] [] [] [0] (r0 1 [2,4,5,23,24,25] [2,4,5,1021] (lp (D15b1) [] [1021] [(30501,some 1021)] (D15b1 0 ((zee q1 (x1,x0)).size,(zee q1 (x1,x0)).rows)) (A15b1 x0 x1))))))
theorem zj9(x0 : yc)(x1 : yj)(hx : x0.people.length ≤ 1048576)(hu : x0.unions.length ≤ 1048576)(hn : ∀p ∈ x0.people, p.name.length ≤ 1048576)(hs : x1.steps.length ≤ 1048576) : FnT Tryz.prog 15 [.agg (zaw false x0), .agg (zc7 false x1)] (C15 (zeo x0 x1)) := by
 have aux : ∀R, zeo x0 x1 = R → slim (C15 R) (A15 x0 x1) [] := by
  intro R hR;refine rT ?_;refine rg ⟨⟨vcA,vcA,vcA⟩,fun hg0=>by with_reducible assumption,trivial⟩ ?_;refine cd (fun hc1 hR=>?_) (fun hc1 hR=>?_) hR
  ·refine rT ?_;exact oe C15 hR
  refine rg ⟨⟨vcx,vcA⟩,trivial⟩ ?_;refine rT ?_;refine lN (fun i v=>RelOk 1048576 (yk.mk v.1 v.2)) (by(exact zu4 (n:=(x0.people.length:Int)) vdh)) rfl (fun i1 v1 F1 hn1 hI1 hR hK1=>?_) hR;refine rT ?_;refine⟨fun hc2=>?_,fun hc2=>?_⟩
  ·have hii1 : i1 < x1.steps.length := vcI;replace hR := zai hR hii1;refine rg ⟨vc4, trivial⟩ ?_;refine rg ⟨⟨vcA, vcA⟩, ⟨by (exact hI1), by (exact zuy hx _)⟩, trivial⟩ ?_;refine rg ⟨vcq, trivial⟩ ?_;exact hK1 ((zff (yk.mk v1.1 v1.2) (zcd x0 (x1.steps.getD i1 default))).size, (zff (yk.mk v1.1 v1.2) (zcd x0 (x1.steps.getD i1 default))).rows) hii1 (by (exact zy7 (r := yk.mk v1.1 v1.2) (s := zcd x0 (x1.steps.getD i1 default)))) hR
  obtain rfl:i1=x1.steps.length:=by have:=oB hc2;omega
  replace hR:=zaq hR (oR _);refine rT ?_;exact oe C15 hR
 exact Fn.go 36 Tryz.func15 zaa zaa (by simp[C15,FrsN,nrOf,Frs,FrsL,FrsB,rowOf,cInt,cBool,cStr,cSl,zbd,zah,zas,zaw,cDyad,cLaw,zcc,zcq,ze6,zdu,cStep,zc7,zbn]) (A15 x0 x1) zaa (aux _ rfl)
def k15(x0:yc)(x1:yj):Cl:=(hres (C15 (zeo x0 x1)),Go.Lite.k4 (zj9 x0 x1))
theorem zz3{x:yc}{t:yj}(h:zad x=true)(ht:zfc t=true):zeo x t=yk.mk (x.people.length:Int) (zbr x.people.length (relIs x t t.steps.length)):=by have hn:=(fam_n h).1;unfold zeo;rw[zek,h,ht];simp only[Bool.not_true,Bool.or_false,oD];refine za3 (fun i (v:Int×List (List Int))=>yk.mk v.1 v.2=yk.mk (x.people.length:Int) (zbr x.people.length (relIs x t i))) (fun (r:yk)=>r=yk.mk (x.people.length:Int) (zbr x.people.length (relIs x t t.steps.length))) (zn0 _ _) (fun i v next hi hv hn2=>hn2 _ ?_) (fun v hv=>hv);show zff (yk.mk v.1 v.2) (zcd x (t.steps.getD i default))=_;rw[hv,zj4,zum hn];show _=yk.mk _ (zbr _ fun a b=>zfn a b _ (zcd x (t.steps.getD i default)));rw[zj4]
def C19(R:Bool):LV×List (Nat×BC):=(.bool R,[])
def zez(x0:List yh)(x1:List yh):Bool:=bif(!decide (((x0.length:Nat):Int)=((x1.length:Nat):Int))) then false else(loopN (fun i1 (v1:Unit) next=>bif(!((decide (((x0.getD i1 default).person)=((x1.getD i1 default).person)))&&((decide (((x0.getD i1 default).num)=((x1.getD i1 default).num)))&&((decide (((x0.getD i1 default).den)=((x1.getD i1 default).den)))&&true)))) then false else(next ())) (fun (v1:Unit)=>true) x0.length 0 ())
def D19b1(i1:Nat)(v1:Unit):Dl:=⟨[(13,.int .i64 ((i1:Nat):Int))],[]⟩
def A19b1(x0:List yh)(x1:List yh)(i1:Nat)(v1:Unit):Ann:=let q1:=((i1:Nat):Int);let q2:=x0.getD i1 default;let q3:=x1.getD i1 default;let q4:=((x0.length:Nat):Int);let q5:=(q1:Int);r0 1 [0,1,4,12,13,14] [] (cn (decide (q1<q4)) (r1 2 [0,1,4,12,13,24] [] [pf (0≤q5∧q5<q4),pf (0≤q5∧q5<((x1.length:Nat):Int))] [0,4] (cn (!((decide ((q2.person)=(q3.person)))&&((decide ((q2.num)=(q3.num)))&&((decide ((q2.den)=(q3.den)))&&true)))) (r0 1 [0,1,4,12,13] [] (rt [] (C19 false))) (r1 1 [0,1,4,12,13] [] [pf (inR .i64 (q1+1))] [0] (.next 0 [] (D19b1 (i1+1) ()))))) (r0 1 [4] [] (rt [] (C19 true))))
def A19(x0:List yh)(x1:List yh):Ann:=r0 1 [0,1,4] [] (r0 1 [0,1,4,10] [] (cn (!decide (((x0.length:Nat):Int)=((x1.length:Nat):Int))) (r0 1 [0,1,4] [] (rt [] (C19 false))) (r0 1 [0,1,4,12,13] [] (lp (D19b1) [] [] [] (D19b1 0 ()) (A19b1 x0 x1)))))
theorem zp5(x0 : List yh)(x1 : List yh)(hx : x0.length ≤ 1048576) : FnT Tryz.prog 19 [.ro false 3 x0.length (rowOf (zdu false) x0), .ro false 3 x1.length (rowOf (zdu false) x1)] (C19 (zez x0 x1)) := by
 have aux : ∀R, zez x0 x1 = R → slim (C19 R) (A19 x0 x1) [] := by
  intro R hR;refine rT ?_;refine rT ?_;refine cd (fun hc1 hR=>?_) (fun hc1 hR=>?_) hR
  ·refine rT ?_;exact oe C19 hR
  refine rT ?_;refine lN (fun i v=>True) vdg rfl (fun i1 v1 F1 hn1 hI1 hR hK1=>?_) hR;refine rT ?_;refine⟨fun hc2=>?_,fun hc2=>?_⟩
  ·have hii1 : i1 < x0.length := vcI;replace hR := zai hR hii1;refine rg ⟨vc4, va5, trivial⟩ ?_;refine cd (fun hc3 hR => ?_) (fun hc3 hR => ?_) hR
   ·refine rT ?_;exact oe C19 hR
   refine rg ⟨vcx,trivial⟩ ?_;exact hK1 () hii1 vdg hR
  obtain rfl:i1=x0.length:=by have:=oB hc2;omega
  replace hR:=zaq hR (oR _);refine rT ?_;exact oe C19 hR
 exact Fn.go 26 Tryz.func19 zaa zaa (by simp[C19,Frs,FrsL]) (A19 x0 x1) zaa (aux _ rfl)
def k19(x0:List yh)(x1:List yh):Cl:=(hres (C19 (zez x0 x1)),k1 (zp5 x0 x1))
def C28(R:Int×Bool):LV×List (Nat×BC):=(.tup [.int .i64 R.1,.bool R.2],[])
def findP(x0:yc)(x1:List UInt8):Int×Bool:=loopN (fun i1 (v1:Unit) next=>bif(((x0.people.getD i1 default).name)==x1) then(((i1:Nat):Int),true) else(next ())) (fun (v1:Unit)=>(0,false)) x0.people.length 0 ()
def D28b1(i1:Nat)(v1:Unit):Dl:=⟨[(11,.int .i64 ((i1:Nat):Int))],[]⟩
def A28b1(x0:yc)(x1:List UInt8)(i1:Nat)(v1:Unit):Ann:=let q1:=((i1:Nat):Int);let q2:=((x0.people.length:Nat):Int);r0 1 [1,4,5,9,10,11,12] [] (cn (decide (q1<q2)) (r1 2 [1,4,5,6,9,10,11,19] [] [pf (0≤(q1:Int)∧(q1:Int)<q2)] [0] (cn (((x0.people.getD i1 default).name)==x1) (r0 1 [1,4,5,9,10,11] [] (rt [] (C28 (q1,true)))) (r1 1 [1,4,5,9,10,11] [] [pf (inR .i64 (q1+1))] [0] (.next 0 [] (D28b1 (i1+1) ()))))) (r0 1 [4,5] [] (rt [] (C28 (0,false)))))
def A28(x0:yc)(x1:List UInt8):Ann:=r0 1 [1,2,4,5] [2] (r0 1 [1,4,5,9,10,11] [] (lp (D28b1) [] [] [] (D28b1 0 ()) (A28b1 x0 x1)))
theorem zk2(x0 : yc)(x1 : List UInt8)(hx : x0.people.length ≤ 1048576) : FnT Tryz.prog 28 [.agg (zaw false x0), .str x1] (C28 (findP x0 x1)) := by
 have aux : ∀R, findP x0 x1 = R → slim (C28 R) (A28 x0 x1) [] := by
  intro R hR;refine rT ?_;refine rT ?_;refine lN (fun i v=>True) vdg rfl (fun i1 v1 F1 hn1 hI1 hR hK1=>?_) hR;refine rT ?_;refine⟨fun hc1=>?_,fun hc1=>?_⟩
  ·have hii1 : i1 < x0.people.length := vcH;replace hR := zai hR hii1;refine rg ⟨vc4, trivial⟩ ?_;refine cd (fun hc2 hR => ?_) (fun hc2 hR => ?_) hR
   ·refine rT ?_;exact oe C28 hR
   refine rg ⟨vcx,trivial⟩ ?_;exact hK1 () hii1 vdg hR
  obtain rfl:i1=x0.people.length:=by have:=oB hc1;omega
  replace hR:=zaq hR (oR _);refine rT ?_;exact oe C28 hR
 exact Fn.go 22 Tryz.func28 zaa zaa (by simp[C28,Frs,FrsL]) (A28 x0 x1) zaa (aux _ rfl)
def k28(x0:yc)(x1:List UInt8):Cl:=(hres (C28 (findP x0 x1)),k1 (zk2 x0 x1))
def C12(R:Int×Bool):LV×List (Nat×BC):=(.tup [.int .i64 R.1,.bool R.2],[])
def zd0(x0:yc)(x1:List UInt8):Int×Bool:=bif(!(zbh x0)) then(0,false) else((findP x0 x1).1,(findP x0 x1).2)
def A12(x0:yc)(x1:List UInt8):Ann:=r0 1 [1,2,4,5] [2] (.reg 1 [] [(1,k23 x0)] [1,2,4,5,8] [2] [] [] [] [0] (cn (!(zbh x0)) (r0 1 [1,2,4,5] [2] (rt [] (C12 (0,false)))) (.reg 1 [] [(2,k28 x0 x1)] [4,5] [] [] [] [] [0] (rt [] (C12 ((findP x0 x1).1,(findP x0 x1).2))))))
theorem zk6(x0 : yc)(x1 : List UInt8)(hx : x0.people.length ≤ 1048576)(hu : x0.unions.length ≤ 1048576)(hn : ∀p ∈ x0.people, p.name.length ≤ 1048576) : FnT Tryz.prog 12 [.agg (zaw false x0), .str x1] (C12 (zd0 x0 x1)) := by
 have aux : ∀R, zd0 x0 x1 = R → slim (C12 R) (A12 x0 x1) [] := by
  intro R hR;refine rT ?_;refine rg ⟨⟨vdg,vdg,vdg⟩,trivial⟩ ?_;refine cd (fun hc1 hR=>?_) (fun hc1 hR=>?_) hR
  ·refine rT ?_;exact oe C12 hR
  refine rg ⟨vdg,trivial⟩ ?_;exact oe C12 hR
 exact Fn.go 14 Tryz.func12 zaa zaa (by simp[C12,Frs,FrsL]) (A12 x0 x1) zaa (aux _ rfl)
def k12(x0:yc)(x1:List UInt8):Cl:=(hres (C12 (zd0 x0 x1)),k3 (zk6 x0 x1))
def C98(R:Bool):LV×List (Nat×BC):=(.bool R,[])
def l2Row(x0:List Int)(x1:Int):Bool:=loopN (fun i1 (v1:Int) next=>bif((decide ((x0.getD i1 default)≤v1))||(decide (x1≤(x0.getD i1 default)))) then false else(next (x0.getD i1 default))) (fun (v1:Int)=>true) x0.length 0 (-1)
def D98b1(i1:Nat)(v1:Int):Dl:=⟨[(10,.int .i64 ((i1:Nat):Int)),(5,.int .i64 v1)],[]⟩
def A98b1(x0:List Int)(x1:Int)(i1:Nat)(v1:Int):Ann:=let q2:=((i1:Nat):Int);let q1:=x0.getD i1 default;let q3:=((x0.length:Nat):Int);r0 1 [1,4,5,8,9,10,11] [] (cn (decide (q2<q3)) (r1 1 [1,4,5,7,8,9,10] [] [pf (0≤(q2:Int)∧(q2:Int)<q3)] [0] (.reg 1 [] [] [1,4,5,7,8,9,10,21] [] [!(decide (q1≤v1)),decide (q1≤v1)] [] [] [1,1,6] (cn ((decide (q1≤v1))||(decide (x1≤q1))) (r0 1 [1,4,5,7,8,9,10] [] (rt [] (C98 false))) (r0 1 [1,4,5,8,9,10] [] (r1 1 [1,4,5,8,9,10] [] [pf (inR .i64 (q2+1))] [0] (.next 0 [] (D98b1 (i1+1) q1))))))) (r0 1 [4] [] (rt [] (C98 true))))
def A98(x0:List Int)(x1:Int):Ann:=r0 2 [0,1,4,5] [] (r0 1 [1,4,5,8,9,10] [] (lp (D98b1) [] [] [] (D98b1 0 (-1)) (A98b1 x0 x1)))
theorem zr6(x0 : List Int)(x1 : Int)(hx : x0.length ≤ 1048576) : FnT Tryz.prog 98 [.ro false 1 x0.length (rowOf (cInt .i64) x0), .int .i64 x1] (C98 (l2Row x0 x1)) := by
 have aux : ∀R, l2Row x0 x1 = R → slim (C98 R) (A98 x0 x1) [] := by
  intro R hR;refine rT ?_;refine rT ?_;refine lN (fun i v=>True) vdg rfl (fun i1 v1 F1 hn1 hI1 hR hK1=>?_) hR;refine rT ?_;refine⟨fun hc1=>?_,fun hc1=>?_⟩
  ·have hii1 : i1 < x0.length := vcH;replace hR := zai hR hii1;refine rg ⟨vc4, trivial⟩ ?_;refine rT ?_;refine cd (fun hc2 hR => ?_) (fun hc2 hR => ?_) hR
   ·refine rT ?_;exact oe C98 hR
   refine rT ?_;refine rg ⟨vcx,trivial⟩ ?_;exact hK1 (x0.getD i1 default) hii1 vdg hR
  obtain rfl:i1=x0.length:=by have:=oB hc1;omega
  replace hR:=zaq hR (oR _);refine rT ?_;exact oe C98 hR
 exact Fn.go 24 Tryz.func98 zaa zaa (by simp[C98,Frs,FrsL]) (A98 x0 x1) zaa (aux _ rfl)
def k98(x0:List Int)(x1:Int):Cl:=(hres (C98 (l2Row x0 x1)),k1 (zr6 x0 x1))
def C61(R:Bool):LV×List (Nat×BC):=(.bool R,[])
def zck(x0:yk):Bool:=bif((!(l1In x0.size 0 40))||(!decide (((x0.rows.length:Nat):Int)=x0.size))) then false else(loopN (fun i1 (v1:Unit) next=>bif(!(l2Row (x0.rows.getD i1 default) x0.size)) then false else(next ())) (fun (v1:Unit)=>true) x0.rows.length 0 ())
def D61b1(i1:Nat)(v1:Unit):Dl:=⟨[(20,.int .i64 ((i1:Nat):Int))],[]⟩
def A61b1(x0:yk)(i1:Nat)(v1:Unit):Ann:=let q1:=((i1:Nat):Int);let q3:=x0.rows.getD i1 default;let q2:=((x0.rows.length:Nat):Int);r0 1 [1,2,18,19,20,21] [1] (cn (decide (q1<q2)) (.reg 2 [] [(1003,k98 q3 x0.size)] [1,2,18,19,20,28] [1] [] [pf (0≤(q1:Int)∧(q1:Int)<q2)] [] [0,4] (cn (!(l2Row q3 x0.size)) (r0 1 [1,2,18,19,20] [1] (rt [] (C61 false))) (r1 1 [1,2,18,19,20] [1] [pf (inR .i64 (q1+1))] [0] (.next 0 [] (D61b1 (i1+1) ()))))) (r0 1 [2] [] (rt [] (C61 true))))
def A61(x0:yk):Ann:=let q1:=l1In x0.size 0 40;r0 1 [1,2] [1] (.reg 1 [] [(2,k97 x0.size 0 40)] [1,2,16] [1] [!(!q1),!q1] [] [] [0,1,1,1,1,1,6] (cn ((!q1)||(!decide (((x0.rows.length:Nat):Int)=x0.size))) (r0 1 [1,2] [1] (rt [] (C61 false))) (r0 1 [1,2,18,19,20] [1] (lp (D61b1) [] [] [] (D61b1 0 ()) (A61b1 x0)))))
theorem zkz(x0 : yk)(hx : x0.rows.length ≤ 1048576 ∧ ∀y ∈ x0.rows, y.length ≤ 1048576) : FnT Tryz.prog 61 [.agg (zbn false x0)] (C61 (zck x0)) := by
 have aux : ∀R, zck x0 = R → slim (C61 R) (A61 x0) [] := by
  intro R hR;refine rT ?_;refine rg ⟨trivial,trivial⟩ ?_;refine cd (fun hc1 hR=>?_) (fun hc1 hR=>?_) hR
  ·refine rT ?_;exact oe C61 hR
  refine rT ?_;refine lN (fun i v=>True) vdg rfl (fun i1 v1 F1 hn1 hI1 hR hK1=>?_) hR;refine rT ?_;refine⟨fun hc2=>?_,fun hc2=>?_⟩
  ·have hii1 : i1 < x0.rows.length := vcI;replace hR := zai hR hii1;refine rg ⟨vc4, by (exact hx.2 _ (zbf hii1)), trivial⟩ ?_;refine cd (fun hc3 hR => ?_) (fun hc3 hR => ?_) hR
   ·refine rT ?_;exact oe C61 hR
   refine rg ⟨vcx,trivial⟩ ?_;exact hK1 () hii1 vdg hR
  obtain rfl:i1=x0.rows.length:=by have:=oB hc2;omega
  replace hR:=zaq hR (oR _);refine rT ?_;exact oe C61 hR
 exact Fn.go 30 Tryz.func61 zaa zaa (by simp[C61,Frs,FrsL]) (A61 x0) zaa (aux _ rfl)
def k61(x0:yk):Cl:=(hres (C61 (zck x0)),k1 (zkz x0))
def C32(R:Bool):LV×List (Nat×BC):=(.bool R,[])
def zj0(x0:yk)(x1:yk):Bool:=((decide (x0.size=x1.size))&&(zck x0))&&(zck x1)
def A32(x0:yk)(x1:yk):Ann:=let q2:=zck x0;let q1:=decide (x0.size=x1.size);.reg 2 [] [(1007,cg q1 (k61 x0)),(1011,cg (q1&&q2) (k61 x1))] [4] [] [decide (x0.size=x1.size),q1&&q2] [] [] [1,0,1,5,4,5] (rt [] (C32 ((q1&&q2)&&(zck x1))))
theorem zpy(x0:yk)(x1:yk)(hx:x0.rows.length≤1048576∧∀y∈x0.rows,y.length≤1048576)(hy:x1.rows.length≤1048576∧∀y∈x1.rows,y.length≤1048576):FnT Tryz.prog 32 [.agg (zbn false x0),.agg (zbn false x1)] (C32 (zj0 x0 x1)):=by have aux:∀R,zj0 x0 x1=R→slim (C32 R) (A32 x0 x1) []:=(by intro R hR;refine rg ⟨fun hg0=>by trivial,fun hg0=>by trivial,trivial⟩ ?_;exact oe C32 hR);exact Fn.go 18 Tryz.func32 zaa zaa (by simp[C32,Frs,FrsL]) (A32 x0 x1) zaa (aux _ rfl)
def k32(x0:yk)(x1:yk):Cl:=(hres (C32 (zj0 x0 x1)),k2 (zpy x0 x1))
def C62(R:(List (List Bool))):LV×List (Nat×BC):=(.own 0,[(0,.nest 1 true 1 R.length (nrOf (cBool) R))])
def zkh(x0:Int):(List (List Bool)):=loopN (fun i1 (v1:(List (List Bool))) next=>next (v1++[(List.replicate x0.toNat (default:Bool))])) (fun (v1:(List (List Bool)))=>v1) x0.toNat 0 ([]:List (List Bool))
def D62b1(i1:Nat)(v1:(List (List Bool))):Dl:=⟨[(4,.int .i64 ((i1:Nat):Int)),(3,.own 20003)],[(20003,.nest 1 true 1 v1.length (nrOf (cBool) v1))]⟩
def A62b1(x0:Int)(i1:Nat)(v1:(List (List Bool))):Ann:=let q1:=(List.replicate x0.toNat (default:Bool));r0 1 [0,2,3,4,8] [20003] (cn (decide (((i1:Nat):Int)<x0)) (.reg 1 [] [(2,msL 13 (cBool) 1 x0 x0 x0.toNat (default:Bool) (rfl)),(3,nB1 (cBool) q1),(4,nA1 (cBool) v1 q1 24)] [0,2,3,4] [15] [] [] [] [0,4,8] (r1 1 [0,2,3,4] [15] [pf (inR .i64 (((i1:Nat):Int)+1))] [0] (.next 0 [(20003,some 15)] (D62b1 (i1+1) (v1++[q1]))))) (r0 1 [2] [20003] (rt [(0,some 20003)] (C62 v1))))
def A62(x0:Int):Ann:=.reg 2 [] [(1000,nB0 (cBool) 1)] [0,2,3] [5] [] [] [] [0] (r0 1 [0,2,3,4] [5] (lp (D62b1) [] [5] [(20003,some 5)] (D62b1 0 ([]:List (List Bool))) (A62b1 x0)))
theorem zob(x0 : Int)(hn : 0 ≤ x0 ∧ x0 ≤ 1000) : FnT Tryz.prog 62 [.int .i64 x0] (C62 (zkh x0)) := by
 have aux : ∀R, zkh x0 = R → slim (C62 R) (A62 x0) [] := by
  intro R hR;refine rg ⟨trivial,trivial⟩ ?_;refine rT ?_;refine lN (fun i v=>(v:List (List Bool)).length=i) vdg rfl (fun i1 v1 F1 hn1 hI1 hR hK1=>?_) hR;refine rT ?_;refine⟨fun hc1=>?_,fun hc1=>?_⟩
  ·have hii1 : i1 < x0.toNat := vcH;replace hR := zai hR hii1;refine rg ⟨vc4, trivial, vdh, trivial⟩ ?_;refine rg ⟨vcq, trivial⟩ ?_;exact hK1 (v1 ++ [(List.replicate x0.toNat (default : Bool))]) hii1 (by ((rw [oh, oI]; omega))) hR
  obtain rfl:i1=x0.toNat:=by have:=oB hc1;omega
  replace hR:=zaq hR (oR _);refine rT ?_;exact oe C62 hR
 exact Fn.go 17 Tryz.func62 zaa zaa (by simp[C62,FrsN,nrOf,Frs,FrsL,FrsB,rowOf,cInt,cBool,cStr,cSl,zbd,zah,zas,zaw,cDyad,cLaw,zcc,zcq,ze6,zdu,cStep,zc7,zbn]) (A62 x0) zaa (aux _ rfl)
def k62(x0:Int):Cl:=(hres (C62 (zkh x0)),k1 (zob x0))
theorem z0w(l : List Int)(n : Int)(h : l2Row l n = true) : ∀j, j < l.length → 0 ≤ l.getD j default ∧ l.getD j default < n := by
 revert h;unfold l2Row;refine za3 (fun i (v:Int)=>-1≤v∧∀j,j<i→0≤l.getD j default∧l.getD j default<n) (fun (r:Bool)=>r=true→∀j,j<l.length→0≤l.getD j default∧l.getD j default<n) ⟨vdh,fun j hj=>absurd hj (oQ _)⟩ (fun i v next hi hv hn=>?_) (fun v hv _=>hv.2);refine zaj (p:=fun (r:Bool)=>r=true→∀j,j<l.length→0≤l.getD j default∧l.getD j default<n) (fun _ h=>vdf) (fun c=>hn _ ?_);simp only[Bool.or_eq_false_iff,oa] at c;refine⟨vdh,fun j hj=>?_⟩;by_cases e:j=i
 ·subst e; omega
 exact hv.2 j vdh
theorem zn2{r : yk}(h : zck r = true) : (0 ≤ r.size ∧ r.size ≤ 40) ∧ r.rows.length = r.size.toNat ∧ ∀i, i < r.rows.length → ∀j, j < (r.rows.getD i default).length → 0 ≤ (r.rows.getD i default).getD j default ∧ (r.rows.getD i default).getD j default < r.size := by
 unfold zck at h;cases c:((!(l1In r.size 0 40))||(!decide (((r.rows.length:Nat):Int)=r.size))) with
 |true =>rw[c] at h;cases h
 |false =>rw[c,oD,zdb] at h;simp only[Bool.or_eq_false_iff,Bool.not_eq_false',l1In,oc,ob] at c;refine⟨vdh,vdh,fun i hi=>z0w _ _ ?_⟩;have:=h.1 i hi;simpa using this
structure GrdOk(n : Nat)(o : List (List Bool)) : Prop where
  len:o.length=n
  row:∀i,i<n→(o.getD i []).length=n
theorem GrdOk.put{n : Nat}{o : List (List Bool)}(h : GrdOk n o)(i k : Nat)(b : Bool) : GrdOk n (o.set i ((o.getD i []).set k b)) := by
 refine⟨by rw[Ob];exact h.len,fun j hj=>?_⟩;have h1:=h.row j hj;have h2:=h.len;rw[oi] at h1 ⊢;rw[List.getElem?_set];split
 ·rename_i e; subst e;rw [if_pos vdh];simp only [Option.getD_some, Ob];rw [oi]; exact h1
 exact h1
theorem zx2{n : Int}(h : 0 ≤ n ∧ n ≤ 40) : GrdOk n.toNat (zkh n) := by
 unfold zkh;refine za3 (fun i (v:List (List Bool))=>v.length=i∧∀j,j<i→(v.getD j []).length=n.toNat) (fun r=>GrdOk n.toNat r) ⟨rfl,fun j hj=>absurd hj (oQ _)⟩ (fun i v next hi hv hn=>hn _ ⟨by rw[oh,oI,hv.1],fun j hj=>?_⟩) (fun v hv=>⟨hv.1,hv.2⟩);by_cases e:j<i
 ·rw [oi, o5 vdh, ← oi]; exact hv.2 j e
 rw[oi,o6 vdh,hv.1,show j - i=0 by omega];simp
theorem set_nm{l : List ya}(h : ∀q ∈ l, q.name.length ≤ 1048576){i : Nat}{p : ya}(hp : p.name.length ≤ 1048576) : ∀q ∈ l.set i p, q.name.length ≤ 1048576 := fun q hq => by
  rcases List.mem_or_eq_of_mem_set hq with hq | rfl
  · exact h q hq
  · exact hp
end Go.Proofs.YtnibbmmljamolaaGreat
