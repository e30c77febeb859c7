import Derived.Test.YtaageiiodlfeiaaGreatM180
set_option maxHeartbeats 4000000
set_option linter.unusedSimpArgs false
set_option linter.unusedVariables false
namespace Go.Proofs.YtaageiiodlfeiaaGreat
open Go Go.Lite Go.Proofs

structure InvOk (o:List Int) (n:Nat) (r:(List Int)×Bool):Prop where
 out:r.2=true→o.length=n∧(∀ c∈o,0≤c∧c<n)∧r.1.length=n∧∀ i:Nat,i<o.length→r.1.getD (o.getD i default).toNat default=((i:Nat):Int)
 inn:o.length=n→(∀ c∈o,0≤c∧c<n)→o.Nodup→r.2=true
theorem zp7 (o:List Int) (n:Nat):InvOk o n (zbs o ((n:Nat):Int)):=by
 unfold zbs
 rw [Int.toNat_natCast]
 refine zb3 (fun i (v:List Int)=>v.length=n∧∀ j:Nat,j<i→v.getD j default=-1) (fun r=>InvOk o n r) ⟨by simp,fun j hj=>absurd hj (Nat.not_lt_zero _)⟩ (fun i v nx hi hv hn=>hn _ ⟨by rw [List.length_set];exact hv.1,fun j hj=>?_⟩) (fun v hv=>?_)
 ·rw [zcf]
  by_cases c:j=i
  ·rw [if_pos ⟨c,by rw [hv.1];omega⟩]
  ·rw [if_neg (fun h=>c h.1)];exact hv.2 j om
 ·cases c:decide (((o.length:Nat):Int)=((n:Nat):Int))
  ·simp only [Bool.not_false,cond_true]
   exact ⟨(fun h=>by cases h),fun h=>absurd (by rw [h]) (of_decide_eq_false c)⟩
  ·simp only [Bool.not_true,cond_false]
   have hl:o.length=n:=by have:=of_decide_eq_true c;omega
   refine zb3 (fun i (w : List Int) => w.length = n ∧ (∀ m : Nat, m < i → (0 ≤ o.getD m default ∧ o.getD m default < n) ∧ w.getD (o.getD m default).toNat default = ((m : Nat) : Int)) ∧ ∀ q : Nat, q < n → w.getD q default = -1 ∨ ∃ m : Nat, m < i ∧ o.getD m default = ((q : Nat) : Int)) (fun r => InvOk o n r)
     ⟨hv.1,fun m hm=>absurd hm (Nat.not_lt_zero _),fun q hq=>.inl (hv.2 q hq)⟩ (fun i w nx hi hw hn=>?_) (fun w hw=>?_)
   ·obtain ⟨w1,w2,w3⟩:=hw
    cases d:(((decide ((o.getD i default)<0))||(decide (((n:Nat):Int)≤(o.getD i default))))||(decide (0≤(w.getD ((o.getD i default).toNat) default))))
    ·simp only [cond_false]
     simp only [Bool.or_eq_false_iff,decide_eq_false_iff_not] at d
     refine hn _ ⟨by rw [List.length_set];exact w1,fun m hm=>?_,fun q hq=>?_⟩
     ·rcases Nat.lt_or_ge m i with g | g
      ·obtain ⟨g1,g2⟩:=w2 m g
       refine ⟨g1,?_⟩
       rw [zcf,if_neg (fun h=>?_)]
       ·exact g2
       ·rw [h.1] at g2;omega
      ·have:m=i:=by omega
       subst this
       exact ⟨om,by rw [zcf,if_pos ⟨rfl,om⟩]⟩
     ·rw [zcf]
      by_cases e:q=(o.getD i default).toNat
      ·exact .inr ⟨i,om,om⟩
      ·rw [if_neg (fun h=>e h.1)]
       rcases w3 q hq with g | ⟨m,hm,g⟩
       ·exact .inl g
       ·exact .inr ⟨m,om,g⟩
    ·simp only [cond_true]
     refine ⟨(fun h=>by cases h),fun _ h2 h3=>?_⟩
     exfalso
     have hr:=h2 _ (zb0 (d:=default) hi)
     simp only [Bool.or_eq_true,decide_eq_true_eq] at d
     rcases w3 (o.getD i default).toNat om with g | ⟨m,hm,g⟩
     ·omega
     ·exact zod (List.nodup_iff_pairwise_ne.1 h3) i hi m hm (by rw [g];omega)
   ·refine ⟨fun _=>⟨hl,fun c hc=>?_,hw.1,fun i hi=>(hw.2.1 i (by rw [hl] at hi ⊢;exact hi)).2⟩,fun _ _ _=>rfl⟩
    obtain ⟨k,hk,e⟩:=zdk (d:=default) hc
    rw [← e]
    exact (hw.2.1 k hk).1
theorem zfs {x : Family} {o : List Int} (h : ((!((zbs o ((x.people.length : Nat) : Int)).2)) || (!(za4 x))) = false) :
    za4 x=true∧o.length=x.people.length∧(∀ i:Nat,i<o.length→0≤o.getD i default∧o.getD i default<x.people.length)∧(zbs o ((x.people.length:Nat):Int)).1.length=x.people.length:=by
 simp only [Bool.or_eq_false_iff,Bool.not_eq_false'] at h
 obtain ⟨h1,h2,h3,_⟩:=(zp7 o x.people.length).out h.1
 exact ⟨h.2,h1,fun i hi=>h2 _ (zb0 hi),h3⟩
def NM (i:Nat) (l:List Person):Prop:=l.length≤i∧∀ a∈l,a.name.length≤1048576
theorem NM.nil:NM 0 []:=⟨Nat.le_refl _,fun a ha=>absurd ha List.not_mem_nil⟩
theorem NM.snoc {x:Family} (hn:∀ p∈x.people,p.name.length≤1048576) {i:Nat} {l:List Person} (h:NM i l) {k:Nat} (hk:k<x.people.length) (s f m b d:Int):NM (i+1) (l++[Person.mk (x.people.getD k default).name s f m b d]):=by
 refine ⟨by rw [List.length_append,List.length_singleton];have:=h.1;omega,fun a ha=>?_⟩
 rcases List.mem_append.1 ha with ha | ha
 ·exact h.2 a ha
 ·rw [List.mem_singleton.1 ha];exact hn (x.people.getD k default) (zb0 hk)
def C9 (R:Family×Bool):LV×List (Nat×BC):=(.tup [.agg [.own 0,.own 1],.bool R.2],[(0,.arr 6 R.1.people.length (rowOf (zbq true) R.1.people)),(1,.arr 4 R.1.unions.length (rowOf (zb4 true) R.1.unions))])
def zc8 (x0:Family) (x1:List Int):Family×Bool:=bif ((!((zbs x1 ((x0.people.length:Nat):Int)).2))||(!(za4 x0))) then ((Family.mk ([]:List Person) ([]:List Union)),false) else (loopN (fun i1 (v1:(List Person)) next=>jn (fun K1=>bif (decide (0≤((x0.people.getD ((x1.getD i1 default).toNat) default).father))) then (K1 (((zbs x1 ((x0.people.length:Nat):Int)).1).getD (((x0.people.getD ((x1.getD i1 default).toNat) default).father).toNat) default)) else (K1 ((x0.people.getD ((x1.getD i1 default).toNat) default).father))) (fun (j1:Int)=>bif (decide (0≤((x0.people.getD ((x1.getD i1 default).toNat) default).mother))) then (next (v1++[(Person.mk ((x0.people.getD ((x1.getD i1 default).toNat) default).name) ((x0.people.getD ((x1.getD i1 default).toNat) default).sex) j1 (((zbs x1 ((x0.people.length:Nat):Int)).1).getD (((x0.people.getD ((x1.getD i1 default).toNat) default).mother).toNat) default) ((x0.people.getD ((x1.getD i1 default).toNat) default).born) ((x0.people.getD ((x1.getD i1 default).toNat) default).died))])) else (next (v1++[(Person.mk ((x0.people.getD ((x1.getD i1 default).toNat) default).name) ((x0.people.getD ((x1.getD i1 default).toNat) default).sex) j1 ((x0.people.getD ((x1.getD i1 default).toNat) default).mother) ((x0.people.getD ((x1.getD i1 default).toNat) default).born) ((x0.people.getD ((x1.getD i1 default).toNat) default).died))])))) (fun (v1:(List Person))=>loopN (fun i2 (v2:(List Union)) next=>next (v2++[(Union.mk (((zbs x1 ((x0.people.length:Nat):Int)).1).getD (((x0.unions.getD i2 default).man).toNat) default) (((zbs x1 ((x0.people.length:Nat):Int)).1).getD (((x0.unions.getD i2 default).woman).toNat) default) ((x0.unions.getD i2 default).from0) ((x0.unions.getD i2 default).to))])) (fun (v2:(List Union))=>bif (!(za4 (Family.mk v1 v2))) then ((Family.mk ([]:List Person) ([]:List Union)),false) else ((Family.mk v1 v2),true)) x0.unions.length 0 ([]:List Union)) x1.length 0 ([]:List Person))
def D9b1 (x0:Family) (x1:List Int) (i1:Nat) (v1:(List Person)):Dl:=⟨[(33,.int .i64 ((i1:Nat):Int))],[(30800,.arr 6 v1.length (rowOf (zbq true) v1)),(8,.var [.own 30800,.nilS])]⟩
def D9j1 (x0:Family) (x1:List Int) (i1:Nat) (v1:(List Person)) (j1:Int):Dl:=⟨[],[(11,.var [.str ((x0.people.getD ((x1.getD i1 default).toNat) default).name),.int .i64 ((x0.people.getD ((x1.getD i1 default).toNat) default).sex),.int .i64 j1,.int .i64 ((x0.people.getD ((x1.getD i1 default).toNat) default).mother),.int .i64 ((x0.people.getD ((x1.getD i1 default).toNat) default).born),.int .i64 ((x0.people.getD ((x1.getD i1 default).toNat) default).died)])]⟩
def A9j1 (x0:Family) (x1:List Int) (i1:Nat) (v1:(List Person)) (j1:Int):Ann:=r0 1 [2,4,5,6,8,11,31,32,33,53] [2,4,8,11,1019,30800] (cn (decide (0≤((x0.people.getD ((x1.getD i1 default).toNat) default).mother))) (r1 1 [2,4,5,6,8,11,31,32,33] [2,4,8,11,1019,30800] [pf (0≤((x0.people.getD ((x1.getD i1 default).toNat) default).mother:Int)∧((x0.people.getD ((x1.getD i1 default).toNat) default).mother:Int)<((((zbs x1 ((x0.people.length:Nat):Int)).1).length:Nat):Int))] [0] (.reg 1 [] [(3,bsC 63 (zbq true) ([(Person.mk ((x0.people.getD ((x1.getD i1 default).toNat) default).name) ((x0.people.getD ((x1.getD i1 default).toNat) default).sex) j1 (((zbs x1 ((x0.people.length:Nat):Int)).1).getD (((x0.people.getD ((x1.getD i1 default).toNat) default).mother).toNat) default) ((x0.people.getD ((x1.getD i1 default).toNat) default).born) ((x0.people.getD ((x1.getD i1 default).toNat) default).died))]:List Person)),(4,ap1 64 (zbq true) 56 v1 (Person.mk ((x0.people.getD ((x1.getD i1 default).toNat) default).name) ((x0.people.getD ((x1.getD i1 default).toNat) default).sex) j1 (((zbs x1 ((x0.people.length:Nat):Int)).1).getD (((x0.people.getD ((x1.getD i1 default).toNat) default).mother).toNat) default) ((x0.people.getD ((x1.getD i1 default).toNat) default).born) ((x0.people.getD ((x1.getD i1 default).toNat) default).died)))] [2,4,5,6,8,31,32,33] [2,4,8,64,1019] [] [] [] [0,4] (r1 1 [2,4,5,6,8,31,32,33] [2,4,8,64,1019] [pf (inR .i64 (((i1:Nat):Int)+1))] [0] (.next 0 [(30800,some 64)] (D9b1 x0 x1 (i1+1) (v1++[(Person.mk ((x0.people.getD ((x1.getD i1 default).toNat) default).name) ((x0.people.getD ((x1.getD i1 default).toNat) default).sex) j1 (((zbs x1 ((x0.people.length:Nat):Int)).1).getD (((x0.people.getD ((x1.getD i1 default).toNat) default).mother).toNat) default) ((x0.people.getD ((x1.getD i1 default).toNat) default).born) ((x0.people.getD ((x1.getD i1 default).toNat) default).died))])))))) (.reg 1 [] [(3,bsC 63 (zbq true) ([(Person.mk ((x0.people.getD ((x1.getD i1 default).toNat) default).name) ((x0.people.getD ((x1.getD i1 default).toNat) default).sex) j1 ((x0.people.getD ((x1.getD i1 default).toNat) default).mother) ((x0.people.getD ((x1.getD i1 default).toNat) default).born) ((x0.people.getD ((x1.getD i1 default).toNat) default).died))]:List Person)),(4,ap1 64 (zbq true) 56 v1 (Person.mk ((x0.people.getD ((x1.getD i1 default).toNat) default).name) ((x0.people.getD ((x1.getD i1 default).toNat) default).sex) j1 ((x0.people.getD ((x1.getD i1 default).toNat) default).mother) ((x0.people.getD ((x1.getD i1 default).toNat) default).born) ((x0.people.getD ((x1.getD i1 default).toNat) default).died)))] [2,4,5,6,8,31,32,33] [2,4,8,64,1019] [] [] [] [0,4] (r1 1 [2,4,5,6,8,31,32,33] [2,4,8,64,1019] [pf (inR .i64 (((i1:Nat):Int)+1))] [0] (.next 0 [(30800,some 64)] (D9b1 x0 x1 (i1+1) (v1++[(Person.mk ((x0.people.getD ((x1.getD i1 default).toNat) default).name) ((x0.people.getD ((x1.getD i1 default).toNat) default).sex) j1 ((x0.people.getD ((x1.getD i1 default).toNat) default).mother) ((x0.people.getD ((x1.getD i1 default).toNat) default).born) ((x0.people.getD ((x1.getD i1 default).toNat) default).died))]))))))
def D9b2 (x0:Family) (x1:List Int) (i1:Nat) (v1:(List Person)) (i2:Nat) (v2:(List Union)):Dl:=⟨[(70,.int .i64 ((i2:Nat):Int))],[(30801,.arr 4 v2.length (rowOf (zb4 true) v2)),(8,.var [.own 30800,.own 30801])]⟩
def A9b2 (x0:Family) (x1:List Int) (i1:Nat) (v1:(List Person)) (i2:Nat) (v2:(List Union)):Ann:=r0 1 [4,5,6,8,68,69,70,71] [4,8,1019,30800,30801] (cn (decide (((i2:Nat):Int)<((x0.unions.length:Nat):Int))) (r1 1 [4,5,6,8,13,68,69,70] [4,8,13,1019,30800,30801] [pf (0≤(((i2:Nat):Int):Int)∧(((i2:Nat):Int):Int)<((x0.unions.length:Nat):Int))] [0] (.reg 1 [] [(17,bsC 91 (zb4 true) ([(Union.mk (((zbs x1 ((x0.people.length:Nat):Int)).1).getD (((x0.unions.getD i2 default).man).toNat) default) (((zbs x1 ((x0.people.length:Nat):Int)).1).getD (((x0.unions.getD i2 default).woman).toNat) default) ((x0.unions.getD i2 default).from0) ((x0.unions.getD i2 default).to))]:List Union)),(18,ap1 92 (zb4 true) 32 v2 (Union.mk (((zbs x1 ((x0.people.length:Nat):Int)).1).getD (((x0.unions.getD i2 default).man).toNat) default) (((zbs x1 ((x0.people.length:Nat):Int)).1).getD (((x0.unions.getD i2 default).woman).toNat) default) ((x0.unions.getD i2 default).from0) ((x0.unions.getD i2 default).to)))] [4,5,6,8,68,69,70] [4,8,92,1019,30800] [] [pf (0≤((x0.unions.getD i2 default).man:Int)∧((x0.unions.getD i2 default).man:Int)<((((zbs x1 ((x0.people.length:Nat):Int)).1).length:Nat):Int)),pf (0≤((x0.unions.getD i2 default).woman:Int)∧((x0.unions.getD i2 default).woman:Int)<((((zbs x1 ((x0.people.length:Nat):Int)).1).length:Nat):Int))] [] [0,4,8,12] (r1 1 [4,5,6,8,68,69,70] [4,8,92,1019,30800] [pf (inR .i64 (((i2:Nat):Int)+1))] [0] (.next 0 [(30801,some 92)] (D9b2 x0 x1 i1 v1 (i2+1) (v2++[(Union.mk (((zbs x1 ((x0.people.length:Nat):Int)).1).getD (((x0.unions.getD i2 default).man).toNat) default) (((zbs x1 ((x0.people.length:Nat):Int)).1).getD (((x0.unions.getD i2 default).woman).toNat) default) ((x0.unions.getD i2 default).from0) ((x0.unions.getD i2 default).to))])))))) (.reg 1 [] [(1,k39 (Family.mk v1 v2))] [4,5,8,97] [4,8,30800,30801] [] [] [] [0] (cn (!(za4 (Family.mk v1 v2))) (r0 1 [4,5,8] [4,8,30800,30801] (rt [(0,none),(1,none)] (C9 ((Family.mk ([]:List Person) ([]:List Union)),false)))) (r0 1 [4,5] [4,30800,30801] (rt [(0,some 30800),(1,some 30801)] (C9 ((Family.mk v1 v2),true)))))))
def A9b1 (x0:Family) (x1:List Int) (i1:Nat) (v1:(List Person)):Ann:=r0 1 [2,4,5,6,8,31,32,33,34] [2,4,8,1019,30800] (cn (decide (((i1:Nat):Int)<((x1.length:Nat):Int))) (r1 2 [2,4,5,6,8,11,31,32,33] [2,4,8,11,1019,30800] [pf (0≤(((i1:Nat):Int):Int)∧(((i1:Nat):Int):Int)<((x1.length:Nat):Int)),pf (0≤((x1.getD i1 default):Int)∧((x1.getD i1 default):Int)<((x0.people.length:Nat):Int))] [0,4] (.join 0 Int (D9j1 x0 x1 i1 v1) [2,4,5,6,8,11,31,32,33] [2,4,1019,8,30800,11] (r0 1 [2,4,5,6,8,11,31,32,33,44] [2,4,8,11,1019,30800] (cn (decide (0≤((x0.people.getD ((x1.getD i1 default).toNat) default).father))) (r1 1 [2,4,5,6,8,11,31,32,33] [2,4,8,11,1019,30800] [pf (0≤((x0.people.getD ((x1.getD i1 default).toNat) default).father:Int)∧((x0.people.getD ((x1.getD i1 default).toNat) default).father:Int)<((((zbs x1 ((x0.people.length:Nat):Int)).1).length:Nat):Int))] [0] (.next 0 [] (D9j1 x0 x1 i1 v1 (((zbs x1 ((x0.people.length:Nat):Int)).1).getD (((x0.people.getD ((x1.getD i1 default).toNat) default).father).toNat) default)))) (.next 0 [] (D9j1 x0 x1 i1 v1 ((x0.people.getD ((x1.getD i1 default).toNat) default).father))))) (A9j1 x0 x1 i1 v1))) (r0 1 [4,5,6,8,68,69,70] [4,8,1019,30800] (lp (D9b2 x0 x1 i1 v1) [] [] [(30801,none)] (D9b2 x0 x1 i1 v1 0 ([]:List Union)) (A9b2 x0 x1 i1 v1))))
def A9 (x0:Family) (x1:List Int):Ann:=.reg 2 [] [(1004,k38 x1 ((x0.people.length:Nat):Int))] [1,2,4,5,6,7] [2,4,1019] [] [] [] [0] (.reg 1 [] [(4,cg (!(!((zbs x1 ((x0.people.length:Nat):Int)).2))) (k39 x0))] [1,2,4,5,6,28] [2,4,1019] [!(!((zbs x1 ((x0.people.length:Nat):Int)).2)),!((zbs x1 ((x0.people.length:Nat):Int)).2)] [] [] [1,0,1,6] (cn ((!((zbs x1 ((x0.people.length:Nat):Int)).2))||(!(za4 x0))) (r0 1 [1,2,4,5,6] [2,4,1019] (rt [(0,none),(1,none)] (C9 ((Family.mk ([]:List Person) ([]:List Union)),false)))) (r0 1 [1,2,4,5,6,8] [2,4,8,1019] (r0 1 [2,4,5,6,8,31,32,33] [2,4,8,1019] (lp (D9b1 x0 x1) [] [] [(30800,none)] (D9b1 x0 x1 0 ([]:List Person)) (A9b1 x0 x1))))))
theorem zh2 (x0:Family) (x1:List Int) (hx:x0.people.length≤1048576) (hu:x0.unions.length≤1048576) (hn:∀ p∈x0.people,p.name.length≤1048576) (ho:x1.length≤1000):FnT Tryz.prog 9 [.agg (zbx false x0),.ro false 1 x1.length (rowOf (cInt .i64) x1)] (C9 (zc8 x0 x1)):=by
 have aux:∀ R,zc8 x0 x1=R→slim (C9 R) (A9 x0 x1) []:=by
  intro R hR
  refine rg ⟨⟨by (intros;omega),by (intros;omega)⟩,trivial⟩ ?_
  refine rg ⟨fun hg0=>⟨by with_reducible assumption,by with_reducible assumption,by with_reducible assumption⟩,trivial⟩ ?_
  revert hR;refine cd (fun hc1 hR=>?_) fun hc1 hR=>?_
  ·
    refine rg trivial ?_
    exact congrArg C9 hR
  ·
    refine rg trivial ?_
    refine rg trivial ?_
    revert hR;refine lN (fun i v=>NM i v) (by (exact NM.nil)) rfl fun i1 v1 F1 hn1 hI1 hR hK1=>?_
    refine rg trivial ?_
    refine ⟨fun hc2=>?_,fun hc2=>?_⟩
    · have hii1:i1<x1.length:=by have:=of_decide_eq_true hc2;omega
      replace hR:=zbj hR hii1
      refine rg ⟨by (intros;omega),by (have h9:=zfs hc1;have h8:=(fam_n h9.1);have h7:=h9.2.2.1 i1 om;have h6:=fam_p h9.1 (k:=(x1.getD i1 default).toNat) om;have h5:=h6.fa;have h4:=h6.mo;omega),trivial⟩ ?_
      revert hR;refine jN (fun v=>True) (fun F101 hR hJ101=>?_) (fun j1 hR hJ1=>?_)
      ·
        refine rg trivial ?_
        revert hR;refine cd (fun hc3 hR=>?_) fun hc3 hR=>?_
        ·
          refine rg ⟨by (have h9:=zfs hc1;have h8:=(fam_n h9.1);have h7:=h9.2.2.1 i1 om;have h6:=fam_p h9.1 (k:=(x1.getD i1 default).toNat) om;have h5:=h6.fa;have h4:=h6.mo;have h3:=of_decide_eq_true hc3;omega),trivial⟩ ?_
          exact hJ101 (((zbs x1 ((x0.people.length:Nat):Int)).1).getD (((x0.people.getD ((x1.getD i1 default).toNat) default).father).toNat) default) hR zax
        ·
          exact hJ101 ((x0.people.getD ((x1.getD i1 default).toNat) default).father) hR zax
      ·
        refine rg trivial ?_
        revert hR;refine cd (fun hc4 hR=>?_) fun hc4 hR=>?_
        ·
          refine rg ⟨by (have h9:=zfs hc1;have h8:=(fam_n h9.1);have h7:=h9.2.2.1 i1 om;have h6:=fam_p h9.1 (k:=(x1.getD i1 default).toNat) om;have h5:=h6.fa;have h4:=h6.mo;have h3:=of_decide_eq_true hc4;omega),trivial⟩ ?_
          refine rg ⟨trivial,by (have h9:=zfs hc1;have h8:=(fam_n h9.1);have h7:=h9.2.2.1 i1 om;have h6:=fam_p h9.1 (k:=(x1.getD i1 default).toNat) om;have h5:=h6.fa;have h4:=h6.mo;have h3:=hI1.1;omega),trivial⟩ ?_
          refine rg ⟨by ( intros;simp only [inR];omega),trivial⟩ ?_
          exact hK1 (v1++[(Person.mk ((x0.people.getD ((x1.getD i1 default).toNat) default).name) ((x0.people.getD ((x1.getD i1 default).toNat) default).sex) j1 (((zbs x1 ((x0.people.length:Nat):Int)).1).getD (((x0.people.getD ((x1.getD i1 default).toNat) default).mother).toNat) default) ((x0.people.getD ((x1.getD i1 default).toNat) default).born) ((x0.people.getD ((x1.getD i1 default).toNat) default).died))]) hii1 (by (have h9:=zfs hc1;have h8:=(fam_n h9.1);have h7:=h9.2.2.1 i1 om;have h6:=fam_p h9.1 (k:=(x1.getD i1 default).toNat) om;have h5:=h6.fa;have h4:=h6.mo;exact hI1.snoc za3 om _ _ _ _ _)) hR
        ·
          refine rg ⟨trivial,by (have h9:=zfs hc1;have h8:=(fam_n h9.1);have h7:=h9.2.2.1 i1 om;have h6:=fam_p h9.1 (k:=(x1.getD i1 default).toNat) om;have h5:=h6.fa;have h4:=h6.mo;have h3:=hI1.1;omega),trivial⟩ ?_
          refine rg ⟨by ( intros;simp only [inR];omega),trivial⟩ ?_
          exact hK1 (v1++[(Person.mk ((x0.people.getD ((x1.getD i1 default).toNat) default).name) ((x0.people.getD ((x1.getD i1 default).toNat) default).sex) j1 ((x0.people.getD ((x1.getD i1 default).toNat) default).mother) ((x0.people.getD ((x1.getD i1 default).toNat) default).born) ((x0.people.getD ((x1.getD i1 default).toNat) default).died))]) hii1 (by (have h9:=zfs hc1;have h8:=(fam_n h9.1);have h7:=h9.2.2.1 i1 om;have h6:=fam_p h9.1 (k:=(x1.getD i1 default).toNat) om;have h5:=h6.fa;have h4:=h6.mo;exact hI1.snoc za3 om _ _ _ _ _)) hR
    · obtain rfl:i1=x1.length:=by have:=of_decide_eq_false hc2;omega
      replace hR:=zbp hR (Nat.lt_irrefl _)
      refine rg trivial ?_
      revert hR;refine lN (fun i v=>v.length≤i) (by (exact Nat.le_refl _)) rfl fun i2 v2 F2 hn2 hI2 hR hK2=>?_
      refine rg trivial ?_
      refine ⟨fun hc5=>?_,fun hc5=>?_⟩
      · have hii2:i2<x0.unions.length:=by have:=of_decide_eq_true hc5;omega
        replace hR:=zbj hR hii2
        refine rg ⟨by (intros;omega),trivial⟩ ?_
        refine rg ⟨by (have h9:=zfs hc1;have h8:=(fam_n h9.1);have h7:=fam_u h9.1 hii2;have h6:=h7.man;have h5:=h7.woman;omega),by (have h9:=zfs hc1;have h8:=(fam_n h9.1);have h7:=fam_u h9.1 hii2;have h6:=h7.man;have h5:=h7.woman;omega),trivial,om,trivial⟩ ?_
        refine rg ⟨by ( intros;simp only [inR];omega),trivial⟩ ?_
        exact hK2 (v2++[(Union.mk (((zbs x1 ((x0.people.length:Nat):Int)).1).getD (((x0.unions.getD i2 default).man).toNat) default) (((zbs x1 ((x0.people.length:Nat):Int)).1).getD (((x0.unions.getD i2 default).woman).toNat) default) ((x0.unions.getD i2 default).from0) ((x0.unions.getD i2 default).to))]) hii2 zam hR
      · obtain rfl:i2=x0.unions.length:=by have:=of_decide_eq_false hc5;omega
        replace hR:=zbp hR (Nat.lt_irrefl _)
        refine rg ⟨⟨by (have h9:=zfs hc1;have h8:=(fam_n h9.1);have h3:=hI1.1;dsimp only;omega),by (simp only [List.length_append,List.length_singleton];omega),by (exact hI1.2)⟩,trivial⟩ ?_
        revert hR;refine cd (fun hc6 hR=>?_) fun hc6 hR=>?_
        ·
          refine rg trivial ?_
          exact congrArg C9 hR
        ·
          refine rg trivial ?_
          exact congrArg C9 hR
 exact Fn.go 100 Tryz.func9 zah zah (by simp [C9,Frs,FrsL,FrsB,rowOf,cInt,cBool,cStr,cSl,zce,zbq,zb4,zbx,cDyad,cLaw,zd4]) (A9 x0 x1) zah (aux _ rfl)
def k9 (x0:Family) (x1:List Int):Cl:=(hres (C9 (zc8 x0 x1)),k4 (zh2 x0 x1))
end Go.Proofs.YtaageiiodlfeiaaGreat
