import Derived.Test.YtaageiiodlfeiaaGreatVS62
set_option maxHeartbeats 4000000
set_option linter.unusedSimpArgs false
set_option linter.unusedVariables false
namespace Go.Proofs.YtaageiiodlfeiaaGreat
open Go Go.Lite Go.Proofs
def zeh (pos:List Int) (p:Person):Person:=⟨p.name,p.sex,bif decide (0≤p.father) then pos.getD p.father.toNat default else p.father,bif decide (0≤p.mother) then pos.getD p.mother.toNat default else p.mother,p.born,p.died⟩
def zq2 (pos:List Int) (u:Union):Union:=⟨pos.getD u.man.toNat default,pos.getD u.woman.toNat default,u.from0,u.to⟩
def zei (x:Family) (o:List Int):Family:=⟨o.map fun i=>zeh (zbs o ((x.people.length:Nat):Int)).1 (x.people.getD i.toNat default),x.unions.map (zq2 (zbs o ((x.people.length:Nat):Int)).1)⟩
theorem zxz {S α:Type} {c:Bool} {a b:S} {k:S→α}:jn (fun K=>bif c then K a else K b) k=k (bif c then a else b):=by cases c<;>rfl
theorem zrt {α β:Type} [Inhabited α] [Inhabited β] (f:α→β) {l:List α} {k:Nat} (h:k<l.length):(l.map f).getD k default=f (l.getD k default):=by
 simp [List.getD,h]
structure PermOk (x:Family) (o:List Int):Prop where
 len:o.length=x.people.length
 rng:∀ i:Nat,i<o.length→0≤o.getD i default∧o.getD i default<x.people.length
 plen:(zbs o ((x.people.length:Nat):Int)).1.length=x.people.length
 pos : ∀ q : Int, 0 ≤ q → q < x.people.length → (0 ≤ (zbs o ((x.people.length : Nat) : Int)).1.getD q.toNat default ∧ (zbs o ((x.people.length : Nat) : Int)).1.getD q.toNat default < x.people.length) ∧
   o.getD ((zbs o ((x.people.length:Nat):Int)).1.getD q.toNat default).toNat default=q
 ok:(zbs o ((x.people.length:Nat):Int)).2=true
theorem zuy {x:Family} {o:List Int} (h:o.Perm (upto x.people.length)):PermOk x o:=by
 have hlen:o.length=x.people.length:=by rw [h.length_eq,zmi]
 have hr:∀ c∈o,0≤c∧c<x.people.length:=fun c hc=>mem_upto.1 (h.mem_iff.1 hc)
 have hi:=zp7 o x.people.length
 have hok:=hi.inn hlen hr (h.nodup_iff.2 (zkp _))
 obtain ⟨_,_,h3,h4⟩:=hi.out hok
 refine ⟨hlen,fun i hi=>hr _ (zb0 hi),h3,fun q h0 h1=>?_,hok⟩
 obtain ⟨k,hk,e⟩:=zdk (d:=default) (h.mem_iff.2 (mem_upto.2 ⟨h0,h1⟩))
 have h5:=h4 k hk
 rw [e] at h5
 rw [h5]
 exact ⟨om,by rw [Int.toNat_natCast];exact e⟩
theorem ztz {x:Family} (hx:za4 x=true) {o:List Int} (h:PermOk x o):zc8 x o=bif (!(za4 (zei x o))) then ((Family.mk ([]:List Person) ([]:List Union)),false) else (zei x o,true):=by
 unfold zc8
 rw [h.ok,hx]
 simp only [Bool.not_true,Bool.or_false,cond_false]
 refine zb3 (fun i (v:List Person)=>v=(o.take i).map fun i=>zeh (zbs o ((x.people.length:Nat):Int)).1 (x.people.getD i.toNat default)) (fun r=>r=_) rfl (fun i v next hi hv hn=>?_) (fun v hv=>?_)
 ·rw [zxz]
  have key:∀ p:Person,p=zeh (zbs o ((x.people.length:Nat):Int)).1 (x.people.getD (o.getD i default).toNat default)→v++[p]=(o.take (i+1)).map fun i=>zeh (zbs o ((x.people.length:Nat):Int)).1 (x.people.getD i.toNat default):=by
   intro p hp
   rw [zg8 o default hi,List.map_append,← hv,hp];rfl
  cases c:decide (0≤(x.people.getD (o.getD i default).toNat default).mother)<;>simp only [cond_true,cond_false]
  ·exact hn _ (key _ (by unfold zeh;rw [c];rfl))
  ·exact hn _ (key _ (by unfold zeh;rw [c];rfl))
 ·refine zb3 (fun i (w:List Union)=>w=(x.unions.take i).map (zq2 (zbs o ((x.people.length:Nat):Int)).1)) (fun r=>r=_) rfl (fun i w next hi hw hn=>hn _ ?_) (fun w hw=>?_)
  ·rw [zg8 x.unions default hi,List.map_append,← hw];rfl
  ·rw [List.take_length] at hv hw
   have e:Family.mk v w=zei x o:=by rw [hv,hw];rfl
   rw [e]
def C37 (R:Family):LV×List (Nat×BC):=(.agg [.own 0,.own 1],[(0,.arr 6 R.people.length (rowOf (zbq true) R.people)),(1,.arr 4 R.unions.length (rowOf (zb4 true) R.unions))])
def zfi (x0:Family) (x1:List Int):Family:=loopN (fun i1 (v1:(List Int)) next=>next (v1.set ((x1.getD i1 default).toNat) ((i1:Nat):Int))) (fun (v1:(List Int))=>loopN (fun i2 (v2:(List Person)) next=>jn (fun K1=>bif (decide (0≤((x0.people.getD ((x1.getD i2 default).toNat) default).father))) then (K1 (v1.getD (((x0.people.getD ((x1.getD i2 default).toNat) default).father).toNat) default)) else (K1 ((x0.people.getD ((x1.getD i2 default).toNat) default).father))) (fun (j1:Int)=>bif (decide (0≤((x0.people.getD ((x1.getD i2 default).toNat) default).mother))) then (next (v2++[(Person.mk ((x0.people.getD ((x1.getD i2 default).toNat) default).name) ((x0.people.getD ((x1.getD i2 default).toNat) default).sex) j1 (v1.getD (((x0.people.getD ((x1.getD i2 default).toNat) default).mother).toNat) default) ((x0.people.getD ((x1.getD i2 default).toNat) default).born) ((x0.people.getD ((x1.getD i2 default).toNat) default).died))])) else (next (v2++[(Person.mk ((x0.people.getD ((x1.getD i2 default).toNat) default).name) ((x0.people.getD ((x1.getD i2 default).toNat) default).sex) j1 ((x0.people.getD ((x1.getD i2 default).toNat) default).mother) ((x0.people.getD ((x1.getD i2 default).toNat) default).born) ((x0.people.getD ((x1.getD i2 default).toNat) default).died))])))) (fun (v2:(List Person))=>loopN (fun i3 (v3:(List Union)) next=>next (v3++[(Union.mk (v1.getD (((x0.unions.getD i3 default).man).toNat) default) (v1.getD (((x0.unions.getD i3 default).woman).toNat) default) ((x0.unions.getD i3 default).from0) ((x0.unions.getD i3 default).to))])) (fun (v3:(List Union))=>(Family.mk v2 v3)) x0.unions.length 0 ([]:List Union)) x1.length 0 ([]:List Person)) x1.length 0 (List.replicate x1.length (default:Int))
def D37b1 (x0:Family) (x1:List Int) (i1:Nat) (v1:(List Int)):Dl:=⟨[(19,.int .i64 ((i1:Nat):Int)),(5,.own 20005)],[(20005,.arr 1 x1.length (rowOf (cInt .i64) v1))]⟩
def D37b2 (x0:Family) (x1:List Int) (i1:Nat) (v1:(List Int)) (i2:Nat) (v2:(List Person)):Dl:=⟨[(31,.int .i64 ((i2:Nat):Int))],[(30800,.arr 6 v2.length (rowOf (zbq true) v2)),(8,.var [.own 30800,.nilS])]⟩
def D37j1 (x0:Family) (x1:List Int) (i1:Nat) (v1:(List Int)) (i2:Nat) (v2:(List Person)) (j1:Int):Dl:=⟨[],[(11,.var [.str ((x0.people.getD ((x1.getD i2 default).toNat) default).name),.int .i64 ((x0.people.getD ((x1.getD i2 default).toNat) default).sex),.int .i64 j1,.int .i64 ((x0.people.getD ((x1.getD i2 default).toNat) default).mother),.int .i64 ((x0.people.getD ((x1.getD i2 default).toNat) default).born),.int .i64 ((x0.people.getD ((x1.getD i2 default).toNat) default).died)])]⟩
def A37j1 (x0:Family) (x1:List Int) (i1:Nat) (v1:(List Int)) (i2:Nat) (v2:(List Person)) (j1:Int):Ann:=r0 1 [2,4,5,8,11,29,30,31,51] [2,4,8,11,20005,30800] (cn (decide (0≤((x0.people.getD ((x1.getD i2 default).toNat) default).mother))) (r1 1 [2,4,5,8,11,29,30,31] [2,4,8,11,20005,30800] [pf (0≤((x0.people.getD ((x1.getD i2 default).toNat) default).mother:Int)∧((x0.people.getD ((x1.getD i2 default).toNat) default).mother:Int)<((x1.length:Nat):Int))] [0] (.reg 1 [] [(3,bsC 61 (zbq true) ([(Person.mk ((x0.people.getD ((x1.getD i2 default).toNat) default).name) ((x0.people.getD ((x1.getD i2 default).toNat) default).sex) j1 (v1.getD (((x0.people.getD ((x1.getD i2 default).toNat) default).mother).toNat) default) ((x0.people.getD ((x1.getD i2 default).toNat) default).born) ((x0.people.getD ((x1.getD i2 default).toNat) default).died))]:List Person)),(4,ap1 62 (zbq true) 56 v2 (Person.mk ((x0.people.getD ((x1.getD i2 default).toNat) default).name) ((x0.people.getD ((x1.getD i2 default).toNat) default).sex) j1 (v1.getD (((x0.people.getD ((x1.getD i2 default).toNat) default).mother).toNat) default) ((x0.people.getD ((x1.getD i2 default).toNat) default).born) ((x0.people.getD ((x1.getD i2 default).toNat) default).died)))] [2,4,5,8,29,30,31] [2,4,8,62,20005] [] [] [] [0,4] (r1 1 [2,4,5,8,29,30,31] [2,4,8,62,20005] [pf (inR .i64 (((i2:Nat):Int)+1))] [0] (.next 0 [(30800,some 62)] (D37b2 x0 x1 i1 v1 (i2+1) (v2++[(Person.mk ((x0.people.getD ((x1.getD i2 default).toNat) default).name) ((x0.people.getD ((x1.getD i2 default).toNat) default).sex) j1 (v1.getD (((x0.people.getD ((x1.getD i2 default).toNat) default).mother).toNat) default) ((x0.people.getD ((x1.getD i2 default).toNat) default).born) ((x0.people.getD ((x1.getD i2 default).toNat) default).died))])))))) (.reg 1 [] [(3,bsC 61 (zbq true) ([(Person.mk ((x0.people.getD ((x1.getD i2 default).toNat) default).name) ((x0.people.getD ((x1.getD i2 default).toNat) default).sex) j1 ((x0.people.getD ((x1.getD i2 default).toNat) default).mother) ((x0.people.getD ((x1.getD i2 default).toNat) default).born) ((x0.people.getD ((x1.getD i2 default).toNat) default).died))]:List Person)),(4,ap1 62 (zbq true) 56 v2 (Person.mk ((x0.people.getD ((x1.getD i2 default).toNat) default).name) ((x0.people.getD ((x1.getD i2 default).toNat) default).sex) j1 ((x0.people.getD ((x1.getD i2 default).toNat) default).mother) ((x0.people.getD ((x1.getD i2 default).toNat) default).born) ((x0.people.getD ((x1.getD i2 default).toNat) default).died)))] [2,4,5,8,29,30,31] [2,4,8,62,20005] [] [] [] [0,4] (r1 1 [2,4,5,8,29,30,31] [2,4,8,62,20005] [pf (inR .i64 (((i2:Nat):Int)+1))] [0] (.next 0 [(30800,some 62)] (D37b2 x0 x1 i1 v1 (i2+1) (v2++[(Person.mk ((x0.people.getD ((x1.getD i2 default).toNat) default).name) ((x0.people.getD ((x1.getD i2 default).toNat) default).sex) j1 ((x0.people.getD ((x1.getD i2 default).toNat) default).mother) ((x0.people.getD ((x1.getD i2 default).toNat) default).born) ((x0.people.getD ((x1.getD i2 default).toNat) default).died))]))))))
def D37b3 (x0:Family) (x1:List Int) (i1:Nat) (v1:(List Int)) (i2:Nat) (v2:(List Person)) (i3:Nat) (v3:(List Union)):Dl:=⟨[(68,.int .i64 ((i3:Nat):Int))],[(30801,.arr 4 v3.length (rowOf (zb4 true) v3)),(8,.var [.own 30800,.own 30801])]⟩
def A37b3 (x0:Family) (x1:List Int) (i1:Nat) (v1:(List Int)) (i2:Nat) (v2:(List Person)) (i3:Nat) (v3:(List Union)):Ann:=r0 1 [4,5,8,66,67,68,69] [4,8,20005,30800,30801] (cn (decide (((i3:Nat):Int)<((x0.unions.length:Nat):Int))) (r1 2 [4,5,8,13,66,67,68] [4,8,13,20005,30800,30801] [pf (0≤(((i3:Nat):Int):Int)∧(((i3:Nat):Int):Int)<((x0.unions.length:Nat):Int)),pf (0≤((x0.unions.getD i3 default).man:Int)∧((x0.unions.getD i3 default).man:Int)<((x1.length:Nat):Int)),pf (0≤((x0.unions.getD i3 default).woman:Int)∧((x0.unions.getD i3 default).woman:Int)<((x1.length:Nat):Int))] [0,4,8] (.reg 1 [] [(3,bsC 87 (zb4 true) ([(Union.mk (v1.getD (((x0.unions.getD i3 default).man).toNat) default) (v1.getD (((x0.unions.getD i3 default).woman).toNat) default) ((x0.unions.getD i3 default).from0) ((x0.unions.getD i3 default).to))]:List Union)),(4,ap1 88 (zb4 true) 32 v3 (Union.mk (v1.getD (((x0.unions.getD i3 default).man).toNat) default) (v1.getD (((x0.unions.getD i3 default).woman).toNat) default) ((x0.unions.getD i3 default).from0) ((x0.unions.getD i3 default).to)))] [4,5,8,66,67,68] [4,8,88,20005,30800] [] [] [] [0,4] (r1 1 [4,5,8,66,67,68] [4,8,88,20005,30800] [pf (inR .i64 (((i3:Nat):Int)+1))] [0] (.next 0 [(30801,some 88)] (D37b3 x0 x1 i1 v1 i2 v2 (i3+1) (v3++[(Union.mk (v1.getD (((x0.unions.getD i3 default).man).toNat) default) (v1.getD (((x0.unions.getD i3 default).woman).toNat) default) ((x0.unions.getD i3 default).from0) ((x0.unions.getD i3 default).to))])))))) (r0 1 [4] [4,30800,30801] (rt [(0,some 30800),(1,some 30801)] (C37 (Family.mk v2 v3)))))
def A37b2 (x0:Family) (x1:List Int) (i1:Nat) (v1:(List Int)) (i2:Nat) (v2:(List Person)):Ann:=r0 1 [2,4,5,8,29,30,31,32] [2,4,8,20005,30800] (cn (decide (((i2:Nat):Int)<((x1.length:Nat):Int))) (r1 2 [2,4,5,8,11,29,30,31] [2,4,8,11,20005,30800] [pf (0≤(((i2:Nat):Int):Int)∧(((i2:Nat):Int):Int)<((x1.length:Nat):Int)),pf (0≤((x1.getD i2 default):Int)∧((x1.getD i2 default):Int)<((x0.people.length:Nat):Int))] [0,4] (.join 0 Int (D37j1 x0 x1 i1 v1 i2 v2) [2,4,5,8,11,29,30,31] [2,4,20005,8,30800,11] (r0 1 [2,4,5,8,11,29,30,31,42] [2,4,8,11,20005,30800] (cn (decide (0≤((x0.people.getD ((x1.getD i2 default).toNat) default).father))) (r1 1 [2,4,5,8,11,29,30,31] [2,4,8,11,20005,30800] [pf (0≤((x0.people.getD ((x1.getD i2 default).toNat) default).father:Int)∧((x0.people.getD ((x1.getD i2 default).toNat) default).father:Int)<((x1.length:Nat):Int))] [0] (.next 0 [] (D37j1 x0 x1 i1 v1 i2 v2 (v1.getD (((x0.people.getD ((x1.getD i2 default).toNat) default).father).toNat) default)))) (.next 0 [] (D37j1 x0 x1 i1 v1 i2 v2 ((x0.people.getD ((x1.getD i2 default).toNat) default).father))))) (A37j1 x0 x1 i1 v1 i2 v2))) (r0 1 [4,5,8,66,67,68] [4,8,20005,30800] (lp (D37b3 x0 x1 i1 v1 i2 v2) [] [] [(30801,none)] (D37b3 x0 x1 i1 v1 i2 v2 0 ([]:List Union)) (A37b3 x0 x1 i1 v1 i2 v2))))
def A37b1 (x0:Family) (x1:List Int) (i1:Nat) (v1:(List Int)):Ann:=r0 1 [1,2,4,5,17,18,19,20] [2,4,20005] (cn (decide (((i1:Nat):Int)<((x1.length:Nat):Int))) (r1 1 [1,2,4,5,6,7,17,18,19] [2,4,20005] [pf (0≤(((i1:Nat):Int):Int)∧(((i1:Nat):Int):Int)<((x1.length:Nat):Int))] [0] (.reg 1 [] [(4,stC 20005 (cInt .i64) x1.length v1 ((x1.getD i1 default).toNat) ((i1:Nat):Int))] [1,2,4,5,17,18,19] [2,4,20005] [] [pf (0≤((x1.getD i1 default):Int)∧((x1.getD i1 default):Int)<((x1.length:Nat):Int))] [] [0,4] (r1 1 [1,2,4,5,17,18,19] [2,4,20005] [pf (inR .i64 (((i1:Nat):Int)+1))] [0] (.next 0 [(20005,some 20005)] (D37b1 x0 x1 (i1+1) (v1.set ((x1.getD i1 default).toNat) ((i1:Nat):Int))))))) (r0 1 [1,2,4,5,8] [2,4,8,20005] (r0 1 [2,4,5,8,29,30,31] [2,4,8,20005] (lp (D37b2 x0 x1 i1 v1) [] [] [(30800,none)] (D37b2 x0 x1 i1 v1 0 ([]:List Person)) (A37b2 x0 x1 i1 v1)))))
def A37 (x0:Family) (x1:List Int):Ann:=.reg 2 [] [(1002,msC 16 (cInt .i64) 8 ((x1.length:Nat):Int) ((x1.length:Nat):Int) x1.length (default:Int) (rfl))] [1,2,4,5] [2,4,16] [] [] [] [0] (r0 1 [1,2,4,5,17,18,19] [2,4,16] (lp (D37b1 x0 x1) [] [16] [(20005,some 16)] (D37b1 x0 x1 0 (List.replicate x1.length (default:Int))) (A37b1 x0 x1)))
theorem znn (x0:Family) (x1:List Int) (hx:x0.people.length≤1048576) (hu:x0.unions.length≤1048576) (hn:∀ p∈x0.people,p.name.length≤1048576) (hf:za4 x0=true) (ho:x1.length=x0.people.length) (hr:∀ i:Nat,i<x1.length→0≤x1.getD i default∧x1.getD i default<x0.people.length):FnT Tryz.prog 37 [.agg (zbx false x0),.ro false 1 x1.length (rowOf (cInt .i64) x1)] (C37 (zfi x0 x1)):=by
 have aux:∀ R,zfi x0 x1=R→slim (C37 R) (A37 x0 x1) []:=by
  intro R hR
  refine rg ⟨by (intros;omega),trivial⟩ ?_
  refine rg trivial ?_
  revert hR;refine lN (fun i v=>v.length=x1.length) (by (exact List.length_replicate)) rfl fun i1 v1 F1 hn1 hI1 hR hK1=>?_
  refine rg trivial ?_
  refine ⟨fun hc1=>?_,fun hc1=>?_⟩
  ·have hii1:i1<x1.length:=by have:=of_decide_eq_true hc1;omega
   replace hR:=zbj hR hii1
   refine rg ⟨by (intros;omega),trivial⟩ ?_
   refine rg ⟨by (have h7:=hr i1 om;omega),by (have h7:=hr i1 om;omega),trivial⟩ ?_
   refine rg ⟨by ( intros;simp only [inR];omega),trivial⟩ ?_
   exact hK1 (v1.set ((x1.getD i1 default).toNat) ((i1:Nat):Int)) hii1 zao hR
  ·obtain rfl:i1=x1.length:=by have:=of_decide_eq_false hc1;omega
   replace hR:=zbp hR (Nat.lt_irrefl _)
   refine rg trivial ?_
   refine rg trivial ?_
   revert hR;refine lN (fun i v=>v.length≤i) (by (exact Nat.le_refl _)) rfl fun i2 v2 F2 hn2 hI2 hR hK2=>?_
   refine rg trivial ?_
   refine ⟨fun hc2=>?_,fun hc2=>?_⟩
   ·have hii2:i2<x1.length:=by have:=of_decide_eq_true hc2;omega
    replace hR:=zbj hR hii2
    refine rg ⟨by (intros;omega),by (have h8:=fam_n hf;have h7:=hr i2 om;have h6:=fam_p hf (k:=(x1.getD i2 default).toNat) om;have h5:=h6.fa;have h4:=h6.mo;omega),trivial⟩ ?_
    revert hR;refine jN (fun v=>True) (fun F101 hR hJ101=>?_) (fun j1 hR hJ1=>?_)
    ·
      refine rg trivial ?_
      revert hR;refine cd (fun hc3 hR=>?_) fun hc3 hR=>?_
      ·
        refine rg ⟨by (have h8:=fam_n hf;have h7:=hr i2 om;have h6:=fam_p hf (k:=(x1.getD i2 default).toNat) om;have h5:=h6.fa;have h4:=h6.mo;have h3:=of_decide_eq_true hc3;omega),trivial⟩ ?_
        exact hJ101 (v1.getD (((x0.people.getD ((x1.getD i2 default).toNat) default).father).toNat) default) hR zax
      ·
        exact hJ101 ((x0.people.getD ((x1.getD i2 default).toNat) default).father) hR zax
    ·
      refine rg trivial ?_
      revert hR;refine cd (fun hc4 hR=>?_) fun hc4 hR=>?_
      ·
        refine rg ⟨by (have h8:=fam_n hf;have h7:=hr i2 om;have h6:=fam_p hf (k:=(x1.getD i2 default).toNat) om;have h5:=h6.fa;have h4:=h6.mo;have h3:=of_decide_eq_true hc4;omega),trivial⟩ ?_
        refine rg ⟨trivial,om,trivial⟩ ?_
        refine rg ⟨by ( intros;simp only [inR];omega),trivial⟩ ?_
        exact hK2 (v2++[(Person.mk ((x0.people.getD ((x1.getD i2 default).toNat) default).name) ((x0.people.getD ((x1.getD i2 default).toNat) default).sex) j1 (v1.getD (((x0.people.getD ((x1.getD i2 default).toNat) default).mother).toNat) default) ((x0.people.getD ((x1.getD i2 default).toNat) default).born) ((x0.people.getD ((x1.getD i2 default).toNat) default).died))]) hii2 zam hR
      ·
        refine rg ⟨trivial,om,trivial⟩ ?_
        refine rg ⟨by ( intros;simp only [inR];omega),trivial⟩ ?_
        exact hK2 (v2++[(Person.mk ((x0.people.getD ((x1.getD i2 default).toNat) default).name) ((x0.people.getD ((x1.getD i2 default).toNat) default).sex) j1 ((x0.people.getD ((x1.getD i2 default).toNat) default).mother) ((x0.people.getD ((x1.getD i2 default).toNat) default).born) ((x0.people.getD ((x1.getD i2 default).toNat) default).died))]) hii2 zam hR
   ·obtain rfl:i2=x1.length:=by have:=of_decide_eq_false hc2;omega
    replace hR:=zbp hR (Nat.lt_irrefl _)
    refine rg trivial ?_
    revert hR;refine lN (fun i v=>v.length≤i) (by (exact Nat.le_refl _)) rfl fun i3 v3 F3 hn3 hI3 hR hK3=>?_
    refine rg trivial ?_
    refine ⟨fun hc5=>?_,fun hc5=>?_⟩
    ·have hii3:i3<x0.unions.length:=by have:=of_decide_eq_true hc5;omega
     replace hR:=zbj hR hii3
     refine rg ⟨by (intros;omega),by (have h8:=fam_n hf;have h7:=fam_u hf hii3;have h6:=h7.man;have h5:=h7.woman;omega),by (have h8:=fam_n hf;have h7:=fam_u hf hii3;have h6:=h7.man;have h5:=h7.woman;omega),trivial⟩ ?_
     refine rg ⟨trivial,om,trivial⟩ ?_
     refine rg ⟨by ( intros;simp only [inR];omega),trivial⟩ ?_
     exact hK3 (v3++[(Union.mk (v1.getD (((x0.unions.getD i3 default).man).toNat) default) (v1.getD (((x0.unions.getD i3 default).woman).toNat) default) ((x0.unions.getD i3 default).from0) ((x0.unions.getD i3 default).to))]) hii3 zam hR
    ·obtain rfl:i3=x0.unions.length:=by have:=of_decide_eq_false hc5;omega
     replace hR:=zbp hR (Nat.lt_irrefl _)
     refine rg trivial ?_
     exact congrArg C37 hR
 exact Fn.go 92 Tryz.func37 zah zah (by simp [C37,Frs,FrsL,FrsB,rowOf,cInt,cBool,cStr,cSl,zce,zbq,zb4,zbx,cDyad,cLaw,zd4]) (A37 x0 x1) zah (aux _ rfl)
def k37 (x0:Family) (x1:List Int):Cl:=(hres (C37 (zfi x0 x1)),Go.Lite.k6 (znn x0 x1))
end Go.Proofs.YtaageiiodlfeiaaGreat
