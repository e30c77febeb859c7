import Derived.Test.YtepefimocflfkaaVS40
set_option maxHeartbeats 4000000
set_option linter.unusedSimpArgs false
set_option linter.unusedVariables false
namespace Go.Proofs.Ytepefimocflfkaa
open Go Go.Lite Go.Proofs
theorem take_snoc {α:Type} (l:List α) (d:α) {i:Nat} (hi:i<l.length):l.take (i+1)=l.take i++[l.getD i d]:=by
 rw [List.take_add_one,List.getD_eq_getElem?_getD,List.getElem?_eq_getElem hi];rfl
def UDiff (a b:Union):Prop:=a.man=b.man→¬ a.woman=b.woman
theorem pw_getD {α : Type} [Inhabited α] {R : α → α → Prop} : ∀ {l : List α}, (∀ k : Nat, k < l.length → ∀ j, j < k → R (l.getD j default) (l.getD k default)) → l.Pairwise R
  | [],_=>.nil
  | a :: l,h=>by
    refine List.pairwise_cons.2 ⟨fun b hb=>?_,pw_getD fun k hk j hj=>?_⟩
    · obtain ⟨k,hk,e⟩:=mem_getD (d:=default) hb
      have:=h (k+1) (by rw [List.length_cons];omega) 0 (by omega)
      rw [List.getD_cons_zero,List.getD_cons_succ,e] at this
      exact this
    · have:=h (k+1) (by rw [List.length_cons];omega) (j+1) (by omega)
      rwa [List.getD_cons_succ,List.getD_cons_succ] at this
theorem getD_pw {α : Type} [Inhabited α] {R : α → α → Prop} : ∀ {l : List α}, l.Pairwise R → ∀ k : Nat, k < l.length → ∀ j, j < k → R (l.getD j default) (l.getD k default)
  | [],_,k,hk,_,_=>absurd hk (Nat.not_lt_zero _)
  | a :: l,h,k,hk,j,hj=>by
    obtain ⟨h1,h2⟩:=List.pairwise_cons.1 h
    obtain ⟨k,rfl⟩:∃ m,k=m+1:=⟨k - 1,by omega⟩
    rw [List.length_cons] at hk
    rw [List.getD_cons_succ]
    cases j with
    | zero=>rw [List.getD_cons_zero];exact h1 _ (getD_mem (by omega))
    | succ j=>rw [List.getD_cons_succ];exact getD_pw h2 k (by omega) j (by omega)
theorem fam_sub {P:List Person} {U V:List Union} (h:specIsFamily ⟨P,U⟩=true) (hs:V.Sublist U):specIsFamily ⟨P,V⟩=true:=by
 obtain ⟨h1,h2,h3,h4⟩:=(fam_iff _).1 h
 have hl:=hs.length_le
 dsimp only at h1
 refine (fam_iff _).2 ⟨⟨h1.1,by dsimp only;omega⟩,fun k hk=>?_,h3,fun k hk=>?_⟩
 ·have:=h2 k hk
  exact ⟨this.name,this.sex,this.born,this.died,this.uniq,this.fa,this.mo⟩
 ·have hm:=hs.subset (getD_mem (d:=(default:Union)) hk)
  obtain ⟨j,hj,e⟩:=mem_getD (d:=default) hm
  have hu:=h4 j hj
  have hp:U.Pairwise UDiff:=pw_getD fun k hk j hj=>(h4 k hk).uniq j hj
  have hd:=getD_pw (hp.sublist hs) k hk
  have e2:(Family.mk P U).unions.getD j default=(Family.mk P V).unions.getD k default:=e
  obtain ⟨u1,u2,u3,u4,u5,u6,u7,u8,_⟩:=hu
  rw [e2] at u1 u2 u3 u4 u5 u6 u7 u8
  exact ⟨u1,u2,u3,u4,u5,u6,u7,u8,hd⟩
def AuI (x:Family) (i:Nat) (u:List Union):Prop:=u.Sublist (x.unions.take i)
theorem AuI.snoc {x:Family} {i:Nat} {u:List Union} (h:AuI x i u) (hi:i<x.unions.length):AuI x (i+1) (u++[x.unions.getD i default]):=by
 unfold AuI
 rw [take_snoc _ default hi]
 exact List.Sublist.append h (List.Sublist.refl _)
theorem AuI.skip {x:Family} {i:Nat} {u:List Union} (h:AuI x i u) (hi:i<x.unions.length):AuI x (i+1) u:=by
 unfold AuI
 rw [take_snoc _ default hi]
 exact List.Sublist.trans h (List.sublist_append_left _ _)
theorem AuI.fam {x:Family} {i:Nat} {u:List Union} (h:AuI x i u) (hf:specIsFamily x=true):specIsFamily ⟨x.people,u⟩=true:=fam_sub (U:=x.unions) hf (List.Sublist.trans h (List.take_sublist _ _))
def kLt (keys:List Int) (a b:Int):Prop:=keys.getD a.toNat default<keys.getD b.toNat default∨(keys.getD a.toNat default=keys.getD b.toNat default∧a<b)
def upto (n:Nat):List Int:=(List.range n).map fun j=>((j:Nat):Int)
theorem mem_upto {n:Nat} {a:Int}:a∈upto n↔0≤a∧a<n:=by
 unfold upto
 rw [List.mem_map]
 constructor
 ·rintro ⟨j,hj,rfl⟩;have:=List.mem_range.1 hj;omega
 ·intro h;exact ⟨a.toNat,List.mem_range.2 (by omega),by omega⟩
theorem upto_len (n:Nat):(upto n).length=n:=by simp [upto]
theorem upto_nodup (n:Nat):(upto n).Nodup:=by
 unfold upto
 rw [List.nodup_iff_pairwise_ne,List.pairwise_map]
 exact (List.nodup_iff_pairwise_ne.1 List.nodup_range).imp fun h e=>h (by omega)
theorem upto_succ (n:Nat):upto (n+1)=upto n++[((n:Nat):Int)]:=by simp [upto,List.range_succ]
structure OrdI (keys:List Int) (i:Nat) (v:List Int):Prop where
 perm:v.Perm (upto i)
 pw:v.Pairwise (kLt keys)
theorem OrdI.len {keys:List Int} {i:Nat} {v:List Int} (h:OrdI keys i v):v.length=i:=by rw [h.perm.length_eq,upto_len]
theorem OrdI.insert {keys : List Int} {i : Nat} {v : List Int} (h : OrdI keys i v) {c : Nat} (hc : c ≤ v.length) (h1 : ∀ m : Nat, m < c → ¬ keys.getD i default < keys.getD (v.getD m default).toNat default)
    (h2:c<v.length→keys.getD i default<keys.getD (v.getD c default).toNat default):OrdI keys (i+1) (v.take c++((i:Nat):Int) :: v.drop c):=by
 have hpw:=h.pw
 have hsp:(v.take c++v.drop c).Pairwise (kLt keys):=by rw [List.take_append_drop];exact hpw
 obtain ⟨p1,p2,p3⟩:=List.pairwise_append.1 hsp
 have hi:∀ a∈v,a<i:=fun a ha=>(mem_upto.1 (h.perm.mem_iff.1 ha)).2
 refine ⟨?_,List.pairwise_append.2 ⟨p1,List.pairwise_cons.2 ⟨fun b hb=>?_,p2⟩,fun a ha b hb=>?_⟩⟩
 ·refine List.Perm.trans List.perm_middle ?_
  rw [List.take_append_drop,upto_succ]
  exact List.Perm.trans (List.Perm.cons _ h.perm) (List.perm_append_comm (l₁:=[((i:Nat):Int)]))
 ·obtain ⟨m,hm,e⟩:=mem_getD (d:=default) hb
  rw [List.length_drop] at hm
  have e2:b=v.getD (c+m) default:=by
   rw [← e,List.getD_eq_getElem?_getD,List.getD_eq_getElem?_getD,List.getElem?_drop]
  have hk:=h2 (by omega)
  left
  rw [Int.toNat_natCast,e2]
  rcases Nat.eq_zero_or_pos m with g | g
  ·subst g;exact hk
  ·have:=getD_pw hpw (c+m) (by omega) c (by omega)
   rcases this with q | q<;>omega
 ·rcases List.mem_cons.1 hb with e | hb'
  ·subst e
   obtain ⟨m,hm,e⟩:=mem_getD (d:=default) ha
   rw [List.length_take] at hm
   have e2:a=v.getD m default:=by
    rw [← e,List.getD_eq_getElem?_getD,List.getD_eq_getElem?_getD,List.getElem?_take,if_pos (by omega)]
   have hk:=h1 m (by omega)
   have ha':=hi a (List.mem_of_mem_take ha)
   unfold kLt
   rw [Int.toNat_natCast,e2]
   rw [e2] at ha'
   omega
  ·exact p3 a ha b hb'
structure LI (i:Nat) (v:List Int):Prop where
 len:v.length=i
 rng:∀ c∈v,0≤c∧c<i
structure LJ (i j:Nat) (w:List Int) (d:Bool):Prop where
 len:w.length=j+(bif d then 1 else 0)
 rng:∀ c∈w,0≤c∧c≤i
theorem LI.nil:LI 0 []:=⟨rfl,fun c hc=>absurd hc List.not_mem_nil⟩
theorem LJ.nil (i:Nat):LJ i 0 [] false:=⟨rfl,fun c hc=>absurd hc List.not_mem_nil⟩
theorem LI.at {i:Nat} {v:List Int} (h:LI i v) {j:Nat} (hj:j<v.length):0≤v.getD j default∧v.getD j default<i:=h.rng _ (getD_mem hj)
theorem LJ.one {i j:Nat} {w v:List Int} {d:Bool} (h:LJ i j w d) (hv:LI i v) {m:Nat} (hm:m<v.length):LJ i (j+1) (w++[v.getD m default]) d:=by
 refine ⟨by rw [List.length_append,h.len,List.length_singleton];omega,fun a ha=>?_⟩
 rcases List.mem_append.1 ha with ha | ha
 ·exact h.rng a ha
 ·rw [List.mem_singleton.1 ha];have:=hv.at hm;omega
theorem LJ.both {i j:Nat} {w v:List Int} {d:Bool} (h:LJ i j w d) (hd:d=false) (hv:LI i v) {m:Nat} (hm:m<v.length):LJ i (j+1) ((w++[((i:Nat):Int)])++[v.getD m default]) true:=by
 subst hd
 have hl:=h.len
 simp only [cond_false] at hl
 refine ⟨by simp only [List.length_append,List.length_singleton,cond_true];omega,fun a ha=>?_⟩
 rcases List.mem_append.1 ha with ha | ha
 ·rcases List.mem_append.1 ha with ha | ha
  ·exact h.rng a ha
  ·rw [List.mem_singleton.1 ha];omega
 ·rw [List.mem_singleton.1 ha];have:=hv.at hm;omega
theorem LJ.fin {i:Nat} {w v:List Int} {d:Bool} (h:LJ i v.length w d) (hd:d=false) (hv:LI i v):LI (i+1) (w++[((i:Nat):Int)]):=by
 subst hd
 have hl:=h.len
 have h2:=hv.len
 simp only [cond_false] at hl
 refine ⟨by simp only [List.length_append,List.length_singleton];omega,fun a ha=>?_⟩
 rcases List.mem_append.1 ha with ha | ha
 ·have:=h.rng a ha;omega
 ·rw [List.mem_singleton.1 ha];omega
theorem LJ.done {i:Nat} {w v:List Int} {d:Bool} (h:LJ i v.length w d) (hd:d=true) (hv:LI i v):LI (i+1) w:=by
 subst hd
 have hl:=h.len
 have h2:=hv.len
 simp only [cond_true] at hl
 exact ⟨by omega,fun a ha=>by have:=h.rng a ha;omega⟩
theorem LJ.bd {i j:Nat} {w:List Int} {d:Bool} (h:LJ i j w d):w.length≤j+1:=by
 have:=h.len
 cases d<;>simp only [cond_true,cond_false] at this<;>omega
def C91 (R:(List Int)):LV×List (Nat×BC):=(.own 0,[(0,.arr 1 R.length (rowOf (cInt .i64) R))])
def l11Order (x0:List Int):(List Int):=loopN (fun i1 (v1:(List Int)) nx1=>loopN (fun i2 (v2:(List Int)×Bool) next=>bif ((!v2.2)&&(decide ((x0.getD i1 default)<(x0.getD ((v1.getD i2 default).toNat) default)))) then (next (((v2.1++[((i1:Nat):Int)])++[(v1.getD i2 default)]),true)) else (next ((v2.1++[(v1.getD i2 default)]),v2.2))) (fun (v2:(List Int)×Bool)=>bif (!v2.2) then (nx1 (v2.1++[((i1:Nat):Int)])) else (nx1 v2.1)) v1.length 0 (([]:List Int),false)) (fun (v1:(List Int))=>v1) x0.length 0 ([]:List Int)
def D91b1 (x0:List Int) (i1:Nat) (v1:(List Int)):Dl:=⟨[(12,.int .i64 ((i1:Nat):Int)),(3,.own 20003)],[(20003,.arr 1 v1.length (rowOf (cInt .i64) v1))]⟩
def D91b2 (x0:List Int) (i1:Nat) (v1:(List Int)) (i2:Nat) (v2:(List Int)×Bool):Dl:=⟨[(18,.int .i64 ((i2:Nat):Int)),(5,.own 20005),(6,.bool v2.2)],[(20005,.arr 1 v2.1.length (rowOf (cInt .i64) v2.1))]⟩
def A91b2 (x0:List Int) (i1:Nat) (v1:(List Int)) (i2:Nat) (v2:(List Int)×Bool):Ann:=r0 1 [0,2,3,4,5,6,11,12,16,17,18,19] [20003,20005] (cn (decide (((i2:Nat):Int)<((v1.length:Nat):Int))) (r1 1 [0,2,3,4,5,6,8,11,12,16,17,18] [20003,20005] [pf (0≤(((i2:Nat):Int):Int)∧(((i2:Nat):Int):Int)<((v1.length:Nat):Int))] [0] (.reg 1 [] [] [0,2,3,4,5,6,8,11,12,16,17,18,34] [20003,20005] [!v2.2] [gt (!v2.2) (pf (0≤(((i1:Nat):Int):Int)∧(((i1:Nat):Int):Int)<((x0.length:Nat):Int))),gt (!v2.2) (pf (0≤((v1.getD i2 default):Int)∧((v1.getD i2 default):Int)<((x0.length:Nat):Int)))] [] [1,1,0,1,1,1,4,1,1,1,1] (cn ((!v2.2)&&(decide ((x0.getD i1 default)<(x0.getD ((v1.getD i2 default).toNat) default)))) (.reg 1 [] [(2,bsC 37 (cInt .i64) ([((i1:Nat):Int)]:List Int)),(3,ap1 38 (cInt .i64) 8 v2.1 ((i1:Nat):Int))] [0,2,3,4,5,6,8,11,12,16,17,18] [38,20003] [] [] [] [0,4] (r0 1 [0,2,3,4,5,6,8,11,12,16,17,18] [38,20003] (.reg 1 [] [(2,bsC 41 (cInt .i64) ([(v1.getD i2 default)]:List Int)),(3,ap1 42 (cInt .i64) 8 (v2.1++[((i1:Nat):Int)]) (v1.getD i2 default))] [0,2,3,4,5,6,11,12,16,17,18] [42,20003] [] [] [] [0,4] (r1 1 [0,2,3,4,5,6,11,12,16,17,18] [42,20003] [pf (inR .i64 (((i2:Nat):Int)+1))] [0] (.next 0 [(20005,some 42)] (D91b2 x0 i1 v1 (i2+1) (((v2.1++[((i1:Nat):Int)])++[(v1.getD i2 default)]),true))))))) (.reg 1 [] [(2,bsC 41 (cInt .i64) ([(v1.getD i2 default)]:List Int)),(3,ap1 42 (cInt .i64) 8 v2.1 (v1.getD i2 default))] [0,2,3,4,5,6,11,12,16,17,18] [42,20003] [] [] [] [0,4] (r1 1 [0,2,3,4,5,6,11,12,16,17,18] [42,20003] [pf (inR .i64 (((i2:Nat):Int)+1))] [0] (.next 0 [(20005,some 42)] (D91b2 x0 i1 v1 (i2+1) ((v2.1++[(v1.getD i2 default)]),v2.2)))))))) (r0 1 [0,2,3,4,5,11,12,45] [20003,20005] (cn (!v2.2) (.reg 1 [] [(2,bsC 48 (cInt .i64) ([((i1:Nat):Int)]:List Int)),(3,ap1 49 (cInt .i64) 8 v2.1 ((i1:Nat):Int))] [0,2,3,5,11,12] [49,20003] [] [] [] [0,4] (r0 1 [0,2,3,11,12] [49] (r1 1 [0,2,3,11,12] [49] [pf (inR .i64 (((i1:Nat):Int)+1))] [0] (.next 1 [(20003,some 49)] (D91b1 x0 (i1+1) (v2.1++[((i1:Nat):Int)])))))) (r0 1 [0,2,3,11,12] [20005] (r1 1 [0,2,3,11,12] [20005] [pf (inR .i64 (((i1:Nat):Int)+1))] [0] (.next 1 [(20003,some 20005)] (D91b1 x0 (i1+1) v2.1)))))))
def A91b1 (x0:List Int) (i1:Nat) (v1:(List Int)):Ann:=r0 1 [0,2,3,11,12,13] [20003] (cn (decide (((i1:Nat):Int)<((x0.length:Nat):Int))) (.reg 3 [] [(1000,bsC 15 (cInt .i64) ([]:List Int))] [0,2,3,4,5,6,11,12] [15,20003] [] [] [] [0] (r0 1 [0,2,3,4,5,6,11,12,16,17,18] [15,20003] (lp (D91b2 x0 i1 v1) [] [15] [(20005,some 15)] (D91b2 x0 i1 v1 0 (([]:List Int),false)) (A91b2 x0 i1 v1)))) (r0 1 [2] [20003] (rt [(0,some 20003)] (C91 v1))))
def A91 (x0:List Int):Ann:=.reg 2 [] [(1000,bsC 9 (cInt .i64) ([]:List Int))] [0,2,3] [9] [] [] [] [0] (r0 1 [0,2,3,11,12] [9] (lp (D91b1 x0) [] [9] [(20003,some 9)] (D91b1 x0 0 ([]:List Int)) (A91b1 x0)))
theorem ok_spec_l11Order (x0:List Int) (hx:x0.length≤1000):FnT Try.prog 91 [.ro false 1 x0.length (rowOf (cInt .i64) x0)] (C91 (l11Order x0)):=by
 have aux:∀ R,l11Order x0=R→slim (C91 R) (A91 x0) []:=by
  intro R hR
  refine rg ⟨trivial,trivial⟩ ?_
  refine rg trivial ?_
  revert hR;refine lN (fun i v=>LI i v) (by (exact LI.nil)) rfl fun i1 v1 F1 hn1 hI1 hR hK1=>?_
  refine rg trivial ?_
  refine ⟨fun hc1=>?_,fun hc1=>?_⟩
  ·have hii1:i1<x0.length:=by have:=of_decide_eq_true hc1;omega
   replace hR:=loopN_step hR hii1
   refine rg ⟨trivial,trivial⟩ ?_
   refine rg trivial ?_
   revert hR;refine lN (fun i v=>LJ i1 i v.1 v.2) (by (exact LJ.nil _)) rfl fun i2 v2 F2 hn2 hI2 hR hK2=>?_
   refine rg trivial ?_
   refine ⟨fun hc2=>?_,fun hc2=>?_⟩
   ·have hii2:i2<v1.length:=by have:=of_decide_eq_true hc2;omega
    replace hR:=loopN_step hR hii2
    refine rg ⟨by (intros;omega),trivial⟩ ?_
    refine rg ⟨by (intros;omega),by (have h9:=hI1.at hii2;omega),trivial⟩ ?_
    revert hR;refine cd (fun hc3 hR=>?_) fun hc3 hR=>?_
    ·
      refine rg ⟨trivial,by (have h9:=hI2.bd;have h8:=hI1.len;(try simp only [List.length_append,List.length_singleton]);omega),trivial⟩ ?_
      refine rg trivial ?_
      refine rg ⟨trivial,by (have h9:=hI2.bd;have h8:=hI1.len;(try simp only [List.length_append,List.length_singleton]);omega),trivial⟩ ?_
      refine rg ⟨by ((try clear hR hK1 hK2);intros;(try simp only [decide_eq_true_eq,decide_eq_false_iff_not,Bool.or_eq_true,Bool.and_eq_true,or_f_iff,not_f_iff,not_t_iff,Bool.not_eq_true',inR] at *);(repeat' apply And.intro)<;>(first | (intros;omega) | (have h9:=hI2.bd;have h8:=hI1.len;(try simp only [List.length_append,List.length_singleton]);omega))),trivial⟩ ?_
      exact hK2 (((v2.1++[((i1:Nat):Int)])++[(v1.getD i2 default)]),true) hii2 (by (exact hI2.both (by simp only [Bool.and_eq_true,Bool.not_eq_true'] at hc3;exact hc3.1) hI1 hii2)) hR
    ·
      refine rg ⟨trivial,by (have h9:=hI2.bd;have h8:=hI1.len;(try simp only [List.length_append,List.length_singleton]);omega),trivial⟩ ?_
      refine rg ⟨by ((try clear hR hK1 hK2);intros;(try simp only [decide_eq_true_eq,decide_eq_false_iff_not,Bool.or_eq_true,Bool.and_eq_true,or_f_iff,not_f_iff,not_t_iff,Bool.not_eq_true',inR] at *);(repeat' apply And.intro)<;>(first | (intros;omega) | (have h9:=hI2.bd;have h8:=hI1.len;(try simp only [List.length_append,List.length_singleton]);omega))),trivial⟩ ?_
      exact hK2 ((v2.1++[(v1.getD i2 default)]),v2.2) hii2 (by (exact hI2.one hI1 hii2)) hR
   ·obtain rfl:i2=v1.length:=by have:=of_decide_eq_false hc2;omega
    replace hR:=loopN_end hR (Nat.lt_irrefl _)
    refine rg trivial ?_
    revert hR;refine cd (fun hc4 hR=>?_) fun hc4 hR=>?_
    ·
      refine rg ⟨trivial,by (have h9:=hI2.bd;have h8:=hI1.len;(try simp only [List.length_append,List.length_singleton]);omega),trivial⟩ ?_
      refine rg trivial ?_
      refine rg ⟨by ( intros;simp only [inR];omega),trivial⟩ ?_
      exact hK1 (v2.1++[((i1:Nat):Int)]) hii1 (by (exact hI2.fin (by simpa using hc4) hI1)) hR
    ·
      refine rg trivial ?_
      refine rg ⟨by ( intros;simp only [inR];omega),trivial⟩ ?_
      exact hK1 v2.1 hii1 (by (exact hI2.done (by simpa using hc4) hI1)) hR
  ·obtain rfl:i1=x0.length:=by have:=of_decide_eq_false hc1;omega
   replace hR:=loopN_end hR (Nat.lt_irrefl _)
   refine rg trivial ?_
   exact congrArg C91 hR
 exact Fn.go 53 Try.func91 (by kernel_rfl) (by kernel_rfl) (by simp [C91,Frs,FrsL,FrsB,rowOf,cInt,cBool,cStr,cSl,FrsL_app,cPerson,cUnion,cFamily,cEvent,cl01Cur]) (A91 x0) (by kernel_rfl) (aux _ rfl)
def k91 (x0:List Int):Cl:=(hres (C91 (l11Order x0)),k1 (ok_spec_l11Order x0))
theorem ext_g {α:Type} [Inhabited α] {l m:List α} (h:l.length=m.length) (hk:∀ k,k<l.length→l.getD k default=m.getD k default):l=m:=by
 apply List.ext_getElem h
 intro k h1 h2
 have:=hk k h1
 rw [List.getD_eq_getElem?_getD,List.getD_eq_getElem?_getD,List.getElem?_eq_getElem h1,List.getElem?_eq_getElem h2] at this
 simpa using this
def clipP (y:Int) (p:Person):Person:=⟨p.name,p.sex,p.father,p.mother,p.born,bif decide (y<p.died) then -1 else p.died⟩
def clipU (y:Int) (u:Union):Union:=⟨u.man,u.woman,u.from0,bif decide (y<u.to) then -1 else u.to⟩
structure Early (x k:Family) (y:Int):Prop where
 pl:k.people.length≤x.people.length
 pg:∀ i:Nat,i<k.people.length→k.people.getD i default=clipP y (x.people.getD i default)∧(x.people.getD i default).born≤y
 pr:∀ i:Nat,k.people.length≤i→i<x.people.length→y<(x.people.getD i default).born
 ul:k.unions.length≤x.unions.length
 ug:∀ i:Nat,i<k.unions.length→k.unions.getD i default=clipU y (x.unions.getD i default)∧(x.unions.getD i default).from0≤y
 ur:∀ i:Nat,k.unions.length≤i→i<x.unions.length→y<(x.unions.getD i default).from0

def dOf (x:Family) (l:List Int) (i:Nat):Int :=
 bif (decide (0 ≤ ((x.people.getD i default).father))) then (bif (decide (0 ≤ ((x.people.getD i default).mother))) then Max.max ((l.getD (((x.people.getD i default).father).toNat) default) + 1) ((l.getD (((x.people.getD i default).mother).toNat) default) + 1) else (l.getD (((x.people.getD i default).father).toNat) default) + 1) else
   (bif (decide (0≤((x.people.getD i default).mother))) then Max.max 0 ((l.getD (((x.people.getD i default).mother).toNat) default)+1) else 0)
theorem dOf_cg {x z : Family} {l m : List Int} {i j : Nat} (hf : (0 ≤ (x.people.getD i default).father ↔ 0 ≤ (z.people.getD j default).father)) (hm : (0 ≤ (x.people.getD i default).mother ↔ 0 ≤ (z.people.getD j default).mother))
    (h1:0≤(x.people.getD i default).father→l.getD (x.people.getD i default).father.toNat default=m.getD (z.people.getD j default).father.toNat default)
    (h2:0≤(x.people.getD i default).mother→l.getD (x.people.getD i default).mother.toNat default=m.getD (z.people.getD j default).mother.toNat default):dOf x l i=dOf z m j:=by
 unfold dOf
 rw [show decide (0≤(z.people.getD j default).father)=decide (0≤(x.people.getD i default).father) from decide_eq_decide.2 hf.symm,show decide (0≤(z.people.getD j default).mother)=decide (0≤(x.people.getD i default).mother) from decide_eq_decide.2 hm.symm]
 cases c1:decide (0≤(x.people.getD i default).father)<;>cases c2:decide (0≤(x.people.getD i default).mother)<;>simp only [cond_true,cond_false]
 ·rw [h2 (of_decide_eq_true c2)]
 ·rw [h1 (of_decide_eq_true c1)]
 ·rw [h1 (of_decide_eq_true c1),h2 (of_decide_eq_true c2)]
def DepthOk (x:Family) (r:List Int):Prop:=r.length=x.people.length∧∀ i:Nat,i<x.people.length→r.getD i default=dOf x r i
theorem depth_rec (x:Family) (hp:Par x):(l1Depths x).length=x.people.length∧∀ i:Nat,i<x.people.length→(l1Depths x).getD i default=dOf x (l1Depths x) i:=by
 suffices key:DepthOk x (l1Depths x) from key
 unfold l1Depths
 refine loopN_to (fun i (v:List Int)=>v.length=i∧∀ j:Nat,j<i→v.getD j default=dOf x v j) (DepthOk x) ⟨rfl,fun j hj=>absurd hj (Nat.not_lt_zero _)⟩ (fun i v next hi hv hn=>?_) (fun v hv=>hv)
 obtain ⟨hl,hd⟩:=hv
 have key:∀ d:Int,d=dOf x v i→(v++[d]).length=i+1∧∀ j:Nat,j<i+1→(v++[d]).getD j default=dOf x (v++[d]) j:=by
  intro d e
  refine ⟨by simp [hl],fun j hj=>?_⟩
  have hpj:=hp j (by omega)
  have e2:dOf x (v++[d]) j=dOf x v j:=by
   refine dOf_cg Iff.rfl Iff.rfl (fun h=>?_) (fun h=>?_)
   ·rw [getD_snoc,if_pos (by omega)]
   ·rw [getD_snoc,if_pos (by omega)]
  rw [e2,getD_snoc]
  by_cases c:j<v.length
  ·rw [if_pos c];exact hd j (by omega)
  ·have:j=i:=by omega
   subst this
   rw [if_neg c,if_pos (by omega)];exact e
 have e0:dOf x v i=dOf x v i:=rfl
 unfold dOf at e0
 cases c1 : decide (0 ≤ (x.people.getD i default).father) <;> cases c2 : decide (0 ≤ (x.people.getD i default).mother) <;> simp only [c1, c2, cond_true, cond_false] <;>
   (refine hn _ (key _ ?_);unfold dOf;simp only [c1,c2,cond_true,cond_false])

theorem Early.fam {x k:Family} {y:Int} (h:Early x k y) (hx:specIsFamily x=true):specIsFamily k=true:=by
 obtain ⟨⟨h1,h2⟩,h3,h4,h5⟩:=(fam_iff x).1 hx
 have hpl:=h.pl
 have hul:=h.ul
 have hin:∀ q:Int,0≤q→q<x.people.length→(x.people.getD q.toNat default).born≤y→q<k.people.length:=by
  intro q h0 hq hb
  rcases Int.lt_or_le q k.people.length with c | c
  ·exact c
  ·have:=h.pr q.toNat (by omega) (by omega);omega
 have hc:∀ (d b:Int),(bif decide (y<d) then (-1:Int) else d)=-1∨(bif decide (y<d) then (-1:Int) else d)=d:=by
  intro d b;cases decide (y<d)
  ·exact .inr rfl
  ·exact .inl rfl
 have hP:∀ i:Nat,i<k.people.length→FamP k i:=by
  intro i hi
  have p:=h3 i (by omega)
  have fa:=p.fa
  have mo:=p.mo
  refine ⟨?_,?_,?_,?_,fun j hj=>?_,?_,?_⟩
  ·rw [(h.pg i hi).1];exact p.name
  ·rw [(h.pg i hi).1];exact p.sex
  ·rw [(h.pg i hi).1];exact p.born
  ·rw [(h.pg i hi).1]
   have hd:=p.died
   dsimp only [clipP]
   rcases hc (x.people.getD i default).died 0 with e | e<;>rw [e]<;>omega
  ·rw [(h.pg i hi).1,(h.pg j (by omega)).1];exact p.uniq j hj
  ·rw [(h.pg i hi).1]
   dsimp only [clipP]
   refine fa.imp id fun f=>?_
   rw [(h.pg _ (by omega)).1]
   dsimp only [clipP]
   have hd:=f.2.2.2.2
   refine ⟨f.1,f.2.1,f.2.2.1,f.2.2.2.1,?_⟩
   rcases hc (x.people.getD (x.people.getD i default).father.toNat default).died 0 with e | e<;>rw [e]<;>omega
  ·rw [(h.pg i hi).1]
   dsimp only [clipP]
   refine mo.imp id fun f=>?_
   rw [(h.pg _ (by omega)).1]
   dsimp only [clipP]
   have hd:=f.2.2.2.2
   refine ⟨f.1,f.2.1,f.2.2.1,f.2.2.2.1,?_⟩
   rcases hc (x.people.getD (x.people.getD i default).mother.toNat default).died 0 with e | e<;>rw [e]<;>omega
 have hpk:Par k:=fun i hi=>by
  have p:=hP i hi
  have fa:=p.fa
  have mo:=p.mo
  omega
 have hpx:=isFamily_par x hx
 refine (fam_iff k).2 ⟨⟨by omega,by omega⟩,hP,?_,fun i hi=>?_⟩
 ·suffices hd:∀ n i:Nat,i<n→i<k.people.length→(l1Depths k).getD i default=(l1Depths x).getD i default by
   intro i hi
   rw [hd (i+1) i (by omega) hi]
   exact h4 i (by omega)
  intro n
  induction n with
  | zero=>intro i hi;omega
  | succ n ih =>
   intro i hi hik
   rw [(depth_rec k hpk).2 i hik,(depth_rec x hpx).2 i (by omega)]
   have hpi:=hpx i (by omega)
   have ef:(k.people.getD i default).father=(x.people.getD i default).father:=by rw [(h.pg i hik).1];rfl
   have em:(k.people.getD i default).mother=(x.people.getD i default).mother:=by rw [(h.pg i hik).1];rfl
   refine dOf_cg (by rw [ef]) (by rw [em]) (fun g=>?_) (fun g=>?_)
   ·rw [ef] at g ⊢;exact ih _ (by omega) (by omega)
   ·rw [em] at g ⊢;exact ih _ (by omega) (by omega)
 ·have u:=h5 i (by omega)
  obtain ⟨e,hy⟩:=h.ug i hi
  have hman:=u.man;have hwoman:=u.woman;have hfrom:=u.from0;have hto:=u.to;have hm:=u.mdied;have hw:=u.wdied
  have hmk:=hin _ hman.1 hman.2 (by omega)
  have hwk:=hin _ hwoman.1 hwoman.2 (by omega)
  have em:=(h.pg (x.unions.getD i default).man.toNat (by omega)).1
  have ew:=(h.pg (x.unions.getD i default).woman.toNat (by omega)).1
  have g1:(k.unions.getD i default).man=(x.unions.getD i default).man:=by rw [e];rfl
  have g2:(k.unions.getD i default).woman=(x.unions.getD i default).woman:=by rw [e];rfl
  have g3:(k.unions.getD i default).from0=(x.unions.getD i default).from0:=by rw [e];rfl
  have g4:(k.unions.getD i default).to=bif decide (y<(x.unions.getD i default).to) then -1 else (x.unions.getD i default).to:=by rw [e];rfl
  refine ⟨by rw [g1];omega,by rw [g2];omega,by rw [g1,em];exact u.msex,by rw [g2,ew];exact u.wsex,by rw [g1,g2,g3,em,ew];exact hfrom,?_,?_,?_,fun j hj=>?_⟩
  ·rw [g4,g3]
   rcases hc (x.unions.getD i default).to 0 with e1 | e1<;>rw [e1]<;>omega
  ·rw [g1,em,g3,g4]
   dsimp only [clipP]
   generalize (x.people.getD (x.unions.getD i default).man.toNat default).died=d at hm ⊢
   by_cases c1:y<d<;>by_cases c2:y<(x.unions.getD i default).to<;>simp only [c1,c2,decide_true,decide_false,cond_true,cond_false,true_or,or_true]<;>omega
  ·rw [g2,ew,g3,g4]
   dsimp only [clipP]
   generalize (x.people.getD (x.unions.getD i default).woman.toNat default).died=d at hw ⊢
   by_cases c1:y<d<;>by_cases c2:y<(x.unions.getD i default).to<;>simp only [c1,c2,decide_true,decide_false,cond_true,cond_false,true_or,or_true]<;>omega
  ·rw [g1,g2,(h.ug j (by omega)).1];exact u.uniq j hj

theorem Early.parents {x k:Family} {y:Int} (h:Early x k y) {p:Int} (hp:0≤p∧p<k.people.length):l1Parents k p=l1Parents x p:=by
 unfold l1Parents
 rw [(h.pg p.toNat (by omega)).1]
 rfl
theorem Early.up {x k:Family} {y:Int} (h:Early x k y) (hx:specIsFamily x=true) {p:Int} (hp:0≤p∧p<k.people.length) (m:Nat) (q:Int):Up k p m q↔Up x p m q:=by
 have hk:=isFamily_par k (h.fam hx)
 have hpx:=isFamily_par x hx
 have hpl:=h.pl
 constructor
 ·intro hu
  induction hu with
  | zero=>exact .zero
  | step hu hq ih =>
   have:=hu.rng hk hp
   rw [h.parents ⟨this.1,this.2.1⟩] at hq
   exact .step ih hq
 ·intro hu
  induction hu with
  | zero=>exact .zero
  | step hu hq ih =>
   have:=hu.rng hpx ⟨hp.1,by omega⟩
   rw [← h.parents ⟨this.1,by omega⟩] at hq
   exact .step ih hq
theorem order_ok (keys:List Int):OrdI keys keys.length (l11Order keys):=by
 unfold l11Order
 refine loopN_to (fun i (v:List Int)=>OrdI keys i v) (fun v=>OrdI keys keys.length v) ⟨by simp [upto],.nil⟩ (fun i v nx hi hv hn=>?_) (fun v hv=>hv)
 refine loopN_to (fun j (w : List Int × Bool) => (w.2 = false → w.1 = v.take j ∧ ∀ m : Nat, m < j → ¬ keys.getD i default < keys.getD (v.getD m default).toNat default) ∧
     (w.2=true→∃ c,c<j∧w.1=v.take c++((i:Nat):Int) :: (v.drop c).take (j - c)∧(∀ m:Nat,m<c→¬ keys.getD i default<keys.getD (v.getD m default).toNat default)∧keys.getD i default<keys.getD (v.getD c default).toNat default)) (fun v=>OrdI keys keys.length v)
  ⟨fun _=>⟨rfl,fun m hm=>absurd hm (Nat.not_lt_zero _)⟩,(fun h=>by cases h)⟩ (fun j w nx2 hj hw hn2=>?_) (fun w hw=>?_)
 ·obtain ⟨w1,d⟩:=w
  obtain ⟨hf,ht⟩:=hw
  dsimp only at hf ht ⊢
  cases d
  ·obtain ⟨e,hk⟩:=hf rfl
   simp only [Bool.not_false,Bool.true_and]
   cases c:decide (keys.getD i default<keys.getD (v.getD j default).toNat default)<;>simp only [cond_true,cond_false]
   ·refine hn2 _ ⟨fun _=>⟨by rw [e,← take_snoc _ _ hj],fun m hm=>?_⟩,(fun h=>by cases h)⟩
    rcases Nat.lt_or_ge m j with g | g
    ·exact hk m g
    ·have:m=j:=by omega
     subst this;exact of_decide_eq_false c
   ·refine hn2 _ ⟨(fun h=>by cases h),fun _=>⟨j,by omega,?_,hk,of_decide_eq_true c⟩⟩
    have e3:(v.drop j).take 1=[v.getD j default]:=by
     rw [List.drop_eq_getElem_cons hj,List.take_succ_cons,List.take_zero]
     simp [List.getD,hj]
    rw [e,show j+1 - j=1 by omega,List.append_assoc,e3]
    rfl
  ·obtain ⟨c,hc,e,hk,hk2⟩:=ht rfl
   simp only [Bool.not_true,Bool.false_and,cond_false]
   refine hn2 _ ⟨(fun h=>by cases h),fun _=>⟨c,by omega,?_,hk,hk2⟩⟩
   rw [e,List.append_assoc,List.cons_append]
   have e2:v.getD j default=(v.drop c).getD (j - c) default:=by
    rw [List.getD_eq_getElem?_getD,List.getD_eq_getElem?_getD,List.getElem?_drop,show c+(j - c)=j by omega]
   rw [e2,show j+1 - c=(j - c)+1 by omega,take_snoc (v.drop c) default (i:=j - c) (by rw [List.length_drop];omega)]
 ·obtain ⟨w1,d⟩:=w
  obtain ⟨hf,ht⟩:=hw
  dsimp only at hf ht ⊢
  cases d
  ·obtain ⟨e,hk⟩:=hf rfl
   simp only [Bool.not_false,cond_true]
   have h:=hv.insert (c:=v.length) (Nat.le_refl _) hk (fun h=>absurd h (Nat.lt_irrefl _))
   rw [List.drop_length,← e] at h
   exact hn _ h
  ·obtain ⟨c,hc,e,hk,hk2⟩:=ht rfl
   simp only [Bool.not_true,cond_false]
   have h:=hv.insert (c:=c) (by omega) hk (fun _=>hk2)
   rw [e,show v.length - c=(v.drop c).length by simp,List.take_length]
   exact hn _ h
theorem order_len (keys:List Int):(l11Order keys).length=keys.length:=(order_ok keys).len
theorem order_rng (keys:List Int):∀ c∈l11Order keys,0≤c∧c<keys.length:=fun c hc=>mem_upto.1 ((order_ok keys).perm.mem_iff.1 hc)
theorem order_sorted (keys:List Int) {i j:Nat} (hij:i≤j) (hj:j<(l11Order keys).length):keys.getD ((l11Order keys).getD i default).toNat default≤keys.getD ((l11Order keys).getD j default).toNat default:=by
 rcases Nat.lt_or_ge i j with g | g
 ·have:=getD_pw (order_ok keys).pw j hj i g
  rcases this with q | q<;>omega
 ·have:i=j:=by omega
  subst this;omega
def C141 (R:(List Int)×Bool):LV×List (Nat×BC):=(.tup [.own 0,.bool R.2],[(0,.arr 1 R.1.length (rowOf (cInt .i64) R.1))])
def l1Inverse (x0:List Int) (x1:Int):(List Int)×Bool:=loopN (fun i1 (v1:(List Int)) next=>next (v1.set i1 (-1))) (fun (v1:(List Int))=>bif (!decide (((x0.length:Nat):Int)=x1)) then (([]:List Int),false) else (loopN (fun i2 (v2:(List Int)) next=>bif (((decide ((x0.getD i2 default)<0))||(decide (x1≤(x0.getD i2 default))))||(decide (0≤(v2.getD ((x0.getD i2 default).toNat) default)))) then (([]:List Int),false) else (next (v2.set ((x0.getD i2 default).toNat) ((i2:Nat):Int)))) (fun (v2:(List Int))=>(v2,true)) x0.length 0 v1)) x1.toNat 0 (List.replicate x1.toNat (default:Int))
def D141b1 (x0:List Int) (x1:Int) (i1:Nat) (v1:(List Int)):Dl:=⟨[(14,.int .i64 ((i1:Nat):Int)),(6,.own 20006)],[(20006,.arr 1 x1.toNat (rowOf (cInt .i64) v1))]⟩
def D141b2 (x0:List Int) (x1:Int) (i1:Nat) (v1:(List Int)) (i2:Nat) (v2:(List Int)):Dl:=⟨[(27,.int .i64 ((i2:Nat):Int)),(6,.own 30006)],[(30006,.arr 1 x1.toNat (rowOf (cInt .i64) v2))]⟩
def A141b2 (x0:List Int) (x1:Int) (i1:Nat) (v1:(List Int)) (i2:Nat) (v2:(List Int)):Ann:=r0 1 [1,4,5,6,25,26,27,28] [30006] (cn (decide (((i2:Nat):Int)<((x0.length:Nat):Int))) (r1 1 [1,4,5,6,8,9,25,26,27] [30006] [pf (0≤(((i2:Nat):Int):Int)∧(((i2:Nat):Int):Int)<((x0.length:Nat):Int))] [0] (.reg 1 [] [] [1,4,5,6,8,9,25,26,27,45] [30006] [!(decide ((x0.getD i2 default)<0)),decide ((x0.getD i2 default)<0),!((decide ((x0.getD i2 default)<0))||(decide (x1≤(x0.getD i2 default)))),(decide ((x0.getD i2 default)<0))||(decide (x1≤(x0.getD i2 default)))] [gt (!((decide ((x0.getD i2 default)<0))||(decide (x1≤(x0.getD i2 default))))) (pf (0≤((x0.getD i2 default):Int)∧((x0.getD i2 default):Int)<((x1.toNat:Nat):Int)))] [] [1,1,6,9,9,0,9,9,14] (cn (((decide ((x0.getD i2 default)<0))||(decide (x1≤(x0.getD i2 default))))||(decide (0≤(v2.getD ((x0.getD i2 default).toNat) default)))) (r0 1 [1,4,5,6,8,9,25,26,27] [30006] (rt [(0,none)] (C141 (([]:List Int),false)))) (.reg 1 [] [(4,stC 30006 (cInt .i64) x1.toNat v2 ((x0.getD i2 default).toNat) ((i2:Nat):Int))] [1,4,5,6,25,26,27] [30006] [] [pf (0≤((x0.getD i2 default):Int)∧((x0.getD i2 default):Int)<((x1.toNat:Nat):Int))] [] [0,4] (r1 1 [1,4,5,6,25,26,27] [30006] [pf (inR .i64 (((i2:Nat):Int)+1))] [0] (.next 0 [(30006,some 30006)] (D141b2 x0 x1 i1 v1 (i2+1) (v2.set ((x0.getD i2 default).toNat) ((i2:Nat):Int))))))))) (r0 1 [4,5] [30006] (.co false 30006 v2.length (rowOf (cInt .i64) v2) [lnP (rowOf (cInt .i64) v2) x1.toNat v2.length] [] 0 (rt [(0,some 30006)] (C141 (v2,true))))))
def A141b1 (x0:List Int) (x1:Int) (i1:Nat) (v1:(List Int)):Ann:=r0 1 [0,1,4,5,6,13,14,15] [20006] (cn (decide (((i1:Nat):Int)<((x1.toNat:Nat):Int))) (r0 1 [0,1,4,5,6,7,13,14] [20006] (.reg 1 [] [(3,stC 20006 (cInt .i64) x1.toNat v1 i1 (-1))] [0,1,4,5,6,13,14] [20006] [] [pf (0≤(((i1:Nat):Int):Int)∧(((i1:Nat):Int):Int)<((x1.toNat:Nat):Int))] [] [0,4] (r1 1 [0,1,4,5,6,13,14] [20006] [pf (inR .i64 (((i1:Nat):Int)+1))] [0] (.next 0 [(20006,some 20006)] (D141b1 x0 x1 (i1+1) (v1.set i1 (-1))))))) (r0 1 [0,1,4,5,6,24] [20006] (cn (!decide (((x0.length:Nat):Int)=x1)) (r0 1 [0,1,4,5,6] [20006] (rt [(0,none)] (C141 (([]:List Int),false)))) (r0 1 [1,4,5,6,25,26,27] [20006] (lp (D141b2 x0 x1 i1 v1) [] [20006] [(30006,some 20006)] (D141b2 x0 x1 i1 v1 0 v1) (A141b2 x0 x1 i1 v1))))))
def A141 (x0:List Int) (x1:Int):Ann:=.reg 2 [] [(1001,msC 11 (cInt .i64) 8 x1 x1 x1.toNat (default:Int) (rfl))] [0,1,4,5,6] [11] [] [] [] [0] (r0 1 [0,1,4,5,6,13,14] [11] (lp (D141b1 x0 x1) [] [11] [(20006,some 11)] (D141b1 x0 x1 0 (List.replicate x1.toNat (default:Int))) (A141b1 x0 x1)))
theorem ok_spec_l1Inverse (x0:List Int) (x1:Int) (hx:x0.length≤1048576) (hn:0≤x1∧x1≤1048576):FnT Try.prog 141 [.ro false 1 x0.length (rowOf (cInt .i64) x0),.int .i64 x1] (C141 (l1Inverse x0 x1)):=by
 have aux:∀ R,l1Inverse x0 x1=R→slim (C141 R) (A141 x0 x1) []:=by
  intro R hR
  refine rg ⟨by (intros;omega),trivial⟩ ?_
  refine rg trivial ?_
  revert hR;refine lN (fun i v=>v.length=x1.toNat) (by (simp only [List.length_replicate])) rfl fun i1 v1 F1 hn1 hI1 hR hK1=>?_
  refine rg trivial ?_
  refine ⟨fun hc1=>?_,fun hc1=>?_⟩
  ·have hii1:i1<x1.toNat:=by have:=of_decide_eq_true hc1;omega
   replace hR:=loopN_step hR hii1
   refine rg trivial ?_
   refine rg ⟨by (intros;omega),by (intros;omega),trivial⟩ ?_
   refine rg ⟨by ( intros;simp only [inR];omega),trivial⟩ ?_
   exact hK1 (v1.set i1 (-1)) hii1 (by (simp only [List.length_set];omega)) hR
  ·obtain rfl:i1=x1.toNat:=by have:=of_decide_eq_false hc1;omega
   replace hR:=loopN_end hR (Nat.lt_irrefl _)
   refine rg trivial ?_
   revert hR;refine cd (fun hc2 hR=>?_) fun hc2 hR=>?_
   ·
     refine rg trivial ?_
     exact congrArg C141 hR
   ·
     refine rg trivial ?_
     revert hR;refine lN (fun i v=>v.length=x1.toNat) (by trivial) rfl fun i2 v2 F2 hn2 hI2 hR hK2=>?_
     refine rg trivial ?_
     refine ⟨fun hc3=>?_,fun hc3=>?_⟩
     · have hii2:i2<x0.length:=by have:=of_decide_eq_true hc3;omega
       replace hR:=loopN_step hR hii2
       refine rg ⟨by (intros;omega),trivial⟩ ?_
       refine rg ⟨by (simp only [decide_eq_true_eq,decide_eq_false_iff_not,Bool.or_eq_true,Bool.and_eq_true,or_f_iff,not_f_iff,not_t_iff,Bool.not_eq_true'] at *;omega),trivial⟩ ?_
       revert hR;refine cd (fun hc4 hR=>?_) fun hc4 hR=>?_
       ·
         refine rg trivial ?_
         exact congrArg C141 hR
       ·
         refine rg ⟨by (simp only [decide_eq_true_eq,decide_eq_false_iff_not,Bool.or_eq_true,Bool.and_eq_true,or_f_iff,not_f_iff,not_t_iff,Bool.not_eq_true'] at *;omega),by (simp only [decide_eq_true_eq,decide_eq_false_iff_not,Bool.or_eq_true,Bool.and_eq_true,or_f_iff,not_f_iff,not_t_iff,Bool.not_eq_true'] at *;omega),trivial⟩ ?_
         refine rg ⟨by ( intros;simp only [inR];omega),trivial⟩ ?_
         exact hK2 (v2.set ((x0.getD i2 default).toNat) ((i2:Nat):Int)) hii2 (by (simp only [List.length_set];omega)) hR
     · obtain rfl:i2=x0.length:=by have:=of_decide_eq_false hc3;omega
       replace hR:=loopN_end hR (Nat.lt_irrefl _)
       refine rg trivial ?_
       refine og (by (intros;omega)) ?_
       exact congrArg C141 hR
 exact Fn.go 52 Try.func141 (by kernel_rfl) (by kernel_rfl) (by simp [C141,Frs,FrsL,FrsB,rowOf,cInt,cBool,cStr,cSl,FrsL_app,cPerson,cUnion,cFamily,cEvent,cl01Cur]) (A141 x0 x1) (by kernel_rfl) (aux _ rfl)
def k141 (x0:List Int) (x1:Int):Cl:=(hres (C141 (l1Inverse x0 x1)),k2 (ok_spec_l1Inverse x0 x1))
structure InvOk (o:List Int) (n:Nat) (r:(List Int)×Bool):Prop where
 out:r.2=true→o.length=n∧(∀ c∈o,0≤c∧c<n)∧r.1.length=n∧∀ i:Nat,i<o.length→r.1.getD (o.getD i default).toNat default=((i:Nat):Int)
 inn:o.length=n→(∀ c∈o,0≤c∧c<n)→o.Nodup→r.2=true
theorem inverse_ok (o:List Int) (n:Nat):InvOk o n (l1Inverse o ((n:Nat):Int)):=by
 unfold l1Inverse
 rw [Int.toNat_natCast]
 refine loopN_to (fun i (v:List Int)=>v.length=n∧∀ j:Nat,j<i→v.getD j default=-1) (fun r=>InvOk o n r) ⟨by simp,fun j hj=>absurd hj (Nat.not_lt_zero _)⟩ (fun i v nx hi hv hn=>hn _ ⟨by rw [List.length_set];exact hv.1,fun j hj=>?_⟩) (fun v hv=>?_)
 ·rw [getD_set]
  by_cases c:j=i
  ·rw [if_pos ⟨c,by rw [hv.1];omega⟩]
  ·rw [if_neg (fun h=>c h.1)];exact hv.2 j (by omega)
 ·cases c:decide (((o.length:Nat):Int)=((n:Nat):Int))
  ·simp only [Bool.not_false,cond_true]
   exact ⟨(fun h=>by cases h),fun h=>absurd (by rw [h]) (of_decide_eq_false c)⟩
  ·simp only [Bool.not_true,cond_false]
   have hl:o.length=n:=by have:=of_decide_eq_true c;omega
   refine loopN_to (fun i (w : List Int) => w.length = n ∧ (∀ m : Nat, m < i → (0 ≤ o.getD m default ∧ o.getD m default < n) ∧ w.getD (o.getD m default).toNat default = ((m : Nat) : Int)) ∧ ∀ q : Nat, q < n → w.getD q default = -1 ∨ ∃ m : Nat, m < i ∧ o.getD m default = ((q : Nat) : Int)) (fun r => InvOk o n r)
     ⟨hv.1,fun m hm=>absurd hm (Nat.not_lt_zero _),fun q hq=>.inl (hv.2 q hq)⟩ (fun i w nx hi hw hn=>?_) (fun w hw=>?_)
   ·obtain ⟨w1,w2,w3⟩:=hw
    cases d:(((decide ((o.getD i default)<0))||(decide (((n:Nat):Int)≤(o.getD i default))))||(decide (0≤(w.getD ((o.getD i default).toNat) default))))
    ·simp only [cond_false]
     simp only [Bool.or_eq_false_iff,decide_eq_false_iff_not] at d
     refine hn _ ⟨by rw [List.length_set];exact w1,fun m hm=>?_,fun q hq=>?_⟩
     ·rcases Nat.lt_or_ge m i with g | g
      ·obtain ⟨g1,g2⟩:=w2 m g
       refine ⟨g1,?_⟩
       rw [getD_set,if_neg (fun h=>?_)]
       ·exact g2
       ·rw [h.1] at g2;omega
      ·have:m=i:=by omega
       subst this
       exact ⟨by omega,by rw [getD_set,if_pos ⟨rfl,by omega⟩]⟩
     ·rw [getD_set]
      by_cases e:q=(o.getD i default).toNat
      ·exact .inr ⟨i,by omega,by omega⟩
      ·rw [if_neg (fun h=>e h.1)]
       rcases w3 q hq with g | ⟨m,hm,g⟩
       ·exact .inl g
       ·exact .inr ⟨m,by omega,g⟩
    ·simp only [cond_true]
     refine ⟨(fun h=>by cases h),fun _ h2 h3=>?_⟩
     exfalso
     have hr:=h2 _ (getD_mem (d:=default) hi)
     simp only [Bool.or_eq_true,decide_eq_true_eq] at d
     rcases w3 (o.getD i default).toNat (by omega) with g | ⟨m,hm,g⟩
     ·omega
     ·exact getD_pw (List.nodup_iff_pairwise_ne.1 h3) i hi m hm (by rw [g];omega)
   ·refine ⟨fun _=>⟨hl,fun c hc=>?_,hw.1,fun i hi=>(hw.2.1 i (by rw [hl] at hi ⊢;exact hi)).2⟩,fun _ _ _=>rfl⟩
    obtain ⟨k,hk,e⟩:=mem_getD (d:=default) hc
    rw [← e]
    exact (hw.2.1 k hk).1
theorem perm_pre {x : Family} {o : List Int} (h : ((!((l1Inverse o ((x.people.length : Nat) : Int)).2)) || (!(specIsFamily x))) = false) :
    specIsFamily x=true∧o.length=x.people.length∧(∀ i:Nat,i<o.length→0≤o.getD i default∧o.getD i default<x.people.length)∧(l1Inverse o ((x.people.length:Nat):Int)).1.length=x.people.length:=by
 simp only [Bool.or_eq_false_iff,Bool.not_eq_false'] at h
 obtain ⟨h1,h2,h3,_⟩:=(inverse_ok o x.people.length).out h.1
 exact ⟨h.2,h1,fun i hi=>h2 _ (getD_mem hi),h3⟩
def NM (i:Nat) (l:List Person):Prop:=l.length≤i∧∀ a∈l,a.name.length≤1048576
theorem NM.nil:NM 0 []:=⟨Nat.le_refl _,fun a ha=>absurd ha List.not_mem_nil⟩
theorem NM.snoc {x:Family} (hn:∀ p∈x.people,p.name.length≤1048576) {i:Nat} {l:List Person} (h:NM i l) {k:Nat} (hk:k<x.people.length) (s f m b d:Int):NM (i+1) (l++[Person.mk (x.people.getD k default).name s f m b d]):=by
 refine ⟨by rw [List.length_append,List.length_singleton];have:=h.1;omega,fun a ha=>?_⟩
 rcases List.mem_append.1 ha with ha | ha
 ·exact h.2 a ha
 ·rw [List.mem_singleton.1 ha];exact hn (x.people.getD k default) (getD_mem hk)
end Go.Proofs.Ytepefimocflfkaa
