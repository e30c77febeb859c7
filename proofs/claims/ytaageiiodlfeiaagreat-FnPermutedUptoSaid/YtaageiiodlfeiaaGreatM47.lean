import Derived.Test.YtaageiiodlfeiaaGreatV44
set_option maxHeartbeats 4000000
set_option linter.unusedSimpArgs false
set_option linter.unusedVariables false
namespace Go.Proofs.YtaageiiodlfeiaaGreat
open Go Go.Lite Go.Proofs
def C137 (R:(List Int)):LV×List (Nat×BC):=(.own 0,[(0,.arr 1 R.length (rowOf (cInt .i64) R))])
def zg6 (x0:Family) (x1:List Int) (x2:Int):(List Int):=loopN (fun i1 (v1:(List Int)×Bool) next=>bif ((!v1.2)&&(zn5 x0 x2 (x1.getD i1 default))) then (next (((v1.1++[x2])++[(x1.getD i1 default)]),true)) else (next ((v1.1++[(x1.getD i1 default)]),v1.2))) (fun (v1:(List Int)×Bool)=>bif (!v1.2) then (v1.1++[x2]) else v1.1) x1.length 0 (([]:List Int),false)
def zvv (x0:Family) (x1:List Int) (x2:Int) (i1:Nat) (v1:(List Int)×Bool):Dl:=⟨[(14,.int .i64 ((i1:Nat):Int)),(7,.own 20007),(8,.bool v1.2)],[(20007,.arr 1 v1.1.length (rowOf (cInt .i64) v1.1))]⟩
def A137b1 (x0:Family) (x1:List Int) (x2:Int) (i1:Nat) (v1:(List Int)×Bool):Ann:=r0 1 [2,3,6,7,8,12,13,14,15] [3,20007] (cn (decide (((i1:Nat):Int)<((x1.length:Nat):Int))) (r1 1 [2,3,6,7,8,10,12,13,14] [3,20007] [pf (0≤(((i1:Nat):Int):Int)∧(((i1:Nat):Int):Int)<((x1.length:Nat):Int))] [0] (.reg 1 [] [(6,cg (!v1.2) (k145 x0 x2 (x1.getD i1 default)))] [2,3,6,7,8,10,12,13,14,25] [3,20007] [!v1.2] [] [] [1,1,1,0,1] (cn ((!v1.2)&&(zn5 x0 x2 (x1.getD i1 default))) (.reg 1 [] [(2,bsC 28 (cInt .i64) ([x2]:List Int)),(3,ap1 29 (cInt .i64) 8 v1.1 x2)] [2,3,6,7,8,10,12,13,14] [3,29] [] [] [] [0,4] (r0 1 [2,3,6,7,8,10,12,13,14] [3,29] (.reg 1 [] [(2,bsC 32 (cInt .i64) ([(x1.getD i1 default)]:List Int)),(3,ap1 33 (cInt .i64) 8 (v1.1++[x2]) (x1.getD i1 default))] [2,3,6,7,8,12,13,14] [3,33] [] [] [] [0,4] (r1 1 [2,3,6,7,8,12,13,14] [3,33] [pf (inR .i64 (((i1:Nat):Int)+1))] [0] (.next 0 [(20007,some 33)] (zvv x0 x1 x2 (i1+1) (((v1.1++[x2])++[(x1.getD i1 default)]),true))))))) (.reg 1 [] [(2,bsC 32 (cInt .i64) ([(x1.getD i1 default)]:List Int)),(3,ap1 33 (cInt .i64) 8 v1.1 (x1.getD i1 default))] [2,3,6,7,8,12,13,14] [3,33] [] [] [] [0,4] (r1 1 [2,3,6,7,8,12,13,14] [3,33] [pf (inR .i64 (((i1:Nat):Int)+1))] [0] (.next 0 [(20007,some 33)] (zvv x0 x1 x2 (i1+1) ((v1.1++[(x1.getD i1 default)]),v1.2)))))))) (r0 1 [2,6,7,36] [20007] (cn (!v1.2) (.reg 1 [] [(2,bsC 39 (cInt .i64) ([x2]:List Int)),(3,ap1 40 (cInt .i64) 8 v1.1 x2)] [6,7] [40] [] [] [] [0,4] (r0 1 [6] [40] (rt [(0,some 40)] (C137 (v1.1++[x2]))))) (r0 1 [6] [20007] (rt [(0,some 20007)] (C137 v1.1))))))
def A137 (x0:Family) (x1:List Int) (x2:Int):Ann:=.reg 3 [] [(1000,bsC 11 (cInt .i64) ([]:List Int))] [1,2,3,6,7,8] [3,11] [] [] [] [0] (r0 1 [2,3,6,7,8,12,13,14] [3,11] (lp (zvv x0 x1 x2) [] [11] [(20007,some 11)] (zvv x0 x1 x2 0 (([]:List Int),false)) (A137b1 x0 x1 x2)))
theorem znh (x0:Family) (x1:List Int) (x2:Int) (hx:x0.people.length≤1048576) (h1:∀ y∈x1,0≤y∧y<x0.people.length) (h2:0≤x2∧x2<x0.people.length) (h3:x1.length≤1048576):FnT Tryz.prog 137 [.agg (zbx false x0),.ro false 1 x1.length (rowOf (cInt .i64) x1),.int .i64 x2] (C137 (zg6 x0 x1 x2)):=by
 have aux:∀ R,zg6 x0 x1 x2=R→slim (C137 R) (A137 x0 x1 x2) []:=by
  intro R hR
  refine rg ⟨trivial,trivial⟩ ?_
  refine rg trivial ?_
  revert hR;refine lN (fun i v=>v.1.length≤2 * i) zai rfl fun i1 v1 F1 hn1 hI1 hR hK1=>?_
  refine rg trivial ?_
  refine ⟨fun hc1=>?_,fun hc1=>?_⟩
  ·have hii1:i1<x1.length:=by have:=of_decide_eq_true hc1;omega
   replace hR:=zbj hR hii1
   refine rg ⟨by (intros;omega),trivial⟩ ?_
   refine rg ⟨fun hg0=>⟨by trivial,by trivial,by ((try clear hR hK1);intros;(try simp only [decide_eq_true_eq,decide_eq_false_iff_not,Bool.or_eq_true,Bool.and_eq_true,zbd,za9,zba,Bool.not_eq_true',inR] at *);(repeat' apply And.intro)<;>(simp_all [inR];done))⟩,trivial⟩ ?_
   revert hR;refine cd (fun hc2 hR=>?_) fun hc2 hR=>?_
   ·
     refine rg ⟨trivial,om,trivial⟩ ?_
     refine rg trivial ?_
     refine rg ⟨trivial,by (simp;omega),trivial⟩ ?_
     refine rg ⟨by ( intros;simp only [inR];omega),trivial⟩ ?_
     exact hK1 (((v1.1++[x2])++[(x1.getD i1 default)]),true) hii1 (by ((try simp only [decide_eq_true_eq,decide_eq_false_iff_not,List.length_append,List.length_set,List.length_cons,List.length_nil,List.length_replicate] at *);omega)) hR
   ·
     refine rg ⟨trivial,om,trivial⟩ ?_
     refine rg ⟨by ( intros;simp only [inR];omega),trivial⟩ ?_
     exact hK1 ((v1.1++[(x1.getD i1 default)]),v1.2) hii1 (by ((try simp only [decide_eq_true_eq,decide_eq_false_iff_not,List.length_append,List.length_set,List.length_cons,List.length_nil,List.length_replicate] at *);omega)) hR
  ·obtain rfl:i1=x1.length:=by have:=of_decide_eq_false hc1;omega
   replace hR:=zbp hR (Nat.lt_irrefl _)
   refine rg trivial ?_
   revert hR;refine cd (fun hc3 hR=>?_) fun hc3 hR=>?_
   ·
     refine rg ⟨trivial,om,trivial⟩ ?_
     refine rg trivial ?_
     exact congrArg C137 hR
   ·
     refine rg trivial ?_
     exact congrArg C137 hR
 exact Fn.go 42 Tryz.func137 zah zah (by simp [C137,Frs,FrsL,FrsB,rowOf,cInt,cBool,cStr,cSl,zce,zbq,zb4,zbx,cDyad,cLaw,zd4]) (A137 x0 x1 x2) zah (aux _ rfl)
def k137 (x0:Family) (x1:List Int) (x2:Int):Cl:=(hres (C137 (zg6 x0 x1 x2)),k4 (znh x0 x1 x2))
theorem zn6 (x:Family) (l:List Int) (p y:Int):y∈zg6 x l p↔y=p∨y∈l:=by
 unfold zg6
 refine zb3 (fun i (v:List Int×Bool)=>i≤l.length∧(y∈v.1↔(v.2=true∧y=p)∨y∈l.take i)) (fun (r:List Int)=>y∈r↔y=p∨y∈l) ⟨Nat.zero_le _,by simp⟩ (fun i v next hi hv hn=>?_) (fun v hv=>?_)
 ·have e:l.take (i+1)=l.take i++[l.getD i default]:=by
   rw [List.take_add_one,List.getD_eq_getElem?_getD,List.getElem?_eq_getElem hi];rfl
  obtain ⟨w,d⟩:=v
  obtain ⟨h1,h2⟩:=hv
  refine zbm (p:=fun (r:List Int)=>y∈r↔y=p∨y∈l) (fun c=>hn _ ⟨hi,?_⟩) (fun c=>hn _ ⟨hi,?_⟩)
  ·simp only [Bool.and_eq_true,zba] at c
   simp only at h2
   simp only [List.mem_append,List.mem_singleton,h2,c.1,e,Bool.false_eq_true,false_and,false_or,true_and]
   constructor
   ·rintro ((h | h) | h)
    ·exact .inr (.inl h)
    ·exact .inl h
    ·exact .inr (.inr h)
   ·rintro (h | h | h)
    ·exact .inl (.inr h)
    ·exact .inl (.inl h)
    ·exact .inr h
  ·simp only at h2
   simp only [List.mem_append,List.mem_singleton,h2,e,or_assoc]
 ·have e:l.take l.length=l:=List.take_length
  rw [e] at hv
  refine zbm (p:=fun (r:List Int)=>y∈r↔y=p∨y∈l) (fun c=>?_) (fun c=>?_)
  ·simp only [zba] at c
   simp only [List.mem_append,List.mem_singleton,hv.2,c,Bool.false_eq_true,false_and,false_or]
   exact Or.comm
  ·simp only [za9] at c
   rw [hv.2,c];simp
theorem zn7 (x:Family) (l:List Int) (p:Int):(zg6 x l p).length=l.length+1:=by
 unfold zg6
 refine zb3 (fun i (v:List Int×Bool)=>v.1.length=i+(bif v.2 then 1 else 0)) (fun (r:List Int)=>r.length=l.length+1) zaj (fun i v next hi hv hn=>?_) (fun v hv=>?_)
 ·obtain ⟨w,d⟩:=v
  refine zbm (p:=fun (r:List Int)=>r.length=l.length+1) (fun c=>hn _ ?_) (fun c=>hn _ ?_)
  ·simp only [Bool.and_eq_true,zba] at c
   simp only [c.1,cond_false] at hv
   simp only [List.length_append,List.length_singleton,hv,cond_true]
  ·simp only at hv
   simp only [List.length_append,List.length_singleton,hv]
   omega
 ·obtain ⟨w,d⟩:=v
  cases d
  ·simp only [Bool.not_false,cond_true,List.length_append,List.length_singleton];simp only [cond_false] at hv;omega
  ·simp only [Bool.not_true,cond_false];simp only [cond_true] at hv;omega
def depN (d:List Int) (p:Person):Int :=
 bif decide (0≤p.father) then (bif decide (0≤p.mother) then Max.max (d.getD p.father.toNat default+1) (d.getD p.mother.toNat default+1) else d.getD p.father.toNat default+1) else (bif decide (0≤p.mother) then Max.max 0 (d.getD p.mother.toNat default+1) else 0)
theorem zep (x:Family):zbi x=(List.range' 0 x.people.length).foldl (fun v i=>v++[depN v (x.people.getD i default)]) []:=by
 have e:=zp0 (fun i (v:List Int)=>v++[depN v (x.people.getD i default)]) (fun (v:List Int)=>v) x.people.length 0 []
 rw [← e]
 unfold zbi
 congr 1
 funext i v next
 unfold depN
 cases decide (0≤(x.people.getD i default).father)<;>cases decide (0≤(x.people.getD i default).mother)<;>rfl
theorem zvo (l:List Person) (p:Person) (u u':List Union):zbi ⟨l++[p],u⟩=zbi ⟨l,u'⟩++[depN (zbi ⟨l,u'⟩) p]:=by
 rw [zep,zep]
 simp only [List.length_append,List.length_singleton]
 rw [List.range'_concat,List.foldl_append]
 simp only [Nat.one_mul,Nat.zero_add,List.foldl_cons,List.foldl_nil]
 have h:(List.range' 0 l.length).foldl (fun v i=>v++[depN v ((l++[p]).getD i default)]) []=(List.range' 0 l.length).foldl (fun v i=>v++[depN v (l.getD i default)]) []:=by
  have:∀ (r:List Nat) (s:List Int),(∀ i∈r,i<l.length)→r.foldl (fun v i=>v++[depN v ((l++[p]).getD i default)]) s=r.foldl (fun v i=>v++[depN v (l.getD i default)]) s:=by
   intro r
   induction r with
   | nil=>intro s _;rfl
   | cons a r ih =>
    intro s hr
    simp only [List.foldl_cons]
    rw [zdj (hr a zaj),ih _ fun i hi=>hr i (by simp [hi])]
  exact this _ _ fun i hi=>by have:=List.mem_range'_1.1 hi;omega
 rw [h,zhy rfl]
def dp (l:List Person) (k:Nat):Int:=(zbi ⟨l,[]⟩).getD k default
theorem dp_of (l:List Person) (u:List Union) (k:Nat):(zbi ⟨l,u⟩).getD k default=dp l k:=by
 unfold dp;rw [zep,zep]
theorem zz7 (l:List Person):(zbi ⟨l,[]⟩).length=l.length:=ze5 ⟨l,[]⟩
theorem dp_lt (l:List Person) (p:Person) {k:Nat} (hk:k<l.length):dp (l++[p]) k=dp l k:=by
 unfold dp;rw [zvo l p [] [],zdj (by rw [zz7];exact hk)]
theorem zuj (l:List Person) (p:Person) {k:Nat} (hk:k=l.length):dp (l++[p]) k=depN (zbi ⟨l,[]⟩) p:=by
 unfold dp;rw [zvo l p [] [],zhy (by rw [zz7];exact hk)]
def PaOk (l:List Person) (q s:Int) (n:Nat):Prop:=q=-1∨0≤q∧q<n∧(l.getD q.toNat default).sex=s
structure Mk (l:List Person):Prop where
 len:l.length≤40
 name:∀ k:Nat,k<l.length→(l.getD k default).name=zbz (k:Int)
 sex:∀ k:Nat,k<l.length→1≤(l.getD k default).sex∧(l.getD k default).sex≤2
 died:∀ k:Nat,k<l.length→(l.getD k default).died=-1
 fa:∀ k:Nat,k<l.length→PaOk l (l.getD k default).father 1 k
 mo:∀ k:Nat,k<l.length→PaOk l (l.getD k default).mother 2 k
 faB:∀ k:Nat,k<l.length→0≤(l.getD k default).father→(l.getD (l.getD k default).father.toNat default).born<(l.getD k default).born
 moB:∀ k:Nat,k<l.length→0≤(l.getD k default).mother→(l.getD (l.getD k default).mother.toNat default).born<(l.getD k default).born
 dep:∀ k:Nat,k<l.length→0≤dp l k∧dp l k≤10
 born:∀ k:Nat,k<l.length→0≤(l.getD k default).born∧(l.getD k default).born≤400
def MkB (l:List Person):Prop:=∀ k:Nat,k<l.length→(l.getD k default).born≤11+30 * dp l k
theorem Mk.nil:Mk []:=⟨by simp,fun k hk=>absurd hk (Nat.not_lt_zero _),fun k hk=>absurd hk (Nat.not_lt_zero _),fun k hk=>absurd hk (Nat.not_lt_zero _),fun k hk=>absurd hk (Nat.not_lt_zero _),fun k hk=>absurd hk (Nat.not_lt_zero _),fun k hk=>absurd hk (Nat.not_lt_zero _),fun k hk=>absurd hk (Nat.not_lt_zero _),fun k hk=>absurd hk (Nat.not_lt_zero _),fun k hk=>absurd hk (Nat.not_lt_zero _)⟩
theorem MkB.nil:MkB []:=fun k hk=>absurd hk (Nat.not_lt_zero _)
theorem zuk {l : List Person} {p : Person} {D : Int} (hD : 0 ≤ D) (hl : ∀ k : Nat, k < l.length → 0 ≤ dp l k) (hf : p.father = -1 ∨ 0 ≤ p.father ∧ p.father < l.length ∧ dp l p.father.toNat < D) (hm : p.mother = -1 ∨ 0 ≤ p.mother ∧ p.mother < l.length ∧ dp l p.mother.toNat < D) :
    0≤depN (zbi ⟨l,[]⟩) p∧depN (zbi ⟨l,[]⟩) p≤D∧(0≤p.father→dp l p.father.toNat+1≤depN (zbi ⟨l,[]⟩) p)∧(0≤p.mother→dp l p.mother.toNat+1≤depN (zbi ⟨l,[]⟩) p):=by
 have h1:0≤p.father→0≤dp l p.father.toNat:=fun h=>hl _ om
 have h2:0≤p.mother→0≤dp l p.mother.toNat:=fun h=>hl _ om
 unfold depN
 show 0≤(bif decide (0≤p.father) then (bif decide (0≤p.mother) then Max.max (dp l p.father.toNat+1) (dp l p.mother.toNat+1) else dp l p.father.toNat+1) else (bif decide (0≤p.mother) then Max.max 0 (dp l p.mother.toNat+1) else 0))∧_
 change _∧(bif decide (0≤p.father) then (bif decide (0≤p.mother) then Max.max (dp l p.father.toNat+1) (dp l p.mother.toNat+1) else dp l p.father.toNat+1) else (bif decide (0≤p.mother) then Max.max 0 (dp l p.mother.toNat+1) else 0))≤D∧(_→_≤(bif decide (0≤p.father) then (bif decide (0≤p.mother) then Max.max (dp l p.father.toNat+1) (dp l p.mother.toNat+1) else dp l p.father.toNat+1) else (bif decide (0≤p.mother) then Max.max 0 (dp l p.mother.toNat+1) else 0)))∧(_→_≤(bif decide (0≤p.father) then (bif decide (0≤p.mother) then Max.max (dp l p.father.toNat+1) (dp l p.mother.toNat+1) else dp l p.father.toNat+1) else (bif decide (0≤p.mother) then Max.max 0 (dp l p.mother.toNat+1) else 0)))
 cases c1:decide (0≤p.father)<;>cases c2:decide (0≤p.mother)<;>simp only [cond_true,cond_false]<;>simp only [decide_eq_true_eq,decide_eq_false_iff_not] at c1 c2<;>omega
theorem Mk.snoc {l : List Person} (h : Mk l) {p : Person} (hl : l.length < 40) (hn : p.name = zbz (l.length : Int)) (hs : 1 ≤ p.sex ∧ p.sex ≤ 2) (hd : p.died = -1) (hb : 0 ≤ p.born ∧ p.born ≤ 400) (hf : PaOk l p.father 1 l.length) (hm : PaOk l p.mother 2 l.length)
    (hfb:0≤p.father→(l.getD p.father.toNat default).born<p.born∧dp l p.father.toNat<10) (hmb:0≤p.mother→(l.getD p.mother.toNat default).born<p.born∧dp l p.mother.toNat<10):Mk (l++[p]):=by
 have step:∀ {P:Nat→Prop},(∀ k,k<l.length→P k)→P l.length→∀ k,k<(l++[p]).length→P k:=fun h1 h2 k hk=>by
  rcases Nat.lt_or_ge k l.length with e | e
  ·exact h1 k e
  ·have e2:k=l.length:=by simp at hk;omega
   rw [e2];exact h2
 have g0:(l++[p]).getD l.length default=p:=zhy rfl
 have par:∀ {q s:Int} {n:Nat},n≤l.length→PaOk l q s n→PaOk (l++[p]) q s n:=fun hn hq=>hq.imp id fun hq=>⟨hq.1,hq.2.1,by rw [zdj om];exact hq.2.2⟩
 refine ⟨by simp; omega, step (fun k hk => by rw [zdj hk]; exact h.name k hk) (by rw [g0]; exact hn), step (fun k hk => by rw [zdj hk]; exact h.sex k hk) (by rw [g0]; exact hs), step (fun k hk => by rw [zdj hk]; exact h.died k hk) (by rw [g0]; exact hd),
   step (fun k hk=>by rw [zdj hk];exact par om (h.fa k hk)) (by rw [g0];exact par (Nat.le_refl _) hf),step (fun k hk=>by rw [zdj hk];exact par om (h.mo k hk)) (by rw [g0];exact par (Nat.le_refl _) hm),
   step (fun k hk h0=>?_) ?_,step (fun k hk h0=>?_) ?_,step (fun k hk=>by rw [dp_lt l p hk];exact h.dep k hk) ?_,step (fun k hk=>by rw [zdj hk];exact h.born k hk) (by rw [g0];exact hb)⟩
 ·rw [zdj hk] at h0 ⊢
  rcases h.fa k hk with e | e
  ·omega
  ·rw [zdj om];exact h.faB k hk h0
 ·rw [g0];intro h0
  rcases hf with e | e
  ·omega
  ·rw [zdj om];exact (hfb h0).1
 ·rw [zdj hk] at h0 ⊢
  rcases h.mo k hk with e | e
  ·omega
  ·rw [zdj om];exact h.moB k hk h0
 ·rw [g0];intro h0
  rcases hm with e | e
  ·omega
  ·rw [zdj om];exact (hmb h0).1
 ·rw [zuj l p rfl]
  have:=zuk (l:=l) (p:=p) (D:=10) om (fun k hk=>(h.dep k hk).1) (hf.imp id fun e=>⟨e.1,e.2.1,(hfb e.1).2⟩) (hm.imp id fun e=>⟨e.1,e.2.1,(hmb e.1).2⟩)
  exact ⟨this.1,this.2.1⟩
theorem zxc {p:Person} {l:List Person} {u:List Union} {q:Int}:q∈zbe ⟨[p],u⟩ 0↔(0≤p.father∧q=p.father)∨(0≤p.mother∧q=p.mother):=by
 unfold zbe
 have e:([p]:List Person).getD (Int.toNat 0) default=p:=rfl
 simp only [e]
 cases c1:decide (0≤p.father)<;>cases c2:decide (0≤p.mother)<;>simp only [cond_true,cond_false]<;>simp only [decide_eq_true_eq,decide_eq_false_iff_not] at c1 c2<;>simp [c1,c2]
theorem Mk.grow {l : List Person} (h : Mk l) (hB : MkB l) (hl : l.length < 40) {s f m b0 b d0 : Int} {n0 : List UInt8} {u : List Union} (hs : 1 ≤ s ∧ s ≤ 2) (hf : PaOk l f 1 l.length) (hm : PaOk l m 2 l.length) (hfd : 0 ≤ f → dp l f.toNat < 10) (hmd : 0 ≤ m → dp l m.toNat < 10)
    (hb0:0≤b) (hb:b≤11∨∃ q∈zbe ⟨[⟨n0,s,f,m,b0,d0⟩],u⟩ 0,b≤(l.getD q.toNat default).born+30) (hp:∀ q∈zbe ⟨[⟨n0,s,f,m,b0,d0⟩],u⟩ 0,(l.getD q.toNat default).born<b) :
    Mk (l++[⟨zbz (l.length:Int),s,f,m,b,-1⟩])∧MkB (l++[⟨zbz (l.length:Int),s,f,m,b,-1⟩]):=by
 simp only [zxc (l:=l)] at hb hp
 have hd:=zuk (l:=l) (p:=⟨zbz (l.length:Int),s,f,m,b,-1⟩) (D:=10) om (fun k hk=>(h.dep k hk).1) (hf.imp id fun e=>⟨e.1,e.2.1,hfd e.1⟩) (hm.imp id fun e=>⟨e.1,e.2.1,hmd e.1⟩)
 simp only at hd
 have hb2:b≤11+30 * depN (zbi ⟨l,[]⟩) ⟨zbz (l.length:Int),s,f,m,b,-1⟩:=by
  rcases hb with e | ⟨q,hq,e⟩
  ·omega
  ·rcases hq with ⟨h0,rfl⟩ | ⟨h0,rfl⟩
   ·rcases hf with e2 | e2
    ·omega
    ·have:=hB q.toNat om;have:=hd.2.2.1 h0;omega
   ·rcases hm with e2 | e2
    ·omega
    ·have:=hB q.toNat om;have:=hd.2.2.2 h0;omega
 refine ⟨h.snoc hl rfl hs rfl ⟨hb0,show b≤400 by omega⟩ hf hm (fun h0=>⟨hp f (.inl ⟨h0,rfl⟩),hfd h0⟩) (fun h0=>⟨hp m (.inr ⟨h0,rfl⟩),hmd h0⟩),fun k hk=>?_⟩
 rcases Nat.lt_or_ge k l.length with e | e
 ·rw [zdj e,dp_lt l _ e];exact hB k e
 ·have e2:k=l.length:=by simp at hk;omega
  rw [zhy e2,zuj l _ e2];exact hb2
structure Dying (l:List Person) (v:List Person):Prop where
 len:v.length=l.length
 same:∀ k:Nat,k<l.length→(v.getD k default).name=(l.getD k default).name∧(v.getD k default).sex=(l.getD k default).sex∧(v.getD k default).father=(l.getD k default).father∧(v.getD k default).mother=(l.getD k default).mother∧(v.getD k default).born=(l.getD k default).born
 died:∀ k:Nat,k<l.length→(v.getD k default).died=-1∨(l.getD k default).born≤(v.getD k default).died∧(v.getD k default).died≤500∧∀ c:Nat,c<l.length→(l.getD c default).father=k∨(l.getD c default).mother=k→(l.getD c default).born≤(v.getD k default).died
theorem Dying.refl {l:List Person} (h:Mk l):Dying l l:=⟨rfl,fun k hk=>⟨rfl,rfl,rfl,rfl,rfl⟩,fun k hk=>.inl (h.died k hk)⟩
theorem Dying.set {l v : List Person} (h : Dying l v) {k : Nat} (hk : k < l.length) {y : Int} (h1 : (l.getD k default).born ≤ y ∧ y ≤ 500) (h2 : ∀ c : Nat, c < l.length → (l.getD c default).father = k ∨ (l.getD c default).mother = k → (l.getD c default).born ≤ y) :
    Dying l (v.set k ⟨(v.getD k default).name,(v.getD k default).sex,(v.getD k default).father,(v.getD k default).mother,(v.getD k default).born,y⟩):=by
 refine ⟨by simp [h.len],fun i hi=>?_,fun i hi=>?_⟩
 ·rw [zcf]
  split
  ·rename_i e;rw [e.1];exact h.same k hk
  ·exact h.same i hi
 ·rw [zcf]
  split
  ·rename_i e;rw [e.1];exact .inr ⟨h1.1,h1.2,h2⟩
  ·exact h.died i hi
theorem ztf:((List.range 40).all fun k=>zcc (zbz (k:Int))&&(List.range 40).all fun j=>(j==k)||(zbz (j:Int) != zbz (k:Int)))=true:=by kernel_rfl
theorem zuq {k:Nat} (h:k<40):zcc (zbz (k:Int))=true:=by
 have:=List.all_eq_true.1 ztf k (List.mem_range.2 h)
 rw [Bool.and_eq_true] at this
 exact this.1
theorem zwp {j k:Nat} (h1:j<40) (h2:k<40) (h:j≠k):zbz (j:Int)≠zbz (k:Int):=by
 have:=List.all_eq_true.1 ztf k (List.mem_range.2 h2)
 rw [Bool.and_eq_true] at this
 have:=List.all_eq_true.1 this.2 j (List.mem_range.2 h1)
 simp only [Bool.or_eq_true,beq_iff_eq,bne_iff_ne] at this
 rcases this with e | e
 ·exact absurd e h
 ·exact e
theorem zzm {l v:List Person} (u:List Union) (hl:v.length=l.length) (h:∀ k:Nat,k<l.length→(v.getD k default).father=(l.getD k default).father∧(v.getD k default).mother=(l.getD k default).mother):zbi ⟨v,u⟩=zbi ⟨l,[]⟩:=by
 rw [zep,zep]
 simp only [hl]
 have:∀ (r:List Nat) (s:List Int),(∀ i∈r,i<l.length)→r.foldl (fun w i=>w++[depN w (v.getD i default)]) s=r.foldl (fun w i=>w++[depN w (l.getD i default)]) s:=by
  intro r
  induction r with
  | nil=>intro s _;rfl
  | cons a r ih =>
   intro s hr
   simp only [List.foldl_cons]
   have e:depN s (v.getD a default)=depN s (l.getD a default):=by unfold depN;rw [(h a (hr a zaj)).1,(h a (hr a zaj)).2]
   rw [e,ih _ fun i hi=>hr i (by simp [hi])]
 exact this _ _ fun i hi=>by have:=List.mem_range'_1.1 hi;omega
theorem Dying.valid {l v:List Person} (h:Mk l) (hd:Dying l v):za4 ⟨v,[]⟩=true:=by
 refine (zie _).2 ⟨⟨by simp only [hd.len];exact h.len,by simp⟩,fun k hk=>?_,fun k hk=>?_,fun k hk=>absurd hk (Nat.not_lt_zero _)⟩
 ·simp only [hd.len] at hk
  have hl:=h.len
  obtain ⟨e1,e2,e3,e4,e5⟩:=hd.same k hk
  have hb:=h.born k hk
  refine ⟨?_,?_,?_,?_,fun j hj=>?_,?_,?_⟩
  ·simp only [e1,h.name k hk];exact zuq om
  ·simp only [e2];exact h.sex k hk
  ·simp only [e5];omega
  ·simp only [e5];exact (hd.died k hk).imp id fun e=>⟨e.1,om⟩
  ·simp only [e1,h.name k hk,(hd.same j om).1,h.name j om]
   exact zwp om om om
  ·simp only [e3,e5]
   refine (h.fa k hk).imp id fun e=>?_
   have hq:(l.getD k default).father.toNat<l.length:=by omega
   obtain ⟨f1,f2,f3,f4,f5⟩:=hd.same _ hq
   refine ⟨e.1,e.2.1,by rw [f2];exact e.2.2,by rw [f5];exact h.faB k hk e.1,(hd.died _ hq).imp id fun g=>?_⟩
   have:=g.2.2 k hk (.inl om);omega
  ·simp only [e4,e5]
   refine (h.mo k hk).imp id fun e=>?_
   have hq:(l.getD k default).mother.toNat<l.length:=by omega
   obtain ⟨f1,f2,f3,f4,f5⟩:=hd.same _ hq
   refine ⟨e.1,e.2.1,by rw [f2];exact e.2.2,by rw [f5];exact h.moB k hk e.1,(hd.died _ hq).imp id fun g=>?_⟩
   exact g.2.2 k hk (.inr om)
 ·simp only [hd.len] at hk
  rw [zzm [] hd.len fun i hi=>⟨(hd.same i hi).2.2.1,(hd.same i hi).2.2.2.1⟩]
  exact (h.dep k hk).2
theorem mem4 {n:Int} (h:n∈([1,7,20,25]:List Int)):1≤n∧n≤25:=by
 simp only [List.mem_cons,List.not_mem_nil,or_false] at h;omega
theorem mem3b {n:Int} (h:n∈([3,5,9]:List Int)):1≤n∧n≤9:=by
 simp only [List.mem_cons,List.not_mem_nil,or_false] at h;omega
theorem mem5b {n:Int} (h:n∈([0,1,5,30,60]:List Int)):0≤n∧n≤60:=by
 simp only [List.mem_cons,List.not_mem_nil,or_false] at h;omega
def PaDp (l:List Person) (q s:Int):Prop:=PaOk l q s l.length∧(0≤q→dp l q.toNat<10)
def Born (l:List Person) (ps:List Int) (i:Nat) (b:Int):Prop:=0≤b∧(b≤11∨∃ q∈ps,b≤(l.getD q.toNat default).born+30)∧∀ j:Nat,j<i→(l.getD (ps.getD j default).toNat default).born<b
def Last (l:List Person) (cs:List Int) (k i:Nat) (t:Int):Prop:=(l.getD k default).born≤t∧t≤400∧∀ j:Nat,j<i→(l.getD (cs.getD j default).toNat default).born≤t
structure Gen (w g:Int) (l:List Person):Prop where
 ok:Mk l
 gb:0≤g∧g≤10
 big:l≠[]→w≤l.length
 full:l≠[]→(l.getD ((l.length:Int) - w).toNat default).sex=1∧(l.getD ((l.length:Int) - w+1).toNat default).sex=2
 old:∀ k:Nat,k<l.length→(l.getD k default).born≤25 * (11 - g)∧dp l k≤9 - g
structure GenI (w g:Int) (l0:List Person) (i:Nat) (l:List Person):Prop where
 ok:Mk l
 len:l.length=l0.length+i
 same:∀ k:Nat,k<l0.length→l.getD k default=l0.getD k default∧dp l k=dp l0 k
 new:∀ k:Nat,k<i→(l.getD (l0.length+k) default).sex=1+(k:Int).tmod 2∧(l.getD (l0.length+k) default).born=25 * (12 - g)∧dp l (l0.length+k)≤10 - g
theorem zri (l:List Person) (s:Int):PaDp l (-1) s:=⟨.inl rfl,fun h=>absurd h om⟩
theorem zqu {c:l01Cur} (h:CurOk c) {l:List Person} (hk:Mk l) (u:List Union) (s:Int):CurOk ⟨c.b,(zcj c ⟨l,u⟩ (zbi ⟨l,u⟩) s).2.1,(zcj c ⟨l,u⟩ (zbi ⟨l,u⟩) s).2.2⟩∧PaDp l (zcj c ⟨l,u⟩ (zbi ⟨l,u⟩) s).1 s:=by
 have h9:=zn4 h (f:=⟨l,u⟩) (d:=zbi ⟨l,u⟩) hk.len s
 refine ⟨h9.2,h9.1.imp id fun e=>⟨e.1,e.2.1,e.2.2.1⟩,fun h0=>?_⟩
 rcases h9.1 with e | e
 ·omega
 ·rw [← dp_of l u];exact e.2.2.2
theorem Mk.par {l:List Person} (h:Mk l) (u:List Union):∀ k:Nat,k<(Family.mk l u).people.length→((Family.mk l u).people.getD k default).father<k∧((Family.mk l u).people.getD k default).mother<k:=fun k hk=>by
 have h1:=h.fa k hk;have h2:=h.mo k hk
 unfold PaOk at h1 h2
 dsimp only
 omega
theorem born0 {l:List Person} {ps:List Int} {b:Int} (h:0≤b∧b≤11):Born l ps 0 b:=⟨h.1,.inl h.2,fun j hj=>absurd hj (Nat.not_lt_zero _)⟩
theorem zhs {ps:List Int} {j:Nat} (h:j<ps.length):ps.getD j default∈ps:=zb0 h
theorem zxb {l : List Person} {f m s b d : Int} {n : List UInt8} {u : List Union} {j : Nat} (hf : PaDp l f 1) (hm : PaDp l m 2) (hj : j < (zbe ⟨[⟨n, s, f, m, b, d⟩], u⟩ 0).length) :
    0≤(zbe ⟨[⟨n,s,f,m,b,d⟩],u⟩ 0).getD j default∧(zbe ⟨[⟨n,s,f,m,b,d⟩],u⟩ 0).getD j default<l.length:=by
 have h:=(zxc (l:=l)).1 (zhs hj)
 have h1:=hf.1;have h2:=hm.1
 unfold PaOk at h1 h2
 rcases h with ⟨h0,e⟩ | ⟨h0,e⟩<;>rw [e]<;>simp only at h0 ⊢<;>omega
theorem zuz {l : List Person} (hk : Mk l) {f m s b d : Int} {n : List UInt8} {u : List Union} {j : Nat} (hf : PaDp l f 1) (hm : PaDp l m 2) (hj : j < (zbe ⟨[⟨n, s, f, m, b, d⟩], u⟩ 0).length) :
    0≤(l.getD ((zbe ⟨[⟨n,s,f,m,b,d⟩],u⟩ 0).getD j default).toNat default).born∧(l.getD ((zbe ⟨[⟨n,s,f,m,b,d⟩],u⟩ 0).getD j default).toNat default).born≤400:=by
 have h:=zxb hf hm hj
 exact hk.born _ om
theorem zth {l:List Person} {ps:List Int} {i:Nat} {b st x:Int} (h:Born l ps i b) (hi:i<ps.length) (hs:1≤st∧st≤25) (hx:0≤x∧x<6):Born l ps (i+1) (Max.max b ((l.getD (ps.getD i default).toNat default).born+st+x)):=by
 refine ⟨by have:=h.1;omega,?_,fun j hj=>?_⟩
 ·rcases h.2.1 with e | ⟨q,hq,e⟩
  ·by_cases c:b≤(l.getD (ps.getD i default).toNat default).born+st+x
   ·exact .inr ⟨_,zhs hi,om⟩
   ·exact .inl om
  ·by_cases c:b≤(l.getD (ps.getD i default).toNat default).born+st+x
   ·exact .inr ⟨_,zhs hi,om⟩
   ·exact .inr ⟨q,hq,om⟩
 ·rcases Nat.lt_or_ge j i with e | e
  ·have:=h.2.2 j e;omega
  ·have e2:j=i:=by omega
   rw [e2];omega
theorem zvr {l:List Person} {ps:List Int} {b:Int} (h:Born l ps ps.length b):∀ q∈ps,(l.getD q.toNat default).born<b:=fun q hq=>by
 obtain ⟨i,hi,e⟩:=List.getElem_of_mem hq
 have:=h.2.2 i hi
 rw [show ps.getD i default=q by rw [List.getD_eq_getElem?_getD,List.getElem?_eq_getElem hi,Option.getD_some,e]] at this
 exact this
theorem last0 {l v:List Person} {cs:List Int} {k:Nat} (hk:Mk l) (hd:Dying l v) (h:k<l.length):Last v cs k 0 (v.getD k default).born:=⟨Int.le_refl _,by rw [(hd.same k h).2.2.2.2];exact (hk.born k h).2,fun j hj=>absurd hj (Nat.not_lt_zero _)⟩
theorem zuh {l v:List Person} (hk:Mk l) (hd:Dying l v) {k:Nat} (h:k<v.length):0≤(v.getD k default).born∧(v.getD k default).born≤400:=by
 have h':k<l.length:=by rw [← hd.len];exact h
 rw [(hd.same k h').2.2.2.2];exact hk.born k h'
theorem zsx {v:List Person} {cs:List Int} {k i:Nat} {t:Int} (h:Last v cs k i t) (hb:(v.getD (cs.getD i default).toNat default).born≤400):Last v cs k (i+1) (Max.max t (v.getD (cs.getD i default).toNat default).born):=by
 refine ⟨by have:=h.1;omega,by have:=h.2.1;omega,fun j hj=>?_⟩
 rcases Nat.lt_or_ge j i with e | e
 ·have:=h.2.2 j e;omega
 ·have e2:j=i:=by omega
  rw [e2];omega
theorem zxs {l v:List Person} {cs:List Int} {k i:Nat} {t:Int} (hk:Mk l) (hd:Dying l v) (h:k<l.length) (hl:Last v cs k i t):0≤t∧t≤400:=by
 have:=hl.1;have:=hl.2.1;have:=zuh hk hd (k:=k) (by rw [hd.len];exact h);omega
theorem Dying.names {l v:List Person} (hk:Mk l) (hd:Dying l v):∀ p∈v,p.name.length≤1048576:=fun p hp=>by
 obtain ⟨i,hi,e⟩:=List.getElem_of_mem hp
 have h':i<l.length:=by rw [← hd.len];exact hi
 have h1:=(hd.same i h').1
 rw [hk.name i h',List.getD_eq_getElem?_getD,List.getElem?_eq_getElem hi,Option.getD_some,e] at h1
 rw [h1];simp [zbz]
theorem Gen.nil {w g:Int} (h:0≤g∧g≤10):Gen w g []:=⟨Mk.nil,h,fun h=>absurd rfl h,fun h=>absurd rfl h,fun k hk=>absurd hk (Nat.not_lt_zero _)⟩
theorem Gen.start {w g:Int} {l:List Person} (h:Gen w g l):GenI w g l 0 l:=⟨h.ok,rfl,fun k hk=>⟨rfl,rfl⟩,fun k hk=>absurd hk (Nat.not_lt_zero _)⟩
theorem GenI.step {w g : Int} {l0 l : List Person} {i : Nat} (hg : Gen w g l0) (h : GenI w g l0 i l) (hg0 : 0 < g) (hw : 2 ≤ w ∧ w ≤ 3) (hn : (l0.length : Int) + w ≤ 40) (hi : i < w.toNat) {f m : Int} (hf : f = -1 ∨ 0 < l0.length ∧ f = (l0.length : Int) - w) (hm : m = -1 ∨ 0 < l0.length ∧ m = (l0.length : Int) - w + 1) :
    GenI w g l0 (i+1) (l++[⟨zbz ((l0.length:Int)+(i:Int)),1+(i:Int).tmod 2,f,m,25 * (12 - g),-1⟩]):=by
 have hl:=h.len
 have hgb:=hg.gb
 have he:((l0.length:Int)+(i:Int))=(l.length:Int):=by omega
 have ht:(i:Int).tmod 2=(i:Int) % 2:=Int.tmod_eq_emod_of_nonneg om
 have hne:0<l0.length→l0≠[]:=fun h e=>by rw [e] at h;exact absurd h zaj
 have pf:PaOk l f 1 l.length∧(0≤f→(l.getD f.toNat default).born<25 * (12 - g)∧dp l f.toNat≤9 - g):=by
  rcases hf with e | ⟨e0,e⟩
  ·exact ⟨.inl e,fun h=>absurd h om⟩
  ·have hb:=hg.big (hne e0)
   have hs:=h.same f.toNat om
   have ho:=hg.old f.toNat om
   refine ⟨.inr ⟨om,om,?_⟩,fun _=>⟨?_,?_⟩⟩
   ·rw [hs.1,e];exact (hg.full (hne e0)).1
   ·rw [hs.1];omega
   ·rw [hs.2];exact ho.2
 have pm:PaOk l m 2 l.length∧(0≤m→(l.getD m.toNat default).born<25 * (12 - g)∧dp l m.toNat≤9 - g):=by
  rcases hm with e | ⟨e0,e⟩
  ·exact ⟨.inl e,fun h=>absurd h om⟩
  ·have hb:=hg.big (hne e0)
   have hs:=h.same m.toNat om
   have ho:=hg.old m.toNat om
   refine ⟨.inr ⟨om,om,?_⟩,fun _=>⟨?_,?_⟩⟩
   ·rw [hs.1,e];exact (hg.full (hne e0)).2
   ·rw [hs.1];omega
   ·rw [hs.2];exact ho.2
 have hmk:Mk (l++[⟨zbz ((l0.length:Int)+(i:Int)),1+(i:Int).tmod 2,f,m,25 * (12 - g),-1⟩]) :=
  h.ok.snoc om (by rw [he]) (by simp only [ht];omega) rfl zaz pf.1 pm.1 (fun h0=>⟨(pf.2 h0).1,by have:=(pf.2 h0).2;simp only at this ⊢;omega⟩) (fun h0=>⟨(pm.2 h0).1,by have:=(pm.2 h0).2;simp only at this ⊢;omega⟩)
 refine ⟨hmk,by simp [hl];omega,fun k hk=>⟨by rw [zdj om];exact (h.same k hk).1,by rw [dp_lt _ _ om];exact (h.same k hk).2⟩,fun k hk=>?_⟩
 rcases Nat.lt_or_ge k i with e | e
 ·rw [zdj om,dp_lt _ _ om];exact h.new k e
 ·have e2:k=i:=by omega
  subst e2
  rw [zhy om,zuj _ _ om]
  have:=zuk (l:=l) (p:=⟨zbz ((l0.length:Int)+(k:Int)),1+(k:Int).tmod 2,f,m,25 * (12 - g),-1⟩) (D:=10 - g) om (fun k hk=>(h.ok.dep k hk).1) (pf.1.imp id fun e=>⟨e.1,e.2.1,by have:=(pf.2 e.1).2;simp only at this ⊢;omega⟩) (pm.1.imp id fun e=>⟨e.1,e.2.1,by have:=(pm.2 e.1).2;simp only at this ⊢;omega⟩)
  exact ⟨rfl,rfl,this.2.1⟩
theorem GenI.done {w g:Int} {l0 l:List Person} (hg:Gen w g l0) (h:GenI w g l0 w.toNat l) (hg0:0<g) (hw:2≤w∧w≤3):Gen w (g - 1) l:=by
 have hl:=h.len
 have hgb:=hg.gb
 have n0:=h.new 0 om;have n1:=h.new 1 om
 refine ⟨h.ok,om,fun _=>by omega,fun _=>⟨?_,?_⟩,fun k hk=>?_⟩
 ·rw [show ((l.length:Int) - w).toNat=l0.length+0 by omega];exact n0.1
 ·rw [show ((l.length:Int) - w+1).toNat=l0.length+1 by omega];exact n1.1
 ·rcases Nat.lt_or_ge k l0.length with e | e
  ·have hs:=h.same k e;have ho:=hg.old k e
   rw [hs.1,hs.2];omega
  ·have hn:=h.new (k - l0.length) om
   rw [show l0.length+(k - l0.length)=k by omega] at hn
   omega
def C125 (R:(List Int)):LV×List (Nat×BC):=(.own 0,[(0,.arr 1 R.length (rowOf (cInt .i64) R))])
def zb9 (x0:Family) (x1:Int):(List Int):=loopN (fun i1 (v1:(List Int)) next=>bif ((decide (((x0.people.getD i1 default).father)=x1))||(decide (((x0.people.getD i1 default).mother)=x1))) then (next (zg6 x0 v1 ((i1:Nat):Int))) else (next v1)) (fun (v1:(List Int))=>v1) x0.people.length 0 ([]:List Int)
def zvw (x0:Family) (x1:Int) (i1:Nat) (v1:(List Int)):Dl:=⟨[(12,.int .i64 ((i1:Nat):Int)),(5,.own 20005)],[(20005,.arr 1 v1.length (rowOf (cInt .i64) v1))]⟩
def A125b1 (x0:Family) (x1:Int) (i1:Nat) (v1:(List Int)):Ann:=r0 1 [1,2,4,5,10,11,12,13] [2,20005] (cn (decide (((i1:Nat):Int)<((x0.people.length:Nat):Int))) (.reg 2 [] [] [1,2,4,5,6,10,11,12,26] [2,20005] [!(decide (((x0.people.getD i1 default).father)=x1)),decide (((x0.people.getD i1 default).father)=x1)] [pf (0≤(((i1:Nat):Int):Int)∧(((i1:Nat):Int):Int)<((x0.people.length:Nat):Int))] [] [0,1,1,1,6] (cn ((decide (((x0.people.getD i1 default).father)=x1))||(decide (((x0.people.getD i1 default).mother)=x1))) (.reg 1 [] [(3,k137 x0 v1 ((i1:Nat):Int))] [1,2,4,5,10,11,12] [2,1030] [] [] [] [0] (r1 1 [1,2,4,5,10,11,12] [2,1030] [pf (inR .i64 (((i1:Nat):Int)+1))] [0] (.next 0 [(20005,some 1030)] (zvw x0 x1 (i1+1) (zg6 x0 v1 ((i1:Nat):Int)))))) (r1 1 [1,2,4,5,10,11,12] [2,20005] [pf (inR .i64 (((i1:Nat):Int)+1))] [0] (.next 0 [(20005,some 20005)] (zvw x0 x1 (i1+1) v1))))) (r0 1 [4] [20005] (rt [(0,some 20005)] (C125 v1))))
def A125 (x0:Family) (x1:Int):Ann:=.reg 2 [] [(1000,bsC 8 (cInt .i64) ([]:List Int))] [1,2,4,5] [2,8] [] [] [] [0] (r0 1 [1,2,4,5,10,11,12] [2,8] (lp (zvw x0 x1) [] [8] [(20005,some 8)] (zvw x0 x1 0 ([]:List Int)) (A125b1 x0 x1)))
theorem zjx (x0:Family) (x1:Int) (hx:x0.people.length≤1048576):FnT Tryz.prog 125 [.agg (zbx false x0),.int .i64 x1] (C125 (zb9 x0 x1)):=by
 have aux:∀ R,zb9 x0 x1=R→slim (C125 R) (A125 x0 x1) []:=by
  intro R hR
  refine rg ⟨trivial,trivial⟩ ?_
  refine rg trivial ?_
  revert hR;refine lN (fun i v=>v.length≤i∧∀ y∈v,0≤y∧y<x0.people.length) (by (refine ⟨by (first | (simp only [List.length_nil];omega) | omega),fun y hy=>?_⟩;first | exact hI1.2 y hy | cases hy)) rfl fun i1 v1 F1 hn1 hI1 hR hK1=>?_
  refine rg trivial ?_
  refine ⟨fun hc1=>?_,fun hc1=>?_⟩
  ·have hii1:i1<x0.people.length:=by have:=of_decide_eq_true hc1;omega
   replace hR:=zbj hR hii1
   refine rg ⟨by (intros;omega),trivial⟩ ?_
   revert hR;refine cd (fun hc2 hR=>?_) fun hc2 hR=>?_
   ·
     refine rg ⟨⟨by trivial,by (exact hI1.2),by (intros;omega),by (intros;omega)⟩,trivial⟩ ?_
     refine rg ⟨by ( intros;simp only [inR];omega),trivial⟩ ?_
     exact hK1 (zg6 x0 v1 ((i1:Nat):Int)) hii1 (by (refine ⟨by (rw [zn7];omega),fun y hy=>?_⟩;exact Or.elim ((zn6 _ _ _ y).1 hy) (fun h9=>by omega) (fun h9=>hI1.2 y h9))) hR
   ·
     refine rg ⟨by ( intros;simp only [inR];omega),trivial⟩ ?_
     exact hK1 v1 hii1 (by (refine ⟨by (first | (simp only [List.length_nil];omega) | omega),fun y hy=>?_⟩;first | exact hI1.2 y hy | cases hy)) hR
  ·obtain rfl:i1=x0.people.length:=by have:=of_decide_eq_false hc1;omega
   replace hR:=zbp hR (Nat.lt_irrefl _)
   refine rg trivial ?_
   exact congrArg C125 hR
 exact Fn.go 33 Tryz.func125 zah zah (by simp [C125,Frs,FrsL,FrsB,rowOf,cInt,cBool,cStr,cSl,zce,zbq,zb4,zbx,cDyad,cLaw,zd4]) (A125 x0 x1) zah (aux _ rfl)
def k125 (x0:Family) (x1:Int):Cl:=(hres (C125 (zb9 x0 x1)),k1 (zjx x0 x1))
theorem zi5 (x:Family) (p y:Int):y∈zb9 x p↔∃ c:Nat,c<x.people.length∧y=c∧((x.people.getD c default).father=p∨(x.people.getD c default).mother=p):=by
 unfold zb9
 refine zb3 (fun i (v:List Int)=>y∈v↔∃ c:Nat,c<i∧y=c∧((x.people.getD c default).father=p∨(x.people.getD c default).mother=p)) (fun (r:List Int)=>y∈r↔∃ c:Nat,c<x.people.length∧y=c∧((x.people.getD c default).father=p∨(x.people.getD c default).mother=p)) zaj (fun i v next hi hv hn=>?_) (fun v hv=>hv)
 refine zbm (p:=fun (r:List Int)=>y∈r↔∃ c:Nat,c<x.people.length∧y=c∧((x.people.getD c default).father=p∨(x.people.getD c default).mother=p)) (fun c=>hn _ ?_) (fun c=>hn _ ?_)
 ·simp only [Bool.or_eq_true,decide_eq_true_eq] at c
  rw [zn6,hv]
  constructor
  ·rintro (h | ⟨d,h1,h2,h3⟩)
   ·exact ⟨i,om,h,c⟩
   ·exact ⟨d,om,h2,h3⟩
  ·rintro ⟨d,h1,h2,h3⟩
   by_cases e:d=i
   ·exact .inl (by rw [h2,e])
   ·exact .inr ⟨d,om,h2,h3⟩
 ·simp only [zbd,decide_eq_false_iff_not] at c
  rw [hv]
  constructor
  ·rintro ⟨d,h1,h2,h3⟩;exact ⟨d,om,h2,h3⟩
  ·rintro ⟨d,h1,h2,h3⟩
   by_cases e:d=i
   ·subst e;exact absurd h3 (by rintro (q | q);exact c.1 q;exact c.2 q)
   ·exact ⟨d,om,h2,h3⟩
theorem zg4 {x:Family} {p:Int} {j:Nat} (h:j<(zb9 x p).length):0≤(zb9 x p).getD j default∧(zb9 x p).getD j default<x.people.length:=by
 obtain ⟨c,h1,h2,_⟩:=(zi5 x p _).1 (zhs h)
 rw [h2];omega
theorem zg5 (x:Family) (p:Int):(zb9 x p).length≤x.people.length:=by
 unfold zb9
 refine zb3 (fun i (v:List Int)=>v.length≤i) (fun (r:List Int)=>r.length≤x.people.length) zaj (fun i v next hi hv hn=>?_) (fun v hv=>hv)
 exact zbm (p:=fun (r:List Int)=>r.length≤x.people.length) (fun _=>hn _ (by rw [zn7];omega)) (fun _=>hn _ om)
theorem zz8 {l v : List Person} (hk : Mk l) (hd : Dying l v) {k : Nat} (h : k < l.length) {u : List Union} {t x : Int} (hl : Last v (zb9 ⟨v, u⟩ (k : Int)) k (zb9 ⟨v, u⟩ (k : Int)).length t) (hx : 0 ≤ x ∧ x ≤ 60) :
    Dying l (v.set k ⟨(v.getD k default).name,(v.getD k default).sex,(v.getD k default).father,(v.getD k default).mother,(v.getD k default).born,t+x⟩):=by
 have hb:=zxs hk hd h hl
 have hs:=hd.same k h
 refine hd.set h ⟨by have:=hl.1;rw [hs.2.2.2.2] at this;omega,om⟩ fun c hc hp=>?_
 have hsc:=hd.same c hc
 have hm:((c:Int))∈zb9 ⟨v,u⟩ (k:Int):=(zi5 _ _ _).2 ⟨c,by simp only [hd.len];exact hc,rfl,by rw [hsc.2.2.1,hsc.2.2.2.1];exact hp⟩
 obtain ⟨i,hi,e⟩:=List.getElem_of_mem hm
 have:=hl.2.2 i hi
 rw [show (zb9 ⟨v,u⟩ (k:Int)).getD i default=(c:Int) by rw [List.getD_eq_getElem?_getD,List.getElem?_eq_getElem hi,Option.getD_some,e],Int.toNat_natCast,hsc.2.2.2.2] at this
 omega
end Go.Proofs.YtaageiiodlfeiaaGreat
