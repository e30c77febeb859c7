import Derived.Test.YtlinnkjieghmhaaGreatDoorV44
set_option maxHeartbeats 4000000
set_option linter.unusedSimpArgs false
set_option linter.unusedVariables false
namespace Go.Proofs.YtlinnkjieghmhaaGreatDoor
open Go Go.Lite Go.Proofs
def C60 (R:(List Int)):LV×List (Nat×BC):=(.own 0,[(0,.arr 1 R.length (rowOf (cInt .i64) R))])
def zgu (x0:yc) (x1:List Int) (x2:Int):(List Int):=loopN (fun i1 (v1:(List Int)×Bool) next=>bif ((!v1.2)&&(zo4 x0 x2 (x1.getD i1 default))) then (next (((v1.1++[x2])++[(x1.getD i1 default)]),true)) else (next ((v1.1++[(x1.getD i1 default)]),v1.2))) (fun (v1:(List Int)×Bool)=>bif (!v1.2) then (v1.1++[x2]) else v1.1) x1.length 0 (([]:List Int),false)
def D60b1 (i1:Nat) (v1:(List Int)×Bool):Dl:=⟨[(14,.int .i64 ((i1:Nat):Int)),(7,.own 20007),(8,.bool v1.2)],[(20007,.arr 1 v1.1.length (rowOf (cInt .i64) v1.1))]⟩
def A60b1 (x0:yc) (x1:List Int) (x2:Int) (i1:Nat) (v1:(List Int)×Bool):Ann:=let q4:=v1.1++[x2];let q2:=((i1:Nat):Int);let q1:=x1.getD i1 default;let q3:=((x1.length:Nat):Int);r0 1 [2,3,6,7,8,12,13,14,15] [3,20007] (cn (decide (q2<q3)) (r1 1 [2,3,6,7,8,10,12,13,14] [3,20007] [pf (0≤(q2:Int)∧(q2:Int)<q3)] [0] (.reg 1 [] [(6,cg (!v1.2) (k73 x0 x2 q1))] [2,3,6,7,8,10,12,13,14,25] [3,20007] [!v1.2] [] [] [1,1,1,0,1] (cn ((!v1.2)&&(zo4 x0 x2 q1)) (.reg 1 [] [(2,bsC 28 (cInt .i64) ([x2]:List Int)),(3,ap1 29 (cInt .i64) 8 v1.1 x2)] [2,3,6,7,8,10,12,13,14] [3,29] [] [] [] [0,4] (r0 1 [2,3,6,7,8,10,12,13,14] [3,29] (.reg 1 [] [(2,bsC 32 (cInt .i64) ([q1]:List Int)),(3,ap1 33 (cInt .i64) 8 q4 q1)] [2,3,6,7,8,12,13,14] [3,33] [] [] [] [0,4] (r1 1 [2,3,6,7,8,12,13,14] [3,33] [pf (inR .i64 (q2+1))] [0] (.next 0 [(20007,some 33)] (D60b1 (i1+1) ((q4++[q1]),true))))))) (.reg 1 [] [(2,bsC 32 (cInt .i64) ([q1]:List Int)),(3,ap1 33 (cInt .i64) 8 v1.1 q1)] [2,3,6,7,8,12,13,14] [3,33] [] [] [] [0,4] (r1 1 [2,3,6,7,8,12,13,14] [3,33] [pf (inR .i64 (q2+1))] [0] (.next 0 [(20007,some 33)] (D60b1 (i1+1) ((v1.1++[q1]),v1.2)))))))) (r0 1 [2,6,7,36] [20007] (cn (!v1.2) (.reg 1 [] [(2,bsC 39 (cInt .i64) ([x2]:List Int)),(3,ap1 40 (cInt .i64) 8 v1.1 x2)] [6,7] [40] [] [] [] [0,4] (r0 1 [6] [40] (rt [(0,some 40)] (C60 q4)))) (r0 1 [6] [20007] (rt [(0,some 20007)] (C60 v1.1))))))
def A60 (x0:yc) (x1:List Int) (x2:Int):Ann:=.reg 3 [] [(1000,bsC 11 (cInt .i64) ([]:List Int))] [1,2,3,6,7,8] [3,11] [] [] [] [0] (r0 1 [2,3,6,7,8,12,13,14] [3,11] (lp (D60b1) [] [11] [(20007,some 11)] (D60b1 0 (([]:List Int),false)) (A60b1 x0 x1 x2)))
theorem zop (x0:yc) (x1:List Int) (x2:Int) (hx:x0.people.length≤1048576) (h1:∀ y∈x1,0≤y∧y<x0.people.length) (h2:0≤x2∧x2<x0.people.length) (h3:x1.length≤1048576):FnT Tryz.prog 60 [.agg (zcf false x0),.ro false 1 x1.length (rowOf (cInt .i64) x1),.int .i64 x2] (C60 (zgu x0 x1 x2)):=by
 have aux:∀ R,zgu x0 x1 x2=R→slim (C60 R) (A60 x0 x1 x2) []:=by
  intro R hR
  refine rg ⟨trivial,trivial⟩ ?_
  refine rg trivial ?_
  revert hR;refine lN (fun i v=>v.1.length≤2 * i) za6 rfl fun i1 v1 F1 hn1 hI1 hR hK1=>?_
  refine rg trivial ?_
  refine ⟨fun hc1=>?_,fun hc1=>?_⟩
  ·have hii1:i1<x1.length:=by have:=of_decide_eq_true hc1;omega
   replace hR:=zbq hR hii1
   refine rg ⟨by (intros;omega),trivial⟩ ?_
   refine rg ⟨fun hg0=>⟨by trivial,by trivial,by ((try clear hR hK1);intros;(try simp only [decide_eq_true_eq,decide_eq_false_iff_not,Bool.or_eq_true,Bool.and_eq_true,zbd,zbb,zbc,Bool.not_eq_true',inR] at *);(repeat' apply And.intro)<;>(simp_all [inR];done))⟩,trivial⟩ ?_
   revert hR;refine cd (fun hc2 hR=>?_) fun hc2 hR=>?_
   ·
     refine rg ⟨trivial,om,trivial⟩ ?_
     refine rg trivial ?_
     refine rg ⟨trivial,by (simp;omega),trivial⟩ ?_
     refine rg ⟨by ( intros;simp only [inR];omega),trivial⟩ ?_
     exact hK1 (((v1.1++[x2])++[(x1.getD i1 default)]),true) hii1 (by ((try simp only [decide_eq_true_eq,decide_eq_false_iff_not,List.length_append,List.length_set,List.length_cons,List.length_nil,List.length_replicate] at *);omega)) hR
   ·
     refine rg ⟨trivial,om,trivial⟩ ?_
     refine rg ⟨by ( intros;simp only [inR];omega),trivial⟩ ?_
     exact hK1 ((v1.1++[(x1.getD i1 default)]),v1.2) hii1 (by ((try simp only [decide_eq_true_eq,decide_eq_false_iff_not,List.length_append,List.length_set,List.length_cons,List.length_nil,List.length_replicate] at *);omega)) hR
  ·obtain rfl:i1=x1.length:=by have:=of_decide_eq_false hc1;omega
   replace hR:=zbu hR (Nat.lt_irrefl _)
   refine rg trivial ?_
   revert hR;refine cd (fun hc3 hR=>?_) fun hc3 hR=>?_
   ·
     refine rg ⟨trivial,om,trivial⟩ ?_
     refine rg trivial ?_
     exact congrArg C60 hR
   ·
     refine rg trivial ?_
     exact congrArg C60 hR
 exact Fn.go 42 Tryz.func60 (by kernel_rfl) (by kernel_rfl) (by simp [C60,Frs,FrsL,FrsB,rowOf,cInt,cBool,cStr,cSl,zdm,zbg,zbi,zcf,zbt,zft]) (A60 x0 x1 x2) (by kernel_rfl) (aux _ rfl)
def k60 (x0:yc) (x1:List Int) (x2:Int):Cl:=(hres (C60 (zgu x0 x1 x2)),Go.Lite.k4 (zop x0 x1 x2))
theorem zo5 (x:yc) (l:List Int) (p y:Int):y∈zgu x l p↔y=p∨y∈l:=by
 unfold zgu
 refine zbx (fun i (v:List Int×Bool)=>i≤l.length∧(y∈v.1↔(v.2=true∧y=p)∨y∈l.take i)) (fun (r:List Int)=>y∈r↔y=p∨y∈l) ⟨Nat.zero_le _,by simp⟩ (fun i v next hi hv hn=>?_) (fun v hv=>?_)
 ·have e:l.take (i+1)=l.take i++[l.getD i default]:=by
   rw [List.take_add_one,List.getD_eq_getElem?_getD,List.getElem?_eq_getElem hi];rfl
  obtain ⟨w,d⟩:=v
  obtain ⟨h1,h2⟩:=hv
  refine zbe (p:=fun (r:List Int)=>y∈r↔y=p∨y∈l) (fun c=>hn _ ⟨hi,?_⟩) (fun c=>hn _ ⟨hi,?_⟩)
  ·simp only [Bool.and_eq_true,zbc] at c
   simp only at h2
   simp only [List.mem_append,List.mem_singleton,h2,c.1,e,Bool.false_eq_true,false_and,false_or,true_and]
   constructor
   ·rintro ((h | h) | h)
    ·exact .inr (.inl h)
    ·exact .inl h
    ·exact .inr (.inr h)
   ·rintro (h | h | h)
    ·exact .inl (.inr h)
    ·exact .inl (.inl h)
    ·exact .inr h
  ·simp only at h2
   simp only [List.mem_append,List.mem_singleton,h2,e,or_assoc]
 ·have e:l.take l.length=l:=List.take_length
  rw [e] at hv
  refine zbe (p:=fun (r:List Int)=>y∈r↔y=p∨y∈l) (fun c=>?_) (fun c=>?_)
  ·simp only [zbc] at c
   simp only [List.mem_append,List.mem_singleton,hv.2,c,Bool.false_eq_true,false_and,false_or]
   exact Or.comm
  ·simp only [zbb] at c
   rw [hv.2,c];simp
theorem zo6 (x:yc) (l:List Int) (p:Int):(zgu x l p).length=l.length+1:=by
 unfold zgu
 refine zbx (fun i (v:List Int×Bool)=>v.1.length=i+(bif v.2 then 1 else 0)) (fun (r:List Int)=>r.length=l.length+1) zas (fun i v next hi hv hn=>?_) (fun v hv=>?_)
 ·obtain ⟨w,d⟩:=v
  refine zbe (p:=fun (r:List Int)=>r.length=l.length+1) (fun c=>hn _ ?_) (fun c=>hn _ ?_)
  ·simp only [Bool.and_eq_true,zbc] at c
   simp only [c.1,cond_false] at hv
   simp only [List.length_append,List.length_singleton,hv,cond_true]
  ·simp only at hv
   simp only [List.length_append,List.length_singleton,hv]
   omega
 ·obtain ⟨w,d⟩:=v
  cases d
  ·simp only [Bool.not_false,cond_true,List.length_append,List.length_singleton];simp only [cond_false] at hv;omega
  ·simp only [Bool.not_true,cond_false];simp only [cond_true] at hv;omega
def depN (d:List Int) (p:ya):Int :=
 bif decide (0≤p.father) then (bif decide (0≤p.mother) then Max.max (d.getD p.father.toNat default+1) (d.getD p.mother.toNat default+1) else d.getD p.father.toNat default+1) else (bif decide (0≤p.mother) then Max.max 0 (d.getD p.mother.toNat default+1) else 0)
theorem zeh (x:yc):zbj x=(List.range' 0 x.people.length).foldl (fun v i=>v++[depN v (x.people.getD i default)]) []:=by
 have e:=zqu (fun i (v:List Int)=>v++[depN v (x.people.getD i default)]) (fun (v:List Int)=>v) x.people.length 0 []
 rw [← e]
 unfold zbj
 congr 1
 funext i v next
 unfold depN
 cases decide (0≤(x.people.getD i default).father)<;>cases decide (0≤(x.people.getD i default).mother)<;>rfl
theorem zwv (l:List ya) (p:ya) (u u':List yb):zbj ⟨l++[p],u⟩=zbj ⟨l,u'⟩++[depN (zbj ⟨l,u'⟩) p]:=by
 rw [zeh,zeh]
 simp only [List.length_append,List.length_singleton]
 rw [List.range'_concat,List.foldl_append]
 simp only [Nat.one_mul,Nat.zero_add,List.foldl_cons,List.foldl_nil]
 have h:(List.range' 0 l.length).foldl (fun v i=>v++[depN v ((l++[p]).getD i default)]) []=(List.range' 0 l.length).foldl (fun v i=>v++[depN v (l.getD i default)]) []:=by
  have:∀ (r:List Nat) (s:List Int),(∀ i∈r,i<l.length)→r.foldl (fun v i=>v++[depN v ((l++[p]).getD i default)]) s=r.foldl (fun v i=>v++[depN v (l.getD i default)]) s:=by
   intro r
   induction r with
   | nil=>intro s _;rfl
   | cons a r ih =>
    intro s hr
    simp only [List.foldl_cons]
    rw [zc5 (hr a zas),ih _ fun i hi=>hr i (by simp [hi])]
  exact this _ _ fun i hi=>by have:=List.mem_range'_1.1 hi;omega
 rw [h,zf7 rfl]
def dp (l:List ya) (k:Nat):Int:=(zbj ⟨l,[]⟩).getD k default
theorem dp_of (l:List ya) (u:List yb) (k:Nat):(zbj ⟨l,u⟩).getD k default=dp l k:=by
 unfold dp;rw [zeh,zeh]
theorem z3l (l:List ya):(zbj ⟨l,[]⟩).length=l.length:=zex ⟨l,[]⟩
theorem dp_lt (l:List ya) (p:ya) {k:Nat} (hk:k<l.length):dp (l++[p]) k=dp l k:=by
 unfold dp;rw [zwv l p [] [],zc5 (by rw [z3l];exact hk)]
theorem z0n (l:List ya) (p:ya) {k:Nat} (hk:k=l.length):dp (l++[p]) k=depN (zbj ⟨l,[]⟩) p:=by
 unfold dp;rw [zwv l p [] [],zf7 (by rw [z3l];exact hk)]
def PaOk (l:List ya) (q s:Int) (n:Nat):Prop:=q=-1∨0≤q∧q<n∧(l.getD q.toNat default).sex=s
structure Mk (l:List ya):Prop where
 len:l.length≤40
 name:∀ k:Nat,k<l.length→(l.getD k default).name=zcd (k:Int)
 sex:∀ k:Nat,k<l.length→1≤(l.getD k default).sex∧(l.getD k default).sex≤2
 died:∀ k:Nat,k<l.length→(l.getD k default).died=-1
 fa:∀ k:Nat,k<l.length→PaOk l (l.getD k default).father 1 k
 mo:∀ k:Nat,k<l.length→PaOk l (l.getD k default).mother 2 k
 faB:∀ k:Nat,k<l.length→0≤(l.getD k default).father→(l.getD (l.getD k default).father.toNat default).born<(l.getD k default).born
 moB:∀ k:Nat,k<l.length→0≤(l.getD k default).mother→(l.getD (l.getD k default).mother.toNat default).born<(l.getD k default).born
 dep:∀ k:Nat,k<l.length→0≤dp l k∧dp l k≤10
 born:∀ k:Nat,k<l.length→0≤(l.getD k default).born∧(l.getD k default).born≤400
def MkB (l:List ya):Prop:=∀ k:Nat,k<l.length→(l.getD k default).born≤11+30 * dp l k
theorem Mk.nil:Mk []:=⟨by simp,fun k hk=>absurd hk (Nat.not_lt_zero _),fun k hk=>absurd hk (Nat.not_lt_zero _),fun k hk=>absurd hk (Nat.not_lt_zero _),fun k hk=>absurd hk (Nat.not_lt_zero _),fun k hk=>absurd hk (Nat.not_lt_zero _),fun k hk=>absurd hk (Nat.not_lt_zero _),fun k hk=>absurd hk (Nat.not_lt_zero _),fun k hk=>absurd hk (Nat.not_lt_zero _),fun k hk=>absurd hk (Nat.not_lt_zero _)⟩
theorem MkB.nil:MkB []:=fun k hk=>absurd hk (Nat.not_lt_zero _)
theorem z0r {l : List ya} {p : ya} {D : Int} (hD : 0 ≤ D) (hl : ∀ k : Nat, k < l.length → 0 ≤ dp l k) (hf : p.father = -1 ∨ 0 ≤ p.father ∧ p.father < l.length ∧ dp l p.father.toNat < D) (hm : p.mother = -1 ∨ 0 ≤ p.mother ∧ p.mother < l.length ∧ dp l p.mother.toNat < D) :
    0≤depN (zbj ⟨l,[]⟩) p∧depN (zbj ⟨l,[]⟩) p≤D∧(0≤p.father→dp l p.father.toNat+1≤depN (zbj ⟨l,[]⟩) p)∧(0≤p.mother→dp l p.mother.toNat+1≤depN (zbj ⟨l,[]⟩) p):=by
 have h1:0≤p.father→0≤dp l p.father.toNat:=fun h=>hl _ om
 have h2:0≤p.mother→0≤dp l p.mother.toNat:=fun h=>hl _ om
 unfold depN
 show 0≤(bif decide (0≤p.father) then (bif decide (0≤p.mother) then Max.max (dp l p.father.toNat+1) (dp l p.mother.toNat+1) else dp l p.father.toNat+1) else (bif decide (0≤p.mother) then Max.max 0 (dp l p.mother.toNat+1) else 0))∧_
 change _∧(bif decide (0≤p.father) then (bif decide (0≤p.mother) then Max.max (dp l p.father.toNat+1) (dp l p.mother.toNat+1) else dp l p.father.toNat+1) else (bif decide (0≤p.mother) then Max.max 0 (dp l p.mother.toNat+1) else 0))≤D∧(_→_≤(bif decide (0≤p.father) then (bif decide (0≤p.mother) then Max.max (dp l p.father.toNat+1) (dp l p.mother.toNat+1) else dp l p.father.toNat+1) else (bif decide (0≤p.mother) then Max.max 0 (dp l p.mother.toNat+1) else 0)))∧(_→_≤(bif decide (0≤p.father) then (bif decide (0≤p.mother) then Max.max (dp l p.father.toNat+1) (dp l p.mother.toNat+1) else dp l p.father.toNat+1) else (bif decide (0≤p.mother) then Max.max 0 (dp l p.mother.toNat+1) else 0)))
 cases c1:decide (0≤p.father)<;>cases c2:decide (0≤p.mother)<;>simp only [cond_true,cond_false]<;>simp only [decide_eq_true_eq,decide_eq_false_iff_not] at c1 c2<;>omega
theorem Mk.snoc {l : List ya} (h : Mk l) {p : ya} (hl : l.length < 40) (hn : p.name = zcd (l.length : Int)) (hs : 1 ≤ p.sex ∧ p.sex ≤ 2) (hd : p.died = -1) (hb : 0 ≤ p.born ∧ p.born ≤ 400) (hf : PaOk l p.father 1 l.length) (hm : PaOk l p.mother 2 l.length)
    (hfb:0≤p.father→(l.getD p.father.toNat default).born<p.born∧dp l p.father.toNat<10) (hmb:0≤p.mother→(l.getD p.mother.toNat default).born<p.born∧dp l p.mother.toNat<10):Mk (l++[p]):=by
 have step:∀ {P:Nat→Prop},(∀ k,k<l.length→P k)→P l.length→∀ k,k<(l++[p]).length→P k:=fun h1 h2 k hk=>by
  rcases Nat.lt_or_ge k l.length with e | e
  ·exact h1 k e
  ·have e2:k=l.length:=by simp at hk;omega
   rw [e2];exact h2
 have g0:(l++[p]).getD l.length default=p:=zf7 rfl
 have par:∀ {q s:Int} {n:Nat},n≤l.length→PaOk l q s n→PaOk (l++[p]) q s n:=fun hn hq=>hq.imp id fun hq=>⟨hq.1,hq.2.1,by rw [zc5 om];exact hq.2.2⟩
 refine ⟨by simp; omega, step (fun k hk => by rw [zc5 hk]; exact h.name k hk) (by rw [g0]; exact hn), step (fun k hk => by rw [zc5 hk]; exact h.sex k hk) (by rw [g0]; exact hs), step (fun k hk => by rw [zc5 hk]; exact h.died k hk) (by rw [g0]; exact hd),
   step (fun k hk=>by rw [zc5 hk];exact par om (h.fa k hk)) (by rw [g0];exact par (Nat.le_refl _) hf),step (fun k hk=>by rw [zc5 hk];exact par om (h.mo k hk)) (by rw [g0];exact par (Nat.le_refl _) hm),
   step (fun k hk h0=>?_) ?_,step (fun k hk h0=>?_) ?_,step (fun k hk=>by rw [dp_lt l p hk];exact h.dep k hk) ?_,step (fun k hk=>by rw [zc5 hk];exact h.born k hk) (by rw [g0];exact hb)⟩
 ·rw [zc5 hk] at h0 ⊢
  rcases h.fa k hk with e | e
  ·omega
  ·rw [zc5 om];exact h.faB k hk h0
 ·rw [g0];intro h0
  rcases hf with e | e
  ·omega
  ·rw [zc5 om];exact (hfb h0).1
 ·rw [zc5 hk] at h0 ⊢
  rcases h.mo k hk with e | e
  ·omega
  ·rw [zc5 om];exact h.moB k hk h0
 ·rw [g0];intro h0
  rcases hm with e | e
  ·omega
  ·rw [zc5 om];exact (hmb h0).1
 ·rw [z0n l p rfl]
  have:=z0r (l:=l) (p:=p) (D:=10) om (fun k hk=>(h.dep k hk).1) (hf.imp id fun e=>⟨e.1,e.2.1,(hfb e.1).2⟩) (hm.imp id fun e=>⟨e.1,e.2.1,(hmb e.1).2⟩)
  exact ⟨this.1,this.2.1⟩
theorem zzj {p:ya} {l:List ya} {u:List yb} {q:Int}:q∈zb4 ⟨[p],u⟩ 0↔(0≤p.father∧q=p.father)∨(0≤p.mother∧q=p.mother):=by
 unfold zb4
 have e:([p]:List ya).getD (Int.toNat 0) default=p:=rfl
 simp only [e]
 cases c1:decide (0≤p.father)<;>cases c2:decide (0≤p.mother)<;>simp only [cond_true,cond_false]<;>simp only [decide_eq_true_eq,decide_eq_false_iff_not] at c1 c2<;>simp [c1,c2]
theorem Mk.grow {l : List ya} (h : Mk l) (hB : MkB l) (hl : l.length < 40) {s f m b0 b d0 : Int} {n0 : List UInt8} {u : List yb} (hs : 1 ≤ s ∧ s ≤ 2) (hf : PaOk l f 1 l.length) (hm : PaOk l m 2 l.length) (hfd : 0 ≤ f → dp l f.toNat < 10) (hmd : 0 ≤ m → dp l m.toNat < 10)
    (hb0:0≤b) (hb:b≤11∨∃ q∈zb4 ⟨[⟨n0,s,f,m,b0,d0⟩],u⟩ 0,b≤(l.getD q.toNat default).born+30) (hp:∀ q∈zb4 ⟨[⟨n0,s,f,m,b0,d0⟩],u⟩ 0,(l.getD q.toNat default).born<b) :
    Mk (l++[⟨zcd (l.length:Int),s,f,m,b,-1⟩])∧MkB (l++[⟨zcd (l.length:Int),s,f,m,b,-1⟩]):=by
 simp only [zzj (l:=l)] at hb hp
 have hd:=z0r (l:=l) (p:=⟨zcd (l.length:Int),s,f,m,b,-1⟩) (D:=10) om (fun k hk=>(h.dep k hk).1) (hf.imp id fun e=>⟨e.1,e.2.1,hfd e.1⟩) (hm.imp id fun e=>⟨e.1,e.2.1,hmd e.1⟩)
 simp only at hd
 have hb2:b≤11+30 * depN (zbj ⟨l,[]⟩) ⟨zcd (l.length:Int),s,f,m,b,-1⟩:=by
  rcases hb with e | ⟨q,hq,e⟩
  ·omega
  ·rcases hq with ⟨h0,rfl⟩ | ⟨h0,rfl⟩
   ·rcases hf with e2 | e2
    ·omega
    ·have:=hB q.toNat om;have:=hd.2.2.1 h0;omega
   ·rcases hm with e2 | e2
    ·omega
    ·have:=hB q.toNat om;have:=hd.2.2.2 h0;omega
 refine ⟨h.snoc hl rfl hs rfl ⟨hb0,show b≤400 by omega⟩ hf hm (fun h0=>⟨hp f (.inl ⟨h0,rfl⟩),hfd h0⟩) (fun h0=>⟨hp m (.inr ⟨h0,rfl⟩),hmd h0⟩),fun k hk=>?_⟩
 rcases Nat.lt_or_ge k l.length with e | e
 ·rw [zc5 e,dp_lt l _ e];exact hB k e
 ·have e2:k=l.length:=by simp at hk;omega
  rw [zf7 e2,z0n l _ e2];exact hb2
structure Dying (l:List ya) (v:List ya):Prop where
 len:v.length=l.length
 same:∀ k:Nat,k<l.length→(v.getD k default).name=(l.getD k default).name∧(v.getD k default).sex=(l.getD k default).sex∧(v.getD k default).father=(l.getD k default).father∧(v.getD k default).mother=(l.getD k default).mother∧(v.getD k default).born=(l.getD k default).born
 died:∀ k:Nat,k<l.length→(v.getD k default).died=-1∨(l.getD k default).born≤(v.getD k default).died∧(v.getD k default).died≤500∧∀ c:Nat,c<l.length→(l.getD c default).father=k∨(l.getD c default).mother=k→(l.getD c default).born≤(v.getD k default).died
theorem Dying.refl {l:List ya} (h:Mk l):Dying l l:=⟨rfl,fun k hk=>⟨rfl,rfl,rfl,rfl,rfl⟩,fun k hk=>.inl (h.died k hk)⟩
theorem Dying.set {l v : List ya} (h : Dying l v) {k : Nat} (hk : k < l.length) {y : Int} (h1 : (l.getD k default).born ≤ y ∧ y ≤ 500) (h2 : ∀ c : Nat, c < l.length → (l.getD c default).father = k ∨ (l.getD c default).mother = k → (l.getD c default).born ≤ y) :
    Dying l (v.set k ⟨(v.getD k default).name,(v.getD k default).sex,(v.getD k default).father,(v.getD k default).mother,(v.getD k default).born,y⟩):=by
 refine ⟨by simp [h.len],fun i hi=>?_,fun i hi=>?_⟩
 ·rw [zco]
  split
  ·rename_i e;rw [e.1];exact h.same k hk
  ·exact h.same i hi
 ·rw [zco]
  split
  ·rename_i e;rw [e.1];exact .inr ⟨h1.1,h1.2,h2⟩
  ·exact h.died i hi
theorem zt4:((List.range 40).all fun k=>zcp (zcd (k:Int))&&(List.range 40).all fun j=>(j==k)||(zcd (j:Int) != zcd (k:Int)))=true:=by kernel_rfl
theorem zvk {k:Nat} (h:k<40):zcp (zcd (k:Int))=true:=by
 have:=List.all_eq_true.1 zt4 k (List.mem_range.2 h)
 rw [Bool.and_eq_true] at this
 exact this.1
theorem zyc {j k:Nat} (h1:j<40) (h2:k<40) (h:j≠k):zcd (j:Int)≠zcd (k:Int):=by
 have:=List.all_eq_true.1 zt4 k (List.mem_range.2 h2)
 rw [Bool.and_eq_true] at this
 have:=List.all_eq_true.1 this.2 j (List.mem_range.2 h1)
 simp only [Bool.or_eq_true,beq_iff_eq,bne_iff_ne] at this
 rcases this with e | e
 ·exact absurd e h
 ·exact e
theorem z2r {l v:List ya} (u:List yb) (hl:v.length=l.length) (h:∀ k:Nat,k<l.length→(v.getD k default).father=(l.getD k default).father∧(v.getD k default).mother=(l.getD k default).mother):zbj ⟨v,u⟩=zbj ⟨l,[]⟩:=by
 rw [zeh,zeh]
 simp only [hl]
 have:∀ (r:List Nat) (s:List Int),(∀ i∈r,i<l.length)→r.foldl (fun w i=>w++[depN w (v.getD i default)]) s=r.foldl (fun w i=>w++[depN w (l.getD i default)]) s:=by
  intro r
  induction r with
  | nil=>intro s _;rfl
  | cons a r ih =>
   intro s hr
   simp only [List.foldl_cons]
   have e:depN s (v.getD a default)=depN s (l.getD a default):=by unfold depN;rw [(h a (hr a zas)).1,(h a (hr a zas)).2]
   rw [e,ih _ fun i hi=>hr i (by simp [hi])]
 exact this _ _ fun i hi=>by have:=List.mem_range'_1.1 hi;omega
theorem Dying.valid {l v:List ya} (h:Mk l) (hd:Dying l v):za9 ⟨v,[]⟩=true:=by
 refine (zgw _).2 ⟨⟨by simp only [hd.len];exact h.len,by simp⟩,fun k hk=>?_,fun k hk=>?_,fun k hk=>absurd hk (Nat.not_lt_zero _)⟩
 ·simp only [hd.len] at hk
  have hl:=h.len
  obtain ⟨e1,e2,e3,e4,e5⟩:=hd.same k hk
  have hb:=h.born k hk
  refine ⟨?_,?_,?_,?_,fun j hj=>?_,?_,?_⟩
  ·simp only [e1,h.name k hk];exact zvk om
  ·simp only [e2];exact h.sex k hk
  ·simp only [e5];omega
  ·simp only [e5];exact (hd.died k hk).imp id fun e=>⟨e.1,om⟩
  ·simp only [e1,h.name k hk,(hd.same j om).1,h.name j om]
   exact zyc om om om
  ·simp only [e3,e5]
   refine (h.fa k hk).imp id fun e=>?_
   have hq:(l.getD k default).father.toNat<l.length:=by omega
   obtain ⟨f1,f2,f3,f4,f5⟩:=hd.same _ hq
   refine ⟨e.1,e.2.1,by rw [f2];exact e.2.2,by rw [f5];exact h.faB k hk e.1,(hd.died _ hq).imp id fun g=>?_⟩
   have:=g.2.2 k hk (.inl om);omega
  ·simp only [e4,e5]
   refine (h.mo k hk).imp id fun e=>?_
   have hq:(l.getD k default).mother.toNat<l.length:=by omega
   obtain ⟨f1,f2,f3,f4,f5⟩:=hd.same _ hq
   refine ⟨e.1,e.2.1,by rw [f2];exact e.2.2,by rw [f5];exact h.moB k hk e.1,(hd.died _ hq).imp id fun g=>?_⟩
   exact g.2.2 k hk (.inr om)
 ·simp only [hd.len] at hk
  rw [z2r [] hd.len fun i hi=>⟨(hd.same i hi).2.2.1,(hd.same i hi).2.2.2.1⟩]
  exact (h.dep k hk).2
theorem mem4 {n:Int} (h:n∈([1,7,20,25]:List Int)):1≤n∧n≤25:=by
 simp only [List.mem_cons,List.not_mem_nil,or_false] at h;omega
theorem mem3b {n:Int} (h:n∈([3,5,9]:List Int)):1≤n∧n≤9:=by
 simp only [List.mem_cons,List.not_mem_nil,or_false] at h;omega
theorem mem5b {n:Int} (h:n∈([0,1,5,30,60]:List Int)):0≤n∧n≤60:=by
 simp only [List.mem_cons,List.not_mem_nil,or_false] at h;omega
def PaDp (l:List ya) (q s:Int):Prop:=PaOk l q s l.length∧(0≤q→dp l q.toNat<10)
def Born (l:List ya) (ps:List Int) (i:Nat) (b:Int):Prop:=0≤b∧(b≤11∨∃ q∈ps,b≤(l.getD q.toNat default).born+30)∧∀ j:Nat,j<i→(l.getD (ps.getD j default).toNat default).born<b
def Last (l:List ya) (cs:List Int) (k i:Nat) (t:Int):Prop:=(l.getD k default).born≤t∧t≤400∧∀ j:Nat,j<i→(l.getD (cs.getD j default).toNat default).born≤t
theorem zrt (l:List ya) (s:Int):PaDp l (-1) s:=⟨.inl rfl,fun h=>absurd h om⟩
theorem zri {c:ye} (h:CurOk c) {l:List ya} (hk:Mk l) (u:List yb) (s:Int):CurOk ⟨c.b,(zcq c ⟨l,u⟩ (zbj ⟨l,u⟩) s).2.1,(zcq c ⟨l,u⟩ (zbj ⟨l,u⟩) s).2.2⟩∧PaDp l (zcq c ⟨l,u⟩ (zbj ⟨l,u⟩) s).1 s:=by
 have h9:=zo2 h (f:=⟨l,u⟩) (d:=zbj ⟨l,u⟩) hk.len s
 refine ⟨h9.2,h9.1.imp id fun e=>⟨e.1,e.2.1,e.2.2.1⟩,fun h0=>?_⟩
 rcases h9.1 with e | e
 ·omega
 ·rw [← dp_of l u];exact e.2.2.2
theorem Mk.par {l:List ya} (h:Mk l) (u:List yb):∀ k:Nat,k<(yc.mk l u).people.length→((yc.mk l u).people.getD k default).father<k∧((yc.mk l u).people.getD k default).mother<k:=fun k hk=>by
 have h1:=h.fa k hk;have h2:=h.mo k hk
 unfold PaOk at h1 h2
 dsimp only
 omega
theorem born0 {l:List ya} {ps:List Int} {b:Int} (h:0≤b∧b≤11):Born l ps 0 b:=⟨h.1,.inl h.2,fun j hj=>absurd hj (Nat.not_lt_zero _)⟩
theorem zhn {ps:List Int} {j:Nat} (h:j<ps.length):ps.getD j default∈ps:=zd0 h
theorem zzi {l : List ya} {f m s b d : Int} {n : List UInt8} {u : List yb} {j : Nat} (hf : PaDp l f 1) (hm : PaDp l m 2) (hj : j < (zb4 ⟨[⟨n, s, f, m, b, d⟩], u⟩ 0).length) :
    0≤(zb4 ⟨[⟨n,s,f,m,b,d⟩],u⟩ 0).getD j default∧(zb4 ⟨[⟨n,s,f,m,b,d⟩],u⟩ 0).getD j default<l.length:=by
 have h:=(zzj (l:=l)).1 (zhn hj)
 have h1:=hf.1;have h2:=hm.1
 unfold PaOk at h1 h2
 rcases h with ⟨h0,e⟩ | ⟨h0,e⟩<;>rw [e]<;>simp only at h0 ⊢<;>omega
theorem zvy {l : List ya} (hk : Mk l) {f m s b d : Int} {n : List UInt8} {u : List yb} {j : Nat} (hf : PaDp l f 1) (hm : PaDp l m 2) (hj : j < (zb4 ⟨[⟨n, s, f, m, b, d⟩], u⟩ 0).length) :
    0≤(l.getD ((zb4 ⟨[⟨n,s,f,m,b,d⟩],u⟩ 0).getD j default).toNat default).born∧(l.getD ((zb4 ⟨[⟨n,s,f,m,b,d⟩],u⟩ 0).getD j default).toNat default).born≤400:=by
 have h:=zzi hf hm hj
 exact hk.born _ om
theorem zt7 {l:List ya} {ps:List Int} {i:Nat} {b st x:Int} (h:Born l ps i b) (hi:i<ps.length) (hs:1≤st∧st≤25) (hx:0≤x∧x<6):Born l ps (i+1) (Max.max b ((l.getD (ps.getD i default).toNat default).born+st+x)):=by
 refine ⟨by have:=h.1;omega,?_,fun j hj=>?_⟩
 ·rcases h.2.1 with e | ⟨q,hq,e⟩
  ·by_cases c:b≤(l.getD (ps.getD i default).toNat default).born+st+x
   ·exact .inr ⟨_,zhn hi,om⟩
   ·exact .inl om
  ·by_cases c:b≤(l.getD (ps.getD i default).toNat default).born+st+x
   ·exact .inr ⟨_,zhn hi,om⟩
   ·exact .inr ⟨q,hq,om⟩
 ·rcases Nat.lt_or_ge j i with e | e
  ·have:=h.2.2 j e;omega
  ·have e2:j=i:=by omega
   rw [e2];omega
theorem zww {l:List ya} {ps:List Int} {b:Int} (h:Born l ps ps.length b):∀ q∈ps,(l.getD q.toNat default).born<b:=fun q hq=>by
 obtain ⟨i,hi,e⟩:=List.getElem_of_mem hq
 have:=h.2.2 i hi
 rw [show ps.getD i default=q by rw [List.getD_eq_getElem?_getD,List.getElem?_eq_getElem hi,Option.getD_some,e]] at this
 exact this
theorem last0 {l v:List ya} {cs:List Int} {k:Nat} (hk:Mk l) (hd:Dying l v) (h:k<l.length):Last v cs k 0 (v.getD k default).born:=⟨Int.le_refl _,by rw [(hd.same k h).2.2.2.2];exact (hk.born k h).2,fun j hj=>absurd hj (Nat.not_lt_zero _)⟩
theorem zvc {l v:List ya} (hk:Mk l) (hd:Dying l v) {k:Nat} (h:k<v.length):0≤(v.getD k default).born∧(v.getD k default).born≤400:=by
 have h':k<l.length:=by rw [← hd.len];exact h
 rw [(hd.same k h').2.2.2.2];exact hk.born k h'
theorem ztl {v:List ya} {cs:List Int} {k i:Nat} {t:Int} (h:Last v cs k i t) (hb:(v.getD (cs.getD i default).toNat default).born≤400):Last v cs k (i+1) (Max.max t (v.getD (cs.getD i default).toNat default).born):=by
 refine ⟨by have:=h.1;omega,by have:=h.2.1;omega,fun j hj=>?_⟩
 rcases Nat.lt_or_ge j i with e | e
 ·have:=h.2.2 j e;omega
 ·have e2:j=i:=by omega
  rw [e2];omega
theorem zzy {l v:List ya} {cs:List Int} {k i:Nat} {t:Int} (hk:Mk l) (hd:Dying l v) (h:k<l.length) (hl:Last v cs k i t):0≤t∧t≤400:=by
 have:=hl.1;have:=hl.2.1;have:=zvc hk hd (k:=k) (by rw [hd.len];exact h);omega
theorem Dying.names {l v:List ya} (hk:Mk l) (hd:Dying l v):∀ p∈v,p.name.length≤1048576:=fun p hp=>by
 obtain ⟨i,hi,e⟩:=List.getElem_of_mem hp
 have h':i<l.length:=by rw [← hd.len];exact hi
 have h1:=(hd.same i h').1
 rw [hk.name i h',List.getD_eq_getElem?_getD,List.getElem?_eq_getElem hi,Option.getD_some,e] at h1
 rw [h1];simp [zcd]
def C36 (R:(List Int)):LV×List (Nat×BC):=(.own 0,[(0,.arr 1 R.length (rowOf (cInt .i64) R))])
def zch (x0:yc) (x1:Int):(List Int):=loopN (fun i1 (v1:(List Int)) next=>bif ((decide (((x0.people.getD i1 default).father)=x1))||(decide (((x0.people.getD i1 default).mother)=x1))) then (next (zgu x0 v1 ((i1:Nat):Int))) else (next v1)) (fun (v1:(List Int))=>v1) x0.people.length 0 ([]:List Int)
def D36b1 (i1:Nat) (v1:(List Int)):Dl:=⟨[(12,.int .i64 ((i1:Nat):Int)),(5,.own 20005)],[(20005,.arr 1 v1.length (rowOf (cInt .i64) v1))]⟩
def A36b1 (x0:yc) (x1:Int) (i1:Nat) (v1:(List Int)):Ann:=let q1:=((i1:Nat):Int);let q3:=((x0.people.length:Nat):Int);let q2:=((x0.people.getD i1 default).father)=x1;r0 1 [1,2,4,5,10,11,12,13] [2,20005] (cn (decide (q1<q3)) (.reg 2 [] [] [1,2,4,5,6,10,11,12,26] [2,20005] [!(decide q2),decide q2] [pf (0≤(q1:Int)∧(q1:Int)<q3)] [] [0,1,1,1,6] (cn ((decide q2)||(decide (((x0.people.getD i1 default).mother)=x1))) (.reg 1 [] [(3,k60 x0 v1 q1)] [1,2,4,5,10,11,12] [2,1030] [] [] [] [0] (r1 1 [1,2,4,5,10,11,12] [2,1030] [pf (inR .i64 (q1+1))] [0] (.next 0 [(20005,some 1030)] (D36b1 (i1+1) (zgu x0 v1 q1))))) (r1 1 [1,2,4,5,10,11,12] [2,20005] [pf (inR .i64 (q1+1))] [0] (.next 0 [(20005,some 20005)] (D36b1 (i1+1) v1))))) (r0 1 [4] [20005] (rt [(0,some 20005)] (C36 v1))))
def A36 (x0:yc) (x1:Int):Ann:=.reg 2 [] [(1000,bsC 8 (cInt .i64) ([]:List Int))] [1,2,4,5] [2,8] [] [] [] [0] (r0 1 [1,2,4,5,10,11,12] [2,8] (lp (D36b1) [] [8] [(20005,some 8)] (D36b1 0 ([]:List Int)) (A36b1 x0 x1)))
theorem zkv (x0:yc) (x1:Int) (hx:x0.people.length≤1048576):FnT Tryz.prog 36 [.agg (zcf false x0),.int .i64 x1] (C36 (zch x0 x1)):=by
 have aux:∀ R,zch x0 x1=R→slim (C36 R) (A36 x0 x1) []:=by
  intro R hR
  refine rg ⟨trivial,trivial⟩ ?_
  refine rg trivial ?_
  revert hR;refine lN (fun i v=>v.length≤i∧∀ y∈v,0≤y∧y<x0.people.length) (by (refine ⟨by (first | (simp only [List.length_nil];omega) | omega),fun y hy=>?_⟩;first | exact hI1.2 y hy | cases hy)) rfl fun i1 v1 F1 hn1 hI1 hR hK1=>?_
  refine rg trivial ?_
  refine ⟨fun hc1=>?_,fun hc1=>?_⟩
  ·have hii1:i1<x0.people.length:=by have:=of_decide_eq_true hc1;omega
   replace hR:=zbq hR hii1
   refine rg ⟨by (intros;omega),trivial⟩ ?_
   revert hR;refine cd (fun hc2 hR=>?_) fun hc2 hR=>?_
   ·
     refine rg ⟨⟨by trivial,by (exact hI1.2),by (intros;omega),by (intros;omega)⟩,trivial⟩ ?_
     refine rg ⟨by ( intros;simp only [inR];omega),trivial⟩ ?_
     exact hK1 (zgu x0 v1 ((i1:Nat):Int)) hii1 (by (refine ⟨by (rw [zo6];omega),fun y hy=>?_⟩;exact Or.elim ((zo5 _ _ _ y).1 hy) (fun h9=>by omega) (fun h9=>hI1.2 y h9))) hR
   ·
     refine rg ⟨by ( intros;simp only [inR];omega),trivial⟩ ?_
     exact hK1 v1 hii1 (by (refine ⟨by (first | (simp only [List.length_nil];omega) | omega),fun y hy=>?_⟩;first | exact hI1.2 y hy | cases hy)) hR
  ·obtain rfl:i1=x0.people.length:=by have:=of_decide_eq_false hc1;omega
   replace hR:=zbu hR (Nat.lt_irrefl _)
   refine rg trivial ?_
   exact congrArg C36 hR
 exact Fn.go 33 Tryz.func36 (by kernel_rfl) (by kernel_rfl) (by simp [C36,Frs,FrsL,FrsB,rowOf,cInt,cBool,cStr,cSl,zdm,zbg,zbi,zcf,zbt,zft]) (A36 x0 x1) (by kernel_rfl) (aux _ rfl)
def k36 (x0:yc) (x1:Int):Cl:=(hres (C36 (zch x0 x1)),k1 (zkv x0 x1))
theorem zjv (x:yc) (p y:Int):y∈zch x p↔∃ c:Nat,c<x.people.length∧y=c∧((x.people.getD c default).father=p∨(x.people.getD c default).mother=p):=by
 unfold zch
 refine zbx (fun i (v:List Int)=>y∈v↔∃ c:Nat,c<i∧y=c∧((x.people.getD c default).father=p∨(x.people.getD c default).mother=p)) (fun (r:List Int)=>y∈r↔∃ c:Nat,c<x.people.length∧y=c∧((x.people.getD c default).father=p∨(x.people.getD c default).mother=p)) zas (fun i v next hi hv hn=>?_) (fun v hv=>hv)
 refine zbe (p:=fun (r:List Int)=>y∈r↔∃ c:Nat,c<x.people.length∧y=c∧((x.people.getD c default).father=p∨(x.people.getD c default).mother=p)) (fun c=>hn _ ?_) (fun c=>hn _ ?_)
 ·simp only [Bool.or_eq_true,decide_eq_true_eq] at c
  rw [zo5,hv]
  constructor
  ·rintro (h | ⟨d,h1,h2,h3⟩)
   ·exact ⟨i,om,h,c⟩
   ·exact ⟨d,om,h2,h3⟩
  ·rintro ⟨d,h1,h2,h3⟩
   by_cases e:d=i
   ·exact .inl (by rw [h2,e])
   ·exact .inr ⟨d,om,h2,h3⟩
 ·simp only [zbd,decide_eq_false_iff_not] at c
  rw [hv]
  constructor
  ·rintro ⟨d,h1,h2,h3⟩;exact ⟨d,om,h2,h3⟩
  ·rintro ⟨d,h1,h2,h3⟩
   by_cases e:d=i
   ·subst e;exact absurd h3 (by rintro (q | q);exact c.1 q;exact c.2 q)
   ·exact ⟨d,om,h2,h3⟩
theorem zgs {x:yc} {p:Int} {j:Nat} (h:j<(zch x p).length):0≤(zch x p).getD j default∧(zch x p).getD j default<x.people.length:=by
 obtain ⟨c,h1,h2,_⟩:=(zjv x p _).1 (zhn h)
 rw [h2];omega
theorem zgt (x:yc) (p:Int):(zch x p).length≤x.people.length:=by
 unfold zch
 refine zbx (fun i (v:List Int)=>v.length≤i) (fun (r:List Int)=>r.length≤x.people.length) zas (fun i v next hi hv hn=>?_) (fun v hv=>hv)
 exact zbe (p:=fun (r:List Int)=>r.length≤x.people.length) (fun _=>hn _ (by rw [zo6];omega)) (fun _=>hn _ om)
theorem z3n {l v : List ya} (hk : Mk l) (hd : Dying l v) {k : Nat} (h : k < l.length) {u : List yb} {t x : Int} (hl : Last v (zch ⟨v, u⟩ (k : Int)) k (zch ⟨v, u⟩ (k : Int)).length t) (hx : 0 ≤ x ∧ x ≤ 60) :
    Dying l (v.set k ⟨(v.getD k default).name,(v.getD k default).sex,(v.getD k default).father,(v.getD k default).mother,(v.getD k default).born,t+x⟩):=by
 have hb:=zzy hk hd h hl
 have hs:=hd.same k h
 refine hd.set h ⟨by have:=hl.1;rw [hs.2.2.2.2] at this;omega,om⟩ fun c hc hp=>?_
 have hsc:=hd.same c hc
 have hm:((c:Int))∈zch ⟨v,u⟩ (k:Int):=(zjv _ _ _).2 ⟨c,by simp only [hd.len];exact hc,rfl,by rw [hsc.2.2.1,hsc.2.2.2.1];exact hp⟩
 obtain ⟨i,hi,e⟩:=List.getElem_of_mem hm
 have:=hl.2.2 i hi
 rw [show (zch ⟨v,u⟩ (k:Int)).getD i default=(c:Int) by rw [List.getD_eq_getElem?_getD,List.getElem?_eq_getElem hi,Option.getD_some,e],Int.toNat_natCast,hsc.2.2.2.2] at this
 omega
end Go.Proofs.YtlinnkjieghmhaaGreatDoor
