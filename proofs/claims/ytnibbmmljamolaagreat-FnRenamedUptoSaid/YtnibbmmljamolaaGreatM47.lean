import Derived.Test.YtnibbmmljamolaaGreatV44
set_option maxHeartbeats 4000000
set_option linter.unusedSimpArgs false
set_option linter.unusedVariables false
namespace Go.Proofs.YtnibbmmljamolaaGreat
open Go Go.Lite Go.Proofs
def C108(R:(List Int)):LV×List (Nat×BC):=(.own 0,[(0,.arr 1 R.length (rowOf (cInt .i64) R))])
def ze1(x0:yc)(x1:List Int)(x2:Int):(List Int):=loopN (fun i1 (v1:(List Int)×Bool) next=>bif((!v1.2)&&(zo2 x0 x2 (x1.getD i1 default))) then(next (((v1.1++[x2])++[(x1.getD i1 default)]),true)) else(next ((v1.1++[(x1.getD i1 default)]),v1.2))) (fun (v1:(List Int)×Bool)=>bif(!v1.2) then(v1.1++[x2]) else v1.1) x1.length 0 (([]:List Int),false)
def zyc(i1:Nat)(v1:(List Int)×Bool):Dl:=⟨[(14,.int .i64 ((i1:Nat):Int)),(7,.own 20007),(8,.bool v1.2)],[(20007,.arr 1 v1.1.length (rowOf (cInt .i64) v1.1))]⟩
def A108b1(x0:yc)(x1:List Int)(x2:Int)(i1:Nat)(v1:(List Int)×Bool):Ann:=let q4:=v1.1++[x2];let q2:=((i1:Nat):Int);let q1:=x1.getD i1 default;let q3:=((x1.length:Nat):Int);r0 1 [2,3,6,7,8,12,13,14,15] [3,20007] (cn (decide (q2<q3)) (r1 1 [2,3,6,7,8,10,12,13,14] [3,20007] [pf (0≤(q2:Int)∧(q2:Int)<q3)] [0] (.reg 1 [] [(6,cg (!v1.2) (k119 x0 x2 q1))] [2,3,6,7,8,10,12,13,14,25] [3,20007] [!v1.2] [] [] [1,1,1,0,1] (cn ((!v1.2)&&(zo2 x0 x2 q1)) (.reg 1 [] [(2,bsC 28 (cInt .i64) ([x2]:List Int)),(3,ap1 29 (cInt .i64) 8 v1.1 x2)] [2,3,6,7,8,10,12,13,14] [3,29] [] [] [] [0,4] (r0 1 [2,3,6,7,8,10,12,13,14] [3,29] (.reg 1 [] [(2,bsC 32 (cInt .i64) ([q1]:List Int)),(3,ap1 33 (cInt .i64) 8 q4 q1)] [2,3,6,7,8,12,13,14] [3,33] [] [] [] [0,4] (r1 1 [2,3,6,7,8,12,13,14] [3,33] [pf (inR .i64 (q2+1))] [0] (.next 0 [(20007,some 33)] (zyc (i1+1) ((q4++[q1]),true))))))) (.reg 1 [] [(2,bsC 32 (cInt .i64) ([q1]:List Int)),(3,ap1 33 (cInt .i64) 8 v1.1 q1)] [2,3,6,7,8,12,13,14] [3,33] [] [] [] [0,4] (r1 1 [2,3,6,7,8,12,13,14] [3,33] [pf (inR .i64 (q2+1))] [0] (.next 0 [(20007,some 33)] (zyc (i1+1) ((v1.1++[q1]),v1.2)))))))) (r0 1 [2,6,7,36] [20007] (cn (!v1.2) (.reg 1 [] [(2,bsC 39 (cInt .i64) ([x2]:List Int)),(3,ap1 40 (cInt .i64) 8 v1.1 x2)] [6,7] [40] [] [] [] [0,4] (r0 1 [6] [40] (rt [(0,some 40)] (C108 q4)))) (r0 1 [6] [20007] (rt [(0,some 20007)] (C108 v1.1))))))
def A108(x0:yc)(x1:List Int)(x2:Int):Ann:=.reg 3 [] [(1000,bsC 11 (cInt .i64) ([]:List Int))] [1,2,3,6,7,8] [3,11] [] [] [] [0] (r0 1 [2,3,6,7,8,12,13,14] [3,11] (lp (zyc) [] [11] [(20007,some 11)] (zyc 0 (([]:List Int),false)) (A108b1 x0 x1 x2)))
theorem zoe(x0 : yc)(x1 : List Int)(x2 : Int)(hx : x0.people.length ≤ 1048576)(h1 : ∀y ∈ x1, 0 ≤ y ∧ y < x0.people.length)(h2 : 0 ≤ x2 ∧ x2 < x0.people.length)(h3 : x1.length ≤ 1048576) : FnT Tryz.prog 108 [.agg (zaw false x0), .ro false 1 x1.length (rowOf (cInt .i64) x1), .int .i64 x2] (C108 (ze1 x0 x1 x2)) := by
 have aux : ∀R, ze1 x0 x1 x2 = R → slim (C108 R) (A108 x0 x1 x2) [] := by
  intro R hR;refine rg ⟨trivial,trivial⟩ ?_;refine rT ?_;refine lN (fun i v=>v.1.length≤2 * i) vdg rfl (fun i1 v1 F1 hn1 hI1 hR hK1=>?_) hR;refine rT ?_;refine⟨fun hc1=>?_,fun hc1=>?_⟩
  ·have hii1 : i1 < x1.length := vcH;replace hR := zai hR hii1;refine rg ⟨vc4, trivial⟩ ?_;refine rg ⟨fun hg0 => ⟨vdg, vdg, vaZ⟩, trivial⟩ ?_;refine cd (fun hc2 hR => ?_) (fun hc2 hR => ?_) hR
   ·refine rg ⟨trivial, vdh, trivial⟩ ?_;refine rT ?_;refine rg ⟨trivial, by (simp; omega), trivial⟩ ?_;refine rg ⟨vcq, trivial⟩ ?_;exact hK1 (((v1.1 ++ [x2]) ++ [(x1.getD i1 default)]), true) hii1 vbO hR
   refine rg ⟨trivial,vdh,trivial⟩ ?_;refine rg ⟨vcx,trivial⟩ ?_;exact hK1 ((v1.1++[(x1.getD i1 default)]),v1.2) hii1 (by((try simp only[ob,oa,oh,Ob,ow,oC,List.length_replicate] at *);omega)) hR
  obtain rfl:i1=x1.length:=by have:=oB hc1;omega
  replace hR:=zaq hR (oR _);refine rT ?_;refine cd (fun hc3 hR=>?_) (fun hc3 hR=>?_) hR
  ·refine rg ⟨trivial, vdh, trivial⟩ ?_;refine rT ?_;exact oe C108 hR
  refine rT ?_;exact oe C108 hR
 exact Fn.go 42 Tryz.func108 zaa zaa (by simp[C108,Frs,FrsL,FrsB,rowOf,cInt,cBool,cStr,cSl,zbd,zah,zas,zaw,cDyad,cLaw,zcc]) (A108 x0 x1 x2) zaa (aux _ rfl)
def k108(x0:yc)(x1:List Int)(x2:Int):Cl:=(hres (C108 (ze1 x0 x1 x2)),Go.Lite.k4 (zoe x0 x1 x2))
theorem zo3(x : yc)(l : List Int)(p y : Int) : y ∈ ze1 x l p ↔ y = p ∨ y ∈ l := by
 unfold ze1;refine za3 (fun i (v:List Int×Bool)=>i≤l.length∧(y∈v.1↔(v.2=true∧y=p)∨y∈l.take i)) (fun (r:List Int)=>y∈r↔y=p∨y∈l) ⟨Nat.zero_le _,vdj⟩ (fun i v next hi hv hn=>?_) (fun v hv=>?_)
 ·have e : l.take (i + 1) = l.take i ++ [l.getD i default] := by rw [List.take_add_one, oi, ol hi]; rfl
  obtain⟨w,d⟩:=v;obtain⟨h1,h2⟩:=hv;refine zaj (p:=fun (r:List Int)=>y∈r↔y=p∨y∈l) (fun c=>hn _ ⟨hi,?_⟩) (fun c=>hn _ ⟨hi,?_⟩)
  ·simp only [oc, not_t_iff] at c;simp only at h2;simp only [List.mem_append, oT, h2, c.1, e, oV, false_and, false_or, true_and];constructor
   ·rintro ((h | h) | h)
    ·exact .inr (.inl h)
    ·exact .inl h
    exact .inr (.inr h)
   rintro(h | h | h)
   ·exact .inl (.inr h)
   ·exact .inl (.inl h)
   exact .inr h
  simp only at h2;simp only[List.mem_append,oT,h2,e,or_assoc]
 have e:l.take l.length=l:=List.take_length;rw[e] at hv;refine zaj (p:=fun (r:List Int)=>y∈r↔y=p∨y∈l) (fun c=>?_) (fun c=>?_)
 ·simp only [not_t_iff] at c;simp only [List.mem_append, oT, hv.2, c, oV, false_and, false_or];exact Or.comm
 simp only[zan] at c;rw[hv.2,c];simp
theorem zo4(x : yc)(l : List Int)(p : Int) : (ze1 x l p).length = l.length + 1 := by
 unfold ze1;refine za3 (fun i (v:List Int×Bool)=>v.1.length=i+(bif v.2 then 1 else 0)) (fun (r:List Int)=>r.length=l.length+1) vdj (fun i v next hi hv hn=>?_) (fun v hv=>?_)
 ·obtain ⟨w, d⟩ := v;refine zaj (p := fun (r : List Int) => r.length = l.length + 1) (fun c => hn _ ?_) (fun c => hn _ ?_)
  ·simp only [oc, not_t_iff] at c;simp only [c.1, oD] at hv;simp only [oh, oI, hv, oE]
  simp only at hv;simp only[oh,oI,hv];omega
 obtain⟨w,d⟩:=v;cases d
 ·simp only [Bool.not_false, oE, oh, oI]; simp only [oD] at hv; omega
 simp only[Bool.not_true,oD];simp only[oE] at hv;omega
def depN(d : List Int)(p : ya) : Int :=
  bif decide (0≤p.father) then(bif decide (0≤p.mother) then Max.max (d.getD p.father.toNat default+1) (d.getD p.mother.toNat default+1) else d.getD p.father.toNat default+1) else(bif decide (0≤p.mother) then Max.max 0 (d.getD p.mother.toNat default+1) else 0)
theorem zdy(x : yc) : zat x = (List.range' 0 x.people.length).foldl (fun v i => v ++ [depN v (x.people.getD i default)]) [] := by
 have e:=zq0 (fun i (v:List Int)=>v++[depN v (x.people.getD i default)]) (fun (v:List Int)=>v) x.people.length 0 [];rw[←e];unfold zat;congr 1;funext i v next
 unfold depN;cases decide (0≤(x.people.getD i default).father)<;>cases decide (0≤(x.people.getD i default).mother)<;>rfl
theorem zxz(l : List ya)(p : ya)(u u' : List yb) : zat ⟨l ++ [p], u⟩ = zat ⟨l, u'⟩ ++ [depN (zat ⟨l, u'⟩) p] := by
 rw[zdy, zdy];simp only[oh, oI];rw[List.range'_concat, List.foldl_append];simp only[Nat.one_mul, Nat.zero_add, List.foldl_cons, List.foldl_nil];have h : (List.range' 0 l.length).foldl (fun v i => v ++ [depN v ((l ++ [p]).getD i default)]) [] = (List.range' 0 l.length).foldl (fun v i => v ++ [depN v (l.getD i default)]) [] := by
  have : ∀(r : List Nat) (s : List Int), (∀i ∈ r, i < l.length) → r.foldl (fun v i => v ++ [depN v ((l ++ [p]).getD i default)]) s = r.foldl (fun v i => v ++ [depN v (l.getD i default)]) s := by
   intro r;induction r with
   |nil =>intro s _;rfl
   |cons a r ih =>intro s hr;simp only[List.foldl_cons];rw[zb8 (hr a vdj),ih _ fun i hi=>hr i (by simp[hi])]
  exact this _ _ fun i hi=>by have:=List.mem_range'_1.1 hi;omega
 rw[h,zhg rfl]
def dp(l:List ya)(k:Nat):Int:=(zat ⟨l,[]⟩).getD k default
theorem dp_of(l:List ya)(u:List yb)(k:Nat):(zat ⟨l,u⟩).getD k default=dp l k:=by unfold dp;rw[zdy,zdy]
theorem z4n(l:List ya):(zat ⟨l,[]⟩).length=l.length:=zes ⟨l,[]⟩
theorem dp_lt(l:List ya)(p:ya){k:Nat}(hk:k<l.length):dp (l++[p]) k=dp l k:=by unfold dp;rw[zxz l p [] [],zb8 (by rw[z4n];exact hk)]
theorem zv2(l:List ya)(p:ya){k:Nat}(hk:k=l.length):dp (l++[p]) k=depN (zat ⟨l,[]⟩) p:=by unfold dp;rw[zxz l p [] [],zhg (by rw[z4n];exact hk)]
def PaOk(l:List ya)(q s:Int)(n:Nat):Prop:=q=-1∨0≤q∧q<n∧(l.getD q.toNat default).sex=s
structure Mk(l : List ya) : Prop where
  len:l.length≤40
  name:∀k:Nat,k<l.length→(l.getD k default).name=za7 (k:Int)
  sex:∀k:Nat,k<l.length→1≤(l.getD k default).sex∧(l.getD k default).sex≤2
  died:∀k:Nat,k<l.length→(l.getD k default).died=-1
  fa:∀k:Nat,k<l.length→PaOk l (l.getD k default).father 1 k
  mo:∀k:Nat,k<l.length→PaOk l (l.getD k default).mother 2 k
  faB:∀k:Nat,k<l.length→0≤(l.getD k default).father→(l.getD (l.getD k default).father.toNat default).born<(l.getD k default).born
  moB:∀k:Nat,k<l.length→0≤(l.getD k default).mother→(l.getD (l.getD k default).mother.toNat default).born<(l.getD k default).born
  dep:∀k:Nat,k<l.length→0≤dp l k∧dp l k≤10
  born:∀k:Nat,k<l.length→0≤(l.getD k default).born∧(l.getD k default).born≤400
def MkB(l:List ya):Prop:=∀k:Nat,k<l.length→(l.getD k default).born≤11+30 * dp l k
theorem Mk.nil:Mk []:=⟨vdj,fun k hk=>absurd hk (oQ _),fun k hk=>absurd hk (oQ _),fun k hk=>absurd hk (oQ _),fun k hk=>absurd hk (oQ _),fun k hk=>absurd hk (oQ _),fun k hk=>absurd hk (oQ _),fun k hk=>absurd hk (oQ _),fun k hk=>absurd hk (oQ _),fun k hk=>absurd hk (oQ _)⟩
theorem MkB.nil:MkB []:=fun k hk=>absurd hk (oQ _)
theorem zv3{l:List ya}{p:ya}{D:Int}(hD:0≤D)(hl:∀k:Nat,k<l.length→0≤dp l k)(hf:p.father=-1∨0≤p.father∧p.father<l.length∧dp l p.father.toNat<D)(hm:p.mother=-1∨0≤p.mother∧p.mother<l.length∧dp l p.mother.toNat<D):0≤depN (zat ⟨l,[]⟩) p∧depN (zat ⟨l,[]⟩) p≤D∧(0≤p.father→dp l p.father.toNat+1≤depN (zat ⟨l,[]⟩) p)∧(0≤p.mother→dp l p.mother.toNat+1≤depN (zat ⟨l,[]⟩) p):=by have h1:0≤p.father→0≤dp l p.father.toNat:=fun h=>hl _ vdh;have h2:0≤p.mother→0≤dp l p.mother.toNat:=fun h=>hl _ vdh;unfold depN;show 0≤(bif decide (0≤p.father) then(bif decide (0≤p.mother) then Max.max (dp l p.father.toNat+1) (dp l p.mother.toNat+1) else dp l p.father.toNat+1) else(bif decide (0≤p.mother) then Max.max 0 (dp l p.mother.toNat+1) else 0))∧_;change _∧(bif decide (0≤p.father) then(bif decide (0≤p.mother) then Max.max (dp l p.father.toNat+1) (dp l p.mother.toNat+1) else dp l p.father.toNat+1) else(bif decide (0≤p.mother) then Max.max 0 (dp l p.mother.toNat+1) else 0))≤D∧(_→_≤(bif decide (0≤p.father) then(bif decide (0≤p.mother) then Max.max (dp l p.father.toNat+1) (dp l p.mother.toNat+1) else dp l p.father.toNat+1) else(bif decide (0≤p.mother) then Max.max 0 (dp l p.mother.toNat+1) else 0)))∧(_→_≤(bif decide (0≤p.father) then(bif decide (0≤p.mother) then Max.max (dp l p.father.toNat+1) (dp l p.mother.toNat+1) else dp l p.father.toNat+1) else(bif decide (0≤p.mother) then Max.max 0 (dp l p.mother.toNat+1) else 0)));cases c1:decide (0≤p.father)<;>cases c2:decide (0≤p.mother)<;>simp only[oE,oD]<;>simp only[ob,oa] at c1 c2<;>omega
theorem Mk.snoc{l : List ya}(h : Mk l){p : ya}(hl : l.length < 40)(hn : p.name = za7 (l.length : Int))(hs : 1 ≤ p.sex ∧ p.sex ≤ 2)(hd : p.died = -1)(hb : 0 ≤ p.born ∧ p.born ≤ 400)(hf : PaOk l p.father 1 l.length)(hm : PaOk l p.mother 2 l.length)(hfb : 0 ≤ p.father → (l.getD p.father.toNat default).born < p.born ∧ dp l p.father.toNat < 10)(hmb : 0 ≤ p.mother → (l.getD p.mother.toNat default).born < p.born ∧ dp l p.mother.toNat < 10) : Mk (l ++ [p]) := by
 have step : ∀{P : Nat → Prop}, (∀k, k < l.length → P k) → P l.length → ∀k, k < (l ++ [p]).length → P k := fun h1 h2 k hk => by
  rcases o0 k l.length with e | e
  ·exact h1 k e
  have e2:k=l.length:=by simp at hk;omega
  rw[e2];exact h2
 have g0:(l++[p]).getD l.length default=p:=zhg rfl;have par:∀{q s:Int} {n:Nat},n≤l.length→PaOk l q s n→PaOk (l++[p]) q s n:=fun hn hq=>hq.imp id fun hq=>⟨hq.1,hq.2.1,by rw[zb8 vdh];exact hq.2.2⟩;refine⟨vc8,step (fun k hk=>by rw[zb8 hk];exact h.name k hk) (by rw[g0];exact hn),step (fun k hk=>by rw[zb8 hk];exact h.sex k hk) (by rw[g0];exact hs),step (fun k hk=>by rw[zb8 hk];exact h.died k hk) (by rw[g0];exact hd),step (fun k hk=>by rw[zb8 hk];exact par vdh (h.fa k hk)) (by rw[g0];exact par (oz _) hf),step (fun k hk=>by rw[zb8 hk];exact par vdh (h.mo k hk)) (by rw[g0];exact par (oz _) hm),step (fun k hk h0=>?_) ?_,step (fun k hk h0=>?_) ?_,step (fun k hk=>by rw[dp_lt l p hk];exact h.dep k hk) ?_,step (fun k hk=>by rw[zb8 hk];exact h.born k hk) (by rw[g0];exact hb)⟩
 ·rw [zb8 hk] at h0 ⊢;rcases h.fa k hk with e | e
  ·omega
  rw[zb8 vdh];exact h.faB k hk h0
 ·rw [g0]; intro h0;rcases hf with e | e
  ·omega
  rw[zb8 vdh];exact(hfb h0).1
 ·rw [zb8 hk] at h0 ⊢;rcases h.mo k hk with e | e
  ·omega
  rw[zb8 vdh];exact h.moB k hk h0
 ·rw [g0]; intro h0;rcases hm with e | e
  ·omega
  rw[zb8 vdh];exact(hmb h0).1
 rw[zv2 l p rfl];have:=zv3 (l:=l) (p:=p) (D:=10) vdh (fun k hk=>(h.dep k hk).1) (hf.imp id fun e=>⟨e.1,e.2.1,(hfb e.1).2⟩) (hm.imp id fun e=>⟨e.1,e.2.1,(hmb e.1).2⟩);exact⟨this.1,this.2.1⟩
theorem zz9{p:ya}{l:List ya}{u:List yb}{q:Int}:q∈zam ⟨[p],u⟩ 0↔(0≤p.father∧q=p.father)∨(0≤p.mother∧q=p.mother):=by unfold zam;have e:([p]:List ya).getD (Int.toNat 0) default=p:=rfl;simp only[e];cases c1:decide (0≤p.father)<;>cases c2:decide (0≤p.mother)<;>simp only[oE,oD]<;>simp only[ob,oa] at c1 c2<;>simp[c1,c2]
theorem Mk.grow{l : List ya}(h : Mk l)(hB : MkB l)(hl : l.length < 40){s f m b0 b d0 : Int}{n0 : List UInt8}{u : List yb}(hs : 1 ≤ s ∧ s ≤ 2)(hf : PaOk l f 1 l.length)(hm : PaOk l m 2 l.length)(hfd : 0 ≤ f → dp l f.toNat < 10)(hmd : 0 ≤ m → dp l m.toNat < 10)(hb0 : 0 ≤ b)(hb : b ≤ 11 ∨ ∃q ∈ zam ⟨[⟨n0, s, f, m, b0, d0⟩], u⟩ 0, b ≤ (l.getD q.toNat default).born + 30)(hp : ∀q ∈ zam ⟨[⟨n0, s, f, m, b0, d0⟩], u⟩ 0, (l.getD q.toNat default).born < b) : Mk (l ++ [⟨za7 (l.length : Int), s, f, m, b, -1⟩]) ∧ MkB (l ++ [⟨za7 (l.length : Int), s, f, m, b, -1⟩]) := by
 simp only[zz9 (l := l)] at hb hp;have hd := zv3 (l := l) (p := ⟨za7 (l.length : Int), s, f, m, b, -1⟩) (D := 10) vdh (fun k hk => (h.dep k hk).1) (hf.imp id fun e => ⟨e.1, e.2.1, hfd e.1⟩) (hm.imp id fun e => ⟨e.1, e.2.1, hmd e.1⟩);simp only at hd;have hb2 : b ≤ 11 + 30 * depN (zat ⟨l, []⟩) ⟨za7 (l.length : Int), s, f, m, b, -1⟩ := by
  rcases hb with e | ⟨q,hq,e⟩
  ·omega
  rcases hq with⟨h0,rfl⟩ | ⟨h0,rfl⟩
  ·rcases hf with e2 | e2
   ·omega
   have:=hB q.toNat vdh;have:=hd.2.2.1 h0;omega
  rcases hm with e2 | e2
  ·omega
  have:=hB q.toNat vdh;have:=hd.2.2.2 h0;omega
 refine⟨h.snoc hl rfl hs rfl ⟨hb0,show b≤400 by omega⟩ hf hm (fun h0=>⟨hp f (.inl ⟨h0,rfl⟩),hfd h0⟩) (fun h0=>⟨hp m (.inr ⟨h0,rfl⟩),hmd h0⟩),fun k hk=>?_⟩;rcases o0 k l.length with e | e
 ·rw [zb8 e, dp_lt l _ e]; exact hB k e
 have e2:k=l.length:=by simp at hk;omega
 rw[zhg e2,zv2 l _ e2];exact hb2
structure Dying(l : List ya)(v : List ya) : Prop where
  len:v.length=l.length
  same:∀k:Nat,k<l.length→(v.getD k default).name=(l.getD k default).name∧(v.getD k default).sex=(l.getD k default).sex∧(v.getD k default).father=(l.getD k default).father∧(v.getD k default).mother=(l.getD k default).mother∧(v.getD k default).born=(l.getD k default).born
  died:∀k:Nat,k<l.length→(v.getD k default).died=-1∨(l.getD k default).born≤(v.getD k default).died∧(v.getD k default).died≤500∧∀c:Nat,c<l.length→(l.getD c default).father=k∨(l.getD c default).mother=k→(l.getD c default).born≤(v.getD k default).died
theorem Dying.refl{l:List ya}(h:Mk l):Dying l l:=⟨rfl,fun k hk=>⟨rfl,rfl,rfl,rfl,rfl⟩,fun k hk=>.inl (h.died k hk)⟩
theorem Dying.set{l v : List ya}(h : Dying l v){k : Nat}(hk : k < l.length){y : Int}(h1 : (l.getD k default).born ≤ y ∧ y ≤ 500)(h2 : ∀c : Nat, c < l.length → (l.getD c default).father = k ∨ (l.getD c default).mother = k → (l.getD c default).born ≤ y) : Dying l (v.set k ⟨(v.getD k default).name, (v.getD k default).sex, (v.getD k default).father, (v.getD k default).mother, (v.getD k default).born, y⟩) := by
 refine⟨by simp[h.len],fun i hi=>?_,fun i hi=>?_⟩
 ·rw [zbc];split
  ·rename_i e; rw [e.1]; exact h.same k hk
  exact h.same i hi
 rw[zbc];split
 ·rename_i e; rw [e.1]; exact .inr ⟨h1.1, h1.2, h2⟩
 exact h.died i hi
theorem zun:((List.range 40).all fun k=>zb7 (za7 (k:Int))&&(List.range 40).all fun j=>(j==k)||(za7 (j:Int) != za7 (k:Int)))=true:=by kernel_rfl
theorem zv9{k:Nat}(h:k<40):zb7 (za7 (k:Int))=true:=by have:=o4.1 zun k (oX.2 h);rw[oc] at this;exact this.1
theorem zy8{j k : Nat}(h1 : j < 40)(h2 : k < 40)(h : j ≠ k) : za7 (j : Int) ≠ za7 (k : Int) := by
 have:=o4.1 zun k (oX.2 h2);rw[oc] at this;have:=o4.1 this.2 j (oX.2 h1);simp only[oj,beq_iff_eq,bne_iff_ne] at this;rcases this with e | e
 ·exact absurd e h
 exact e
theorem z3l{l v : List ya}(u : List yb)(hl : v.length = l.length)(h : ∀k : Nat, k < l.length → (v.getD k default).father = (l.getD k default).father ∧ (v.getD k default).mother = (l.getD k default).mother) : zat ⟨v, u⟩ = zat ⟨l, []⟩ := by
 rw[zdy, zdy];simp only[hl];have : ∀(r : List Nat) (s : List Int), (∀i ∈ r, i < l.length) → r.foldl (fun w i => w ++ [depN w (v.getD i default)]) s = r.foldl (fun w i => w ++ [depN w (l.getD i default)]) s := by
  intro r;induction r with
  |nil =>intro s _;rfl
  |cons a r ih =>intro s hr;simp only[List.foldl_cons];have e:depN s (v.getD a default)=depN s (l.getD a default):=(by unfold depN;rw[(h a (hr a vdj)).1,(h a (hr a vdj)).2]);rw[e,ih _ fun i hi=>hr i (by simp[hi])]
 exact this _ _ fun i hi=>by have:=List.mem_range'_1.1 hi;omega
theorem Dying.valid{l v : List ya}(h : Mk l)(hd : Dying l v) : zad ⟨v, []⟩ = true := by
 refine(zmg _).2 ⟨⟨by simp only[hd.len];exact h.len,vdj⟩,fun k hk=>?_,fun k hk=>?_,fun k hk=>absurd hk (oQ _)⟩
 ·simp only [hd.len] at hk;have hl := h.len;obtain ⟨e1, e2, e3, e4, e5⟩ := hd.same k hk;have hb := h.born k hk;refine ⟨?_, ?_, ?_, ?_, fun j hj => ?_, ?_, ?_⟩
  ·simp only [e1, h.name k hk]; exact zv9 vdh
  ·simp only [e2]; exact h.sex k hk
  ·simp only [e5]; omega
  ·simp only [e5]; exact (hd.died k hk).imp id fun e => ⟨e.1, vdh⟩
  ·simp only [e1, h.name k hk, (hd.same j vdh).1, h.name j vdh];exact zy8 vdh vdh vdh
  ·simp only [e3, e5];refine (h.fa k hk).imp id fun e => ?_;have hq : (l.getD k default).father.toNat < l.length := vdh;obtain ⟨f1, f2, f3, f4, f5⟩ := hd.same _ hq;refine ⟨e.1, e.2.1, by rw [f2]; exact e.2.2, by rw [f5]; exact h.faB k hk e.1, (hd.died _ hq).imp id fun g => ?_⟩;have := g.2.2 k hk (.inl vdh); omega
  simp only[e4,e5];refine(h.mo k hk).imp id fun e=>?_;have hq:(l.getD k default).mother.toNat<l.length:=vdh
  obtain⟨f1,f2,f3,f4,f5⟩:=hd.same _ hq;refine⟨e.1,e.2.1,by rw[f2];exact e.2.2,by rw[f5];exact h.moB k hk e.1,(hd.died _ hq).imp id fun g=>?_⟩;exact g.2.2 k hk (.inr vdh)
 simp only[hd.len] at hk;rw[z3l [] hd.len fun i hi=>⟨(hd.same i hi).2.2.1,(hd.same i hi).2.2.2.1⟩];exact(h.dep k hk).2
theorem mem4{n:Int}(h:n∈([1,7,20,25]:List Int)):1≤n∧n≤25:=vcj
theorem mem3b{n:Int}(h:n∈([3,5,9]:List Int)):1≤n∧n≤9:=vcj
theorem mem5b{n:Int}(h:n∈([0,1,5,30,60]:List Int)):0≤n∧n≤60:=vcj
def PaDp(l:List ya)(q s:Int):Prop:=PaOk l q s l.length∧(0≤q→dp l q.toNat<10)
def Born(l:List ya)(ps:List Int)(i:Nat)(b:Int):Prop:=0≤b∧(b≤11∨∃q∈ps,b≤(l.getD q.toNat default).born+30)∧∀j:Nat,j<i→(l.getD (ps.getD j default).toNat default).born<b
def Last(l:List ya)(cs:List Int)(k i:Nat)(t:Int):Prop:=(l.getD k default).born≤t∧t≤400∧∀j:Nat,j<i→(l.getD (cs.getD j default).toNat default).born≤t
structure Gen(w g : Int)(l : List ya) : Prop where
  ok:Mk l
  gb:0≤g∧g≤10
  big:l≠[]→w≤l.length
  full:l≠[]→(l.getD ((l.length:Int) - w).toNat default).sex=1∧(l.getD ((l.length:Int) - w+1).toNat default).sex=2
  old:∀k:Nat,k<l.length→(l.getD k default).born≤25 * (11 - g)∧dp l k≤9 - g
structure GenI(w g : Int)(l0 : List ya)(i : Nat)(l : List ya) : Prop where
  ok:Mk l
  len:l.length=l0.length+i
  same:∀k:Nat,k<l0.length→l.getD k default=l0.getD k default∧dp l k=dp l0 k
  new:∀k:Nat,k<i→(l.getD (l0.length+k) default).sex=1+(k:Int).tmod 2∧(l.getD (l0.length+k) default).born=25 * (12 - g)∧dp l (l0.length+k)≤10 - g
theorem zse(l:List ya)(s:Int):PaDp l (-1) s:=⟨.inl rfl,fun h=>absurd h vdh⟩
theorem zrr{c : yd}(h : CurOk c){l : List ya}(hk : Mk l)(u : List yb)(s : Int) : CurOk ⟨c.b, (zbs c ⟨l, u⟩ (zat ⟨l, u⟩) s).2.1, (zbs c ⟨l, u⟩ (zat ⟨l, u⟩) s).2.2⟩ ∧ PaDp l (zbs c ⟨l, u⟩ (zat ⟨l, u⟩) s).1 s := by
 have h9:=zo1 h (f:=⟨l,u⟩) (d:=zat ⟨l,u⟩) hk.len s;refine⟨h9.2,h9.1.imp id fun e=>⟨e.1,e.2.1,e.2.2.1⟩,fun h0=>?_⟩;rcases h9.1 with e | e
 ·omega
 rw[←dp_of l u];exact e.2.2.2
theorem Mk.par{l : List ya}(h : Mk l)(u : List yb) : ∀k : Nat, k < (yc.mk l u).people.length → ((yc.mk l u).people.getD k default).father < k ∧ ((yc.mk l u).people.getD k default).mother < k := fun k hk => by
  have h1:=h.fa k hk;have h2:=h.mo k hk
  unfold PaOk at h1 h2
  dsimp only
  omega
theorem born0{l:List ya}{ps:List Int}{b:Int}(h:0≤b∧b≤11):Born l ps 0 b:=⟨h.1,.inl h.2,fun j hj=>absurd hj (oQ _)⟩
theorem zh8{ps:List Int}{j:Nat}(h:j<ps.length):ps.getD j default∈ps:=zbf h
theorem zz8{l:List ya}{f m s b d:Int}{n:List UInt8}{u:List yb}{j:Nat}(hf:PaDp l f 1)(hm:PaDp l m 2)(hj:j<(zam ⟨[⟨n,s,f,m,b,d⟩],u⟩ 0).length):0≤(zam ⟨[⟨n,s,f,m,b,d⟩],u⟩ 0).getD j default∧(zam ⟨[⟨n,s,f,m,b,d⟩],u⟩ 0).getD j default<l.length:=by have h:=(zz9 (l:=l)).1 (zh8 hj);have h1:=hf.1;have h2:=hm.1;unfold PaOk at h1 h2;rcases h with⟨h0,e⟩ | ⟨h0,e⟩<;>rw[e]<;>simp only at h0 ⊢<;>omega
theorem zw3{l:List ya}(hk:Mk l){f m s b d:Int}{n:List UInt8}{u:List yb}{j:Nat}(hf:PaDp l f 1)(hm:PaDp l m 2)(hj:j<(zam ⟨[⟨n,s,f,m,b,d⟩],u⟩ 0).length):0≤(l.getD ((zam ⟨[⟨n,s,f,m,b,d⟩],u⟩ 0).getD j default).toNat default).born∧(l.getD ((zam ⟨[⟨n,s,f,m,b,d⟩],u⟩ 0).getD j default).toNat default).born≤400:=by have h:=zz8 hf hm hj;exact hk.born _ vdh
theorem zuq{l : List ya}{ps : List Int}{i : Nat}{b st x : Int}(h : Born l ps i b)(hi : i < ps.length)(hs : 1 ≤ st ∧ st ≤ 25)(hx : 0 ≤ x ∧ x < 6) : Born l ps (i + 1) (Max.max b ((l.getD (ps.getD i default).toNat default).born + st + x)) := by
 refine⟨by have:=h.1;omega,?_,fun j hj=>?_⟩
 ·rcases h.2.1 with e | ⟨q, hq, e⟩
  ·by_cases c : b ≤ (l.getD (ps.getD i default).toNat default).born + st + x
   ·exact .inr ⟨_, zh8 hi, vdh⟩
   exact .inl vdh
  by_cases c:b≤(l.getD (ps.getD i default).toNat default).born+st+x
  ·exact .inr ⟨_, zh8 hi, vdh⟩
  exact .inr ⟨q,hq,vdh⟩
 rcases o0 j i with e | e
 ·have := h.2.2 j e; omega
 have e2:j=i:=vdh
 rw[e2];omega
theorem zx1{l : List ya}{ps : List Int}{b : Int}(h : Born l ps ps.length b) : ∀q ∈ ps, (l.getD q.toNat default).born < b := fun q hq => by
  obtain⟨i,hi,e⟩:=oZ hq
  have:=h.2.2 i hi
  rw[show ps.getD i default=q by rw[oi,ol hi,Option.getD_some,e]] at this
  exact this
theorem last0{l v:List ya}{cs:List Int}{k:Nat}(hk:Mk l)(hd:Dying l v)(h:k<l.length):Last v cs k 0 (v.getD k default).born:=⟨Int.le_refl _,by rw[(hd.same k h).2.2.2.2];exact(hk.born k h).2,fun j hj=>absurd hj (oQ _)⟩
theorem zv0{l v:List ya}(hk:Mk l)(hd:Dying l v){k:Nat}(h:k<v.length):0≤(v.getD k default).born∧(v.getD k default).born≤400:=by have h':k<l.length:=(by rw[←hd.len];exact h);rw[(hd.same k h').2.2.2.2];exact hk.born k h'
theorem zty{v : List ya}{cs : List Int}{k i : Nat}{t : Int}(h : Last v cs k i t)(hb : (v.getD (cs.getD i default).toNat default).born ≤ 400) : Last v cs k (i + 1) (Max.max t (v.getD (cs.getD i default).toNat default).born) := by
 refine⟨by have:=h.1;omega,by have:=h.2.1;omega,fun j hj=>?_⟩;rcases o0 j i with e | e
 ·have := h.2.2 j e; omega
 have e2:j=i:=vdh
 rw[e2];omega
theorem z0u{l v:List ya}{cs:List Int}{k i:Nat}{t:Int}(hk:Mk l)(hd:Dying l v)(h:k<l.length)(hl:Last v cs k i t):0≤t∧t≤400:=by have:=hl.1;have:=hl.2.1;have:=zv0 hk hd (k:=k) (by rw[hd.len];exact h);omega
theorem Dying.names{l v : List ya}(hk : Mk l)(hd : Dying l v) : ∀p ∈ v, p.name.length ≤ 1048576 := fun p hp => by
  obtain⟨i,hi,e⟩:=oZ hp
  have h':i<l.length:=by rw[←hd.len];exact hi
  have h1:=(hd.same i h').1
  rw[hk.name i h',oi,ol hi,Option.getD_some,e] at h1
  rw[h1];simp[za7]
theorem Gen.nil{w g:Int}(h:0≤g∧g≤10):Gen w g []:=⟨Mk.nil,h,fun h=>absurd rfl h,fun h=>absurd rfl h,fun k hk=>absurd hk (oQ _)⟩
theorem Gen.start{w g:Int}{l:List ya}(h:Gen w g l):GenI w g l 0 l:=⟨h.ok,rfl,fun k hk=>⟨rfl,rfl⟩,fun k hk=>absurd hk (oQ _)⟩
theorem GenI.step{w g : Int}{l0 l : List ya}{i : Nat}(hg : Gen w g l0)(h : GenI w g l0 i l)(hg0 : 0 < g)(hw : 2 ≤ w ∧ w ≤ 3)(hn : (l0.length : Int) + w ≤ 40)(hi : i < w.toNat){f m : Int}(hf : f = -1 ∨ 0 < l0.length ∧ f = (l0.length : Int) - w)(hm : m = -1 ∨ 0 < l0.length ∧ m = (l0.length : Int) - w + 1) : GenI w g l0 (i + 1) (l ++ [⟨za7 ((l0.length : Int) + (i : Int)), 1 + (i : Int).tmod 2, f, m, 25 * (12 - g), -1⟩]) := by
 have hl:=h.len;have hgb:=hg.gb;have he:((l0.length:Int)+(i:Int))=(l.length:Int):=vdh
 have ht:(i:Int).tmod 2=(i:Int) % 2:=Int.tmod_eq_emod_of_nonneg vdh;have hne:0<l0.length→l0≠[]:=fun h e=>by rw[e] at h;exact absurd h vdj
 have pf : PaOk l f 1 l.length ∧ (0 ≤ f → (l.getD f.toNat default).born < 25 * (12 - g) ∧ dp l f.toNat ≤ 9 - g) := by
  rcases hf with e | ⟨e0,e⟩
  ·exact ⟨.inl e, fun h => absurd h vdh⟩
  have hb:=hg.big (hne e0);have hs:=h.same f.toNat vdh;have ho:=hg.old f.toNat vdh;refine⟨.inr ⟨vdh,vdh,?_⟩,fun _=>⟨?_,?_⟩⟩
  ·rw [hs.1, e]; exact (hg.full (hne e0)).1
  ·rw [hs.1]; omega
  rw[hs.2];exact ho.2
 have pm : PaOk l m 2 l.length ∧ (0 ≤ m → (l.getD m.toNat default).born < 25 * (12 - g) ∧ dp l m.toNat ≤ 9 - g) := by
  rcases hm with e | ⟨e0,e⟩
  ·exact ⟨.inl e, fun h => absurd h vdh⟩
  have hb:=hg.big (hne e0);have hs:=h.same m.toNat vdh;have ho:=hg.old m.toNat vdh;refine⟨.inr ⟨vdh,vdh,?_⟩,fun _=>⟨?_,?_⟩⟩
  ·rw [hs.1, e]; exact (hg.full (hne e0)).2
  ·rw [hs.1]; omega
  rw[hs.2];exact ho.2
 have hmk:Mk (l++[⟨za7 ((l0.length:Int)+(i:Int)),1+(i:Int).tmod 2,f,m,25 * (12 - g),-1⟩]):=h.ok.snoc vdh (by rw[he]) (by simp only[ht];omega) rfl vcV pf.1 pm.1 (fun h0=>⟨(pf.2 h0).1,by have:=(pf.2 h0).2;simp only at this ⊢;omega⟩) (fun h0=>⟨(pm.2 h0).1,by have:=(pm.2 h0).2;simp only at this ⊢;omega⟩);refine⟨hmk,by simp[hl];omega,fun k hk=>⟨by rw[zb8 vdh];exact(h.same k hk).1,by rw[dp_lt _ _ vdh];exact(h.same k hk).2⟩,fun k hk=>?_⟩;rcases o0 k i with e | e
 ·rw [zb8 vdh, dp_lt _ _ vdh]; exact h.new k e
 have e2:k=i:=vdh
 subst e2;rw[zhg vdh,zv2 _ _ vdh];have:=zv3 (l:=l) (p:=⟨za7 ((l0.length:Int)+(k:Int)),1+(k:Int).tmod 2,f,m,25 * (12 - g),-1⟩) (D:=10 - g) vdh (fun k hk=>(h.ok.dep k hk).1) (pf.1.imp id fun e=>⟨e.1,e.2.1,by have:=(pf.2 e.1).2;simp only at this ⊢;omega⟩) (pm.1.imp id fun e=>⟨e.1,e.2.1,by have:=(pm.2 e.1).2;simp only at this ⊢;omega⟩);exact⟨rfl,rfl,this.2.1⟩
theorem GenI.done{w g : Int}{l0 l : List ya}(hg : Gen w g l0)(h : GenI w g l0 w.toNat l)(hg0 : 0 < g)(hw : 2 ≤ w ∧ w ≤ 3) : Gen w (g - 1) l := by
 have hl:=h.len;have hgb:=hg.gb;have n0:=h.new 0 vdh;have n1:=h.new 1 vdh;refine⟨h.ok,vdh,fun _=>by omega,fun _=>⟨?_,?_⟩,fun k hk=>?_⟩
 ·rw [show ((l.length : Int) - w).toNat = l0.length + 0 by omega]; exact n0.1
 ·rw [show ((l.length : Int) - w + 1).toNat = l0.length + 1 by omega]; exact n1.1
 rcases o0 k l0.length with e | e
 ·have hs := h.same k e; have ho := hg.old k e;rw [hs.1, hs.2]; omega
 have hn:=h.new (k - l0.length) vdh;rw[show l0.length+(k - l0.length)=k by omega] at hn;omega
def C92(R:(List Int)):LV×List (Nat×BC):=(.own 0,[(0,.arr 1 R.length (rowOf (cInt .i64) R))])
def zap(x0:yc)(x1:Int):(List Int):=loopN (fun i1 (v1:(List Int)) next=>bif((decide (((x0.people.getD i1 default).father)=x1))||(decide (((x0.people.getD i1 default).mother)=x1))) then(next (ze1 x0 v1 ((i1:Nat):Int))) else(next v1)) (fun (v1:(List Int))=>v1) x0.people.length 0 ([]:List Int)
def D92b1(i1:Nat)(v1:(List Int)):Dl:=⟨[(12,.int .i64 ((i1:Nat):Int)),(5,.own 20005)],[(20005,.arr 1 v1.length (rowOf (cInt .i64) v1))]⟩
def A92b1(x0:yc)(x1:Int)(i1:Nat)(v1:(List Int)):Ann:=let q1:=((i1:Nat):Int);let q3:=((x0.people.length:Nat):Int);let q2:=((x0.people.getD i1 default).father)=x1;r0 1 [1,2,4,5,10,11,12,13] [2,20005] (cn (decide (q1<q3)) (.reg 2 [] [] [1,2,4,5,6,10,11,12,26] [2,20005] [!(decide q2),decide q2] [pf (0≤(q1:Int)∧(q1:Int)<q3)] [] [0,1,1,1,6] (cn ((decide q2)||(decide (((x0.people.getD i1 default).mother)=x1))) (.reg 1 [] [(3,k108 x0 v1 q1)] [1,2,4,5,10,11,12] [2,1030] [] [] [] [0] (r1 1 [1,2,4,5,10,11,12] [2,1030] [pf (inR .i64 (q1+1))] [0] (.next 0 [(20005,some 1030)] (D92b1 (i1+1) (ze1 x0 v1 q1))))) (r1 1 [1,2,4,5,10,11,12] [2,20005] [pf (inR .i64 (q1+1))] [0] (.next 0 [(20005,some 20005)] (D92b1 (i1+1) v1))))) (r0 1 [4] [20005] (rt [(0,some 20005)] (C92 v1))))
def A92(x0:yc)(x1:Int):Ann:=.reg 2 [] [(1000,bsC 8 (cInt .i64) ([]:List Int))] [1,2,4,5] [2,8] [] [] [] [0] (r0 1 [1,2,4,5,10,11,12] [2,8] (lp (D92b1) [] [8] [(20005,some 8)] (D92b1 0 ([]:List Int)) (A92b1 x0 x1)))
theorem zkx(x0 : yc)(x1 : Int)(hx : x0.people.length ≤ 1048576) : FnT Tryz.prog 92 [.agg (zaw false x0), .int .i64 x1] (C92 (zap x0 x1)) := by
 have aux : ∀R, zap x0 x1 = R → slim (C92 R) (A92 x0 x1) [] := by
  intro R hR;refine rg ⟨trivial,trivial⟩ ?_;refine rT ?_;refine lN (fun i v=>v.length≤i∧∀y∈v,0≤y∧y<x0.people.length) vbz rfl (fun i1 v1 F1 hn1 hI1 hR hK1=>?_) hR;refine rT ?_;refine⟨fun hc1=>?_,fun hc1=>?_⟩
  ·have hii1 : i1 < x0.people.length := vcH;replace hR := zai hR hii1;refine rg ⟨vc4, trivial⟩ ?_;refine cd (fun hc2 hR => ?_) (fun hc2 hR => ?_) hR
   ·refine rg ⟨⟨vdg, by (exact hI1.2), vc4, vc4⟩, trivial⟩ ?_;refine rg ⟨vcq, trivial⟩ ?_;exact hK1 (ze1 x0 v1 ((i1 : Nat) : Int)) hii1 (by (refine ⟨by (rw [zo4]; omega), fun y hy => ?_⟩; exact Or.elim ((zo3 _ _ _ y).1 hy) (fun h9 => vdh) (fun h9 => hI1.2 y h9))) hR
   refine rg ⟨vcx,trivial⟩ ?_;exact hK1 v1 hii1 vbz hR
  obtain rfl:i1=x0.people.length:=by have:=oB hc1;omega
  replace hR:=zaq hR (oR _);refine rT ?_;exact oe C92 hR
 exact Fn.go 33 Tryz.func92 zaa zaa (by simp[C92,Frs,FrsL,FrsB,rowOf,cInt,cBool,cStr,cSl,zbd,zah,zas,zaw,cDyad,cLaw,zcc]) (A92 x0 x1) zaa (aux _ rfl)
def k92(x0:yc)(x1:Int):Cl:=(hres (C92 (zap x0 x1)),k1 (zkx x0 x1))
theorem zfo(x : yc)(p y : Int) : y ∈ zap x p ↔ ∃c : Nat, c < x.people.length ∧ y = c ∧ ((x.people.getD c default).father = p ∨ (x.people.getD c default).mother = p) := by
 unfold zap;refine za3 (fun i (v:List Int)=>y∈v↔∃c:Nat,c<i∧y=c∧((x.people.getD c default).father=p∨(x.people.getD c default).mother=p)) (fun (r:List Int)=>y∈r↔∃c:Nat,c<x.people.length∧y=c∧((x.people.getD c default).father=p∨(x.people.getD c default).mother=p)) vdj (fun i v next hi hv hn=>?_) (fun v hv=>hv);refine zaj (p:=fun (r:List Int)=>y∈r↔∃c:Nat,c<x.people.length∧y=c∧((x.people.getD c default).father=p∨(x.people.getD c default).mother=p)) (fun c=>hn _ ?_) (fun c=>hn _ ?_)
 ·simp only [oj, ob] at c;rw [zo3, hv];constructor
  ·rintro (h | ⟨d, h1, h2, h3⟩)
   ·exact ⟨i, vdh, h, c⟩
   exact⟨d,vdh,h2,h3⟩
  rintro⟨d,h1,h2,h3⟩;by_cases e:d=i
  ·exact .inl (by rw [h2, e])
  exact .inr ⟨d,vdh,h2,h3⟩
 simp only[zar,oa] at c;rw[hv];constructor
 ·rintro ⟨d, h1, h2, h3⟩; exact ⟨d, vdh, h2, h3⟩
 rintro⟨d,h1,h2,h3⟩;by_cases e:d=i
 ·subst e; exact absurd h3 (by rintro (q | q); exact c.1 q; exact c.2 q)
 exact⟨d,vdh,h2,h3⟩
theorem zg8{x:yc}{p:Int}{j:Nat}(h:j<(zap x p).length):0≤(zap x p).getD j default∧(zap x p).getD j default<x.people.length:=by obtain⟨c,h1,h2,_⟩:=(zfo x p _).1 (zh8 h);rw[h2];omega
theorem zha(x:yc)(p:Int):(zap x p).length≤x.people.length:=by unfold zap;refine za3 (fun i (v:List Int)=>v.length≤i) (fun (r:List Int)=>r.length≤x.people.length) vdj (fun i v next hi hv hn=>?_) (fun v hv=>hv);exact zaj (p:=fun (r:List Int)=>r.length≤x.people.length) (fun _=>hn _ (by rw[zo4];omega)) (fun _=>hn _ vdh)
theorem z4o{l v:List ya}(hk:Mk l)(hd:Dying l v){k:Nat}(h:k<l.length){u:List yb}{t x:Int}(hl:Last v (zap ⟨v,u⟩ (k:Int)) k (zap ⟨v,u⟩ (k:Int)).length t)(hx:0≤x∧x≤60):Dying l (v.set k ⟨(v.getD k default).name,(v.getD k default).sex,(v.getD k default).father,(v.getD k default).mother,(v.getD k default).born,t+x⟩):=by have hb:=z0u hk hd h hl;have hs:=hd.same k h;refine hd.set h ⟨by have:=hl.1;rw[hs.2.2.2.2] at this;omega,vdh⟩ fun c hc hp=>?_;have hsc:=hd.same c hc;have hm:((c:Int))∈zap ⟨v,u⟩ (k:Int):=(zfo _ _ _).2 ⟨c,by simp only[hd.len];exact hc,rfl,by rw[hsc.2.2.1,hsc.2.2.2.1];exact hp⟩;obtain⟨i,hi,e⟩:=oZ hm;have:=hl.2.2 i hi;rw[show(zap ⟨v,u⟩ (k:Int)).getD i default=(c:Int) by rw[oi,ol hi,Option.getD_some,e],Int.toNat_natCast,hsc.2.2.2.2] at this;omega
end Go.Proofs.YtnibbmmljamolaaGreat
