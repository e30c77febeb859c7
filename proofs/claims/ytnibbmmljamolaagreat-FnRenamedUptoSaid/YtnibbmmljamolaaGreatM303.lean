import Derived.Test.YtnibbmmljamolaaGreatRX1
set_option maxHeartbeats 4000000
set_option linter.unusedSimpArgs false
set_option linter.unusedVariables false
namespace Go.Proofs.YtnibbmmljamolaaGreat
open Go Go.Lite Go.Proofs
theorem zxe{S : Type}(p : Nat → S → Bool)(g : Nat → S → S)(st : Nat → S)(hs : ∀i, st (i + 1) = g i (st i)) : ∀m i, loopN (fun i (v : S) next => bif p i v then false else next (g i v)) (fun _ => true) m i (st i) = true ↔ ∀j, i ≤ j → j < i + m → p j (st j) = false
  |0,i=>by simp only[loopN,true_iff];intro j h1 h2;omega
  |m + 1, i => by
    simp only[loopN]
    rw[←hs i]
    cases hp:p i (st i) with
    |true =>
      simp only[oE]
      exact⟨fun h=>vdf,fun h=>(by have:=h i (oz _) vdh;rw[hp] at this;cases this)⟩
    |false =>
      simp only[oD]
      rw[zxe p g st hs m (i+1)]
      refine⟨fun h j h1 h2=>?_,fun h j h1 h2=>h j vdh vdh⟩
      by_cases e:j=i
      · rw [e];exact hp
      · exact h j vdh vdh
def sexAt(e : Int)(l : List yi) : Nat → Int
  |0=>e
  |i+1=>l3Sex (l.getD i default).kind
theorem zja(t : yj) : zbl t = true ↔ (0 ≤ t.ego ∧ t.ego ≤ 2) ∧ t.steps.length ≤ 8 ∧ ∀i, i < t.steps.length → zjz (t.steps.getD i default) (sexAt t.ego t.steps i) = true := by
 have e:=zxe (fun i (v:Int)=>!(zjz (t.steps.getD i default) v)) (fun i _=>l3Sex (t.steps.getD i default).kind) (sexAt t.ego t.steps) (fun i=>rfl) t.steps.length 0;unfold zbl;cases c:((!(l1In t.ego 0 2))||(decide (8<((t.steps.length:Nat):Int)))) with
 |true =>simp only[oE];simp only[oj,od,ob,l1In,Bool.and_eq_false_iff,oa] at c;exact⟨fun h=>vdf,fun h=>vdh⟩
 |false =>
  simp only[oD];simp only[Bool.or_eq_false_iff,Bool.not_eq_false',oa,l1In,oc,ob] at c;refine e.trans ⟨fun h=>⟨c.1,vdh,fun i hi=>?_⟩,fun h j _ hj=>?_⟩
  ·have := h i (Nat.zero_le _) vdh;simpa using this
  have:=h.2.2 j vdh;simpa using this
theorem zyi(e : Int)(l : List yi)(s : yi){i : Nat}(h : i ≤ l.length) : sexAt e (l ++ [s]) i = sexAt e l i := by
 cases i with
 |zero =>rfl
 |succ i =>simp only[sexAt];rw[zb8 vdh]
theorem zzj{e : Int}{l : List yi}{s : yi}(h : zbl ⟨e, l⟩ = true)(hl : l.length ≤ 7)(hs : ∀x, zjz s x = true) : zbl ⟨e, l ++ [s]⟩ = true := by
 obtain⟨h1,h2,h3⟩:=(zja _).1 h;refine(zja _).2 ⟨h1,vcD,fun i hi=>?_⟩;simp only[oh,oI] at hi;dsimp only at h3 ⊢;rw[zyi e l s vdh];by_cases c:i<l.length
 ·rw [zb8 c]; exact h3 i c
 rw[zhg vdh];exact hs _
theorem zw9{t : yj}(ht : zbl t = true)(h : t.steps.length ≤ 7) : ((zby t).length ≤ 8 ∧ 0 < (zby t).length) ∧ ∀u ∈ zby t, zbl u = true ∧ u.steps.length = t.steps.length + 1 := by
 unfold zby;refine za8 (fun (v:List yj×Int)=>(1≤v.2∧v.2≤9)∧((v.1.length:Nat):Int)≤v.2 - 1∧(∀u∈v.1,zbl u=true∧u.steps.length=t.steps.length+1)∧(1<v.2→0<v.1.length)) (fun v=>((9:Int) - v.2).toNat) (fun (r:List yj)=>(r.length≤8∧0<r.length)∧∀u∈r,zbl u=true∧u.steps.length=t.steps.length+1) (fun v next hv hn=>?_) _ _ vcT ⟨vcT,vdj,fun u hu=>absurd hu Oa,fun h=>absurd h (by decide)⟩;obtain⟨l,k⟩:=v;obtain⟨h1,h2,h3,h4⟩:=hv;dsimp only at h1 h2 h3 h4 hn ⊢;cases c:decide (k≤8) with
 |false =>have c:=oB c;rw[oD];exact⟨⟨vdh,h4 vdh⟩,h3⟩
 |true =>
  have c:=om c;rw[oE];refine zaj (p:=fun (r:List yj)=>(r.length≤8∧0<r.length)∧∀u∈r,zbl u=true∧u.steps.length=t.steps.length+1) (fun c2=>hn _ ⟨vcT,vcD,fun u hu=>?_,fun _=>vdj⟩ vcT) (fun c2=>hn _ ⟨vcT,vcT,h3,fun _=>?_⟩ vcT)
  ·rcases List.mem_append.1 hu with hu | hu
   ·exact h3 u hu
   rw[oT.1 hu];exact⟨c2,vdj⟩
  by_cases e:1<k
  ·exact h4 e
  obtain rfl:k=1:=by omega
  rw[zzj ht h (fun x=>by simp[zjz,l1In])] at c2;cases c2
theorem z5h{t:yj}(ht:zbl t=true)(h:t.steps.length≤7){i:Nat}(hi:i<(zby t).length):zbl ((zby t).getD i default)=true∧((zby t).getD i default).steps.length=t.steps.length+1:=(zw9 ht h).2 _ (zbf hi)
theorem z2m{e : Int}{l : List yi}{k : Nat}{a : Int}(h : zbl ⟨e, l⟩ = true)(hk : k < l.length)(hs : (l.getD k default).kind = 3 ∨ (l.getD k default).kind = 4)(ha : 0 ≤ a ∧ a ≤ 2) : zbl ⟨e, l.set k ⟨(l.getD k default).kind, a⟩⟩ = true := by
 obtain⟨h1,h2,h3⟩:=(zja _).1 h;dsimp only at h1 h2 h3;have hg:∀i,(l.set k ⟨(l.getD k default).kind,a⟩).getD i default=if k=i then⟨(l.getD k default).kind,a⟩ else l.getD i default:=fun i=>by simp only[oi,List.getElem?_set,hk,if_true];split<;>simp
 have hx : ∀i, sexAt e (l.set k ⟨(l.getD k default).kind, a⟩) i = sexAt e l i := fun i => by
  cases i with
  |zero =>rfl
  |succ i =>
   simp only[sexAt];rw[hg];split
   ·rename_i q; subst q; rfl
   rfl
 refine(zja _).2 ⟨h1,vc0,fun i hi=>?_⟩;dsimp only;rw[hx,hg];split
 ·rename_i q; subst q;generalize (l.getD k default).kind = K at hs ⊢;unfold zjz;have e1 : l1In K 1 8 = true := by simp only [l1In, oc, ob]; omega
  have e2:l1In a 0 2=true:=by simp only[l1In,oc,ob];omega
  rcases hs with rfl | rfl<;>simp[e1,e2]
 have hi:i<l.length:=by simpa using hi
 exact h3 i hi
structure DrwOk(b : List Int)(k e : Int)(s : List yi)(i h : Int) : Prop where
  ok:zbl ⟨e,s⟩=true
  cnt:k≤8∧(0≤k→((s.length:Nat):Int)+k≤8)
  cur:CurOk ⟨b,i,h⟩
theorem zxx{c:yd}(hc:CurOk c){k i h:Int}(hj:(0≤k∧k≤8)∧CurOk ⟨c.b,i,h⟩):DrwOk c.b k (zae c 3).1 [] i h:=⟨(zja _).2 ⟨(by have:=(za1 hc (n:=3) vdh).1;dsimp only;omega),Nat.zero_le _,fun i hi=>absurd hi (oQ _)⟩,⟨hj.1.2,fun _=>(by simp only[oC];omega)⟩,hj.2⟩
structure TyJ(b : List Int)(k i h e : Int)(s : List yi) : Prop where
  ok:zbl ⟨e,s⟩=true
  cnt:k≤8∧0<s.length∧((s.length:Nat):Int)+k≤9
  cur:CurOk ⟨b,i,h⟩
theorem DrwOk.len{b:List Int}{k e:Int}{s:List yi}{i h:Int}(H:DrwOk b k e s i h)(hk:0<k):s.length≤7:=by have:=H.cnt;omega
theorem DrwOk.more{b:List Int}{k e:Int}{s:List yi}{i h:Int}(H:DrwOk b k e s i h)(hk:0<k):(zby ⟨e,s⟩).length≤8∧0<(zby ⟨e,s⟩).length:=(zw9 H.ok (H.len hk)).1
theorem DrwOk.idx{b:List Int}{k e:Int}{s:List yi}{i h:Int}(H:DrwOk b k e s i h)(hk:0<k):0≤(zae ⟨b,i,h⟩ (((zby ⟨e,s⟩).length:Nat):Int)).1∧(zae ⟨b,i,h⟩ (((zby ⟨e,s⟩).length:Nat):Int)).1<(((zby ⟨e,s⟩).length:Nat):Int):=by have h1:=H.more hk;have h2:=(za1 H.cur (n:=(((zby ⟨e,s⟩).length:Nat):Int)) vdh).1;exact⟨h2.1,h2.2.2 vdh⟩
theorem DrwOk.step{b:List Int}{k e:Int}{s:List yi}{i h:Int}(H:DrwOk b k e s i h)(hk:0<k):TyJ b k (zae ⟨b,i,h⟩ (((zby ⟨e,s⟩).length:Nat):Int)).2.1 (zae ⟨b,i,h⟩ (((zby ⟨e,s⟩).length:Nat):Int)).2.2 ((zby ⟨e,s⟩).getD (zae ⟨b,i,h⟩ (((zby ⟨e,s⟩).length:Nat):Int)).1.toNat default).ego ((zby ⟨e,s⟩).getD (zae ⟨b,i,h⟩ (((zby ⟨e,s⟩).length:Nat):Int)).1.toNat default).steps:=by have h1:=H.more hk;have h2:=(za1 H.cur (n:=(((zby ⟨e,s⟩).length:Nat):Int)) vdh).2;have h3:=H.idx hk;have h4:=z5h H.ok (H.len hk) (i:=(zae ⟨b,i,h⟩ (((zby ⟨e,s⟩).length:Nat):Int)).1.toNat) vdh;have h5:=H.cnt;dsimp only at h4;exact⟨h4.1,⟨h5.1,by rw[h4.2];omega,by rw[h4.2];omega⟩,h2⟩
theorem TyJ.plain{b:List Int}{k i h e:Int}{s:List yi}(H:TyJ b k i h e s){i2 h2:Int}(hc:CurOk ⟨b,i2,h2⟩):DrwOk b (k - 1) e s i2 h2:=⟨H.ok,⟨(by have:=H.cnt;omega),fun _=>(by have:=H.cnt;omega)⟩,hc⟩
theorem TyJ.aged{b:List Int}{k i h e:Int}{s:List yi}(H:TyJ b k i h e s){i2 h2:Int}(hc:CurOk ⟨b,i2,h2⟩)(hs:(s.getD (((s.length:Nat):Int) - 1).toNat default).kind=3∨(s.getD (((s.length:Nat):Int) - 1).toNat default).kind=4):DrwOk b (k - 1) e (s.set (((s.length:Nat):Int) - 1).toNat ⟨(s.getD (((s.length:Nat):Int) - 1).toNat default).kind,1+(zae ⟨b,i2,h2⟩ 2).1⟩) (zae ⟨b,i2,h2⟩ 2).2.1 (zae ⟨b,i2,h2⟩ 2).2.2:=by have h1:=za1 hc (n:=2) vdh;have h2:=H.cnt;exact⟨z2m H.ok vdh hs vdh,⟨vdh,fun _=>by rw[Ob];omega⟩,h1.2⟩
def C27(x0:yd)(x1:Int)(R:yj×Int×Int):LV×List (Nat×BC):=(.agg [.int .i64 R.1.ego,.own 0],[(900000,.var [.ro false 1 x0.b.length (rowOf (cInt .u8) x0.b),.int .i64 R.2.1,.int .i64 R.2.2]),(0,.arr 2 R.1.steps.length (rowOf (cStep true) R.1.steps))])
def zo0(x0:yd)(x1:Int):yj×Int×Int:=jn (fun K1=>K1 ((zae (yd.mk x0.b ((zae x0 3).2.1) ((zae x0 3).2.2)) (x1+1)).1,(zae (yd.mk x0.b ((zae x0 3).2.1) ((zae x0 3).2.2)) (x1+1)).2.1,(zae (yd.mk x0.b ((zae x0 3).2.1) ((zae x0 3).2.2)) (x1+1)).2.2)) (fun (j1:Int×Int×Int)=>loopW (fun (v1:Int×Int×(List yi)×Int×Int) next=>bif(decide (0<v1.1)) then(jn (fun K2=>K2 ((zae (yd.mk x0.b v1.2.2.2.1 v1.2.2.2.2) (((zby (yj.mk v1.2.1 v1.2.2.1)).length:Nat):Int)).2.1,(zae (yd.mk x0.b v1.2.2.2.1 v1.2.2.2.2) (((zby (yj.mk v1.2.1 v1.2.2.1)).length:Nat):Int)).2.2,((zby (yj.mk v1.2.1 v1.2.2.1)).getD (((zae (yd.mk x0.b v1.2.2.2.1 v1.2.2.2.2) (((zby (yj.mk v1.2.1 v1.2.2.1)).length:Nat):Int)).1).toNat) default).ego,((zby (yj.mk v1.2.1 v1.2.2.1)).getD (((zae (yd.mk x0.b v1.2.2.2.1 v1.2.2.2.2) (((zby (yj.mk v1.2.1 v1.2.2.1)).length:Nat):Int)).1).toNat) default).steps)) (fun (j2:Int×Int×Int×(List yi))=>jn (fun K3=>bif((decide (((j2.2.2.2.getD ((((j2.2.2.2.length:Nat):Int) - 1).toNat) default).kind)=3))||(decide (((j2.2.2.2.getD ((((j2.2.2.2.length:Nat):Int) - 1).toNat) default).kind)=4))) then(K3 (((decide (((j2.2.2.2.getD ((((j2.2.2.2.length:Nat):Int) - 1).toNat) default).kind)=3))||(decide (((j2.2.2.2.getD ((((j2.2.2.2.length:Nat):Int) - 1).toNat) default).kind)=4)))&&((zax (yd.mk x0.b j2.1 j2.2.1) 3).1),(zax (yd.mk x0.b j2.1 j2.2.1) 3).2.1,(zax (yd.mk x0.b j2.1 j2.2.1) 3).2.2)) else(K3 (((decide (((j2.2.2.2.getD ((((j2.2.2.2.length:Nat):Int) - 1).toNat) default).kind)=3))||(decide (((j2.2.2.2.getD ((((j2.2.2.2.length:Nat):Int) - 1).toNat) default).kind)=4)))&&true,j2.1,j2.2.1))) (fun (j3:Bool×Int×Int)=>bif j3.1 then(next (v1.1 - 1,j2.2.2.1,(j2.2.2.2.set ((((j2.2.2.2.length:Nat):Int) - 1).toNat) (yi.mk ((j2.2.2.2.getD ((((j2.2.2.2.length:Nat):Int) - 1).toNat) default).kind) (1+((zae (yd.mk x0.b j3.2.1 j3.2.2) 2).1)))),(zae (yd.mk x0.b j3.2.1 j3.2.2) 2).2.1,(zae (yd.mk x0.b j3.2.1 j3.2.2) 2).2.2)) else(next (v1.1 - 1,j2.2.2.1,j2.2.2.2,j3.2.1,j3.2.2))))) else((yj.mk v1.2.1 v1.2.2.1),v1.2.2.2.1,v1.2.2.2.2)) (Int.toNat (j1.1)+1) (j1.1,(zae x0 3).1,([]:List yi),j1.2.1,j1.2.2))
def D27j1(x0:yd)(j1:Int×Int×Int):Dl:=⟨[(6,.int .i64 j1.1)],[(900000,.var [.ro false 1 x0.b.length (rowOf (cInt .u8) x0.b),.int .i64 j1.2.1,.int .i64 j1.2.2])]⟩
def D27b1(x0:yd)(v1:Int×Int×(List yi)×Int×Int):Dl:=⟨[(6,.int .i64 v1.1)],[(30501,.arr 2 v1.2.2.1.length (rowOf (cStep true) v1.2.2.1)),(5,.var [.int .i64 v1.2.1,.own 30501]),(900000,.var [.ro false 1 x0.b.length (rowOf (cInt .u8) x0.b),.int .i64 v1.2.2.2.1,.int .i64 v1.2.2.2.2])]⟩
def D27j2(x0:yd)(j2:Int×Int×Int×(List yi)):Dl:=⟨[],[(40501,.arr 2 j2.2.2.2.length (rowOf (cStep true) j2.2.2.2)),(900000,.var [.ro false 1 x0.b.length (rowOf (cInt .u8) x0.b),.int .i64 j2.1,.int .i64 j2.2.1]),(5,.var [.int .i64 j2.2.2.1,.own 40501])]⟩
def D27j3(x0:yd)(j3:Bool×Int×Int):Dl:=⟨[(47,.bool j3.1)],[(900000,.var [.ro false 1 x0.b.length (rowOf (cInt .u8) x0.b),.int .i64 j3.2.1,.int .i64 j3.2.2])]⟩
def A27j3(x0:yd)(v1:Int×Int×(List yi)×Int×Int)(j2:Int×Int×Int×(List yi))(j3:Bool×Int×Int):Ann:=let q2:=((j2.2.2.2.length:Nat):Int);let q3:=zae (yd.mk x0.b j3.2.1 j3.2.2) 2;let q4:=j2.2.2.2.getD ((q2 - 1).toNat) default;let q1:=j2.2.2.2.set ((q2 - 1).toNat) (yi.mk (q4.kind) (1+(q3.1)));let q5:=rowOf (cStep true) q1;cn j3.1 (.reg 1 [] [(7,k57 55 [900000] (yd.mk x0.b j3.2.1 j3.2.2) 2),(11,stP 40501 (cStep true) j2.2.2.2.length j2.2.2.2 j2.2.2.2 ((q2 - 1).toNat) 1 [.int .i64 (1+(q3.1))] (yi.mk (q4.kind) (1+(q3.1))) q4 (.inr ⟨rfl,rfl⟩) rfl)] [0,4,5,6] [4,5,40501,900000] [] [pf (inR .i64 (q2 - 1)),pf (inR .i64 (1+(q3.1))),pf (0≤(q2 - 1:Int)∧(q2 - 1:Int)<q2)] [] [0,12,4,8,16] (r1 1 [0,4,5,6] [4,5,40501,900000] [pf (inR .i64 (v1.1 - 1))] [0] (.co false 40501 (q1.length) q5 [lnP q5 j2.2.2.2.length (q1.length)] [] 0 (.next 0 [(30501,some 40501)] (D27b1 x0 (v1.1 - 1,j2.2.2.1,q1,q3.2.1,q3.2.2)))))) (r1 1 [0,4,5,6] [4,5,40501,900000] [pf (inR .i64 (v1.1 - 1))] [0] (.next 0 [(30501,some 40501)] (D27b1 x0 (v1.1 - 1,j2.2.2.1,j2.2.2.2,j3.2.1,j3.2.2))))
def A27j2(x0:yd)(v1:Int×Int×(List yi)×Int×Int)(j2:Int×Int×Int×(List yi)):Ann:=let q4:=yd.mk x0.b j2.1 j2.2.1;let q3:=((j2.2.2.2.length:Nat):Int);let q5:=zax q4 3;let q1:=(j2.2.2.2.getD ((q3 - 1).toNat) default).kind;let q2:=(decide (q1=3))||(decide (q1=4));r1 1 [0,4,5,6,8] [4,5,40501,900000] [pf (inR .i64 (q3 - 1)),pf (0≤(q3 - 1:Int)∧(q3 - 1:Int)<q3)] [0,4] (.join 0 (Bool×Int×Int) (D27j3 x0) [0,4,5,6] [900000,4,5,40501] (.split q2 (.reg 1 [] [(8,cT (k56 46 [900000] q4 3))] [0,4,5,6,47] [4,5,40501,900000] [!(decide (q1=3)),decide (q1=3)] [pf (q2=true)] [] [1,6,0,0,4] (.next 0 [] (D27j3 x0 (q2&&(q5.1),q5.2.1,q5.2.2)))) (.reg 1 [(8,.gF)] [] [0,4,5,6,47] [4,5,40501,900000] [!(decide (q1=3)),decide (q1=3)] [pf (q2=false),gt q2 (pf (false=true))] [] [1,6,0,4] (.next 0 [] (D27j3 x0 (q2&&true,j2.1,j2.2.1))))) (A27j3 x0 v1 j2))
def A27b1(x0:yd)(x1:Int)(v1:Int×Int×(List yi)×Int×Int):Ann:=let q3:=yj.mk v1.2.1 v1.2.2.1;let q4:=(((zby q3).length:Nat):Int);let q1:=zae (yd.mk x0.b v1.2.2.2.1 v1.2.2.2.2) q4;let q2:=(zby q3).getD ((q1.1).toNat) default;r0 1 [0,4,5,6,17] [4,5,30501,900000] (cn (decide (0<v1.1)) (.reg 1 [] [(1,k58 q3)] [0,4,5,6,7] [4,5,1021,30501,900000] [] [] [] [0] (.join 0 (Int×Int×Int×(List yi)) (D27j2 x0) [0,4,5,6] [900000,4,5] (.reg 1 [] [(4,k57 26 [900000] (yd.mk x0.b v1.2.2.2.1 v1.2.2.2.2) q4),(6,wEl 2 zgw (zby q3) ((q1.1).toNat) [.int .i64 (q2.ego)] ((q2.steps).length) (rowOf (cStep true) (q2.steps)) vdj rfl)] [0,4,5,6] [4,5,28,900000] [] [pf (0≤(q1.1:Int)∧(q1.1:Int)<q4)] [] [4,0,8] (.next 0 [(40501,some 28)] (D27j2 x0 (q1.2.1,q1.2.2,q2.ego,q2.steps)))) (A27j2 x0 v1))) (r0 1 [4] [4,30501,900000] (rt [(900000,some 900000),(0,some 30501)] (C27 x0 x1 (q3,v1.2.2.2.1,v1.2.2.2.2)))))
def A27j1(x0:yd)(x1:Int)(j1:Int×Int×Int):Ann:=.loop (Int×Int×(List yi)×Int×Int) (D27b1 x0) [] [] [(30501,none)] (D27b1 x0 (j1.1,(zae x0 3).1,([]:List yi),j1.2.1,j1.2.2)) (A27b1 x0 x1)
def A27(x0:yd)(x1:Int):Ann:=let q1:=yd.mk x0.b ((zae x0 3).2.1) ((zae x0 3).2.2);let q2:=zae q1 (x1+1);r0 1 [0,1,4] [4,900000] (.reg 1 [] [(1,k57 10 [900000] x0 3)] [0,1,4,5] [4,5,900000] [] [] [] [0] (.join 1 (Int×Int×Int) (D27j1 x0) [0,4,5] [900000,4,5] (.reg 1 [] [(3,k57 15 [900000] q1 (x1+1))] [0,4,5,6] [4,5,900000] [] [pf (inR .i64 (x1+1))] [] [0,4] (.next 0 [] (D27j1 x0 (q2.1,q2.2.1,q2.2.2)))) (A27j1 x0 x1)))
theorem zpv(x0 : yd)(x1 : Int)(hc : CurOk x0)(hn : 0 ≤ x1 ∧ x1 ≤ 8) : FnMT Tryz.prog 27 [.vp 900000 0, .int .i64 x1] [.var [.ro false 1 x0.b.length (rowOf (cInt .u8) x0.b), .int .i64 x0.i, .int .i64 x0.h]] (C27 x0 x1 (zo0 x0 x1)) := by
 have aux : ∀R, zo0 x0 x1 = R → slim (C27 x0 x1 R) (A27 x0 x1) [] := by
  intro R hR;refine rT ?_;refine rg ⟨⟨vcA,vc6⟩,trivial⟩ ?_;refine jN (fun v=>(0≤v.1∧v.1≤8)∧CurOk ⟨x0.b,v.2.1,v.2.2⟩) (fun F101 hR hJ101=>?_) (fun j1 hR hJ1=>?_) hR
  ·refine rg ⟨vcq, ⟨by (with_reducible exact (za1 hc (n := 3) vdh).2), vc4⟩, trivial⟩ ?_;exact hJ101 _ hR (by ((have h9 := za1 (za1 hc (n := 3) vdh).2 (n := x1 + 1) vdh; exact ⟨⟨h9.1.1, vdh⟩, h9.2⟩)))
  refine lW (fun v=>DrwOk x0.b v.1 v.2.1 v.2.2.1 v.2.2.2.1 v.2.2.2.2) (fun v=>Int.toNat (v.1)) (by(exact zxx hc hJ1)) (oH _) rfl (fun m1 v1 F1 hI1 hM1 hR hK1=>?_) hR;refine rT ?_;refine cd (fun hc1 hR=>?_) (fun hc1 hR=>?_) hR
  ·refine rg ⟨by ((have h9 := hI1.len (om hc1); exact Nat.le_trans h9 vdh)), trivial⟩ ?_;refine jN (fun v => TyJ x0.b v1.1 v.1 v.2.1 v.2.2.1 v.2.2.2) (fun F102 hR hJ102 => ?_) (fun j2 hR hJ2 => ?_) hR
   ·refine rg ⟨by (with_reducible exact hI1.idx (om hc1)), ⟨by (with_reducible exact hI1.cur), by ((have h9 := hI1.more (om hc1); omega))⟩, trivial, trivial⟩ ?_;exact hJ102 _ hR (by (exact hI1.step (om hc1)))
   refine rg ⟨vaK,by((have h9:=hJ2.cnt;(try simp only[inR]);omega)),trivial⟩ ?_;refine jN (fun v=>(v.1=true→(j2.2.2.2.getD ((((j2.2.2.2.length:Nat):Int) - 1).toNat) default).kind=3∨(j2.2.2.2.getD ((((j2.2.2.2.length:Nat):Int) - 1).toNat) default).kind=4)∧CurOk ⟨x0.b,v.2.1,v.2.2⟩) (fun F103 hR hJ103=>?_) (fun j3 hR hJ3=>?_) hR
   ·refine cd (fun hs2 hR => ?_) (fun hs2 hR => ?_) hR
    ·refine rg ⟨vcA, ⟨by (with_reducible exact hJ2.cur), vc4⟩, trivial⟩ ?_;exact hJ103 _ hR (by ((exact ⟨fun h => (by simpa using (Bool.and_eq_true_iff.1 h).1), zb2 hJ2.cur vdh⟩)))
    refine rg ⟨vcA,by((try clear hR hK1 hJ103);intros;(try simp only[ob,oa,oj,oc,zar,zan,not_t_iff,od,inR] at *);(repeat' apply And.intro)<;>(intros;omega)),trivial⟩ ?_;exact hJ103 _ hR (by((refine⟨fun h=>?_,hJ2.cur⟩;simp_all;done)))
   refine cd (fun hc3 hR=>?_) (fun hc3 hR=>?_) hR
   ·refine rg ⟨vaG, by ((have h9 := (za1 hJ3.2 (n := 2) vdh).1; (try simp only [inR]); omega)), by ((have h9 := hJ2.cnt; (try simp only [inR]); omega)), ⟨by (with_reducible exact hJ3.2), vc4⟩, by ((have h9 := hJ2.cnt; (try simp only [inR]); omega)), trivial⟩ ?_;refine rg ⟨vaG, trivial⟩ ?_;refine og vda ?_;exact hK1 (v1.1 - 1, j2.2.2.1, (j2.2.2.2.set ((((j2.2.2.2.length : Nat) : Int) - 1).toNat) (yi.mk ((j2.2.2.2.getD ((((j2.2.2.2.length : Nat) : Int) - 1).toNat) default).kind) (1 + ((zae (yd.mk x0.b j3.2.1 j3.2.2) 2).1)))), (zae (yd.mk x0.b j3.2.1 j3.2.2) 2).2.1, (zae (yd.mk x0.b j3.2.1 j3.2.2) 2).2.2) (by (exact hJ2.aged hJ3.2 (hJ3.1 hc3))) (by ((have h9 := om hc1; have h8 := hM1; dsimp only at h8 ⊢; omega))) hR
   refine rg ⟨vaK,trivial⟩ ?_;exact hK1 (v1.1 - 1,j2.2.2.1,j2.2.2.2,j3.2.1,j3.2.2) (by(exact hJ2.plain hJ3.2)) (by((have h9:=om hc1;have h8:=hM1;dsimp only at h8 ⊢;omega))) hR
  refine rT ?_;exact oe (C27 x0 x1) hR
 exact FnM.go 60 Tryz.func27 zaa zaa (A27 x0 x1) zaa (aux _ rfl)
def k27(d:Nat)(ids:List Nat)(x0:yd)(x1:Int):Cl:=(hresM d ids (C27 x0 x1 (zo0 x0 x1)),k2 (zpv x0 x1))
def C11(R:yj):LV×List (Nat×BC):=(.agg [.int .i64 R.ego,.own 0],[(0,.arr 2 R.steps.length (rowOf (cStep true) R.steps))])
def mkAny(x0:List Int)(x1:Int):yj:=((zo0 (zft x0) (Max.max 0 (Min.min x1 8))).1)
def A11(x0:List Int)(x1:Int):Ann:=let q1:=Max.max 0 (Min.min x1 8);.reg 2 [] [(1001,k26 6 [] x0),(1005,k27 10 [1006] (zft x0) q1)] [4] [4,1010] [] [] [] [0,4] (rt [(0,some 1010)] (C11 ((zo0 (zft x0) q1).1)))
theorem zj6(x0:List Int)(x1:Int)(hx:x0.length≤1048576)(hb:∀y∈x0,0≤y∧y≤255):FnT Tryz.prog 11 [.ro false 1 x0.length (rowOf (cInt .u8) x0),.int .i64 x1] (C11 (mkAny x0 x1)):=by have aux:∀R,mkAny x0 x1=R→slim (C11 R) (A11 x0 x1) []:=(by intro R hR;refine rg ⟨⟨vdg,vdg⟩,⟨by(exact zgl hb hx),vc6⟩,trivial⟩ ?_;exact oe C11 hR);exact Fn.go 11 Tryz.func11 zaa zaa (by simp[C11,Frs,FrsL,FrsB,rowOf,cInt,cBool,cStr,cSl,zbd,zah,zas,zaw,cDyad,cLaw,zcc,zcq,ze6,zdu,cStep,zc7,zbn]) (A11 x0 x1) zaa (aux _ rfl)
def k11(x0:List Int)(x1:Int):Cl:=(hres (C11 (mkAny x0 x1)),k2 (zj6 x0 x1))
structure Ren(f g : yc) : Prop where
  len:g.people.length=f.people.length
  un:g.unions=f.unions
  at_:∀i,∃s,g.people.getD i default=⟨s,(f.people.getD i default).sex,(f.people.getD i default).father,(f.people.getD i default).mother,(f.people.getD i default).born,(f.people.getD i default).died⟩
theorem Ren.eqs{f g:yc}(h:Ren f g):(∀i,(g.people.getD i default).sex=(f.people.getD i default).sex)∧(∀i,(g.people.getD i default).father=(f.people.getD i default).father∧(g.people.getD i default).mother=(f.people.getD i default).mother)∧∀i,(g.people.getD i default).born=(f.people.getD i default).born∧(g.people.getD i default).died=(f.people.getD i default).died:=by refine⟨fun i=>?_,fun i=>?_,fun i=>?_⟩<;>obtain⟨s,e⟩:=h.at_ i<;>simp only[e,and_self]
theorem z44{f g : yc}(h : Ren f g)(hg : zbh g = zbh f) : (∀a b, za9 g a b = za9 f a b) ∧ (∀t, zeo g t = zeo f t) ∧ (∀l a b y, zdm g l a b y = zdm f l a b y) ∧ (∀c a y, zbz g c a y = zbz f c a y) ∧ (∀a y, zbt g a y = zbt f a y) := by
 obtain⟨h3,h4,h5⟩:=h.eqs;obtain⟨h1,h2,_⟩:=h;have:∀i y,zdc (g.people.getD i default) y=zdc (f.people.getD i default) y:=by intros;simp only[zdc, *]
 have:∀a,zco g a=zco f a:=by intros;simp only[zco, *]
 have:∀a,zav g a=zav f a:=by intros;simp only[zav, *]
 have:∀a,za5 g a=za5 f a:=by intros;simp only[za5, *]
 have:∀a b,zaf g a b=zaf f a b:=by intros;simp only[zaf, *]
 have:∀a b,zf2 g a b=zf2 f a b:=by intros;simp only[zf2, *]
 have:∀a b,zcp g a b=zcp f a b:=by intros;simp only[zcp, *]
 have:∀a b,zdd g a b=zdd f a b:=by intros;simp only[zdd, *]
 have : ∀m a b c, za2 m ⟨g, a⟩ b c = za2 m ⟨f, a⟩ b c := by
  intro m;induction m with
  |zero =>intros;rfl
  |succ m ih =>intros;simp only[za2, *]
 have:∀a b c,zia ⟨g,a⟩ b c=zia ⟨f,a⟩ b c:=by intros;simp only[zia, *]
 have:∀a b,za9 g a b=za9 f a b:=by intros;simp only[za9, *]
 have:∀a,zf4 g a=zf4 f a:=by intros;simp only[zf4, *]
 have:∀a b,up g a b=up f a b:=by intros;simp only[up, *]
 have:∀a b,zd8 g a b=zd8 f a b:=by intros;simp only[zd8, *]
 have:∀a b,ze4 g a b=ze4 f a b:=by intros;simp only[ze4, *]
 have:∀a b c,zfp g a b c=zfp f a b c:=by intros;simp only[zfp, *]
 have:∀a b c d,ze2 g a b c d=ze2 f a b c d:=by intros;simp only[ze2, *]
 have:∀a b c d,zdn g a b c d=zdn f a b c d:=by intros;simp only[zdn, *]
 have:∀a b c d,zdm g a b c d=zdm f a b c d:=by intros;simp only[zdm, *]
 have:∀a b,zag g a b=zag f a b:=by intros;simp only[zag, *]
 have:∀a b c,zal a b g c=zal a b f c:=by intros;simp only[zal, *]
 have:∀a b c,zdz ⟨g,a⟩ b c=zdz ⟨f,a⟩ b c:=by intros;simp only[zdz, *]
 have:∀a b c d,zb3 ⟨g,a⟩ b c d=zb3 ⟨f,a⟩ b c d:=by intros;simp only[zb3, *]
 have:∀a b c,zdf ⟨g,a⟩ b c=zdf ⟨f,a⟩ b c:=by intros;simp only[zdf, *]
 have:∀a b c d,zbi ⟨g,a⟩ b c d=zbi ⟨f,a⟩ b c d:=by intros;simp only[zbi, *]
 have:∀a b c d e,zcb ⟨g,a⟩ b c d e=zcb ⟨f,a⟩ b c d e:=by intros;simp only[zcb, *]
 have:∀a b c,zaz ⟨g,a⟩ b c=zaz ⟨f,a⟩ b c:=by intros;simp only[zaz, *]
 have:∀a b c,zbq ⟨g,a⟩ b c=zbq ⟨f,a⟩ b c:=by intros;simp only[zbq, *]
 have:∀a b c,zbw ⟨g,a⟩ b c=zbw ⟨f,a⟩ b c:=by intros;simp only[zbw, *]
 have:∀a b c,zb5 ⟨g,a⟩ b c=zb5 ⟨f,a⟩ b c:=by intros;simp only[zb5, *]
 have:∀a b c d,zeh ⟨g,a⟩ b c d=zeh ⟨f,a⟩ b c d:=by intros;simp only[zeh, *]
 have:∀a b c d,partE ⟨g,a⟩ b c d=partE ⟨f,a⟩ b c d:=by intros;simp only[partE, *]
 have:∀a b c,zdv ⟨g,a⟩ b c=zdv ⟨f,a⟩ b c:=by intros;simp only[zdv, *]
 have : ∀m a b c d, zey m ⟨g, a⟩ b c d = zey m ⟨f, a⟩ b c d := by
  intro m;induction m with
  |zero =>intros;rfl
  |succ m ih =>intros;simp only[zey, *]
 have:∀a b c d,pdqE ⟨g,a⟩ b c d=pdqE ⟨f,a⟩ b c d:=by intros;simp only[pdqE, *]
 have:∀a b,zjs ⟨g,a⟩ b=zjs ⟨f,a⟩ b:=by intros;simp only[zjs, *]
 have:∀a b c,zg2 ⟨g,a⟩ b c=zg2 ⟨f,a⟩ b c:=by intros;simp only[zg2, *]
 have:∀a b c d,pdqZ ⟨g,a⟩ b c d=pdqZ ⟨f,a⟩ b c d:=by intros;simp only[pdqZ, *]
 have:∀a b,zim ⟨g,a⟩ b=zim ⟨f,a⟩ b:=by intros;simp only[zim, *]
 have:∀a b,zbu g a b=zbu f a b:=by intros;simp only[zbu, *]
 have:∀a b,kidP a g b=kidP a f b:=by intros;simp only[kidP, *]
 have:∀a,zd1 g (g,a)=zd1 f (f,a):=by intros;simp only[zd1, *]
 have:∀a,zau g a=zau f a:=by intros;simp only[zau, *]
 have:∀a b,zcm a b g=zcm a b f:=by intros;simp only[zcm, *]
 have:∀a b,za6 g a b=za6 f a b:=by intros;simp only[za6, *]
 have:∀a b,zb1 g a b=zb1 f a b:=by intros;simp only[zb1, *]
 have : ∀m a b c d e i, zdg m ⟨g, a, b, c, d, e⟩ i = zdg m ⟨f, a, b, c, d, e⟩ i := by
  intro m;induction m with
  |zero =>intros;rfl
  |succ m ih =>intros;simp only[zdg, *]
 have:∀a b c d e i,below ⟨g,a,b,c,d,e⟩ i=below ⟨f,a,b,c,d,e⟩ i:=by intros;simp only[below, *]
 have:∀a b,wayUp g a b=wayUp f a b:=by intros;simp only[wayUp, *]
 have:∀a b c,zf9 g a b c=zf9 f a b c:=by intros;simp only[zf9,zbb, *]
 have:∀a b c,zbz g a b c=zbz f a b c:=by intros;simp only[zbz, *]
 have:∀a b c d e i,zba ⟨g,a,b,c,d,e⟩ i=zba ⟨f,a,b,c,d,e⟩ i:=by intros;simp only[zba, *]
 have:∀a b c d e,zcv ⟨g,a,b,c,d,e⟩=zcv ⟨f,a,b,c,d,e⟩:=by intros;simp only[zcv, *]
 have e_give : ∀m, (∀a b c d e i j k, zet m ⟨g, a, b, c, d, e⟩ i j k = zet m ⟨f, a, b, c, d, e⟩ i j k) ∧ ∀a b c d e i j k, zc2 m ⟨g, a, b, c, d, e⟩ i j k = zc2 m ⟨f, a, b, c, d, e⟩ i j k := by
  intro m;induction m with
  |zero =>exact⟨fun _ _ _ _ _ _ _ _=>rfl,fun _ _ _ _ _ _ _ _=>rfl⟩
  |succ m ih =>obtain⟨i1,i2⟩:=ih;constructor<;>intros<;>simp only[zet,zc2, *]
 have e_div:=fun m=>(e_give m).2;have:∀a b c d e i j k,zfx ⟨g,a,b,c,d,e⟩ i j k=zfx ⟨f,a,b,c,d,e⟩ i j k:=by intros;simp only[zfx, *]
 have:∀a b,zbt g a b=zbt f a b:=by intros;simp only[zbt, *]
 have:∀a b,zgp g a b=zgp f a b:=by intros;simp only[zgp, *]
 have:∀a b c,zge a b c g=zge a b c f:=by intros;simp only[zge, *]
 have:∀a b,zee a (b,g)=zee a (b,f):=by intros;simp only[zee, *]
 have:∀a b c d,zex a b g c d=zex a b f c d:=by intros;simp only[zex, *]
 have:∀a b c,zfm a (g,b,c)=zfm a (f,b,c):=by intros;simp only[zfm, *]
 have:∀a,zcd g a=zcd f a:=by intros;simp only[zcd, *]
 have:∀a,zeo g a=zeo f a:=by intros;simp only[zeo, *]
 refine⟨?_,?_,?_,?_,?_⟩<;>assumption
def nmAt(i:Nat):List UInt8:=[114]++(List.map Lite.byteOf ([((([113,119,101,114,116,121,117,105,111,112]:List UInt8).getD ((((i:Nat):Int).tmod 10).toNat) 0).toNat:Int),((([97,115,100,102,103,104,106,107,108]:List UInt8).getD (((((i:Nat):Int).tdiv 10).tmod 9).toNat) 0).toNat:Int)]:List Int))
def NmOk(i:Nat)(o:List (List UInt8)):Prop:=o=(List.range i).map nmAt
theorem NmOk.nil:NmOk 0 []:=rfl
theorem NmOk.next{i:Nat}{o:List (List UInt8)}(h:NmOk i o):NmOk (i+1) (o++[nmAt i]):=by unfold NmOk at *;rw[h,List.range_succ,List.map_append,List.map_singleton]
theorem nm_ok:∀i,i<40→zb7 (nmAt i)=true∧(nmAt i).length=3:=vc1
theorem z39:∀i,i<40→∀j,j<i→nmAt j≠nmAt i:=vc1
theorem NmOk.get{n:Nat}{o:List (List UInt8)}(h:NmOk n o){k:Nat}(hk:k<n):o.getD k default=nmAt k:=by rw[h,oi,List.getElem?_map,List.getElem?_range hk];rfl
theorem NmOk.len{n:Nat}{o:List (List UInt8)}(h:NmOk n o):o.length=n:=by rw[h];simp
theorem ren_ok{f : yc}(hf : zad f = true){v : List (List UInt8)}(hv : NmOk f.people.length v) : ∃g, renP f v = (g, true) ∧ Ren f g ∧ zad g = true ∧ ∀k, k < f.people.length → (g.people.getD k default).name = nmAt k := by
 have hn:=(fam_n hf).1;unfold renP;rw[zek,hf,hv.len,oM rfl];simp only[Bool.not_true,Bool.or_false,oD,zd4];refine za3 (fun i (p:List ya)=>p.length=f.people.length∧∀k,p.getD k default=bif decide (k<i) then(⟨nmAt k,(f.people.getD k default).sex,(f.people.getD k default).father,(f.people.getD k default).mother,(f.people.getD k default).born,(f.people.getD k default).died⟩:ya) else f.people.getD k default) (fun (r:yc×Bool)=>∃g,r=(g,true)∧Ren f g∧zad g=true∧∀k,k<f.people.length→(g.people.getD k default).name=nmAt k) ⟨rfl,fun k=>vdj⟩ (fun i p next hi hp hn2=>hn2 _ ⟨by rw[Ob];exact hp.1,fun k=>?_⟩) (fun p hp=>?_)
 ·rw [zbc, hp.2 i, hp.2 k, hv.get hi];simp only [oR, decide_false, oD];by_cases e : k = i
  ·subst e; rw [if_pos ⟨rfl, by have := hp.1; omega⟩, oM vdh, oE]
  rw[if_neg (fun h=>e h.1)];by_cases c:k<i
  ·rw [oM c, oM (show k < i + 1 by omega)]
  rw[oJ c,oJ (show ¬k<i+1 by omega)]
 have hr : Ren f (yc.mk p f.unions) := ⟨hp.1, rfl, fun k => by
   have h:=hp.2 k
   by_cases c:k<f.people.length
   · rw [oM c,oE] at h;exact ⟨_,h⟩
   · rw [oJ c,oD] at h;exact ⟨_,h⟩⟩
 have hm:∀k,k<f.people.length→((yc.mk p f.unions).people.getD k default).name=nmAt k:=fun k hk=>by show(p.getD k default).name=_;rw[hp.2 k,oM hk,oE]
 have hg : zad (yc.mk p f.unions) = true := by
  obtain⟨h1,h2,h3⟩:=hr.eqs;generalize yc.mk p f.unions=g at h1 h2 h3 hm hr;obtain⟨f1,f2,f3,f4⟩:=(zmg f).1 hf;refine(zmg g).2 ⟨by rw[hr.len,hr.un];exact f1,fun k hk=>?_,fun k hk=>?_,fun k hk=>?_⟩
  ·rw [hr.len] at hk;have q := f2 k hk;have hm2 := hm k hk;refine ⟨by rw [hm2]; exact (nm_ok k vdh).1, by simpa only [h1, h2, h3] using q.sex, by simpa only [h1, h2, h3] using q.born, by simpa only [h1, h2, h3] using q.died, fun j hj => ?_, by simpa only [h1, h2, h3] using q.fa, by simpa only [h1, h2, h3] using q.mo⟩;rw [hm2, hm j vdh]; exact z39 k vdh j hj
  ·rw [hr.len] at hk;have q := f3 k hk;simpa only [zat, hr.len, h1, h2, h3] using q
  rw[hr.un] at hk;have q:=f4 k hk;exact⟨by simpa only[hr.un,hr.len] using q.man,by simpa only[hr.un,hr.len] using q.woman,by simpa only[hr.un,h1] using q.msex,by simpa only[hr.un,h1] using q.wsex,by simpa only[hr.un,h3] using q.from0,by simpa only[hr.un] using q.to,by simpa only[hr.un,h3] using q.mdied,by simpa only[hr.un,h3] using q.wdied,by simpa only[hr.un] using q.uniq⟩
 refine⟨_,?_,hr,hg,hm⟩;rw[zek,hg];rfl
theorem z2y{f g : yc}(hg : zad g = true)(hl : g.people.length = f.people.length)(hm : ∀k, k < f.people.length → (g.people.getD k default).name = nmAt k){a : Int}(ha : 0 ≤ a ∧ a < f.people.length){v : List (List UInt8)}(hv : NmOk f.people.length v) : zd0 g (v.getD a.toNat default) = (a, true) := by
 have hn:=(fam_n hg).1;unfold zd0;rw[zek,hg,hv.get (show a.toNat<f.people.length by omega)];show(findP g (nmAt a.toNat))=_;unfold findP;refine za3 (fun i _=>(i:Int)≤a) (fun (r:Int×Bool)=>r=(a,true)) ha.1 (fun i v next hi hp hn2=>?_) (fun v hv=>by exfalso;omega);rw[hm i vdh];by_cases e:i=a.toNat
 ·rw [e, show (nmAt a.toNat == nmAt a.toNat) = true by simp, oE, show ((a.toNat : Nat) : Int) = a by omega]
 have h1:=z39 a.toNat vdh i vdh;rw[show(nmAt i==nmAt a.toNat)=false by simpa using h1,oD];exact hn2 _ vdh
theorem row_up {n : Nat} {l : List Int} (h1 : ∀ c ∈ l, 0 ≤ c ∧ c < n) (h2 : l.Pairwise (· < ·)) : l2Row l n = true := by
 unfold l2Row;refine za3 (fun i (v : Int) => v < 0 ∨ 0 < i ∧ v = l.getD (i - 1) default) (fun (r : Bool) => r = true) (.inl vdh) (fun i v next hi hv hn => ?_) (fun v hv => rfl);have h3 := h1 _ (zbf (d := default) hi);have h4 : v < l.getD i default := by
  rcases hv with hv | ⟨hv,e⟩
  ·omega
  have:=List.pairwise_iff_getElem.1 h2 (i - 1) i vdh hi vdh;rw[zsp _ _ default,zsp _ _ default] at this;rw[e];exact this
 rw[oJ (show ¬l.getD i default≤v by omega),oJ (show ¬(n:Int)≤l.getD i default by omega)];exact hn _ (.inr ⟨vdh,rfl⟩)
theorem z40{n:Nat}(h:n≤40)(is:Int→Int→Bool):zck (yk.mk (n:Int) (zbr n is))=true:=by unfold zck;dsimp only;rw[zgd,oM rfl,show l1In (n:Int) 0 40=true by simp only[l1In,oc,ob];omega];refine(zdb _ _ _).2 ⟨fun j hj=>?_,rfl⟩;rw[row_up (fun c hc=>((zn4 hj).1 hc).1) ?_];rfl;rw[zj5 n is hj,List.pairwise_map];exact(List.pairwise_lt_range.filter _).imp (fun {a b} h=>vdh)
theorem zn5{x : yc}(h : zad x = true)(t : yj) : zck (zeo x t) = true ∧ (zeo x t).rows.length ≤ 1048576 ∧ ∀y ∈ (zeo x t).rows, y.length ≤ 1048576 := by
 have hn:=(fam_n h).1;cases ht:zfc t with
 |false =>unfold zeo;rw[ht,Bool.not_false,Bool.or_true,oE];exact⟨rfl,vdj,fun y hy=>absurd hy Oa⟩
 |true =>rw[zz3 h ht];refine⟨z40 hn _,by rw[zgd];omega,fun y hy=>?_⟩;have:=zn3 _ _ hy;omega
theorem zy4{r:yk}(h:zck r=true):eqRel r r=true:=by unfold eqRel zj0;rw[oM rfl,h];unfold zq1;refine za3 (fun _ _=>True) (fun (r:Bool)=>r=true) trivial (fun i v next _ _ hn=>?_) (fun _ _=>rfl);exact(zdb _ _ _).2 ⟨fun j _=>by simp,hn _ trivial⟩
theorem zu0(l:List yh):zez l l=true:=by unfold zez;rw[oM rfl,Bool.not_true,oD,zdb];exact⟨fun j _=>by simp,rfl⟩
theorem z5p(x:yc)(l:Law)(p q y:Int):(zdm x l p q y).length≤13:=by unfold zdm;refine zaj (p:=fun (r:List Int)=>r.length≤13) (fun _=>Nat.zero_le _) (fun _=>?_);unfold zdn;refine za3 (fun _ _=>True) (fun (r:List Int)=>r.length≤13) trivial (fun i v next _ _ hn=>hn _ trivial) (fun v _=>?_);refine za3 (fun i (v:List Int)=>v.length≤i) (fun (r:List Int)=>r.length≤13) (oz _) (fun i v next _ hv hn=>?_) (fun v hv=>hv);exact zaj (p:=fun (r:List Int)=>r.length≤13) (fun _=>hn _ (by rw[oh,oI];omega)) (fun _=>hn _ vdh)
theorem z2q(f:yc)(x:yg)(p y:Int):(zbz f x p y).length≤40:=by unfold zbz;refine zaj (p:=fun (r:List Int)=>r.length≤40) (fun _=>Nat.zero_le _) (fun c=>?_);have h9:=zr3 c;have hf:=h9.1.1;have hn:=(fam_n hf).1;unfold zf9;refine za8 (fun (v:Int×List Int×(KV→Option Bool)×(KV→Option Bool))=>(-1≤v.1∧v.1<f.people.length)∧HOk f v.2.1 (mk2 v.2.2.1)) (fun v=>(v.1+1).toNat) (fun (r:List Int)=>r.length≤40) (fun v next hI hn2=>?_) _ _ (Nat.lt_succ_self _) (by dsimp only[zbb];exact⟨vdh,HOk.nil _ _⟩);refine zaj (p:=fun (r:List Int)=>r.length≤40) (fun c1=>?_) (fun _=>by have:=hI.2.len;omega);have h8:=om c1;have h7:=zzf hf x ⟨h8,hI.1.2⟩;have h6:=z31 hf x ⟨h8,hI.1.2⟩;exact hn2 _ (by dsimp only[zbb,below];exact⟨vdh,(zpk 100 (heirList.mk f x y v.2.1 v.2.2.1 v.2.2.2) v.1 hf ⟨h8,hI.1.2⟩ vcT hI.2).1⟩) vcT
theorem zzr(f : yc)(p y : Int) : (zbt f p y).length ≤ 40 := by
 unfold zbt;refine zaj (p:=fun (r:List yh)=>r.length≤40) (fun _=>Nat.zero_le _) (fun c=>?_);have h9:=(zb0 f p).1 (by simpa using c);have hn:=(fam_n h9.1).1;refine za3 (fun i d=>d.length=f.people.length∧∀k:Nat,k<i→d.getD k default=1) (fun (r:List yh)=>r.length≤40) ⟨vdj,fun k hk=>absurd hk (oQ _)⟩ (fun i v next hi hv hn2=>hn2 _ (ztk hv hi)) (fun d hd=>?_);refine jn_to (fun v=>ShJ f p y v.1 v.2.1 v.2.2) (fun (r:List yh)=>r.length≤40) (fun K hK=>hK _ (ShJ.start h9.1 p y hd rfl)) (fun j1 hJ1=>?_);refine jn_to (fun v=>ShJ f p y v.2.1 v.2.2.1 v.2.2.2∧v.1=kidsT f v.2.1 p) (fun (r:List yh)=>r.length≤40) (fun K hK=>hK _ (ShJ.kids h9.1 hJ1)) (fun j2 hJ2=>?_);refine za8 (fun v=>ShI f p y v.1 v.2.1 v.2.2.1 v.2.2.2.1 v.2.2.2.2) (fun v=>gmu v.2.1) (fun (r:List yh)=>r.length≤40) (fun v next hI hn2=>?_) _ _ (oH _) (ShI.start h9.1 h9.2 hJ2.1 hJ2.2);refine zaj (p:=fun (r:List yh)=>r.length≤40) (fun c1=>?_) (fun c1=>zaj (p:=fun (r:List yh)=>r.length≤40) (fun c2=>?_) (fun c2=>?_))
 ·refine za3 (fun i l => NextI f v.2.1 i l) (fun (r : List yh) => r.length ≤ 40) (NextI.nil _ _) (fun i l nx hi hl hn3 => ?_) (fun l hl => hn2 _ (ShI.next h9.1 hI (zze c1) hl) (NextI.dec h9.1 (ShI.gr hI) (z08 c1) hl));refine za3 (fun _ _ => True) (fun (r : List yh) => r.length ≤ 40) trivial (fun j _ nx4 hj _ hn4 => ?_) (fun _ _ => hn3 _ (NextI.skip hl));exact zaj (p := fun (r : List yh) => r.length ≤ 40) (fun c3 => hn3 _ (NextI.snoc hl hj c3)) (fun _ => hn4 _ trivial)
 ·have h8 := (zsw (ShI.div h9.1 hI (zrj c2))).1;dsimp only at h8;refine za3 (fun i (o : List yh) => o.length ≤ i) (fun (r : List yh) => r.length ≤ 40) (oz _) (fun i o nx _ ho hn3 => ?_) (fun o ho => vdh);exact zaj (p := fun (r : List yh) => r.length ≤ 40) (fun _ => hn3 _ (by rw [oh, oI]; omega)) (fun _ => hn3 _ vdh)
 have h8:=(ShJ.lens hI.1).2.1;refine za3 (fun i (o:List yh)=>o.length≤i) (fun (r:List yh)=>r.length≤40) (oz _) (fun i o nx _ ho hn3=>?_) (fun o ho=>vdh);exact zaj (p:=fun (r:List yh)=>r.length≤40) (fun _=>hn3 _ (by rw[oh,oI];omega)) (fun _=>hn3 _ vdh)
theorem z3i{c : yd}(hc : CurOk c){n : Int}(hn : 0 ≤ n ∧ n ≤ 8) : (zo0 c n).1.steps.length ≤ 8 := by
 unfold zo0;refine jn_to (fun j=>(0≤j.1∧j.1≤8)∧CurOk ⟨c.b,j.2.1,j.2.2⟩) (fun (r:yj×Int×Int)=>r.1.steps.length≤8) (fun K hK=>hK _ ?_) (fun j1 hJ1=>?_)
 ·have h9 := za1 (za1 hc (n := 3) vdh).2 (n := n + 1) vdh;exact ⟨⟨h9.1.1, by have := h9.1.2.2 vdh; dsimp only at this ⊢; omega⟩, h9.2⟩
 refine za8 (fun (v:Int×Int×(List yi)×Int×Int)=>DrwOk c.b v.1 v.2.1 v.2.2.1 v.2.2.2.1 v.2.2.2.2) (fun v=>Int.toNat v.1) (fun (r:yj×Int×Int)=>r.1.steps.length≤8) (fun v next hI hn2=>?_) _ _ (oH _) (zxx hc hJ1);refine zaj (p:=fun (r:yj×Int×Int)=>r.1.steps.length≤8) (fun c1=>?_) (fun _=>((zja _).1 hI.ok).2.1);have c1:=om c1;refine jn_to (fun j=>TyJ c.b v.1 j.1 j.2.1 j.2.2.1 j.2.2.2) (fun (r:yj×Int×Int)=>r.1.steps.length≤8) (fun K hK=>hK _ (hI.step c1)) (fun j2 hJ2=>?_);refine jn_to (fun (j:Bool×Int×Int)=>(j.1=true→(j2.2.2.2.getD (((j2.2.2.2.length:Nat):Int) - 1).toNat default).kind=3∨(j2.2.2.2.getD (((j2.2.2.2.length:Nat):Int) - 1).toNat default).kind=4)∧CurOk ⟨c.b,j.2.1,j.2.2⟩) (fun (r:yj×Int×Int)=>r.1.steps.length≤8) (fun K hK=>?_) (fun j3 hJ3=>?_)
 ·exact zaj (p := fun (r : yj × Int × Int) => r.1.steps.length ≤ 8) (fun c2 => hK _ ⟨fun _ => by simpa using c2, zb2 hJ2.cur vdh⟩) (fun c2 => hK _ ⟨fun h => (by rw [c2] at h; cases h), hJ2.cur⟩)
 exact zaj (p:=fun (r:yj×Int×Int)=>r.1.steps.length≤8) (fun c3=>hn2 _ (hJ2.aged hJ3.2 (hJ3.1 c3)) vcT) (fun _=>hn2 _ (hJ2.plain hJ3.2) vcT)
theorem z5z{b:List Int}(hb:∀y∈b,0≤y∧y≤255)(hx:b.length≤1048576)(n:Int):(mkAny b n).steps.length≤8:=z3i (zgl hb hx) vdh
structure RnOk(c : yc)(v : List (List UInt8)) : Prop where
  fam:zad c=true
  vlen:v.length=c.people.length
  vs:∀s∈v,s.length≤1048576
  ok:(renP c v).2=true
  ren:Ren c (renP c v).1
  gfam:zad (renP c v).1=true
  glen:(renP c v).1.people.length≤40∧(renP c v).1.unions.length≤60
  gnm:∀p∈(renP c v).1.people,p.name.length≤1048576
  c1:(renP c v).1.people.length≤1048576
  c2:(renP c v).1.unions.length≤1048576
  find:∀a:Int,0≤a∧a<c.people.length→zd0 (renP c v).1 (v.getD a.toNat default)=(a,true)
theorem rn_ok{c:yc}(hf:zad c=true){v:List (List UInt8)}(hv:NmOk c.people.length v):RnOk c v:=by obtain⟨g,e,h1,h2,h3⟩:=ren_ok hf hv;have hn:=(fam_n hf).1;refine⟨hf,hv.len,fun s hs=>?_,by rw[e],by rw[e];exact h1,by rw[e];exact h2,by rw[e];exact fam_n h2,by rw[e];exact zug h2,by rw[e];have:=fam_n h2;dsimp only;omega,by rw[e];have:=fam_n h2;dsimp only;omega,fun a ha=>by rw[e];exact z2y h2 h1.len h3 ha hv⟩;rw[hv] at hs;obtain⟨k,hk,rfl⟩:=List.mem_map.1 hs;rw[(nm_ok k (by have:=oX.1 hk;omega)).2];omega
theorem zrs{b:List Int}(h:b.length≤1048576∧∀y∈b,inR .u8 y):((crowd b 14).people.length≤1048576∧(crowd b 14).unions.length≤1048576)∧(0:Int)≤14∧(14:Int)≤40:=by have:=zeg h 14;omega
theorem zkr{b:List Int}(h:b.length≤1048576∧∀y∈b,inR .u8 y){v:List (List UInt8)}(hv:NmOk (crowd b 14).people.length v):RnOk (crowd b 14) v:=rn_ok (zeg h 14).1 hv
theorem RnOk.vl{c:yc}{v:List (List UInt8)}(h:RnOk c v):v.length≤1048576:=by have h1:=h.vlen;have h2:=fam_n h.fam;omega
theorem RnOk.at1{c:yc}{v:List (List UInt8)}(h:RnOk c v){a:Int}(ha:0≤a∧a<c.people.length):0≤a∧a<v.length:=by rw[h.vlen];exact ha
theorem z35(x:yc)(l:Law)(p q y:Int):(zdm x l p q y).length≤1048576:=Nat.le_trans (z5p _ _ _ _ _) vdh
theorem zz1(f:yc)(x:yg)(p y:Int):(zbz f x p y).length≤1048576:=Nat.le_trans (z2q _ _ _ _) vdh
theorem zte(f:yc)(p y:Int):(zbt f p y).length≤1048576:=Nat.le_trans (zzr _ _ _) vdh
theorem z36{b:List Int}(h:b.length≤1048576∧∀y∈b,0≤y∧y≤255){n:Int}:(mkAny b n).steps.length≤1048576:=Nat.le_trans (z5z h.2 h.1 n) vdh
end Go.Proofs.YtnibbmmljamolaaGreat
