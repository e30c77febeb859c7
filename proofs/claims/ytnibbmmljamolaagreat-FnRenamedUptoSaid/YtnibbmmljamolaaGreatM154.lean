import Derived.Test.YtnibbmmljamolaaGreatM151
set_option maxHeartbeats 4000000
set_option linter.unusedSimpArgs false
set_option linter.unusedVariables false
namespace Go.Proofs.YtnibbmmljamolaaGreat
open Go Go.Lite Go.Proofs
def C87(x0:estate)(x1:Int)(x2:Int)(x3:Int)(R:(List Bool)×(List Int)×(List Int)):LV×List (Nat×BC):=(.tup [],[(900000,.var [.ro false 6 x0.f.people.length (rowOf (zah false) x0.f.people),.ro false 4 x0.f.unions.length (rowOf (zas false) x0.f.unions),.int .i64 x0.p,.int .i64 x0.year,.own 0,.own 1,.own 2]),(0,.arr 1 R.1.length (rowOf (cBool) R.1)),(1,.arr 1 R.2.1.length (rowOf (cInt .i64) R.2.1)),(2,.arr 1 R.2.2.length (rowOf (cInt .i64) R.2.2))])
def C48(x0:estate)(x1:List Int)(x2:Int)(x3:Int)(R:(List Bool)×(List Int)×(List Int)):LV×List (Nat×BC):=(.tup [],[(900000,.var [.ro false 6 x0.f.people.length (rowOf (zah false) x0.f.people),.ro false 4 x0.f.unions.length (rowOf (zas false) x0.f.unions),.int .i64 x0.p,.int .i64 x0.year,.own 0,.own 1,.own 2]),(900004,.arr 1 x1.length (rowOf (cInt .i64) x1)),(0,.arr 1 R.1.length (rowOf (cBool) R.1)),(1,.arr 1 R.2.1.length (rowOf (cInt .i64) R.2.1)),(2,.arr 1 R.2.2.length (rowOf (cInt .i64) R.2.2))])
mutual
def zet : Nat → estate → Int → Int → Int → (List Bool) × (List Int) × (List Int)
  |0,_,_,_,_=>default
  |m+1,x0,x1,x2,x3=>bif(!(zb1 x0.f x1 x0.year)) then((zc2 m (estate.mk x0.f x0.p x0.year ((zba x0 (zau x0.f x1)).2.1) ((zba x0 (zau x0.f x1)).2.2.1) ((zba x0 (zau x0.f x1)).2.2.2)) ((zba x0 (zau x0.f x1)).1) x2 x3).1,(zc2 m (estate.mk x0.f x0.p x0.year ((zba x0 (zau x0.f x1)).2.1) ((zba x0 (zau x0.f x1)).2.2.1) ((zba x0 (zau x0.f x1)).2.2.2)) ((zba x0 (zau x0.f x1)).1) x2 x3).2.1,(zc2 m (estate.mk x0.f x0.p x0.year ((zba x0 (zau x0.f x1)).2.1) ((zba x0 (zau x0.f x1)).2.2.1) ((zba x0 (zau x0.f x1)).2.2.2)) ((zba x0 (zau x0.f x1)).1) x2 x3).2.2) else(x0.takes,(x0.num.set x1.toNat ((((x0.num.getD x1.toNat default) * x3)+(x2 * (x0.den.getD x1.toNat default))).tdiv (zbj (((x0.num.getD x1.toNat default) * x3)+(x2 * (x0.den.getD x1.toNat default))) ((x0.den.getD x1.toNat default) * x3)))),(x0.den.set x1.toNat (((x0.den.getD x1.toNat default) * x3).tdiv (zbj (((x0.num.getD x1.toNat default) * x3)+(x2 * (x0.den.getD x1.toNat default))) ((x0.den.getD x1.toNat default) * x3)))))
def zc2 : Nat → estate → (List Int) → Int → Int → (List Bool) × (List Int) × (List Int)
  |0,_,_,_,_=>default
  |m+1,x0,x1,x2,x3=>loopN (fun i1 (v1:(List Bool)×(List Int)×(List Int)) next=>next ((zet m (estate.mk x0.f x0.p x0.year v1.1 v1.2.1 v1.2.2) (x1.getD i1 default) (x2.tdiv (zbj x2 (x3 * ((x1.length:Nat):Int)))) ((x3 * ((x1.length:Nat):Int)).tdiv (zbj x2 (x3 * ((x1.length:Nat):Int))))).1,(zet m (estate.mk x0.f x0.p x0.year v1.1 v1.2.1 v1.2.2) (x1.getD i1 default) (x2.tdiv (zbj x2 (x3 * ((x1.length:Nat):Int)))) ((x3 * ((x1.length:Nat):Int)).tdiv (zbj x2 (x3 * ((x1.length:Nat):Int))))).2.1,(zet m (estate.mk x0.f x0.p x0.year v1.1 v1.2.1 v1.2.2) (x1.getD i1 default) (x2.tdiv (zbj x2 (x3 * ((x1.length:Nat):Int)))) ((x3 * ((x1.length:Nat):Int)).tdiv (zbj x2 (x3 * ((x1.length:Nat):Int))))).2.2)) (fun (v1:(List Bool)×(List Int)×(List Int))=>(v1.1,v1.2.1,v1.2.2)) x1.length 0 (x0.takes,x0.num,x0.den)
end
def kr87(m d:Nat)(ids:List Nat)(x0:estate)(x1:Int)(x2:Int)(x3:Int):Cl:=(hresM d ids (C87 x0 x1 x2 x3 (zet m x0 x1 x2 x3)),pf (FnMT Tryz.prog 87 [.vp 900000 0,.int .i64 x1,.int .i64 x2,.int .i64 x3] [.var [.ro false 6 x0.f.people.length (rowOf (zah false) x0.f.people),.ro false 4 x0.f.unions.length (rowOf (zas false) x0.f.unions),.int .i64 x0.p,.int .i64 x0.year,.own 900001,.own 900002,.own 900003],.arr 1 x0.takes.length (rowOf (cBool) x0.takes),.arr 1 x0.num.length (rowOf (cInt .i64) x0.num),.arr 1 x0.den.length (rowOf (cInt .i64) x0.den)] (C87 x0 x1 x2 x3 (zet m x0 x1 x2 x3))))
def zfx(x0:estate)(x1:List Int)(x2:Int)(x3:Int):(List Bool)×(List Int)×(List Int):=zc2 100 x0 x1 x2 x3
def kr48(m d:Nat)(ids:List Nat)(x0:estate)(x1:List Int)(x2:Int)(x3:Int):Cl:=(hresM d ids (C48 x0 x1 x2 x3 (zc2 m x0 x1 x2 x3)),pf (FnMT Tryz.prog 48 [.vp 900000 0,.own 900004,.int .i64 x2,.int .i64 x3] [.var [.ro false 6 x0.f.people.length (rowOf (zah false) x0.f.people),.ro false 4 x0.f.unions.length (rowOf (zas false) x0.f.unions),.int .i64 x0.p,.int .i64 x0.year,.own 900001,.own 900002,.own 900003],.arr 1 x0.takes.length (rowOf (cBool) x0.takes),.arr 1 x0.num.length (rowOf (cInt .i64) x0.num),.arr 1 x0.den.length (rowOf (cInt .i64) x0.den),.arr 1 x1.length (rowOf (cInt .i64) x1)] (C48 x0 x1 x2 x3 (zc2 m x0 x1 x2 x3))))
def A87(m:Nat)(x0:estate)(x1:Int)(x2:Int)(x3:Int):Ann:=let q3:=(x0.den.getD x1.toNat default) * x3;let q6:=(0≤(x1:Int)∧(x1:Int)<((x0.num.length:Nat):Int));let q7:=(0≤(x1:Int)∧(x1:Int)<((x0.den.length:Nat):Int));let q1:=((x0.num.getD x1.toNat default) * x3)+(x2 * (x0.den.getD x1.toNat default));let q5:=zbj q1 q3;let q2:=estate.mk x0.f x0.p x0.year ((zba x0 (zau x0.f x1)).2.1) ((zba x0 (zau x0.f x1)).2.2.1) ((zba x0 (zau x0.f x1)).2.2.2);let q4:=zc2 m q2 ((zba x0 (zau x0.f x1)).1) x2 x3;.reg 1 [] [(9,k83 x0.f x1 x0.year)] [0,1,2,3,21] [900000,900001,900002,900003] [] [] [] [0] (cn (!(zb1 x0.f x1 x0.year)) (.reg 1 [] [(7,k46 x0.f x1),(8,k45 30 [900000,900001,900002,900003,1029] x0 (zau x0.f x1)),(11,kr48 m 33 [900000,2030,3030,4030,1030] q2 ((zba x0 (zau x0.f x1)).1) x2 x3)] [0,1,2,3] [1033,2033,3033,900000] [] [] [] [0,4,8] (rt [(900000,some 900000),(0,some 1033),(1,some 2033),(2,some 3033)] (C87 x0 x1 x2 x3 (q4.1,q4.2.1,q4.2.2)))) (.reg 3 [] [(2002,k86 q1 q3)] [0,1,8,9,10] [900000,900001,900002,900003] [] [pf q6,pf (inR .i64 ((x0.num.getD x1.toNat default) * x3)),pf q7,pf (inR .i64 (x2 * (x0.den.getD x1.toNat default))),pf (inR .i64 q1),pf (inR .i64 q3)] [] [0,4,8,12,16,8,20,24] (.reg 1 [] [(17,stL 900002 (cInt .i64) x0.num x1.toNat (q1.tdiv q5)),(19,stL 900003 (cInt .i64) x0.den x1.toNat (q3.tdiv q5))] [] [900000,900001,900002,900003] [] [pf ((q5:Int)≠0),pf (inR .i64 (q1.tdiv q5)),pf (inR .i64 (q3.tdiv q5)),pf q6,pf q7] [] [0,4,0,8,12,20,16,24] (rt [(900000,some 900000),(0,some 900001),(1,some 900002),(2,some 900003)] (C87 x0 x1 x2 x3 (x0.takes,(x0.num.set x1.toNat (q1.tdiv q5)),(x0.den.set x1.toNat (q3.tdiv q5))))))))
def D48b1(m:Nat)(x0:estate)(x1:List Int)(x2:Int)(x3:Int)(i1:Nat)(v1:(List Bool)×(List Int)×(List Int)):Dl:=⟨[(20,.int .i64 ((i1:Nat):Int))],[(30004,.arr 1 v1.1.length (rowOf (cBool) v1.1)),(30005,.arr 1 v1.2.1.length (rowOf (cInt .i64) v1.2.1)),(30006,.arr 1 v1.2.2.length (rowOf (cInt .i64) v1.2.2)),(900000,.var [.ro false 6 x0.f.people.length (rowOf (zah false) x0.f.people),.ro false 4 x0.f.unions.length (rowOf (zas false) x0.f.unions),.int .i64 x0.p,.int .i64 x0.year,.own 30004,.own 30005,.own 30006])]⟩
def A48b1(m:Nat)(x0:estate)(x1:List Int)(x2:Int)(x3:Int)(i1:Nat)(v1:(List Bool)×(List Int)×(List Int)):Ann:=let q4:=((i1:Nat):Int);let q2:=((x1.length:Nat):Int);let q3:=zbj x2 (x3 * q2);let q1:=zet m (estate.mk x0.f x0.p x0.year v1.1 v1.2.1 v1.2.2) (x1.getD i1 default) (x2.tdiv q3) ((x3 * q2).tdiv q3);r0 1 [0,2,3,8,18,19,20,21] [30004,30005,30006,900000,900004] (cn (decide (q4<q2)) (r1 1 [0,2,3,8,10,18,19,20] [30004,30005,30006,900000,900004] [pf (0≤(q4:Int)∧(q4:Int)<q2)] [0] (.reg 1 [] [(8,kr87 m 32 [900000,30004,30005,30006] (estate.mk x0.f x0.p x0.year v1.1 v1.2.1 v1.2.2) (x1.getD i1 default) (x2.tdiv q3) ((x3 * q2).tdiv q3))] [0,2,3,8,18,19,20] [1032,2032,3032,900000,900004] [] [pf ((q3:Int)≠0),pf (inR .i64 (x2.tdiv q3)),pf (inR .i64 ((x3 * q2).tdiv q3))] [] [0,4,0,8,12] (r1 1 [0,2,3,8,18,19,20] [1032,2032,3032,900000,900004] [pf (inR .i64 (q4+1))] [0] (.next 0 [(30004,some 1032),(30005,some 2032),(30006,some 3032)] (D48b1 m x0 x1 x2 x3 (i1+1) (q1.1,q1.2.1,q1.2.2)))))) (rt [(900000,some 900000),(900004,some 900004),(0,some 30004),(1,some 30005),(2,some 30006)] (C48 x0 x1 x2 x3 (v1.1,v1.2.1,v1.2.2))))
def A48(m:Nat)(x0:estate)(x1:List Int)(x2:Int)(x3:Int):Ann:=let q1:=(x3 * ((x1.length:Nat):Int));.reg 3 [] [(1002,k86 x2 q1)] [0,2,3,8,18,19,20] [900000,900001,900002,900003,900004] [] [pf (inR .i64 q1)] [] [0,4] (lp (D48b1 m x0 x1 x2 x3) [] [900001,900002,900003] [(30004,some 900001),(30005,some 900002),(30006,some 900003)] (D48b1 m x0 x1 x2 x3 0 (x0.takes,x0.num,x0.den)) (A48b1 m x0 x1 x2 x3))
theorem zxp : ∀(m : Nat), (∀(x : estate) (q : Int) (d D : Nat) (S : List Nat), zad x.f = true → (0 ≤ q ∧ q < x.f.people.length) → 2 * ((x.f.people.length : Int) - q).toNat < m → 0 < d → S.length = x.f.people.length → RepS D S x.num x.den → (∀r, Ch x.f x.year x.takes q r → d * r ∣ D) → (zet m x q 1 (d : Int)).1 = x.takes ∧ RepS D (gS x.f x.year x.takes m q (D / d) S) (zet m x q 1 (d : Int)).2.1 (zet m x q 1 (d : Int)).2.2) ∧ (∀(x : estate) (l : List Int) (d D : Nat) (S : List Nat), zad x.f = true → (∀c ∈ l, 0 ≤ c ∧ c < x.f.people.length) → lmu x.f.people.length l < m → 0 < d → S.length = x.f.people.length → RepS D S x.num x.den → (∀c ∈ l, ∀r, Ch x.f x.year x.takes c r → d * l.length * r ∣ D) → (zc2 m x l 1 (d : Int)).1 = x.takes ∧ RepS D (dS x.f x.year x.takes m l (D / d) S) (zc2 m x l 1 (d : Int)).2.1 (zc2 m x l 1 (d : Int)).2.2) := by
 intro m;induction m with
 |zero =>exact⟨fun _ _ _ _ _ _ _ h=>absurd h (oQ _),fun _ _ _ _ _ _ _ h=>absurd h (oQ _)⟩
 |succ m ih =>
  refine⟨fun x q d D S hf hq hm hd hS hR hr=>?_,fun x l d D S hf hl hm hd hS hR hr=>?_⟩
  ·rw [zet, gS];cases ha : zfb x.f q x.year with
   |true =>rw[show zb1 x.f q x.year=true from ha,Bool.not_true,oD,oE];have hdv:=hr 1 (.nil q);rw[Nat.mul_one] at hdv;exact⟨rfl,hR.add vdh hd (Nat.div_mul_cancel hdv)⟩
   |false =>
    rw[show zb1 x.f q x.year=false from ha,Bool.not_false,oE,oD,zg1 hf]
    exact ih.2 ⟨x.f, x.p, x.year, x.takes, x.num, x.den⟩ (kidsT x.f x.takes q) d D S hf (fun c hc => by have := zfu hf hq.1 hc; exact ⟨vdh, this.1.2⟩) (by
      have h1 : lmu x.f.people.length (kidsT x.f x.takes q) ≤ 2 * ((x.f.people.length : Int) - q).toNat - 1 := lmu_le.2 fun c hc => by
        have:=(zfu hf hq.1 hc).1;omega
      show lmu x.f.people.length (kidsT x.f x.takes q)<m
      omega) hd hS hR (fun c hc r h=>by rw[Nat.mul_assoc];exact hr _ (.cons ha hc h))
  rw[zc2,dS];have hmu:=lmu_le.1 (Nat.le_of_lt_succ hm);have hg:zbj 1 ((d:Int) * ((l.length:Nat):Int))=1:=zvx (by rw[←Int.natCast_mul];omega);rw[hg,Int.tdiv_one,Int.tdiv_one];refine za3 (fun i (v:(List Bool)×(List Int)×(List Int))=>v.1=x.takes∧RepS D ((l.take i).foldl (fun S c=>gS x.f x.year x.takes m c (D / d / l.length) S) S) v.2.1 v.2.2) (fun (r:(List Bool)×(List Int)×(List Int))=>r.1=x.takes∧RepS D (l.foldl (fun S c=>gS x.f x.year x.takes m c (D / d / l.length) S) S) r.2.1 r.2.2) ⟨rfl,hR⟩ (fun i v next hi hv hn=>?_) (fun v hv=>by rw[List.take_length] at hv;exact hv);obtain⟨h1,h2⟩:=hv;have hc:=zbf (d:=(default:Int)) hi
  have := ih.1 ⟨x.f, x.p, x.year, v.1, v.2.1, v.2.2⟩ (l.getD i default) (d * l.length) D _ hf (hl _ hc) (by have := hmu _ hc; show 2 * ((x.f.people.length : Int) - l.getD i default).toNat < m; omega) (Nat.mul_pos hd vdh) ((zmi _ _).trans hS) h2 (fun r h => by
    have h3:Ch x.f x.year v.1 (l.getD i default) r:=h
    rw[h1] at h3
    exact hr _ hc r h3)
  rw[Int.natCast_mul] at this;refine hn _ ⟨this.1.trans h1,?_⟩;have h4:=this.2;rw[zd7 _ default hi,List.foldl_append,List.foldl_cons,List.foldl_nil,Nat.div_div_eq_div_mul];dsimp only at h4 ⊢;rw[h1,Nat.div_div_eq_div_mul] at h4;rw[h1];exact h4
theorem DivI.step{m:Nat}{x:estate}{l:List Int}{num den:Int}(h0:DivOk x l num den)(hm:lmu x.f.people.length l≤m){i:Nat}{tk:List Bool}{nu de:List Int}(h:DivI m x l den i tk nu de)(hi:i<l.length){v:(List Bool)×(List Int)×(List Int)}(e:v=zet m (estate.mk x.f x.p x.year tk nu de) (l.getD i default) (num.tdiv (zbj num (den * ((l.length:Nat):Int)))) ((den * ((l.length:Nat):Int)).tdiv (zbj num (den * ((l.length:Nat):Int))))):DivI m x l den (i+1) v.1 v.2.1 v.2.2:=by obtain⟨⟨hf,ht⟩,⟨hk,hl,h40⟩,hnum,_⟩:=h0;obtain⟨rfl,d,D,S,⟨rfl,hd⟩,hS,hR,hs,hb⟩:=h;subst hnum;have hc:=zbf (d:=(default:Int)) hi;have hmu:=lmu_le.1 hm;rw[zvx (by rw[←Int.natCast_mul];omega),Int.tdiv_one,Int.tdiv_one,←Int.natCast_mul] at e;subst e;have:=(zxp m).1 ⟨x.f,x.p,x.year,x.takes,nu,de⟩ (l.getD i default) (d * l.length) D _ hf (hk _ hc).1 (by have:=hmu _ hc;show 2 * ((x.f.people.length:Int) - l.getD i default).toNat<m;omega) (Nat.mul_pos hd vdh) ((zmi _ _).trans hS) hR (fun r h=>(hb _ hc r h).1);refine⟨this.1,d,D,S,⟨rfl,hd⟩,hS,?_,hs,hb⟩;rw[zd7 _ default hi,List.foldl_append,List.foldl_cons,List.foldl_nil];have h4:=this.2;dsimp only at h4;rw[←Nat.div_div_eq_div_mul] at h4;exact h4

theorem ziz : ∀(m : Nat), (∀(x0 : estate) (x1 : Int) (x2 : Int) (x3 : Int) (h : GiveOk x0 x1 x2 x3) (hm : 2 * ((x0.f.people.length : Int) - x1).toNat < m), FnMT Tryz.prog 87 [.vp 900000 0, .int .i64 x1, .int .i64 x2, .int .i64 x3] [.var [.ro false 6 x0.f.people.length (rowOf (zah false) x0.f.people), .ro false 4 x0.f.unions.length (rowOf (zas false) x0.f.unions), .int .i64 x0.p, .int .i64 x0.year, .own 900001, .own 900002, .own 900003], .arr 1 x0.takes.length (rowOf (cBool) x0.takes), .arr 1 x0.num.length (rowOf (cInt .i64) x0.num), .arr 1 x0.den.length (rowOf (cInt .i64) x0.den)] (C87 x0 x1 x2 x3 (zet m x0 x1 x2 x3))) ∧ (∀(x0 : estate) (x1 : List Int) (x2 : Int) (x3 : Int) (h : DivOk x0 x1 x2 x3) (hm : lmu x0.f.people.length x1 < m), FnMT Tryz.prog 48 [.vp 900000 0, .own 900004, .int .i64 x2, .int .i64 x3] [.var [.ro false 6 x0.f.people.length (rowOf (zah false) x0.f.people), .ro false 4 x0.f.unions.length (rowOf (zas false) x0.f.unions), .int .i64 x0.p, .int .i64 x0.year, .own 900001, .own 900002, .own 900003], .arr 1 x0.takes.length (rowOf (cBool) x0.takes), .arr 1 x0.num.length (rowOf (cInt .i64) x0.num), .arr 1 x0.den.length (rowOf (cInt .i64) x0.den), .arr 1 x1.length (rowOf (cInt .i64) x1)] (C48 x0 x1 x2 x3 (zc2 m x0 x1 x2 x3))) := by
 intro m;induction m
 ·refine ⟨?_, ?_⟩ <;> (intros; exact absurd vc9 (oQ _))
 rename_i m ih;refine⟨?_,?_⟩
 ·intro x0 x1 x2 x3 h hm;have aux : ∀ R, zet (m + 1) x0 x1 x2 x3 = R → slim (C87 x0 x1 x2 x3 R) (A87 m x0 x1 x2 x3) [] := by
   intro R hR;rw[zet] at hR;refine rg ⟨⟨by(have h9:=h.n;omega),by(with_reducible exact h.q)⟩,trivial⟩ ?_;refine cd (fun hc1 hR=>?_) (fun hc1 hR=>?_) hR
   ·refine rg ⟨by (have h9 := h.n; omega), ⟨by (have h9 := h.n; omega), by (have h9 := zcn x0.f x1 h.n.1.2; have h8 := h.n; omega), by (have h9 := zcn x0.f x1 h.n.1.2; have h8 := h.n.2; rw [h8]; with_reducible exact h9.1)⟩, ih.2 (estate.mk x0.f x0.p x0.year ((zba x0 (zau x0.f x1)).2.1) ((zba x0 (zau x0.f x1)).2.2.1) ((zba x0 (zau x0.f x1)).2.2.2)) ((zba x0 (zau x0.f x1)).1) x2 x3 (by (with_reducible exact h.div2 hc1)) (by (rw [zg1 h.n.1.1]; have h8 : lmu x0.f.people.length (kidsT x0.f x0.takes x1) ≤ 2 * ((x0.f.people.length : Int) - x1).toNat - 1 := lmu_le.2 fun c hc => (by have := (zfu h.n.1.1 h.q.1 hc).1; omega); have h7 := h.q; dsimp only; omega)), trivial⟩ ?_;exact oe (C87 x0 x1 x2 x3) hR
   refine rg ⟨vb7,vb7,vb7,vb7,vb7,vb7,⟨vb7,vb7⟩,trivial⟩ ?_;refine rg ⟨by(have h9:=h.rng;have h8:=zsq h9.2.2.1.1 h9.2.2.2.1;omega),vae,vae,vb7,vb7,vb7,vb7,trivial⟩ ?_;exact oe (C87 x0 x1 x2 x3) hR
  exact FnM.go 83 Tryz.func87 zaa zaa (A87 m x0 x1 x2 x3) zaa (aux _ rfl)
 intro x0 x1 x2 x3 h hm;have aux : ∀R, zc2 (m + 1) x0 x1 x2 x3 = R → slim (C48 x0 x1 x2 x3 R) (A48 m x0 x1 x2 x3) [] := by
  intro R hR;rw[zc2] at hR;refine rg ⟨vb8,⟨vb8,vb8⟩,trivial⟩ ?_;refine lN (fun i v=>DivI m x0 x1 x3 i v.1 v.2.1 v.2.2) (by(with_reducible exact h.start m)) rfl (fun i1 v1 F1 hn1 hI1 hR hK1=>?_) hR;refine rT ?_;refine⟨fun hc1=>?_,fun hc1=>?_⟩
  ·have hii1 : i1 < x1.length := vcH;replace hR := zai hR hii1;refine rg ⟨vc4, trivial⟩ ?_;refine rg ⟨by (have h9 := h.den; have h8 := zsq (a := x2) (b := x3 * ((x1.length : Nat) : Int)) vdh h9.1.1; omega), vao, vao, ih.1 (estate.mk x0.f x0.p x0.year v1.1 v1.2.1 v1.2.2) (x1.getD i1 default) (x2.tdiv (zbj x2 (x3 * ((x1.length : Nat) : Int)))) ((x3 * ((x1.length : Nat) : Int)).tdiv (zbj x2 (x3 * ((x1.length : Nat) : Int)))) (by (with_reducible exact DivI.gv h (Nat.le_of_lt_succ hm) hI1 hii1)) (by (have h9 := lmu_le.1 (Nat.le_of_lt_succ hm) _ (zbf (d := (default : Int)) hii1); dsimp only; omega)), trivial⟩ ?_;refine rg ⟨by (have h9 := h.n; (try simp only [inR]); omega), trivial⟩ ?_;exact hK1 ((zet m (estate.mk x0.f x0.p x0.year v1.1 v1.2.1 v1.2.2) (x1.getD i1 default) (x2.tdiv (zbj x2 (x3 * ((x1.length : Nat) : Int)))) ((x3 * ((x1.length : Nat) : Int)).tdiv (zbj x2 (x3 * ((x1.length : Nat) : Int))))).1, (zet m (estate.mk x0.f x0.p x0.year v1.1 v1.2.1 v1.2.2) (x1.getD i1 default) (x2.tdiv (zbj x2 (x3 * ((x1.length : Nat) : Int)))) ((x3 * ((x1.length : Nat) : Int)).tdiv (zbj x2 (x3 * ((x1.length : Nat) : Int))))).2.1, (zet m (estate.mk x0.f x0.p x0.year v1.1 v1.2.1 v1.2.2) (x1.getD i1 default) (x2.tdiv (zbj x2 (x3 * ((x1.length : Nat) : Int)))) ((x3 * ((x1.length : Nat) : Int)).tdiv (zbj x2 (x3 * ((x1.length : Nat) : Int))))).2.2) hii1 (by (dsimp only; with_reducible exact DivI.step h (Nat.le_of_lt_succ hm) hI1 hii1 rfl)) hR
  obtain rfl:i1=x1.length:=by have:=oB hc1;omega
  replace hR:=zaq hR (oR _);exact oe (C48 x0 x1 x2 x3) hR
 exact FnM.go 34 Tryz.func48 zaa zaa (A48 m x0 x1 x2 x3) zaa (aux _ rfl)
theorem zij(x0:estate)(x1:List Int)(x2:Int)(x3:Int)(h:DivOk x0 x1 x2 x3):FnMT Tryz.prog 48 [.vp 900000 0,.own 900004,.int .i64 x2,.int .i64 x3] [.var [.ro false 6 x0.f.people.length (rowOf (zah false) x0.f.people),.ro false 4 x0.f.unions.length (rowOf (zas false) x0.f.unions),.int .i64 x0.p,.int .i64 x0.year,.own 900001,.own 900002,.own 900003],.arr 1 x0.takes.length (rowOf (cBool) x0.takes),.arr 1 x0.num.length (rowOf (cInt .i64) x0.num),.arr 1 x0.den.length (rowOf (cInt .i64) x0.den),.arr 1 x1.length (rowOf (cInt .i64) x1)] (C48 x0 x1 x2 x3 (zfx x0 x1 x2 x3)):=(ziz 100).2 x0 x1 x2 x3 h (by have h1:=h.n;have h2:lmu x0.f.people.length x1≤81:=lmu_le.2 fun c hc=>(by have:=h1.1.2 c hc;omega);omega)
def k48(d:Nat)(ids:List Nat)(x0:estate)(x1:List Int)(x2:Int)(x3:Int):Cl:=(hresM d ids (C48 x0 x1 x2 x3 (zfx x0 x1 x2 x3)),k1 (zij x0 x1 x2 x3))
def ShJ(f:yc)(p y:Int)(t:List Bool)(nu de:List Int):Prop:=TkEq f p y t∧nu=List.replicate f.people.length (0:Int)∧de=List.replicate f.people.length (1:Int)
structure WhoOk(f : yc)(y : Int)(t : List Bool)(whm gen : List Int) : Prop where
  gr:∀g∈gen,0≤g∧g<f.people.length
  glen:gen.length≤40
  wr:∀c∈whm,(0≤c∧c<f.people.length)∧t.getD c.toNat default=true
  wlen:whm.length≤40
  none:whm=[]→∀g∈gen,t.getD g.toNat default=false
  sum:whm.length+sN (wt0 f y t) f.people.length≤pairs f
def ShI(f:yc)(p y:Int)(whm gen:List Int)(t:List Bool)(nu de:List Int):Prop:=ShJ f p y t nu de∧WhoOk f y t whm gen
theorem ones{d:List Int}{n:Nat}(h:d.length=n∧∀k:Nat,k<n→d.getD k default=1):d=List.replicate n 1:=by refine List.ext_getElem (by simp[h.1]) fun k h1 h2=>?_;have:=h.2 k vdh;rw[oi,ol h1,Option.getD_some] at this;rw[this,List.getElem_replicate]
theorem ShJ.start{f:yc}(hf:zad f=true)(p y:Int){d:List Int}(h:d.length=f.people.length∧∀k:Nat,k<f.people.length→d.getD k default=1){v:(List Bool)×(List Int)×(List Int)}(e:v=zcv (estate.mk f p y ([]:List Bool) (List.replicate f.people.length (default:Int)) d)):ShJ f p y v.1 v.2.1 v.2.2:=by have h1:=zux (estate.mk f p y ([]:List Bool) (List.replicate f.people.length (default:Int)) d) hf;rw[←e] at h1;exact⟨h1.1,by rw[h1.2];rfl,by rw[h1.2];exact ones h⟩
theorem ShI.start{f:yc}(hf:zad f=true){p y:Int}(hp:0≤p∧p<f.people.length){whm:List Int}{t:List Bool}{nu de:List Int}(h:ShJ f p y t nu de)(e:whm=kidsT f t p):ShI f p y whm [p] t nu de:=by subst e;have h0:=h.1.self hp;refine⟨h,fun g hg=>by rw[oT.1 hg];exact hp,vdj,fun c hc=>?_,Nat.le_trans (zld t p) (fam_n hf).1,fun _ g hg=>by rw[oT.1 hg];exact h0,z2j hf hp h0⟩;have:=zfu hf hp.1 hc;exact⟨⟨vdh,this.1.2⟩,this.2.1⟩
def NextI(f:yc)(gen:List Int)(i:Nat)(l:List Int):Prop:=l.Nodup∧(∀q∈l,(0≤q∧q<i)∧∃g∈gen,isKid f q g.toNat=true)∧l.length≤i
theorem NextI.nil(f:yc)(gen:List Int):NextI f gen 0 []:=⟨List.nodup_nil,fun q hq=>absurd hq Oa,oz _⟩
theorem NextI.skip{f:yc}{gen:List Int}{i:Nat}{l:List Int}(h:NextI f gen i l):NextI f gen (i+1) l:=⟨h.1,fun q hq=>⟨by have:=(h.2.1 q hq).1;omega,(h.2.1 q hq).2⟩,by have:=h.2.2;omega⟩
theorem NextI.snoc{f : yc}{gen : List Int}{i j : Nat}{l : List Int}(h : NextI f gen i l)(hj : j < gen.length)(hp : zbu f ((i : Nat) : Int) (gen.getD j default) = true) : NextI f gen (i + 1) (l ++ [((i : Nat) : Int)]) := by
 refine⟨?_,fun q hq=>?_,by rw[oh];have:=h.2.2;simp;omega⟩
 ·rw [List.nodup_append];refine ⟨h.1, vdj, fun a ha b hb e => ?_⟩;rw [oT.1 hb] at e;have := (h.2.1 a ha).1;omega
 rcases List.mem_append.1 hq with hq | hq
 ·exact h.skip.2.1 q hq
 rw[oT.1 hq];exact⟨vdh,_,zbf hj,hp⟩
def gmu(l:List Int):Nat:=l.foldr (fun c a=>max (c.toNat+1) a) 0
theorem gmu_le : ∀{l : List Int} {k : Nat}, gmu l ≤ k ↔ ∀c ∈ l, c.toNat + 1 ≤ k
  |[],k=>by simp[gmu]
  |c :: l, k => by
    have h:=gmu_le (l:=l) (k:=k)
    unfold gmu at h ⊢
    rw[List.foldr_cons]
    constructor
    · intro hh d hd
      rcases oS.1 hd with e | hd
      · subst e;omega
      · exact h.1 vdh d hd
    · intro hh
      have h1:=hh c vdj
      have h2:=h.2 fun d hd=>hh d (by simp[hd])
      omega
theorem NextI.dec{f:yc}(hf:zad f=true){gen l:List Int}(hg:∀g∈gen,0≤g∧g<f.people.length)(h0:0<gen.length)(h:NextI f gen f.people.length l):gmu l<gmu gen:=by have h1:=gmu_le.1 (oz (gmu gen));have h2:1≤gmu gen:=(by have:=h1 _ (zbf (d:=(default:Int)) h0);omega);have h3:gmu l≤gmu gen - 1:=gmu_le.2 fun q hq=>(by obtain⟨h4,g,h5,h6⟩:=h.2.1 q hq;have h7:=h1 g h5;have h8:=hg g h5;have h9:=fam_p hf (k:=g.toNat) vdh;have hfa:=h9.fa;have hmo:=h9.mo;simp only[isKid,oj,ob] at h6;omega);omega
theorem ShI.next{f : yc}(hf : zad f = true){p y : Int}{whm gen l : List Int}{t : List Bool}{nu de : List Int}(h : ShI f p y whm gen t nu de)(hw : whm = [])(hl : NextI f gen f.people.length l) : ShI f p y (zba (estate.mk f p y t nu de) l).1 l (zba (estate.mk f p y t nu de) l).2.1 (zba (estate.mk f p y t nu de) l).2.2.1 (zba (estate.mk f p y t nu de) l).2.2.2 := by
 rw[zqj];have hn:=(fam_n hf).1;have h1:∀g∈gen,(0≤g∧g<f.people.length)∧t.getD g.toNat default=false:=fun g hg=>⟨h.2.gr g hg,h.2.none hw g hg⟩;refine⟨h.1,fun q hq=>(hl.2.1 q hq).1,Nat.le_trans hl.2.2 hn,fun c hc=>?_,Nat.le_trans (List.length_filter_le _ _) (Nat.le_trans hl.2.2 hn),fun e g hg=>?_,?_⟩
 ·have := o9.1 hc;exact ⟨(hl.2.1 c this.1).1, this.2⟩
 ·rcases hb : t.getD g.toNat default with _ | _
  ·rfl
  have:g∈l.filter fun c=>t.getD c.toNat default:=o9.2 ⟨hg,hb⟩;rw[show(l.filter fun c=>t.getD c.toNat default)=[] from e] at this;cases this
 exact who_up hf h1 (hl.1.filter _) fun q hq=>by have:=(o9.1 hq).1;exact hl.2.1 q this
theorem z38{f : yc}{y : Int}{t : List Bool}(ht : TkOk f y t)(n : Nat) : ∀k : Nat, 0 < pr (wt f y t) n k
  |0=>Nat.one_pos
  |k + 1 => by
    refine Nat.mul_pos ?_ (z38 ht n k)
    unfold wt
    split
    · rename_i h
      simp only[oc,od] at h
      exact List.length_pos_iff.2 ((ht.kid _ vdh (by simpa using h.1)).resolve_left (by rw[h.2];simp))
    · exact Nat.one_pos
theorem zzp : ∀n : Nat, (List.replicate n 0).sum = 0
  |0=>rfl
  |n+1=>by rw[List.replicate_succ,List.sum_cons,zzp n]
theorem RepS.start{D : Nat}(h : 0 < D)(n : Nat) : RepS D (List.replicate n 0) (List.replicate n (0 : Int)) (List.replicate n (1 : Int)) := by
 refine⟨h,vdj,vdj,fun k hk=>?_,fun k hk=>?_⟩
 ·rw [List.length_replicate] at hk;rw [zd2, zd2, if_pos hk, if_pos hk, Nat.zero_div]; rfl
 rw[List.length_replicate] at hk;rw[zd2,zd2,if_pos hk,if_pos hk,Nat.gcd_zero_left,Nat.div_self h];rfl
theorem ShI.div{f:yc}(hf:zad f=true){p y:Int}{whm gen:List Int}{t:List Bool}{nu de:List Int}(h:ShI f p y whm gen t nu de)(hw:0<whm.length):DivOk (estate.mk f p y t nu de) whm 1 1:=by obtain⟨⟨h1,rfl,rfl⟩,h2⟩:=h;have hD:0<whole f y t whm.length:=Nat.mul_pos hw (z38 h1.ok _ _);exact⟨⟨hf,h1.ok⟩,⟨h2.wr,List.length_pos_iff.1 hw,h2.wlen⟩,rfl,1,whole f y t whm.length,List.replicate f.people.length 0,⟨rfl,Nat.one_pos⟩,vdj,RepS.start hD _,by rw[zzp,Nat.div_one];omega,fun c hc=>z4v hf (Nat.le_trans h2.sum (z2z hf)) (by have:=h2.wlen;omega) (h2.wr c hc)⟩
theorem ztk{d : List Int}{n i : Nat}(h : d.length = n ∧ ∀k : Nat, k < i → d.getD k default = 1)(hi : i < n) : (d.set i 1).length = n ∧ ∀k : Nat, k < i + 1 → (d.set i 1).getD k default = 1 := by
 refine⟨by rw[Ob];exact h.1,fun k hk=>?_⟩;rw[zbc];by_cases e:k=i
 ·rw [if_pos ⟨e, vdh⟩]
 rw[if_neg (fun h=>e h.1)];exact h.2 k vdh
theorem ShJ.kids{f:yc}(hf:zad f=true){p y:Int}{t:List Bool}{nu de:List Int}(h:ShJ f p y t nu de):ShJ f p y (zba (estate.mk f p y t nu de) (zau f p)).2.1 (zba (estate.mk f p y t nu de) (zau f p)).2.2.1 (zba (estate.mk f p y t nu de) (zau f p)).2.2.2∧(zba (estate.mk f p y t nu de) (zau f p)).1=kidsT f (zba (estate.mk f p y t nu de) (zau f p)).2.1 p:=by rw[zg1 (x:=estate.mk f p y t nu de) hf p];exact⟨h,rfl⟩
theorem ShJ.lens{f:yc}{p y:Int}{t:List Bool}{nu de:List Int}(h:ShJ f p y t nu de):t.length=f.people.length∧nu.length=f.people.length∧de.length=f.people.length:=by obtain⟨h1,rfl,rfl⟩:=h;exact⟨h1.len,vdj,vdj⟩
theorem zsw{x:estate}{l:List Int}(h:DivOk x l 1 1):(zfx x l 1 1).2.1.length=x.f.people.length∧(zfx x l 1 1).2.2.length=x.f.people.length:=by have hn:=h.n;obtain⟨⟨hf,ht⟩,⟨hk,hl,h40⟩,_,d,D,S,⟨e,hd⟩,hS,hR,hs,hb⟩:=h;have e:d=1:=vdh;subst e;have h1:lmu x.f.people.length l≤81:=lmu_le.2 fun c hc=>(by have:=(hk c hc).1;omega);have h2:=((zxp 100).2 x l 1 D S hf (fun c hc=>(hk c hc).1) vdh hd hS hR (fun c hc r hr=>(hb c hc r hr).1)).2;unfold zfx;exact⟨h2.ln.trans (((zua _ _ _ _).2 _ _ _).trans hS),h2.ld.trans (((zua _ _ _ _).2 _ _ _).trans hS)⟩
theorem zze{l:List Int}{g:Bool}(h:(decide (((l.length:Nat):Int)=0)&&g)=true):l=[]:=by simp only[oc,ob] at h;exact List.eq_nil_of_length_eq_zero vdh
theorem z08{l:List Int}{g:Bool}(h:(g&&decide (0<((l.length:Nat):Int)))=true):0<l.length:=by simp only[oc,ob] at h;omega
theorem zrj{l:List Int}(h:decide (0<((l.length:Nat):Int))=true):0<l.length:=by have:=om h;omega
theorem ShI.gr{f:yc}{p y:Int}{whm gen:List Int}{t:List Bool}{nu de:List Int}(h:ShI f p y whm gen t nu de):∀g∈gen,0≤g∧g<f.people.length:=h.2.gr
theorem ShI.gl{f:yc}{p y:Int}{whm gen:List Int}{t:List Bool}{nu de:List Int}(h:ShI f p y whm gen t nu de):gen.length≤40:=h.2.glen
end Go.Proofs.YtnibbmmljamolaaGreat
