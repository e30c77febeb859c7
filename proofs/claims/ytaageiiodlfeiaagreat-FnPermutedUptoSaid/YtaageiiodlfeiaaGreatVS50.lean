import Derived.Test.YtaageiiodlfeiaaGreatV47
set_option maxHeartbeats 4000000
set_option linter.unusedSimpArgs false
set_option linter.unusedVariables false
namespace Go.Proofs.YtaageiiodlfeiaaGreat
open Go Go.Lite Go.Proofs
def C49 (R:Bool):LV×List (Nat×BC):=(.bool R,[])
def zn1 (x0:List Int) (x1:Int):Bool:=loopN (fun i1 (v1:Unit) next=>bif (decide (x1=(x0.getD i1 default))) then true else (next ())) (fun (v1:Unit)=>false) x0.length 0 ()
def D49b1 (x0:List Int) (x1:Int) (i1:Nat) (v1:Unit):Dl:=⟨[(9,.int .i64 ((i1:Nat):Int))],[]⟩
def A49b1 (x0:List Int) (x1:Int) (i1:Nat) (v1:Unit):Ann:=r0 1 [1,4,7,8,9,10] [] (cn (decide (((i1:Nat):Int)<((x0.length:Nat):Int))) (r1 2 [1,4,7,8,9,15] [] [pf (0≤(((i1:Nat):Int):Int)∧(((i1:Nat):Int):Int)<((x0.length:Nat):Int))] [0] (cn (decide (x1=(x0.getD i1 default))) (r0 1 [1,4,7,8,9] [] (rt [] (C49 true))) (r1 1 [1,4,7,8,9] [] [pf (inR .i64 (((i1:Nat):Int)+1))] [0] (.next 0 [] (D49b1 x0 x1 (i1+1) ()))))) (r0 1 [4] [] (rt [] (C49 false))))
def A49 (x0:List Int) (x1:Int):Ann:=r0 1 [0,1,4] [] (r0 1 [1,4,7,8,9] [] (lp (D49b1 x0 x1) [] [] [] (D49b1 x0 x1 0 ()) (A49b1 x0 x1)))
theorem zt3 (x0:List Int) (x1:Int) (hx:x0.length≤1048576):FnT Tryz.prog 49 [.ro false 1 x0.length (rowOf (cInt .i64) x0),.int .i64 x1] (C49 (zn1 x0 x1)):=by
 have aux:∀ R,zn1 x0 x1=R→slim (C49 R) (A49 x0 x1) []:=by
  intro R hR
  refine rg trivial ?_
  refine rg trivial ?_
  revert hR;refine lN (fun i v=>True) zai rfl fun i1 v1 F1 hn1 hI1 hR hK1=>?_
  refine rg trivial ?_
  refine ⟨fun hc1=>?_,fun hc1=>?_⟩
  ·have hii1:i1<x0.length:=by have:=of_decide_eq_true hc1;omega
   replace hR:=zbj hR hii1
   refine rg ⟨by (intros;omega),trivial⟩ ?_
   revert hR;refine cd (fun hc2 hR=>?_) fun hc2 hR=>?_
   ·
     refine rg trivial ?_
     exact congrArg C49 hR
   ·
     refine rg ⟨by ( intros;simp only [inR];omega),trivial⟩ ?_
     exact hK1 () hii1 zai hR
  ·obtain rfl:i1=x0.length:=by have:=of_decide_eq_false hc1;omega
   replace hR:=zbp hR (Nat.lt_irrefl _)
   refine rg trivial ?_
   exact congrArg C49 hR
 exact Fn.go 17 Tryz.func49 zah zah (by simp [C49,Frs,FrsL]) (A49 x0 x1) zah (aux _ rfl)
def k49 (x0:List Int) (x1:Int):Cl:=(hres (C49 (zn1 x0 x1)),k1 (zt3 x0 x1))
theorem zs8 {n:Nat} {p:Nat→Bool} {f:Nat→Int} {y:Int}:y∈loopN (fun i (v:List Int) next=>bif p i then next (v++[f i]) else next v) (fun v=>v) n 0 []↔∃ i,i<n∧p i=true∧y=f i:=by
 refine zb3 (fun i (v:List Int)=>y∈v↔∃ k,k<i∧p k=true∧y=f k) (fun (r:List Int)=>y∈r↔∃ k,k<n∧p k=true∧y=f k) zaj (fun i v next hi hv hn=>?_) (fun v hv=>hv)
 refine zbm (p:=fun (r:List Int)=>y∈r↔∃ k,k<n∧p k=true∧y=f k) (fun c=>hn _ ?_) (fun c=>hn _ ?_)
 ·simp only [List.mem_append,List.mem_singleton,hv]
  constructor
  ·rintro (⟨k,h1,h2,h3⟩ | h)
   ·exact ⟨k,om,h2,h3⟩
   ·exact ⟨i,om,c,h⟩
  ·rintro ⟨k,h1,h2,h3⟩
   by_cases e:k=i
   ·subst e;exact .inr h3
   ·exact .inl ⟨k,om,h2,h3⟩
 ·rw [hv]
  constructor
  ·rintro ⟨k,h1,h2,h3⟩;exact ⟨k,om,h2,h3⟩
  ·rintro ⟨k,h1,h2,h3⟩
   by_cases e:k=i
   ·subst e;rw [c] at h2;cases h2
   ·exact ⟨k,om,h2,h3⟩
theorem zwe (l:List Int) (y:Int):zn1 l y=true↔y∈l:=by
 unfold zn1
 rw [zia]
 constructor
 ·rintro (⟨j,h1,h2⟩ | h)
  ·rw [of_decide_eq_true h2];exact zb0 h1
  ·cases h
 ·intro h
  obtain ⟨k,h1,h2⟩:=zdk (d:=default) h
  exact .inl ⟨k,h1,decide_eq_true h2.symm⟩
theorem Up.head {x:Family} {p q:Int} {n:Nat} (h:Up x p n q):(n=0∧q=p)∨∃ r m,r∈zbe x p∧n=m+1∧Up x r m q:=by
 induction h with
 | zero=>exact .inl ⟨rfl,rfl⟩
 | @step n a q h hq ih =>
  rcases ih with ⟨e1,e2⟩ | ⟨r,m,h1,h2,h3⟩
  ·subst e1;subst e2;exact .inr ⟨q,0,hq,rfl,.zero⟩
  ·exact .inr ⟨r,m+1,h1,om,.step h3 hq⟩
theorem Up.cons {x:Family} {p r q:Int} {n:Nat} (hr:r∈zbe x p) (h:Up x r n q):Up x p (n+1) q:=by
 induction h with
 | zero=>exact .step .zero hr
 | step _ hq ih=>exact .step ih hq
def Above (x:Family) (p q:Int):Prop:=∃ n,Up x p n q
theorem Above.self (x:Family) (p:Int):Above x p p:=⟨0,.zero⟩
theorem Above.cons {x:Family} {p r q:Int} (hr:r∈zbe x p):Above x r q→Above x p q:=fun ⟨n,h⟩=>⟨n+1,h.cons hr⟩
theorem Above.head {x:Family} {p q:Int}:Above x p q→q=p∨∃ r,r∈zbe x p∧Above x r q:=fun ⟨n,h⟩=>by
 rcases h.head with ⟨_,e⟩ | ⟨r,m,h1,_,h3⟩
 ·exact .inl e
 ·exact .inr ⟨r,h1,m,h3⟩
theorem Above.rng {x:Family} (hf:za4 x=true) {p:Int} (hp:0≤p∧p<x.people.length) {q:Int}:Above x p q→0≤q∧q<x.people.length∧q≤p:=fun ⟨n,h⟩=>by
 have:=h.rng (zbn x hf) hp;omega
theorem zjp (c : Int) (f : Nat → Int) : ∀ n : Nat, c * sumTo f n = sumTo (fun i => c * f i) n
  | 0=>by simp [sumTo]
  | n+1=>by simp only [sumTo];rw [Int.mul_add,zjp c f n]
theorem zsb (f g : Nat → Int) : ∀ n : Nat, sumTo f n + sumTo g n = sumTo (fun i => f i + g i) n
  | 0=>by simp [sumTo]
  | n+1=>by simp only [sumTo];rw [← zsb f g n];omega
theorem zpk : ∀ n : Nat, sumTo (fun _ => 0) n = 0
  | 0=>rfl
  | n+1=>by simp only [sumTo];rw [zpk n];rfl
theorem zpl (f : Nat → Nat → Int) (m : Nat) : ∀ n : Nat, sumTo (fun i => sumTo (fun j => f i j) m) n = sumTo (fun j => sumTo (fun i => f i j) n) m
  | 0=>by simp only [sumTo];rw [zpk]
  | n+1=>by simp only [sumTo];rw [zpl f m n,zsb]
theorem zu0 {x:Family} (hf:za4 x=true) {a:Int} (ha:0≤a∧a<x.people.length) {i:Nat} (hi:i<(zbe x a).length):(0≤(zbe x a).getD i default∧(zbe x a).getD i default<a)∧(zbe x a).getD i default∈zbe x a :=
 ⟨zh1 (zbn x hf) ha (zb0 hi),zb0 hi⟩
theorem zu9 {x:Family} (hf:za4 x=true) {a b:Int} (ha:0≤a∧a<x.people.length) (hb:0≤b∧b<a):2 * kn x a b=sumTo (fun i=>kn x ((zbe x a).getD i default) b) (zbe x a).length:=by
 rw [kn_lt hf ha hb,zjp]
 refine zel _ fun i hi=>?_
 have h1:=(zu0 hf ha hi).1
 have h2:=(zp4 hf (a:=(zbe x a).getD i default) (b:=b) om om).2
 omega
theorem kn_up {x : Family} (hf : za4 x = true) : ∀ (m : Nat) (a b : Int), (0 ≤ a ∧ a < x.people.length) → (0 ≤ b ∧ b < x.people.length) → b < m → ¬ Above x b a → 2 * kn x a b = sumTo (fun i => kn x ((zbe x a).getD i default) b) (zbe x a).length
  | 0,a,b,ha,hb,h,hn=>by omega
  | m+1,a,b,ha,hb,h,hn=>by
    rcases Int.lt_trichotomy a b with c | c | c
    · have e1:2 * kn x a b=sumTo (fun j=>kn x ((zbe x b).getD j default) a) (zbe x b).length:=by rw [zic];exact zu9 hf hb ⟨ha.1,c⟩
      have e2:2 * (2 * kn x a b)=sumTo (fun j=>sumTo (fun i=>kn x ((zbe x a).getD i default) ((zbe x b).getD j default)) (zbe x a).length) (zbe x b).length:=by
        rw [e1,zjp]
        refine zel _ fun j hj=>?_
        have h1:=zu0 hf hb hj
        rw [zic]
        exact kn_up hf m a _ ha ⟨h1.1.1,om⟩ om fun hh=>hn (hh.cons h1.2)
      rw [zpl] at e2
      have e3:sumTo (fun i=>sumTo (fun j=>kn x ((zbe x a).getD i default) ((zbe x b).getD j default)) (zbe x b).length) (zbe x a).length=2 * sumTo (fun i=>kn x ((zbe x a).getD i default) b) (zbe x a).length:=by
        rw [zjp]
        refine zel _ fun i hi=>?_
        have h1:=zu0 hf ha hi
        rw [zic x _ b,zu9 hf hb ⟨h1.1.1,om⟩]
        exact zel _ fun j hj=>zic x _ _
      rw [e3] at e2
      omega
    · subst c;exact absurd (Above.self x a) hn
    · exact zu9 hf ha ⟨hb.1,c⟩
def Good (n:Int):Prop:=(0≤n∧n≤4398046511104)∧(262144:Int) ∣ n
theorem Good.add {n m:Int} (hn:Good n) (hm:Good m) (h:n+m≤4398046511104):Good (n+m):=⟨⟨by have:=hn.1;have:=hm.1;omega,h⟩,Int.dvd_add hn.2 hm.2⟩
theorem zn8 {x:Family} (hf:za4 x=true) {a b:Int} (ha:0≤a∧a<x.people.length) (hb:0≤b∧b<x.people.length):zbf x a b=dy (kn x a b):=by
 unfold zbf
 rw [(zdz x a b).2 ⟨hf,ha,hb⟩]
 simp only [Bool.not_true,cond_false]
 rw [z1c hf ha hb,zr3 (zp4 hf ha hb).1.1]
theorem zti {b:List Int} (hb:∀ y∈b,0≤y∧y≤255) {i:Int} (hi:0≤i) (n:Int) (hn:0<n):0≤(at1 b i).tmod n∧(at1 b i).tmod n<n:=by
 rw [Int.tmod_eq_emod_of_nonneg (zci hb hi).1]
 exact ⟨Int.emod_nonneg _ om,Int.emod_lt_of_pos _ hn⟩
theorem zgn {b:List Int} (hb:∀ y∈b,0≤y∧y≤255) {i:Int} (hi:0≤i) {x:Family} (hf:za4 x=true) (hn:0<x.people.length):(0≤(at1 b i).tmod (x.people.length:Int)∧(at1 b i).tmod (x.people.length:Int)<(x.people.length:Int))∧(0≤(x.people.getD ((at1 b i).tmod (x.people.length:Int)).toNat default).born∧(x.people.getD ((at1 b i).tmod (x.people.length:Int)).toNat default).born≤9999)∧((x.people.getD ((at1 b i).tmod (x.people.length:Int)).toNat default).died≤9999):=by
 have h9:0≤(at1 b i).tmod (x.people.length:Int)∧(at1 b i).tmod (x.people.length:Int)<(x.people.length:Int):=zti hb hi _ om
 have h7:=fam_p hf (k:=((at1 b i).tmod (x.people.length:Int)).toNat) om
 have h6:=h7.born;have h5:=h7.died
 exact ⟨h9,h6,om⟩
theorem zzi {i:Nat} (h:i<4):0≤([0,1,20,45]:List Int).getD i default∧([0,1,20,45]:List Int).getD i default≤45:=by
 match i,h with
 | 0,_=>decide
 | 1,_=>decide
 | 2,_=>decide
 | 3,_=>decide
def C11 (R:Int):LV×List (Nat×BC):=(.int .i64 R,[])
def zjk (x0:List Int) (x1:Int) (x2:Family):Int:=bif ((decide (0≤((x2.people.getD (((at1 x0 x1).tmod ((x2.people.length:Nat):Int)).toNat) default).died)))&&(decide (((at1 x0 (x1+1)).tmod 2)=0))) then ((((x2.people.getD (((at1 x0 x1).tmod ((x2.people.length:Nat):Int)).toNat) default).died)+((at1 x0 (x1+2)).tmod 3)) - 1) else (((x2.people.getD (((at1 x0 x1).tmod ((x2.people.length:Nat):Int)).toNat) default).born)+([0,1,20,45].getD (((at1 x0 (x1+1)).tmod 4).toNat) default))
def A11 (x0:List Int) (x1:Int) (x2:Family):Ann:=.reg 2 [] [(1004,k14 x0 x1)] [0,1,6,7] [7] [] [pf ((((x2.people.length:Nat):Int):Int)≠0),pf (0≤((at1 x0 x1).tmod ((x2.people.length:Nat):Int):Int)∧((at1 x0 x1).tmod ((x2.people.length:Nat):Int):Int)<((x2.people.length:Nat):Int))] [] [8,0,4] (.reg 1 [] [(7,cg (decide (0≤((x2.people.getD (((at1 x0 x1).tmod ((x2.people.length:Nat):Int)).toNat) default).died))) (k14 x0 (x1+1)))] [0,1,6,7,29] [7] [decide (0≤((x2.people.getD (((at1 x0 x1).tmod ((x2.people.length:Nat):Int)).toNat) default).died))] [gt (decide (0≤((x2.people.getD (((at1 x0 x1).tmod ((x2.people.length:Nat):Int)).toNat) default).died))) (pf (inR .i64 (x1+1))),gt (decide (0≤((x2.people.getD (((at1 x0 x1).tmod ((x2.people.length:Nat):Int)).toNat) default).died))) (pf ((2:Int)≠0))] [] [1,0,1,1,8,1,4,1,1] (cn ((decide (0≤((x2.people.getD (((at1 x0 x1).tmod ((x2.people.length:Nat):Int)).toNat) default).died)))&&(decide (((at1 x0 (x1+1)).tmod 2)=0))) (.reg 1 [] [(5,k14 x0 (x1+2))] [0,1,6,7] [7] [] [pf (inR .i64 (x1+2)),pf ((3:Int)≠0),pf (inR .i64 (((x2.people.getD (((at1 x0 x1).tmod ((x2.people.length:Nat):Int)).toNat) default).died)+((at1 x0 (x1+2)).tmod 3))),pf (inR .i64 ((((x2.people.getD (((at1 x0 x1).tmod ((x2.people.length:Nat):Int)).toNat) default).died)+((at1 x0 (x1+2)).tmod 3)) - 1))] [] [0,16,4,8,12] (rt [] (C11 ((((x2.people.getD (((at1 x0 x1).tmod ((x2.people.length:Nat):Int)).toNat) default).died)+((at1 x0 (x1+2)).tmod 3)) - 1)))) (.reg 1 [] [(2,bsC 41 (cInt .i64) ([0,1,20,45]:List Int)),(6,k14 x0 (x1+1))] [6] [] [] [pf (inR .i64 (x1+1)),pf ((4:Int)≠0),pf (0≤((at1 x0 (x1+1)).tmod 4:Int)∧((at1 x0 (x1+1)).tmod 4:Int)<((4:Nat):Int)),pf (inR .i64 (((x2.people.getD (((at1 x0 x1).tmod ((x2.people.length:Nat):Int)).toNat) default).born)+([0,1,20,45].getD (((at1 x0 (x1+1)).tmod 4).toNat) default)))] [] [16,0,20,4,8,12] (rt [] (C11 (((x2.people.getD (((at1 x0 x1).tmod ((x2.people.length:Nat):Int)).toNat) default).born)+([0,1,20,45].getD (((at1 x0 (x1+1)).tmod 4).toNat) default)))))))
theorem zsl (x0:List Int) (x1:Int) (x2:Family) (hx:x0.length≤1048576) (hb:∀ y∈x0,0≤y∧y≤255) (hi:0≤x1∧x1≤900) (hf:za4 x2=true) (hn:0<x2.people.length):FnT Tryz.prog 11 [.ro false 1 x0.length (rowOf (cInt .u8) x0),.int .i64 x1,.agg (zbx false x2)] (C11 (zjk x0 x1 x2)):=by
 have aux:∀ R,zjk x0 x1 x2=R→slim (C11 R) (A11 x0 x1 x2) []:=by
  intro R hR
  refine rg ⟨by (intros;omega),by (have h9:=zgn hb hi.1 hf hn;(try simp only [inR]);omega),⟨by with_reducible assumption,by with_reducible assumption,by (intros;omega)⟩,trivial⟩ ?_
  refine rg ⟨by (have h9:=zgn hb hi.1 hf hn;(try simp only [inR]);omega),by (intros;omega),fun hg0=>⟨by with_reducible assumption,by with_reducible assumption,by (intros;omega)⟩,trivial⟩ ?_
  revert hR;refine cd (fun hc1 hR=>?_) fun hc1 hR=>?_
  ·
    refine rg ⟨by (have h9:=zgn hb hi.1 hf hn;(try simp only [inR]);omega),by (intros;omega),by ((try clear hR);intros;(try simp only [decide_eq_true_eq,decide_eq_false_iff_not,Bool.or_eq_true,Bool.and_eq_true,zbd,za9,zba,Bool.not_eq_true',inR] at *);(repeat' apply And.intro)<;>(have h9:=zgn hb hi.1 hf hn;have h8:=zti hb (i:=x1+2) om 3 om;intros;(try simp only [inR,decide_eq_true_eq] at *);omega)),by ((try clear hR);intros;(try simp only [decide_eq_true_eq,decide_eq_false_iff_not,Bool.or_eq_true,Bool.and_eq_true,zbd,za9,zba,Bool.not_eq_true',inR] at *);(repeat' apply And.intro)<;>(have h9:=zgn hb hi.1 hf hn;have h8:=zti hb (i:=x1+2) om 3 om;intros;(try simp only [inR,decide_eq_true_eq] at *);omega)),⟨by with_reducible assumption,by with_reducible assumption,by (intros;omega)⟩,trivial⟩ ?_
    exact congrArg C11 hR
  ·
    refine rg ⟨by (have h9:=zgn hb hi.1 hf hn;(try simp only [inR]);omega),by (intros;omega),by (have h9:=zgn hb hi.1 hf hn;have h8:=zti hb (i:=x1+1) om 4 om;(try simp only [inR,List.length_cons,List.length_nil]);omega),by (have h9:=zgn hb hi.1 hf hn;have h8:=zti hb (i:=x1+1) om 4 om;have h7:=zzi (i:=((at1 x0 (x1+1)).tmod 4).toNat) om;(try simp only [inR]);omega),trivial,⟨by with_reducible assumption,by with_reducible assumption,by (intros;omega)⟩,trivial⟩ ?_
    exact congrArg C11 hR
 exact Fn.go 50 Tryz.func11 zah zah (by simp [C11,Frs,FrsL]) (A11 x0 x1 x2) zah (aux _ rfl)
def k11 (x0:List Int) (x1:Int) (x2:Family):Cl:=(hres (C11 (zjk x0 x1 x2)),Go.Lite.k5 (zsl x0 x1 x2))
def C17 (R:Bool):LV×List (Nat×BC):=(.bool R,[])
def zcq (x0:List Int) (x1:List Int):Bool:=bif (!decide (((x0.length:Nat):Int)=((x1.length:Nat):Int))) then false else (loopN (fun i1 (v1:Unit) next=>bif (!decide ((x0.getD i1 default)=(x1.getD i1 default))) then false else (next ())) (fun (v1:Unit)=>true) x0.length 0 ())
def D17b1 (x0:List Int) (x1:List Int) (i1:Nat) (v1:Unit):Dl:=⟨[(13,.int .i64 ((i1:Nat):Int))],[]⟩
def A17b1 (x0:List Int) (x1:List Int) (i1:Nat) (v1:Unit):Ann:=r0 1 [0,1,4,12,13,14] [] (cn (decide (((i1:Nat):Int)<((x0.length:Nat):Int))) (r1 2 [0,1,4,12,13,24] [] [pf (0≤(((i1:Nat):Int):Int)∧(((i1:Nat):Int):Int)<((x0.length:Nat):Int)),pf (0≤(((i1:Nat):Int):Int)∧(((i1:Nat):Int):Int)<((x1.length:Nat):Int))] [0,4] (cn (!decide ((x0.getD i1 default)=(x1.getD i1 default))) (r0 1 [0,1,4,12,13] [] (rt [] (C17 false))) (r1 1 [0,1,4,12,13] [] [pf (inR .i64 (((i1:Nat):Int)+1))] [0] (.next 0 [] (D17b1 x0 x1 (i1+1) ()))))) (r0 1 [4] [] (rt [] (C17 true))))
def A17 (x0:List Int) (x1:List Int):Ann:=r0 1 [0,1,4] [] (r0 1 [0,1,4,10] [] (cn (!decide (((x0.length:Nat):Int)=((x1.length:Nat):Int))) (r0 1 [0,1,4] [] (rt [] (C17 false))) (r0 1 [0,1,4,12,13] [] (lp (D17b1 x0 x1) [] [] [] (D17b1 x0 x1 0 ()) (A17b1 x0 x1)))))
theorem zsm (x0:List Int) (x1:List Int) (hx:x0.length≤1048576):FnT Tryz.prog 17 [.ro false 1 x0.length (rowOf (cInt .i64) x0),.ro false 1 x1.length (rowOf (cInt .i64) x1)] (C17 (zcq x0 x1)):=by
 have aux:∀ R,zcq x0 x1=R→slim (C17 R) (A17 x0 x1) []:=by
  intro R hR
  refine rg trivial ?_
  refine rg trivial ?_
  revert hR;refine cd (fun hc1 hR=>?_) fun hc1 hR=>?_
  ·
    refine rg trivial ?_
    exact congrArg C17 hR
  ·
    refine rg trivial ?_
    revert hR;refine lN (fun i v=>True) zai rfl fun i1 v1 F1 hn1 hI1 hR hK1=>?_
    refine rg trivial ?_
    refine ⟨fun hc2=>?_,fun hc2=>?_⟩
    · have hii1:i1<x0.length:=by have:=of_decide_eq_true hc2;omega
      replace hR:=zbj hR hii1
      refine rg ⟨by (intros;omega),by ((try clear hR hK1);intros;(try simp only [decide_eq_true_eq,decide_eq_false_iff_not,Bool.or_eq_true,Bool.and_eq_true,zbd,za9,zba,Bool.not_eq_true',inR] at *);(repeat' apply And.intro)<;>(intros;omega)),trivial⟩ ?_
      revert hR;refine cd (fun hc3 hR=>?_) fun hc3 hR=>?_
      ·
        refine rg trivial ?_
        exact congrArg C17 hR
      ·
        refine rg ⟨by ( intros;simp only [inR];omega),trivial⟩ ?_
        exact hK1 () hii1 zai hR
    · obtain rfl:i1=x0.length:=by have:=of_decide_eq_false hc2;omega
      replace hR:=zbp hR (Nat.lt_irrefl _)
      refine rg trivial ?_
      exact congrArg C17 hR
 exact Fn.go 26 Tryz.func17 zah zah (by simp [C17,Frs,FrsL]) (A17 x0 x1) zah (aux _ rfl)
def k17 (x0:List Int) (x1:List Int):Cl:=(hres (C17 (zcq x0 x1)),k1 (zsm x0 x1))
theorem z0k (n:Int):0≤IntKind.wrap .u8 n∧IntKind.wrap .u8 n≤255:=by
 simp only [IntKind.wrap,IntKind.signed,IntKind.bits]
 simp
 omega
theorem zyb (x:Int):∀ y∈[IntKind.wrap .u8 x],0≤y∧y≤255:=fun y hy=>by rw [List.mem_singleton.1 hy];exact z0k x
theorem zz6 {l:List Int} (h:∀ y∈l,0≤y∧y≤255) (x:Int):∀ y∈l++[IntKind.wrap .u8 x],0≤y∧y≤255:=fun y hy=>by
 rcases List.mem_append.1 hy with hy | hy
 ·exact h y hy
 ·exact zyb x y hy
def C7 (R:(List Int)):LV×List (Nat×BC):=(.own 0,[(0,.arr 1 R.length (rowOf (cInt .u8) R))])
def zco (x0:List Int) (x1:Int):(List Int):=loopW (fun (v1:(List Int)×Int) next=>bif ((decide (v1.2<((x0.length:Nat):Int)))&&(decide (v1.2<600))) then (next ((v1.1++[IntKind.wrap .u8 (((IntKind.wrap .i64 (x0.getD v1.2.toNat default)) * 3)+(x1 * ((v1.2.tmod 7)+1)))]),v1.2+1)) else v1.1) ((600 - (0:Int)).toNat+1) ([IntKind.wrap .u8 x1],0)
def D7b1 (x0:List Int) (x1:Int) (v1:(List Int)×Int):Dl:=⟨[(5,.own 20005),(6,.int .i64 v1.2)],[(20005,.arr 1 v1.1.length (rowOf (cInt .u8) v1.1))]⟩
def A7b1 (x0:List Int) (x1:Int) (v1:(List Int)×Int):Ann:=.reg 1 [] [] [0,1,4,5,6,17] [20005] [decide (v1.2<((x0.length:Nat):Int))] [] [] [1,1] (cn ((decide (v1.2<((x0.length:Nat):Int)))&&(decide (v1.2<600))) (.reg 1 [(5,.wrap),(13,.wrap)] [(14,bsC 34 (cInt .u8) ([IntKind.wrap .u8 (((IntKind.wrap .i64 (x0.getD v1.2.toNat default)) * 3)+(x1 * ((v1.2.tmod 7)+1)))]:List Int)),(15,ap1 35 (cInt .u8) 1 v1.1 (IntKind.wrap .u8 (((IntKind.wrap .i64 (x0.getD v1.2.toNat default)) * 3)+(x1 * ((v1.2.tmod 7)+1)))))] [0,1,4,5,6] [35] [] [pf (0≤(v1.2:Int)∧(v1.2:Int)<((x0.length:Nat):Int)),pf (inR .i64 ((IntKind.wrap .i64 (x0.getD v1.2.toNat default)) * 3)),pf ((7:Int)≠0),pf (inR .i64 ((v1.2.tmod 7)+1)),pf (inR .i64 (x1 * ((v1.2.tmod 7)+1))),pf (inR .i64 (((IntKind.wrap .i64 (x0.getD v1.2.toNat default)) * 3)+(x1 * ((v1.2.tmod 7)+1))))] [] [0,4,8,12,16,20,24,28] (r1 1 [0,1,4,5,6] [35] [pf (inR .i64 (v1.2+1))] [0] (.next 0 [(20005,some 35)] (D7b1 x0 x1 ((v1.1++[IntKind.wrap .u8 (((IntKind.wrap .i64 (x0.getD v1.2.toNat default)) * 3)+(x1 * ((v1.2.tmod 7)+1)))]),v1.2+1))))) (r0 1 [4] [20005] (rt [(0,some 20005)] (C7 v1.1))))
def A7 (x0:List Int) (x1:Int):Ann:=.reg 2 [(1001,.wrap)] [(1002,bsC 9 (cInt .u8) ([IntKind.wrap .u8 x1]:List Int))] [0,1,4,5] [9] [] [] [] [0] (r0 1 [0,1,4,5,6] [9] (.loop ((List Int)×Int) (D7b1 x0 x1) [] [9] [(20005,some 9)] (D7b1 x0 x1 ([IntKind.wrap .u8 x1],0)) (A7b1 x0 x1)))
theorem zgu (b:List Int) (s:Int):(zco b s).length≤1048576∧∀ y∈zco b s,0≤y∧y≤255:=by
 unfold zco
 refine ze0 (fun (v:(List Int)×Int)=>(0≤v.2∧v.2≤600∧v.1.length=v.2.toNat+1)∧∀ y∈v.1,0≤y∧y≤255) (fun v=>(600 - v.2).toNat) (fun (r:List Int)=>r.length≤1048576∧∀ y∈r,0≤y∧y≤255) (fun v next hv hn=>?_) _ _ (Nat.lt_succ_self _) ⟨by simp,zyb s⟩
 refine zbm (p:=fun (r:List Int)=>r.length≤1048576∧∀ y∈r,0≤y∧y≤255) (fun c=>?_) (fun _=>⟨om,hv.2⟩)
 simp only [Bool.and_eq_true,decide_eq_true_eq] at c
 exact hn _ ⟨by simp only [List.length_append,List.length_singleton];omega,zz6 hv.2 _⟩ zay
theorem zrd (x0:List Int) (x1:Int) (hx:x0.length≤1048576) (hb:∀ y∈x0,0≤y∧y≤255) (hs:0≤x1∧x1≤255):FnT Tryz.prog 7 [.ro false 1 x0.length (rowOf (cInt .u8) x0),.int .i64 x1] (C7 (zco x0 x1)):=by
 have aux:∀ R,zco x0 x1=R→slim (C7 R) (A7 x0 x1) []:=by
  intro R hR
  refine rg ⟨trivial,trivial⟩ ?_
  refine rg trivial ?_
  revert hR;refine lW (fun v=>(0≤v.2∧v.2≤600∧v.1.length=v.2.toNat+1)∧∀ y∈v.1,0≤y∧y≤255) (fun v=>(600 - (v.2:Int)).toNat) (by (exact ⟨by simp,zyb x1⟩)) (Nat.lt_succ_self _) rfl fun m1 v1 F1 hI1 hM1 hR hK1=>?_
  refine rg trivial ?_
  revert hR;refine cd (fun hc1 hR=>?_) fun hc1 hR=>?_
  ·
    refine rg ⟨by (simp only [Bool.and_eq_true,decide_eq_true_eq] at hc1;(try dsimp only);(try simp only [inR]);omega),by (simp only [Bool.and_eq_true,decide_eq_true_eq] at hc1;have h9:=zew hb v1.2.toNat;have h8:(v1.2).tmod 7=v1.2 % 7:=Int.tmod_eq_emod_of_nonneg om;have h7:=zf4 (n:=x0.getD v1.2.toNat default) om;have h6:0≤x1 * (v1.2 % 7+1)∧x1 * (v1.2 % 7+1)≤255 * 7:=⟨Int.mul_nonneg om om,Int.mul_le_mul om om om om⟩;(first | rw [h7,h8] | rw [h7] | rw [h8]);simp only [inR];omega),by (intros;omega),by (simp only [Bool.and_eq_true,decide_eq_true_eq] at hc1;have h9:=zew hb v1.2.toNat;have h8:(v1.2).tmod 7=v1.2 % 7:=Int.tmod_eq_emod_of_nonneg om;have h7:=zf4 (n:=x0.getD v1.2.toNat default) om;have h6:0≤x1 * (v1.2 % 7+1)∧x1 * (v1.2 % 7+1)≤255 * 7:=⟨Int.mul_nonneg om om,Int.mul_le_mul om om om om⟩;(first | rw [h7,h8] | rw [h7] | rw [h8]);simp only [inR];omega),by (simp only [Bool.and_eq_true,decide_eq_true_eq] at hc1;have h9:=zew hb v1.2.toNat;have h8:(v1.2).tmod 7=v1.2 % 7:=Int.tmod_eq_emod_of_nonneg om;have h7:=zf4 (n:=x0.getD v1.2.toNat default) om;have h6:0≤x1 * (v1.2 % 7+1)∧x1 * (v1.2 % 7+1)≤255 * 7:=⟨Int.mul_nonneg om om,Int.mul_le_mul om om om om⟩;(first | rw [h7,h8] | rw [h7] | rw [h8]);simp only [inR];omega),by (simp only [Bool.and_eq_true,decide_eq_true_eq] at hc1;have h9:=zew hb v1.2.toNat;have h8:(v1.2).tmod 7=v1.2 % 7:=Int.tmod_eq_emod_of_nonneg om;have h7:=zf4 (n:=x0.getD v1.2.toNat default) om;have h6:0≤x1 * (v1.2 % 7+1)∧x1 * (v1.2 % 7+1)≤255 * 7:=⟨Int.mul_nonneg om om,Int.mul_le_mul om om om om⟩;(first | rw [h7,h8] | rw [h7] | rw [h8]);simp only [inR];omega),trivial,om,trivial⟩ ?_
    refine rg ⟨by (simp only [Bool.and_eq_true,decide_eq_true_eq] at hc1;(try dsimp only);(try simp only [inR]);omega),trivial⟩ ?_
    exact hK1 ((v1.1++[IntKind.wrap .u8 (((IntKind.wrap .i64 (x0.getD v1.2.toNat default)) * 3)+(x1 * ((v1.2.tmod 7)+1)))]),v1.2+1) (by (simp only [Bool.and_eq_true,decide_eq_true_eq] at hc1;dsimp only;exact ⟨by simp only [List.length_append,List.length_singleton];omega,zz6 hI1.2 _⟩)) (by (simp only [Bool.and_eq_true,decide_eq_true_eq] at hc1;(try dsimp only);(try simp only [inR]);omega)) hR
  ·
    refine rg trivial ?_
    exact congrArg C7 hR
 exact Fn.go 37 Tryz.func7 zah zah (by simp [C7,Frs,FrsL,FrsB,rowOf,cInt,cBool,cStr,cSl,zce,zbq,zb4,zbx,cDyad,cLaw,zd4]) (A7 x0 x1) zah (aux _ rfl)
def k7 (x0:List Int) (x1:Int):Cl:=(hres (C7 (zco x0 x1)),k3 (zrd x0 x1))
end Go.Proofs.YtaageiiodlfeiaaGreat
