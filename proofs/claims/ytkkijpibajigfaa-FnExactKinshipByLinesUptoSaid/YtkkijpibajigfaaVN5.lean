import Derived.Test.YtkkijpibajigfaaM244
set_option maxHeartbeats 4000000
set_option linter.unusedSimpArgs false
set_option linter.unusedVariables false
namespace Go.Proofs.Ytkkijpibajigfaa
open Go Go.Lite Go.Proofs
def wq (f:Family) (q:Int) (l m:List Int):Int:=bif apt l m then tq f q / 2 ^ (l.length+m.length - 1) else 0
def dl (f:Family) (q p:Int):List (List Int):=(specDescent f q p).1
theorem inb_rng {f:Family} (hf:specIsFamily f=true) {q:Int} (hq:0≤q∧q<f.people.length):0≤inb f q∧inb f q≤1099511627776:=by
 unfold inb
 cases c:(decide (0≤(f.people.getD q.toNat default).father) && decide (0≤(f.people.getD q.toNat default).mother)) with
 | false=>rw [cond_false];omega
 | true =>
  have h2:=two_par3 hf hq c
  exact (kn_rng hf (a:=(f.people.getD q.toNat default).father) (b:=(f.people.getD q.toNat default).mother) (by omega) (by omega)).1
theorem inb_dvd {f:Family} (hf:specIsFamily f=true) {q:Int} (hq:0≤q∧q<f.people.length):(2:Int) ^ (41 - 2 * dd f q).toNat ∣ inb f q:=by
 have hn:=(fam_n hf).1
 unfold inb
 cases c:(decide (0≤(f.people.getD q.toNat default).father) && decide (0≤(f.people.getD q.toNat default).mother)) with
 | false=>exact Int.dvd_zero _
 | true =>
  have h2:=two_par3 hf hq c
  have d1:=(dd_par hf hq (q:=(f.people.getD q.toNat default).father) ⟨h2.1.1,.inl rfl⟩).2
  have d2:=(dd_par hf hq (q:=(f.people.getD q.toNat default).mother) ⟨h2.2.1,.inr rfl⟩).2
  have h3:=(kf_props hf 100 (f.people.getD q.toNat default).father (f.people.getD q.toNat default).mother (by omega) (by omega) (by omega)).2
  rw [cond_true]
  exact Int.dvd_trans (two_dvd (by omega)) h3
theorem tq_rng {f:Family} (hf:specIsFamily f=true) {q:Int} (hq:0≤q∧q<f.people.length):0≤tq f q∧tq f q≤2199023255552:=by
 have:=inb_rng hf hq;unfold tq;omega
theorem tq_dvd {f:Family} (hf:specIsFamily f=true) {q a b:Int} {l m:List Int} (ha:0≤a∧a<f.people.length) (hb:0≤b∧b<f.people.length) (hl:Ln f a q l) (hm:Ln f b q m):(2:Int) ^ (l.length+m.length - 1) ∣ tq f q∧(2≤l.length+m.length∧l.length+m.length≤22):=by
 have hq:=hl.rng hf ha
 have k1:=hl.le_len hf ha
 have k2:=hm.le_len hf hb
 have d1:=dd_rng hf ha
 have d2:=dd_rng hf hb
 have d3:=dd_rng hf (a:=q) (by omega)
 refine ⟨?_,by omega⟩
 unfold tq
 refine Int.dvd_add ?_ (Int.dvd_trans (two_dvd (by omega)) (inb_dvd hf (q:=q) (by omega)))
 rw [show (1099511627776:Int)=2 ^ 40 by rfl]
 exact two_dvd (by omega)
theorem wq_nn {f:Family} (hf:specIsFamily f=true) {q:Int} (hq:0≤q∧q<f.people.length) (l m:List Int):0≤wq f q l m:=by
 unfold wq
 cases apt l m with
 | false=>exact Int.le_refl 0
 | true=>exact Int.ediv_nonneg (tq_rng hf hq).1 (Int.le_of_lt (pow_pos2 _))
theorem wq_ww {f:Family} (hf:specIsFamily f=true) {q a b:Int} {l m:List Int} (ha:0≤a∧a<f.people.length) (hb:0≤b∧b<f.people.length) (hl:Ln f a q l) (hm:Ln f b q m):2 ^ 100 * wq f q l m=ww f q l m:=by
 obtain ⟨⟨c,hc⟩,hlen⟩:=tq_dvd hf ha hb hl hm
 unfold wq ww
 cases apt l m with
 | false=>rfl
 | true =>
  rw [cond_true,cond_true,hc,Int.mul_ediv_cancel_left _ (Int.ne_of_gt (pow_pos2 _))]
  rw [Int.mul_comm (2 ^ (l.length+m.length - 1)) c,Int.mul_assoc,← Int.pow_add,show l.length+m.length - 1+(101 - (l.length+m.length))=100 by omega,Int.mul_comm]
theorem dl_ok {f:Family} (hf:specIsFamily f=true) {q p:Int} (hq:0≤q∧q<f.people.length) (hp:0≤p∧p<f.people.length):((specDescent f q p).2=true→(dl f q p).Perm (al f q 100 p))∧((specDescent f q p).2=false→dl f q p=[]):=by
 have hn:=(fam_n hf).1
 unfold dl specDescent
 rw [(l1Has_iff f q).2 ⟨hq,hf⟩,(l1Has_iff f p).2 ⟨hp,hf⟩]
 rw [Bool.not_true,Bool.or_false,cond_false]
 obtain ⟨s1,s2,s3⟩:=l8_ok hf (k:=100) hp 100 q (by omega) hq
 unfold l8Lines
 generalize l8Lines_r 100 f q p 100=S at s1 s2 s3
 cases c:decide (100<((S.length:Nat):Int)) with
 | true=>exact ⟨fun h=>(by cases h),fun _=>rfl⟩
 | false =>
  have c:=of_decide_eq_false c
  refine ⟨fun _=>(List.perm_ext_iff_of_nodup (pw_nodup s2) (al_nodup hf q 100 p (by omega) hp)).2 fun l=>?_,fun h=>(by cases h)⟩
  rw [al_mem hf q 100 p (by omega) hp]
  exact ⟨s1 l,s3 (by omega) l⟩
theorem dl_ln {f:Family} (hf:specIsFamily f=true) {q p:Int} (hq:0≤q∧q<f.people.length) (hp:0≤p∧p<f.people.length) {l:List Int} (hl:l ∈ dl f q p):Ln f p q l:=by
 have hn:=(fam_n hf).1
 cases c:(specDescent f q p).2 with
 | false=>rw [(dl_ok hf hq hp).2 c] at hl;cases hl
 | true=>exact (al_mem hf q 100 p (by omega) hp l).1 (((dl_ok hf hq hp).1 c).mem_iff.1 hl)
theorem dl_le {f:Family} (hf:specIsFamily f=true) {q p:Int} (hq:0≤q∧q<f.people.length) (hp:0≤p∧p<f.people.length) {g:List Int→Int} (hg:∀ l,0≤g l):sumL g (dl f q p)≤sumL g (al f q 100 p):=by
 cases c:(specDescent f q p).2 with
 | false=>rw [(dl_ok hf hq hp).2 c];exact sumL_nn fun l _=>hg l
 | true=>rw [sumL_perm ((dl_ok hf hq hp).1 c)];exact Int.le_refl _
theorem sumL_le {α : Type} {g h : α → Int} : ∀ {l : List α}, (∀ x ∈ l, g x ≤ h x) → sumL g l ≤ sumL h l
  | [],_=>Int.le_refl 0
  | x :: l,e=>by
    have h1:=e x (List.mem_cons_self ..)
    have h2:=sumL_le fun y hy=>e y (List.mem_cons_of_mem _ hy)
    rw [sumL,sumL];omega
def P3 (f:Family) (q b:Int) (l:List Int) (k:Nat):Int:=sumL (wq f q l) ((dl f q b).take k)
def P2 (f:Family) (q a b:Int) (j:Nat):Int:=sumL (fun l=>sumL (wq f q l) (dl f q b)) ((dl f q a).take j)
def P1 (f:Family) (a b:Int) (i:Nat):Int:=sumL (fun q=>sumL (fun l=>sumL (wq f q l) (dl f q b)) (dl f q a)) ((l8Common f a b).take i)
theorem common_nodup (f:Family) (a b:Int):(l8Common f a b).Nodup:=by
 unfold l8Common
 refine loopN_to (fun i (v:List Int)=>v.Nodup∧∀ q ∈ v,q<i) (fun (v:List Int)=>v.Nodup) ⟨List.nodup_nil,fun q hq=>(by cases hq)⟩ (fun i v next hi hv hn=>?_) (fun v hv=>hv.1)
 refine cond_both (p:=fun (v:List Int)=>v.Nodup) (fun c=>hn _ ⟨?_,fun q hq=>?_⟩) (fun _=>hn _ ⟨hv.1,fun q hq=>by have:=hv.2 q hq;omega⟩)
 ·rw [List.nodup_append]
  refine ⟨hv.1,by simp,fun x hx y hy e=>?_⟩
  have:=hv.2 x hx
  rw [List.mem_singleton] at hy
  omega
 ·rcases List.mem_append.1 hq with hq | hq
  ·have:=hv.2 q hq;omega
  ·rw [List.mem_singleton.1 hq];omega
theorem W_wq {f:Family} (hf:specIsFamily f=true) {a b:Int} (ha:0≤a∧a<f.people.length) (hb:0≤b∧b<f.people.length):sumL (fun q=>sumL (fun l=>sumL (wq f q l) (al f q 100 b)) (al f q 100 a)) (l8Common f a b)=kn f a b:=by
 have hn:=(fam_n hf).1
 have h1:=W_kn hf 100 a b ha hb (by omega)
 have h2:2 ^ 100 * sumL (fun q=>sumL (fun l=>sumL (wq f q l) (al f q 100 b)) (al f q 100 a)) (l8Common f a b)=wsum f a b:=by
  unfold wsum
  rw [← sumL_common (L:=l8Common f a b) (common_nodup f a b) (fun q hq=>by have:=(l8Common_mem f a b).2 q hq;omega) (fun q hq=>?_),← sumL_mul]
  ·refine sumL_congr fun q _=>?_
   rw [← sumL_mul]
   refine sumL_congr fun l hl=>?_
   rw [← sumL_mul]
   refine sumL_congr fun m hm=>?_
   exact wq_ww hf ha hb ((al_mem hf q 100 a (by omega) ha l).1 hl) ((al_mem hf q 100 b (by omega) hb m).1 hm)
  ·refine sumL_zero fun l hl=>sumL_zero fun m hm=>absurd ((l8Common_iff hf ha hb q).2 ⟨((al_mem hf q 100 a (by omega) ha l).1 hl).above,((al_mem hf q 100 b (by omega) hb m).1 hm).above⟩) hq
 rw [h1] at h2
 exact Int.eq_of_mul_eq_mul_left (by decide) h2
theorem P1_le {f:Family} (hf:specIsFamily f=true) {a b:Int} (ha:0≤a∧a<f.people.length) (hb:0≤b∧b<f.people.length):P1 f a b (l8Common f a b).length≤kn f a b:=by
 unfold P1
 rw [List.take_length,← W_wq hf ha hb]
 refine sumL_le fun q hq=>?_
 have hq:=(l8Common_mem f a b).2 q hq
 refine Int.le_trans (dl_le hf (by omega) ha fun l=>sumL_nn fun m _=>wq_nn hf (q:=q) (by omega) l m) ?_
 exact sumL_le fun l _=>dl_le hf (by omega) hb fun m=>wq_nn hf (q:=q) (by omega) l m
theorem P1_eq {f:Family} (hf:specIsFamily f=true) {a b:Int} (ha:0≤a∧a<f.people.length) (hb:0≤b∧b<f.people.length) (hok:∀ q ∈ l8Common f a b,(specDescent f q a).2=true∧(specDescent f q b).2=true):P1 f a b (l8Common f a b).length=kn f a b:=by
 unfold P1
 rw [List.take_length,← W_wq hf ha hb]
 refine sumL_congr fun q hq=>?_
 have h:=hok q hq
 have hq:=(l8Common_mem f a b).2 q hq
 rw [sumL_perm ((dl_ok hf (by omega) ha).1 h.1)]
 exact sumL_congr fun l _=>sumL_perm ((dl_ok hf (by omega) hb).1 h.2)
theorem P_rng {f : Family} (hf : specIsFamily f = true) {a b : Int} (ha : 0 ≤ a ∧ a < f.people.length) (hb : 0 ≤ b ∧ b < f.people.length) {i j k : Nat} (hi : i < (l8Common f a b).length) (hj : j < (dl f ((l8Common f a b).getD i default) a).length) :
    0≤P1 f a b i+P2 f ((l8Common f a b).getD i default) a b j+P3 f ((l8Common f a b).getD i default) b ((dl f ((l8Common f a b).getD i default) a).getD j default) k∧P1 f a b i+P2 f ((l8Common f a b).getD i default) a b j+P3 f ((l8Common f a b).getD i default) b ((dl f ((l8Common f a b).getD i default) a).getD j default) k≤1099511627776:=by
 have hqm:=(l8Common_mem f a b).2
 have hq:=hqm _ (getD_mem (d:=default) hi)
 have nn:∀ q ∈ l8Common f a b,∀ l m,0≤wq f q l m:=fun q hq l m=>wq_nn hf (by have:=hqm q hq;omega) l m
 have hql:=getD_mem (d:=(default:Int)) hi
 have e0:=P1_le hf ha hb
 have e1:P1 f a b (i+1)=P1 f a b i+sumL (fun l=>sumL (wq f ((l8Common f a b).getD i default) l) (dl f ((l8Common f a b).getD i default) b)) (dl f ((l8Common f a b).getD i default) a):=sumL_snoc _ _ hi default
 have e2:P1 f a b (i+1)≤P1 f a b (l8Common f a b).length:=by
  unfold P1;rw [List.take_length]
  exact sumL_take (fun q hq=>sumL_nn fun l _=>sumL_nn fun m _=>nn q hq l m) _
 have n1:0≤P1 f a b i:=sumL_nn fun q hq=>sumL_nn fun l _=>sumL_nn fun m _=>nn q (List.mem_of_mem_take hq) l m
 have hk:=(kn_rng hf ha hb).1.2
 generalize (l8Common f a b).getD i default=q at *
 have e3:P2 f q a b (j+1)=P2 f q a b j+sumL (wq f q ((dl f q a).getD j default)) (dl f q b):=sumL_snoc _ _ hj default
 have e4:P2 f q a b (j+1)≤sumL (fun l=>sumL (wq f q l) (dl f q b)) (dl f q a):=sumL_take (fun l _=>sumL_nn fun m _=>nn q hql l m) _
 have n2:0≤P2 f q a b j:=sumL_nn fun l _=>sumL_nn fun m _=>nn q hql l m
 have e5:P3 f q b ((dl f q a).getD j default) k≤sumL (wq f q ((dl f q a).getD j default)) (dl f q b):=sumL_take (fun m _=>nn q hql _ m) _
 have n3:0≤P3 f q b ((dl f q a).getD j default) k:=sumL_nn fun m _=>nn q hql _ m
 omega
theorem dy_part {n:Int} {k:Nat} (hn:0≤n) (h2:(2:Int) ^ k ∣ n):l8Reduce (dy n).num ((dy n).exp+k)=dy (n / 2 ^ k):=by
 obtain ⟨j,i,h1,h2',h3,h4,h5⟩:=red_val 40 n hn
 obtain ⟨c,hc⟩:=h2
 have hp:=pow_pos2 k
 have hc0:0≤c:=by
  rcases Int.lt_or_le c 0 with h | h
  ·have:=Int.mul_neg_of_pos_of_neg hp h;omega
  ·exact h
 have e:n / 2 ^ k=c:=by rw [hc,Int.mul_ediv_cancel_left _ (Int.ne_of_gt hp)]
 rw [e]
 unfold dy
 rw [h1,show (j:Int)+(k:Int)=((j+k:Nat):Int) by omega,l8Reduce_eq h4]
 rcases Nat.lt_or_ge i k with hik | hik
 ·have hs:n=(red n 40).num * 2 ^ i:=h3.symm
  rw [← red_pow c 40 k,show 40+k=(j+k)+i by omega,show c * 2 ^ k=(red n 40).num * 2 ^ i by rw [h3,hc,Int.mul_comm],red_pow]
 ·rw [← red_pow (red n 40).num (j+k) (i - k),show j+k+(i - k)=40 by omega]
  congr 1
  have:(red n 40).num * 2 ^ (i - k) * 2 ^ k=c * 2 ^ k:=by
   rw [Int.mul_assoc,← Int.pow_add,show i - k+k=i by omega,h3,hc,Int.mul_comm]
  exact Int.eq_of_mul_eq_mul_right (Int.ne_of_gt hp) this
def C113 (R:Bool):LV×List (Nat×BC):=(.bool R,[])
def hasInt (x0:List Int) (x1:Int):Bool:=loopN (fun i1 (v1:Unit) next=>bif (decide ((x0.getD i1 default)=x1)) then true else (next ())) (fun (v1:Unit)=>false) x0.length 0 ()
def D113b1 (x0:List Int) (x1:Int) (i1:Nat) (v1:Unit):Dl:=⟨[(9,.int .i64 ((i1:Nat):Int))],[]⟩
def A113b1 (x0:List Int) (x1:Int) (i1:Nat) (v1:Unit):Ann:=r0 1 [1,4,7,8,9,10] [] (cn (decide (((i1:Nat):Int)<((x0.length:Nat):Int))) (r1 2 [1,4,7,8,9,15] [] [pf (0≤(((i1:Nat):Int):Int)∧(((i1:Nat):Int):Int)<((x0.length:Nat):Int))] [0] (cn (decide ((x0.getD i1 default)=x1)) (r0 1 [1,4,7,8,9] [] (rt [] (C113 true))) (r1 1 [1,4,7,8,9] [] [pf (inR .i64 (((i1:Nat):Int)+1))] [0] (.next 0 [] (D113b1 x0 x1 (i1+1) ()))))) (r0 1 [4] [] (rt [] (C113 false))))
def A113 (x0:List Int) (x1:Int):Ann:=r0 1 [0,1,4] [] (r0 1 [1,4,7,8,9] [] (lp (D113b1 x0 x1) [] [] [] (D113b1 x0 x1 0 ()) (A113b1 x0 x1)))
theorem ok_impl_hasInt (x0:List Int) (x1:Int) (hx:x0.length≤1048576):FnT Try.prog 113 [.ro false 1 x0.length (rowOf (cInt .i64) x0),.int .i64 x1] (C113 (hasInt x0 x1)):=by
 have aux:∀ R,hasInt x0 x1=R→slim (C113 R) (A113 x0 x1) []:=by
  intro R hR
  refine rg trivial ?_
  refine rg trivial ?_
  revert hR;refine lN (fun i v=>True) (by trivial) rfl fun i1 v1 F1 hn1 hI1 hR hK1=>?_
  refine rg trivial ?_
  refine ⟨fun hc1=>?_,fun hc1=>?_⟩
  ·have hii1:i1<x0.length:=by have:=of_decide_eq_true hc1;omega
   replace hR:=loopN_step hR hii1
   refine rg ⟨by (intros;omega),trivial⟩ ?_
   revert hR;refine cd (fun hc2 hR=>?_) fun hc2 hR=>?_
   ·
     refine rg trivial ?_
     exact congrArg C113 hR
   ·
     refine rg ⟨by ( intros;simp only [inR];omega),trivial⟩ ?_
     exact hK1 () hii1 (by trivial) hR
  ·obtain rfl:i1=x0.length:=by have:=of_decide_eq_false hc1;omega
   replace hR:=loopN_end hR (Nat.lt_irrefl _)
   refine rg trivial ?_
   exact congrArg C113 hR
 exact Fn.go 17 Try.func113 (by kernel_rfl) (by kernel_rfl) (by simp [C113,Frs,FrsL]) (A113 x0 x1) (by kernel_rfl) (aux _ rfl)
def k113 (x0:List Int) (x1:Int):Cl:=(hres (C113 (hasInt x0 x1)),k1 (ok_impl_hasInt x0 x1))
def C75 (R:Bool):LV×List (Nat×BC):=(.bool R,[])
def implApart (x0:List Int) (x1:List Int):Bool:=loopN (fun i1 (v1:Unit) next=>bif (hasInt x1 (x0.getD i1 default)) then false else (next ())) (fun (v1:Unit)=>true) x0.length 0 ()
def D75b1 (x0:List Int) (x1:List Int) (i1:Nat) (v1:Unit):Dl:=⟨[(9,.int .i64 ((i1:Nat):Int))],[]⟩
def A75b1 (x0:List Int) (x1:List Int) (i1:Nat) (v1:Unit):Ann:=r0 1 [1,4,7,8,9,10] [] (cn (decide (((i1:Nat):Int)<((x0.length:Nat):Int))) (.reg 2 [] [(1002,k113 x1 (x0.getD i1 default))] [1,4,7,8,9,15] [] [] [pf (0≤(((i1:Nat):Int):Int)∧(((i1:Nat):Int):Int)<((x0.length:Nat):Int))] [] [0,4] (cn (hasInt x1 (x0.getD i1 default)) (r0 1 [1,4,7,8,9] [] (rt [] (C75 false))) (r1 1 [1,4,7,8,9] [] [pf (inR .i64 (((i1:Nat):Int)+1))] [0] (.next 0 [] (D75b1 x0 x1 (i1+1) ()))))) (r0 1 [4] [] (rt [] (C75 true))))
def A75 (x0:List Int) (x1:List Int):Ann:=r0 1 [0,1,4] [] (r0 1 [1,4,7,8,9] [] (lp (D75b1 x0 x1) [] [] [] (D75b1 x0 x1 0 ()) (A75b1 x0 x1)))
theorem ok_impl_apart (x0:List Int) (x1:List Int) (hx:x0.length≤1000) (hy:x1.length≤1000):FnT Try.prog 75 [.ro false 1 x0.length (rowOf (cInt .i64) x0),.ro false 1 x1.length (rowOf (cInt .i64) x1)] (C75 (implApart x0 x1)):=by
 have aux:∀ R,implApart x0 x1=R→slim (C75 R) (A75 x0 x1) []:=by
  intro R hR
  refine rg trivial ?_
  refine rg trivial ?_
  revert hR;refine lN (fun i v=>True) (by trivial) rfl fun i1 v1 F1 hn1 hI1 hR hK1=>?_
  refine rg trivial ?_
  refine ⟨fun hc1=>?_,fun hc1=>?_⟩
  ·have hii1:i1<x0.length:=by have:=of_decide_eq_true hc1;omega
   replace hR:=loopN_step hR hii1
   refine rg ⟨by (intros;omega),by (intros;omega),trivial⟩ ?_
   revert hR;refine cd (fun hc2 hR=>?_) fun hc2 hR=>?_
   ·
     refine rg trivial ?_
     exact congrArg C75 hR
   ·
     refine rg ⟨by ( intros;simp only [inR];omega),trivial⟩ ?_
     exact hK1 () hii1 (by trivial) hR
  ·obtain rfl:i1=x0.length:=by have:=of_decide_eq_false hc1;omega
   replace hR:=loopN_end hR (Nat.lt_irrefl _)
   refine rg trivial ?_
   exact congrArg C75 hR
 exact Fn.go 17 Try.func75 (by kernel_rfl) (by kernel_rfl) (by simp [C75,Frs,FrsL]) (A75 x0 x1) (by kernel_rfl) (aux _ rfl)
def k75 (x0:List Int) (x1:List Int):Cl:=(hres (C75 (implApart x0 x1)),k2 (ok_impl_apart x0 x1))
def C72 (R:Bool):LV×List (Nat×BC):=(.bool R,[])
def l8Apart (x0:List Int) (x1:List Int):Bool:=loopN (fun i1 (v1:Unit) nx1=>loopN (fun i2 (v2:Unit) next=>bif (decide ((((x0.drop 1).take (x0.length - 1)).getD i1 default)=(((x1.drop 1).take (x1.length - 1)).getD i2 default))) then false else (next ())) (fun (v2:Unit)=>nx1 ()) (((x1.drop 1).take (x1.length - 1)).length) 0 ()) (fun (v1:Unit)=>true) (((x0.drop 1).take (x0.length - 1)).length) 0 ()
def D72b1 (x0:List Int) (x1:List Int) (i1:Nat) (v1:Unit):Dl:=⟨[(12,.int .i64 ((i1:Nat):Int))],[]⟩
def D72b2 (x0:List Int) (x1:List Int) (i1:Nat) (v1:Unit) (i2:Nat) (v2:Unit):Dl:=⟨[(19,.int .i64 ((i2:Nat):Int))],[]⟩
def A72b2 (x0:List Int) (x1:List Int) (i1:Nat) (v1:Unit) (i2:Nat) (v2:Unit):Ann:=r0 1 [1,4,6,10,11,12,17,18,19,20] [] (cn (decide (((i2:Nat):Int)<((((x1.drop 1).take (x1.length - 1)).length:Nat):Int))) (r1 2 [1,4,6,10,11,12,17,18,19,25] [] [pf (0≤(((i2:Nat):Int):Int)∧(((i2:Nat):Int):Int)<((((x1.drop 1).take (x1.length - 1)).length:Nat):Int))] [0] (cn (decide ((((x0.drop 1).take (x0.length - 1)).getD i1 default)=(((x1.drop 1).take (x1.length - 1)).getD i2 default))) (r0 1 [1,4,6,10,11,12,17,18,19] [] (rt [] (C72 false))) (r1 1 [1,4,6,10,11,12,17,18,19] [] [pf (inR .i64 (((i2:Nat):Int)+1))] [0] (.next 0 [] (D72b2 x0 x1 i1 v1 (i2+1) ()))))) (r1 1 [1,4,10,11,12] [] [pf (inR .i64 (((i1:Nat):Int)+1))] [0] (.next 1 [] (D72b1 x0 x1 (i1+1) ()))))
def A72b1 (x0:List Int) (x1:List Int) (i1:Nat) (v1:Unit):Ann:=r0 1 [1,4,10,11,12,13] [] (cn (decide (((i1:Nat):Int)<((((x0.drop 1).take (x0.length - 1)).length:Nat):Int))) (.reg 2 [] [(1001,slC 17 (cInt .i64) x1.length (1) (((x1.length:Nat):Int)) 1 (x1.length - 1) x1 rfl rfl)] [1,4,6,10,11,12,17,18,19] [] [] [pf (0≤(((i1:Nat):Int):Int)∧(((i1:Nat):Int):Int)<((((x0.drop 1).take (x0.length - 1)).length:Nat):Int))] [] [0,4] (lp (D72b2 x0 x1 i1 v1) [] [] [] (D72b2 x0 x1 i1 v1 0 ()) (A72b2 x0 x1 i1 v1))) (r0 1 [4] [] (rt [] (C72 true))))
def A72 (x0:List Int) (x1:List Int):Ann:=r0 1 [0,1,4] [] (.reg 1 [] [(1,slC 10 (cInt .i64) x0.length (1) (((x0.length:Nat):Int)) 1 (x0.length - 1) x0 rfl rfl)] [1,4,10,11,12] [] [] [] [] [0] (lp (D72b1 x0 x1) [] [] [] (D72b1 x0 x1 0 ()) (A72b1 x0 x1)))
theorem ok_spec_l8Apart (x0:List Int) (x1:List Int) (hx:1≤x0.length∧x0.length≤1000) (hy:1≤x1.length∧x1.length≤1000):FnT Try.prog 72 [.ro false 1 x0.length (rowOf (cInt .i64) x0),.ro false 1 x1.length (rowOf (cInt .i64) x1)] (C72 (l8Apart x0 x1)):=by
 have aux:∀ R,l8Apart x0 x1=R→slim (C72 R) (A72 x0 x1) []:=by
  intro R hR
  refine rg trivial ?_
  refine rg ⟨by (intros;omega),trivial⟩ ?_
  revert hR;refine lN (fun i v=>True) (by exact True.intro) rfl fun i1 v1 F1 hn1 hI1 hR hK1=>?_
  refine rg trivial ?_
  refine ⟨fun hc1=>?_,fun hc1=>?_⟩
  ·have hii1:i1<((x0.drop 1).take (x0.length - 1)).length:=by have:=of_decide_eq_true hc1;omega
   replace hR:=loopN_step hR hii1
   refine rg ⟨by (intros;omega),by (intros;omega),trivial⟩ ?_
   revert hR;refine lN (fun i v=>True) (by exact True.intro) rfl fun i2 v2 F2 hn2 hI2 hR hK2=>?_
   refine rg trivial ?_
   refine ⟨fun hc2=>?_,fun hc2=>?_⟩
   ·have hii2:i2<((x1.drop 1).take (x1.length - 1)).length:=by have:=of_decide_eq_true hc2;omega
    replace hR:=loopN_step hR hii2
    refine rg ⟨by (intros;omega),trivial⟩ ?_
    revert hR;refine cd (fun hc3 hR=>?_) fun hc3 hR=>?_
    ·
      refine rg trivial ?_
      exact congrArg C72 hR
    ·
      refine rg ⟨by ((try simp only [List.length_take,List.length_drop,inR] at *);omega),trivial⟩ ?_
      exact hK2 () hii2 (by exact True.intro) hR
   ·obtain rfl:i2=((x1.drop 1).take (x1.length - 1)).length:=by have:=of_decide_eq_false hc2;omega
    replace hR:=loopN_end hR (Nat.lt_irrefl _)
    refine rg ⟨by ((try simp only [List.length_take,List.length_drop,inR] at *);omega),trivial⟩ ?_
    exact hK1 () hii1 (by exact True.intro) hR
  ·obtain rfl:i1=((x0.drop 1).take (x0.length - 1)).length:=by have:=of_decide_eq_false hc1;omega
   replace hR:=loopN_end hR (Nat.lt_irrefl _)
   refine rg trivial ?_
   exact congrArg C72 hR
 exact Fn.go 28 Try.func72 (by kernel_rfl) (by kernel_rfl) (by simp [C72,Frs,FrsL]) (A72 x0 x1) (by kernel_rfl) (aux _ rfl)
def k72 (x0:List Int) (x1:List Int):Cl:=(hres (C72 (l8Apart x0 x1)),k2 (ok_spec_l8Apart x0 x1))
end Go.Proofs.Ytkkijpibajigfaa
