import Derived.Test.YtaageiiodlfeiaaM244
set_option maxHeartbeats 4000000
set_option linter.unusedSimpArgs false
set_option linter.unusedVariables false
namespace Go.Proofs.Ytaageiiodlfeiaa
open Go Go.Lite Go.Proofs
def wq (f:Family) (q:Int) (l m:List Int):Int:=bif apt l m then tq f q / 2 ^ (l.length+m.length - 1) else 0
def dl (f:Family) (q p:Int):List (List Int):=(zbl f q p).1
theorem zqb {f:Family} (hf:zbh f=true) {q:Int} (hq:0≤q∧q<f.people.length):0≤inb f q∧inb f q≤1099511627776:=by
 unfold inb
 cases c:(decide (0≤(f.people.getD q.toNat default).father)&&decide (0≤(f.people.getD q.toNat default).mother)) with
 | false=>rw [cond_false];omega
 | true =>
  have h2:=zix hf hq c
  exact (zgb hf (a:=(f.people.getD q.toNat default).father) (b:=(f.people.getD q.toNat default).mother) om om).1
theorem z1r {f:Family} (hf:zbh f=true) {q:Int} (hq:0≤q∧q<f.people.length):(2:Int) ^ (41 - 2 * dd f q).toNat ∣ inb f q:=by
 have hn:=(fam_n hf).1
 unfold inb
 cases c:(decide (0≤(f.people.getD q.toNat default).father)&&decide (0≤(f.people.getD q.toNat default).mother)) with
 | false=>exact Int.dvd_zero _
 | true =>
  have h2:=zix hf hq c
  have d1:=(zep hf hq (q:=(f.people.getD q.toNat default).father) ⟨h2.1.1,.inl rfl⟩).2
  have d2:=(zep hf hq (q:=(f.people.getD q.toNat default).mother) ⟨h2.2.1,.inr rfl⟩).2
  have h3:=(zkc hf 100 (f.people.getD q.toNat default).father (f.people.getD q.toNat default).mother om om om).2
  rw [cond_true]
  exact Int.dvd_trans (zh9 om) h3
theorem zz1 {f:Family} (hf:zbh f=true) {q:Int} (hq:0≤q∧q<f.people.length):0≤tq f q∧tq f q≤2199023255552:=by
 have:=zqb hf hq;unfold tq;omega
theorem zz2 {f:Family} (hf:zbh f=true) {q a b:Int} {l m:List Int} (ha:0≤a∧a<f.people.length) (hb:0≤b∧b<f.people.length) (hl:Ln f a q l) (hm:Ln f b q m):(2:Int) ^ (l.length+m.length - 1) ∣ tq f q∧(2≤l.length+m.length∧l.length+m.length≤22):=by
 have hq:=hl.rng hf ha
 have k1:=hl.le_len hf ha
 have k2:=hm.le_len hf hb
 have d1:=zgd hf ha
 have d2:=zgd hf hb
 have d3:=zgd hf (a:=q) om
 refine ⟨?_,om⟩
 unfold tq
 refine Int.dvd_add ?_ (Int.dvd_trans (zh9 om) (z1r hf (q:=q) om))
 rw [show (1099511627776:Int)=2 ^ 40 by rfl]
 exact zh9 om
theorem wq_nn {f:Family} (hf:zbh f=true) {q:Int} (hq:0≤q∧q<f.people.length) (l m:List Int):0≤wq f q l m:=by
 unfold wq
 cases apt l m with
 | false=>exact Int.le_refl 0
 | true=>exact Int.ediv_nonneg (zz1 hf hq).1 (Int.le_of_lt (zfj _))
theorem wq_ww {f:Family} (hf:zbh f=true) {q a b:Int} {l m:List Int} (ha:0≤a∧a<f.people.length) (hb:0≤b∧b<f.people.length) (hl:Ln f a q l) (hm:Ln f b q m):2 ^ 100 * wq f q l m=ww f q l m:=by
 obtain ⟨⟨c,hc⟩,hlen⟩:=zz2 hf ha hb hl hm
 unfold wq ww
 cases apt l m with
 | false=>rfl
 | true =>
  rw [cond_true,cond_true,hc,Int.mul_ediv_cancel_left _ (Int.ne_of_gt (zfj _))]
  rw [Int.mul_comm (2 ^ (l.length+m.length - 1)) c,Int.mul_assoc,← Int.pow_add,show l.length+m.length - 1+(101 - (l.length+m.length))=100 by omega,Int.mul_comm]
theorem dl_ok {f:Family} (hf:zbh f=true) {q p:Int} (hq:0≤q∧q<f.people.length) (hp:0≤p∧p<f.people.length):((zbl f q p).2=true→(dl f q p).Perm (al f q 100 p))∧((zbl f q p).2=false→dl f q p=[]):=by
 have hn:=(fam_n hf).1
 unfold dl zbl
 rw [(ze5 f q).2 ⟨hq,hf⟩,(ze5 f p).2 ⟨hp,hf⟩]
 rw [Bool.not_true,Bool.or_false,cond_false]
 obtain ⟨s1,s2,s3⟩:=l8_ok hf (k:=100) hp 100 q om hq
 unfold zil
 generalize zcn 100 f q p 100=S at s1 s2 s3
 cases c:decide (100<((S.length:Nat):Int)) with
 | true=>exact ⟨fun h=>zbg,fun _=>rfl⟩
 | false =>
  have c:=of_decide_eq_false c
  refine ⟨fun _=>(List.perm_ext_iff_of_nodup (zl4 s2) (zu8 hf q 100 p om hp)).2 fun l=>?_,fun h=>zbg⟩
  rw [zgf hf q 100 p om hp]
  exact ⟨s1 l,s3 om l⟩
theorem dl_ln {f:Family} (hf:zbh f=true) {q p:Int} (hq:0≤q∧q<f.people.length) (hp:0≤p∧p<f.people.length) {l:List Int} (hl:l∈dl f q p):Ln f p q l:=by
 have hn:=(fam_n hf).1
 cases c:(zbl f q p).2 with
 | false=>rw [(dl_ok hf hq hp).2 c] at hl;cases hl
 | true=>exact (zgf hf q 100 p om hp l).1 (((dl_ok hf hq hp).1 c).mem_iff.1 hl)
theorem dl_le {f:Family} (hf:zbh f=true) {q p:Int} (hq:0≤q∧q<f.people.length) (hp:0≤p∧p<f.people.length) {g:List Int→Int} (hg:∀ l,0≤g l):sumL g (dl f q p)≤sumL g (al f q 100 p):=by
 cases c:(zbl f q p).2 with
 | false=>rw [(dl_ok hf hq hp).2 c];exact zei fun l _=>hg l
 | true=>rw [zjw ((dl_ok hf hq hp).1 c)];exact Int.le_refl _
theorem zsj {α : Type} {g h : α → Int} : ∀ {l : List α}, (∀ x ∈ l, g x ≤ h x) → sumL g l ≤ sumL h l
  | [],_=>Int.le_refl 0
  | x :: l,e=>by
    have h1:=e x (List.mem_cons_self ..)
    have h2:=zsj fun y hy=>e y (List.mem_cons_of_mem _ hy)
    rw [sumL,sumL];omega
def P3 (f:Family) (q b:Int) (l:List Int) (k:Nat):Int:=sumL (wq f q l) ((dl f q b).take k)
def P2 (f:Family) (q a b:Int) (j:Nat):Int:=sumL (fun l=>sumL (wq f q l) (dl f q b)) ((dl f q a).take j)
def P1 (f:Family) (a b:Int) (i:Nat):Int:=sumL (fun q=>sumL (fun l=>sumL (wq f q l) (dl f q b)) (dl f q a)) ((zbk f a b).take i)
theorem zr7 (f:Family) (a b:Int):(zbk f a b).Nodup:=by
 unfold zbk
 refine zcc (fun i (v:List Int)=>v.Nodup∧∀ q∈v,q<i) (fun (v:List Int)=>v.Nodup) ⟨List.nodup_nil,fun q hq=>(by cases hq)⟩ (fun i v next hi hv hn=>?_) (fun v hv=>hv.1)
 refine zbz (p:=fun (v:List Int)=>v.Nodup) (fun c=>hn _ ⟨?_,fun q hq=>?_⟩) (fun _=>hn _ ⟨hv.1,fun q hq=>by have:=hv.2 q hq;omega⟩)
 ·rw [List.nodup_append]
  refine ⟨hv.1,by simp,fun x hx y hy e=>?_⟩
  have:=hv.2 x hx
  rw [List.mem_singleton] at hy
  omega
 ·rcases List.mem_append.1 hq with hq | hq
  ·have:=hv.2 q hq;omega
  ·rw [List.mem_singleton.1 hq];omega
theorem W_wq {f:Family} (hf:zbh f=true) {a b:Int} (ha:0≤a∧a<f.people.length) (hb:0≤b∧b<f.people.length):sumL (fun q=>sumL (fun l=>sumL (wq f q l) (al f q 100 b)) (al f q 100 a)) (zbk f a b)=kn f a b:=by
 have hn:=(fam_n hf).1
 have h1:=W_kn hf 100 a b ha hb om
 have h2:2 ^ 100 * sumL (fun q=>sumL (fun l=>sumL (wq f q l) (al f q 100 b)) (al f q 100 a)) (zbk f a b)=wsum f a b:=by
  unfold wsum
  rw [← zmk (L:=zbk f a b) (zr7 f a b) (fun q hq=>by have:=(zc5 f a b).2 q hq;omega) (fun q hq=>?_),← zfw]
  ·refine zc8 fun q _=>?_
   rw [← zfw]
   refine zc8 fun l hl=>?_
   rw [← zfw]
   refine zc8 fun m hm=>?_
   exact wq_ww hf ha hb ((zgf hf q 100 a om ha l).1 hl) ((zgf hf q 100 b om hb m).1 hm)
  ·refine zf4 fun l hl=>zf4 fun m hm=>absurd ((zrs hf ha hb q).2 ⟨((zgf hf q 100 a om ha l).1 hl).above,((zgf hf q 100 b om hb m).1 hm).above⟩) hq
 rw [h1] at h2
 exact Int.eq_of_mul_eq_mul_left (by decide) h2
theorem P1_le {f:Family} (hf:zbh f=true) {a b:Int} (ha:0≤a∧a<f.people.length) (hb:0≤b∧b<f.people.length):P1 f a b (zbk f a b).length≤kn f a b:=by
 unfold P1
 rw [List.take_length,← W_wq hf ha hb]
 refine zsj fun q hq=>?_
 have hq:=(zc5 f a b).2 q hq
 refine Int.le_trans (dl_le hf om ha fun l=>zei fun m _=>wq_nn hf (q:=q) om l m) ?_
 exact zsj fun l _=>dl_le hf om hb fun m=>wq_nn hf (q:=q) om l m
theorem P1_eq {f:Family} (hf:zbh f=true) {a b:Int} (ha:0≤a∧a<f.people.length) (hb:0≤b∧b<f.people.length) (hok:∀ q∈zbk f a b,(zbl f q a).2=true∧(zbl f q b).2=true):P1 f a b (zbk f a b).length=kn f a b:=by
 unfold P1
 rw [List.take_length,← W_wq hf ha hb]
 refine zc8 fun q hq=>?_
 have h:=hok q hq
 have hq:=(zc5 f a b).2 q hq
 rw [zjw ((dl_ok hf om ha).1 h.1)]
 exact zc8 fun l _=>zjw ((dl_ok hf om hb).1 h.2)
theorem P_rng {f : Family} (hf : zbh f = true) {a b : Int} (ha : 0 ≤ a ∧ a < f.people.length) (hb : 0 ≤ b ∧ b < f.people.length) {i j k : Nat} (hi : i < (zbk f a b).length) (hj : j < (dl f ((zbk f a b).getD i default) a).length) :
    0≤P1 f a b i+P2 f ((zbk f a b).getD i default) a b j+P3 f ((zbk f a b).getD i default) b ((dl f ((zbk f a b).getD i default) a).getD j default) k∧P1 f a b i+P2 f ((zbk f a b).getD i default) a b j+P3 f ((zbk f a b).getD i default) b ((dl f ((zbk f a b).getD i default) a).getD j default) k≤1099511627776:=by
 have hqm:=(zc5 f a b).2
 have hq:=hqm _ (zde (d:=default) hi)
 have nn:∀ q∈zbk f a b,∀ l m,0≤wq f q l m:=fun q hq l m=>wq_nn hf (by have:=hqm q hq;omega) l m
 have hql:=zde (d:=(default:Int)) hi
 have e0:=P1_le hf ha hb
 have e1:P1 f a b (i+1)=P1 f a b i+sumL (fun l=>sumL (wq f ((zbk f a b).getD i default) l) (dl f ((zbk f a b).getD i default) b)) (dl f ((zbk f a b).getD i default) a):=zha _ _ hi default
 have e2:P1 f a b (i+1)≤P1 f a b (zbk f a b).length:=by
  unfold P1;rw [List.take_length]
  exact zmi (fun q hq=>zei fun l _=>zei fun m _=>nn q hq l m) _
 have n1:0≤P1 f a b i:=zei fun q hq=>zei fun l _=>zei fun m _=>nn q (List.mem_of_mem_take hq) l m
 have hk:=(zgb hf ha hb).1.2
 generalize (zbk f a b).getD i default=q at *
 have e3:P2 f q a b (j+1)=P2 f q a b j+sumL (wq f q ((dl f q a).getD j default)) (dl f q b):=zha _ _ hj default
 have e4:P2 f q a b (j+1)≤sumL (fun l=>sumL (wq f q l) (dl f q b)) (dl f q a):=zmi (fun l _=>zei fun m _=>nn q hql l m) _
 have n2:0≤P2 f q a b j:=zei fun l _=>zei fun m _=>nn q hql l m
 have e5:P3 f q b ((dl f q a).getD j default) k≤sumL (wq f q ((dl f q a).getD j default)) (dl f q b):=zmi (fun m _=>nn q hql _ m) _
 have n3:0≤P3 f q b ((dl f q a).getD j default) k:=zei fun m _=>nn q hql _ m
 omega
theorem z1t {n:Int} {k:Nat} (hn:0≤n) (h2:(2:Int) ^ k ∣ n):zcd (dy n).num ((dy n).exp+k)=dy (n / 2 ^ k):=by
 obtain ⟨j,i,h1,h2',h3,h4,h5⟩:=zjl 40 n hn
 obtain ⟨c,hc⟩:=h2
 have hp:=zfj k
 have hc0:0≤c:=by
  rcases Int.lt_or_le c 0 with h | h
  ·have:=Int.mul_neg_of_pos_of_neg hp h;omega
  ·exact h
 have e:n / 2 ^ k=c:=by rw [hc,Int.mul_ediv_cancel_left _ (Int.ne_of_gt hp)]
 rw [e]
 unfold dy
 rw [h1,show (j:Int)+(k:Int)=((j+k:Nat):Int) by omega,zjs h4]
 rcases Nat.lt_or_ge i k with hik | hik
 ·have hs:n=(red n 40).num * 2 ^ i:=h3.symm
  rw [← zks c 40 k,show 40+k=(j+k)+i by omega,show c * 2 ^ k=(red n 40).num * 2 ^ i by rw [h3,hc,Int.mul_comm],zks]
 ·rw [← zks (red n 40).num (j+k) (i - k),show j+k+(i - k)=40 by omega]
  congr 1
  have:(red n 40).num * 2 ^ (i - k) * 2 ^ k=c * 2 ^ k:=by
   rw [Int.mul_assoc,← Int.pow_add,show i - k+k=i by omega,h3,hc,Int.mul_comm]
  exact Int.eq_of_mul_eq_mul_right (Int.ne_of_gt hp) this
def C105 (R:Bool):LV×List (Nat×BC):=(.bool R,[])
def zli (x0:List Int) (x1:Int):Bool:=loopN (fun i1 (v1:Unit) next=>bif (decide ((x0.getD i1 default)=x1)) then true else (next ())) (fun (v1:Unit)=>false) x0.length 0 ()
def zyv (x0:List Int) (x1:Int) (i1:Nat) (v1:Unit):Dl:=⟨[(9,.int .i64 ((i1:Nat):Int))],[]⟩
def A105b1 (x0:List Int) (x1:Int) (i1:Nat) (v1:Unit):Ann:=r0 1 [1,4,7,8,9,10] [] (cn (decide (((i1:Nat):Int)<((x0.length:Nat):Int))) (r1 2 [1,4,7,8,9,15] [] [pf (0≤(((i1:Nat):Int):Int)∧(((i1:Nat):Int):Int)<((x0.length:Nat):Int))] [0] (cn (decide ((x0.getD i1 default)=x1)) (r0 1 [1,4,7,8,9] [] (rt [] (C105 true))) (r1 1 [1,4,7,8,9] [] [pf (inR .i64 (((i1:Nat):Int)+1))] [0] (.next 0 [] (zyv x0 x1 (i1+1) ()))))) (r0 1 [4] [] (rt [] (C105 false))))
def A105 (x0:List Int) (x1:Int):Ann:=r0 1 [0,1,4] [] (r0 1 [1,4,7,8,9] [] (lp (zyv x0 x1) [] [] [] (zyv x0 x1 0 ()) (A105b1 x0 x1)))
theorem zob (x0:List Int) (x1:Int) (hx:x0.length≤1048576):FnT Try.prog 105 [.ro false 1 x0.length (rowOf (cInt .i64) x0),.int .i64 x1] (C105 (zli x0 x1)):=by
 have aux:∀ R,zli x0 x1=R→slim (C105 R) (A105 x0 x1) []:=by
  intro R hR
  refine rg trivial ?_
  refine rg trivial ?_
  revert hR;refine lN (fun i v=>True) zay rfl fun i1 v1 F1 hn1 hI1 hR hK1=>?_
  refine rg trivial ?_
  refine ⟨fun hc1=>?_,fun hc1=>?_⟩
  ·have hii1:i1<x0.length:=by have:=of_decide_eq_true hc1;omega
   replace hR:=zb0 hR hii1
   refine rg ⟨by (intros;omega),trivial⟩ ?_
   revert hR;refine cd (fun hc2 hR=>?_) fun hc2 hR=>?_
   ·
     refine rg trivial ?_
     exact congrArg C105 hR
   ·
     refine rg ⟨by ( intros;simp only [inR];omega),trivial⟩ ?_
     exact hK1 () hii1 zay hR
  ·obtain rfl:i1=x0.length:=by have:=of_decide_eq_false hc1;omega
   replace hR:=zb4 hR (Nat.lt_irrefl _)
   refine rg trivial ?_
   exact congrArg C105 hR
 exact Fn.go 17 Try.func105 zax zax (by simp [C105,Frs,FrsL]) (A105 x0 x1) zax (aux _ rfl)
def k105 (x0:List Int) (x1:Int):Cl:=(hres (C105 (zli x0 x1)),k1 (zob x0 x1))
def C49 (R:Bool):LV×List (Nat×BC):=(.bool R,[])
def zen (x0:List Int) (x1:List Int):Bool:=loopN (fun i1 (v1:Unit) next=>bif (zli x1 (x0.getD i1 default)) then false else (next ())) (fun (v1:Unit)=>true) x0.length 0 ()
def D49b1 (x0:List Int) (x1:List Int) (i1:Nat) (v1:Unit):Dl:=⟨[(9,.int .i64 ((i1:Nat):Int))],[]⟩
def A49b1 (x0:List Int) (x1:List Int) (i1:Nat) (v1:Unit):Ann:=r0 1 [1,4,7,8,9,10] [] (cn (decide (((i1:Nat):Int)<((x0.length:Nat):Int))) (.reg 2 [] [(1002,k105 x1 (x0.getD i1 default))] [1,4,7,8,9,15] [] [] [pf (0≤(((i1:Nat):Int):Int)∧(((i1:Nat):Int):Int)<((x0.length:Nat):Int))] [] [0,4] (cn (zli x1 (x0.getD i1 default)) (r0 1 [1,4,7,8,9] [] (rt [] (C49 false))) (r1 1 [1,4,7,8,9] [] [pf (inR .i64 (((i1:Nat):Int)+1))] [0] (.next 0 [] (D49b1 x0 x1 (i1+1) ()))))) (r0 1 [4] [] (rt [] (C49 true))))
def A49 (x0:List Int) (x1:List Int):Ann:=r0 1 [0,1,4] [] (r0 1 [1,4,7,8,9] [] (lp (D49b1 x0 x1) [] [] [] (D49b1 x0 x1 0 ()) (A49b1 x0 x1)))
theorem zp0 (x0:List Int) (x1:List Int) (hx:x0.length≤1000) (hy:x1.length≤1000):FnT Try.prog 49 [.ro false 1 x0.length (rowOf (cInt .i64) x0),.ro false 1 x1.length (rowOf (cInt .i64) x1)] (C49 (zen x0 x1)):=by
 have aux:∀ R,zen x0 x1=R→slim (C49 R) (A49 x0 x1) []:=by
  intro R hR
  refine rg trivial ?_
  refine rg trivial ?_
  revert hR;refine lN (fun i v=>True) zay rfl fun i1 v1 F1 hn1 hI1 hR hK1=>?_
  refine rg trivial ?_
  refine ⟨fun hc1=>?_,fun hc1=>?_⟩
  ·have hii1:i1<x0.length:=by have:=of_decide_eq_true hc1;omega
   replace hR:=zb0 hR hii1
   refine rg ⟨by (intros;omega),by (intros;omega),trivial⟩ ?_
   revert hR;refine cd (fun hc2 hR=>?_) fun hc2 hR=>?_
   ·
     refine rg trivial ?_
     exact congrArg C49 hR
   ·
     refine rg ⟨by ( intros;simp only [inR];omega),trivial⟩ ?_
     exact hK1 () hii1 zay hR
  ·obtain rfl:i1=x0.length:=by have:=of_decide_eq_false hc1;omega
   replace hR:=zb4 hR (Nat.lt_irrefl _)
   refine rg trivial ?_
   exact congrArg C49 hR
 exact Fn.go 17 Try.func49 zax zax (by simp [C49,Frs,FrsL]) (A49 x0 x1) zax (aux _ rfl)
def k49 (x0:List Int) (x1:List Int):Cl:=(hres (C49 (zen x0 x1)),k2 (zp0 x0 x1))
def C57 (R:Bool):LV×List (Nat×BC):=(.bool R,[])
def zft (x0:List Int) (x1:List Int):Bool:=loopN (fun i1 (v1:Unit) nx1=>loopN (fun i2 (v2:Unit) next=>bif (decide ((((x0.drop 1).take (x0.length - 1)).getD i1 default)=(((x1.drop 1).take (x1.length - 1)).getD i2 default))) then false else (next ())) (fun (v2:Unit)=>nx1 ()) (((x1.drop 1).take (x1.length - 1)).length) 0 ()) (fun (v1:Unit)=>true) (((x0.drop 1).take (x0.length - 1)).length) 0 ()
def D57b1 (x0:List Int) (x1:List Int) (i1:Nat) (v1:Unit):Dl:=⟨[(12,.int .i64 ((i1:Nat):Int))],[]⟩
def D57b2 (x0:List Int) (x1:List Int) (i1:Nat) (v1:Unit) (i2:Nat) (v2:Unit):Dl:=⟨[(19,.int .i64 ((i2:Nat):Int))],[]⟩
def A57b2 (x0:List Int) (x1:List Int) (i1:Nat) (v1:Unit) (i2:Nat) (v2:Unit):Ann:=r0 1 [1,4,6,10,11,12,17,18,19,20] [] (cn (decide (((i2:Nat):Int)<((((x1.drop 1).take (x1.length - 1)).length:Nat):Int))) (r1 2 [1,4,6,10,11,12,17,18,19,25] [] [pf (0≤(((i2:Nat):Int):Int)∧(((i2:Nat):Int):Int)<((((x1.drop 1).take (x1.length - 1)).length:Nat):Int))] [0] (cn (decide ((((x0.drop 1).take (x0.length - 1)).getD i1 default)=(((x1.drop 1).take (x1.length - 1)).getD i2 default))) (r0 1 [1,4,6,10,11,12,17,18,19] [] (rt [] (C57 false))) (r1 1 [1,4,6,10,11,12,17,18,19] [] [pf (inR .i64 (((i2:Nat):Int)+1))] [0] (.next 0 [] (D57b2 x0 x1 i1 v1 (i2+1) ()))))) (r1 1 [1,4,10,11,12] [] [pf (inR .i64 (((i1:Nat):Int)+1))] [0] (.next 1 [] (D57b1 x0 x1 (i1+1) ()))))
def A57b1 (x0:List Int) (x1:List Int) (i1:Nat) (v1:Unit):Ann:=r0 1 [1,4,10,11,12,13] [] (cn (decide (((i1:Nat):Int)<((((x0.drop 1).take (x0.length - 1)).length:Nat):Int))) (.reg 2 [] [(1001,slC 17 (cInt .i64) x1.length (1) (((x1.length:Nat):Int)) 1 (x1.length - 1) x1 rfl rfl)] [1,4,6,10,11,12,17,18,19] [] [] [pf (0≤(((i1:Nat):Int):Int)∧(((i1:Nat):Int):Int)<((((x0.drop 1).take (x0.length - 1)).length:Nat):Int))] [] [0,4] (lp (D57b2 x0 x1 i1 v1) [] [] [] (D57b2 x0 x1 i1 v1 0 ()) (A57b2 x0 x1 i1 v1))) (r0 1 [4] [] (rt [] (C57 true))))
def A57 (x0:List Int) (x1:List Int):Ann:=r0 1 [0,1,4] [] (.reg 1 [] [(1,slC 10 (cInt .i64) x0.length (1) (((x0.length:Nat):Int)) 1 (x0.length - 1) x0 rfl rfl)] [1,4,10,11,12] [] [] [] [] [0] (lp (D57b1 x0 x1) [] [] [] (D57b1 x0 x1 0 ()) (A57b1 x0 x1)))
theorem zmz (x0:List Int) (x1:List Int) (hx:1≤x0.length∧x0.length≤1000) (hy:1≤x1.length∧x1.length≤1000):FnT Try.prog 57 [.ro false 1 x0.length (rowOf (cInt .i64) x0),.ro false 1 x1.length (rowOf (cInt .i64) x1)] (C57 (zft x0 x1)):=by
 have aux:∀ R,zft x0 x1=R→slim (C57 R) (A57 x0 x1) []:=by
  intro R hR
  refine rg trivial ?_
  refine rg ⟨by (intros;omega),trivial⟩ ?_
  revert hR;refine lN (fun i v=>True) (by exact True.intro) rfl fun i1 v1 F1 hn1 hI1 hR hK1=>?_
  refine rg trivial ?_
  refine ⟨fun hc1=>?_,fun hc1=>?_⟩
  ·have hii1:i1<((x0.drop 1).take (x0.length - 1)).length:=by have:=of_decide_eq_true hc1;omega
   replace hR:=zb0 hR hii1
   refine rg ⟨by (intros;omega),by (intros;omega),trivial⟩ ?_
   revert hR;refine lN (fun i v=>True) (by exact True.intro) rfl fun i2 v2 F2 hn2 hI2 hR hK2=>?_
   refine rg trivial ?_
   refine ⟨fun hc2=>?_,fun hc2=>?_⟩
   ·have hii2:i2<((x1.drop 1).take (x1.length - 1)).length:=by have:=of_decide_eq_true hc2;omega
    replace hR:=zb0 hR hii2
    refine rg ⟨by (intros;omega),trivial⟩ ?_
    revert hR;refine cd (fun hc3 hR=>?_) fun hc3 hR=>?_
    ·
      refine rg trivial ?_
      exact congrArg C57 hR
    ·
      refine rg ⟨by ((try simp only [List.length_take,List.length_drop,inR] at *);omega),trivial⟩ ?_
      exact hK2 () hii2 (by exact True.intro) hR
   ·obtain rfl:i2=((x1.drop 1).take (x1.length - 1)).length:=by have:=of_decide_eq_false hc2;omega
    replace hR:=zb4 hR (Nat.lt_irrefl _)
    refine rg ⟨by ((try simp only [List.length_take,List.length_drop,inR] at *);omega),trivial⟩ ?_
    exact hK1 () hii1 (by exact True.intro) hR
  ·obtain rfl:i1=((x0.drop 1).take (x0.length - 1)).length:=by have:=of_decide_eq_false hc1;omega
   replace hR:=zb4 hR (Nat.lt_irrefl _)
   refine rg trivial ?_
   exact congrArg C57 hR
 exact Fn.go 28 Try.func57 zax zax (by simp [C57,Frs,FrsL]) (A57 x0 x1) zax (aux _ rfl)
def k57 (x0:List Int) (x1:List Int):Cl:=(hres (C57 (zft x0 x1)),k2 (zmz x0 x1))
theorem zvu (p:Nat→Nat→Bool) (n m:Nat):loopN (fun i1 (_:Unit) nx1=>loopN (fun i2 (_:Unit) next=>bif p i1 i2 then false else (next ())) (fun (_:Unit)=>nx1 ()) m 0 ()) (fun (_:Unit)=>true) n 0 ()=true↔∀ i,i<n→∀ j,j<m→p i j=false:=by
 have key:∀ k i,loopN (fun i1 (_:Unit) nx1=>loopN (fun i2 (_:Unit) next=>bif p i1 i2 then false else (next ())) (fun (_:Unit)=>nx1 ()) m 0 ()) (fun (_:Unit)=>true) k i ()=true↔∀ u,i≤u→u<i+k→∀ j,j<m→p u j=false:=by
  intro k
  induction k with
  | zero=>intro i;simp only [loopN];exact ⟨fun _ u h1 h2=>by omega,fun _=>trivial⟩
  | succ k ih =>
   intro i
   rw [loopN,ze4,ih (i+1)]
   constructor
   ·rintro ⟨h1,h2⟩ u h3 h4 j hj
    rcases Nat.lt_or_ge i u with h | h
    ·exact h2 u om om j hj
    ·have e:u=i:=by omega
     subst e;exact h1 j hj
   ·intro h
    exact ⟨fun j hj=>h i (Nat.le_refl _) om j hj,fun u h1 h2=>h u om om⟩
 rw [key n 0]
 exact ⟨fun h i hi=>h i (Nat.zero_le _) om,fun h u _ h2=>h u om⟩
theorem zx0 (l m:List Int):apt l m=true↔∀ x∈l.drop 1,x ∉ m.drop 1:=by
 unfold apt
 rw [List.all_eq_true]
 simp only [Bool.not_eq_true',List.contains_eq_mem,decide_eq_false_iff_not]
theorem zk2 (l m:List Int):zft l m=apt l m:=by
 have e:∀ l:List Int,(l.drop 1).take (l.length - 1)=l.drop 1:=fun l=>by
  rw [List.take_of_length_le];rw [List.length_drop];exact Nat.le_refl _
 unfold zft
 rw [Bool.eq_iff_iff,zx0,e,e]
 rw [zvu fun i j=>decide ((l.drop 1).getD i default=(m.drop 1).getD j default)]
 constructor
 ·intro h x hx hy
  obtain ⟨i,h1,h2⟩:=zgn (d:=default) hx
  obtain ⟨j,h3,h4⟩:=zgn (d:=default) hy
  have:=of_decide_eq_false (h i h1 j h3)
  exact this (by rw [h2,h4])
 ·intro h i hi j hj
  refine decide_eq_false fun e=>h _ (zde (d:=default) hi) ?_
  rw [e];exact zde hj
theorem zrx (l m:List Int):zen (l.drop 1) (m.drop 1)=apt l m:=by
 unfold zen
 rw [Bool.eq_iff_iff,zx0,ze4 fun i=>zli (m.drop 1) ((l.drop 1).getD i default)]
 have hh:∀ (l:List Int) (y:Int),zli l y=true↔y∈l:=fun l y=>by
  unfold zli
  rw [zw6 fun i=>decide (l.getD i default=y)]
  constructor
  ·rintro (⟨j,h1,h2⟩ | h)
   ·rw [← of_decide_eq_true h2];exact zde h1
   ·cases h
  ·intro h
   obtain ⟨k,h1,h2⟩:=zgn (d:=default) h
   exact .inl ⟨k,h1,decide_eq_true h2⟩
 constructor
 ·rintro ⟨h,_⟩ x hx hy
  obtain ⟨i,h1,h2⟩:=zgn (d:=default) hx
  have h3:=h i h1
  rw [Bool.eq_false_iff] at h3
  exact h3 ((hh _ _).2 (by rw [h2];exact hy))
 ·intro h
  refine ⟨fun i hi=>?_,rfl⟩
  rw [Bool.eq_false_iff]
  exact fun h2=>h _ (zde (d:=default) hi) ((hh _ _).1 h2)
theorem zxo {x:Family} (hf:zbh x=true) {q:Int} (hq:0≤q∧q<x.people.length):zbx x (zci x) q=dy (inb x q):=by
 unfold zbx inb
 have e:(decide ((x.people.getD q.toNat default).father<0)||decide ((x.people.getD q.toNat default).mother<0))=!(decide (0≤(x.people.getD q.toNat default).father)&&decide (0≤(x.people.getD q.toNat default).mother)):=by
  rw [Bool.eq_iff_iff]
  simp only [Bool.or_eq_true,Bool.not_eq_true',Bool.and_eq_false_iff,decide_eq_true_eq,decide_eq_false_iff_not]
  omega
 rw [e]
 cases c:(decide (0≤(x.people.getD q.toNat default).father)&&decide (0≤(x.people.getD q.toNat default).mother)) with
 | false=>exact dy_zero.symm
 | true =>
  have h2:=zix hf hq c
  rw [Bool.not_true,cond_false,cond_true]
  exact ((zng hf).at (q:=(x.people.getD q.toNat default).father) (b:=(x.people.getD q.toNat default).mother) om om).2.2
theorem z1q {x:Family} (hf:zbh x=true) {q:Int} (hq:0≤q∧q<x.people.length):Dy (zbx x (zci x) q):=by
 have:=zqb hf hq
 rw [zxo hf hq];exact dy_Dy om
theorem Dy_one:Dy ⟨1,0⟩:=by rw [← z0q];exact dy_Dy om
theorem z1g {x:Family} (hf:zbh x=true) {q:Int} (hq:0≤q∧q<x.people.length):l8Add ⟨1,0⟩ (zbx x (zci x) q)=dy (tq x q):=by
 have:=zqb hf hq
 rw [zxo hf hq,← z0q,zu3 om om];rfl
structure KT (x:Family) (a b:Int) (i j k:Nat):Prop where
 q:0≤(zbk x a b).getD i default∧(zbk x a b).getD i default<x.people.length
 len:((zbl x ((zbk x a b).getD i default) a).1.getD j default).length+((zbl x ((zbk x a b).getD i default) b).1.getD k default).length≤22
 l1:1≤((zbl x ((zbk x a b).getD i default) a).1.getD j default).length
 m1:1≤((zbl x ((zbk x a b).getD i default) b).1.getD k default).length
 num:0≤(l8Add ⟨1,0⟩ (zbx x (zci x) ((zbk x a b).getD i default))).num∧(l8Add ⟨1,0⟩ (zbx x (zci x) ((zbk x a b).getD i default))).num≤2199023255552
 exp:0≤(l8Add ⟨1,0⟩ (zbx x (zci x) ((zbk x a b).getD i default))).exp∧(l8Add ⟨1,0⟩ (zbx x (zci x) ((zbk x a b).getD i default))).exp≤40
 red:zcd (l8Add ⟨1,0⟩ (zbx x (zci x) ((zbk x a b).getD i default))).num ((l8Add ⟨1,0⟩ (zbx x (zci x) ((zbk x a b).getD i default))).exp+((((zbl x ((zbk x a b).getD i default) a).1.getD j default).length:Nat):Int)+((((zbl x ((zbk x a b).getD i default) b).1.getD k default).length:Nat):Int) - 1)=dy (tq x ((zbk x a b).getD i default) / 2 ^ (((zbl x ((zbk x a b).getD i default) a).1.getD j default).length+((zbl x ((zbk x a b).getD i default) b).1.getD k default).length - 1))
 rd:Dy (zcd (l8Add ⟨1,0⟩ (zbx x (zci x) ((zbk x a b).getD i default))).num ((l8Add ⟨1,0⟩ (zbx x (zci x) ((zbk x a b).getD i default))).exp+((((zbl x ((zbk x a b).getD i default) a).1.getD j default).length:Nat):Int)+((((zbl x ((zbk x a b).getD i default) b).1.getD k default).length:Nat):Int) - 1))
 tw:0≤tq x ((zbk x a b).getD i default) / 2 ^ (((zbl x ((zbk x a b).getD i default) a).1.getD j default).length+((zbl x ((zbk x a b).getD i default) b).1.getD k default).length - 1)∧tq x ((zbk x a b).getD i default) / 2 ^ (((zbl x ((zbk x a b).getD i default) a).1.getD j default).length+((zbl x ((zbk x a b).getD i default) b).1.getD k default).length - 1)≤2199023255552
theorem kt0 {x : Family} (hf : zbh x = true) {a b q : Int} {l m : List Int} (ha : 0 ≤ a ∧ a < x.people.length) (hb : 0 ≤ b ∧ b < x.people.length) (hq : 0 ≤ q ∧ q < x.people.length) (hl : Ln x a q l) (hm : Ln x b q m) :
    (l.length+m.length≤22∧1≤l.length∧1≤m.length)∧(0≤(l8Add ⟨1,0⟩ (zbx x (zci x) q)).num∧(l8Add ⟨1,0⟩ (zbx x (zci x) q)).num≤2199023255552)∧(0≤(l8Add ⟨1,0⟩ (zbx x (zci x) q)).exp∧(l8Add ⟨1,0⟩ (zbx x (zci x) q)).exp≤40) ∧
    zcd (l8Add ⟨1,0⟩ (zbx x (zci x) q)).num ((l8Add ⟨1,0⟩ (zbx x (zci x) q)).exp+((l.length:Nat):Int)+((m.length:Nat):Int) - 1)=dy (tq x q / 2 ^ (l.length+m.length - 1))∧(0≤tq x q / 2 ^ (l.length+m.length - 1)∧tq x q / 2 ^ (l.length+m.length - 1)≤2199023255552):=by
 have k1:=hl.le_len hf ha
 have k2:=hm.le_len hf hb
 have h1:=zz2 hf ha hb hl hm
 have h2:=zz1 hf hq
 have h3:=z1g hf hq
 have h4:=dy_bd (n:=tq x q) h2
 have h5:0≤tq x q / 2 ^ (l.length+m.length - 1):=Int.ediv_nonneg h2.1 (Int.le_of_lt (zfj _))
 have h6:tq x q / 2 ^ (l.length+m.length - 1)≤tq x q:=Int.ediv_le_self _ h2.1
 refine ⟨⟨h1.2.2,k1.2.1,k2.2.1⟩,by rw [h3];exact h4.1,by rw [h3];exact h4.2,?_,om⟩
 rw [h3,show (dy (tq x q)).exp+((l.length:Nat):Int)+((m.length:Nat):Int) - 1=(dy (tq x q)).exp+((l.length+m.length - 1:Nat):Int) by omega]
 exact z1t h2.1 h1.1
theorem kt {x:Family} (hf:zbh x=true) {a b:Int} (ha:0≤a∧a<x.people.length) (hb:0≤b∧b<x.people.length) {i j k:Nat} (hi:i<(zbk x a b).length) (hj:j<(zbl x ((zbk x a b).getD i default) a).1.length) (hk:k<(zbl x ((zbk x a b).getD i default) b).1.length):KT x a b i j k:=by
 have hq:=(zc5 x a b).2 _ (zde (d:=default) hi)
 have hl:Ln x a ((zbk x a b).getD i default) ((zbl x ((zbk x a b).getD i default) a).1.getD j default):=dl_ln hf om ha (zde hj)
 have hm:Ln x b ((zbk x a b).getD i default) ((zbl x ((zbk x a b).getD i default) b).1.getD k default):=dl_ln hf om hb (zde hk)
 have h:=kt0 hf ha hb ⟨hq.1,hq.2.1⟩ hl hm
 exact ⟨⟨hq.1,hq.2.1⟩,h.1.1,h.1.2.1,h.1.2.2,h.2.1,h.2.2.1,h.2.2.2.1,by rw [h.2.2.2.1];exact dy_Dy h.2.2.2.2,h.2.2.2.2⟩
def PS (x:Family) (a b:Int) (i j k:Nat):Int:=P1 x a b i+P2 x ((zbk x a b).getD i default) a b j+P3 x ((zbk x a b).getD i default) b ((zbl x ((zbk x a b).getD i default) a).1.getD j default) k
theorem PS_0 (x:Family) (a b:Int):(⟨0,0⟩:Dyad)=dy (P1 x a b 0):=by
 have:P1 x a b 0=0:=rfl
 rw [this,dy_zero]
theorem zx3 {x:Family} (hf:zbh x=true) {a b:Int} (ha:0≤a∧a<x.people.length) (hb:0≤b∧b<x.people.length) {i j k:Nat} (hi:i<(zbk x a b).length) (hj:j<(zbl x ((zbk x a b).getD i default) a).1.length):0≤PS x a b i j k∧PS x a b i j k≤1099511627776:=P_rng hf ha hb hi hj
theorem zx5 {x:Family} {a b:Int} {i j:Nat} (hj:j<(zbl x ((zbk x a b).getD i default) a).1.length):PS x a b i j (zbl x ((zbk x a b).getD i default) b).1.length=P1 x a b i+P2 x ((zbk x a b).getD i default) a b (j+1):=by
 unfold PS P2 P3 dl
 rw [zha (fun l=>sumL (wq x ((zbk x a b).getD i default) l) (zbl x ((zbk x a b).getD i default) b).1) _ hj default,List.take_length,Int.add_assoc]
theorem zx6 {x:Family} {a b:Int} {i:Nat} (hi:i<(zbk x a b).length):P1 x a b i+P2 x ((zbk x a b).getD i default) a b (zbl x ((zbk x a b).getD i default) a).1.length=P1 x a b (i+1):=by
 unfold P1 P2 dl
 rw [zha (fun q=>sumL (fun l=>sumL (wq x q l) (zbl x q b).1) (zbl x q a).1) _ hi default,List.take_length]
theorem znw (x:Family) (a b q:Int) (i:Nat):P1 x a b i=P1 x a b i+P2 x q a b 0:=by
 have:P2 x q a b 0=0:=rfl
 rw [this,Int.add_zero]
theorem znv (x:Family) (a b:Int) (i j:Nat):P1 x a b i+P2 x ((zbk x a b).getD i default) a b j=PS x a b i j 0:=by
 have:P3 x ((zbk x a b).getD i default) b ((zbl x ((zbk x a b).getD i default) a).1.getD j default) 0=0:=rfl
 unfold PS
 rw [this,Int.add_zero]
theorem zx4 {x:Family} {a b:Int} {i j k:Nat} (hk:k<(zbl x ((zbk x a b).getD i default) b).1.length):PS x a b i j (k+1)=PS x a b i j k+wq x ((zbk x a b).getD i default) ((zbl x ((zbk x a b).getD i default) a).1.getD j default) ((zbl x ((zbk x a b).getD i default) b).1.getD k default):=by
 unfold PS P3 dl
 rw [zha (wq x ((zbk x a b).getD i default) ((zbl x ((zbk x a b).getD i default) a).1.getD j default)) _ hk default]
 omega
theorem PS_no {x:Family} {a b:Int} {i j k:Nat} (hk:k<(zbl x ((zbk x a b).getD i default) b).1.length) (h:zft ((zbl x ((zbk x a b).getD i default) a).1.getD j default) ((zbl x ((zbk x a b).getD i default) b).1.getD k default)=false):PS x a b i j (k+1)=PS x a b i j k:=by
 rw [zx4 hk,wq,← zk2,h,cond_false,Int.add_zero]
theorem z0v {x:Family} {a b:Int} {i j k:Nat} (hk:k<(zbl x ((zbk x a b).getD i default) b).1.length) (h:zft ((zbl x ((zbk x a b).getD i default) a).1.getD j default) ((zbl x ((zbk x a b).getD i default) b).1.getD k default)=true):PS x a b i j (k+1)=PS x a b i j k+tq x ((zbk x a b).getD i default) / 2 ^ (((zbl x ((zbk x a b).getD i default) a).1.getD j default).length+((zbl x ((zbk x a b).getD i default) b).1.getD k default).length - 1):=by
 rw [zx4 hk,wq,← zk2,h,cond_true]
theorem zqi (d:Dyad):Dyad.mk d.num d.exp=d:=rfl
theorem zxe {x : Family} (hf : zbh x = true) {a b : Int} (ha : 0 ≤ a ∧ a < x.people.length) (hb : 0 ≤ b ∧ b < x.people.length) {i j k : Nat} (hi : i < (zbk x a b).length) (hj : j < (zbl x ((zbk x a b).getD i default) a).1.length) (hk : k < (zbl x ((zbk x a b).getD i default) b).1.length) (h : zft ((zbl x ((zbk x a b).getD i default) a).1.getD j default) ((zbl x ((zbk x a b).getD i default) b).1.getD k default) = true) {d : Dyad} (hd : d = dy (PS x a b i j k)) :
    l8Add d (zcd (l8Add ⟨1,0⟩ (zbx x (zci x) ((zbk x a b).getD i default))).num ((l8Add ⟨1,0⟩ (zbx x (zci x) ((zbk x a b).getD i default))).exp+((((zbl x ((zbk x a b).getD i default) a).1.getD j default).length:Nat):Int)+((((zbl x ((zbk x a b).getD i default) b).1.getD k default).length:Nat):Int) - 1))=dy (PS x a b i j (k+1)):=by
 have h1:=kt hf ha hb hi hj hk
 rw [z0v hk h,h1.red,hd,zu3 (zx3 hf ha hb hi hj).1 h1.tw.1]
theorem PS_Dy {x:Family} (hf:zbh x=true) {a b:Int} (ha:0≤a∧a<x.people.length) (hb:0≤b∧b<x.people.length) {i j k:Nat} (hi:i<(zbk x a b).length) (hj:j<(zbl x ((zbk x a b).getD i default) a).1.length) {d:Dyad} (hd:d=dy (PS x a b i j k)):Dy d:=by
 have:=zx3 hf ha hb hi hj (k:=k)
 rw [hd];exact dy_Dy om
theorem zkm (x:Family) (q p:Int):(zbl x q p).1.length≤1000:=by
 have:=(zv4 x q p).1
 rwa [zk6] at this
theorem z0b {x:Family} {a b:Int} {i j k:Nat} (hk:k<(zbl x ((zbk x a b).getD i default) b).1.length) (h:zft ((zbl x ((zbk x a b).getD i default) a).1.getD j default) ((zbl x ((zbk x a b).getD i default) b).1.getD k default)=false) {d:Dyad} (hd:d=dy (PS x a b i j k)):d=dy (PS x a b i j (k+1)):=by
 rw [PS_no hk h,hd]
theorem z0d {x:Family} {a b:Int} {i j:Nat} (hj:j<(zbl x ((zbk x a b).getD i default) a).1.length) {d:Dyad} (hd:d=dy (PS x a b i j (zbl x ((zbk x a b).getD i default) b).1.length)):d=dy (P1 x a b i+P2 x ((zbk x a b).getD i default) a b (j+1)):=by
 rw [← zx5 hj,hd]
theorem z0e {x:Family} {a b:Int} {i:Nat} (hi:i<(zbk x a b).length) {d:Dyad} (hd:d=dy (P1 x a b i+P2 x ((zbk x a b).getD i default) a b (zbl x ((zbk x a b).getD i default) a).1.length)):d=dy (P1 x a b (i+1)):=by
 rw [← zx6 hi,hd]
end Go.Proofs.Ytaageiiodlfeiaa
