import Derived.Test.YtnibbmmljamolaaGreatM153
set_option maxHeartbeats 4000000
set_option linter.unusedSimpArgs false
set_option linter.unusedVariables false
namespace Go.Proofs.YtnibbmmljamolaaGreat
open Go Go.Lite Go.Proofs
def sN(f : Nat → Nat) : Nat → Nat
  |0=>0
  |n+1=>sN f n+f n
theorem sN_le{f g : Nat → Nat} : ∀n : Nat, (∀i, i < n → f i ≤ g i) → sN f n ≤ sN g n
  |0,_=>oz _
  |n+1,h=>Nat.add_le_add (sN_le n fun i hi=>h i vdh) (h n vdh)
theorem zql(f g : Nat → Nat) : ∀n : Nat, sN (fun i => f i + g i) n = sN f n + sN g n
  |0=>rfl
  |n+1=>by simp only[sN,zql f g n];omega
theorem zzt : ∀n : Nat, sN (fun _ => 0) n = 0
  |0=>rfl
  |n+1=>by simp only[sN,zzt n]
theorem zzu(f : Nat → Nat → Nat)(m : Nat) : ∀n : Nat, sN (fun i => sN (fun j => f i j) m) n = sN (fun j => sN (fun i => f i j) n) m
  |0=>by simp only[sN];rw[zzt]
  |n+1=>by simp only[sN];rw[zzu f m n,←zql]
theorem zzv(a : Int) : ∀n : Nat, sN (fun v => if a = (v : Int) then 1 else 0) n = if 0 ≤ a ∧ a < n then 1 else 0
  |0=>by simp only[sN];rw[if_neg vdh]
  |n + 1 => by
    simp only[sN,zzv a n]
    by_cases h1:a=(n:Int)
    · rw [if_neg vdh,if_pos h1,if_pos vdh]
    · rw [if_neg h1]
      by_cases h2:0≤a∧a<n
      · rw [if_pos h2,if_pos vdh]
      · rw [if_neg h2,if_neg vdh]
theorem sN_at(a : Int)(k : Nat) : ∀n : Nat, sN (fun v => if a = (v : Int) then k else 0) n = if 0 ≤ a ∧ a < n then k else 0
  |0=>by simp only[sN];rw[if_neg vdh]
  |n + 1 => by
    simp only[sN,sN_at a k n]
    split<;>split<;>split<;>omega
def pr(w : Nat → Nat)(n : Nat) : Nat → Nat
  |0=>1
  |k+1=>w (n - 1 - k) * pr w n k
def sm(w : Nat → Nat)(n : Nat) : Nat → Nat
  |0=>0
  |k+1=>w (n - 1 - k)+sm w n k
theorem z32(w : Nat → Nat)(n : Nat) : ∀k : Nat, k ≤ n → sN w n = sN w (n - k) + sm w n k
  |0,_=>rfl
  |k + 1, h => by
    have h1:=z32 w n k vdh
    rw[h1,show n - k=(n - (k+1))+1 by omega]
    simp only[sN,sm]
    rw[show n - 1 - k=n - (k+1) by omega];omega
theorem z5w{w:Nat}(h:w<64):w ^ 3≤3 ^ w:=by have:∀i:Fin 64,(i:Nat) ^ 3≤3 ^ (i:Nat):=vc1;exact this ⟨w,h⟩
theorem z33{w:Nat}(h:w<64):(w * w) ^ 3≤65 * 3 ^ w:=by have:∀i:Fin 64,((i:Nat) * (i:Nat)) ^ 3≤65 * 3 ^ (i:Nat):=vc1;exact this ⟨w,h⟩
def wt(f:yc)(y:Int)(tk:List Bool)(v:Nat):Nat:=if tk.getD v default&&!zfb f (v:Int) y then(kidsT f tk (v:Int)).length else 1
def wt0(f:yc)(y:Int)(tk:List Bool)(v:Nat):Nat:=if tk.getD v default&&!zfb f (v:Int) y then(kidsT f tk (v:Int)).length else 0
theorem z4t{f : yc}(hf : zad f = true)(y : Int)(tk : List Bool)(v : Nat) : wt f y tk v ^ 3 ≤ 3 ^ wt0 f y tk v := by
 unfold wt wt0;split
 ·exact z5w (Nat.lt_of_le_of_lt (zld tk _) (by have := (fam_n hf).1; omega))
 exact oz _
theorem zr0{f : yc}(hf : zad f = true)(y : Int)(tk : List Bool)(n a : Nat) : ∀b : Nat, ∃M, pr (wt f y tk) n (a + b) = M * pr (wt f y tk) n a ∧ M ^ 3 * 3 ^ sm (wt0 f y tk) n a ≤ 3 ^ sm (wt0 f y tk) n (a + b)
  |0=>⟨1,vdj,vdj⟩
  |b + 1 => by
    obtain⟨M,h1,h2⟩:=zr0 hf y tk n a b
    refine⟨wt f y tk (n - 1 - (a+b)) * M,?_,?_⟩
    · show wt f y tk (n - 1 - (a+b)) * pr (wt f y tk) n (a+b)=_
      rw[h1,Nat.mul_assoc]
    · show _≤3 ^ (wt0 f y tk (n - 1 - (a+b))+sm (wt0 f y tk) n (a+b))
      rw[Nat.mul_pow,Nat.pow_add,Nat.mul_assoc]
      exact Nat.mul_le_mul (z4t hf y tk _) h2
theorem ch_bd{f : yc}(hf : zad f = true){y : Int}{tk : List Bool}{q : Int}{r : Nat}(h : Ch f y tk q r) : ∀k : Nat, (0 ≤ q ∧ q < f.people.length) → tk.getD q.toNat default = true → (k : Int) = f.people.length - q → r ∣ pr (wt f y tk) f.people.length k ∧ ∃j : Nat, (r * pr (wt f y tk) f.people.length k) ^ 3 ≤ 65 ^ j * 3 ^ sm (wt0 f y tk) f.people.length k ∧ (j : Int) + dd f q ≤ 10 := by
 have hn:=(fam_n hf).1;induction h with
 | nil q =>intro k hq hk e;refine⟨Nat.one_dvd _,0,?_,by have:=(zln hf hq).2;omega⟩;obtain⟨M,h1,h2⟩:=zr0 hf y tk f.people.length 0 k;rw[Nat.zero_add] at h1 h2;rw[Nat.one_mul,h1,Nat.pow_zero,Nat.one_mul];simp only[pr,Nat.mul_one,sm,Nat.pow_zero] at h2 ⊢;exact h2
 |@cons q c r hd hc h ih =>
  intro k hq hk e;have h1:=zfu hf hq.1 hc;obtain⟨h2,j,h3,h4⟩:=ih (f.people.length - c.toNat) vdh h1.2.1 vdh;have hdd:dd f q+1≤dd f c:=by obtain⟨i,g1,g2,g3⟩:=(zfo f q c).1 h1.2.2;have:=zg4 hf (a:=c) ⟨vdh,vdh⟩ (q:=q) ⟨hq.1,by rw[g2,Int.toNat_natCast];omega⟩;omega
  obtain⟨M,g1,g2⟩:=zr0 hf y tk f.people.length (f.people.length - c.toNat) (k - 1 - (f.people.length - c.toNat));rw[show(f.people.length - c.toNat)+(k - 1 - (f.people.length - c.toNat))=k - 1 by omega] at g1 g2;have hw:wt f y tk (f.people.length - 1 - (k - 1))=(kidsT f tk q).length∧wt0 f y tk (f.people.length - 1 - (k - 1))=(kidsT f tk q).length:=by have e2:f.people.length - 1 - (k - 1)=q.toNat:=vdh;unfold wt wt0;rw[e2,hk,show((q.toNat:Nat):Int)=q by omega,hd];exact⟨rfl,rfl⟩
  have ek:pr (wt f y tk) f.people.length k=(kidsT f tk q).length * (M * pr (wt f y tk) f.people.length (f.people.length - c.toNat)):=by rw[show k=(k - 1)+1 by omega];show wt f y tk (f.people.length - 1 - (k - 1)) * pr _ _ (k - 1)=_;rw[hw.1,g1]
  have es:sm (wt0 f y tk) f.people.length k=(kidsT f tk q).length+sm (wt0 f y tk) f.people.length (k - 1):=by rw[show k=(k - 1)+1 by omega];show wt0 f y tk (f.people.length - 1 - (k - 1))+sm _ _ (k - 1)=_;rw[hw.2];rfl
  have h6:=z33 (w:=(kidsT f tk q).length) (Nat.lt_of_le_of_lt (zld tk q) vdh);rw[ek,es];revert h2 h3 g2 h6;generalize(kidsT f tk q).length=A;generalize pr (wt f y tk) f.people.length (f.people.length - c.toNat)=P;generalize sm (wt0 f y tk) f.people.length (f.people.length - c.toNat)=s;generalize sm (wt0 f y tk) f.people.length (k - 1)=s1;intro h2 h3 g2 h6;refine⟨Nat.mul_dvd_mul_left _ (Nat.dvd_trans h2 (Nat.dvd_mul_left _ _)),j+1,?_,vdh⟩;have e1:A * r * (A * (M * P))=A * A * M * (r * P):=by ac_rfl
  rw[e1,Nat.mul_pow,Nat.mul_pow]
  calc (A * A) ^ 3 * M ^ 3 * (r * P) ^ 3 ≤ (A * A) ^ 3 * M ^ 3 * (65 ^ j * 3 ^ s) := Nat.mul_le_mul_left _ h3
    _=(A * A) ^ 3 * 65 ^ j * (M ^ 3 * 3 ^ s):=by ac_rfl
    _≤(65 * 3 ^ A) * 65 ^ j * 3 ^ s1:=Nat.mul_le_mul (oW _ h6) g2
    _=65 ^ (j+1) * 3 ^ (A+s1):=by rw[Nat.pow_succ,Nat.pow_add];ac_rfl
theorem zz7:65 ^ 11 * 3 ^ 77<9223372036854775808 ^ 3:=vc1
def whole(f:yc)(y:Int)(tk:List Bool)(n:Nat):Nat:=n * pr (wt f y tk) f.people.length f.people.length
theorem z4v{f : yc}(hf : zad f = true){y : Int}{tk : List Bool}{n : Nat}(hs : n + sN (wt0 f y tk) f.people.length ≤ 77)(hn64 : n < 64){c : Int}(hc : (0 ≤ c ∧ c < f.people.length) ∧ tk.getD c.toNat default = true) : Bdg f y tk (whole f y tk n) (1 * n) c := fun r hr => by
  obtain⟨h2,j,h3,h4⟩:=ch_bd hf hr (f.people.length - c.toNat) hc.1 hc.2 vdh
  obtain⟨M,g1,g2⟩:=zr0 hf y tk f.people.length (f.people.length - c.toNat) c.toNat
  rw[show f.people.length - c.toNat+c.toNat=f.people.length by omega] at g1 g2
  have h0:=z32 (wt0 f y tk) f.people.length f.people.length (oz _)
  rw[Nat.sub_self] at h0
  simp only[sN,Nat.zero_add] at h0
  have hj:=(zln hf hc.1).1
  have h6:=z33 hn64
  unfold whole
  rw[g1,Nat.one_mul]
  revert h2 h3 g2
  generalize pr (wt f y tk) f.people.length (f.people.length - c.toNat)=P
  generalize sm (wt0 f y tk) f.people.length (f.people.length - c.toNat)=s
  intro h2 h3 g2
  refine⟨Nat.mul_dvd_mul_left _ (Nat.dvd_trans h2 (Nat.dvd_mul_left _ _)),?_⟩
  have e1:n * r * (n * (M * P))=n * n * M * (r * P):=by ac_rfl
  have key : (n * r * (n * (M * P))) ^ 3 < 9223372036854775808 ^ 3 := by
    rw[e1,Nat.mul_pow,Nat.mul_pow]
    calc (n * n) ^ 3 * M ^ 3 * (r * P) ^ 3 ≤ (n * n) ^ 3 * M ^ 3 * (65 ^ j * 3 ^ s) := Nat.mul_le_mul_left _ h3
      _=(n * n) ^ 3 * 65 ^ j * (M ^ 3 * 3 ^ s):=by ac_rfl
      _≤(65 * 3 ^ n) * 65 ^ j * 3 ^ sm (wt0 f y tk) f.people.length f.people.length:=Nat.mul_le_mul (oW _ h6) g2
      _=65 ^ (j+1) * 3 ^ (n+sm (wt0 f y tk) f.people.length f.people.length):=by rw[Nat.pow_succ,Nat.pow_add];ac_rfl
      _≤65 ^ 11 * 3 ^ 77:=Nat.mul_le_mul (Nat.pow_le_pow_right vdh vdh) (Nat.pow_le_pow_right vdh vdh)
      _<_:=zz7
  exact Nat.le_of_lt_succ (Nat.lt_of_not_le fun h=>absurd key (Nat.not_lt.2 (Nat.pow_le_pow_left h 3)))
def kidN(f:yc)(v c:Nat):Nat:=if isKid f (v:Int) c then 1 else 0
theorem zt1(f : yc)(p : Int)(g : Int → Bool) : ∀n : Nat, ((zd6 f p n).filter g).length = sN (fun c => if isKid f p c && g (c : Int) then 1 else 0) n
  |0=>rfl
  |n + 1 => by
    rw[zfv,List.filter_append,oh,zt1 f p g n]
    simp only[sN]
    congr 1
    cases h1:isKid f p n<;>cases h2:g (n:Int)<;>simp[h1,h2]
theorem zq3(f:yc)(tk:List Bool)(p:Int):(kidsT f tk p).length=sN (fun c=>if isKid f p c&&tk.getD c default then 1 else 0) f.people.length:=by unfold kidsT;rw[((zhb f p).2.filter _).length_eq,zt1 f p];rfl
def pairs(f:yc):Nat:=sN (fun v=>sN (fun c=>kidN f v c) f.people.length) f.people.length
theorem z20{f : yc}(hf : zad f = true) : pairs f ≤ sN (fun c => if c = 0 then 0 else if c = 1 then 1 else 2) f.people.length := by
 have hn := (fam_n hf).1;unfold pairs;rw[zzu];have hb : ∀c, c < f.people.length → sN (fun v => kidN f v c) f.people.length ≤ (if c = 0 then 0 else if c = 1 then 1 else 2) := fun c hc => by
  have hp:=fam_p hf hc;have h1:=hp.fa;have h2:=hp.mo;have h3:sN (fun v=>kidN f v c) f.people.length≤sN (fun v=>(if(f.people.getD c default).father=(v:Int) then 1 else 0)+(if(f.people.getD c default).mother=(v:Int) then 1 else 0)) f.people.length:=sN_le _ fun v _=>by unfold kidN isKid;generalize(f.people.getD c default).father=fa;generalize(f.people.getD c default).mother=mo;by_cases a:fa=(v:Int)<;>by_cases b:mo=(v:Int)<;>simp[a,b]
  rw[zql,zzv,zzv] at h3;refine Nat.le_trans h3 ?_;by_cases c0:c=0
  ·rw [if_pos c0, if_neg vdh, if_neg vdh]; omega
  rw[if_neg c0];by_cases c1:c=1
  ·rw [if_pos c1];by_cases a : 0 ≤ (f.people.getD c default).father ∧ (f.people.getD c default).father < f.people.length
   ·rw [if_pos a, if_neg (fun b => ?_)]; omega;have e1 : (f.people.getD c default).father = 0 := vdh;have e2 : (f.people.getD c default).mother = 0 := vdh;rw [e1] at h1; rw [e2] at h2;simp only [show ((0 : Int).toNat) = 0 from rfl] at h1 h2;omega
   rw[if_neg a];split<;>omega
  rw[if_neg c1];split<;>split<;>omega
 exact sN_le _ hb
theorem z2z{f:yc}(hf:zad f=true):pairs f≤77:=by refine Nat.le_trans (z20 hf) ?_;have:∀i:Fin 41,sN (fun c=>if c=0 then 0 else if c=1 then 1 else 2) (i:Nat)≤77:=vc1;exact this ⟨f.people.length,by have:=(fam_n hf).1;omega⟩
theorem z30(f : yc)(y : Int)(tk : List Bool)(v : Nat) : wt0 f y tk v ≤ sN (fun c => if isKid f (v : Int) c && tk.getD c default then 1 else 0) f.people.length := by
 unfold wt0;split
 ·rw [zq3]; exact oz _
 exact Nat.zero_le _
theorem z2j{f : yc}(hf : zad f = true){y p : Int}{tk : List Bool}(hp : 0 ≤ p ∧ p < f.people.length)(h0 : tk.getD p.toNat default = false) : (kidsT f tk p).length + sN (wt0 f y tk) f.people.length ≤ pairs f := by
 unfold pairs;have h1:=sN_at p (kidsT f tk p).length f.people.length;rw[if_pos hp] at h1;rw[←h1,←zql];refine sN_le _ fun v hv=>?_;by_cases e:p=(v:Int)
 ·rw [if_pos e];have e0 : wt0 f y tk v = 0 := by unfold wt0; rw [show v = p.toNat by omega, h0]; rfl
  rw[e0,zq3,e];exact sN_le _ fun c _=>by unfold kidN;cases isKid f (v:Int) c<;>cases tk.getD c default<;>simp
 rw[if_neg e,Nat.zero_add];exact Nat.le_trans (z30 f y tk v) (sN_le _ fun c _=>vbY)
theorem zzw : ∀(n : Nat) (l : List Int), l.Nodup → (∀c ∈ l, 0 ≤ c ∧ c < n) → l.length ≤ sN (fun v => if(v : Int) ∈ l then 1 else 0) n
  |0, l, _, h => by
    cases l with
    |nil=>exact Nat.zero_le _
    |cons a l=>exact absurd (h a vdj) vdh
  |n + 1, l, hd, h => by
    simp only[sN]
    by_cases e:(n:Int)∈l
    · rw [if_pos e]
      have h1 := zzw n (l.erase (n : Int)) (hd.erase _) (fun c hc => by
        have h2:=h c (List.mem_of_mem_erase hc)
        have h3:c≠(n:Int):=fun e2=>by rw[e2,hd.mem_erase_iff] at hc;exact hc.1 rfl
        omega)
      rw[List.length_erase_of_mem e] at h1
      have h4 : sN (fun v => if(v : Int) ∈ l.erase (n : Int) then 1 else 0) n ≤ sN (fun v => if(v : Int) ∈ l then 1 else 0) n := sN_le _ fun v _ => by
        by_cases e3:(v:Int)∈l.erase (n:Int)
        · rw [if_pos e3,if_pos (List.mem_of_mem_erase e3)];exact oz _
        · rw [if_neg e3];exact Nat.zero_le _
      omega
    · rw [if_neg e]
      exact zzw n l hd fun c hc => by
        have h2:=h c hc
        have h3:c≠(n:Int):=fun e2=>e (by rw[←e2];exact hc)
        omega
theorem who_up{f : yc}(hf : zad f = true){y : Int}{tk : List Bool}{G l : List Int}(hG : ∀g ∈ G, (0 ≤ g ∧ g < f.people.length) ∧ tk.getD g.toNat default = false)(hl : l.Nodup)(hk : ∀q ∈ l, (0 ≤ q ∧ q < f.people.length) ∧ ∃g ∈ G, isKid f q g.toNat = true) : l.length + sN (wt0 f y tk) f.people.length ≤ pairs f := by
 refine Nat.le_trans (Nat.add_le_add_right (zzw f.people.length l hl fun c hc=>(hk c hc).1) _) ?_;unfold pairs;rw[←zql];refine sN_le _ fun v hv=>?_;have h1:=z30 f y tk v;by_cases e:(v:Int)∈l
 ·rw [if_pos e];obtain ⟨_, g, hg, hg2⟩ := hk _ e;have h2 := hG g hg;have h3 : 1 + sN (fun c => if isKid f (v : Int) c && tk.getD c default then 1 else 0) f.people.length ≤ sN (fun c => kidN f v c) f.people.length := by
   have h4 := sN_at g 1 f.people.length;rw[if_pos h2.1] at h4;have h5 : sN (fun c => (if g = (c : Int) then 1 else 0) + (if isKid f (v : Int) c && tk.getD c default then 1 else 0)) f.people.length ≤ sN (fun c => kidN f v c) f.people.length := sN_le _ fun c _ => by
    unfold kidN;by_cases e2:g=(c:Int)
    ·rw [if_pos e2];rw [show g.toNat = c by omega] at hg2 h2;rw [hg2, h2.2]; simp
    rw[if_neg e2];cases isKid f (v:Int) c<;>cases tk.getD c default<;>simp
   rw[zql,h4] at h5;exact h5
  omega
 rw[if_neg e,Nat.zero_add];exact Nat.le_trans h1 (sN_le _ fun c _=>vbY)
def GiveOk(x : estate)(q num den : Int) : Prop := (zad x.f = true ∧ TkOk x.f x.year x.takes) ∧ ((0 ≤ q ∧ q < x.f.people.length) ∧ x.takes.getD q.toNat default = true) ∧ num = 1 ∧
  ∃(d D:Nat) (S:List Nat),(den=(d:Int)∧0<d)∧S.length=x.f.people.length∧RepS D S x.num x.den∧S.sum+D / d≤D∧Bdg x.f x.year x.takes D d q
def DivOk(x : estate)(l : List Int)(num den : Int) : Prop := (zad x.f = true ∧ TkOk x.f x.year x.takes) ∧ ((∀c ∈ l, (0 ≤ c ∧ c < x.f.people.length) ∧ x.takes.getD c.toNat default = true) ∧ l ≠ [] ∧ l.length ≤ 40) ∧ num = 1 ∧
  ∃(d D:Nat) (S:List Nat),(den=(d:Int)∧0<d)∧S.length=x.f.people.length∧RepS D S x.num x.den∧S.sum+D / d≤D∧∀c∈l,Bdg x.f x.year x.takes D (d * l.length) c
def DivI(m : Nat)(x : estate)(l : List Int)(den : Int)(i : Nat)(tk : List Bool)(nu de : List Int) : Prop := tk = x.takes ∧
  ∃(d D:Nat) (S:List Nat),(den=(d:Int)∧0<d)∧S.length=x.f.people.length∧RepS D ((l.take i).foldl (fun S c=>gS x.f x.year x.takes m c (D / d / l.length) S) S) nu de∧S.sum+D / d≤D∧∀c∈l,Bdg x.f x.year x.takes D (d * l.length) c
theorem Bdg.dvd{f:yc}{y:Int}{tk:List Bool}{D den:Nat}{q:Int}(h:Bdg f y tk D den q):den ∣ D∧den * D≤9223372036854775807:=by have:=h 1 (.nil q);rwa [Nat.mul_one] at this
theorem zpa : ∀(S : List Nat) (k : Nat), S.getD k 0 ≤ S.sum
  |[],k=>by simp
  |a :: S,0=>by simp
  |a :: S,k+1=>by have:=zpa S k;simp only[List.getD_cons_succ,List.sum_cons];omega
theorem GiveOk.rng{x:estate}{q num den:Int}(h:GiveOk x q num den):((0≤q∧q<x.num.length)∧0≤q∧q<x.den.length)∧(inR .i64 ((x.num.getD q.toNat default) * den)∧inR .i64 (num * (x.den.getD q.toNat default)))∧(0≤(x.num.getD q.toNat default) * den+num * (x.den.getD q.toNat default)∧inR .i64 ((x.num.getD q.toNat default) * den+num * (x.den.getD q.toNat default)))∧(0<(x.den.getD q.toNat default) * den∧inR .i64 ((x.den.getD q.toNat default) * den)):=by obtain⟨_,⟨hq,_⟩,rfl,d,D,S,⟨rfl,hd⟩,hS,hR,hs,hb⟩:=h;have hdv:=hb.dvd;have hu:D / d * d=D:=Nat.div_mul_cancel hdv.1;have h1:=zpa S q.toNat;have h2:=hR.rng (k:=q.toNat) (u:=D / d) vdh hd hu vdh hdv.2;have h3:=hR.ln;have h4:=hR.ld;simp only[inR];refine⟨⟨vdh,vdh⟩,⟨vdh,?_⟩,⟨h2.2.2.1.1,vdh⟩,h2.2.2.2.1,vdh⟩;rw[Int.one_mul];omega
theorem zsq{a b:Int}(ha:0≤a)(hb:0<b):1≤zbj a b∧zbj a b≤b:=by obtain⟨c,rfl⟩:=Int.eq_ofNat_of_zero_le ha;obtain⟨d,rfl⟩:=Int.eq_ofNat_of_zero_le (Int.le_of_lt hb);have hd:0<d:=vdh;rw[show((c:Nat):Int)=Int.ofNat c from rfl] at *;show 1≤zbj (c:Int) (d:Int)∧zbj (c:Int) (d:Int)≤d;rw[zki];have h1:=Nat.gcd_pos_of_pos_right c hd;have h2:=Nat.le_of_dvd hd (Nat.gcd_dvd_right c d);omega
theorem zne{a b:Int}(ha:0≤a∧a≤9223372036854775807)(hb:1≤b):0≤a.tdiv b∧a.tdiv b≤a:=by obtain⟨c,rfl⟩:=Int.eq_ofNat_of_zero_le ha.1;obtain⟨d,rfl⟩:=Int.eq_ofNat_of_zero_le (show 0≤b by omega);show 0≤(c:Int).tdiv (d:Int)∧(c:Int).tdiv (d:Int)≤(c:Int);rw[←Int.ofNat_tdiv];have:=Nat.div_le_self c d;revert this;generalize c / d=e;omega
theorem zg1{x:estate}(hf:zad x.f=true)(q:Int):zba x (zau x.f q)=(kidsT x.f x.takes q,x.takes,x.num,x.den):=by rw[zqj,zh6 x.f q (fam_n hf).1];rfl
theorem GiveOk.div{x:estate}{q num den:Int}(h:GiveOk x q num den)(ha:zfb x.f q x.year=false):DivOk (estate.mk x.f x.p x.year ((zba x (zau x.f q)).2.1) ((zba x (zau x.f q)).2.2.1) ((zba x (zau x.f q)).2.2.2)) ((zba x (zau x.f q)).1) num den:=by obtain⟨⟨hf,ht⟩,⟨hq,hk⟩,rfl,d,D,S,⟨rfl,hd⟩,hS,hR,hs,hb⟩:=h;rw[zg1 hf];have hn:=(fam_n hf).1;refine⟨⟨hf,ht⟩,⟨fun c hc=>?_,(ht.kid q hq.1 hk).resolve_left (by rw[ha];simp),Nat.le_trans (zld x.takes q) hn⟩,rfl,d,D,S,⟨rfl,hd⟩,hS,hR,hs,fun c hc=>hb.kid ha hc⟩;have:=zfu hf hq.1 hc;exact⟨⟨vdh,this.1.2⟩,this.2.1⟩
theorem DivOk.start{x:estate}{l:List Int}{num den:Int}(h:DivOk x l num den)(m:Nat):DivI m x l den 0 x.takes x.num x.den:=by obtain⟨_,_,_,d,D,S,h1,hS,hR,hs,hb⟩:=h;exact⟨rfl,d,D,S,h1,hS,hR,hs,hb⟩
theorem DivOk.den{x:estate}{l:List Int}{num den:Int}(h:DivOk x l num den):(0<den * ((l.length:Nat):Int)∧inR .i64 (den * ((l.length:Nat):Int)))∧num=1:=by obtain⟨_,⟨_,hl,_⟩,h9,d,D,S,⟨rfl,hd⟩,hS,hR,hs,hb⟩:=h;obtain⟨c,hc⟩:=List.exists_mem_of_ne_nil l hl;have h1:=(hb c hc).dvd.2;have h2:d * l.length * 1≤d * l.length * D:=Nat.mul_le_mul_left _ hR.pos;have h3:0<l.length:=List.length_pos_iff.2 hl;have h4:0<d * l.length:=Nat.mul_pos hd h3;refine⟨?_,h9⟩;rw[←Int.natCast_mul];simp only[inR];omega
theorem zvx{d:Int}(h:0≤d):zbj 1 d=1:=by obtain⟨c,rfl⟩:=Int.eq_ofNat_of_zero_le h;have:=zki 1 c;simpa using this
theorem z5v{f : yc}(hf : zad f = true){y : Int}{tk : List Bool}(ht : TkOk f y tk){m : Nat}{l : List Int}{u : Nat}(hm : lmu f.people.length l ≤ m)(hl : l ≠ [])(hk : ∀c ∈ l, (0 ≤ c ∧ c < f.people.length) ∧ tk.getD c.toNat default = true)(hr : ∀c ∈ l, ∀r, Ch f y tk c r → l.length * r ∣ u) :
    ∀(L:List Int),(∀c∈L,c∈l)→∀S:List Nat,S.length=f.people.length→(L.foldl (fun S c=>gS f y tk m c (u / l.length) S) S).sum=S.sum+L.length * (u / l.length):=fun L=>by
  have hmu:=lmu_le.1 hm
  have hd : l.length ∣ u := by
    obtain⟨c,hc⟩:=List.exists_mem_of_ne_nil l hl
    have:=hr c hc 1 (.nil c)
    rwa [Nat.mul_one] at this
  have h0:0<l.length:=List.length_pos_iff.2 hl
  have hr2:∀c∈l,∀r,Ch f y tk c r→r ∣ u / l.length:=fun c hc r h=>Nat.dvd_div_of_mul_dvd (hr c hc r h)
  induction L with
  |nil=>intro _ S _;simp
  |cons c L ih2 =>
    intro hL S hS
    have hc:=hL c vdj
    rw[List.foldl_cons,ih2 (fun d hd=>hL d (by simp[hd])) _ (by rw[(zua f y tk m).1];exact hS),(gS_sum hf ht m).1 c _ S hS (hk c hc).1 (hk c hc).2 (by have:=hmu c hc;omega) (hr2 c hc),ow,Nat.add_mul]
    omega
theorem zmi{f : yc}{y : Int}{tk : List Bool}{m : Nat}{v : Nat} : ∀(L : List Int) (S : List Nat), (L.foldl (fun S c => gS f y tk m c v S) S).length = S.length
  |[],S=>rfl
  |c :: L,S=>by rw[List.foldl_cons,zmi L,(zua f y tk m).1]
theorem z5x{f:yc}{y:Int}{tk:List Bool}{D d n:Nat}(hd:0<d){c:Int}(h:Bdg f y tk D (d * n) c)(r:Nat)(hr:Ch f y tk c r):n * r ∣ D / d:=by have:=(h r hr).1;rw[Nat.mul_assoc] at this;exact Nat.dvd_div_of_mul_dvd this
theorem DivI.gv{m : Nat}{x : estate}{l : List Int}{num den : Int}(h0 : DivOk x l num den)(hm : lmu x.f.people.length l ≤ m){i : Nat}{tk : List Bool}{nu de : List Int}(h : DivI m x l den i tk nu de)(hi : i < l.length) : GiveOk (estate.mk x.f x.p x.year tk nu de) (l.getD i default) (num.tdiv (zbj num (den * ((l.length : Nat) : Int)))) ((den * ((l.length : Nat) : Int)).tdiv (zbj num (den * ((l.length : Nat) : Int)))) := by
 obtain⟨⟨hf,ht⟩,⟨hk,hl,h40⟩,hnum,_⟩:=h0;obtain⟨rfl,d,D,S,⟨rfl,hd⟩,hS,hR,hs,hb⟩:=h;subst hnum;have hc:=zbf (d:=(default:Int)) hi;have h3:0<l.length:=vdh
 rw[zvx (by rw[←Int.natCast_mul];omega),Int.tdiv_one,Int.tdiv_one];have hsum:=z5v hf ht hm hl hk (u:=D / d) (fun c hc r hr=>z5x hd (hb c hc) r hr) (l.take i) (fun c hc=>List.mem_of_mem_take hc) S hS;have hdv:=(hb _ hc).dvd.1;refine⟨⟨hf,ht⟩,hk _ hc,rfl,d * l.length,D,_,⟨by rw[Int.natCast_mul],Nat.mul_pos hd h3⟩,(zmi _ _).trans hS,hR,?_,hb _ hc⟩;rw[hsum,←Nat.div_div_eq_div_mul,List.length_take,Nat.min_eq_left vdh]
 have e : l.length * (D / d / l.length) = D / d := Nat.mul_div_cancel' (by
   have:=Nat.dvd_div_of_mul_dvd hdv;exact this)
 have h4:(i+1) * (D / d / l.length)≤l.length * (D / d / l.length):=oW _ hi;rw[Nat.add_mul,Nat.one_mul] at h4;omega
theorem GiveOk.q{x:estate}{q num den:Int}(h:GiveOk x q num den):0≤q∧q<x.f.people.length:=h.2.1.1
theorem GiveOk.n{x:estate}{q num den:Int}(h:GiveOk x q num den):(zad x.f=true∧x.f.people.length≤40)∧x.takes.length=x.f.people.length:=⟨⟨h.1.1,(fam_n h.1.1).1⟩,h.1.2.len⟩
theorem DivOk.n{x:estate}{l:List Int}{num den:Int}(h:DivOk x l num den):((zad x.f=true∧x.f.people.length≤40)∧∀c∈l,(0≤c∧c<x.f.people.length))∧l.length≤40:=⟨⟨⟨h.1.1,(fam_n h.1.1).1⟩,fun c hc=>(h.2.1.1 c hc).1⟩,h.2.1.2.2⟩
theorem DivI.n{m:Nat}{x:estate}{l:List Int}{den:Int}{i:Nat}{tk:List Bool}{nu de:List Int}(h:DivI m x l den i tk nu de):tk=x.takes∧nu.length=x.f.people.length∧de.length=x.f.people.length:=by obtain⟨h1,d,D,S,_,hS,hR,_⟩:=h;exact⟨h1,hR.ln.trans ((zmi _ _).trans hS),hR.ld.trans ((zmi _ _).trans hS)⟩
theorem GiveOk.div2{x:estate}{q num den:Int}(h:GiveOk x q num den)(ha:(!(zb1 x.f q x.year))=true):DivOk (estate.mk x.f x.p x.year ((zba x (zau x.f q)).2.1) ((zba x (zau x.f q)).2.2.1) ((zba x (zau x.f q)).2.2.2)) ((zba x (zau x.f q)).1) num den:=h.div (not_t_iff.1 ha)
end Go.Proofs.YtnibbmmljamolaaGreat
