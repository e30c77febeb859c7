import Derived.Test.YtkkijpibajigfaaVN5
set_option maxHeartbeats 4000000
set_option linter.unusedSimpArgs false
set_option linter.unusedVariables false
namespace Go.Proofs.Ytkkijpibajigfaa
open Go Go.Lite Go.Proofs
theorem nested_all (p:Nat→Nat→Bool) (n m:Nat):loopN (fun i1 (_:Unit) nx1=>loopN (fun i2 (_:Unit) next=>bif p i1 i2 then false else (next ())) (fun (_:Unit)=>nx1 ()) m 0 ()) (fun (_:Unit)=>true) n 0 ()=true ↔ ∀ i,i<n→∀ j,j<m→p i j=false:=by
 have key:∀ k i,loopN (fun i1 (_:Unit) nx1=>loopN (fun i2 (_:Unit) next=>bif p i1 i2 then false else (next ())) (fun (_:Unit)=>nx1 ()) m 0 ()) (fun (_:Unit)=>true) k i ()=true ↔ ∀ u,i≤u→u<i+k→∀ j,j<m→p u j=false:=by
  intro k
  induction k with
  | zero=>intro i;simp only [loopN];exact ⟨fun _ u h1 h2=>by omega,fun _=>trivial⟩
  | succ k ih =>
   intro i
   rw [loopN,loopN_all,ih (i+1)]
   constructor
   ·rintro ⟨h1,h2⟩ u h3 h4 j hj
    rcases Nat.lt_or_ge i u with h | h
    ·exact h2 u (by omega) (by omega) j hj
    ·have e:u=i:=by omega
     subst e;exact h1 j hj
   ·intro h
    exact ⟨fun j hj=>h i (Nat.le_refl _) (by omega) j hj,fun u h1 h2=>h u (by omega) (by omega)⟩
 rw [key n 0]
 exact ⟨fun h i hi=>h i (Nat.zero_le _) (by omega),fun h u _ h2=>h u (by omega)⟩
theorem apt_iff (l m:List Int):apt l m=true ↔ ∀ x ∈ l.drop 1,x ∉ m.drop 1:=by
 unfold apt
 rw [List.all_eq_true]
 simp only [Bool.not_eq_true',List.contains_eq_mem,decide_eq_false_iff_not]
theorem l8Apart_eq (l m:List Int):l8Apart l m=apt l m:=by
 have e:∀ l:List Int,(l.drop 1).take (l.length - 1)=l.drop 1:=fun l=>by
  rw [List.take_of_length_le];rw [List.length_drop];exact Nat.le_refl _
 unfold l8Apart
 rw [Bool.eq_iff_iff,apt_iff,e,e]
 rw [nested_all fun i j=>decide ((l.drop 1).getD i default=(m.drop 1).getD j default)]
 constructor
 ·intro h x hx hy
  obtain ⟨i,h1,h2⟩:=mem_getD (d:=default) hx
  obtain ⟨j,h3,h4⟩:=mem_getD (d:=default) hy
  have:=of_decide_eq_false (h i h1 j h3)
  exact this (by rw [h2,h4])
 ·intro h i hi j hj
  refine decide_eq_false fun e=>h _ (getD_mem (d:=default) hi) ?_
  rw [e];exact getD_mem hj
theorem implApart_eq (l m:List Int):implApart (l.drop 1) (m.drop 1)=apt l m:=by
 unfold implApart
 rw [Bool.eq_iff_iff,apt_iff,loopN_all fun i=>hasInt (m.drop 1) ((l.drop 1).getD i default)]
 have hh:∀ (l:List Int) (y:Int),hasInt l y=true ↔ y ∈ l:=fun l y=>by
  unfold hasInt
  rw [loopN_any fun i=>decide (l.getD i default=y)]
  constructor
  ·rintro (⟨j,h1,h2⟩ | h)
   ·rw [← of_decide_eq_true h2];exact getD_mem h1
   ·cases h
  ·intro h
   obtain ⟨k,h1,h2⟩:=mem_getD (d:=default) h
   exact .inl ⟨k,h1,decide_eq_true h2⟩
 constructor
 ·rintro ⟨h,_⟩ x hx hy
  obtain ⟨i,h1,h2⟩:=mem_getD (d:=default) hx
  have h3:=h i h1
  rw [Bool.eq_false_iff] at h3
  exact h3 ((hh _ _).2 (by rw [h2];exact hy))
 ·intro h
  refine ⟨fun i hi=>?_,rfl⟩
  rw [Bool.eq_false_iff]
  exact fun h2=>h _ (getD_mem (d:=default) hi) ((hh _ _).1 h2)
theorem inbr_eq {x:Family} (hf:specIsFamily x=true) {q:Int} (hq:0≤q∧q<x.people.length):l8Inbreeding x (l8Table x) q=dy (inb x q):=by
 unfold l8Inbreeding inb
 have e:(decide ((x.people.getD q.toNat default).father<0) || decide ((x.people.getD q.toNat default).mother<0))=!(decide (0≤(x.people.getD q.toNat default).father) && decide (0≤(x.people.getD q.toNat default).mother)):=by
  rw [Bool.eq_iff_iff]
  simp only [Bool.or_eq_true,Bool.not_eq_true',Bool.and_eq_false_iff,decide_eq_true_eq,decide_eq_false_iff_not]
  omega
 rw [e]
 cases c:(decide (0≤(x.people.getD q.toNat default).father) && decide (0≤(x.people.getD q.toNat default).mother)) with
 | false=>exact dy_zero.symm
 | true =>
  have h2:=two_par3 hf hq c
  rw [Bool.not_true,cond_false,cond_true]
  exact ((l8Table_tab hf).at (q:=(x.people.getD q.toNat default).father) (b:=(x.people.getD q.toNat default).mother) (by omega) (by omega)).2.2
theorem inbr_Dy {x:Family} (hf:specIsFamily x=true) {q:Int} (hq:0≤q∧q<x.people.length):Dy (l8Inbreeding x (l8Table x) q):=by
 have:=inb_rng hf hq
 rw [inbr_eq hf hq];exact dy_Dy (by omega)
theorem Dy_one:Dy ⟨1,0⟩:=by rw [← dy_one];exact dy_Dy (by omega)
theorem part_eq {x:Family} (hf:specIsFamily x=true) {q:Int} (hq:0≤q∧q<x.people.length):l8Add ⟨1,0⟩ (l8Inbreeding x (l8Table x) q)=dy (tq x q):=by
 have:=inb_rng hf hq
 rw [inbr_eq hf hq,← dy_one,dy_add (by omega) (by omega)];rfl
structure KT (x:Family) (a b:Int) (i j k:Nat):Prop where
 q:0≤(l8Common x a b).getD i default∧(l8Common x a b).getD i default<x.people.length
 len:((specDescent x ((l8Common x a b).getD i default) a).1.getD j default).length+((specDescent x ((l8Common x a b).getD i default) b).1.getD k default).length≤22
 l1:1≤((specDescent x ((l8Common x a b).getD i default) a).1.getD j default).length
 m1:1≤((specDescent x ((l8Common x a b).getD i default) b).1.getD k default).length
 num:0≤(l8Add ⟨1,0⟩ (l8Inbreeding x (l8Table x) ((l8Common x a b).getD i default))).num∧(l8Add ⟨1,0⟩ (l8Inbreeding x (l8Table x) ((l8Common x a b).getD i default))).num≤2199023255552
 exp:0≤(l8Add ⟨1,0⟩ (l8Inbreeding x (l8Table x) ((l8Common x a b).getD i default))).exp∧(l8Add ⟨1,0⟩ (l8Inbreeding x (l8Table x) ((l8Common x a b).getD i default))).exp≤40
 red:l8Reduce (l8Add ⟨1,0⟩ (l8Inbreeding x (l8Table x) ((l8Common x a b).getD i default))).num ((l8Add ⟨1,0⟩ (l8Inbreeding x (l8Table x) ((l8Common x a b).getD i default))).exp+((((specDescent x ((l8Common x a b).getD i default) a).1.getD j default).length:Nat):Int)+((((specDescent x ((l8Common x a b).getD i default) b).1.getD k default).length:Nat):Int) - 1)=dy (tq x ((l8Common x a b).getD i default) / 2 ^ (((specDescent x ((l8Common x a b).getD i default) a).1.getD j default).length+((specDescent x ((l8Common x a b).getD i default) b).1.getD k default).length - 1))
 rd:Dy (l8Reduce (l8Add ⟨1,0⟩ (l8Inbreeding x (l8Table x) ((l8Common x a b).getD i default))).num ((l8Add ⟨1,0⟩ (l8Inbreeding x (l8Table x) ((l8Common x a b).getD i default))).exp+((((specDescent x ((l8Common x a b).getD i default) a).1.getD j default).length:Nat):Int)+((((specDescent x ((l8Common x a b).getD i default) b).1.getD k default).length:Nat):Int) - 1))
 tw:0≤tq x ((l8Common x a b).getD i default) / 2 ^ (((specDescent x ((l8Common x a b).getD i default) a).1.getD j default).length+((specDescent x ((l8Common x a b).getD i default) b).1.getD k default).length - 1)∧tq x ((l8Common x a b).getD i default) / 2 ^ (((specDescent x ((l8Common x a b).getD i default) a).1.getD j default).length+((specDescent x ((l8Common x a b).getD i default) b).1.getD k default).length - 1)≤2199023255552
theorem kt0 {x : Family} (hf : specIsFamily x = true) {a b q : Int} {l m : List Int} (ha : 0 ≤ a ∧ a < x.people.length) (hb : 0 ≤ b ∧ b < x.people.length) (hq : 0 ≤ q ∧ q < x.people.length) (hl : Ln x a q l) (hm : Ln x b q m) :
    (l.length+m.length≤22∧1≤l.length∧1≤m.length)∧(0≤(l8Add ⟨1,0⟩ (l8Inbreeding x (l8Table x) q)).num∧(l8Add ⟨1,0⟩ (l8Inbreeding x (l8Table x) q)).num≤2199023255552)∧(0≤(l8Add ⟨1,0⟩ (l8Inbreeding x (l8Table x) q)).exp∧(l8Add ⟨1,0⟩ (l8Inbreeding x (l8Table x) q)).exp≤40) ∧
    l8Reduce (l8Add ⟨1,0⟩ (l8Inbreeding x (l8Table x) q)).num ((l8Add ⟨1,0⟩ (l8Inbreeding x (l8Table x) q)).exp+((l.length:Nat):Int)+((m.length:Nat):Int) - 1)=dy (tq x q / 2 ^ (l.length+m.length - 1))∧(0≤tq x q / 2 ^ (l.length+m.length - 1)∧tq x q / 2 ^ (l.length+m.length - 1)≤2199023255552):=by
 have k1:=hl.le_len hf ha
 have k2:=hm.le_len hf hb
 have h1:=tq_dvd hf ha hb hl hm
 have h2:=tq_rng hf hq
 have h3:=part_eq hf hq
 have h4:=dy_bd (n:=tq x q) h2
 have h5:0≤tq x q / 2 ^ (l.length+m.length - 1):=Int.ediv_nonneg h2.1 (Int.le_of_lt (pow_pos2 _))
 have h6:tq x q / 2 ^ (l.length+m.length - 1)≤tq x q:=Int.ediv_le_self _ h2.1
 refine ⟨⟨h1.2.2,k1.2.1,k2.2.1⟩,by rw [h3];exact h4.1,by rw [h3];exact h4.2,?_,by omega⟩
 rw [h3,show (dy (tq x q)).exp+((l.length:Nat):Int)+((m.length:Nat):Int) - 1=(dy (tq x q)).exp+((l.length+m.length - 1:Nat):Int) by omega]
 exact dy_part h2.1 h1.1
theorem kt {x:Family} (hf:specIsFamily x=true) {a b:Int} (ha:0≤a∧a<x.people.length) (hb:0≤b∧b<x.people.length) {i j k:Nat} (hi:i<(l8Common x a b).length) (hj:j<(specDescent x ((l8Common x a b).getD i default) a).1.length) (hk:k<(specDescent x ((l8Common x a b).getD i default) b).1.length):KT x a b i j k:=by
 have hq:=(l8Common_mem x a b).2 _ (getD_mem (d:=default) hi)
 have hl:Ln x a ((l8Common x a b).getD i default) ((specDescent x ((l8Common x a b).getD i default) a).1.getD j default):=dl_ln hf (by omega) ha (getD_mem hj)
 have hm:Ln x b ((l8Common x a b).getD i default) ((specDescent x ((l8Common x a b).getD i default) b).1.getD k default):=dl_ln hf (by omega) hb (getD_mem hk)
 have h:=kt0 hf ha hb ⟨hq.1,hq.2.1⟩ hl hm
 exact ⟨⟨hq.1,hq.2.1⟩,h.1.1,h.1.2.1,h.1.2.2,h.2.1,h.2.2.1,h.2.2.2.1,by rw [h.2.2.2.1];exact dy_Dy h.2.2.2.2,h.2.2.2.2⟩
def PS (x:Family) (a b:Int) (i j k:Nat):Int:=P1 x a b i+P2 x ((l8Common x a b).getD i default) a b j+P3 x ((l8Common x a b).getD i default) b ((specDescent x ((l8Common x a b).getD i default) a).1.getD j default) k
theorem PS_0 (x:Family) (a b:Int):(⟨0,0⟩:Dyad)=dy (P1 x a b 0):=by
 have:P1 x a b 0=0:=rfl
 rw [this,dy_zero]
theorem PS_rng {x:Family} (hf:specIsFamily x=true) {a b:Int} (ha:0≤a∧a<x.people.length) (hb:0≤b∧b<x.people.length) {i j k:Nat} (hi:i<(l8Common x a b).length) (hj:j<(specDescent x ((l8Common x a b).getD i default) a).1.length):0≤PS x a b i j k∧PS x a b i j k≤1099511627776:=P_rng hf ha hb hi hj
theorem PS_end3 {x:Family} {a b:Int} {i j:Nat} (hj:j<(specDescent x ((l8Common x a b).getD i default) a).1.length):PS x a b i j (specDescent x ((l8Common x a b).getD i default) b).1.length=P1 x a b i+P2 x ((l8Common x a b).getD i default) a b (j+1):=by
 unfold PS P2 P3 dl
 rw [sumL_snoc (fun l=>sumL (wq x ((l8Common x a b).getD i default) l) (specDescent x ((l8Common x a b).getD i default) b).1) _ hj default,List.take_length,Int.add_assoc]
theorem PS_end2 {x:Family} {a b:Int} {i:Nat} (hi:i<(l8Common x a b).length):P1 x a b i+P2 x ((l8Common x a b).getD i default) a b (specDescent x ((l8Common x a b).getD i default) a).1.length=P1 x a b (i+1):=by
 unfold P1 P2 dl
 rw [sumL_snoc (fun q=>sumL (fun l=>sumL (wq x q l) (specDescent x q b).1) (specDescent x q a).1) _ hi default,List.take_length]
theorem PS_start2 (x:Family) (a b q:Int) (i:Nat):P1 x a b i=P1 x a b i+P2 x q a b 0:=by
 have:P2 x q a b 0=0:=rfl
 rw [this,Int.add_zero]
theorem PS_start3 (x:Family) (a b:Int) (i j:Nat):P1 x a b i+P2 x ((l8Common x a b).getD i default) a b j=PS x a b i j 0:=by
 have:P3 x ((l8Common x a b).getD i default) b ((specDescent x ((l8Common x a b).getD i default) a).1.getD j default) 0=0:=rfl
 unfold PS
 rw [this,Int.add_zero]
theorem PS_next {x:Family} {a b:Int} {i j k:Nat} (hk:k<(specDescent x ((l8Common x a b).getD i default) b).1.length):PS x a b i j (k+1)=PS x a b i j k+wq x ((l8Common x a b).getD i default) ((specDescent x ((l8Common x a b).getD i default) a).1.getD j default) ((specDescent x ((l8Common x a b).getD i default) b).1.getD k default):=by
 unfold PS P3 dl
 rw [sumL_snoc (wq x ((l8Common x a b).getD i default) ((specDescent x ((l8Common x a b).getD i default) a).1.getD j default)) _ hk default]
 omega
theorem PS_no {x:Family} {a b:Int} {i j k:Nat} (hk:k<(specDescent x ((l8Common x a b).getD i default) b).1.length) (h:l8Apart ((specDescent x ((l8Common x a b).getD i default) a).1.getD j default) ((specDescent x ((l8Common x a b).getD i default) b).1.getD k default)=false):PS x a b i j (k+1)=PS x a b i j k:=by
 rw [PS_next hk,wq,← l8Apart_eq,h,cond_false,Int.add_zero]
theorem PS_yes {x:Family} {a b:Int} {i j k:Nat} (hk:k<(specDescent x ((l8Common x a b).getD i default) b).1.length) (h:l8Apart ((specDescent x ((l8Common x a b).getD i default) a).1.getD j default) ((specDescent x ((l8Common x a b).getD i default) b).1.getD k default)=true):PS x a b i j (k+1)=PS x a b i j k+tq x ((l8Common x a b).getD i default) / 2 ^ (((specDescent x ((l8Common x a b).getD i default) a).1.getD j default).length+((specDescent x ((l8Common x a b).getD i default) b).1.getD k default).length - 1):=by
 rw [PS_next hk,wq,← l8Apart_eq,h,cond_true]
theorem dyad_eta (d:Dyad):Dyad.mk d.num d.exp=d:=rfl
theorem kbl_yes {x : Family} (hf : specIsFamily x = true) {a b : Int} (ha : 0 ≤ a ∧ a < x.people.length) (hb : 0 ≤ b ∧ b < x.people.length) {i j k : Nat} (hi : i < (l8Common x a b).length) (hj : j < (specDescent x ((l8Common x a b).getD i default) a).1.length) (hk : k < (specDescent x ((l8Common x a b).getD i default) b).1.length) (h : l8Apart ((specDescent x ((l8Common x a b).getD i default) a).1.getD j default) ((specDescent x ((l8Common x a b).getD i default) b).1.getD k default) = true) {d : Dyad} (hd : d = dy (PS x a b i j k)) :
    l8Add d (l8Reduce (l8Add ⟨1,0⟩ (l8Inbreeding x (l8Table x) ((l8Common x a b).getD i default))).num ((l8Add ⟨1,0⟩ (l8Inbreeding x (l8Table x) ((l8Common x a b).getD i default))).exp+((((specDescent x ((l8Common x a b).getD i default) a).1.getD j default).length:Nat):Int)+((((specDescent x ((l8Common x a b).getD i default) b).1.getD k default).length:Nat):Int) - 1))=dy (PS x a b i j (k+1)):=by
 have h1:=kt hf ha hb hi hj hk
 rw [PS_yes hk h,h1.red,hd,dy_add (PS_rng hf ha hb hi hj).1 h1.tw.1]
theorem PS_Dy {x:Family} (hf:specIsFamily x=true) {a b:Int} (ha:0≤a∧a<x.people.length) (hb:0≤b∧b<x.people.length) {i j k:Nat} (hi:i<(l8Common x a b).length) (hj:j<(specDescent x ((l8Common x a b).getD i default) a).1.length) {d:Dyad} (hd:d=dy (PS x a b i j k)):Dy d:=by
 have:=PS_rng hf ha hb hi hj (k:=k)
 rw [hd];exact dy_Dy (by omega)
theorem dl_small (x:Family) (q p:Int):(specDescent x q p).1.length≤1000:=by
 have:=(descent_bd x q p).1
 rwa [descent_eq] at this
theorem kbl_no {x:Family} {a b:Int} {i j k:Nat} (hk:k<(specDescent x ((l8Common x a b).getD i default) b).1.length) (h:l8Apart ((specDescent x ((l8Common x a b).getD i default) a).1.getD j default) ((specDescent x ((l8Common x a b).getD i default) b).1.getD k default)=false) {d:Dyad} (hd:d=dy (PS x a b i j k)):d=dy (PS x a b i j (k+1)):=by
 rw [PS_no hk h,hd]
theorem kbl_e3 {x:Family} {a b:Int} {i j:Nat} (hj:j<(specDescent x ((l8Common x a b).getD i default) a).1.length) {d:Dyad} (hd:d=dy (PS x a b i j (specDescent x ((l8Common x a b).getD i default) b).1.length)):d=dy (P1 x a b i+P2 x ((l8Common x a b).getD i default) a b (j+1)):=by
 rw [← PS_end3 hj,hd]
theorem kbl_e2 {x:Family} {a b:Int} {i:Nat} (hi:i<(l8Common x a b).length) {d:Dyad} (hd:d=dy (P1 x a b i+P2 x ((l8Common x a b).getD i default) a b (specDescent x ((l8Common x a b).getD i default) a).1.length)):d=dy (P1 x a b (i+1)):=by
 rw [← PS_end2 hi,hd]
end Go.Proofs.Ytkkijpibajigfaa
