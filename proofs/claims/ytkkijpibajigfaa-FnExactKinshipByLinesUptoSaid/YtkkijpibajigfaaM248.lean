import Derived.Test.YtkkijpibajigfaaVN7
set_option maxHeartbeats 4000000
set_option linter.unusedSimpArgs false
set_option linter.unusedVariables false
namespace Go.Proofs.Ytkkijpibajigfaa
open Go Go.Lite Go.Proofs
theorem dyadOf_eq2 : ∀ (e : Nat) (n : Int) (m : Nat), 0 ≤ n → e < m → (loopW (fun (v1 : Int × Int) next => bif ((decide (0 < v1.2)) && (decide ((v1.1.tmod 2) = 0))) then (next (v1.1.tdiv 2, v1.2 - 1)) else ((Dyad.mk v1.1 v1.2), isDyad (Dyad.mk v1.1 v1.2))) m (n, (e : Int))) = (red n e, isDyad (red n e))
  | 0,n,m+1,_,_=>rfl
  | e+1,n,m+1,hn,hm=>by
    simp only [loopW,red]
    rw [decide_eq_true (show (0:Int)<((e+1:Nat):Int) by omega),Bool.true_and,Int.tmod_eq_emod_of_nonneg hn,Int.tdiv_eq_ediv_of_nonneg hn]
    cases decide (n % 2=0)
    · rfl
    · simp only [cond_true]
      rw [show ((e+1:Nat):Int) - 1=(e:Int) by omega]
      exact dyadOf_eq2 e (n / 2) m (by omega) (by omega)
theorem dyadOf_dy {n:Int} (hn:0≤n):dyadOf n 40=(dy n,isDyad (dy n)):=by
 unfold dyadOf dy
 exact dyadOf_eq2 40 n _ hn (by decide)
theorem dy_isD {n:Int} (h:0≤n∧n≤1099511627776) (h2:(2:Int) ^ 19 ∣ n):isDyad (dy n)=true:=by
 obtain ⟨j,k,h1,h3,h4,h5,h6⟩:=red_val 40 n h.1
 obtain ⟨c,hc⟩:=h2
 have hj:j≤21:=by
  rcases h6 with e | e
  ·omega
  ·rcases Nat.lt_or_ge k 19 with hk | hk
   ·exfalso
    have e2:(2:Int) ^ 19=2 ^ k * (2 * 2 ^ (18 - k)):=by rw [← Int.mul_assoc,← Int.pow_succ,← Int.pow_add];congr 1;omega
    rw [e2,Int.mul_assoc,← h4,Int.mul_comm] at hc
    have:=Int.eq_of_mul_eq_mul_left (Int.ne_of_gt (pow_pos2 k)) hc
    rw [Int.mul_assoc] at this
    omega
   ·omega
 have hn:(red n 40).num≤2097152:=by
  have h7 : (red n 40).num * 2 ^ 19 ≤ (red n 40).num * 2 ^ k := Int.mul_le_mul_of_nonneg_left (by
    have:(2:Int) ^ k=2 ^ 19 * 2 ^ (k - 19):=by rw [← Int.pow_add];congr 1;omega
    have h8:=pow_pos2 (k - 19)
    rw [this]
    have h9:=Int.mul_le_mul_of_nonneg_left (show (1:Int)≤2 ^ (k - 19) by omega) (show (0:Int)≤2 ^ 19 by decide)
    rwa [Int.mul_one] at h9) h5
  rw [h4] at h7
  have e3:(2:Int) ^ 19=524288:=by rfl
  rw [e3] at h7
  omega
 unfold isDyad dy
 simp only [Bool.and_eq_true,Bool.or_eq_true,decide_eq_true_eq]
 have h10:(red n 40).num.tmod 2=(red n 40).num % 2:=Int.tmod_eq_emod_of_nonneg h5
 omega
theorem kn_isD {x:Family} (hf:specIsFamily x=true) {a b:Int} (ha:0≤a∧a<x.people.length) (hb:0≤b∧b<x.people.length):isDyad (dy (kn x a b))=true:=by
 have hn:=(fam_n hf).1
 have d1:=dd_rng hf ha
 have d2:=dd_rng hf hb
 exact dy_isD (kn_rng hf ha hb).1 (Int.dvd_trans (two_dvd (by omega)) (kf_props hf 100 a b ha hb (by omega)).2)
def fewL (x:Family) (a b:Int) (q:Int):Bool:=(specDescent x q a).2 && (specDescent x q b).2
def kblR (x:Family) (a b:Int):Dyad×Bool:=bif (l8Common x a b).all (fewL x a b) then (dy (kn x a b),true) else (⟨0,0⟩,false)
theorem kbl_out {x:Family} {a b:Int} {i:Nat} (hi:i<(l8Common x a b).length) (h:fewL x a b ((l8Common x a b).getD i default)=false):kblR x a b=(⟨0,0⟩,false):=by
 unfold kblR
 have:(l8Common x a b).all (fewL x a b)=false:=by
  rw [Bool.eq_false_iff]
  intro hh
  rw [List.all_eq_true] at hh
  rw [hh _ (getD_mem hi)] at h
  cases h
 rw [this];rfl
theorem kbl_in {x:Family} (hf:specIsFamily x=true) {a b:Int} (ha:0≤a∧a<x.people.length) (hb:0≤b∧b<x.people.length) (h:∀ i,i<(l8Common x a b).length→fewL x a b ((l8Common x a b).getD i default)=true):kblR x a b=(dy (kn x a b),true)∧P1 x a b (l8Common x a b).length=kn x a b:=by
 have h1:∀ q ∈ l8Common x a b,fewL x a b q=true:=fun q hq=>by
  obtain ⟨i,h1,h2⟩:=mem_getD (d:=default) hq
  rw [← h2];exact h i h1
 refine ⟨?_,P1_eq hf ha hb fun q hq=>?_⟩
 ·unfold kblR;rw [List.all_eq_true.2 h1];rfl
 ·have:=h1 q hq
  unfold fewL at this
  simpa using this
theorem few_f {p q:Bool} (h:(!p || !q)=false):(p && q)=true:=by cases p <;> cases q <;> simp_all
theorem few_t {p q:Bool} (h:(!p || !q)=true):(p && q)=false:=by cases p <;> cases q <;> simp_all
theorem specKBL_eq {x:Family} (hf:specIsFamily x=true) {a b:Int} (ha:0≤a∧a<x.people.length) (hb:0≤b∧b<x.people.length):specKBL x a b=kblR x a b:=by
 unfold specKBL
 rw [(l1Has_iff x a).2 ⟨ha,hf⟩,(l1Has_iff x b).2 ⟨hb,hf⟩]
 rw [Bool.not_true,Bool.or_false,cond_false]
 refine loopN_to (fun i (v:Int×Int)=>Dyad.mk v.1 v.2=dy (P1 x a b i)∧∀ j,j<i→fewL x a b ((l8Common x a b).getD j default)=true) (fun (r:Dyad×Bool)=>r=kblR x a b) ⟨PS_0 x a b,fun j hj=>absurd hj (Nat.not_lt_zero _)⟩ (fun i v nx hi hv hn=>?_) (fun v hv=>?_)
 ·refine cond_both (p:=fun (r:Dyad×Bool)=>r=kblR x a b) (fun c=>(kbl_out hi (few_t c)).symm) (fun c=>?_)
  have hfew:∀ j,j<i+1→fewL x a b ((l8Common x a b).getD j default)=true:=fun j hj=>by
   rcases Nat.lt_or_ge j i with h | h
   ·exact hv.2 j h
   ·have e:j=i:=by omega
    subst e;exact few_f c
  refine loopN_to (fun j (w:Int×Int)=>Dyad.mk w.1 w.2=dy (P1 x a b i+P2 x ((l8Common x a b).getD i default) a b j)) (fun (r:Dyad×Bool)=>r=kblR x a b) (hv.1.trans (congrArg dy (PS_start2 x a b _ i))) (fun j w nx2 hj hw hn2=>?_) (fun w hw=>hn _ ⟨kbl_e2 hi hw,hfew⟩)
  refine loopN_to (fun k (u:Int×Int)=>Dyad.mk u.1 u.2=dy (PS x a b i j k)) (fun (r:Dyad×Bool)=>r=kblR x a b) (hw.trans (congrArg dy (PS_start3 x a b i j))) (fun k u nx3 hk hu hn3=>?_) (fun u hu=>hn2 _ (kbl_e3 hj hu))
  refine cond_both (p:=fun (r:Dyad×Bool)=>r=kblR x a b) (fun c2=>hn3 _ ?_) (fun c2=>hn3 _ (kbl_no hk c2 hu))
  exact (dyad_eta _).trans (kbl_yes hf ha hb hi hj hk c2 hu)
 ·have h:=kbl_in hf ha hb hv.2
  rw [h.1,hv.1,h.2]
theorem implKBL_eq {x:Family} (hf:specIsFamily x=true) {a b:Int} (ha:0≤a∧a<x.people.length) (hb:0≤b∧b<x.people.length):implKBL x a b=kblR x a b:=by
 have ec:=kbi_ca hf ha hb
 unfold implKBL
 rw [(implHas2 x a b).2 ⟨hf,ha,hb⟩,Bool.not_true,cond_false]
 refine loopN_to (fun i (v:Int×(KV→Option Int))=>(v.1=P1 x a b i∧SeenOk x v.2)∧∀ j,j<i→fewL x a b ((l8Common x a b).getD j default)=true) (fun (r:Dyad×Bool)=>r=kblR x a b) ⟨kbi_0 x a b,fun j hj=>absurd hj (Nat.not_lt_zero _)⟩ (fun i v nx hi hv hn=>?_) (fun v hv=>?_)
 ·have hq:=kq hf ha hb hi
  refine cond_both (p:=fun (r:Dyad×Bool)=>r=kblR x a b) (fun c=>?_) (fun c=>?_)
  ·rw [kbi_ld hf hq ha,kbi_ld hf hq hb,ec] at c
   exact (kbl_out (by rw [← ec];exact hi) (few_t c)).symm
  have hfew:∀ j,j<i+1→fewL x a b ((l8Common x a b).getD j default)=true:=fun j hj=>by
   rcases Nat.lt_or_ge j i with h | h
   ·exact hv.2 j h
   ·have e:j=i:=by omega
    subst e
    rw [kbi_ld hf hq ha,kbi_ld hf hq hb,ec] at c
    exact few_f c
  refine loopN_to (fun j (w:Int×(KV→Option Int))=>w.1=P1 x a b i+P2 x ((l8Common x a b).getD i default) a b j∧SeenOk x w.2) (fun (r:Dyad×Bool)=>r=kblR x a b) (kbi_s2 hv.1) (fun j w nx2 hj hw hn2=>?_) (fun w hw=>hn _ ⟨kbi_e2 hf ha hb hi hw,hfew⟩)
  refine loopN_to (fun k (u:Int×(KV→Option Int))=>u.1=PS x a b i j k∧SeenOk x u.2) (fun (r:Dyad×Bool)=>r=kblR x a b) (kbi_s3 hw) (fun k u nx3 hk hu hn3=>?_) (fun u hu=>hn2 _ (kbi_e3 hf ha hb hi hj hu))
  exact cond_both (p:=fun (r:Dyad×Bool)=>r=kblR x a b) (fun c2=>hn3 _ (kbi_yes hf ha hb hi hj hk c2 hu)) (fun c2=>hn3 _ (kbi_no hf ha hb hi hk c2 hu))
 ·have h:=kbl_in hf ha hb (fun i hi=>hv.2 i (by rw [ec];exact hi))
  have hk:=(kn_rng hf ha hb).1
  rw [h.1,hv.1.1,ec,h.2,dyadOf_dy hk.1,kn_isD hf ha hb]
theorem kbl_eq (x:Family) (a b:Int):implKBL x a b=specKBL x a b:=by
 cases c:((!l1Has x a) || (!l1Has x b)) with
 | false =>
  obtain ⟨hf,ha,hb⟩:=hasD c
  rw [implKBL_eq hf ha hb,specKBL_eq hf ha hb]
 | true =>
  have h2:implHas x [a,b]=false:=by
   rw [Bool.eq_false_iff]
   intro hh
   have h3:=(implHas2 x a b).1 hh
   rw [(l1Has_iff x a).2 ⟨h3.2.1,h3.1⟩,(l1Has_iff x b).2 ⟨h3.2.2,h3.1⟩] at c
   cases c
  unfold implKBL specKBL
  rw [h2,c];rfl
end Go.Proofs.Ytkkijpibajigfaa
