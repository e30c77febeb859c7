import Derived.Test.YtkkijpibajigfaaM241
set_option maxHeartbeats 4000000
set_option linter.unusedSimpArgs false
set_option linter.unusedVariables false
namespace Go.Proofs.Ytkkijpibajigfaa
open Go Go.Lite Go.Proofs
theorem hasD {x:Family} {p q:Int} (h:((!l1Has x p) || (!l1Has x q))=false):specIsFamily x=true∧(0≤p∧p<x.people.length)∧(0≤q∧q<x.people.length):=by
 simp only [or_f_iff,not_f_iff,l1Has_iff] at h
 exact ⟨h.1.2,h.1.1,h.2.1⟩
theorem pw_nodup {l:List (List Int)} (h:l.Pairwise fun a b=>lexL a b=true):l.Nodup :=
 List.Pairwise.imp (fun {a b} h e=>by rw [e,lexL_irr] at h;cases h) h
theorem srt_pw {l:List (List Int)} (hs:Srt lessInts 0 l.length l) (hn:l.Nodup):l.Pairwise fun a b=>lexL a b=true:=by
 rw [List.pairwise_iff_getElem]
 intro i j hi hj hij
 have h1:=hs (i:Int) (j:Int) (by omega) (by omega) (by omega)
 rw [lessInts_lex,gi_get l (j:Int) (by omega) (by omega),gi_get l (i:Int) (by omega) (by omega)] at h1
 simp only [Int.toNat_natCast] at h1
 cases h2:lexL l[i] l[j] with
 | true=>rfl
 | false =>
  exact absurd (lexL_eq _ _ h2 h1) (fun e=>by have:=(List.pairwise_iff_getElem.1 hn) i j hi hj hij;exact this e)
theorem pw_eq {l m:List (List Int)} (hl:l.Pairwise fun a b=>lexL a b=true) (hm:m.Pairwise fun a b=>lexL a b=true) (h:∀ y,y ∈ l ↔ y ∈ m):l=m :=
 List.Perm.eq_of_pairwise (fun a b _ _ h1 h2=>by rw [lexL_asym a b h1] at h2;cases h2) hl hm ((List.perm_ext_iff_of_nodup (pw_nodup hl) (pw_nodup hm)).2 h)
theorem nodup_len {l:List (List Int)}:∀ {m:List (List Int)},l.Nodup→(∀ y ∈ l,y ∈ m)→l.length≤m.length:=by
 induction l with
 | nil=>intro m _ _;exact Nat.zero_le _
 | cons x l ih =>
  intro m hl h
  have hl:=List.nodup_cons.1 hl
  have hx:=h x (List.mem_cons_self ..)
  have h1:=List.length_erase_of_mem hx
  have h2:=List.length_pos_of_mem hx
  have h3:=ih (m:=m.erase x) hl.2 (fun y hy=>(List.mem_erase_of_ne (fun e=>hl.1 (by rw [← e];exact hy))).2 (h y (List.mem_cons_of_mem _ hy)))
  rw [List.length_cons]
  omega
def C27 (R:(List (List Int))×Bool):LV×List (Nat×BC):=(.tup [.own 0,.bool R.2],[(0,.nest true 1 R.1.length (nrOf (cInt .i64) R.1))])
def specDescent (x0:Family) (x1:Int) (x2:Int):(List (List Int))×Bool:=bif ((!(l1Has x0 x1)) || (!(l1Has x0 x2))) then (([]:List (List Int)),false) else (bif (decide (100<(((l8Lines x0 x1 x2 100).length:Nat):Int))) then (([]:List (List Int)),false) else (l8Lines x0 x1 x2 100,true))
def A27 (x0:Family) (x1:Int) (x2:Int):Ann:=r0 1 [1,2,3,6,7] [3] (.reg 1 [] [(2,k60 x0 x1),(7,cg (!(!(l1Has x0 x1))) (k60 x0 x2))] [1,2,3,6,7,18] [3] [!(!(l1Has x0 x1)),!(l1Has x0 x1)] [] [] [0,1,1,4,1,6] (cn ((!(l1Has x0 x1)) || (!(l1Has x0 x2))) (r0 1 [1,2,3,6,7] [3] (rt [(0,none)] (C27 (([]:List (List Int)),false)))) (.reg 1 [] [(3,k61 x0 x1 x2 100)] [6,7,8] [1022] [] [] [] [0] (r0 1 [6,7,8,25] [1022] (cn (decide (100<(((l8Lines x0 x1 x2 100).length:Nat):Int))) (r0 1 [6,7,8] [1022] (rt [(0,none)] (C27 (([]:List (List Int)),false)))) (r0 1 [6,7] [1022] (rt [(0,some 1022)] (C27 (l8Lines x0 x1 x2 100,true)))))))))
theorem ok_spec_DescentLines (x0:Family) (x1:Int) (x2:Int) (hx:x0.people.length≤1048576) (hu:x0.unions.length≤1048576) (hn:∀ p ∈ x0.people,p.name.length≤1048576):FnT Try.prog 27 [.agg (cFamily false x0),.int .i64 x1,.int .i64 x2] (C27 (specDescent x0 x1 x2)):=by
 have aux:∀ R,specDescent x0 x1 x2=R→slim (C27 R) (A27 x0 x1 x2) []:=by
  intro R hR
  refine rg trivial ?_
  refine rg ⟨⟨by with_reducible assumption,by with_reducible assumption,by with_reducible assumption⟩,fun hg0=>⟨by with_reducible assumption,by with_reducible assumption,by with_reducible assumption⟩,trivial⟩ ?_
  revert hR;refine cd (fun hc1 hR=>?_) fun hc1 hR=>?_
  ·
    refine rg trivial ?_
    exact congrArg C27 hR
  ·
    refine rg ⟨⟨by (have h9:=hasD hc1;have h8:=fam_n h9.1;omega),by (have h9:=hasD hc1;have h8:=fam_n h9.1;omega),by (have h9:=hasD hc1;have h8:=fam_n h9.1;omega),by (with_reducible exact isFamily_par _ (hasD hc1).1),by (intros;omega)⟩,trivial⟩ ?_
    refine rg trivial ?_
    revert hR;refine cd (fun hc2 hR=>?_) fun hc2 hR=>?_
    ·
      refine rg trivial ?_
      exact congrArg C27 hR
    ·
      refine rg trivial ?_
      exact congrArg C27 hR
 exact Fn.go 27 Try.func27 (by kernel_rfl) (by kernel_rfl) (by simp [C27,FrsN,nrOf,Frs,FrsL,FrsB,rowOf,cInt,cBool,cStr,cSl,FrsL_app,cPerson,cUnion,cFamily,cl01Cur]) (A27 x0 x1 x2) (by kernel_rfl) (aux _ rfl)
def k27 (x0:Family) (x1:Int) (x2:Int):Cl:=(hres (C27 (specDescent x0 x1 x2)),k3 (ok_spec_DescentLines x0 x1 x2))
def C28 (R:(List (List Int))×Bool):LV×List (Nat×BC):=(.tup [.own 0,.bool R.2],[(0,.nest true 1 R.1.length (nrOf (cInt .i64) R.1))])
def implDescent (x0:Family) (x1:Int) (x2:Int):(List (List Int))×Bool:=bif (!(implHas x0 [x1,x2])) then (([]:List (List Int)),false) else ((linesDown x0 x1 x2).1,(linesDown x0 x1 x2).2)
def A28 (x0:Family) (x1:Int) (x2:Int):Ann:=r0 1 [1,2,3,6,7] [3] (.reg 1 [] [(3,bsC 11 (cInt .i64) ([x1,x2]:List Int)),(4,k59 x0 [x1,x2])] [1,2,3,6,7,13] [3] [] [] [] [0,4] (cn (!(implHas x0 [x1,x2])) (r0 1 [1,2,3,6,7] [3] (rt [(0,none)] (C28 (([]:List (List Int)),false)))) (.reg 1 [] [(3,k62 x0 x1 x2)] [6,7] [1017] [] [] [] [0] (rt [(0,some 1017)] (C28 ((linesDown x0 x1 x2).1,(linesDown x0 x1 x2).2))))))
theorem ok_impl_DescentLines (x0:Family) (x1:Int) (x2:Int) (hx:x0.people.length≤1048576) (hu:x0.unions.length≤1048576) (hn:∀ p ∈ x0.people,p.name.length≤1048576):FnT Try.prog 28 [.agg (cFamily false x0),.int .i64 x1,.int .i64 x2] (C28 (implDescent x0 x1 x2)):=by
 have aux:∀ R,implDescent x0 x1 x2=R→slim (C28 R) (A28 x0 x1 x2) []:=by
  intro R hR
  refine rg trivial ?_
  refine rg ⟨trivial,⟨by with_reducible assumption,by with_reducible assumption,by with_reducible assumption,by ((simp only [List.length_cons,List.length_nil]);omega)⟩,trivial⟩ ?_
  revert hR;refine cd (fun hc1 hR=>?_) fun hc1 hR=>?_
  ·
    refine rg trivial ?_
    exact congrArg C28 hR
  ·
    refine rg ⟨⟨by (have h9:=(implHas2 x0 x1 x2).1 (by simpa using hc1);have h8:=fam_n h9.1;omega),by (have h9:=(implHas2 x0 x1 x2).1 (by simpa using hc1);have h8:=fam_n h9.1;omega),by (with_reducible exact isFamily_par _ ((implHas2 x0 x1 x2).1 (by simpa using hc1)).1)⟩,trivial⟩ ?_
    exact congrArg C28 hR
 exact Fn.go 20 Try.func28 (by kernel_rfl) (by kernel_rfl) (by simp [C28,FrsN,nrOf,Frs,FrsL,FrsB,rowOf,cInt,cBool,cStr,cSl,FrsL_app,cPerson,cUnion,cFamily,cl01Cur]) (A28 x0 x1 x2) (by kernel_rfl) (aux _ rfl)
def k28 (x0:Family) (x1:Int) (x2:Int):Cl:=(hres (C28 (implDescent x0 x1 x2)),k3 (ok_impl_DescentLines x0 x1 x2))
theorem lines_nil (f : Family) (q : Int) : ∀ (m : Nat) (p : Int), (linesDown_r m f q p).2 = false → (linesDown_r m f q p).1 = []
  | 0,_,_=>rfl
  | m+1,p,h=>by
    revert h
    rw [linesDown_r]
    refine cond_both (p:=fun (r:List (List Int)×Bool)=>r.2=false→r.1=[]) (fun _ h=>(by cases h)) (fun _=>?_)
    refine loopN_to (fun _ (_:List (List Int))=>True) (fun (r:List (List Int)×Bool)=>r.2=false→r.1=[]) trivial (fun i v nx hi _ hn=>?_) (fun v _=>?_)
    · refine cond_both (p:=fun (r:List (List Int)×Bool)=>r.2=false→r.1=[]) (fun _ _=>rfl) (fun _=>?_)
      refine loopN_to (fun _ (_:List (List Int))=>True) (fun (r:List (List Int)×Bool)=>r.2=false→r.1=[]) trivial (fun j w next _ _ hn2=>hn2 _ trivial) (fun w _=>?_)
      exact cond_both (p:=fun (r:List (List Int)×Bool)=>r.2=false→r.1=[]) (fun _ _=>rfl) (fun _=>hn _ trivial)
    · exact cond_both (p:=fun (r:List (List Int)×Bool)=>r.2=false→r.1=[]) (fun _ h=>(by cases h)) (fun _ h=>(by cases h))
theorem descent_eq (x:Family) (q p:Int):implDescent x q p=specDescent x q p:=by
 have hh:implHas x [q,p]=(l1Has x q && l1Has x p):=by
  rw [Bool.eq_iff_iff,Bool.and_eq_true,implHas2,l1Has_iff,l1Has_iff]
  exact ⟨fun ⟨a,b,c⟩=>⟨⟨b,a⟩,c,a⟩,fun ⟨⟨b,a⟩,c,_⟩=>⟨a,b,c⟩⟩
 unfold implDescent specDescent
 rw [hh,← Bool.not_and]
 cases c:(l1Has x q && l1Has x p) with
 | false=>rfl
 | true =>
  have c2:((!l1Has x q) || (!l1Has x p))=false:=by rw [← Bool.not_and,c];rfl
  obtain ⟨hf,hq,hp⟩:=hasD c2
  have hn:=(fam_n hf).1
  rw [Bool.not_true,cond_false,cond_false]
  obtain ⟨l1,l2⟩:=lines_ok hf q 100 p (by omega) hp
  have l3:=lines_nil x q 100 p
  have l4:=(lines_bd 100 x q p (isFamily_par _ hf) hp).1
  obtain ⟨s1,s2,s3⟩:=l8_ok hf (k:=100) hp 100 q (by omega) hq
  unfold linesDown l8Lines
  generalize linesDown_r 100 x q p=r at l1 l2 l3 l4
  generalize l8Lines_r 100 x q p 100=S at s1 s2 s3
  obtain ⟨r1,r2⟩:=r
  cases r2 with
  | true =>
   obtain ⟨k1,k2,k3⟩:=l1 rfl
   have hle:=nodup_len (pw_nodup s2) (fun y hy=>(k1 y).2 (s1 y hy))
   have e:S=r1:=pw_eq s2 (srt_pw k3 k2) (fun y=>⟨fun hy=>(k1 y).2 (s1 y hy),fun hy=>s3 (by dsimp only at hle l4;omega) y ((k1 y).1 hy)⟩)
   dsimp only at l4 ⊢
   rw [e,decide_eq_false (by omega:¬ (100:Int)<((r1.length:Nat):Int))]
   rfl
  | false =>
   obtain ⟨W,w1,w2,w3⟩:=l2 rfl
   have h0:=l3 rfl
   dsimp only at h0 ⊢
   rw [h0]
   have:100<S.length:=by
    rcases Nat.lt_or_ge 100 S.length with h | h
    ·exact h
    ·have:=nodup_len w1 (fun y hy=>s3 (by omega) y (w3 y hy))
     omega
   rw [decide_eq_true (by omega:(100:Int)<((S.length:Nat):Int))]
   rfl
theorem descent_bd (x:Family) (q p:Int):(implDescent x q p).1.length≤1000∧∀ y ∈ (implDescent x q p).1,y.length≤1000:=by
 rw [descent_eq]
 unfold specDescent
 refine cond_both (p:=fun (r:List (List Int)×Bool)=>r.1.length≤1000∧∀ y ∈ r.1,y.length≤1000) (fun _=>⟨Nat.zero_le _,fun y hy=>absurd hy List.not_mem_nil⟩) (fun c=>?_)
 obtain ⟨hf,hq,hp⟩:=hasD c
 have hn:=(fam_n hf).1
 have h7:=l8Lines_bd 100 x q p 100 (by decide) hq (isFamily_par _ hf)
 refine cond_both (p:=fun (r:List (List Int)×Bool)=>r.1.length≤1000∧∀ y ∈ r.1,y.length≤1000) (fun _=>⟨Nat.zero_le _,fun y hy=>absurd hy List.not_mem_nil⟩) (fun _=>⟨Nat.le_trans h7.1 (by decide),fun y hy=>Nat.le_trans (h7.2 y hy) (by omega)⟩)
theorem Ln.up {f:Family} {q p:Int} {l:List Int} (h:Ln f p q l):∃ n,l.length=n+1∧Up f p n q:=by
 induction h with
 | one=>exact ⟨0,rfl,.zero⟩
 | cons h _ ih=>obtain ⟨n,h1,h2⟩:=ih;exact ⟨n+1,by rw [List.length_cons,h1],.step h2 h⟩
theorem Up.ln {f:Family} {p q:Int} {n:Nat} (h:Up f p n q):∃ l,Ln f p q l∧l.length=n+1:=by
 induction h with
 | zero=>exact ⟨_,.one,rfl⟩
 | step _ hq ih=>obtain ⟨l,h1,h2⟩:=ih;exact ⟨_,.cons hq h1,by rw [List.length_cons,h2]⟩
theorem Ln.link {f:Family} (hf:specIsFamily f=true) {q p:Int} {l:List Int} (hp:0≤p∧p<f.people.length) (h:Ln f p q l):∀ i,i+1<l.length→l.getD i default ∈ l1Parents f (l.getD (i+1) default)∧0≤l.getD (i+1) default∧l.getD (i+1) default<f.people.length:=by
 induction h with
 | one=>intro i hi;exact absurd hi (by simp)
 | @cons q x l h t ih =>
  intro i hi
  cases i with
  | zero =>
   have hx:=t.rng hf hp
   obtain ⟨t2,e⟩:=t.head
   subst e
   exact ⟨h,hx.1,hx.2.1⟩
  | succ i=>exact ih i (by simpa using hi)
theorem dsc_mem {f:Family} (hf:specIsFamily f=true) {q p:Int} (hq:0≤q∧q<f.people.length) (hp:0≤p∧p<f.people.length):((specDescent f q p).2=true→∀ l,l ∈ (specDescent f q p).1 ↔ Ln f p q l)∧((specDescent f q p).2=false→(specDescent f q p).1=[]):=by
 have hn:=(fam_n hf).1
 unfold specDescent
 rw [(l1Has_iff f q).2 ⟨hq,hf⟩,(l1Has_iff f p).2 ⟨hp,hf⟩]
 rw [Bool.not_true,Bool.or_false,cond_false]
 obtain ⟨s1,s2,s3⟩:=l8_ok hf (k:=100) hp 100 q (by omega) hq
 unfold l8Lines
 generalize l8Lines_r 100 f q p 100=S at s1 s2 s3
 cases c:decide (100<((S.length:Nat):Int)) with
 | true=>exact ⟨fun h=>(by cases h),fun _=>rfl⟩
 | false =>
  have c:=of_decide_eq_false c
  exact ⟨fun _ l=>⟨s1 l,s3 (by omega) l⟩,fun h=>(by cases h)⟩
def far (f:Family) (p q:Int):Int:=(l8Up f p).getD q.toNat default
theorem far_no {f:Family} (hf:specIsFamily f=true) {q p:Int} (hq:0≤q∧q<f.people.length) (hp:0≤p∧p<f.people.length):(0≤far f p q ↔ ∃ l,Ln f p q l)∧(∀ l,Ln f p q l→far f p q+1≤l.length)∧(0≤far f p q→∃ l,Ln f p q l∧(l.length:Int)=far f p q+1)∧(far f p q=0 ↔ p=q):=by
 have hd:=l8Up_dist f p (isFamily_par f hf) hp
 have e:((q.toNat:Nat):Int)=q:=by omega
 have h1:=hd.yes q.toNat (by omega)
 have h2:=hd.no q.toNat (by omega)
 rw [e] at h1 h2
 have h3:∀ n,Up f p n q→0≤far f p q∧far f p q≤n:=fun n hn=>by
  rcases Int.lt_or_le (far f p q) 0 with c | c
  ·exact absurd hn ((h2 c).2 n)
  ·exact ⟨c,(h1 c).2 n hn⟩
 have h4:0≤far f p q→∃ l,Ln f p q l∧(l.length:Int)=far f p q+1:=fun c=>by
  obtain ⟨l,k1,k2⟩:=((h1 c).1).ln
  refine ⟨l,k1,?_⟩
  rw [k2]
  unfold far at c ⊢
  omega
 refine ⟨⟨fun c=>?_,fun ⟨l,hl⟩=>?_⟩,fun l hl=>?_,h4,⟨fun c=>?_,fun c=>?_⟩⟩
 ·obtain ⟨l,k,_⟩:=h4 c;exact ⟨l,k⟩
 ·obtain ⟨n,_,k⟩:=hl.up;exact (h3 n k).1
 ·obtain ⟨n,k1,k⟩:=hl.up
  have:=(h3 n k).2
  omega
 ·have k:=(h1 (show 0≤far f p q by omega)).1
  unfold far at c
  rw [c] at k
  cases k;rfl
 ·subst c
  have:=h3 0 .zero
  omega
theorem steps_val {f:Family} (hf:specIsFamily f=true) {q p:Int} (hq:0≤q∧q<f.people.length) (hp:0≤p∧p<f.people.length):implStepsUp f p q=(Max.max (far f p q) 0,decide (0≤far f p q)):=by
 unfold implStepsUp far
 rw [(implHas2 f p q).2 ⟨hf,hp,hq⟩,stepsUp_eq f p (isFamily_par f hf) hp]
 rfl
theorem anc_val {f:Family} (hf:specIsFamily f=true) {q p:Int} (hq:0≤q∧q<f.people.length) (hp:0≤p∧p<f.people.length):lawHas (implAncestors f p) q=decide (0<far f p q):=by
 rw [Bool.eq_iff_iff,lawHas_iff,decide_eq_true_eq]
 unfold implAncestors far
 rw [(implHas1 f p).2 ⟨hf,hp⟩,Bool.not_true,cond_false,stepsUp_eq f p (isFamily_par f hf) hp,fLoop_mem (f:=fun i=>((i:Nat):Int))]
 have hl:=(l8Up_dist f p (isFamily_par f hf) hp).len
 constructor
 ·rintro ⟨i,h1,h2,rfl⟩
  have:=of_decide_eq_true h2
  simpa using this
 ·intro h
  exact ⟨q.toNat,by omega,decide_eq_true h,by omega⟩
theorem des_val {f:Family} (hf:specIsFamily f=true) {q p:Int} (hq:0≤q∧q<f.people.length) (hp:0≤p∧p<f.people.length):lawHas (implDescendants f q) p=decide (0<far f p q):=by
 rw [Bool.eq_iff_iff,lawHas_iff,decide_eq_true_eq,descendants_eq]
 unfold specDescendants far
 rw [(l1Has_iff f q).2 ⟨hq,hf⟩,Bool.not_true,cond_false,fLoop_mem (f:=fun i=>((i:Nat):Int))]
 constructor
 ·rintro ⟨i,h1,h2,rfl⟩
  exact of_decide_eq_true h2
 ·intro h
  have e:((p.toNat:Nat):Int)=p:=by omega
  exact ⟨p.toNat,by omega,by rw [e];exact decide_eq_true h,e.symm⟩
theorem par_has {f:Family} (hf:specIsFamily f=true) {x r:Int} (hx:0≤x∧x<f.people.length) (h:r ∈ l1Parents f x):lawHas (specParents f x) r=true:=by
 rw [lawHas_iff]
 unfold specParents
 rw [(l1Has_iff f x).2 ⟨hx,hf⟩]
 exact h
theorem Ln.le_dd {f:Family} (hf:specIsFamily f=true) {q p:Int} {l:List Int} (h:Ln f p q l) (hp:0≤p∧p<f.people.length):(l.length:Int)≤p - q+1∧p - q+1≤40:=by
 have hn:=(fam_n hf).1
 have key:(l.length:Int)≤p - q+1:=by
  induction h with
  | one=>simp
  | @cons q x l h t ih =>
   have hx:=t.rng hf hp
   have h1:=parL_mem.1 h
   have h2:=isFamily_par f hf x.toNat (by omega)
   rw [List.length_cons]
   omega
 have:=h.rng hf hp
 omega
theorem steps_bd {f:Family} (hf:specIsFamily f=true) {q p:Int} (hq:0≤q∧q<f.people.length) (hp:0≤p∧p<f.people.length):0≤(implStepsUp f p q).1∧(implStepsUp f p q).1≤40:=by
 have hn:=(fam_n hf).1
 have h:=l8Up_bd f p (isFamily_par f hf) hp q.toNat
 rw [steps_val hf hq hp]
 unfold far
 dsimp only
 omega
theorem dlen_bd {f:Family} {q p:Int} {i:Nat} (hi:i<(implDescent f q p).1.length):((implDescent f q p).1.getD i default).length≤1000:=(descent_bd f q p).2 _ (getD_mem hi)
theorem anc_len (x:Family) (p:Int) (hf:specIsFamily x=true) (hp:0≤p∧p<x.people.length):(implAncestors x p).length≤40:=by
 have hn:=(fam_n hf).1
 have hl:=(l8Up_dist x p (isFamily_par x hf) hp).len
 unfold implAncestors
 rw [(implHas1 x p).2 ⟨hf,hp⟩,Bool.not_true,cond_false,stepsUp_eq x p (isFamily_par x hf) hp]
 exact Nat.le_trans filterLoop_len (by omega)
end Go.Proofs.Ytkkijpibajigfaa
