import Derived.Test.YtlinnkjieghmhaaGreatDoorWR4
set_option maxHeartbeats 4000000
set_option linter.unusedSimpArgs false
set_option linter.unusedVariables false
namespace Go.Proofs.YtlinnkjieghmhaaGreatDoor
open Go Go.Lite Go.Proofs
open _root_.List renaming range→yO, range_succ→wL, map_append→Y2, mem_cons_self→Yq, mem_cons_of_mem→YF, map_cons→Yv, flatten_cons→we, cons_append→wl, mem_append→yG, mem_cons→yL, length_take→YW, getD_eq_getElem?_getD→yn, not_mem_nil→Yd, mem_map→yZ, mem_range→yU, take_add_one→wy, getElem?_eq_getElem→yq, getD_cons_zero→Yk, getD_cons_succ→YA, length_cons→yv, length_nil→yx, getElem?_map→Ys, getElem?_range→wj, length_map→yY, take_of_length_le→YH, length_append→yo, length_singleton→yE
open _root_.Bool renaming not_true→y6
open _root_.Nat renaming zero_le→Yh, le_refl→yu
open _root_.Int renaming toNat_natCast→yQ
open _root_.Inhabited renaming default→w9
def lineP (x:yc) (i:Nat):List UInt8:=joinS [zdj (x.people.getD i w9).sex,(x.people.getD i w9).name,zbr x (x.people.getD i w9).father,zbr x (x.people.getD i w9).mother,zb6 (x.people.getD i w9).born,zb6 (x.people.getD i w9).died] [32]
def lineU (x:yc) (i:Nat):List UInt8:=joinS [[117,110,105,111,110],zbr x (x.unions.getD i w9).man,zbr x (x.unions.getD i w9).woman,zb6 (x.unions.getD i w9).from0,zb6 (x.unions.getD i w9).to] [32]
def zek (x:yc):List (List UInt8):=(yO x.people.length).map (lineP x)++(yO x.unions.length).map (lineU x)
theorem zsn (ls : List (List UInt8)) (l : List UInt8) : ((ls ++ [l]).map (· ++ [(10 : UInt8)])).flatten = (ls.map (· ++ [10])).flatten ++ (l ++ [10]) := by simp
theorem ztv {x : yc} (hf : za9 x = true) : zel x = ((zek x).map (· ++ [10])).flatten := by
 unfold zel
 rw [zdl,hf]
 simp only [y6,cond_false]
 refine zbx (fun i (v : List UInt8) => v = (((yO i).map (lineP x)).map (· ++ [10])).flatten) (fun r => r = ((zek x).map (· ++ [10])).flatten) rfl (fun i v next hi hv hn => hn _ ?_) (fun v hv => ?_)
 ·rw [hv,wL,Y2,List.map_singleton,zsn];rfl
 ·refine zbx (fun i (v : List UInt8) => v = (((yO x.people.length).map (lineP x) ++ (yO i).map (lineU x)).map (· ++ [10])).flatten) (fun r => r = ((zek x).map (· ++ [10])).flatten) (by rw [hv]; simp) (fun i v next hi hv hn => hn _ ?_) (fun v hv => hv)
  rw [hv,wL,Y2 (l₁:=yO i),List.map_singleton,← List.append_assoc ((yO x.people.length).map (lineP x)),zsn];rfl
theorem zj4 {c : UInt8} : ∀ (l : List (List UInt8)) (a : List UInt8), c ∉ a → (∀ b ∈ l, c ∉ b) → zc3 c (Lib.join (a :: l) [c]) = a :: l
  | [],a,h,_=>by rw [Lib.join_one,zcr h]
  | b :: l,a,h,hl=>by
    have ih:=zj4 l b (hl b (Yq ..)) fun d hd=>hl d (YF _ hd)
    rw [Lib.join_cons,Lib.joinTail] at ih
    rw [Lib.join_cons,Lib.joinTail,Yv,we,List.singleton_append,wl,zbs h,ih]
theorem zo9 {c d : UInt8} (hcd : c ≠ d) : ∀ (l : List (List UInt8)) (a : List UInt8), c ∉ a → (∀ b ∈ l, c ∉ b) → c ∉ Lib.join (a :: l) [d]
  | [],a,h,_=>by rw [Lib.join_one];exact h
  | b :: l,a,h,hl=>by
    have ih:=zo9 hcd l b (hl b (Yq ..)) fun d hd=>hl d (YF _ hd)
    rw [Lib.join_cons,Lib.joinTail] at ih
    rw [Lib.join_cons,Lib.joinTail,Yv,we,List.singleton_append,wl]
    simp only [yG,yL,not_or] at ih ⊢
    exact ⟨h,hcd,ih⟩
theorem zrf {y:Int} (h:-1≤y∧y≤9999):Wd (zb6 y):=by
 unfold zb6
 refine zbe (p:=fun (r:List UInt8)=>Wd r) (fun _=>wd_of za7) (fun c=>?_)
 have:=of_decide_eq_false c
 rw [← ziq om];exact zyo ⟨om,h.2⟩
theorem wd_sex (s:Int):Wd (zdj s):=by
 unfold zdj
 exact zbe (p:=fun (r:List UInt8)=>Wd r) (fun _=>wd_of za7) (fun _=>wd_of za7)
theorem z2p {p:List ya} {u:List yb} {j:Nat} {s:List UInt8} (hj:j<p.length) (hs:(p.getD j w9).name=s) (hu:∀ k,k<j→(p.getD k w9).name≠s):findP ⟨p,u⟩ s=(((j:Nat):Int),true):=by
 unfold findP
 refine zbx (fun i _=>i≤j) (fun r=>r=(((j:Nat):Int),true)) (Yh _) (fun i v next hi hv hn=>?_) (fun v hv=>absurd hj (by have:=hv;dsimp only at this;omega))
 by_cases c:i=j
 ·subst c;dsimp only;rw [hs,beq_self_eq_true];rfl
 ·have:=hu i om
  dsimp only
  rw [show ((p.getD i w9).name==s)=false by simpa using this]
  exact hn _ om
theorem z2b {s:List UInt8} (h:zcp s=true):(s==[45])=false:=by
 cases c:s==[45] with
 | false=>rfl
 | true =>
  rw [eq_of_beq c] at h
  exact absurd h za7
theorem ze6 {y:Int} (h:0≤y∧y≤9999):zci (itoa y)=(y,true):=by
 rw [zoe,zo4 h,decide_eq_true h.1];rfl
theorem z2j {y:Int} (h:0≤y∧y≤9999):(itoa y==[45])=false:=by
 cases c:itoa y==[45] with
 | false=>rfl
 | true =>
  have h1:=ze6 h
  rw [eq_of_beq c] at h1
  have h2:(zci [45]).2=false:=by rw [zoe];rfl
  rw [h1] at h2;cases h2
theorem zku {y:Int} (h:-1≤y∧y≤9999):zeg (zb6 y)=(y,true):=by
 unfold zeg zb6
 by_cases c:y=-1
 ·subst c;rfl
 ·rw [decide_eq_false c]
  simp only [cond_false]
  rw [z2j ⟨om,h.2⟩,ze6 ⟨om,h.2⟩];rfl
theorem zsm {y:Int} (h:0≤y):zb6 y=itoa y:=by
 unfold zb6
 rw [decide_eq_false om];rfl
theorem z13 {s:Int} (h:1≤s∧s≤2):zec (zdj s)=s∧(zdj s==[117,110,105,111,110])=false:=by
 rcases (show s=1∨s=2 by omega) with rfl | rfl
 ·exact ⟨by decide,by decide⟩
 ·exact ⟨by decide,by decide⟩
def Stub (x:yc) (p:List ya):Prop:=p.length≤x.people.length∧∀ k,k<p.length→(p.getD k w9).name=(x.people.getD k w9).name
theorem zlj {x:yc} (hf:za9 x=true) {p:List ya} {u:List yb} (hs:Stub x p) {a:Int} (h:0≤a∧a<p.length):findP ⟨p,u⟩ (zbr x a)=(a,true):=by
 obtain ⟨j,rfl⟩:=Int.eq_ofNat_of_zero_le h.1
 have hj:j<p.length:=by omega
 have h1:=hs.1
 unfold zbr
 rw [decide_eq_false om,cond_false,yQ]
 refine z2p hj (hs.2 j hj) fun k hk=>?_
 rw [hs.2 k om]
 exact (fam_p hf (k:=j) om).uniq k hk
theorem znk {x:yc} (hf:za9 x=true) {p:List ya} {u:List yb} (hs:Stub x p) {a:Int} (h:a=-1∨0≤a∧a<p.length):zc7 ⟨p,u⟩ (zbr x a)=(a,true):=by
 rcases h with rfl | h
 ·rfl
 ·have h1:=hs.1
  have e:(zbr x a==[45])=false:=by
   unfold zbr
   rw [decide_eq_false om,cond_false]
   exact z2b (fam_p hf (k:=a.toNat) om).name
  unfold zc7
  rw [e,zlj hf hs h];rfl
theorem zyy (x:yc) (i:Nat):Stub x (x.people.take i):=by
 refine ⟨by rw [YW];omega,fun k hk=>?_⟩
 rw [YW] at hk
 rw [yn,List.getElem?_take,if_pos om,← yn]
theorem zwd {x:yc} (hf:za9 x=true) {i:Nat} (hi:i<x.people.length):∀ c:UInt8,c=10∨c=32→c ∉ zdj (x.people.getD i w9).sex∧∀ b∈[(x.people.getD i w9).name,zbr x (x.people.getD i w9).father,zbr x (x.people.getD i w9).mother,zb6 (x.people.getD i w9).born,zb6 (x.people.getD i w9).died],c ∉ b:=by
 have p:=fam_p hf hi
 have h1:=p.born;have h2:=p.died
 have nm:zbr=zbl:=rfl
 have w:∀ {s:List UInt8},Wd s→∀ c:UInt8,c=10∨c=32→c ∉ s:=fun hs c hc=>by rcases hc with rfl | rfl;exact hs.1;exact hs.2
 intro c hc
 refine ⟨w (wd_sex _) c hc,fun b hb=>?_⟩
 simp only [yL,Yd,or_false] at hb
 rcases hb with rfl | rfl | rfl | rfl | rfl
 ·exact w (zrg p.name) c hc
 ·rw [nm];exact w (zf8 hf _) c hc
 ·rw [nm];exact w (zf8 hf _) c hc
 ·exact w (zrf om) c hc
 ·exact w (zrf om) c hc
theorem zwc {x:yc} (hf:za9 x=true) {i:Nat} (hi:i<x.unions.length):∀ c:UInt8,c=10∨c=32→∀ b∈[zbr x (x.unions.getD i w9).man,zbr x (x.unions.getD i w9).woman,zb6 (x.unions.getD i w9).from0,zb6 (x.unions.getD i w9).to],c ∉ b:=by
 have u:=fam_u hf hi
 have h1:=u.man;have h2:=u.woman;have h3:=u.from0;have h4:=u.to
 have h5:=(fam_p hf (k:=(x.unions.getD i w9).man.toNat) om).born
 have nm:zbr=zbl:=rfl
 have w:∀ {s:List UInt8},Wd s→∀ c:UInt8,c=10∨c=32→c ∉ s:=fun hs c hc=>by rcases hc with rfl | rfl;exact hs.1;exact hs.2
 intro c hc b hb
 simp only [yL,Yd,or_false] at hb
 rcases hb with rfl | rfl | rfl | rfl
 ·rw [nm];exact w (zf8 hf _) c hc
 ·rw [nm];exact w (zf8 hf _) c hc
 ·exact w (zrf om) c hc
 ·exact w (zrf om) c hc
theorem zyb {x:yc} (hf:za9 x=true):∀ l∈zek x,(10:UInt8) ∉ l:=by
 intro l hl
 rcases yG.1 hl with hl | hl
 ·obtain ⟨i,hi,rfl⟩:=yZ.1 hl
  have w:=zwd hf (yU.1 hi) 10 (.inl rfl)
  exact zo9 za7 _ _ w.1 w.2
 ·obtain ⟨i,hi,rfl⟩:=yZ.1 hl
  exact zo9 za7 _ _ za7 (zwc hf (yU.1 hi) 10 (.inl rfl))
theorem zjr {ls : List (List UInt8)} (h : ∀ l ∈ ls, (10 : UInt8) ∉ l) : zbp ((ls.map (· ++ [10])).flatten) = (ls, true) := by
 have h1:=znx ls
 have h2:=znw _ h1
 have h3 : zem ((ls.map (· ++ [10])).flatten) 10 = zc3 10 ((ls.map (· ++ [10])).flatten) := zma _ 10
 rw [h3,zmm ls h] at h2
 exact Prod.ext (List.append_cancel_right h2).symm h1
theorem zze {x:yc} (hf:za9 x=true) {i:Nat} (hi:i<x.people.length):zed ⟨x.people.take i,[]⟩ (lineP x i)=(true,x.people.take (i+1),[]):=by
 have p:=fam_p hf hi
 have h1:=p.born;have h2:=p.died;have h3:=p.fa;have h4:=p.mo
 have hs:=zyy x i
 have hl:(x.people.take i).length=i:=by rw [YW];omega
 have w:=zwd hf hi 32 (.inr rfl)
 have e:zb0 (lineP x i) [32]=_:=zj4 _ _ w.1 w.2
 obtain ⟨s1,s2⟩:=z13 p.sex
 have b1:=znk hf (u:=[]) hs (a:=(x.people.getD i w9).father) om
 have b2:=znk hf (u:=[]) hs (a:=(x.people.getD i w9).mother) om
 have b3:zci (zb6 (x.people.getD i w9).born)=((x.people.getD i w9).born,true):=by rw [zsm h1.1];exact ze6 h1
 have b4:=zku (y:=(x.people.getD i w9).died) om
 have st:x.people.take (i+1)=x.people.take i++[x.people.getD i w9]:=by
  rw [wy,yq hi,yn,yq hi];rfl
 unfold zed
 rw [e]
 simp only [Yk,YA,yv,yx,s1,s2,b1,b2,b3,b4,cond_false]
 rw [decide_eq_false (show ¬ (x.people.getD i w9).sex=0 by have:=p.sex;omega),st]
 rfl
theorem zzd {x:yc} (hf:za9 x=true) {i:Nat} (hi:i<x.unions.length):zed ⟨x.people,x.unions.take i⟩ (lineU x i)=(true,x.people,x.unions.take (i+1)):=by
 have u:=fam_u hf hi
 have h1:=u.man;have h2:=u.woman;have h3:=u.from0;have h4:=u.to
 have h5:=(fam_p hf (k:=(x.unions.getD i w9).man.toNat) om).born
 have hs:Stub x x.people:=⟨yu _,fun _ _=>rfl⟩
 have e:zb0 (lineU x i) [32]=_:=zj4 _ _ za7 (zwc hf hi 32 (.inr rfl))
 have b1:=zlj hf (u:=x.unions.take i) hs h1
 have b2:=zlj hf (u:=x.unions.take i) hs h2
 have b3:zci (zb6 (x.unions.getD i w9).from0)=((x.unions.getD i w9).from0,true):=by rw [zsm om];exact ze6 om
 have b4:=zku (y:=(x.unions.getD i w9).to) om
 have st:x.unions.take (i+1)=x.unions.take i++[x.unions.getD i w9]:=by
  rw [wy,yq hi,yn,yq hi];rfl
 unfold zed
 rw [e]
 simp only [Yk,YA,yv,yx,b1,b2,b3,b4,beq_self_eq_true,cond_true]
 rw [st]
 rfl
theorem zj2 {x:yc} (hf:za9 x=true):zht (zel x)=(x,true):=by
 have hb:=fam_n hf
 have hl:(zek x).length=x.people.length+x.unions.length:=by simp [zek]
 have ht:zbp (zel x)=(zek x,true):=by rw [ztv hf];exact zjr (zyb hf)
 unfold zht
 rw [ht]
 dsimp only
 rw [decide_eq_false om]
 simp only [y6,Bool.or_false,cond_false]
 refine zbx (fun i (v:List ya×List yb)=>v=(x.people.take i,x.unions.take (i - x.people.length))) (fun r=>r=(x,true)) zas (fun i v next hi hv hn=>?_) (fun v hv=>?_)
 ·subst hv
  by_cases c:i<x.people.length
  ·have g:(zek x).getD i w9=lineP x i:=by
    unfold zek
    rw [yn,List.getElem?_append_left (by simpa using c),Ys,wj c];rfl
   have h0:i - x.people.length=0:=by omega
   have h1:i+1 - x.people.length=0:=by omega
   rw [g]
   simp only [h0,List.take_zero]
   rw [zze hf c]
   exact hn _ (by rw [h1];rfl)
  ·have g:(zek x).getD i w9=lineU x (i - x.people.length):=by
    unfold zek
    rw [yn,List.getElem?_append_right (by simpa using c),Ys,yY,List.length_range,wj om];rfl
   have e1:i+1 - x.people.length=(i - x.people.length)+1:=by omega
   have e2:x.people.take i=x.people:=YH om
   have e3:x.people.take (i+1)=x.people:=YH om
   rw [g]
   simp only [e2]
   rw [zzd hf om]
   exact hn _ (by rw [e1,e3])
 ·subst hv
  have e1:x.people.take (zek x).length=x.people:=YH om
  have e2:x.unions.take ((zek x).length - x.people.length)=x.unions:=YH om
  dsimp only
  rw [e1,e2]
  show (bif (!(zcc x))||(!(zel x==zel x)) then _ else (x,true))=_
  rw [zdl,hf,beq_self_eq_true];rfl
theorem zx4 {x:yc} (hx:za9 x=true) (hy:Years x):zdh x 9999=x:=by
 have e:=zo8 hx hy 9999
 have hp:(zdh x 9999).people=x.people:=by
  have hl:(zdh x 9999).people.length=x.people.length:=by
   have h1:=e.pl
   by_cases c:(zdh x 9999).people.length=x.people.length
   ·exact c
   ·have h2:=e.pr _ (yu _) (show _<x.people.length by omega)
    have:=(fam_p hx (k:=(zdh x 9999).people.length) om).born
    omega
  refine ext_g hl fun k hk=>?_
  rw [(e.pg k hk).1]
  have p:=fam_p hx (k:=k) om
  have:=p.died
  have:=p.born
  unfold clipP
  rw [decide_eq_false om];rfl
 have hu:(zdh x 9999).unions=x.unions:=by
  have hl:(zdh x 9999).unions.length=x.unions.length:=by
   have h1:=e.ul
   by_cases c:(zdh x 9999).unions.length=x.unions.length
   ·exact c
   ·have h2:=e.ur _ (yu _) (show _<x.unions.length by omega)
    have:=(fam_u hx (k:=(zdh x 9999).unions.length) om).from0
    omega
  refine ext_g hl fun k hk=>?_
  rw [(e.ug k hk).1]
  have p:=fam_u hx (k:=k) om
  have:=p.to
  have:=p.from0
  unfold clipU
  rw [decide_eq_false om];rfl
 show (⟨(zdh x 9999).people,(zdh x 9999).unions⟩:yc)=x
 rw [hp,hu]
theorem zvb {x:yc} (hx:za9 x=true) {e:yd} (he:e∈zda x):0≤e.year∧e.year≤9999:=by
 rcases zfh he with ⟨i,hi,rfl⟩ | ⟨i,hi,rfl⟩ | ⟨i,hi,h,rfl⟩ | ⟨i,hi,h,rfl⟩
 ·exact (fam_p hx hi).born
 ·have u:=fam_u hx hi
  have h1:=u.man;have h3:=u.from0
  have h5:=(fam_p hx (k:=(x.unions.getD i w9).man.toNat) om).born
  show 0≤(x.unions.getD i w9).from0∧(x.unions.getD i w9).from0≤9999
  omega
 ·have u:=(fam_u hx hi).to
  show 0≤(x.unions.getD i w9).to∧(x.unions.getD i w9).to≤9999
  omega
 ·have u:=(fam_p hx hi).died
  show 0≤(x.people.getD i w9).died∧(x.people.getD i w9).died≤9999
  omega
theorem zf6 {x:yc} (hx:za9 x=true) (hy:Years x):zbh (zbm x)=(x,true):=by
 have h:=zvq hx hy 9999
 rw [zx4 hx hy,List.filter_eq_self.2 fun e he=>decide_eq_true (zvb hx ((zcd x).mem_iff.1 he)).2] at h
 exact h
theorem z19 {y:Int} (h:0≤y∧y≤9999):zci (zca y)=(y,true):=by rw [ziq h.1];exact ze6 h
theorem z4y {x : yc} (hx : za9 x = true) {e : yd} (he : e ∈ zda x) {p : List ya} (hs : Stub x p) (hin : ∀ j : Nat, j < x.people.length → evKey (bEv x j) < evKey e → j < p.length) :
    zdk ⟨p,[]⟩ (zc8 x e)=(e,true,bif decide (e.kind=1) then p++[ya.mk e.name 0 0 0 0 0] else p,[]):=by
 have sp:∀ t,zb0 t [32]=zc3 32 t:=fun t=>rfl
 have hyr:=zvb hx he
 have nb:=z19 hyr
 have w0:=(zyo hyr).2
 have wn:∀ a,(32:UInt8) ∉ zbl x a:=fun a=>(zf8 hx a).2
 have fnd:∀ a:Int,0≤a→a<x.people.length→evKey (bEv x a.toNat)<evKey e→findP ⟨p,[]⟩ (zbl x a)=(a,true):=fun a h1 h2 h3=>by
  have:=hin a.toNat om h3
  exact zlj hx hs ⟨h1,om⟩
 rcases zfh he with ⟨i,hi,rfl⟩ | ⟨i,hi,rfl⟩ | ⟨i,hi,h,rfl⟩ | ⟨i,hi,h,rfl⟩
 ·have q:=fam_p hx hi
  have pa:zc7 ⟨p,[]⟩ (zbl x (x.people.getD i w9).father)=((x.people.getD i w9).father,true):=by
   have h:=q.fa
   refine znk hx hs (h.imp id fun h=>⟨h.1,?_⟩)
   have:=hin (x.people.getD i w9).father.toNat om (by unfold evKey bEv;dsimp only;omega)
   omega
  have pb:zc7 ⟨p,[]⟩ (zbl x (x.people.getD i w9).mother)=((x.people.getD i w9).mother,true):=by
   have h:=q.mo
   refine znk hx hs (h.imp id fun h=>⟨h.1,?_⟩)
   have:=hin (x.people.getD i w9).mother.toNat om (by unfold evKey bEv;dsimp only;omega)
   omega
  have w4:=(zrg q.name).2
  have hq:=q.sex
  rcases (show (x.people.getD i w9).sex=1∨(x.people.getD i w9).sex=2 by omega) with s | s
  ·have el:zb0 (zc8 x (bEv x i)) [32]=[zca (bEv x i).year,[98,111,114,110],(x.people.getD i w9).name,[109,97,110],zbl x (x.people.getD i w9).father,zbl x (x.people.getD i w9).mother]:=by
    rw [sp, show zc8 x (bEv x i) = zca (bEv x i).year ++ 32 :: ([98, 111, 114, 110] ++ 32 :: ((x.people.getD i w9).name ++ 32 :: ([109, 97, 110] ++ 32 :: (zbl x (x.people.getD i w9).father ++ 32 :: zbl x (x.people.getD i w9).mother)))) by simp [zc8, bEv, s, -yn],
      zbs w0,zbs za7,zbs w4,zbs za7,zbs (wn _),zcr (wn _)]
   unfold zdk
   rw [el]
   simp only [Yk,YA,yv,yx,nb,pa,pb]
   have e1:bEv x i=yd.mk 1 (bEv x i).year (x.people.getD i w9).name 1 (x.people.getD i w9).father (x.people.getD i w9).mother:=by unfold bEv;rw [s]
   rw [e1];rfl
  ·have el:zb0 (zc8 x (bEv x i)) [32]=[zca (bEv x i).year,[98,111,114,110],(x.people.getD i w9).name,[119,111,109,97,110],zbl x (x.people.getD i w9).father,zbl x (x.people.getD i w9).mother]:=by
    rw [sp, show zc8 x (bEv x i) = zca (bEv x i).year ++ 32 :: ([98, 111, 114, 110] ++ 32 :: ((x.people.getD i w9).name ++ 32 :: ([119, 111, 109, 97, 110] ++ 32 :: (zbl x (x.people.getD i w9).father ++ 32 :: zbl x (x.people.getD i w9).mother)))) by simp [zc8, bEv, s, -yn],
      zbs w0,zbs za7,zbs w4,zbs za7,zbs (wn _),zcr (wn _)]
   unfold zdk
   rw [el]
   simp only [Yk,YA,yv,yx,nb,pa,pb]
   have e1:bEv x i=yd.mk 1 (bEv x i).year (x.people.getD i w9).name 2 (x.people.getD i w9).father (x.people.getD i w9).mother:=by unfold bEv;rw [s]
   rw [e1];rfl
 ·have u:=fam_u hx hi
  have h1:=u.man;have h2:=u.woman;have h3:=u.from0
  have pa:=fnd (x.unions.getD i w9).man h1.1 h1.2 (by unfold evKey bEv uEv;dsimp only;omega)
  have pb:=fnd (x.unions.getD i w9).woman h2.1 h2.2 (by unfold evKey bEv uEv;dsimp only;omega)
  have el:zb0 (zc8 x (uEv x i)) [32]=[zca (uEv x i).year,[117,110,105,111,110],zbl x (x.unions.getD i w9).man,zbl x (x.unions.getD i w9).woman]:=by
   rw [sp, show zc8 x (uEv x i) = zca (uEv x i).year ++ 32 :: ([117, 110, 105, 111, 110] ++ 32 :: (zbl x (x.unions.getD i w9).man ++ 32 :: zbl x (x.unions.getD i w9).woman)) by simp [zc8, uEv, -yn],
     zbs w0,zbs za7,zbs (wn _),zcr (wn _)]
  unfold zdk
  rw [el]
  simp only [Yk,YA,yv,yx,nb,pa,pb]
  rfl
 ·have u:=fam_u hx hi
  have h1:=u.man;have h2:=u.woman;have h3:=u.from0;have h4:=u.to
  have pa:=fnd (x.unions.getD i w9).man h1.1 h1.2 (by unfold evKey bEv pEv;dsimp only;omega)
  have pb:=fnd (x.unions.getD i w9).woman h2.1 h2.2 (by unfold evKey bEv pEv;dsimp only;omega)
  have el:zb0 (zc8 x (pEv x i)) [32]=[zca (pEv x i).year,[112,97,114,116,101,100],zbl x (x.unions.getD i w9).man,zbl x (x.unions.getD i w9).woman]:=by
   rw [sp, show zc8 x (pEv x i) = zca (pEv x i).year ++ 32 :: ([112, 97, 114, 116, 101, 100] ++ 32 :: (zbl x (x.unions.getD i w9).man ++ 32 :: zbl x (x.unions.getD i w9).woman)) by simp [zc8, pEv, -yn],
     zbs w0,zbs za7,zbs (wn _),zcr (wn _)]
  unfold zdk
  rw [el]
  simp only [Yk,YA,yv,yx,nb,pa,pb]
  rfl
 ·have q:=fam_p hx hi
  have h2:=q.died;have h3:=q.born
  have pa:=fnd ((i:Nat):Int) om om (by unfold evKey bEv dEv;dsimp only;rw [yQ];omega)
  have el:zb0 (zc8 x (dEv x i)) [32]=[zca (dEv x i).year,[100,105,101,100],zbl x ((i:Nat):Int)]:=by
   rw [sp, show zc8 x (dEv x i) = zca (dEv x i).year ++ 32 :: ([100, 105, 101, 100] ++ 32 :: zbl x ((i : Nat) : Int)) by simp [zc8, dEv, -yn],
     zbs w0,zbs za7,zcr (wn _)]
  unfold zdk
  rw [el]
  simp only [Yk,YA,yv,yx,nb,pa]
  rfl
theorem z3c {x : yc} (hx : za9 x = true) (hy : Years x) : ∀ (R L : List yd), zbm x = L ++ R → ∀ p : List ya, Stub x p → p.length = (L.filter (isK 1)).length → runI (R.map (zc8 x)) L p = some (L ++ R)
  | [],L,_,p,_,_=>by rw [List.append_nil];rfl
  | e :: R,L,hA,p,hs,hp=>by
    have he:e∈zda x:=(zcd x).mem_iff.1 (by rw [hA];simp)
    have hb:=zlx hy
    rw [hA,List.filter_append] at hb
    obtain ⟨b1,b2,b3⟩:=zof hb
    have hin:∀ j:Nat,j<x.people.length→evKey (bEv x j)<evKey e→j<p.length:=fun j hj hk=>by
      have h1:bEv x j∈L.filter (isK 1):=List.mem_filter.2 ⟨zlr hA (zsg hj) hk,rfl⟩
      rw [b2] at h1
      obtain ⟨i,hi,ei⟩:=yZ.1 h1
      have hi:=yU.1 hi
      have:=zsh hx om hj ei
      omega
    rw [Yv,runI,z4y hx he hs hin]
    dsimp only
    rw [y6,cond_false]
    have hA':zbm x=(L++[e])++R:=by rw [hA];simp
    have fin:∀ p',Stub x p'→p'.length=((L++[e]).filter (isK 1)).length→runI (R.map (zc8 x)) (L++[e]) p'=some (L++e :: R):=fun p' h1 h2=>by
      rw [z3c hx hy R (L++[e]) hA' p' h1 h2];simp
    by_cases c:e.kind=1
    · have k:isK 1 e=true:=decide_eq_true c
      obtain ⟨c1,c2⟩:=b3 e (R.filter (isK 1)) (by rw [List.filter_cons,k];rfl)
      rw [decide_eq_true c,cond_true]
      refine fin _ ⟨by rw [yo,yE];omega,fun j hj=>?_⟩ (by rw [zu8 1 k,yo,yo,yE,yE];omega)
      rw [yo,yE] at hj
      by_cases cj:j<p.length
      · rw [zcz cj];exact hs.2 j cj
      · rw [zfo om,c2,show j=(L.filter (isK 1)).length by omega];rfl
    · have k:isK 1 e=false:=decide_eq_false c
      rw [decide_eq_false c,cond_false]
      exact fin _ hs (by rw [zkf 1 k];exact hp)
theorem zuj {x:yc} (hx:za9 x=true) (hy:Years x):zcs (zcg (zbm x))=(zbm x,true):=by
 have hb:(zbh (zbm x)).2=true:=by rw [zf6 hx hy]
 have ht:zbp (zfn (zbm x))=((zbm x).map (zc8 x),true):=by
  rw [ztu hb,zf6 hx hy]
  refine zjr fun l hl=>?_
  obtain ⟨e,h1,rfl⟩:=yZ.1 hl
  have:=(zz0 hb h1).1
  rw [zf6 hx hy] at this
  exact this
 have hl:(zbm x).length≤200:=by rw [(zcd x).length_eq];exact zji hx
 rw [zr9,zr3,ht]
 dsimp only
 rw [yY,decide_eq_false om,z3c hx hy (zbm x) [] rfl [] ⟨Yh _,fun k hk=>absurd hk (Nat.not_lt_zero _)⟩ rfl]
 simp only [y6,Bool.or_false,cond_false,List.nil_append]
 show (bif fine _ _ then _ else _)=_
 unfold fine
 rw [hb,beq_self_eq_true];rfl
theorem zva {f:yc} (hf:za9 f=true):zb3 f=zbm (zdw f):=by
 rw [zty]
 unfold zi6
 rw [hf];rfl
theorem zt4 {f:yc} (hf:za9 f=true):zct f=zdw f:=by
 rw [z2v]
 unfold zn1
 rw [hf];rfl
theorem zng {x:List Int} (h:x.length≤1048576∧∀ y∈x,inR .u8 y):x.length≤1048576∧∀ y∈x,0≤y∧y≤255:=⟨h.1,fun y hy=>by have:=h.2 y hy;simp only [inR] at this;omega⟩
theorem zb1 {b:List Int} (hb:b.length≤1048576∧∀ y∈b,inR .u8 y):za9 (zbv b 16)=true:=by
 unfold zbv
 exact zuz (zto (zng hb).2 (zng hb).1) om
theorem zq0 {x:yc} (hf:za9 x=true):(zel x).length≤10000:=by
 have h0:(!(zcc x))=false:=by rw [zdl,hf];rfl
 have hb:=fam_n hf
 unfold zel
 rw [h0,cond_false]
 refine zbx (fun i (v:List UInt8)=>v.length≤100 * i) (fun (r:List UInt8)=>r.length≤10000) (Yh _) (fun i v next hi hv hn=>hn _ ?_) (fun v hv=>?_)
 ·obtain ⟨h1,h2,h3,h4,h5,h6,_⟩:=zfd h0 hi
  simp only [yo,zk7,yv,yx];omega
 ·refine zbx (fun i (v:List UInt8)=>v.length≤100 * x.people.length+100 * i) (fun (r:List UInt8)=>r.length≤10000) hv (fun i v next hi hv hn=>hn _ ?_) (fun v hv=>by omega)
  obtain ⟨h1,h2,h3,h4,_⟩:=zfx h0 hi
  simp only [yo,zk8,yv,yx];omega
theorem ztj (n : Nat) : ∀ ls : List (List UInt8), (∀ l ∈ ls, l.length ≤ n) → ((ls.map (· ++ [(10 : UInt8)])).flatten).length ≤ (n + 1) * ls.length
  | [],_=>Yh _
  | l :: ls,h=>by
    have ih:=ztj n ls fun l' h'=>h l' (YF _ h')
    have:=h l (Yq ..)
    rw [Yv,we,yo,yo]
    simp only [yv,yx,Nat.mul_succ]
    omega
theorem z0m {x:yc} (hx:za9 x=true) (hy:Years x):(zcg (zbm x)).length≤20000:=by
 have hb:(zbh (zbm x)).2=true:=by rw [zf6 hx hy]
 have hl:(zbm x).length≤200:=by rw [(zcd x).length_eq];exact zji hx
 rw [zr9,ztu hb,zf6 hx hy]
 refine Nat.le_trans (ztj 60 _ fun l h=>?_) (by rw [yY];omega)
 obtain ⟨e,h1,rfl⟩:=yZ.1 h
 have he:=(zcd x).mem_iff.1 h1
 have n1:=zqn (zvb hx he)
 have n2:e.name.length≤12:=by
  rcases zfh he with ⟨i,hi,rfl⟩ | ⟨i,hi,rfl⟩ | ⟨i,hi,h,rfl⟩ | ⟨i,hi,h,rfl⟩
  ·exact znl (fam_p hx hi).name
  all_goals exact Yh _
 have n3:∀ a,(zbl x a).length≤12:=fun a=>ziy hx a
 have n4:=n3 e.a
 have n5:=n3 e.b
 unfold zc8
 repeat' refine zbe (p:=fun (r:List UInt8)=>r.length≤60) (fun _=>?_) (fun _=>?_)
 all_goals (simp only [yo,yv,yx];omega)
structure WrOk (f:yc):Prop where
 fam:za9 f=true
 ev:EvN 200 (zb3 f)
 tx:(zcg (zb3 f)).length≤20000
 bk:zcs (zcg (zb3 f))=(zb3 f,true)
 bd:zbz (zb3 f)=(zct f,true)
 ch:za9 (zct f)=true
 cc:zct (zct f)=zct f
theorem wr_ok {f:yc} (hf:za9 f=true):WrOk f:=by
 obtain ⟨s1,s2,_⟩:=zn3 hf
 have e1:=zva hf
 have e2:=zpl s1 s2
 have c1:=zt4 hf
 refine ⟨hf,?_,?_,?_,?_,?_,?_⟩
 ·rw [e1,← e2];exact z0o s1 s2
 ·rw [e1];exact z0m s1 s2
 ·rw [e1];exact zuj s1 s2
 ·rw [e1,znu,zf6 s1 s2,c1]
 ·rw [c1];exact s1
 ·rw [c1,zt4 s1,zn2 s1 s2]
end Go.Proofs.YtlinnkjieghmhaaGreatDoor
