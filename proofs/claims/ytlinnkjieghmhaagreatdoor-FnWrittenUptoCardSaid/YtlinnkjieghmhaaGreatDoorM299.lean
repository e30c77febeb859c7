import Derived.Test.YtlinnkjieghmhaaGreatDoorWR4
set_option maxHeartbeats 4000000
set_option linter.unusedSimpArgs false
set_option linter.unusedVariables false
namespace Go.Proofs.YtlinnkjieghmhaaGreatDoor
open Go Go.Lite Go.Proofs
def lineP (x:yc) (i:Nat):List UInt8:=joinS [zdi (x.people.getD i default).sex,(x.people.getD i default).name,zbr x (x.people.getD i default).father,zbr x (x.people.getD i default).mother,zb6 (x.people.getD i default).born,zb6 (x.people.getD i default).died] [32]
def lineU (x:yc) (i:Nat):List UInt8:=joinS [[117,110,105,111,110],zbr x (x.unions.getD i default).man,zbr x (x.unions.getD i default).woman,zb6 (x.unions.getD i default).from0,zb6 (x.unions.getD i default).to] [32]
def zej (x:yc):List (List UInt8):=(List.range x.people.length).map (lineP x)++(List.range x.unions.length).map (lineU x)
theorem zsl (ls : List (List UInt8)) (l : List UInt8) : ((ls ++ [l]).map (· ++ [(10 : UInt8)])).flatten = (ls.map (· ++ [10])).flatten ++ (l ++ [10]) := by simp
theorem ztu {x : yc} (hf : za9 x = true) : zek x = ((zej x).map (· ++ [10])).flatten := by
 unfold zek
 rw [zdk,hf]
 simp only [Bool.not_true,cond_false]
 refine zbx (fun i (v : List UInt8) => v = (((List.range i).map (lineP x)).map (· ++ [10])).flatten) (fun r => r = ((zej x).map (· ++ [10])).flatten) rfl (fun i v next hi hv hn => hn _ ?_) (fun v hv => ?_)
 ·rw [hv,List.range_succ,List.map_append,List.map_singleton,zsl];rfl
 ·refine zbx (fun i (v : List UInt8) => v = (((List.range x.people.length).map (lineP x) ++ (List.range i).map (lineU x)).map (· ++ [10])).flatten) (fun r => r = ((zej x).map (· ++ [10])).flatten) (by rw [hv]; simp) (fun i v next hi hv hn => hn _ ?_) (fun v hv => hv)
  rw [hv,List.range_succ,List.map_append (l₁:=List.range i),List.map_singleton,← List.append_assoc ((List.range x.people.length).map (lineP x)),zsl];rfl
theorem zj2 {c : UInt8} : ∀ (l : List (List UInt8)) (a : List UInt8), c ∉ a → (∀ b ∈ l, c ∉ b) → zc2 c (Lib.join (a :: l) [c]) = a :: l
  | [],a,h,_=>by rw [Lib.join_one,zcr h]
  | b :: l,a,h,hl=>by
    have ih:=zj2 l b (hl b (List.mem_cons_self ..)) fun d hd=>hl d (List.mem_cons_of_mem _ hd)
    rw [Lib.join_cons,Lib.joinTail] at ih
    rw [Lib.join_cons,Lib.joinTail,List.map_cons,List.flatten_cons,List.singleton_append,List.cons_append,zbs h,ih]
theorem zo8 {c d : UInt8} (hcd : c ≠ d) : ∀ (l : List (List UInt8)) (a : List UInt8), c ∉ a → (∀ b ∈ l, c ∉ b) → c ∉ Lib.join (a :: l) [d]
  | [],a,h,_=>by rw [Lib.join_one];exact h
  | b :: l,a,h,hl=>by
    have ih:=zo8 hcd l b (hl b (List.mem_cons_self ..)) fun d hd=>hl d (List.mem_cons_of_mem _ hd)
    rw [Lib.join_cons,Lib.joinTail] at ih
    rw [Lib.join_cons,Lib.joinTail,List.map_cons,List.flatten_cons,List.singleton_append,List.cons_append]
    simp only [List.mem_append,List.mem_cons,not_or] at ih ⊢
    exact ⟨h,hcd,ih⟩
theorem zrd {y:Int} (h:-1≤y∧y≤9999):Wd (zb6 y):=by
 unfold zb6
 refine zbe (p:=fun (r:List UInt8)=>Wd r) (fun _=>wd_of za7) (fun c=>?_)
 have:=of_decide_eq_false c
 rw [← ziq om];exact zyl ⟨om,h.2⟩
theorem wd_sex (s:Int):Wd (zdi s):=by
 unfold zdi
 exact zbe (p:=fun (r:List UInt8)=>Wd r) (fun _=>wd_of za7) (fun _=>wd_of za7)
theorem z2m {p:List ya} {u:List yb} {j:Nat} {s:List UInt8} (hj:j<p.length) (hs:(p.getD j default).name=s) (hu:∀ k,k<j→(p.getD k default).name≠s):findP ⟨p,u⟩ s=(((j:Nat):Int),true):=by
 unfold findP
 refine zbx (fun i _=>i≤j) (fun r=>r=(((j:Nat):Int),true)) (Nat.zero_le _) (fun i v next hi hv hn=>?_) (fun v hv=>absurd hj (by have:=hv;dsimp only at this;omega))
 by_cases c:i=j
 ·subst c;dsimp only;rw [hs,beq_self_eq_true];rfl
 ·have:=hu i om
  dsimp only
  rw [show ((p.getD i default).name==s)=false by simpa using this]
  exact hn _ om
theorem z18 {s:List UInt8} (h:zcp s=true):(s==[45])=false:=by
 cases c:s==[45] with
 | false=>rfl
 | true =>
  rw [eq_of_beq c] at h
  exact absurd h za7
theorem ze6 {y:Int} (h:0≤y∧y≤9999):zci (itoa y)=(y,true):=by
 rw [zod,zo3 h,decide_eq_true h.1];rfl
theorem z2g {y:Int} (h:0≤y∧y≤9999):(itoa y==[45])=false:=by
 cases c:itoa y==[45] with
 | false=>rfl
 | true =>
  have h1:=ze6 h
  rw [eq_of_beq c] at h1
  have h2:(zci [45]).2=false:=by rw [zod];rfl
  rw [h1] at h2;cases h2
theorem zkt {y:Int} (h:-1≤y∧y≤9999):zef (zb6 y)=(y,true):=by
 unfold zef zb6
 by_cases c:y=-1
 ·subst c;rfl
 ·rw [decide_eq_false c]
  simp only [cond_false]
  rw [z2g ⟨om,h.2⟩,ze6 ⟨om,h.2⟩];rfl
theorem zsk {y:Int} (h:0≤y):zb6 y=itoa y:=by
 unfold zb6
 rw [decide_eq_false om];rfl
theorem z10 {s:Int} (h:1≤s∧s≤2):zeb (zdi s)=s∧(zdi s==[117,110,105,111,110])=false:=by
 rcases (show s=1∨s=2 by omega) with rfl | rfl
 ·exact ⟨by decide,by decide⟩
 ·exact ⟨by decide,by decide⟩
def Stub (x:yc) (p:List ya):Prop:=p.length≤x.people.length∧∀ k,k<p.length→(p.getD k default).name=(x.people.getD k default).name
theorem zli {x:yc} (hf:za9 x=true) {p:List ya} {u:List yb} (hs:Stub x p) {a:Int} (h:0≤a∧a<p.length):findP ⟨p,u⟩ (zbr x a)=(a,true):=by
 obtain ⟨j,rfl⟩:=Int.eq_ofNat_of_zero_le h.1
 have hj:j<p.length:=by omega
 have h1:=hs.1
 unfold zbr
 rw [decide_eq_false om,cond_false,Int.toNat_natCast]
 refine z2m hj (hs.2 j hj) fun k hk=>?_
 rw [hs.2 k om]
 exact (fam_p hf (k:=j) om).uniq k hk
theorem znj {x:yc} (hf:za9 x=true) {p:List ya} {u:List yb} (hs:Stub x p) {a:Int} (h:a=-1∨0≤a∧a<p.length):zc7 ⟨p,u⟩ (zbr x a)=(a,true):=by
 rcases h with rfl | h
 ·rfl
 ·have h1:=hs.1
  have e:(zbr x a==[45])=false:=by
   unfold zbr
   rw [decide_eq_false om,cond_false]
   exact z18 (fam_p hf (k:=a.toNat) om).name
  unfold zc7
  rw [e,zli hf hs h];rfl
theorem zyv (x:yc) (i:Nat):Stub x (x.people.take i):=by
 refine ⟨by rw [List.length_take];omega,fun k hk=>?_⟩
 rw [List.length_take] at hk
 rw [List.getD_eq_getElem?_getD,List.getElem?_take,if_pos om,← List.getD_eq_getElem?_getD]
theorem zv9 {x:yc} (hf:za9 x=true) {i:Nat} (hi:i<x.people.length):∀ c:UInt8,c=10∨c=32→c ∉ zdi (x.people.getD i default).sex∧∀ b∈[(x.people.getD i default).name,zbr x (x.people.getD i default).father,zbr x (x.people.getD i default).mother,zb6 (x.people.getD i default).born,zb6 (x.people.getD i default).died],c ∉ b:=by
 have p:=fam_p hf hi
 have h1:=p.born;have h2:=p.died
 have nm:zbr=zbl:=rfl
 have w:∀ {s:List UInt8},Wd s→∀ c:UInt8,c=10∨c=32→c ∉ s:=fun hs c hc=>by rcases hc with rfl | rfl;exact hs.1;exact hs.2
 intro c hc
 refine ⟨w (wd_sex _) c hc,fun b hb=>?_⟩
 simp only [List.mem_cons,List.not_mem_nil,or_false] at hb
 rcases hb with rfl | rfl | rfl | rfl | rfl
 ·exact w (zre p.name) c hc
 ·rw [nm];exact w (zf6 hf _) c hc
 ·rw [nm];exact w (zf6 hf _) c hc
 ·exact w (zrd om) c hc
 ·exact w (zrd om) c hc
theorem zv8 {x:yc} (hf:za9 x=true) {i:Nat} (hi:i<x.unions.length):∀ c:UInt8,c=10∨c=32→∀ b∈[zbr x (x.unions.getD i default).man,zbr x (x.unions.getD i default).woman,zb6 (x.unions.getD i default).from0,zb6 (x.unions.getD i default).to],c ∉ b:=by
 have u:=fam_u hf hi
 have h1:=u.man;have h2:=u.woman;have h3:=u.from0;have h4:=u.to
 have h5:=(fam_p hf (k:=(x.unions.getD i default).man.toNat) om).born
 have nm:zbr=zbl:=rfl
 have w:∀ {s:List UInt8},Wd s→∀ c:UInt8,c=10∨c=32→c ∉ s:=fun hs c hc=>by rcases hc with rfl | rfl;exact hs.1;exact hs.2
 intro c hc b hb
 simp only [List.mem_cons,List.not_mem_nil,or_false] at hb
 rcases hb with rfl | rfl | rfl | rfl
 ·rw [nm];exact w (zf6 hf _) c hc
 ·rw [nm];exact w (zf6 hf _) c hc
 ·exact w (zrd om) c hc
 ·exact w (zrd om) c hc
theorem zx8 {x:yc} (hf:za9 x=true):∀ l∈zej x,(10:UInt8) ∉ l:=by
 intro l hl
 rcases List.mem_append.1 hl with hl | hl
 ·obtain ⟨i,hi,rfl⟩:=List.mem_map.1 hl
  have w:=zv9 hf (List.mem_range.1 hi) 10 (.inl rfl)
  exact zo8 za7 _ _ w.1 w.2
 ·obtain ⟨i,hi,rfl⟩:=List.mem_map.1 hl
  exact zo8 za7 _ _ za7 (zv8 hf (List.mem_range.1 hi) 10 (.inl rfl))
theorem zjp {ls : List (List UInt8)} (h : ∀ l ∈ ls, (10 : UInt8) ∉ l) : zbp ((ls.map (· ++ [10])).flatten) = (ls, true) := by
 have h1:=znw ls
 have h2:=znv _ h1
 have h3 : zel ((ls.map (· ++ [10])).flatten) 10 = zc2 10 ((ls.map (· ++ [10])).flatten) := zl9 _ 10
 rw [h3,zml ls h] at h2
 exact Prod.ext (List.append_cancel_right h2).symm h1
theorem zzb {x:yc} (hf:za9 x=true) {i:Nat} (hi:i<x.people.length):zec ⟨x.people.take i,[]⟩ (lineP x i)=(true,x.people.take (i+1),[]):=by
 have p:=fam_p hf hi
 have h1:=p.born;have h2:=p.died;have h3:=p.fa;have h4:=p.mo
 have hs:=zyv x i
 have hl:(x.people.take i).length=i:=by rw [List.length_take];omega
 have w:=zv9 hf hi 32 (.inr rfl)
 have e:zb0 (lineP x i) [32]=_:=zj2 _ _ w.1 w.2
 obtain ⟨s1,s2⟩:=z10 p.sex
 have b1:=znj hf (u:=[]) hs (a:=(x.people.getD i default).father) om
 have b2:=znj hf (u:=[]) hs (a:=(x.people.getD i default).mother) om
 have b3:zci (zb6 (x.people.getD i default).born)=((x.people.getD i default).born,true):=by rw [zsk h1.1];exact ze6 h1
 have b4:=zkt (y:=(x.people.getD i default).died) om
 have st:x.people.take (i+1)=x.people.take i++[x.people.getD i default]:=by
  rw [List.take_add_one,List.getElem?_eq_getElem hi,List.getD_eq_getElem?_getD,List.getElem?_eq_getElem hi];rfl
 unfold zec
 rw [e]
 simp only [List.getD_cons_zero,List.getD_cons_succ,List.length_cons,List.length_nil,s1,s2,b1,b2,b3,b4,cond_false]
 rw [decide_eq_false (show ¬ (x.people.getD i default).sex=0 by have:=p.sex;omega),st]
 rfl
theorem zza {x:yc} (hf:za9 x=true) {i:Nat} (hi:i<x.unions.length):zec ⟨x.people,x.unions.take i⟩ (lineU x i)=(true,x.people,x.unions.take (i+1)):=by
 have u:=fam_u hf hi
 have h1:=u.man;have h2:=u.woman;have h3:=u.from0;have h4:=u.to
 have h5:=(fam_p hf (k:=(x.unions.getD i default).man.toNat) om).born
 have hs:Stub x x.people:=⟨Nat.le_refl _,fun _ _=>rfl⟩
 have e:zb0 (lineU x i) [32]=_:=zj2 _ _ za7 (zv8 hf hi 32 (.inr rfl))
 have b1:=zli hf (u:=x.unions.take i) hs h1
 have b2:=zli hf (u:=x.unions.take i) hs h2
 have b3:zci (zb6 (x.unions.getD i default).from0)=((x.unions.getD i default).from0,true):=by rw [zsk om];exact ze6 om
 have b4:=zkt (y:=(x.unions.getD i default).to) om
 have st:x.unions.take (i+1)=x.unions.take i++[x.unions.getD i default]:=by
  rw [List.take_add_one,List.getElem?_eq_getElem hi,List.getD_eq_getElem?_getD,List.getElem?_eq_getElem hi];rfl
 unfold zec
 rw [e]
 simp only [List.getD_cons_zero,List.getD_cons_succ,List.length_cons,List.length_nil,b1,b2,b3,b4,beq_self_eq_true,cond_true]
 rw [st]
 rfl
theorem zj0 {x:yc} (hf:za9 x=true):zht (zek x)=(x,true):=by
 have hb:=fam_n hf
 have hl:(zej x).length=x.people.length+x.unions.length:=by simp [zej]
 have ht:zbp (zek x)=(zej x,true):=by rw [ztu hf];exact zjp (zx8 hf)
 unfold zht
 rw [ht]
 dsimp only
 rw [decide_eq_false om]
 simp only [Bool.not_true,Bool.or_false,cond_false]
 refine zbx (fun i (v:List ya×List yb)=>v=(x.people.take i,x.unions.take (i - x.people.length))) (fun r=>r=(x,true)) zas (fun i v next hi hv hn=>?_) (fun v hv=>?_)
 ·subst hv
  by_cases c:i<x.people.length
  ·have g:(zej x).getD i default=lineP x i:=by
    unfold zej
    rw [List.getD_eq_getElem?_getD,List.getElem?_append_left (by simpa using c),List.getElem?_map,List.getElem?_range c];rfl
   have h0:i - x.people.length=0:=by omega
   have h1:i+1 - x.people.length=0:=by omega
   rw [g]
   simp only [h0,List.take_zero]
   rw [zzb hf c]
   exact hn _ (by rw [h1];rfl)
  ·have g:(zej x).getD i default=lineU x (i - x.people.length):=by
    unfold zej
    rw [List.getD_eq_getElem?_getD,List.getElem?_append_right (by simpa using c),List.getElem?_map,List.length_map,List.length_range,List.getElem?_range om];rfl
   have e1:i+1 - x.people.length=(i - x.people.length)+1:=by omega
   have e2:x.people.take i=x.people:=List.take_of_length_le om
   have e3:x.people.take (i+1)=x.people:=List.take_of_length_le om
   rw [g]
   simp only [e2]
   rw [zza hf om]
   exact hn _ (by rw [e1,e3])
 ·subst hv
  have e1:x.people.take (zej x).length=x.people:=List.take_of_length_le om
  have e2:x.unions.take ((zej x).length - x.people.length)=x.unions:=List.take_of_length_le om
  dsimp only
  rw [e1,e2]
  show (bif (!(zcb x))||(!(zek x==zek x)) then _ else (x,true))=_
  rw [zdk,hf,beq_self_eq_true];rfl
theorem zx1 {x:yc} (hx:za9 x=true) (hy:Years x):zdg x 9999=x:=by
 have e:=zo7 hx hy 9999
 have hp:(zdg x 9999).people=x.people:=by
  have hl:(zdg x 9999).people.length=x.people.length:=by
   have h1:=e.pl
   by_cases c:(zdg x 9999).people.length=x.people.length
   ·exact c
   ·have h2:=e.pr _ (Nat.le_refl _) (show _<x.people.length by omega)
    have:=(fam_p hx (k:=(zdg x 9999).people.length) om).born
    omega
  refine ext_g hl fun k hk=>?_
  rw [(e.pg k hk).1]
  have p:=fam_p hx (k:=k) om
  have:=p.died
  have:=p.born
  unfold clipP
  rw [decide_eq_false om];rfl
 have hu:(zdg x 9999).unions=x.unions:=by
  have hl:(zdg x 9999).unions.length=x.unions.length:=by
   have h1:=e.ul
   by_cases c:(zdg x 9999).unions.length=x.unions.length
   ·exact c
   ·have h2:=e.ur _ (Nat.le_refl _) (show _<x.unions.length by omega)
    have:=(fam_u hx (k:=(zdg x 9999).unions.length) om).from0
    omega
  refine ext_g hl fun k hk=>?_
  rw [(e.ug k hk).1]
  have p:=fam_u hx (k:=k) om
  have:=p.to
  have:=p.from0
  unfold clipU
  rw [decide_eq_false om];rfl
 show (⟨(zdg x 9999).people,(zdg x 9999).unions⟩:yc)=x
 rw [hp,hu]
theorem zu9 {x:yc} (hx:za9 x=true) {e:yd} (he:e∈zda x):0≤e.year∧e.year≤9999:=by
 rcases zfg he with ⟨i,hi,rfl⟩ | ⟨i,hi,rfl⟩ | ⟨i,hi,h,rfl⟩ | ⟨i,hi,h,rfl⟩
 ·exact (fam_p hx hi).born
 ·have u:=fam_u hx hi
  have h1:=u.man;have h3:=u.from0
  have h5:=(fam_p hx (k:=(x.unions.getD i default).man.toNat) om).born
  show 0≤(x.unions.getD i default).from0∧(x.unions.getD i default).from0≤9999
  omega
 ·have u:=(fam_u hx hi).to
  show 0≤(x.unions.getD i default).to∧(x.unions.getD i default).to≤9999
  omega
 ·have u:=(fam_p hx hi).died
  show 0≤(x.people.getD i default).died∧(x.people.getD i default).died≤9999
  omega
theorem zf4 {x:yc} (hx:za9 x=true) (hy:Years x):zbh (zbm x)=(x,true):=by
 have h:=zvm hx hy 9999
 rw [zx1 hx hy,List.filter_eq_self.2 fun e he=>decide_eq_true (zu9 hx ((zcc x).mem_iff.1 he)).2] at h
 exact h
theorem z16 {y:Int} (h:0≤y∧y≤9999):zci (zca y)=(y,true):=by rw [ziq h.1];exact ze6 h
theorem z4v {x : yc} (hx : za9 x = true) {e : yd} (he : e ∈ zda x) {p : List ya} (hs : Stub x p) (hin : ∀ j : Nat, j < x.people.length → evKey (bEv x j) < evKey e → j < p.length) :
    zdj ⟨p,[]⟩ (zc8 x e)=(e,true,bif decide (e.kind=1) then p++[ya.mk e.name 0 0 0 0 0] else p,[]):=by
 have sp:∀ t,zb0 t [32]=zc2 32 t:=fun t=>rfl
 have hyr:=zu9 hx he
 have nb:=z16 hyr
 have w0:=(zyl hyr).2
 have wn:∀ a,(32:UInt8) ∉ zbl x a:=fun a=>(zf6 hx a).2
 have fnd:∀ a:Int,0≤a→a<x.people.length→evKey (bEv x a.toNat)<evKey e→findP ⟨p,[]⟩ (zbl x a)=(a,true):=fun a h1 h2 h3=>by
  have:=hin a.toNat om h3
  exact zli hx hs ⟨h1,om⟩
 rcases zfg he with ⟨i,hi,rfl⟩ | ⟨i,hi,rfl⟩ | ⟨i,hi,h,rfl⟩ | ⟨i,hi,h,rfl⟩
 ·have q:=fam_p hx hi
  have pa:zc7 ⟨p,[]⟩ (zbl x (x.people.getD i default).father)=((x.people.getD i default).father,true):=by
   have h:=q.fa
   refine znj hx hs (h.imp id fun h=>⟨h.1,?_⟩)
   have:=hin (x.people.getD i default).father.toNat om (by unfold evKey bEv;dsimp only;omega)
   omega
  have pb:zc7 ⟨p,[]⟩ (zbl x (x.people.getD i default).mother)=((x.people.getD i default).mother,true):=by
   have h:=q.mo
   refine znj hx hs (h.imp id fun h=>⟨h.1,?_⟩)
   have:=hin (x.people.getD i default).mother.toNat om (by unfold evKey bEv;dsimp only;omega)
   omega
  have w4:=(zre q.name).2
  have hq:=q.sex
  rcases (show (x.people.getD i default).sex=1∨(x.people.getD i default).sex=2 by omega) with s | s
  ·have el:zb0 (zc8 x (bEv x i)) [32]=[zca (bEv x i).year,[98,111,114,110],(x.people.getD i default).name,[109,97,110],zbl x (x.people.getD i default).father,zbl x (x.people.getD i default).mother]:=by
    rw [sp, show zc8 x (bEv x i) = zca (bEv x i).year ++ 32 :: ([98, 111, 114, 110] ++ 32 :: ((x.people.getD i default).name ++ 32 :: ([109, 97, 110] ++ 32 :: (zbl x (x.people.getD i default).father ++ 32 :: zbl x (x.people.getD i default).mother)))) by simp [zc8, bEv, s, -List.getD_eq_getElem?_getD],
      zbs w0,zbs za7,zbs w4,zbs za7,zbs (wn _),zcr (wn _)]
   unfold zdj
   rw [el]
   simp only [List.getD_cons_zero,List.getD_cons_succ,List.length_cons,List.length_nil,nb,pa,pb]
   have e1:bEv x i=yd.mk 1 (bEv x i).year (x.people.getD i default).name 1 (x.people.getD i default).father (x.people.getD i default).mother:=by unfold bEv;rw [s]
   rw [e1];rfl
  ·have el:zb0 (zc8 x (bEv x i)) [32]=[zca (bEv x i).year,[98,111,114,110],(x.people.getD i default).name,[119,111,109,97,110],zbl x (x.people.getD i default).father,zbl x (x.people.getD i default).mother]:=by
    rw [sp, show zc8 x (bEv x i) = zca (bEv x i).year ++ 32 :: ([98, 111, 114, 110] ++ 32 :: ((x.people.getD i default).name ++ 32 :: ([119, 111, 109, 97, 110] ++ 32 :: (zbl x (x.people.getD i default).father ++ 32 :: zbl x (x.people.getD i default).mother)))) by simp [zc8, bEv, s, -List.getD_eq_getElem?_getD],
      zbs w0,zbs za7,zbs w4,zbs za7,zbs (wn _),zcr (wn _)]
   unfold zdj
   rw [el]
   simp only [List.getD_cons_zero,List.getD_cons_succ,List.length_cons,List.length_nil,nb,pa,pb]
   have e1:bEv x i=yd.mk 1 (bEv x i).year (x.people.getD i default).name 2 (x.people.getD i default).father (x.people.getD i default).mother:=by unfold bEv;rw [s]
   rw [e1];rfl
 ·have u:=fam_u hx hi
  have h1:=u.man;have h2:=u.woman;have h3:=u.from0
  have pa:=fnd (x.unions.getD i default).man h1.1 h1.2 (by unfold evKey bEv uEv;dsimp only;omega)
  have pb:=fnd (x.unions.getD i default).woman h2.1 h2.2 (by unfold evKey bEv uEv;dsimp only;omega)
  have el:zb0 (zc8 x (uEv x i)) [32]=[zca (uEv x i).year,[117,110,105,111,110],zbl x (x.unions.getD i default).man,zbl x (x.unions.getD i default).woman]:=by
   rw [sp, show zc8 x (uEv x i) = zca (uEv x i).year ++ 32 :: ([117, 110, 105, 111, 110] ++ 32 :: (zbl x (x.unions.getD i default).man ++ 32 :: zbl x (x.unions.getD i default).woman)) by simp [zc8, uEv, -List.getD_eq_getElem?_getD],
     zbs w0,zbs za7,zbs (wn _),zcr (wn _)]
  unfold zdj
  rw [el]
  simp only [List.getD_cons_zero,List.getD_cons_succ,List.length_cons,List.length_nil,nb,pa,pb]
  rfl
 ·have u:=fam_u hx hi
  have h1:=u.man;have h2:=u.woman;have h3:=u.from0;have h4:=u.to
  have pa:=fnd (x.unions.getD i default).man h1.1 h1.2 (by unfold evKey bEv pEv;dsimp only;omega)
  have pb:=fnd (x.unions.getD i default).woman h2.1 h2.2 (by unfold evKey bEv pEv;dsimp only;omega)
  have el:zb0 (zc8 x (pEv x i)) [32]=[zca (pEv x i).year,[112,97,114,116,101,100],zbl x (x.unions.getD i default).man,zbl x (x.unions.getD i default).woman]:=by
   rw [sp, show zc8 x (pEv x i) = zca (pEv x i).year ++ 32 :: ([112, 97, 114, 116, 101, 100] ++ 32 :: (zbl x (x.unions.getD i default).man ++ 32 :: zbl x (x.unions.getD i default).woman)) by simp [zc8, pEv, -List.getD_eq_getElem?_getD],
     zbs w0,zbs za7,zbs (wn _),zcr (wn _)]
  unfold zdj
  rw [el]
  simp only [List.getD_cons_zero,List.getD_cons_succ,List.length_cons,List.length_nil,nb,pa,pb]
  rfl
 ·have q:=fam_p hx hi
  have h2:=q.died;have h3:=q.born
  have pa:=fnd ((i:Nat):Int) om om (by unfold evKey bEv dEv;dsimp only;rw [Int.toNat_natCast];omega)
  have el:zb0 (zc8 x (dEv x i)) [32]=[zca (dEv x i).year,[100,105,101,100],zbl x ((i:Nat):Int)]:=by
   rw [sp, show zc8 x (dEv x i) = zca (dEv x i).year ++ 32 :: ([100, 105, 101, 100] ++ 32 :: zbl x ((i : Nat) : Int)) by simp [zc8, dEv, -List.getD_eq_getElem?_getD],
     zbs w0,zbs za7,zcr (wn _)]
  unfold zdj
  rw [el]
  simp only [List.getD_cons_zero,List.getD_cons_succ,List.length_cons,List.length_nil,nb,pa]
  rfl
theorem z29 {x : yc} (hx : za9 x = true) (hy : Years x) : ∀ (R L : List yd), zbm x = L ++ R → ∀ p : List ya, Stub x p → p.length = (L.filter (isK 1)).length → runI (R.map (zc8 x)) L p = some (L ++ R)
  | [],L,_,p,_,_=>by rw [List.append_nil];rfl
  | e :: R,L,hA,p,hs,hp=>by
    have he:e∈zda x:=(zcc x).mem_iff.1 (by rw [hA];simp)
    have hb:=zlw hy
    rw [hA,List.filter_append] at hb
    obtain ⟨b1,b2,b3⟩:=zoe hb
    have hin:∀ j:Nat,j<x.people.length→evKey (bEv x j)<evKey e→j<p.length:=fun j hj hk=>by
      have h1:bEv x j∈L.filter (isK 1):=List.mem_filter.2 ⟨zlq hA (zse hj) hk,rfl⟩
      rw [b2] at h1
      obtain ⟨i,hi,ei⟩:=List.mem_map.1 h1
      have hi:=List.mem_range.1 hi
      have:=zsf hx om hj ei
      omega
    rw [List.map_cons,runI,z4v hx he hs hin]
    dsimp only
    rw [Bool.not_true,cond_false]
    have hA':zbm x=(L++[e])++R:=by rw [hA];simp
    have fin:∀ p',Stub x p'→p'.length=((L++[e]).filter (isK 1)).length→runI (R.map (zc8 x)) (L++[e]) p'=some (L++e :: R):=fun p' h1 h2=>by
      rw [z29 hx hy R (L++[e]) hA' p' h1 h2];simp
    by_cases c:e.kind=1
    · have k:isK 1 e=true:=decide_eq_true c
      obtain ⟨c1,c2⟩:=b3 e (R.filter (isK 1)) (by rw [List.filter_cons,k];rfl)
      rw [decide_eq_true c,cond_true]
      refine fin _ ⟨by rw [List.length_append,List.length_singleton];omega,fun j hj=>?_⟩ (by rw [zu6 1 k,List.length_append,List.length_append,List.length_singleton,List.length_singleton];omega)
      rw [List.length_append,List.length_singleton] at hj
      by_cases cj:j<p.length
      · rw [zc5 cj];exact hs.2 j cj
      · rw [zf7 om,c2,show j=(L.filter (isK 1)).length by omega];rfl
    · have k:isK 1 e=false:=decide_eq_false c
      rw [decide_eq_false c,cond_false]
      exact fin _ hs (by rw [zke 1 k];exact hp)
theorem zui {x:yc} (hx:za9 x=true) (hy:Years x):zcs (zcg (zbm x))=(zbm x,true):=by
 have hb:(zbh (zbm x)).2=true:=by rw [zf4 hx hy]
 have ht:zbp (zfm (zbm x))=((zbm x).map (zc8 x),true):=by
  rw [ztt hb,zf4 hx hy]
  refine zjp fun l hl=>?_
  obtain ⟨e,h1,rfl⟩:=List.mem_map.1 hl
  have:=(zzw hb h1).1
  rw [zf4 hx hy] at this
  exact this
 have hl:(zbm x).length≤200:=by rw [(zcc x).length_eq];exact zjg hx
 rw [zr7,zr1,ht]
 dsimp only
 rw [List.length_map,decide_eq_false om,z29 hx hy (zbm x) [] rfl [] ⟨Nat.zero_le _,fun k hk=>absurd hk (Nat.not_lt_zero _)⟩ rfl]
 simp only [Bool.not_true,Bool.or_false,cond_false,List.nil_append]
 show (bif fine _ _ then _ else _)=_
 unfold fine
 rw [hb,beq_self_eq_true];rfl
theorem zu8 {f:yc} (hf:za9 f=true):zb3 f=zbm (zdv f):=by
 rw [ztx]
 unfold zi4
 rw [hf];rfl
theorem zt3 {f:yc} (hf:za9 f=true):zct f=zdv f:=by
 rw [z2s]
 unfold zn0
 rw [hf];rfl
theorem znf {x:List Int} (h:x.length≤1048576∧∀ y∈x,inR .u8 y):x.length≤1048576∧∀ y∈x,0≤y∧y≤255:=⟨h.1,fun y hy=>by have:=h.2 y hy;simp only [inR] at this;omega⟩
theorem zb1 {b:List Int} (hb:b.length≤1048576∧∀ y∈b,inR .u8 y):za9 (zbv b 16)=true:=by
 unfold zbv
 exact zux (ztm (znf hb).2 (znf hb).1) om
theorem zqy {x:yc} (hf:za9 x=true):(zek x).length≤10000:=by
 have h0:(!(zcb x))=false:=by rw [zdk,hf];rfl
 have hb:=fam_n hf
 unfold zek
 rw [h0,cond_false]
 refine zbx (fun i (v:List UInt8)=>v.length≤100 * i) (fun (r:List UInt8)=>r.length≤10000) (Nat.zero_le _) (fun i v next hi hv hn=>hn _ ?_) (fun v hv=>?_)
 ·obtain ⟨h1,h2,h3,h4,h5,h6,_⟩:=zfc h0 hi
  simp only [List.length_append,zk6,List.length_cons,List.length_nil];omega
 ·refine zbx (fun i (v:List UInt8)=>v.length≤100 * x.people.length+100 * i) (fun (r:List UInt8)=>r.length≤10000) hv (fun i v next hi hv hn=>hn _ ?_) (fun v hv=>by omega)
  obtain ⟨h1,h2,h3,h4,_⟩:=zfu h0 hi
  simp only [List.length_append,zk7,List.length_cons,List.length_nil];omega
theorem zth (n : Nat) : ∀ ls : List (List UInt8), (∀ l ∈ ls, l.length ≤ n) → ((ls.map (· ++ [(10 : UInt8)])).flatten).length ≤ (n + 1) * ls.length
  | [],_=>Nat.zero_le _
  | l :: ls,h=>by
    have ih:=zth n ls fun l' h'=>h l' (List.mem_cons_of_mem _ h')
    have:=h l (List.mem_cons_self ..)
    rw [List.map_cons,List.flatten_cons,List.length_append,List.length_append]
    simp only [List.length_cons,List.length_nil,Nat.mul_succ]
    omega
theorem z0i {x:yc} (hx:za9 x=true) (hy:Years x):(zcg (zbm x)).length≤20000:=by
 have hb:(zbh (zbm x)).2=true:=by rw [zf4 hx hy]
 have hl:(zbm x).length≤200:=by rw [(zcc x).length_eq];exact zjg hx
 rw [zr7,ztt hb,zf4 hx hy]
 refine Nat.le_trans (zth 60 _ fun l h=>?_) (by rw [List.length_map];omega)
 obtain ⟨e,h1,rfl⟩:=List.mem_map.1 h
 have he:=(zcc x).mem_iff.1 h1
 have n1:=zqm (zu9 hx he)
 have n2:e.name.length≤12:=by
  rcases zfg he with ⟨i,hi,rfl⟩ | ⟨i,hi,rfl⟩ | ⟨i,hi,h,rfl⟩ | ⟨i,hi,h,rfl⟩
  ·exact znk (fam_p hx hi).name
  all_goals exact Nat.zero_le _
 have n3:∀ a,(zbl x a).length≤12:=fun a=>ziw hx a
 have n4:=n3 e.a
 have n5:=n3 e.b
 unfold zc8
 repeat' refine zbe (p:=fun (r:List UInt8)=>r.length≤60) (fun _=>?_) (fun _=>?_)
 all_goals (simp only [List.length_append,List.length_cons,List.length_nil];omega)
structure WrOk (f:yc):Prop where
 fam:za9 f=true
 ev:EvN 200 (zb3 f)
 tx:(zcg (zb3 f)).length≤20000
 bk:zcs (zcg (zb3 f))=(zb3 f,true)
 bd:zbz (zb3 f)=(zct f,true)
 ch:za9 (zct f)=true
 cc:zct (zct f)=zct f
theorem wr_ok {f:yc} (hf:za9 f=true):WrOk f:=by
 obtain ⟨s1,s2,_⟩:=zn2 hf
 have e1:=zu8 hf
 have e2:=zpk s1 s2
 have c1:=zt3 hf
 refine ⟨hf,?_,?_,?_,?_,?_,?_⟩
 ·rw [e1,← e2];exact z0k s1 s2
 ·rw [e1];exact z0i s1 s2
 ·rw [e1];exact zui s1 s2
 ·rw [e1,znt,zf4 s1 s2,c1]
 ·rw [c1];exact s1
 ·rw [c1,zt3 s1,zn1 s1 s2]
end Go.Proofs.YtlinnkjieghmhaaGreatDoor
