import Derived.Test.YtlinnkjieghmhaaGreatDoorV92
set_option maxHeartbeats 4000000
set_option linter.unusedSimpArgs false
set_option linter.unusedVariables false
namespace Go.Proofs.YtlinnkjieghmhaaGreatDoor
open Go Go.Lite Go.Proofs
theorem zmd {α:Type} {l:List α} {i:Nat} {d:α} (h:i<l.length):l.getD i d=l[i]:=by
 rw [List.getD_eq_getElem?_getD,List.getElem?_eq_getElem h];rfl
theorem zx0 {α β : Type} {f g : Nat → α → (α → β) → β} {k l : α → β} (R : Nat → α → Prop) (D : α → Prop) (z : β) (N : Nat)
    (hd:∀ i v next,i<N→D v→(∀ w,D w→next w=z)→f i v next=z) (hk:∀ v,D v→k v=z)
    (hs:∀ i v n1 n2,i<N→R i v→(∀ w,R (i+1) w→n1 w=n2 w)→(∀ w,D w→n1 w=z)→f i v n1=g i v n2)
    (he:∀ v,R N v→k v=l v):∀ v,R 0 v→loopN f k N 0 v=loopN g l N 0 v:=by
 have dm:∀ n i v,i+n=N→D v→loopN f k n i v=z:=by
  intro n
  induction n with
  | zero=>intro i v _ h;exact hk v h
  | succ n ih=>intro i v hi h;exact hd i v _ om h fun w hw=>ih (i+1) w om hw
 have:∀ n i v,i+n=N→R i v→loopN f k n i v=loopN g l n i v:=by
  intro n
  induction n with
  | zero => intro i v hi h; obtain rfl : i = N := by omega
            exact he v h
  | succ n ih=>intro i v hi h;exact hs i v _ _ om h (fun w hw=>ih (i+1) w om hw) fun w hw=>dm n (i+1) w om hw
 exact fun v h=>this N 0 v om h
theorem zxd (x : yc) (a b : Int) {β : Type} (A : Nat → β) (B : β) :
    loopN (fun i (_:Unit) next=>bif ((decide (((x.unions.getD i default).man)=a))&&(decide (((x.unions.getD i default).woman)=b))) then A i else (next ())) (fun (_:Unit)=>B) x.unions.length 0 ()=bif decide (zcn x a b<0) then B else A (zcn x a b).toNat:=by
 unfold zcn
 refine zja (fun _ _ _=>True) (fun (r:β) (s:Int)=>r=bif decide (s<0) then B else A s.toNat) trivial (fun i v u n1 n2 hi hr hn=>?_) (fun v u hr=>by simp)
 cases (decide (((x.unions.getD i default).man)=a))&&(decide (((x.unions.getD i default).woman)=b))
 ·exact hn () () trivial
 ·simp only [cond_true,decide_eq_false (show ¬ ((i:Nat):Int)<0 by omega),cond_false,Int.toNat_natCast]
theorem zxc (x:yc) (a b:Int) (hw:∀ w∈x.unions,0≤w.woman∧w.woman<x.people.length) (hb:¬ (0≤b∧b<x.people.length)):zcn x a b<0:=by
 unfold zcn
 refine zbx (fun i (v:Unit)=>True) (fun (r:Int)=>r<0) trivial (fun i v next hi hv hn=>zbe (p:=fun (r:Int)=>r<0) (fun c=>?_) (fun _=>hn _ trivial)) (fun v hv=>by omega)
 simp only [Bool.and_eq_true,decide_eq_true_eq] at c
 have:=hw _ (zd0 (d:=default) hi)
 rw [c.2] at this
 exact absurd this hb
theorem z0o (x : yc) (e : yd) (hw : ∀ w ∈ x.unions, 0 ≤ w.woman ∧ w.woman < x.people.length) :
    ((l11Do x e).2=true∧zeq x e=(true,(l11Do x e).1.people,(l11Do x e).1.unions))∨((l11Do x e).2=false∧((zeq x e).1=false∨40<(zeq x e).2.1.length∨60<(zeq x e).2.2.length)):=by
 have hl:∀ a:Int,l1In a 0 (((x.people.length:Nat):Int) - 1)=zck a x:=fun a=>by
  rw [Bool.eq_iff_iff];simp only [l1In,zck,Bool.and_eq_true,decide_eq_true_eq];omega
 unfold zeq
 simp only [zxd]
 unfold l11Do
 simp only [hl]
 cases k1:decide (e.kind=1)
 ·simp only [Bool.not_false,Bool.true_and,cond_false]
  cases hz:((!(e.name==([]:List UInt8)))||(!decide (e.sex=0)))
  ·simp only [Bool.false_or,cond_false]
   cases ha:zck e.a x
   ·simp only [Bool.not_false,cond_true,Bool.true_or]
    right;refine ⟨by first | rfl | trivial,.inl ?_⟩
    cases decide (e.kind=2)<;>cases decide (e.kind=3)<;>cases decide (e.kind=4)<;>rfl
   ·simp only [Bool.not_true,cond_false,Bool.false_or]
    cases k2:decide (e.kind=2)
    ·cases k3:decide (e.kind=3)
     ·cases k4:decide (e.kind=4)
      ·right;exact ⟨by first | rfl | trivial,.inl rfl⟩
      ·simp only [cond_true,cond_false]
       cases ((!decide (e.b=0))||(!decide (((x.people.getD e.a.toNat default).died)=(-1))))
       ·left;first | exact ⟨rfl,rfl⟩ | exact ⟨rfl,trivial⟩
       ·right;exact ⟨by first | rfl | trivial,.inl rfl⟩
     ·simp only [cond_true,cond_false]
      cases hb:zck e.b x
      ·have:zcn x e.a e.b<0:=zxc x _ _ hw (by simpa [zck] using hb)
       rw [decide_eq_true this]
       right;exact ⟨by first | rfl | trivial,.inl rfl⟩
      ·simp only [Bool.not_true,cond_false]
       cases decide (zcn x e.a e.b<0)
       ·cases (!decide (((x.unions.getD (zcn x e.a e.b).toNat default).to)=(-1)))
        ·left;first | exact ⟨rfl,rfl⟩ | exact ⟨rfl,trivial⟩
        ·right;exact ⟨by first | rfl | trivial,.inl rfl⟩
       ·right;exact ⟨by first | rfl | trivial,.inl rfl⟩
    ·simp only [cond_true,cond_false]
     cases hb:zck e.b x
     ·right;exact ⟨by first | rfl | trivial,.inl rfl⟩
     ·simp only [Bool.not_true,cond_false,Bool.true_and]
      by_cases h:((((x.unions++[(yb.mk e.a e.b e.year (-1))]).length:Nat):Int)≤60)
      ·left;first | exact ⟨decide_eq_true h,rfl⟩ | exact ⟨decide_eq_true h,trivial⟩
      ·right;exact ⟨decide_eq_false h,.inr (.inr (by first | omega | (simp only [List.length_append,List.length_singleton] at h ⊢;omega)))⟩
  ·right;exact ⟨by first | rfl | trivial,.inl rfl⟩
 ·simp only [Bool.not_true,Bool.false_and,cond_false,cond_true]
  by_cases h:((x.people.length:Nat):Int)<40
  ·left;first | exact ⟨decide_eq_true h,rfl⟩ | exact ⟨decide_eq_true h,trivial⟩
  ·right;exact ⟨decide_eq_false h,.inr (.inl (by simp;omega))⟩
def phi (p:List ya) (u:List yb):Nat:=p.length+u.length+p.countP (fun q=>!decide (q.died=-1))+u.countP (fun q=>!decide (q.to=-1))
theorem z3m (x:yc) (e:yd) (hy:0≤e.year) (h:(l11Do x e).2=true):phi (l11Do x e).1.people (l11Do x e).1.unions=phi x.people x.unions+1:=by
 revert h
 unfold l11Do
 have Q:∀ {c:Bool} {a b:yc×Bool},(c=true→a.2=true→phi a.1.people a.1.unions=phi x.people x.unions+1)→(c=false→b.2=true→phi b.1.people b.1.unions=phi x.people x.unions+1)→(bif c then a else b).2=true→phi (bif c then a else b).1.people (bif c then a else b).1.unions=phi x.people x.unions+1:=fun h1 h2=>zbe (p:=fun (r:yc×Bool)=>r.2=true→phi r.1.people r.1.unions=phi x.people x.unions+1) h1 h2
 have ny:¬ e.year=-1:=by omega
 refine Q (fun _ h=>nomatch h) (fun c1=>Q (fun _ _=>?_) (fun c2=>Q (fun _ _=>?_) (fun c3=>Q (fun c4=>Q (fun _ h=>nomatch h) (fun c5 _=>?_)) (fun c4=>Q (fun c5=>Q (fun _ h=>nomatch h) (fun c6 _=>?_)) (fun _ h=>nomatch h)))))
 ·simp only [phi,List.length_append,List.length_singleton,List.countP_append,List.countP_singleton,decide_true,Bool.not_true];simp;omega
 ·simp only [phi,List.length_append,List.length_singleton,List.countP_append,List.countP_singleton,decide_true,Bool.not_true];simp;omega
 ·have h1:=zmr x e.a e.b
  simp only [zbd,decide_eq_false_iff_not,zbb,decide_eq_true_eq] at c5
  have hl:(zcn x e.a e.b).toNat<x.unions.length:=by omega
  have h2:=c5.2
  rw [zmd hl] at h2
  simp only [phi,List.length_set,List.countP_set hl,h2,decide_true,Bool.not_true,decide_eq_false ny,Bool.not_false,if_true]
  simp;omega
 ·have hl:e.a.toNat<x.people.length:=by
   simp only [Bool.and_eq_false_imp,zbd,zbb,zbc,l1In,Bool.and_eq_true,decide_eq_true_eq,decide_eq_false_iff_not] at *
   omega
  simp only [zbd,zbb,decide_eq_true_eq] at c6
  have h2:=c6.2
  rw [zmd hl] at h2
  simp only [phi,List.length_set,List.countP_set hl,h2,decide_true,Bool.not_true,decide_eq_false ny,Bool.not_false,if_true]
  simp;omega
theorem zwu (x:yc) (e:yd) (h:(l11Do x e).2=true):(l11Do x e).1.people≠[]∧(x.people≠[]→((l11Do x e).1.people.getD 0 default).born=(x.people.getD 0 default).born)∧(x.people=[]→((l11Do x e).1.people.getD 0 default).born=e.year):=by
 revert h
 unfold l11Do
 have Q : ∀ {c : Bool} {a b : yc × Bool}, (c = true → a.2 = true → (a.1.people ≠ [] ∧ (x.people ≠ [] → (a.1.people.getD 0 default).born = (x.people.getD 0 default).born) ∧ (x.people = [] → (a.1.people.getD 0 default).born = e.year))) → (c = false → b.2 = true → (b.1.people ≠ [] ∧ (x.people ≠ [] → (b.1.people.getD 0 default).born = (x.people.getD 0 default).born) ∧ (x.people = [] → (b.1.people.getD 0 default).born = e.year))) →
   (bif c then a else b).2=true→((bif c then a else b).1.people≠[]∧(x.people≠[]→((bif c then a else b).1.people.getD 0 default).born=(x.people.getD 0 default).born)∧(x.people=[]→((bif c then a else b).1.people.getD 0 default).born=e.year)):=fun h1 h2=>zbe (p:=fun (r:yc×Bool)=>r.2=true→(r.1.people≠[]∧(x.people≠[]→(r.1.people.getD 0 default).born=(x.people.getD 0 default).born)∧(x.people=[]→(r.1.people.getD 0 default).born=e.year))) h1 h2
 have ne:∀ {c:Bool} {d:Bool},d=false→((!d)&&(c||(!(l1In e.a 0 (((x.people.length:Nat):Int) - 1)))))=false→x.people≠[]∧e.a.toNat<x.people.length:=fun {c d} hd hc=>by
  subst hd
  simp only [Bool.not_false,Bool.true_and,zbd,zbb,l1In,Bool.and_eq_true,decide_eq_true_eq] at hc
  exact ⟨fun h=>by rw [h] at hc;simp at hc;omega,om⟩
 refine Q (fun _ h=>nomatch h) (fun c1=>Q (fun _ _=>?_) (fun c2=>?_))
 ·refine ⟨by simp,fun h=>?_,fun h=>?_⟩
  ·rw [zc5 (by cases hx:x.people<;>simp_all)]
  ·rw [h];rfl
 ·obtain ⟨h0,h1⟩:=ne c2 c1
  have same:∀ u b,(yc.mk x.people u,b).2=true→((yc.mk x.people u).people≠[]∧(x.people≠[]→((yc.mk x.people u).people.getD 0 default).born=(x.people.getD 0 default).born)∧(x.people=[]→((yc.mk x.people u).people.getD 0 default).born=e.year)):=fun u b _=>⟨h0,fun _=>rfl,fun h=>absurd h h0⟩
  refine Q (fun _=>same _ _) (fun c3=>Q (fun c4=>Q (fun _ h=>nomatch h) (fun c5=>same _ _)) (fun c4=>Q (fun c5=>Q (fun _ h=>nomatch h) (fun c6 _=>?_)) (fun _ h=>nomatch h)))
  refine ⟨fun h=>h0 (List.eq_nil_of_length_eq_zero (by have:=congrArg List.length h;simpa using this)),fun _=>?_,fun h=>absurd h h0⟩
  simp only [zco]
  by_cases e0:0=e.a.toNat
  ·rw [if_pos ⟨e0,om⟩,← e0]
  ·rw [if_neg om]
theorem phi_le (x:yc) (h:za9 x=true):phi x.people x.unions≤200:=by
 have:=fam_n h
 have h1:=List.countP_le_length (p:=fun (q:ya)=>!decide (q.died=-1)) (l:=x.people)
 have h2:=List.countP_le_length (p:=fun (q:yb)=>!decide (q.to=-1)) (l:=x.unions)
 unfold phi;omega
theorem z4z (x:List yd) (hn:200<x.length):zbh x=(yc.mk [] [],false):=by
 unfold zbh
 refine zbx (fun i (v:List ya×List yb)=>(i=0→v=([],[]))∧(0<i→v.1≠[]∧((v.1.getD 0 default).born<0∨(0≤(x.getD (i - 1) default).year∧phi v.1 v.2=i)))) (fun r=>r=(yc.mk [] [],false)) ⟨fun _=>rfl,fun h=>absurd h om⟩ (fun i v next hi hv hnx=>?_) (fun v hv=>?_)
 ·obtain ⟨v1,v2⟩:=v
  refine zbe (p:=fun r=>r=(yc.mk [] [],false)) (fun _=>rfl) (fun c1=>zbe (p:=fun r=>r=(yc.mk [] [],false)) (fun _=>rfl) (fun c2=>hnx _ ⟨fun h=>absurd h om,fun _=>?_⟩))
  have c2:(l11Do (yc.mk v1 v2) (x.getD i default)).2=true:=by simpa using c2
  obtain ⟨f1,f2,f3⟩:=zwu _ _ c2
  refine ⟨f1,?_⟩
  rw [show i+1 - 1=i by omega]
  by_cases h0:i=0
  ·have e:=hv.1 h0
   simp only [Prod.mk.injEq] at e
   by_cases hy:0≤(x.getD i default).year
   ·exact .inr ⟨hy,by rw [z3m _ _ hy c2,e.1,e.2,h0];rfl⟩
   ·exact .inl (by rw [f3 e.1];omega)
  ·obtain ⟨g1,g2⟩:=hv.2 om
   rcases g2 with g2 | ⟨g2,g3⟩
   ·exact .inl (by rw [f2 g1];exact g2)
   ·have hy:0≤(x.getD i default).year:=by
     simp only [Bool.and_eq_false_imp,decide_eq_true_eq,decide_eq_false_iff_not] at c1
     have:=c1 om
     rw [show ((i:Nat):Int) - 1=((i - 1:Nat):Int) by omega,Int.toNat_natCast] at this
     omega
    exact .inr ⟨hy,by rw [z3m _ _ hy c2];simp only at g3 ⊢;rw [g3]⟩
 ·obtain ⟨v1,v2⟩:=v
  refine zbe (p:=fun r=>r=(yc.mk [] [],false)) (fun _=>rfl) (fun c=>?_)
  have hf:za9 (yc.mk v1 v2)=true:=by simpa using c
  obtain ⟨g1,g2⟩:=hv.2 om
  have hp:=fam_p hf (k:=0) (by simp only;cases v1<;>simp_all)
  have h5:=phi_le _ hf
  rcases g2 with g2 | ⟨g2,g3⟩
  ·have:=hp.born;simp only at this g2;omega
  ·simp only at h5 g3;omega
theorem znt (x:List yd):zbz x=zbh x:=by
 by_cases hn:200<x.length
 ·rw [z4z x hn];unfold zbz;rw [decide_eq_true om];rfl
 unfold zbz zbh
 rw [decide_eq_false om]
 simp only [cond_false]
 have bad:∀ v:List ya×List yb,40<v.1.length∨60<v.2.length→za9 (yc.mk v.1 v.2)=false:=fun v h=>by
  cases hf:za9 (yc.mk v.1 v.2)
  ·rfl
  ·have:=fam_n hf;simp only at this;omega
 refine zx0 (fun i v=>∀ w∈v.2,0≤w.woman∧w.woman<v.1.length) (fun v=>40<v.1.length∨60<v.2.length) (yc.mk [] [],false) _ (fun i v next hi hd hn=>?_) (fun v hd=>?_) (fun i v n1 n2 hi hr hn hz=>?_) (fun v hr=>?_) _ (fun w hw=>by simp at hw)
 ·cases c:((decide (0<((i:Nat):Int)))&&(decide (((x.getD i default).year)<((x.getD ((((i:Nat):Int) - 1).toNat) default).year))))
  ·simp only [Bool.not_false,cond_true,Bool.false_or]
   refine zbe (p:=fun r=>r=(yc.mk [] [],false)) (fun _=>rfl) (fun c2=>hn _ ?_)
   have h:=ztq (x.getD i default).name.length (yc.mk v.1 v.2) (x.getD i default) (Nat.le_refl _)
   have h1:=h.pl;have h2:=h.ul
   simp only at h1 h2 ⊢;omega
  ·rfl
 ·rw [zdk,bad v hd];rfl
 ·cases c:((decide (0<((i:Nat):Int)))&&(decide (((x.getD i default).year)<((x.getD ((((i:Nat):Int) - 1).toNat) default).year))))
  ·simp only [Bool.not_false,cond_true,Bool.false_or,cond_false]
   rcases z0o (yc.mk v.1 v.2) (x.getD i default) hr with ⟨h1,h2⟩ | ⟨h1,h2⟩
   ·rw [h2,h1]
    simp only [Bool.not_true,cond_false]
    exact hn _ ((l11_ev (x.getD i default).name.length (yc.mk v.1 v.2) (x.getD i default) (Nat.le_refl _) h1).wf hr)
   ·rw [h1]
    simp only [Bool.not_false,cond_true]
    refine zbe (p:=fun r=>r=(yc.mk [] [],false)) (fun _=>rfl) (fun c2=>hz _ ?_)
    have c2:(zeq (yc.mk v.1 v.2) (x.getD i default)).1=true:=by simpa using c2
    rw [c2] at h2
    simpa using h2
  ·rfl
 ·rw [zdk]
def C61 (R:yc):LV×List (Nat×BC):=(.agg [.own 0,.own 1],[(0,.arr 6 R.people.length (rowOf (zbg true) R.people)),(1,.arr 4 R.unions.length (rowOf (zbi true) R.unions))])
def zdn (x0:yc):yc:=x0
def A61 (x0:yc):Ann:=.reg 5 [] [(2004,apN 9 (zbg true) 56 x0.people),(3004,apN 15 (zbi true) 32 x0.unions)] [2] [2,9,15] [] [] [] [0,4] (rt [(0,some 9),(1,some 15)] (C61 x0))
theorem zpz (x0:yc) (hx:x0.people.length≤1048576) (hu:x0.unions.length≤1048576):FnT Tryz.prog 61 [.agg (zcf false x0)] (C61 (zdn x0)):=by
 have aux:∀ R,zdn x0=R→slim (C61 R) (A61 x0) []:=by
  intro R hR
  refine rg ⟨om,om,trivial⟩ ?_
  exact congrArg C61 hR
 exact Fn.go 18 Tryz.func61 (by kernel_rfl) (by kernel_rfl) (by simp [C61,Frs,FrsL,FrsB,rowOf,cInt,cBool,cStr,cSl,zdm,zbg,zbi,zcf,zbt]) (A61 x0) (by kernel_rfl) (aux _ rfl)
def k61 (x0:yc):Cl:=(hres (C61 (zdn x0)),k2 (zpz x0))
structure ye where
 b:List Int
 i:Int
 h:Int
 deriving Inhabited
def zft (fr:Bool) (x:ye):List LV:=cSl fr 1 (cInt .u8) x.b++cInt .i64 x.i++cInt .i64 x.h

structure CurOk (c:ye):Prop where
 byte:∀ y∈c.b,0≤y∧y≤255
 len:c.b.length≤1048576
 pos:0≤c.i∧c.i≤c.b.length
 num:inR .i64 c.h
theorem CurOk.mk' {c:ye} (h:CurOk c) {i x:Int} (hi:0≤i∧i≤c.b.length) (hx:inR .i64 x):CurOk ⟨c.b,i,x⟩:=⟨h.byte,h.len,hi,hx⟩
def C14 (x0:List Int) (R:ye):LV×List (Nat×BC):=(.vp 0 0,[(0,.var [.ro false 1 R.b.length (rowOf (cInt .u8) R.b),.int .i64 R.i,.int .i64 R.h])])
def zms (x0:List Int):ye:=loopW (fun (v1:Int×Int) next=>bif ((decide (v1.2<((x0.length:Nat):Int)))&&(decide (v1.2<4000))) then (next (bits .and .i64 (((v1.1 * 1103)+(x0.getD v1.2.toNat default))+7) 1073741823,v1.2+1)) else (ye.mk x0 0 v1.1)) ((4000 - Int.toNat (0))+1) (3221+((x0.length:Nat):Int),0)
def D14b1 (v1:Int×Int):Dl:=⟨[(3,.int .i64 v1.1),(4,.int .i64 v1.2)],[]⟩
def A14b1 (x0:List Int) (v1:Int×Int):Ann:=let q2:=((x0.length:Nat):Int);let q1:=(v1.1 * 1103)+(x0.getD v1.2.toNat default);.reg 1 [] [] [0,2,3,4,15] [] [decide (v1.2<q2)] [] [] [1,1] (cn ((decide (v1.2<q2))&&(decide (v1.2<4000))) (r1 1 [0,2,3,4] [] [pf (inR .i64 (v1.1 * 1103)),pf (0≤(v1.2:Int)∧(v1.2:Int)<q2),pf (inR .i64 (x0.getD v1.2.toNat default)),pf (inR .i64 q1),pf (inR .i64 (q1+7))] [0,4,8,12,16] (r1 1 [0,2,3,4] [] [pf (inR .i64 (v1.2+1))] [0] (.next 0 [] (D14b1 (bits .and .i64 (q1+7) 1073741823,v1.2+1))))) (r0 1 [2] [31] (rt [(0,some 31)] (C14 x0 (ye.mk x0 0 v1.1)))))
def A14 (x0:List Int):Ann:=let q1:=((x0.length:Nat):Int);r1 2 [0,2,3] [] [pf (inR .i64 (3221+q1))] [0] (r0 1 [0,2,3,4] [] (.loop (Int×Int) (D14b1) [] [] [] (D14b1 (3221+q1,0)) (A14b1 x0)))
theorem zp0 (x0:List Int) (hx:x0.length≤1048576) (hb:∀ y∈x0,0≤y∧y≤255):FnMT Tryz.prog 14 [.ro false 1 x0.length (rowOf (cInt .u8) x0)] [] (C14 x0 (zms x0)):=by
 have aux:∀ R,zms x0=R→slim (C14 x0 R) (A14 x0) []:=by
  intro R hR
  refine rg ⟨by ( intros;simp only [inR];omega),trivial⟩ ?_
  refine rg trivial ?_
  revert hR;refine lW (fun v=>(0≤v.2∧v.2≤x0.length∧v.2≤4000)∧0≤v.1∧v.1≤1073741823) (fun v=>(4000 - Int.toNat (v.2))) zar (Nat.lt_succ_self _) rfl fun m1 v1 F1 hI1 hM1 hR hK1=>?_
  refine rg trivial ?_
  revert hR;refine cd (fun hc1 hR=>?_) fun hc1 hR=>?_
  ·
    refine rg ⟨by ( intros;simp only [inR];omega),by (have h9:=zg9 (((v1.1 * 1103)+(x0.getD v1.2.toNat default))+7) 1073741823 1073741823 rfl om;simp only [Bool.and_eq_true,decide_eq_true_eq] at *;omega),by (have h9:=zle hb v1.2.toNat;(try simp only [inR]);omega),by (have h9:=zle hb v1.2.toNat;(try simp only [inR]);omega),by (have h9:=zle hb v1.2.toNat;(try simp only [inR]);omega),trivial⟩ ?_
    refine rg ⟨by ( intros;simp only [inR];omega),trivial⟩ ?_
    exact hK1 (bits .and .i64 (((v1.1 * 1103)+(x0.getD v1.2.toNat default))+7) 1073741823,v1.2+1) (by (have h9:=zg9 (((v1.1 * 1103)+(x0.getD v1.2.toNat default))+7) 1073741823 1073741823 rfl om;simp only [Bool.and_eq_true,decide_eq_true_eq] at *;omega)) (by (have h9:=zg9 (((v1.1 * 1103)+(x0.getD v1.2.toNat default))+7) 1073741823 1073741823 rfl om;simp only [Bool.and_eq_true,decide_eq_true_eq] at *;omega)) hR
  ·
    refine rg trivial ?_
    exact congrArg (C14 x0) hR
 exact FnM.go 32 Tryz.func14 (by kernel_rfl) (by kernel_rfl) (A14 x0) (by kernel_rfl) (aux _ rfl)
def k14 (d:Nat) (ids:List Nat) (x0:List Int):Cl:=(hresM d ids (C14 x0 (zms x0)),k2 (zp0 x0))
def C59 (x0:ye) (R:Int×Int×Int):LV×List (Nat×BC):=(.int .i64 R.1,[(900000,.var [.ro false 1 x0.b.length (rowOf (cInt .u8) x0.b),.int .i64 R.2.1,.int .i64 R.2.2])])
def zbn (x0:ye):Int×Int×Int:=bif (decide (x0.i<((x0.b.length:Nat):Int))) then (bits .and .i64 ((bits .and .i64 (bits .xor .i64 ((IntKind.wrap .i64 ((IntKind.wrap .i64 (x0.h * 6364136223846793005))+1442695040888963407)) / 2 ^ 33) ((IntKind.wrap .i64 ((IntKind.wrap .i64 (x0.h * 6364136223846793005))+1442695040888963407)) / 2 ^ 45)) 255)+(IntKind.wrap .i64 (x0.b.getD x0.i.toNat default))) 255,x0.i+1,IntKind.wrap .i64 ((IntKind.wrap .i64 (x0.h * 6364136223846793005))+1442695040888963407)) else (bits .and .i64 (bits .xor .i64 ((IntKind.wrap .i64 ((IntKind.wrap .i64 (x0.h * 6364136223846793005))+1442695040888963407)) / 2 ^ 33) ((IntKind.wrap .i64 ((IntKind.wrap .i64 (x0.h * 6364136223846793005))+1442695040888963407)) / 2 ^ 45)) 255,x0.i,IntKind.wrap .i64 ((IntKind.wrap .i64 (x0.h * 6364136223846793005))+1442695040888963407))
def A59 (x0:ye):Ann:=let q4:=((x0.b.length:Nat):Int);let q1:=(IntKind.wrap .i64 (x0.h * 6364136223846793005))+1442695040888963407;let q2:=bits .xor .i64 ((IntKind.wrap .i64 q1) / 2 ^ 33) ((IntKind.wrap .i64 q1) / 2 ^ 45);let q3:=(bits .and .i64 q2 255)+(IntKind.wrap .i64 (x0.b.getD x0.i.toNat default));.reg 3 [(1005,.wrap),(1006,.wrap)] [] [0,2,3] [900000] [] [pf (0≤(33:Int)∧33≤(IntKind.bits .i64:Int)),pf (0≤(45:Int)∧45≤(IntKind.bits .i64:Int))] [] [0,4] (r0 1 [0,2,3,34] [900000] (cn (decide (x0.i<q4)) (.reg 1 [(11,.wrap)] [] [0,2,3] [900000] [] [pf (0≤(x0.i:Int)∧(x0.i:Int)<q4),pf (inR .i64 q3)] [] [0,4] (r1 1 [2,3] [900000] [pf (inR .i64 (x0.i+1))] [0] (r0 1 [2] [900000] (rt [(900000,some 900000)] (C59 x0 (bits .and .i64 q3 255,x0.i+1,IntKind.wrap .i64 q1)))))) (r0 1 [2] [900000] (rt [(900000,some 900000)] (C59 x0 (bits .and .i64 q2 255,x0.i,IntKind.wrap .i64 q1))))))
theorem zor (x0:ye) (hc:CurOk x0):FnMT Tryz.prog 59 [.vp 900000 0] [.var [.ro false 1 x0.b.length (rowOf (cInt .u8) x0.b),.int .i64 x0.i,.int .i64 x0.h]] (C59 x0 (zbn x0)):=by
 have aux:∀ R,zbn x0=R→slim (C59 x0 R) (A59 x0) []:=by
  intro R hR
  refine rg ⟨by trivial,by trivial,trivial⟩ ?_
  refine rg trivial ?_
  revert hR;refine cd (fun hc1 hR=>?_) fun hc1 hR=>?_
  ·
    refine rg ⟨by (have h9:=hc.pos;have h8:=hc.len;(try simp only [inR,decide_eq_true_eq] at *);omega),by (have h9:=zg9 (bits .xor .i64 ((IntKind.wrap .i64 ((IntKind.wrap .i64 (x0.h * 6364136223846793005))+1442695040888963407)) / 2 ^ 33) ((IntKind.wrap .i64 ((IntKind.wrap .i64 (x0.h * 6364136223846793005))+1442695040888963407)) / 2 ^ 45)) 255 255 rfl om;have h8:=zle hc.byte x0.i.toNat;have h7:=zp9 (n:=x0.b.getD x0.i.toNat default) om;simp only [inR];omega),trivial⟩ ?_
    refine rg ⟨by (have h9:=hc.pos;have h8:=hc.len;(try simp only [inR,decide_eq_true_eq] at *);omega),trivial⟩ ?_
    refine rg trivial ?_
    exact congrArg (C59 x0) hR
  ·
    refine rg trivial ?_
    exact congrArg (C59 x0) hR
 exact FnM.go 58 Tryz.func59 (by kernel_rfl) (by kernel_rfl) (A59 x0) (by kernel_rfl) (aux _ rfl)
def k59 (d:Nat) (ids:List Nat) (x0:ye):Cl:=(hresM d ids (C59 x0 (zbn x0)),k1 (zor x0))
theorem z0u (x:Int):0≤bits .and .i64 x 255∧bits .and .i64 x 255≤255:=zg9 x 255 255 rfl om
theorem zqv {c:ye} (h:CurOk c):(0≤(zbn c).1∧(zbn c).1≤255)∧CurOk ⟨c.b,(zbn c).2.1,(zbn c).2.2⟩:=by
 unfold zbn
 refine zbe (p:=fun (r:Int×Int×Int)=>(0≤r.1∧r.1≤255)∧CurOk ⟨c.b,r.2.1,r.2.2⟩) (fun c1=>⟨z0u _,h.mk' ?_ (zvr _)⟩) (fun _=>⟨z0u _,h.mk' h.pos (zvr _)⟩)
 have:=h.pos;have:=of_decide_eq_true c1
 simp only;omega
end Go.Proofs.YtlinnkjieghmhaaGreatDoor
