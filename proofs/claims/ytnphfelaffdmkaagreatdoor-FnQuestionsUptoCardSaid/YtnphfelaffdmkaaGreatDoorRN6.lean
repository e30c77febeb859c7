import Derived.Test.YtnphfelaffdmkaaGreatDoorM230
set_option maxHeartbeats 4000000
set_option linter.unusedSimpArgs false
set_option linter.unusedVariables false
namespace Go.Proofs.YtnphfelaffdmkaaGreatDoor
open Go Go.Lite Go.Proofs
open _root_.Bool renaming eq_iff_iff→we, and_eq_false_iff→Yb, not_true→Yg, not_false→Yi, or_eq_false_iff→yz, not_eq_false'→yQ
open _root_.Int renaming eq_ofNat_of_zero_le→Yn, toNat_natCast→yZ
open _root_.Nat renaming zero_le→yS, le_trans→yM
open _root_.List renaming length_drop→yL, length_take→yK, mem_of_mem_drop→Yo, mem_of_mem_take→Yp
open _root_.And renaming intro→YU
open _root_.Inhabited renaming default→wl
theorem ziv(n lo hi:Int):(!(l1In n lo hi))=(decide (n<lo)||decide (hi<n)):=by unfold l1In;rw[we];simp only[od,Yb,oa,oi,ob];omega
theorem zpb(s : ya)(x : Int) : zb7 s x = zd9 s x := by
 unfold zb7 zd9;rw[ziv,ziv,Bool.or_assoc (decide (s.kind<1)||decide (8<s.kind))];cases(decide (s.kind<1)||decide (8<s.kind))||(decide (s.age<0)||decide (2<s.age)) with
 |true =>rfl
 |false =>
  cases(!decide (s.age=0))&&(!decide (s.kind=3))&&(!decide (s.kind=4)) with
  |true =>rfl
  |false =>cases decide (s.kind=7)<;>cases decide (x=1)<;>cases decide (s.kind=8)<;>cases decide (x=2)<;>rfl
theorem zmk(t : yb) : zak t = zad t := by
 unfold zak zad;rw[ziv];have e : (fun i1 (v1 : Int) (next : Int → Bool) => bif(!(zb7 (t.steps.getD i1 wl) v1)) then false else(next (zcg ((t.steps.getD i1 wl).kind)))) = fun i1 (v1 : Int) next => bif(!(zd9 (t.steps.getD i1 wl) v1)) then false else(next (l3Sex ((t.steps.getD i1 wl).kind))) := by
  funext i v next
  rw[zpb];rfl
 rw[e]
theorem zq2(t:yb):sexOf t=zeu t:=rfl
theorem zm9(t : yb) : egoOf t = l3Ego t := by
 unfold egoOf l3Ego;by_cases h:t.ego=0
 ·rw [oK h, h];cases hl : decide (((t.steps.length : Nat) : Int) = 0) with
  |true =>rw[oH (show ¬0<((t.steps.length:Nat):Int) by have:=ol hl;omega)];rfl
  |false =>rw[oK (show 0<((t.steps.length:Nat):Int) by have:=oz hl;omega)];rfl
 rw[oH h];rfl
theorem zkr{a b : List ya}(hl : a.length = b.length){i : Nat}(hi : i ≤ a.length)(h : ∀k : Nat, k < i → (a.getD k wl).kind = (b.getD k wl).kind ∧ (a.getD k wl).age = (b.getD k wl).age) : zbr a b = if i < a.length then(bif(!decide ((a.getD i wl).kind = (b.getD i wl).kind)) then decide ((a.getD i wl).kind < (b.getD i wl).kind) else bif(!decide ((a.getD i wl).age = (b.getD i wl).age)) then decide ((a.getD i wl).age < (b.getD i wl).age) else zbr a b) else false := by
 have e:zbr a b=loopN (fun i1 (v1:Unit) next=>bif(!decide (((a.getD i1 wl).kind)=((b.getD i1 wl).kind))) then(decide (((a.getD i1 wl).kind)<((b.getD i1 wl).kind))) else(bif(!decide (((a.getD i1 wl).age)=((b.getD i1 wl).age))) then(decide (((a.getD i1 wl).age)<((b.getD i1 wl).age))) else(next ()))) (fun (v1:Unit)=>false) (a.length - i) i ():=by unfold zbr;rw[oK (show((a.length:Nat):Int)=((b.length:Nat):Int) by omega)];simp only[Yg,oB];exact ztk i hi fun x next hx=>by obtain⟨h1,h2⟩:=h x hx;rw[h1,h2];simp
 by_cases c:i<a.length
 ·rw [if_pos c];cases hk : decide ((a.getD i wl).kind = (b.getD i wl).kind) with
  |false =>rw[e,show a.length - i=(a.length - i - 1)+1 by omega,loopN];rw[hk];rfl
  |true =>
   cases hg:decide ((a.getD i wl).age=(b.getD i wl).age) with
   |false =>rw[e,show a.length - i=(a.length - i - 1)+1 by omega,loopN];rw[hk,hg];rfl
   |true =>rfl
 rw[if_neg c,e,show a.length - i=0 by omega];rfl
theorem zv9(x y : Int)(h : ¬x = y) : decide (0 ≤ zbc x y) = !decide (x < y) := by
 unfold zbc;by_cases c:x<y
 ·rw [oK c]; rfl
 rw[oH c,oK (show y<x by omega)];rfl
theorem ztr{a b : List ya}(hl : a.length = b.length) : decide (0 ≤ zcb a b) = !(zbr a b) := by
 unfold zcb;refine zdi (fun (i:Int)=>(0≤i∧i≤a.length)∧∀k:Nat,k<i.toNat→(a.getD k wl).kind=(b.getD k wl).kind∧(a.getD k wl).age=(b.getD k wl).age) (fun i=>((a.length:Int) - i).toNat) (fun (r:Int)=>decide (0≤r)=!(zbr a b)) (fun i next hi hn=>?_) _ _ (oF _) ⟨vbX,fun k hk=>vbX⟩;obtain⟨hb,hp⟩:=hi;obtain⟨j,rfl⟩:=Yn hb.1;have hj:j≤a.length:=vbX
 have hbf:=zkr hl hj hp;by_cases c:j<a.length
 ·rw [if_pos c] at hbf;rw [oK (show (j : Int) < ((a.length : Nat) : Int) by omega), oK (show (j : Int) < ((b.length : Nat) : Int) by omega)];simp only [Bool.and_true, oC, yZ];cases hk : decide ((a.getD j wl).kind = (b.getD j wl).kind) with
  | false =>rw[hk] at hbf;simp only[Yi,oC] at hbf ⊢;rw[hbf];exact zv9 _ _ (oz hk)
  |true =>
   rw[hk] at hbf;simp only[Yg,oB] at hbf ⊢;cases hg:decide ((a.getD j wl).age=(b.getD j wl).age) with
   | false =>rw[hg] at hbf;simp only[Yi,oC] at hbf ⊢;rw[hbf];exact zv9 _ _ (oz hg)
   |true =>
    simp only[Yg,oB];refine hn _ ⟨vbX,fun k hk2=>?_⟩ vbX;by_cases e:k=j
    ·subst e; exact ⟨ol hk, ol hg⟩
    exact hp k vbX
 rw[if_neg c] at hbf;rw[oH (show ¬(j:Int)<((a.length:Nat):Int) by omega),hbf];simp only[Bool.false_and,oB,hl];unfold zbc;rw[oH (Int.lt_irrefl _)];rfl
theorem zh3(r : ye) : zbh r = zaz r := by
 unfold zbh zaz;rw[zoj, ziv r.sex, ziv r.place, ziv ((r.from0.length : Nat) : Int)];have e2 : ((decide (((r.from0.length : Nat) : Int) < ((r.to.length : Nat) : Int))) || ((decide (((r.to.length : Nat) : Int) = ((r.from0.length : Nat) : Int))) && (decide (0 ≤ (zcb r.to r.from0))))) = !(zbr r.to r.from0) := by
  by_cases c:r.to.length=r.from0.length
  ·rw [ztr c, oH (show ¬ ((r.from0.length : Nat) : Int) < ((r.to.length : Nat) : Int) by omega), oK (show ((r.to.length : Nat) : Int) = ((r.from0.length : Nat) : Int) by omega)]; rfl
  rw[oH (show ¬((r.to.length:Nat):Int)=((r.from0.length:Nat):Int) by omega)];unfold zbr;rw[oH (show ¬((r.to.length:Nat):Int)=((r.from0.length:Nat):Int) by omega)];simp only[Bool.false_and,Bool.or_false,Yi,oC];by_cases d:r.from0.length<r.to.length
  ·rw [oK (show ((r.from0.length : Nat) : Int) < ((r.to.length : Nat) : Int) by omega), oH (show ¬ ((r.to.length : Nat) : Int) < ((r.from0.length : Nat) : Int) by omega)]; rfl
  rw[oH (show ¬((r.from0.length:Nat):Int)<((r.to.length:Nat):Int) by omega),oK (show((r.to.length:Nat):Int)<((r.from0.length:Nat):Int) by omega)];rfl
 have e3 : (fun (v1 : Bool × Int) (next : Bool × Int → Bool) => bif(decide (v1.2 ≤ 2)) then(bif(((!decide (r.sex = 0)) && (!decide (r.sex = v1.2))) || (!(zak (yb.mk v1.2 r.from0)))) then(next (v1.1, v1.2 + 1)) else(bif((!(zak (yb.mk v1.2 r.to))) || (!decide ((sexOf (yb.mk v1.2 r.from0)) = (sexOf (yb.mk v1.2 r.to))))) then false else(next (true, v1.2 + 1)))) else v1.1) = fun (v1 : Bool × Int) next => bif(decide (v1.2 ≤ 2)) then(bif(((!decide (r.sex = 0)) && (!decide (r.sex = v1.2))) || (!(zad (yb.mk v1.2 r.from0)))) then(next (v1.1, v1.2 + 1)) else(bif((!(zad (yb.mk v1.2 r.to))) || (!decide ((zeu (yb.mk v1.2 r.to)) = (zeu (yb.mk v1.2 r.from0))))) then false else(next (true, v1.2 + 1)))) else v1.1 := by
  funext v next
  rw[zmk,zmk,zq2,zq2,show decide (zeu (yb.mk v.2 r.from0)=zeu (yb.mk v.2 r.to))=decide (zeu (yb.mk v.2 r.to)=zeu (yb.mk v.2 r.from0)) from decide_eq_decide.2 ⟨Eq.symm,Eq.symm⟩]
 rw[e2,e3];generalize loopW (α:=Bool) _ _ _=L;have c4:decide (((r.from0.length:Nat):Int)<1)=decide (((r.from0.length:Nat):Int)<1):=rfl;cases zan r.name<;>cases decide (r.sex<0)<;>cases decide (2<r.sex)<;>cases decide (r.place<0)<;>cases decide (2<r.place)<;>cases decide (((r.from0.length:Nat):Int)<1)<;>cases decide (4<((r.from0.length:Nat):Int))<;>rfl
def zef(x:List ye):Prop:=∀i:Nat,i<x.length→zaz (x.getD i wl)=true∧∀j:Nat,j<i→(x.getD j wl).name≠(x.getD i wl).name
theorem zgq(x : List ye) : zb6 x = true ↔ x.length ≤ 12 ∧ zef x := by
 unfold zb6;rw[zax, oa];have key : loopN (fun i1 (v1 : Unit) nx1 => loopN (fun i2 (v2 : Unit) next => bif(((x.getD i2 wl).name) == ((x.getD i1 wl).name)) then false else(next ())) (fun (v2 : Unit) => bif(!(zaz (x.getD i1 wl))) then false else(nx1 ())) i1 0 ()) (fun (v1 : Unit) => true) x.length 0 () = true ↔ zef x := by
  refine zcd (fun i (_:Unit)=>∀k:Nat,k<i→zaz (x.getD k wl)=true∧∀j:Nat,j<k→(x.getD j wl).name≠(x.getD k wl).name) (fun (r:Bool)=>r=true↔zef x) (fun k hk=>absurd hk (oO _)) (fun i v next hi hv hn=>?_) (fun v hv=>⟨fun _=>hv,fun _=>rfl⟩);refine zcd (fun j (_:Unit)=>∀k:Nat,k<j→(x.getD k wl).name≠(x.getD i wl).name) (fun (r:Bool)=>r=true↔zef x) (fun k hk=>absurd hk (oO _)) (fun j v next2 hj hv2 hn2=>?_) (fun v hv2=>?_)
  ·refine zai (p := fun (r : Bool) => r = true ↔ zef x) (fun c => ?_) (fun c => hn2 _ fun k hk => ?_)
   ·exact ⟨fun h => vbU, fun h => absurd (eq_of_beq c) ((h i hi).2 j hj)⟩
   by_cases e:k=j
   ·subst e; exact fun h => by rw [h] at c; simp at c
   exact hv2 k vbX
  refine zai (p:=fun (r:Bool)=>r=true↔zef x) (fun c=>?_) (fun c=>hn _ fun k hk=>?_)
  ·exact ⟨fun h => vbU, fun h => by rw [(h i hi).1] at c; cases c⟩
  by_cases e:k=i
  ·subst e; exact ⟨by simpa using c, hv2⟩
  exact hv k vbX
 rw[key];exact⟨fun h=>⟨vbX,h.2⟩,fun h=>⟨vbX,h.2⟩⟩
theorem z1p{α:Type}(f:KV→Option α)(k k':KV)(x:α):mset f k x k'=if k'=k then some x else f k':=rfl
theorem zps(x : List ye) : zg0 x = true ↔ x.length ≤ 12 ∧ zef x := by
 unfold zg0;rw[zax, oa];have key : loopN (fun i1 (v1 : (KV → Option Bool)) next => bif((!(zbh (x.getD i1 wl))) || ((v1 (KV.s ((x.getD i1 wl).name))).getD false)) then false else(next (mset v1 (KV.s ((x.getD i1 wl).name)) true))) (fun (v1 : (KV → Option Bool)) => true) x.length 0 (fun _ => none) = true ↔ zef x := by
  refine zcd (fun i (v:KV→Option Bool)=>(∀s,(v (KV.s s)).getD false=true↔∃j:Nat,j<i∧(x.getD j wl).name=s)∧∀k:Nat,k<i→zaz (x.getD k wl)=true∧∀j:Nat,j<k→(x.getD j wl).name≠(x.getD k wl).name) (fun (r:Bool)=>r=true↔zef x) ⟨fun s=>⟨fun h=>vbU,fun ⟨j,hj,_⟩=>absurd hj (oO _)⟩,fun k hk=>absurd hk (oO _)⟩ (fun i v next hi hv hn=>?_) (fun v hv=>⟨fun _=>hv.2,fun _=>rfl⟩);obtain⟨hv1,hv2⟩:=hv;refine zai (p:=fun (r:Bool)=>r=true↔zef x) (fun c=>?_) (fun c=>hn _ ⟨fun s=>?_,fun k hk=>?_⟩)
  ·refine ⟨fun h => vbU, fun h => ?_⟩;rw [oi] at c;rcases c with c | c
   ·rw [zh3, (h i hi).1] at c; cases c
   obtain⟨j,hj,e⟩:=(hv1 _).1 c;exact absurd e ((h i hi).2 j hj)
  ·rw [z1p];by_cases e : s = (x.getD i wl).name
   ·subst e;rw [if_pos rfl];exact ⟨fun _ => ⟨i, vbX, rfl⟩, fun _ => rfl⟩
   rw[if_neg (fun h=>e (by injection h)),hv1];constructor
   ·rintro ⟨j, hj, h⟩; exact ⟨j, vbX, h⟩
   rintro⟨j,hj,h⟩;by_cases q:j=i
   ·subst q; exact absurd h.symm e
   exact⟨j,vbX,h⟩
  rw[zaw] at c;by_cases e:k=i
  ·subst e;refine ⟨by rw [← zh3]; simpa using c.1, fun j hj h => ?_⟩;have := (hv1 (x.getD k wl).name).2 ⟨j, hj, h⟩;rw [c.2] at this; cases this
  exact hv2 k vbX
 rw[key];exact⟨fun h=>⟨vbX,h.2⟩,fun h=>⟨vbX,h.2⟩⟩
theorem zwa(x:List ye):zg0 x=zb6 x:=by rw[we,zps,zgq]
def zkt(r:ye):Prop:=1≤r.from0.length∧(r.to.length<r.from0.length∨(r.to.length=r.from0.length∧stN r.to 0<stN r.from0 0))
theorem zvf{s:ya}{x:Int}(h:zd9 s x=true):(1≤s.kind∧s.kind≤8)∧0≤s.age∧s.age≤2:=by unfold zd9 at h;rw[zax,zaw,za4,za4] at h;unfold l1In at h;simp only[oc,ob] at h;omega
theorem zh1{t : yb}(h : zad t = true) : ∀k : Nat, k < t.steps.length → (1 ≤ (t.steps.getD k wl).kind ∧ (t.steps.getD k wl).kind ≤ 8) ∧ 0 ≤ (t.steps.getD k wl).age ∧ (t.steps.getD k wl).age ≤ 2 := by
 unfold zad at h;rw[zax] at h;obtain⟨_,h⟩:=h;revert h;refine zcd (fun i (_:Int)=>∀k:Nat,k<i→(1≤(t.steps.getD k wl).kind∧(t.steps.getD k wl).kind≤8)∧0≤(t.steps.getD k wl).age∧(t.steps.getD k wl).age≤2) (fun (r:Bool)=>r=true→∀k:Nat,k<t.steps.length→(1≤(t.steps.getD k wl).kind∧(t.steps.getD k wl).kind≤8)∧0≤(t.steps.getD k wl).age∧(t.steps.getD k wl).age≤2) (fun k hk=>absurd hk (oO _)) (fun i v next hi hv hn=>?_) (fun v hv _=>hv);refine zai (p:=fun (r:Bool)=>r=true→∀k:Nat,k<t.steps.length→(1≤(t.steps.getD k wl).kind∧(t.steps.getD k wl).kind≤8)∧0≤(t.steps.getD k wl).age∧(t.steps.getD k wl).age≤2) (fun c h=>vbU) (fun c=>hn _ fun k hk=>?_);by_cases e:k=i
 ·subst e; exact zvf (by simpa using c)
 exact hv k vbX
theorem ztw{a b : List ya}(ha : ∀k : Nat, k < a.length → (1 ≤ (a.getD k wl).kind ∧ (a.getD k wl).kind ≤ 8) ∧ 0 ≤ (a.getD k wl).age ∧ (a.getD k wl).age ≤ 2)(hb : ∀k : Nat, k < b.length → (1 ≤ (b.getD k wl).kind ∧ (b.getD k wl).kind ≤ 8) ∧ 0 ≤ (b.getD k wl).age ∧ (b.getD k wl).age ≤ 2)(hl : a.length = b.length)(h : zbr a b = true) : stN a 0 < stN b 0 := by
 have go : ∀(m i : Nat), a.length - i = m → i ≤ a.length → (∀k : Nat, k < i → (a.getD k wl).kind = (b.getD k wl).kind ∧ (a.getD k wl).age = (b.getD k wl).age) → stN a 0 < stN b 0 := by
  intro m;induction m with
  |zero =>intro i hm hi hp;have:=zkr hl hi hp;rw[if_neg vbX,h] at this;cases this
  |succ m ih =>
   intro i hm hi hp;have hbf:=zkr hl hi hp;rw[if_pos vbX,h] at hbf;have q1:=ha i vbX;have q2:=hb i vbX;have hpre:∀k:Nat,k<i→stD (a.getD k wl)=stD (b.getD k wl):=fun k hk=>(by unfold stD;rw[(hp k hk).1,(hp k hk).2]);by_cases hk:(a.getD i wl).kind=(b.getD i wl).kind
   ·rw [oK hk] at hbf;by_cases hg : (a.getD i wl).age = (b.getD i wl).age
    ·refine ih (i + 1) vbX vbX fun k hk2 => ?_;by_cases e : k = i
     ·subst e; exact ⟨hk, hg⟩
     exact hp k vbX
    rw[oH hg] at hbf;have:=ol hbf.symm;exact zjk i hl vbX hpre (by unfold stD;omega)
   rw[oH hk] at hbf;have:=ol hbf.symm;exact zjk i hl vbX hpre (by unfold stD;omega)
 exact go a.length 0 vbX (yS _) fun k hk=>absurd hk (oO _)
theorem z1a{r : ye}(h : zaz r = true) : zkt r := by
 unfold zaz at h;rw[zax,zax,zaw (a:=!(l1In ((r.from0.length:Nat):Int) 1 4))] at h;obtain⟨_,⟨h1,h2⟩,h3⟩:=h;rw[ziv,zaw,oa,oa] at h1;have h2:zbr r.to r.from0=true:=vbI
 have h4 : ∃s : Int, zad (yb.mk s r.from0) = true ∧ zad (yb.mk s r.to) = true := by
  revert h3;refine zdi (fun (v:Bool×Int)=>1≤v.2∧(v.1=true→∃s:Int,zad (yb.mk s r.from0)=true∧zad (yb.mk s r.to)=true)) (fun v=>(3 - v.2).toNat) (fun (b:Bool)=>b=true→∃s:Int,zad (yb.mk s r.from0)=true∧zad (yb.mk s r.to)=true) (fun v next hv hn=>?_) _ _ (oF _) ⟨vbC,fun h=>vbU⟩;refine zai (p:=fun (b:Bool)=>b=true→∃s:Int,zad (yb.mk s r.from0)=true∧zad (yb.mk s r.to)=true) (fun c=>?_) (fun _=>hv.2);have c:=ol c;refine zai (p:=fun (b:Bool)=>b=true→∃s:Int,zad (yb.mk s r.from0)=true∧zad (yb.mk s r.to)=true) (fun _=>hn _ ⟨vbC,hv.2⟩ vbC) (fun c2=>?_);refine zai (p:=fun (b:Bool)=>b=true→∃s:Int,zad (yb.mk s r.from0)=true∧zad (yb.mk s r.to)=true) (fun _ h=>vbU) (fun c3=>hn _ ⟨vbC,fun _=>⟨v.2,?_,?_⟩⟩ vbC)
  ·rw [zaw] at c2; simpa using c2.2
  rw[zaw] at c3;simpa using c3.1
 obtain⟨s,h5,h6⟩:=h4;refine⟨vbX,?_⟩;by_cases c:r.to.length=r.from0.length
 ·exact .inr ⟨c, ztw (zh1 h6) (zh1 h5) c h2⟩
 unfold zbr at h2;rw[oH (show ¬((r.to.length:Nat):Int)=((r.from0.length:Nat):Int) by omega)] at h2;have:=ol h2;exact .inl vbX
theorem zfz{x : List ye}(h : zb6 x = true) : ∀r ∈ x, zkt r := fun r hr => by
  obtain⟨k,hk,e⟩:=zbf (d:=wl) hr
  have:=(((zgq x).1 h).2 k hk).1
  rw[e] at this
  exact z1a this
theorem zrx(r : ye)(t : yb)(i : Int) : ziw r t i = true ↔ (0 ≤ i ∧ i + (r.from0.length : Int) ≤ (t.steps.length : Int)) ∧ (∀j : Nat, j < r.from0.length → (t.steps.getD (i + ((j : Nat) : Int)).toNat wl).kind = (r.from0.getD j wl).kind ∧ ((r.from0.getD j wl).age = 0 ∨ (r.from0.getD j wl).age = (t.steps.getD (i + ((j : Nat) : Int)).toNat wl).age)) ∧ (r.sex = 0 ∨ r.sex = zb3 t i) ∧ (r.place ≠ 1 ∨ i = 0) ∧ (r.place ≠ 2 ∨ i + (r.from0.length : Int) = (t.steps.length : Int)) := by
 unfold ziw;rw[zax,zfm,zax];simp only[yz,Yb,oa,yQ,ob,oc,oi,od,ne_eq];constructor
 ·rintro ⟨h1, h2, h3, h4⟩;exact ⟨vbX, fun j hj => h2 j hj, h3, h4⟩
 rintro⟨h1,h2,h3,h4⟩;exact⟨vbX,fun j hj=>h2 j hj,h3,h4⟩
theorem zih(r : ye)(t : yb)(i : Int) : zhp r t i = true ↔ (0 ≤ i ∧ i + (r.from0.length : Int) ≤ (t.steps.length : Int)) ∧ (∀j : Nat, j < r.from0.length → (t.steps.getD (i + ((j : Nat) : Int)).toNat wl).kind = (r.from0.getD j wl).kind ∧ ((r.from0.getD j wl).age = 0 ∨ (r.from0.getD j wl).age = (t.steps.getD (i + ((j : Nat) : Int)).toNat wl).age)) ∧ (r.sex = 0 ∨ r.sex = zb3 t i) ∧ (r.place ≠ 1 ∨ i = 0) ∧ (r.place ≠ 2 ∨ i + (r.from0.length : Int) = (t.steps.length : Int)) := by
 unfold zhp;by_cases c:0<i
 ·have e : zb3 t i = l3Sex ((t.steps.getD ((i - 1).toNat) wl).kind) := by unfold zb3; rw [oH vbX]; rfl
  rw[oK c,oC,e,zax,zax,zax,zfm];simp only[yz,Yb,oa,yQ,ob,ne_eq,and_true];constructor
  ·rintro ⟨h1, h2, h3, h4⟩;exact ⟨vbX, fun j hj => ⟨(h4 j hj).1.symm, (h4 j hj).2⟩, h3, h2.1, h2.2⟩
  rintro⟨h1,h2,h3,h4⟩;exact⟨vbX,h4,h3,fun j hj=>⟨(h2 j hj).1.symm,(h2 j hj).2⟩⟩
 rw[oH c,oB,zax,zax,zax,zfm];simp only[yz,Yb,oa,yQ,ob,ne_eq,and_true];constructor
 ·rintro ⟨h1, h2, h3, h4⟩;have e : zb3 t i = l3Ego t := by unfold zb3; rw [oK vbX, zm9]; rfl
  rw[e];exact⟨vbX,fun j hj=>⟨(h4 j hj).1.symm,(h4 j hj).2⟩,h3,h2.1,h2.2⟩
 rintro⟨h1,h2,h3,h4⟩;have e:zb3 t i=l3Ego t:=by unfold zb3;rw[oK vbX,zm9];rfl
 rw[e] at h3;exact⟨vbX,h4,h3,fun j hj=>⟨(h2 j hj).1.symm,(h2 j hj).2⟩⟩
theorem z11(r:ye)(t:yb)(i:Int):ziw r t i=zhp r t i:=by rw[we,zrx,zih]
theorem zs7(r:ye)(t:yb)(i:Int):zc3 r t i=zck r t i:=by unfold zc3 zck;rw[zm9]
theorem zvx{r : ye}(hr : zkt r){t : yb}{i : Int}(h : zhp r t i = true) : rank (zck r t i).steps < rank t.steps ∧ (zck r t i).steps.length ≤ t.steps.length := by
 obtain⟨h1,h2,_⟩:=(zih r t i).1 h;obtain⟨n,rfl⟩:=Yn h1.1;have hn:n+r.from0.length≤t.steps.length:=vbX
 have e1:(((n:Nat):Int)+((r.from0.length:Nat):Int)).toNat=n+r.from0.length:=vbX
 have es:t.steps=t.steps.take n++(t.steps.drop n).take r.from0.length++t.steps.drop (n+r.from0.length):=by rw[←List.drop_drop,List.append_assoc,List.take_append_drop,List.take_append_drop]
 have ed:(t.steps.drop (n+r.from0.length)).take (t.steps.length - (n+r.from0.length))=t.steps.drop (n+r.from0.length):=List.take_of_length_le (by rw[yL];omega);unfold zck;dsimp only;rw[e1,yZ,List.drop_zero,Nat.sub_zero,ed];have hm:((t.steps.drop n).take r.from0.length).length=r.from0.length:=by rw[yK,yL];omega
 obtain⟨hr1,hr2⟩:=hr;constructor
 ·rcases hr2 with q | ⟨q1, q2⟩
  ·refine zza ?_;rw [og, og, yK, yL]; omega
  refine Nat.lt_of_lt_of_eq (zy9 (t.steps.take n) (t.steps.drop (n+r.from0.length)) (a:=r.to) (b:=(t.steps.drop n).take r.from0.length) vbX (Nat.lt_of_lt_of_le q2 (z0b hm.symm fun k hk=>?_))) (by rw[←es]);have h3:=h2 k hk;rw[show(((n:Nat):Int)+((k:Nat):Int)).toNat=n+k by omega] at h3;have e2:((t.steps.drop n).take r.from0.length).getD k wl=t.steps.getD (n+k) wl:=by rw[oh,List.getElem?_take,if_pos hk,List.getElem?_drop,←oh]
  rw[e2];unfold stD;rw[h3.1];rcases h3.2 with z | z
  ·rw [z]; simp
  rw[z];exact ou _
 rw[og,og,yK,yL];rcases hr2 with q | ⟨q,_⟩<;>omega
def C151(R:yb×Int×Int×Bool):LV×List (Nat×BC):=(.tup [.agg [.int .i64 R.1.ego,.own 0],.int .i64 R.2.1,.int .i64 R.2.2.1,.bool R.2.2.2],[(0,.arr 2 R.1.steps.length (rowOf (cStep true) R.1.steps))])
def zbb(x0:List ye)(x1:yb):yb×Int×Int×Bool:=loopN (fun i1 (v1:Unit) nx1=>loopN (fun i2 (v2:Unit) next=>bif(ziw (x0.getD i2 wl) x1 ((i1:Nat):Int)) then((zc3 (x0.getD i2 wl) x1 ((i1:Nat):Int)),((i2:Nat):Int),((i1:Nat):Int),true) else(next ())) (fun (v2:Unit)=>nx1 ()) x0.length 0 ()) (fun (v1:Unit)=>((yb.mk 0 ([]:List ya)),0,0,false)) x1.steps.length 0 ()
def zx7(i1:Nat)(v1:Unit):Dl:=⟨[(14,.int .i64 (i1:Int))],[]⟩
def zx6(i2:Nat)(v2:Unit):Dl:=⟨[(19,.int .i64 (i2:Int))],[]⟩
def A151b2(x0:List ye)(x1:yb)(i1:Nat)(i2:Nat)(v2:Unit):Ann:=let q1:=((i1:Nat):Int);let q2:=((i2:Nat):Int);let q3:=x0.getD i2 wl;let q4:=((x0.length:Nat):Int);r0 1 [0,3,4,5,6,7,8,13,14,17,18,19,20] [3,4] (cn (decide (q2<q4)) (.reg 2 [] [(1003,k211 q3 x1 q1)] [0,3,4,5,6,7,8,9,10,13,14,17,18,19,27] [3,4,10] [] [pf (0≤(q2:Int)∧(q2:Int)<q4)] [] [0,4] (cn (ziw q3 x1 q1) (.reg 1 [] [(3,k212 q3 x1 q1)] [0,3,4,5,6,7,8,13,14,17,18,19] [3,4,1031] [] [] [] [0] (rt [(0,some 1031)] (C151 ((zc3 q3 x1 q1),q2,q1,true)))) (r1 1 [0,3,4,5,6,7,8,13,14,17,18,19] [3,4] [pf (inR .i64 (q2+1))] [0] (.next 0 [] (zx6 (i2+1) ()))))) (r1 1 [0,3,4,5,6,7,13,14] [3,4] [pf (inR .i64 (q1+1))] [0] (.next 1 [] (zx7 (i1+1) ()))))
def A151b1(x0:List ye)(x1:yb)(i1:Nat)(v1:Unit):Ann:=r0 1 [0,3,4,5,6,7,13,14,15] [3,4] (cn (decide (((i1:Nat):Int)<((x1.steps.length:Nat):Int))) (r0 2 [0,3,4,5,6,7,8,13,14,17,18,19] [3,4] (lp (zx6) [] [] [] (zx6 0 ()) (A151b2 x0 x1 i1))) (r0 1 [4,5,6,7] [4] (rt [(0,none)] (C151 ((yb.mk 0 ([]:List ya)),0,0,false)))))
def A151(x0:List ye)(x1:yb):Ann:=r0 1 [0,3,4,5,6,7] [3,4] (r0 1 [0,3,4,5,6,7,13,14] [3,4] (lp (zx7) [] [] [] (zx7 0 ()) (A151b1 x0 x1)))
theorem zj3(x0 : List ye)(x1 : yb)(hx : x0.length ≤ 1048576)(hr : ∀r ∈ x0, r.name.length ≤ 1048576 ∧ r.from0.length ≤ 1048576 ∧ r.to.length ≤ 1048576)(ht : x1.steps.length ≤ 1048576) : FnT Tryz.prog 151 [.ro false 5 x0.length (rowOf (cRule false) x0), .agg (zag false x1)] (C151 (zbb x0 x1)) := by
 refine Fn.gp 37 Tryz.func151 (by kernel_rfl) (by kernel_rfl) vaK (A151 x0 x1) (by kernel_rfl) fun R hR=>?_;refine rT ?_;refine rT ?_;refine lN (fun i v=>True) vbV rfl (fun i1 v1 F1 hn1 hI1 hR hK1=>?_) hR;refine rT ?_;refine⟨fun hc1=>?_,fun hc1=>?_⟩
 ·have hii1 : i1 < x1.steps.length := vbr
  replace hR:=zaq hR hii1;refine rT ?_;refine lN (fun i v=>True) vbV rfl (fun i2 v2 F2 hn2 hI2 hR hK2=>?_) hR;refine rT ?_;refine⟨fun hc2=>?_,fun hc2=>?_⟩
  ·have hii2 : i2 < x0.length := vbs;replace hR := zaq hR hii2;refine rg ⟨vbL, ⟨va8, vbV⟩, trivial⟩ ?_;refine cd (fun hc3 hR => ?_) (fun hc3 hR => ?_) hR
   ·refine rg ⟨⟨va8, vbV, by (have h9 := (zrx _ _ _).1 hc3; omega)⟩, trivial⟩ ?_;exact oe C151 hR
   refine rg ⟨vbk,trivial⟩ ?_;exact hK2 () hii2 vbV hR
  obtain rfl:i2=x0.length:=by have:=oz hc2;omega
  replace hR:=zau hR (oP _);refine rg ⟨vbk,trivial⟩ ?_;exact hK1 () hii1 vbV hR
 obtain rfl:i1=x1.steps.length:=by have:=oz hc1;omega
 replace hR:=zau hR (oP _);refine rT ?_;exact oe C151 hR
def k151(x0:List ye)(x1:yb):Cl:=(hres (C151 (zbb x0 x1)),k3 (zj3 x0 x1))
def zdx(x0:List ye)(x1:yb):yb×Int×Int×Bool:=loopN (fun i1 (v1:Unit) nx1=>loopN (fun i2 (v2:Unit) next=>bif(zhp (x0.getD i2 wl) x1 ((i1:Nat):Int)) then((zck (x0.getD i2 wl) x1 ((i1:Nat):Int)),((i2:Nat):Int),((i1:Nat):Int),true) else(next ())) (fun (v2:Unit)=>nx1 ()) x0.length 0 ()) (fun (v1:Unit)=>((yb.mk 0 ([]:List ya)),0,0,false)) x1.steps.length 0 ()
def zyb(i1:Nat)(v1:Unit):Dl:=⟨[(14,.int .i64 (i1:Int))],[]⟩
def zya(i2:Nat)(v2:Unit):Dl:=⟨[(19,.int .i64 (i2:Int))],[]⟩
def A137b2(x0:List ye)(x1:yb)(i1:Nat)(i2:Nat)(v2:Unit):Ann:=let q1:=((i1:Nat):Int);let q2:=((i2:Nat):Int);let q3:=x0.getD i2 wl;let q4:=((x0.length:Nat):Int);r0 1 [0,3,4,5,6,7,8,13,14,17,18,19,20] [3,4] (cn (decide (q2<q4)) (.reg 2 [] [(1003,k202 q3 x1 q1)] [0,3,4,5,6,7,8,9,10,13,14,17,18,19,27] [3,4,10] [] [pf (0≤(q2:Int)∧(q2:Int)<q4)] [] [0,4] (cn (zhp q3 x1 q1) (.reg 1 [] [(3,k203 q3 x1 q1)] [0,3,4,5,6,7,8,13,14,17,18,19] [3,4,1031] [] [] [] [0] (rt [(0,some 1031)] (C151 ((zck q3 x1 q1),q2,q1,true)))) (r1 1 [0,3,4,5,6,7,8,13,14,17,18,19] [3,4] [pf (inR .i64 (q2+1))] [0] (.next 0 [] (zya (i2+1) ()))))) (r1 1 [0,3,4,5,6,7,13,14] [3,4] [pf (inR .i64 (q1+1))] [0] (.next 1 [] (zyb (i1+1) ()))))
def A137b1(x0:List ye)(x1:yb)(i1:Nat)(v1:Unit):Ann:=r0 1 [0,3,4,5,6,7,13,14,15] [3,4] (cn (decide (((i1:Nat):Int)<((x1.steps.length:Nat):Int))) (r0 2 [0,3,4,5,6,7,8,13,14,17,18,19] [3,4] (lp (zya) [] [] [] (zya 0 ()) (A137b2 x0 x1 i1))) (r0 1 [4,5,6,7] [4] (rt [(0,none)] (C151 ((yb.mk 0 ([]:List ya)),0,0,false)))))
def A137(x0:List ye)(x1:yb):Ann:=r0 1 [0,3,4,5,6,7] [3,4] (r0 1 [0,3,4,5,6,7,13,14] [3,4] (lp (zyb) [] [] [] (zyb 0 ()) (A137b1 x0 x1)))
theorem zk2(x0 : List ye)(x1 : yb)(hx : x0.length ≤ 1048576)(hr : ∀r ∈ x0, r.name.length ≤ 1048576 ∧ r.from0.length ≤ 1048576 ∧ r.to.length ≤ 1048576)(ht : x1.steps.length ≤ 1048576) : FnT Tryz.prog 137 [.ro false 5 x0.length (rowOf (cRule false) x0), .agg (zag false x1)] (C151 (zdx x0 x1)) := by
 refine Fn.gp 37 Tryz.func137 (by kernel_rfl) (by kernel_rfl) vaK (A137 x0 x1) (by kernel_rfl) fun R hR=>?_;refine rT ?_;refine rT ?_;refine lN (fun i v=>True) vbV rfl (fun i1 v1 F1 hn1 hI1 hR hK1=>?_) hR;refine rT ?_;refine⟨fun hc1=>?_,fun hc1=>?_⟩
 ·have hii1 : i1 < x1.steps.length := vbr
  replace hR:=zaq hR hii1;refine rT ?_;refine lN (fun i v=>True) vbV rfl (fun i2 v2 F2 hn2 hI2 hR hK2=>?_) hR;refine rT ?_;refine⟨fun hc2=>?_,fun hc2=>?_⟩
  ·have hii2 : i2 < x0.length := vbs;replace hR := zaq hR hii2;refine rg ⟨vbL, ⟨va8, vbV⟩, trivial⟩ ?_;refine cd (fun hc3 hR => ?_) (fun hc3 hR => ?_) hR
   ·refine rg ⟨⟨va8, vbV, by (have h9 := (zih _ _ _).1 hc3; omega)⟩, trivial⟩ ?_;exact oe C151 hR
   refine rg ⟨vbk,trivial⟩ ?_;exact hK2 () hii2 vbV hR
  obtain rfl:i2=x0.length:=by have:=oz hc2;omega
  replace hR:=zau hR (oP _);refine rg ⟨vbk,trivial⟩ ?_;exact hK1 () hii1 vbV hR
 obtain rfl:i1=x1.steps.length:=by have:=oz hc1;omega
 replace hR:=zau hR (oP _);refine rT ?_;exact oe C151 hR
def k137(x0:List ye)(x1:yb):Cl:=(hres (C151 (zdx x0 x1)),k3 (zk2 x0 x1))
theorem zf0(x : List ye)(t : yb) : zbb x t = zdx x t := by
 unfold zbb zdx;have e : (fun i1 (v1 : Unit) (nx1 : Unit → yb × Int × Int × Bool) => loopN (fun i2 (v2 : Unit) next => bif(ziw (x.getD i2 wl) t ((i1 : Nat) : Int)) then((zc3 (x.getD i2 wl) t ((i1 : Nat) : Int)), ((i2 : Nat) : Int), ((i1 : Nat) : Int), true) else(next ())) (fun (v2 : Unit) => nx1 ()) x.length 0 ()) = fun i1 (v1 : Unit) nx1 => loopN (fun i2 (v2 : Unit) next => bif(zhp (x.getD i2 wl) t ((i1 : Nat) : Int)) then((zck (x.getD i2 wl) t ((i1 : Nat) : Int)), ((i2 : Nat) : Int), ((i1 : Nat) : Int), true) else(next ())) (fun (v2 : Unit) => nx1 ()) x.length 0 () := by
  funext i v nx;congr 1;funext j w next
  rw[z11,zs7]
 rw[e]
theorem zkd{x:List ye}(ha:∀r∈x,zkt r){t:yb}(h:(zdx x t).2.2.2=true):rank (zdx x t).1.steps<rank t.steps∧(zdx x t).1.steps.length≤t.steps.length:=by revert h;unfold zdx;refine zcd (fun _ _=>True) (fun (r:yb×Int×Int×Bool)=>r.2.2.2=true→rank r.1.steps<rank t.steps∧r.1.steps.length≤t.steps.length) trivial (fun i v next hi _ hn=>?_) (fun v _ h=>vbU);refine zcd (fun _ _=>True) (fun (r:yb×Int×Int×Bool)=>r.2.2.2=true→rank r.1.steps<rank t.steps∧r.1.steps.length≤t.steps.length) trivial (fun j w next2 hj _ hn2=>?_) (fun w _=>hn _ trivial);refine zai (p:=fun (r:yb×Int×Int×Bool)=>r.2.2.2=true→rank r.1.steps<rank t.steps∧r.1.steps.length≤t.steps.length) (fun c _=>?_) (fun _=>hn2 _ trivial);exact zvx (ha _ (zat hj)) c
def zc5(x0:List ye)(x1:yb):yb:=loopW (fun (v1:Int×(List ya)) next=>bif(!((zbb x0 (yb.mk v1.1 v1.2)).2.2.2)) then(yb.mk v1.1 v1.2) else(next (((zbb x0 (yb.mk v1.1 v1.2)).1).ego,((zbb x0 (yb.mk v1.1 v1.2)).1).steps))) (rank (zec x1).steps+1) ((zec x1).ego,(zec x1).steps)
def D97b1(v1:Int×(List ya)):Dl:=⟨[],[(30501,.arr 2 v1.2.length (rowOf (cStep true) v1.2)),(5,.var [.int .i64 v1.1,.own 30501])]⟩
def A97b1(x0:List ye)(v1:Int×(List ya)):Ann:=let q1:=yb.mk v1.1 v1.2;let q2:=zbb x0 q1;.reg 1 [] [(2,k151 x0 q1)] [0,4,5,6,9] [4,5,6,1015,30501] [] [] [] [0] (r0 1 [0,4,5,6,21] [4,5,6,1015,30501] (cn (!(q2.2.2.2)) (r0 1 [0,4,5,6] [4,5,6,1015,30501] (rt [(0,some 30501)] (C43 q1))) (r0 1 [0,4,5] [4,5,1015] (.next 0 [(30501,some 1015)] (D97b1 ((q2.1).ego,(q2.1).steps))))))
def A97(x0:List ye)(x1:yb):Ann:=.reg 2 [] [(1001,k43 x1)] [0,4,5] [4,5,1011] [] [] [] [0] (.loop (Int×(List ya)) (D97b1) [] [1011] [(30501,some 1011)] (D97b1 ((zec x1).ego,(zec x1).steps)) (A97b1 x0))
theorem zd6(x0 : List ye)(x1 : yb)(hx : x0.length ≤ 1048576)(hr : ∀r ∈ x0, r.name.length ≤ 1048576 ∧ r.from0.length ≤ 1048576 ∧ r.to.length ≤ 1048576)(ht : x1.steps.length ≤ 1048576)(ha : ∀r ∈ x0, zkt r) : FnT Tryz.prog 97 [.ro false 5 x0.length (rowOf (cRule false) x0), .agg (zag false x1)] (C43 (zc5 x0 x1)) := by
 refine Fn.gp 24 Tryz.func97 (by kernel_rfl) (by kernel_rfl) vaM (A97 x0 x1) (by kernel_rfl) fun R hR=>?_;refine rg ⟨vbV,trivial⟩ ?_;refine lW (fun v=>v.2.length≤1048576) (fun v=>rank v.2) vbV (oF _) rfl (fun m1 v1 F1 hI1 hM1 hR hK1=>?_) hR;refine rg ⟨⟨vbV,vbV,vbV⟩,trivial⟩ ?_;refine rT ?_;refine cd (fun hc1 hR=>?_) (fun hc1 hR=>?_) hR
 ·refine rT ?_;exact oe C43 hR
 refine rT ?_;exact hK1 (((zbb x0 (yb.mk v1.1 v1.2)).1).ego,((zbb x0 (yb.mk v1.1 v1.2)).1).steps) vam vam hR
def k97(x0:List ye)(x1:yb):Cl:=(hres (C43 (zc5 x0 x1)),Go.Lite.k4 (zd6 x0 x1))
def zdd(x0:List ye)(x1:yb):yb:=loopW (fun (v1:Int×(List ya)) next=>bif(!((zdx x0 (yb.mk v1.1 v1.2)).2.2.2)) then(yb.mk v1.1 v1.2) else(next (((zdx x0 (yb.mk v1.1 v1.2)).1).ego,((zdx x0 (yb.mk v1.1 v1.2)).1).steps))) (rank (zit x1).steps+1) ((zit x1).ego,(zit x1).steps)
def D75b1(v1:Int×(List ya)):Dl:=⟨[],[(30501,.arr 2 v1.2.length (rowOf (cStep true) v1.2)),(5,.var [.int .i64 v1.1,.own 30501])]⟩
def A75b1(x0:List ye)(v1:Int×(List ya)):Ann:=let q1:=yb.mk v1.1 v1.2;let q2:=zdx x0 q1;.reg 1 [] [(2,k137 x0 q1)] [0,4,5,6,9] [4,5,6,1015,30501] [] [] [] [0] (r0 1 [0,4,5,6,21] [4,5,6,1015,30501] (cn (!(q2.2.2.2)) (r0 1 [0,4,5,6] [4,5,6,1015,30501] (rt [(0,some 30501)] (C43 q1))) (r0 1 [0,4,5] [4,5,1015] (.next 0 [(30501,some 1015)] (D75b1 ((q2.1).ego,(q2.1).steps))))))
def A75(x0:List ye)(x1:yb):Ann:=.reg 2 [] [(1001,k136 x1)] [0,4,5] [4,5,1011] [] [] [] [0] (.loop (Int×(List ya)) (D75b1) [] [1011] [(30501,some 1011)] (D75b1 ((zit x1).ego,(zit x1).steps)) (A75b1 x0))
theorem ze7(x0 : List ye)(x1 : yb)(hx : x0.length ≤ 1048576)(hr : ∀r ∈ x0, r.name.length ≤ 1048576 ∧ r.from0.length ≤ 1048576 ∧ r.to.length ≤ 1048576)(ht : x1.steps.length ≤ 1048576)(ha : ∀r ∈ x0, zkt r) : FnT Tryz.prog 75 [.ro false 5 x0.length (rowOf (cRule false) x0), .agg (zag false x1)] (C43 (zdd x0 x1)) := by
 refine Fn.gp 24 Tryz.func75 (by kernel_rfl) (by kernel_rfl) vaM (A75 x0 x1) (by kernel_rfl) fun R hR=>?_;refine rg ⟨vbV,trivial⟩ ?_;refine lW (fun v=>v.2.length≤1048576) (fun v=>rank v.2) vbV (oF _) rfl (fun m1 v1 F1 hI1 hM1 hR hK1=>?_) hR;refine rg ⟨⟨vbV,vbV,vbV⟩,trivial⟩ ?_;refine rT ?_;refine cd (fun hc1 hR=>?_) (fun hc1 hR=>?_) hR
 ·refine rT ?_;exact oe C43 hR
 refine rT ?_;exact hK1 (((zdx x0 (yb.mk v1.1 v1.2)).1).ego,((zdx x0 (yb.mk v1.1 v1.2)).1).steps) vam vam hR
def k75(x0:List ye)(x1:yb):Cl:=(hres (C43 (zdd x0 x1)),Go.Lite.k4 (ze7 x0 x1))
theorem zn8(x:List ye)(t:yb):zc5 x t=zdd x t:=by unfold zc5 zdd;have e:∀(v:Int×List ya),zbb x (yb.mk v.1 v.2)=zdx x (yb.mk v.1 v.2):=fun v=>zf0 x _;simp only[e];rfl
theorem zfo{x:List ye}(ha:∀r∈x,zkt r)(t:yb):(zdd x t).steps.length≤t.steps.length:=by unfold zdd;refine zdi (fun (v:Int×List ya)=>v.2.length≤t.steps.length) (fun v=>rank v.2) (fun (r:yb)=>r.steps.length≤t.steps.length) (fun v next hv hn=>?_) _ _ (oF _) (by simp[zit]);refine zai (p:=fun (r:yb)=>r.steps.length≤t.steps.length) (fun _=>hv) (fun c=>?_);have h:=zkd ha (t:=yb.mk v.1 v.2) (by simpa using c);exact hn _ (yM h.2 hv) h.1
structure yf where
  type:yb
  term:List UInt8
  deriving Inhabited
def zam(fr:Bool)(x:yf):List LV:=zag fr x.type++cStr x.term

structure yg where
  rules:List ye
  entries:List yf
  deriving Inhabited
def zah(fr:Bool)(x:yg):List LV:=cSl fr 5 (cRule fr) x.rules++cSl fr 3 (zam fr) x.entries

def zom(x0:yg):Bool:=bif((!(zg0 x0.rules))||(decide (60<((x0.entries.length:Nat):Int)))) then false else(loopN (fun i1 (v1:Unit) nx1=>bif(!((!(zbv ((x0.entries.getD i1 wl).term)))||(!(zak ((x0.entries.getD i1 wl).type))))) then(bif(((!(zbv ((x0.entries.getD i1 wl).term)))||(!(zak ((x0.entries.getD i1 wl).type))))||(!(zfr ((x0.entries.getD i1 wl).type) (zc5 x0.rules ((x0.entries.getD i1 wl).type))))) then false else(loopN (fun i2 (v2:Unit) next=>bif(zfr ((((x0.entries.drop 0).take (i1 - 0)).getD i2 wl).type) ((x0.entries.getD i1 wl).type)) then false else(next ())) (fun (v2:Unit)=>nx1 ()) (((x0.entries.drop 0).take (i1 - 0)).length) 0 ())) else(bif(((!(zbv ((x0.entries.getD i1 wl).term)))||(!(zak ((x0.entries.getD i1 wl).type))))||true) then false else(loopN (fun i3 (v3:Unit) next=>bif(zfr ((((x0.entries.drop 0).take (i1 - 0)).getD i3 wl).type) ((x0.entries.getD i1 wl).type)) then false else(next ())) (fun (v3:Unit)=>nx1 ()) (((x0.entries.drop 0).take (i1 - 0)).length) 0 ()))) (fun (v1:Unit)=>true) x0.entries.length 0 ())
def D46b1(i1:Nat)(v1:Unit):Dl:=⟨[(20,.int .i64 (i1:Int))],[]⟩
def D46b2(i2:Nat)(v2:Unit):Dl:=⟨[(51,.int .i64 (i2:Int))],[]⟩
def A46b2(x0:yg)(i1:Nat)(i2:Nat)(v2:Unit):Ann:=let q2:=((i2:Nat):Int);let q1:=(x0.entries.drop 0).take (i1 - 0);let q3:=(x0.entries.getD i1 wl).type;let q5:=((q1.length:Nat):Int);let q4:=(q1.getD i2 wl).type;r0 1 [1,2,4,18,19,20,49,50,51,52] [1,4] (cn (decide (q2<q5)) (.reg 2 [] [(1004,k96 q4 q3)] [1,2,4,18,19,20,49,50,51,59] [1,4] [] [pf (0≤(q2:Int)∧(q2:Int)<q5)] [] [0,4] (cn (zfr q4 q3) (r0 1 [1,2,4,18,19,20,49,50,51] [1,4] (rt [] (C70 false))) (r1 1 [1,2,4,18,19,20,49,50,51] [1,4] [pf (inR .i64 (q2+1))] [0] (.next 0 [] (D46b2 (i2+1) ()))))) (r1 1 [1,2,18,19,20] [1] [pf (inR .i64 (((i1:Nat):Int)+1))] [0] (.next 1 [] (D46b1 (i1+1) ()))))
def D46b3(i3:Nat)(v3:Unit):Dl:=⟨[(51,.int .i64 (i3:Int))],[]⟩
def A46b3(x0:yg)(i1:Nat)(i3:Nat)(v3:Unit):Ann:=let q2:=((i3:Nat):Int);let q1:=(x0.entries.drop 0).take (i1 - 0);let q3:=(x0.entries.getD i1 wl).type;let q5:=((q1.length:Nat):Int);let q4:=(q1.getD i3 wl).type;r0 1 [1,2,4,18,19,20,49,50,51,52] [1,4] (cn (decide (q2<q5)) (.reg 2 [] [(1004,k96 q4 q3)] [1,2,4,18,19,20,49,50,51,59] [1,4] [] [pf (0≤(q2:Int)∧(q2:Int)<q5)] [] [0,4] (cn (zfr q4 q3) (r0 1 [1,2,4,18,19,20,49,50,51] [1,4] (rt [] (C70 false))) (r1 1 [1,2,4,18,19,20,49,50,51] [1,4] [pf (inR .i64 (q2+1))] [0] (.next 0 [] (D46b3 (i3+1) ()))))) (r1 1 [1,2,18,19,20] [1] [pf (inR .i64 (((i1:Nat):Int)+1))] [0] (.next 1 [] (D46b1 (i1+1) ()))))
def A46b1(x0:yg)(i1:Nat)(v1:Unit):Ann:=let q4:=((i1:Nat):Int);let q1:=x0.entries.getD i1 wl;let q6:=((x0.entries.length:Nat):Int);let q5:=q1.type;let q3:=zbv (q1.term);let q7:=zc5 x0.rules q5;let q2:=(!q3)||(!(zak q5));r0 1 [1,2,18,19,20,21] [1] (cn (decide (q4<q6)) (r1 1 [1,2,3,4,18,19,20] [1,4] [pf (0≤(q4:Int)∧(q4:Int)<q6)] [0] (.split (!q2) (.reg 1 [(11,.gT .no),(12,.gT .no),(13,.gT .no),(14,.gT .no),(15,.gT .no),(16,.gT .no),(19,.gT .no)] [(2,k89 (q1.term)),(7,cg (!(!q3)) (k95 q5)),(17,cT (k97 x0.rules q5)),(18,cT (k96 q5 q7))] [1,2,3,4,18,19,20,45] [1,4] [!(!q3),!q3] [pf ((!q2)=true)] [] [4,1,1,8,1,6,0,0,0,0,0,0,0,12,0,16,0] (cn (q2||(!(zfr q5 q7))) (r0 1 [1,2,3,4,18,19,20] [1,4] (rt [] (C70 false))) (.reg 1 [] [(3,slC 49 (zam false) x0.entries.length (0) (q4) 0 (i1 - 0) x0.entries rfl rfl)] [1,2,4,18,19,20,49,50,51] [1,4] [] [] [] [0] (lp (D46b2) [] [] [] (D46b2 0 ()) (A46b2 x0 i1))))) (.reg 1 [(11,.gF),(12,.gF),(13,.gF),(14,.gF),(15,.gF),(16,.gF),(17,.gF),(18,.gF),(19,.gF)] [(2,k89 (q1.term)),(7,cg (!(!q3)) (k95 q5))] [1,2,3,4,18,19,20,45] [1,4] [!(!q3),!q3] [pf ((!q2)=false),gf q2 (pf (false=true))] [] [8,1,1,12,1,6,0,0,0,0,0,0,0,0,0,4] (cn (q2||true) (r0 1 [1,2,3,4,18,19,20] [1,4] (rt [] (C70 false))) (.reg 1 [] [(3,slC 49 (zam false) x0.entries.length (0) (q4) 0 (i1 - 0) x0.entries rfl rfl)] [1,2,4,18,19,20,49,50,51] [1,4] [] [] [] [0] (lp (D46b3) [] [] [] (D46b3 0 ()) (A46b3 x0 i1))))))) (r0 1 [2] [] (rt [] (C70 true))))
def A46(x0:yg):Ann:=let q1:=zg0 x0.rules;r0 1 [1,2] [1] (.reg 1 [] [(2,k94 x0.rules)] [1,2,16] [1] [!(!q1),!q1] [] [] [0,1,1,1,6] (cn ((!q1)||(decide (60<((x0.entries.length:Nat):Int)))) (r0 1 [1,2] [1] (rt [] (C70 false))) (r0 1 [1,2,18,19,20] [1] (lp (D46b1) [] [] [] (D46b1 0 ()) (A46b1 x0)))))
theorem zff(x0 : yg)(hx : x0.rules.length ≤ 1048576)(hr : ∀r ∈ x0.rules, r.name.length ≤ 1048576 ∧ r.from0.length ≤ 1048576 ∧ r.to.length ≤ 1048576)(he : x0.entries.length ≤ 1048576)(hee : ∀e ∈ x0.entries, e.term.length ≤ 1048576 ∧ e.type.steps.length ≤ 1048576) : FnT Tryz.prog 46 [.agg (zah false x0)] (C70 (zom x0)) := by
 refine Fn.gp 62 Tryz.func46 (by kernel_rfl) (by kernel_rfl) vby (A46 x0) (by kernel_rfl) fun R hR=>?_;refine rT ?_;refine rg ⟨⟨vbo,vbo⟩,trivial⟩ ?_;refine cd (fun hc1 hR=>?_) (fun hc1 hR=>?_) hR
 ·refine rT ?_;exact oe C70 hR
 refine rT ?_;refine lN (fun i v=>True) vbD rfl (fun i1 v1 F1 hn1 hI1 hR hK1=>?_) hR;refine rT ?_;refine⟨fun hc2=>?_,fun hc2=>?_⟩
 ·have hii1 : i1 < x0.entries.length := vbs
  replace hR:=zaq hR hii1;refine rg ⟨vbN,trivial⟩ ?_;refine cd (fun hs3 hR=>?_) (fun hs3 hR=>?_) hR
  ·refine rg ⟨vbo, va4, fun hg0 => by (have h9 := hee _ (zat (d := wl) hii1); omega), ⟨vbo, vbo, va4, vai⟩, ⟨va4, vac⟩, trivial⟩ ?_;refine cd (fun hc4 hR => ?_) (fun hc4 hR => ?_) hR
   ·refine rT ?_;exact oe C70 hR
   refine rg ⟨vbN,trivial⟩ ?_;refine lN (fun i v=>True) vbD rfl (fun i2 v2 F2 hn2 hI2 hR hK2=>?_) hR;refine rT ?_;refine⟨fun hc5=>?_,fun hc5=>?_⟩
   ·have hii2 : i2 < ((x0.entries.drop 0).take (i1 - 0)).length := (by have := ol hc5; omega);replace hR := zaq hR hii2;refine rg ⟨vbL, ⟨by (have h9 := hee _ (Yo (Yp (zat (d := wl) hii2))); omega), va4⟩, trivial⟩ ?_;refine cd (fun hc6 hR => ?_) (fun hc6 hR => ?_) hR
    ·refine rT ?_;exact oe C70 hR
    refine rg ⟨by(have h9:=hii2;simp only[yK,yL] at h9;(try simp only[inR]);omega),trivial⟩ ?_;exact hK2 () hii2 vbD hR
   obtain rfl:i2=((x0.entries.drop 0).take (i1 - 0)).length:=(by have:=oz hc5;omega);replace hR:=zau hR (oP _);refine rg ⟨vbl,trivial⟩ ?_;exact hK1 () hii1 vbD hR
  refine rg ⟨vbo,by(intro h9;simp_all),by(have h9:=hee _ (zat (d:=wl) hii1);omega),fun hg0=>by(have h9:=hee _ (zat (d:=wl) hii1);omega),trivial⟩ ?_;refine cd (fun hc7 hR=>?_) (fun hc7 hR=>?_) hR
  ·refine rT ?_;exact oe C70 hR
  refine rg ⟨vbN,trivial⟩ ?_;refine lN (fun i v=>True) vbD rfl (fun i3 v3 F3 hn3 hI3 hR hK3=>?_) hR;refine rT ?_;refine⟨fun hc8=>?_,fun hc8=>?_⟩
  ·have hii3 : i3 < ((x0.entries.drop 0).take (i1 - 0)).length := (by have := ol hc8; omega);replace hR := zaq hR hii3;refine rg ⟨vbL, ⟨by (have h9 := hee _ (Yo (Yp (zat (d := wl) hii3))); omega), va4⟩, trivial⟩ ?_;refine cd (fun hc9 hR => ?_) (fun hc9 hR => ?_) hR
   ·refine rT ?_;exact oe C70 hR
   refine rg ⟨by(have h9:=hii3;simp only[yK,yL] at h9;(try simp only[inR]);omega),trivial⟩ ?_;exact hK3 () hii3 vbD hR
  obtain rfl:i3=((x0.entries.drop 0).take (i1 - 0)).length:=by have:=oz hc8;omega
  replace hR:=zau hR (oP _);refine rg ⟨vbl,trivial⟩ ?_;exact hK1 () hii1 vbD hR
 obtain rfl:i1=x0.entries.length:=by have:=oz hc2;omega
 replace hR:=zau hR (oP _);refine rT ?_;exact oe C70 hR
def zcy(x0:yg):Bool:=bif((!(zb6 x0.rules))||(decide (60<((x0.entries.length:Nat):Int)))) then false else(loopN (fun i1 (v1:Unit) nx1=>bif(!((!(zan ((x0.entries.getD i1 wl).term)))||(!(zad ((x0.entries.getD i1 wl).type))))) then(bif(((!(zan ((x0.entries.getD i1 wl).term)))||(!(zad ((x0.entries.getD i1 wl).type))))||(!(zfa (zdd x0.rules ((x0.entries.getD i1 wl).type)) ((x0.entries.getD i1 wl).type)))) then false else(loopN (fun i2 (v2:Unit) next=>bif(zfa ((x0.entries.getD i2 wl).type) ((x0.entries.getD i1 wl).type)) then false else(next ())) (fun (v2:Unit)=>nx1 ()) i1 0 ())) else(bif(((!(zan ((x0.entries.getD i1 wl).term)))||(!(zad ((x0.entries.getD i1 wl).type))))||true) then false else(loopN (fun i3 (v3:Unit) next=>bif(zfa ((x0.entries.getD i3 wl).type) ((x0.entries.getD i1 wl).type)) then false else(next ())) (fun (v3:Unit)=>nx1 ()) i1 0 ()))) (fun (v1:Unit)=>true) x0.entries.length 0 ())
def D20b1(i1:Nat)(v1:Unit):Dl:=⟨[(19,.int .i64 (i1:Int))],[]⟩
def D20b2(i2:Nat)(v2:Unit):Dl:=⟨[(5,.int .i64 (i2:Int))],[]⟩
def A20b2(x0:yg)(i1:Nat)(i2:Nat)(v2:Unit):Ann:=let q1:=((i2:Nat):Int);let q2:=(x0.entries.getD i2 wl).type;let q3:=(x0.entries.getD i1 wl).type;r0 1 [1,2,3,4,5,17,18,19,47] [1,4] (cn (decide (q1<((i1:Nat):Int))) (.reg 1 [] [(8,k74 q2 q3)] [1,2,3,4,5,17,18,19,58] [1,4] [] [pf (0≤(q1:Int)∧(q1:Int)<((x0.entries.length:Nat):Int))] [] [0,4] (cn (zfa q2 q3) (r0 1 [1,2,3,4,5,17,18,19] [1,4] (rt [] (C70 false))) (r1 1 [1,2,3,4,5,17,18,19] [1,4] [pf (inR .i64 (q1+1))] [0] (.next 0 [] (D20b2 (i2+1) ()))))) (r1 1 [1,2,17,18,19] [1] [pf (inR .i64 (((i1:Nat):Int)+1))] [0] (.next 1 [] (D20b1 (i1+1) ()))))
def D20b3(i3:Nat)(v3:Unit):Dl:=⟨[(5,.int .i64 (i3:Int))],[]⟩
def A20b3(x0:yg)(i1:Nat)(i3:Nat)(v3:Unit):Ann:=let q1:=((i3:Nat):Int);let q2:=(x0.entries.getD i3 wl).type;let q3:=(x0.entries.getD i1 wl).type;r0 1 [1,2,3,4,5,17,18,19,47] [1,4] (cn (decide (q1<((i1:Nat):Int))) (.reg 1 [] [(8,k74 q2 q3)] [1,2,3,4,5,17,18,19,58] [1,4] [] [pf (0≤(q1:Int)∧(q1:Int)<((x0.entries.length:Nat):Int))] [] [0,4] (cn (zfa q2 q3) (r0 1 [1,2,3,4,5,17,18,19] [1,4] (rt [] (C70 false))) (r1 1 [1,2,3,4,5,17,18,19] [1,4] [pf (inR .i64 (q1+1))] [0] (.next 0 [] (D20b3 (i3+1) ()))))) (r1 1 [1,2,17,18,19] [1] [pf (inR .i64 (((i1:Nat):Int)+1))] [0] (.next 1 [] (D20b1 (i1+1) ()))))
def A20b1(x0:yg)(i1:Nat)(v1:Unit):Ann:=let q5:=((i1:Nat):Int);let q1:=x0.entries.getD i1 wl;let q6:=((x0.entries.length:Nat):Int);let q4:=q1.type;let q3:=zan (q1.term);let q2:=(!q3)||(!(zad q4));r0 1 [1,2,17,18,19,20] [1] (cn (decide (q5<q6)) (r1 1 [1,2,3,4,17,18,19] [1,4] [pf (0≤(q5:Int)∧(q5:Int)<q6)] [0] (.split (!q2) (.reg 1 [(11,.gT .no),(12,.gT .no),(13,.gT .no),(14,.gT .no),(16,.gT .no),(17,.gT .no),(19,.gT .no)] [(2,k72 (q1.term)),(7,cg (!(!q3)) (k73 q4)),(15,cT (k75 x0.rules q4)),(18,cT (k74 (zdd x0.rules q4) q4))] [1,2,3,4,17,18,19,44] [1,4] [!(!q3),!q3] [pf ((!q2)=true)] [] [4,1,1,8,1,6,0,0,0,0,0,12,0,0,0,16,0] (cn (q2||(!(zfa (zdd x0.rules q4) q4))) (r0 1 [1,2,3,4,17,18,19] [1,4] (rt [] (C70 false))) (r0 1 [1,2,3,4,5,17,18,19] [1,4] (lp (D20b2) [] [] [] (D20b2 0 ()) (A20b2 x0 i1))))) (.reg 1 [(11,.gF),(12,.gF),(13,.gF),(14,.gF),(15,.gF),(16,.gF),(17,.gF),(18,.gF),(19,.gF)] [(2,k72 (q1.term)),(7,cg (!(!q3)) (k73 q4))] [1,2,3,4,17,18,19,44] [1,4] [!(!q3),!q3] [pf ((!q2)=false),gf q2 (pf (false=true))] [] [8,1,1,12,1,6,0,0,0,0,0,0,0,0,0,4] (cn (q2||true) (r0 1 [1,2,3,4,17,18,19] [1,4] (rt [] (C70 false))) (r0 1 [1,2,3,4,5,17,18,19] [1,4] (lp (D20b3) [] [] [] (D20b3 0 ()) (A20b3 x0 i1))))))) (r0 1 [2] [] (rt [] (C70 true))))
def A20(x0:yg):Ann:=let q1:=zb6 x0.rules;r0 1 [1,2] [1] (.reg 1 [] [(2,k71 x0.rules)] [1,2,15] [1] [!(!q1),!q1] [] [] [0,1,1,1,6] (cn ((!q1)||(decide (60<((x0.entries.length:Nat):Int)))) (r0 1 [1,2] [1] (rt [] (C70 false))) (r0 1 [1,2,17,18,19] [1] (lp (D20b1) [] [] [] (D20b1 0 ()) (A20b1 x0)))))
theorem zfd(x0 : yg)(hx : x0.rules.length ≤ 1048576)(hr : ∀r ∈ x0.rules, r.name.length ≤ 1048576 ∧ r.from0.length ≤ 1048576 ∧ r.to.length ≤ 1048576)(he : x0.entries.length ≤ 1048576)(hee : ∀e ∈ x0.entries, e.term.length ≤ 1048576 ∧ e.type.steps.length ≤ 1048576) : FnT Tryz.prog 20 [.agg (zah false x0)] (C70 (zcy x0)) := by
 refine Fn.gp 60 Tryz.func20 (by kernel_rfl) (by kernel_rfl) vby (A20 x0) (by kernel_rfl) fun R hR=>?_;refine rT ?_;refine rg ⟨⟨vbo,vbo⟩,trivial⟩ ?_;refine cd (fun hc1 hR=>?_) (fun hc1 hR=>?_) hR
 ·refine rT ?_;exact oe C70 hR
 refine rT ?_;refine lN (fun i v=>True) vbD rfl (fun i1 v1 F1 hn1 hI1 hR hK1=>?_) hR;refine rT ?_;refine⟨fun hc2=>?_,fun hc2=>?_⟩
 ·have hii1 : i1 < x0.entries.length := vbs
  replace hR:=zaq hR hii1;refine rg ⟨vbN,trivial⟩ ?_;refine cd (fun hs3 hR=>?_) (fun hs3 hR=>?_) hR
  ·refine rg ⟨vbo, va4, fun hg0 => by (have h9 := hee _ (zat (d := wl) hii1); omega), ⟨vbo, vbo, va4, vai⟩, ⟨vac, va4⟩, trivial⟩ ?_;refine cd (fun hc4 hR => ?_) (fun hc4 hR => ?_) hR
   ·refine rT ?_;exact oe C70 hR
   refine rT ?_;refine lN (fun i v=>True) vbD rfl (fun i2 v2 F2 hn2 hI2 hR hK2=>?_) hR;refine rT ?_;refine⟨fun hc5=>?_,fun hc5=>?_⟩
   ·have hii2 : i2 < i1 := (by have := ol hc5; omega);replace hR := zaq hR hii2;refine rg ⟨vbL, ⟨by (have h9 := hee _ (zat (d := wl) (show i2 < x0.entries.length by (try simp only [yK, yL] at hii2); omega)); omega), va4⟩, trivial⟩ ?_;refine cd (fun hc6 hR => ?_) (fun hc6 hR => ?_) hR
    ·refine rT ?_;exact oe C70 hR
    refine rg ⟨vbl,trivial⟩ ?_;exact hK2 () hii2 vbD hR
   obtain rfl:i1=i2:=(by have:=oz hc5;omega);replace hR:=zau hR (oP _);refine rg ⟨vbl,trivial⟩ ?_;exact hK1 () hii1 vbD hR
  refine rg ⟨vbo,by(intro h9;simp_all),by(have h9:=hee _ (zat (d:=wl) hii1);omega),fun hg0=>by(have h9:=hee _ (zat (d:=wl) hii1);omega),trivial⟩ ?_;refine cd (fun hc7 hR=>?_) (fun hc7 hR=>?_) hR
  ·refine rT ?_;exact oe C70 hR
  refine rT ?_;refine lN (fun i v=>True) vbD rfl (fun i3 v3 F3 hn3 hI3 hR hK3=>?_) hR;refine rT ?_;refine⟨fun hc8=>?_,fun hc8=>?_⟩
  ·have hii3 : i3 < i1 := (by have := ol hc8; omega);replace hR := zaq hR hii3;refine rg ⟨vbL, ⟨by (have h9 := hee _ (zat (d := wl) (show i3 < x0.entries.length by omega)); omega), va4⟩, trivial⟩ ?_;refine cd (fun hc9 hR => ?_) (fun hc9 hR => ?_) hR
   ·refine rT ?_;exact oe C70 hR
   refine rg ⟨vbl,trivial⟩ ?_;exact hK3 () hii3 vbD hR
  obtain rfl:i1=i3:=by have:=oz hc8;omega
  replace hR:=zau hR (oP _);refine rg ⟨vbl,trivial⟩ ?_;exact hK1 () hii1 vbD hR
 obtain rfl:i1=x0.entries.length:=by have:=oz hc2;omega
 replace hR:=zau hR (oP _);refine rT ?_;exact oe C70 hR
def slSuf(x0:List UInt8)(x1:List UInt8):Bool:=(decide (((x1.length:Nat):Int)≤((x0.length:Nat):Int)))&&(((x0.drop ((((x0.length:Nat):Int) - ((x1.length:Nat):Int)).toNat)).take (x0.length - ((((x0.length:Nat):Int) - ((x1.length:Nat):Int)).toNat)))==x1)
def A278(x0:List UInt8)(x1:List UInt8):Ann:=let q1:=((x0.length:Nat):Int);let q2:=((x1.length:Nat):Int);let q3:=decide (q2≤q1);.reg 2 [] [] [4] [] [decide (q2≤q1)] [gt q3 (pf (inR .i64 (q1 - q2))),gt q3 (pf (0≤(q1 - q2:Int)∧(q1 - q2:Int)≤q1∧(q1:Int)≤q1))] [] [1,1,1,1,0,1,1,4,1,1,1] (rt [] (C70 (q3&&(((x0.drop ((q1 - q2).toNat)).take (x0.length - ((q1 - q2).toNat)))==x1))))
theorem zek(x0:List UInt8)(x1:List UInt8)(h:x0.length≤1048576∧x1.length≤1048576):FnT Tryz.prog 278 [.str x0,.str x1] (C70 (slSuf x0 x1)):=by refine Fn.gp 21 Tryz.func278 (by kernel_rfl) (by kernel_rfl) vby (A278 x0 x1) (by kernel_rfl) fun R hR=>?_;refine rg ⟨vbk,vaA,trivial⟩ ?_;exact oe C70 hR
def k278(x0:List UInt8)(x1:List UInt8):Cl:=(hres (C70 (slSuf x0 x1)),k1 (zek x0 x1))
def l3Letters :(List UInt8):=[70,77,66,90,83,68,72,87]
def A140 :Ann:=r0 2 [0] [] (rt [] (C57 [70,77,66,90,83,68,72,87]))
theorem zb0:l3Letters.length=8:=rfl
theorem zh8 :FnT Tryz.prog 140 [] (C57 l3Letters):=by refine Fn.gp 1 Tryz.func140 (by kernel_rfl) (by kernel_rfl) vbz (A140) (by kernel_rfl) fun R hR=>?_;refine rT ?_;exact oe C57 hR
def k140 :Cl:=(hres (C57 l3Letters),k0 (zh8))
def zb8(x0:Int):(List UInt8):=bif(decide (x0=1)) then[109,58] else(bif(decide (x0=2)) then[119,58] else([]:List UInt8))
def A77(x0:Int):Ann:=r0 1 [0,2] [] (r0 1 [2,3] [] (r0 1 [2,3,4] [] (cn (decide (x0=1)) (r0 1 [2] [] (rt [] (C57 [109,58]))) (r0 1 [2,6] [] (cn (decide (x0=2)) (r0 1 [2] [] (rt [] (C57 [119,58]))) (r0 1 [2] [] (rt [] (C57 ([]:List UInt8)))))))))
theorem zfp(s:Int):(zb8 s).length≤2:=by unfold zb8;refine zai (p:=fun (r:List UInt8)=>r.length≤2) (fun _=>vbZ) (fun _=>zai (p:=fun (r:List UInt8)=>r.length≤2) (fun _=>vbZ) (fun _=>vbZ))
theorem zi3(x0 : Int) : FnT Tryz.prog 77 [.int .i64 x0] (C57 (zb8 x0)) := by
 refine Fn.gp 8 Tryz.func77 (by kernel_rfl) (by kernel_rfl) vbz (A77 x0) (by kernel_rfl) fun R hR=>?_;refine rT ?_;refine rT ?_;refine rT ?_;refine cd (fun hc1 hR=>?_) (fun hc1 hR=>?_) hR
 ·refine rT ?_;exact oe C57 hR
 refine rT ?_;refine cd (fun hc2 hR=>?_) (fun hc2 hR=>?_) hR
 ·refine rT ?_;exact oe C57 hR
 refine rT ?_;exact oe C57 hR
def k77(x0:Int):Cl:=(hres (C57 (zb8 x0)),k0 (zi3 x0))
def zc1(x0:List ya):(List UInt8):=loopN (fun i1 (v1:(List UInt8)) next=>bif(decide (((x0.getD i1 wl).age)=1)) then(bif(decide (((x0.getD i1 wl).age)=2)) then(next (((v1++[101])++[121])++(((l3Letters ).drop ((((x0.getD i1 wl).kind) - 1).toNat)).take ((((x0.getD i1 wl).kind).toNat) - ((((x0.getD i1 wl).kind) - 1).toNat))))) else(next ((v1++[101])++(((l3Letters ).drop ((((x0.getD i1 wl).kind) - 1).toNat)).take ((((x0.getD i1 wl).kind).toNat) - ((((x0.getD i1 wl).kind) - 1).toNat)))))) else(bif(decide (((x0.getD i1 wl).age)=2)) then(next ((v1++[121])++(((l3Letters ).drop ((((x0.getD i1 wl).kind) - 1).toNat)).take ((((x0.getD i1 wl).kind).toNat) - ((((x0.getD i1 wl).kind) - 1).toNat))))) else(next (v1++(((l3Letters ).drop ((((x0.getD i1 wl).kind) - 1).toNat)).take ((((x0.getD i1 wl).kind).toNat) - ((((x0.getD i1 wl).kind) - 1).toNat))))))) (fun (v1:(List UInt8))=>bif(v1==([]:List UInt8)) then[46] else v1) x0.length 0 ([]:List UInt8)
def D78b1(i1:Nat)(v1:(List UInt8)):Dl:=⟨[(8,.int .i64 (i1:Int)),(3,.str v1)],[]⟩
def A78b1(x0:List ya)(i1:Nat)(v1:(List UInt8)):Ann:=let q6:=((i1:Nat):Int);let q7:=((x0.length:Nat):Int);let q5:=(x0.getD i1 wl).age;let q4:=inR .i64 (q6+1);let q3:=inR .i64 (((x0.getD i1 wl).kind) - 1);let q1:=((l3Letters ).drop ((((x0.getD i1 wl).kind) - 1).toNat)).take ((((x0.getD i1 wl).kind).toNat) - ((((x0.getD i1 wl).kind) - 1).toNat));let q2:=(0≤(((x0.getD i1 wl).kind) - 1:Int)∧(((x0.getD i1 wl).kind) - 1:Int)≤(x0.getD i1 wl).kind∧((x0.getD i1 wl).kind:Int)≤(((l3Letters ).length:Nat):Int));r0 1 [2,3,6,7,8,9] [] (cn (decide (q6<q7)) (r1 1 [2,3,5,6,7,8] [5] [pf (0≤(q6:Int)∧(q6:Int)<q7)] [0] (r0 1 [2,3,5,6,7,8,14] [5] (cn (decide (q5=1)) (r1 1 [2,3,5,6,7,8] [5] [pf (((v1.length+[101].length:Nat):Int)≤9223372036854775807)] [0] (r0 1 [2,3,5,6,7,8,19] [5] (cn (decide (q5=2)) (r1 1 [2,3,5,6,7,8] [5] [pf ((((v1++[101]).length+[121].length:Nat):Int)≤9223372036854775807)] [0] (.reg 1 [] [(1,k140 )] [2,3,6,7,8] [] [] [pf q3,pf q2,pf (((((v1++[101])++[121]).length+q1.length:Nat):Int)≤9223372036854775807)] [] [12,0,4,8] (r1 1 [2,3,6,7,8] [] [pf q4] [0] (.next 0 [] (D78b1 (i1+1) (((v1++[101])++[121])++q1)))))) (.reg 1 [] [(1,k140 )] [2,3,6,7,8] [] [] [pf q3,pf q2,pf ((((v1++[101]).length+q1.length:Nat):Int)≤9223372036854775807)] [] [12,0,4,8] (r1 1 [2,3,6,7,8] [] [pf q4] [0] (.next 0 [] (D78b1 (i1+1) ((v1++[101])++q1)))))))) (r0 1 [2,3,5,6,7,8,19] [5] (cn (decide (q5=2)) (r1 1 [2,3,5,6,7,8] [5] [pf (((v1.length+[121].length:Nat):Int)≤9223372036854775807)] [0] (.reg 1 [] [(1,k140 )] [2,3,6,7,8] [] [] [pf q3,pf q2,pf ((((v1++[121]).length+q1.length:Nat):Int)≤9223372036854775807)] [] [12,0,4,8] (r1 1 [2,3,6,7,8] [] [pf q4] [0] (.next 0 [] (D78b1 (i1+1) ((v1++[121])++q1)))))) (.reg 1 [] [(1,k140 )] [2,3,6,7,8] [] [] [pf q3,pf q2,pf (((v1.length+q1.length:Nat):Int)≤9223372036854775807)] [] [12,0,4,8] (r1 1 [2,3,6,7,8] [] [pf q4] [0] (.next 0 [] (D78b1 (i1+1) (v1++q1)))))))))) (r0 1 [2,3,33] [] (cn (v1==([]:List UInt8)) (r0 1 [2,3] [] (rt [] (C57 [46]))) (r0 1 [2] [] (rt [] (C57 v1))))))
def A78(x0:List ya):Ann:=r0 2 [0,2,3] [] (r0 1 [2,3,6,7,8] [] (lp (D78b1) [] [] [] (D78b1 0 ([]:List UInt8)) (A78b1 x0)))
theorem zet(l:List ya):(zc1 l).length≤10 * l.length+1:=by unfold zc1;refine zcd (fun i (v:List UInt8)=>v.length≤10 * i) (fun (r:List UInt8)=>r.length≤10 * l.length+1) (yS _) (fun i v next hi hv hn=>?_) (fun v hv=>zai (p:=fun (r:List UInt8)=>r.length≤10 * l.length+1) (fun _=>vbZ) (fun _=>vbX));have h8:=zb0;(repeat' refine zai (p:=fun (r:List UInt8)=>r.length≤10 * l.length+1) (fun _=>?_) (fun _=>?_));all_goals exact hn _ (by simp only[og,ot,oA,yK,yL,zb0];omega)
theorem zmj{t : yb}(h : zad t = true) : t.steps.length ≤ 8 := by
 unfold zad at h;cases c:(!(l1In t.ego 0 2))||(decide (8<((t.steps.length:Nat):Int))) with
 |true =>rw[c] at h;cases h
 |false =>simp only[zaw,oa] at c;omega
theorem zsz{l : List ya}(h : ∀k : Nat, k < l.length → (1 ≤ (l.getD k wl).kind ∧ (l.getD k wl).kind ≤ 8) ∧ 0 ≤ (l.getD k wl).age ∧ (l.getD k wl).age ≤ 2) : ∀s ∈ l, 1 ≤ s.kind ∧ s.kind ≤ 8 := fun s hs => by
  obtain⟨k,hk,e⟩:=zbf (d:=wl) hs
  rw[←e];exact(h k hk).1
theorem zk5(x0 : List ya)(hx : x0.length ≤ 1000)(hs : ∀s ∈ x0, 1 ≤ s.kind ∧ s.kind ≤ 8) : FnT Tryz.prog 78 [.ro false 2 x0.length (rowOf (cStep false) x0)] (C57 (zc1 x0)) := by
 refine Fn.gp 35 Tryz.func78 (by kernel_rfl) (by kernel_rfl) vbz (A78 x0) (by kernel_rfl) fun R hR=>?_;refine rT ?_;refine rT ?_;refine lN (fun i v=>(v:List UInt8).length≤3 * i) (by(exact yS _)) rfl (fun i1 v1 F1 hn1 hI1 hR hK1=>?_) hR;refine rT ?_;refine⟨fun hc1=>?_,fun hc1=>?_⟩
 ·have hii1 : i1 < x0.length := vbr
  replace hR:=zaq hR hii1;refine rg ⟨vbN,trivial⟩ ?_;refine rT ?_;refine cd (fun hc2 hR=>?_) (fun hc2 hR=>?_) hR
  ·refine rg ⟨vap, trivial⟩ ?_;refine rT ?_;refine cd (fun hc3 hR => ?_) (fun hc3 hR => ?_) hR
   ·refine rg ⟨vap, trivial⟩ ?_;refine rg ⟨vap, vap, vap, trivial, trivial⟩ ?_;refine rg ⟨vap, trivial⟩ ?_;exact hK1 (((v1 ++ [101]) ++ [121]) ++ (((l3Letters ).drop ((((x0.getD i1 wl).kind) - 1).toNat)).take ((((x0.getD i1 wl).kind).toNat) - ((((x0.getD i1 wl).kind) - 1).toNat)))) hii1 vap hR
   refine rg ⟨vaw,vaw,vaw,trivial,trivial⟩ ?_;refine rg ⟨vaw,trivial⟩ ?_;exact hK1 ((v1++[101])++(((l3Letters ).drop ((((x0.getD i1 wl).kind) - 1).toNat)).take ((((x0.getD i1 wl).kind).toNat) - ((((x0.getD i1 wl).kind) - 1).toNat)))) hii1 vaw hR
  refine rT ?_;refine cd (fun hc4 hR=>?_) (fun hc4 hR=>?_) hR
  ·refine rg ⟨vap, trivial⟩ ?_;refine rg ⟨vap, vap, vap, trivial, trivial⟩ ?_;refine rg ⟨vap, trivial⟩ ?_;exact hK1 ((v1 ++ [121]) ++ (((l3Letters ).drop ((((x0.getD i1 wl).kind) - 1).toNat)).take ((((x0.getD i1 wl).kind).toNat) - ((((x0.getD i1 wl).kind) - 1).toNat)))) hii1 vap hR
  refine rg ⟨vaw,vaw,vaw,trivial,trivial⟩ ?_;refine rg ⟨vaw,trivial⟩ ?_;exact hK1 (v1++(((l3Letters ).drop ((((x0.getD i1 wl).kind) - 1).toNat)).take ((((x0.getD i1 wl).kind).toNat) - ((((x0.getD i1 wl).kind) - 1).toNat)))) hii1 vaw hR
 obtain rfl:i1=x0.length:=by have:=oz hc1;omega
 replace hR:=zau hR (oP _);refine rT ?_;refine cd (fun hc5 hR=>?_) (fun hc5 hR=>?_) hR
 ·refine rT ?_;exact oe C57 hR
 refine rT ?_;exact oe C57 hR
def k78(x0:List ya):Cl:=(hres (C57 (zc1 x0)),k2 (zk5 x0))
def zc2(x0:yb):(List UInt8):=bif(!(zad x0)) then([]:List UInt8) else((zb8 x0.ego)++(zc1 x0.steps))
def A26(x0:yb):Ann:=r0 1 [1,2] [1] (.reg 1 [] [(1,k73 x0)] [1,2,5] [1] [] [] [] [0] (cn (!(zad x0)) (r0 1 [1,2] [1] (rt [] (C57 ([]:List UInt8)))) (.reg 1 [] [(2,k77 x0.ego),(5,k78 x0.steps)] [2] [] [] [pf ((((zb8 x0.ego).length+(zc1 x0.steps).length:Nat):Int)≤9223372036854775807)] [] [4,8,0] (rt [] (C57 ((zb8 x0.ego)++(zc1 x0.steps)))))))
theorem zd4(x0 : yb)(h0 : x0.steps.length ≤ 1048576) : FnT Tryz.prog 26 [.agg (zag false x0)] (C57 (zc2 x0)) := by
 refine Fn.gp 13 Tryz.func26 (by kernel_rfl) (by kernel_rfl) vbz (A26 x0) (by kernel_rfl) fun R hR=>?_;refine rT ?_;refine rg ⟨vbo,trivial⟩ ?_;refine cd (fun hc1 hR=>?_) (fun hc1 hR=>?_) hR
 ·refine rT ?_;exact oe C57 hR
 refine rg ⟨vaC,trivial,⟨vaC,by(exact zsz (zh1 (t:=x0) vbF))⟩,trivial⟩ ?_;exact oe C57 hR
def k26(x0:yb):Cl:=(hres (C57 (zc2 x0)),k1 (zd4 x0))
def C207(R:(List ya)):LV×List (Nat×BC):=(.own 0,[(0,.arr 2 R.length (rowOf (cStep true) R))])
def zdf(x0:List UInt8):(List ya):=bif(x0==[46]) then([]:List ya) else(loopW (fun (v1:(List ya)×Int×Int) nx1=>bif((decide (v1.2.2<((x0.length:Nat):Int)))&&(decide (((v1.1.length:Nat):Int)<20))) then(bif(decide (((x0.getD v1.2.2.toNat 0).toNat:Int)=101)) then(nx1 (v1.1,1,v1.2.2+1)) else(bif(decide (((x0.getD v1.2.2.toNat 0).toNat:Int)=121)) then(nx1 (v1.1,2,v1.2.2+1)) else(loopN (fun i2 (v2:Int) next=>bif(decide ((((l3Letters ).getD i2 0).toNat:Int)=((x0.getD v1.2.2.toNat 0).toNat:Int))) then(next (((i2:Nat):Int)+1)) else(next v2)) (fun (v2:Int)=>nx1 ((v1.1++[(ya.mk v2 v1.2.1)]),0,v1.2.2+1)) 8 0 0))) else v1.1) (((x0.length:Int) - 0).toNat+1) (([]:List ya),0,0))
def zo4(v1:(List ya)×Int×Int):Dl:=⟨[(3,.own 20003),(4,.int .i64 v1.2.1),(5,.int .i64 v1.2.2)],[(20003,.arr 2 v1.1.length (rowOf (cStep true) v1.1))]⟩
def zsf(i2:Nat)(v2:Int):Dl:=⟨[(7,.int .i64 (i2:Int)),(6,.int .i64 v2)],[]⟩
def A207b2(x0:List UInt8)(v1:(List ya)×Int×Int)(i2:Nat)(v2:Int):Ann:=let q1:=((i2:Nat):Int);let q3:=ya.mk v2 v1.2.1;let q2:=inR .i64 (q1+1);r0 1 [0,2,3,4,5,6,7,31] [20003] (cn (decide (q1<8)) (.reg 1 [] [(0,k140 )] [0,2,3,4,5,6,7,40] [20003] [] [pf (0≤(q1:Int)∧(q1:Int)<(((l3Letters ).length:Nat):Int)),pf (0≤(v1.2.2:Int)∧(v1.2.2:Int)<((x0.length:Nat):Int))] [] [8,0,4] (cn (decide ((((l3Letters ).getD i2 0).toNat:Int)=((x0.getD v1.2.2.toNat 0).toNat:Int))) (r1 1 [0,2,3,4,5,6,7] [20003] [pf q2] [0] (r1 1 [0,2,3,4,5,6,7] [20003] [pf q2] [0] (.next 0 [] (zsf (i2+1) (q1+1))))) (r1 1 [0,2,3,4,5,6,7] [20003] [pf q2] [0] (.next 0 [] (zsf (i2+1) v2))))) (.reg 1 [] [(4,bsC 47 (cStep true) ([q3]:List ya)),(5,ap1 48 (cStep true) 16 v1.1 q3)] [0,2,3,4,5] [48] [] [] [] [0,4] (r0 1 [0,2,3,4,5] [48] (r1 1 [0,2,3,4,5] [48] [pf (inR .i64 (v1.2.2+1))] [0] (.next 1 [(20003,some 48)] (zo4 ((v1.1++[q3]),0,v1.2.2+1)))))))
def A207b1(x0:List UInt8)(v1:(List ya)×Int×Int):Ann:=let q3:=inR .i64 (v1.2.2+1);let q1:=((x0.length:Nat):Int);let q2:=((x0.getD v1.2.2.toNat 0).toNat:Int);.reg 1 [] [] [0,2,3,4,5,20] [20003] [decide (v1.2.2<q1)] [] [] [1,1,1] (cn ((decide (v1.2.2<q1))&&(decide (((v1.1.length:Nat):Int)<20))) (r1 1 [0,2,3,4,5,25] [20003] [pf (0≤(v1.2.2:Int)∧(v1.2.2:Int)<q1)] [0] (r0 1 [0,2,3,4,5,25,26] [20003] (cn (decide (q2=101)) (r0 1 [0,2,3,4,5] [20003] (r1 1 [0,2,3,4,5] [20003] [pf q3] [0] (.next 0 [(20003,some 20003)] (zo4 (v1.1,1,v1.2.2+1))))) (r0 1 [0,2,3,4,5,28] [20003] (cn (decide (q2=121)) (r0 1 [0,2,3,4,5] [20003] (r1 1 [0,2,3,4,5] [20003] [pf q3] [0] (.next 0 [(20003,some 20003)] (zo4 (v1.1,2,v1.2.2+1))))) (r0 1 [0,2,3,4,5,6] [20003] (r0 1 [0,2,3,4,5,6,7] [20003] (lp (zsf) [] [] [] (zsf 0 0) (A207b2 x0 v1))))))))) (r0 1 [2] [20003] (rt [(0,some 20003)] (C207 v1.1))))
def A207(x0:List UInt8):Ann:=.reg 3 [] [(1000,bsC 8 (cStep true) ([]:List ya))] [0,2,3,4] [8] [] [] [] [0] (r0 1 [0,2,3,4,10] [8] (cn (x0==[46]) (r0 1 [0,2,3,4] [8] (rt [(0,some 8)] (C207 ([]:List ya)))) (r0 1 [0,2,3,4,5] [8] (.loop ((List ya)×Int×Int) (zo4) [] [8] [(20003,some 8)] (zo4 (([]:List ya),0,0)) (A207b1 x0)))))
theorem zcu(s:List UInt8):(zdf s).length≤20:=by unfold zdf;refine zai (p:=fun (r:List ya)=>r.length≤20) (fun _=>yS _) (fun _=>?_);refine zdi (fun (v:List ya×Int×Int)=>v.1.length≤20) (fun v=>((s.length:Int) - v.2.2).toNat) (fun (r:List ya)=>r.length≤20) (fun v next hv hn=>?_) _ _ vbC (yS _);refine zai (p:=fun (r:List ya)=>r.length≤20) (fun c=>?_) (fun _=>hv);simp only[oc,ob] at c;refine zai (p:=fun (r:List ya)=>r.length≤20) (fun _=>hn _ hv vbC) (fun _=>zai (p:=fun (r:List ya)=>r.length≤20) (fun _=>hn _ hv vbC) (fun _=>?_));exact zcd (fun _ _=>True) (fun (r:List ya)=>r.length≤20) trivial (fun i w next _ _ hn2=>zai (p:=fun (r:List ya)=>r.length≤20) (fun _=>hn2 _ trivial) (fun _=>hn2 _ trivial)) (fun w _=>hn _ vbm vbC)
theorem zk7(x0 : List UInt8)(hx : x0.length ≤ 1048576) : FnT Tryz.prog 207 [.str x0] (C207 (zdf x0)) := by
 refine Fn.gp 50 Tryz.func207 (by kernel_rfl) (by kernel_rfl) (by simp[C207,Frs,FrsL,FrsB,rowOf,cInt,cBool,cStr,cSl,zar,cStep,zag,cRule,zam,zah]) (A207 x0) (by kernel_rfl) fun R hR=>?_;refine rg ⟨trivial,trivial⟩ ?_;refine rT ?_;refine cd (fun hc1 hR=>?_) (fun hc1 hR=>?_) hR
 ·refine rT ?_;exact oe C207 hR
 refine rT ?_;refine lW (fun v=>(0≤v.2.2∧v.2.2≤x0.length)∧(v.1:List ya).length≤20) (fun v=>((x0.length:Int) - v.2.2).toNat) (by((dsimp only;simp only[og,ot,oA];omega))) (oF _) rfl (fun m1 v1 F1 hI1 hM1 hR hK1=>?_) hR;refine rT ?_;refine cd (fun hc2 hR=>?_) (fun hc2 hR=>?_) hR
 ·refine rg ⟨vav, trivial⟩ ?_;refine rT ?_;refine cd (fun hc3 hR => ?_) (fun hc3 hR => ?_) hR
  ·refine rT ?_;refine rg ⟨vbe, trivial⟩ ?_;exact hK1 (v1.1, 1, v1.2.2 + 1) vaD vav hR
  refine rT ?_;refine cd (fun hc4 hR=>?_) (fun hc4 hR=>?_) hR
  ·refine rT ?_;refine rg ⟨vbe, trivial⟩ ?_;exact hK1 (v1.1, 2, v1.2.2 + 1) vaD vav hR
  refine rT ?_;refine rT ?_;refine lN (fun i v=>0≤v∧v≤i) vbN rfl (fun i2 v2 F2 hn2 hI2 hR hK2=>?_) hR;refine rT ?_;refine⟨fun hc5=>?_,fun hc5=>?_⟩
  ·have hii2 : i2 < 8 := (by have := ol hc5; omega);replace hR := zaq hR hii2;refine rg ⟨by (have h9 := zb0; omega), by ((try clear hR hK1 hK2); intros; (try simp only [ob, oa, oi, oc, zaw, za4, zci, od, inR] at *); (repeat' apply YU) <;> (intros; omega)), trivial, trivial⟩ ?_;refine cd (fun hc6 hR => ?_) (fun hc6 hR => ?_) hR
   ·refine rg ⟨vbe, trivial⟩ ?_;refine rg ⟨vbe, trivial⟩ ?_;exact hK2 (((i2 : Nat) : Int) + 1) hii2 vbL hR
   refine rg ⟨vbk,trivial⟩ ?_;exact hK2 v2 hii2 vbN hR
  obtain rfl:i2=8:=by have:=oz hc5;omega
  replace hR:=zau hR (oP _);refine rg ⟨trivial,vbX,trivial⟩ ?_;refine rT ?_;refine rg ⟨vbk,trivial⟩ ?_;exact hK1 ((v1.1++[(ya.mk v2 v1.2.1)]),0,v1.2.2+1) (by((simp only[oc,ob] at *;refine⟨⟨?_,?_⟩,?_⟩<;>((try dsimp only);(try simp only[og,ot,oA]);omega)))) (by((try clear hR hK1 hK2);intros;(try simp only[ob,oa,oi,oc,zaw,za4,zci,od,inR] at *);(repeat' apply YU)<;>(intros;omega))) hR
 refine rT ?_;exact oe C207 hR
def k207(x0:List UInt8):Cl:=(hres (C207 (zdf x0)),k1 (zk7 x0))
def C206(R:Int×(List UInt8)):LV×List (Nat×BC):=(.tup [.int .i64 R.1,.str R.2],[])
def l3Cut(x0:List UInt8):Int×(List UInt8):=bif((decide (1<((x0.length:Nat):Int)))&&(((x0.drop 0).take (2 - 0))==[109,58])) then(1,(x0.drop 2).take (x0.length - 2)) else(bif((decide (1<((x0.length:Nat):Int)))&&(((x0.drop 0).take (2 - 0))==[119,58])) then(2,(x0.drop 2).take (x0.length - 2)) else(0,x0))
def A206(x0:List UInt8):Ann:=let q1:=((x0.length:Nat):Int);let q5:=(x0.drop 0).take (2 - 0);let q4:=decide (1<q1);let q2:=(pf (0≤(0:Int)∧(0:Int)≤2∧(2:Int)≤q1));let q3:=(0≤(2:Int)∧(2:Int)≤q1∧(q1:Int)≤q1);r0 1 [0,2,3] [] (.reg 1 [] [] [0,2,3,11] [] [decide (1<q1)] [gt q4 q2] [] [1,0,1,1] (cn (q4&&(q5==[109,58])) (r1 1 [0,2,3] [] [pf q3] [0] (rt [] (C206 (1,(x0.drop 2).take (x0.length - 2))))) (.reg 1 [] [] [0,2,3,21] [] [decide (1<q1)] [gt q4 q2] [] [1,0,1,1] (cn (q4&&(q5==[119,58])) (r1 1 [0,2,3] [] [pf q3] [0] (rt [] (C206 (2,(x0.drop 2).take (x0.length - 2))))) (r0 1 [2,3] [] (rt [] (C206 (0,x0))))))))
theorem zfq(s:List UInt8):(l3Cut s).2.length≤s.length:=by unfold l3Cut;(repeat' refine zai (p:=fun (r:Int×List UInt8)=>r.2.length≤s.length) (fun _=>?_) (fun _=>?_));all_goals simp
theorem zmv(x0 : List UInt8)(hx : x0.length ≤ 1048576) : FnT Tryz.prog 206 [.str x0] (C206 (l3Cut x0)) := by
 refine Fn.gp 25 Tryz.func206 (by kernel_rfl) (by kernel_rfl) (by simp[C206,Frs,FrsL]) (A206 x0) (by kernel_rfl) fun R hR=>?_;refine rT ?_;refine rg ⟨vaA,trivial⟩ ?_;refine cd (fun hc1 hR=>?_) (fun hc1 hR=>?_) hR
 ·refine rg ⟨vax, trivial⟩ ?_;exact oe C206 hR
 refine rg ⟨vaA,trivial⟩ ?_;refine cd (fun hc2 hR=>?_) (fun hc2 hR=>?_) hR
 ·refine rg ⟨vax, trivial⟩ ?_;exact oe C206 hR
 refine rT ?_;exact oe C206 hR
def k206(x0:List UInt8):Cl:=(hres (C206 (l3Cut x0)),k1 (zmv x0))
def C144(R:yb×Bool):LV×List (Nat×BC):=(.tup [.agg [.int .i64 R.1.ego,.own 0],.bool R.2],[(0,.arr 2 R.1.steps.length (rowOf (cStep true) R.1.steps))])
def zdq(x0:List UInt8):yb×Bool:=bif((!(zad (yb.mk ((l3Cut x0).1) (zdf ((l3Cut x0).2)))))||(!((zc2 (yb.mk ((l3Cut x0).1) (zdf ((l3Cut x0).2))))==x0))) then((yb.mk 0 ([]:List ya)),false) else((yb.mk ((l3Cut x0).1) (zdf ((l3Cut x0).2))),true)
def A144(x0:List UInt8):Ann:=let q1:=yb.mk ((l3Cut x0).1) (zdf ((l3Cut x0).2));let q2:=zad q1;.reg 3 [] [(1001,k206 x0),(2002,k207 ((l3Cut x0).2))] [0,2,3,6] [2,6,1014] [] [] [] [0,4] (.reg 1 [] [(1,k73 q1),(5,cg (!(!q2)) (k26 q1))] [2,3,6,24] [2,6,1014] [!(!q2),!q2] [] [] [0,1,4,1,1,6] (cn ((!q2)||(!((zc2 q1)==x0))) (r0 1 [2,3,6] [2,6,1014] (rt [(0,none)] (C144 ((yb.mk 0 ([]:List ya)),false)))) (r0 1 [2,3] [2,1014] (rt [(0,some 1014)] (C144 (q1,true))))))
theorem zh9(x0 : List UInt8)(hx : x0.length ≤ 1048576) : FnT Tryz.prog 144 [.str x0] (C144 (zdq x0)) := by
 refine Fn.gp 27 Tryz.func144 (by kernel_rfl) (by kernel_rfl) vaE (A144 x0) (by kernel_rfl) fun R hR=>?_;refine rg ⟨vbo,vaO,trivial⟩ ?_;refine rg ⟨vaO,fun hg0=>by(have h9:=zfq x0;have h8:=zcu (l3Cut x0).2;(try dsimp only);omega),trivial⟩ ?_;refine cd (fun hc1 hR=>?_) (fun hc1 hR=>?_) hR
 ·refine rT ?_;exact oe C144 hR
 refine rT ?_;exact oe C144 hR
def k144(x0:List UInt8):Cl:=(hres (C144 (zdq x0)),k1 (zh9 x0))
theorem zlj{l : List ya}(h : ∀k : Nat, k < l.length → (1 ≤ (l.getD k wl).kind ∧ (l.getD k wl).kind ≤ 8) ∧ 0 ≤ (l.getD k wl).age ∧ (l.getD k wl).age ≤ 2) : ∀s ∈ l, (1 ≤ s.kind ∧ s.kind ≤ 8) ∧ 0 ≤ s.age ∧ s.age ≤ 2 := fun s hs => by
  obtain⟨k,hk,e⟩:=zbf (d:=wl) hs
  rw[←e];exact h k hk
theorem zbu{r : ye}(h : zaz r = true) : r.name.length ≤ 12 ∧ r.from0.length ≤ 8 ∧ r.to.length ≤ 8 ∧ (∀s ∈ r.from0, (1 ≤ s.kind ∧ s.kind ≤ 8) ∧ 0 ≤ s.age ∧ s.age ≤ 2) ∧ (∀s ∈ r.to, (1 ≤ s.kind ∧ s.kind ≤ 8) ∧ 0 ≤ s.age ∧ s.age ≤ 2) ∧ 0 ≤ r.sex ∧ r.sex ≤ 2 := by
 unfold zaz at h;rw[zax,zax,zaw (a:=!(l1In ((r.from0.length:Nat):Int) 1 4))] at h;obtain⟨h0,⟨h1,h2⟩,h3⟩:=h;rw[ziv,zaw,oa,oa] at h1;have h2:zbr r.to r.from0=true:=vbI
 have h4 : ∃s : Int, zad (yb.mk s r.from0) = true ∧ zad (yb.mk s r.to) = true := by
  revert h3;refine zdi (fun (v:Bool×Int)=>1≤v.2∧(v.1=true→∃s:Int,zad (yb.mk s r.from0)=true∧zad (yb.mk s r.to)=true)) (fun v=>(3 - v.2).toNat) (fun (b:Bool)=>b=true→∃s:Int,zad (yb.mk s r.from0)=true∧zad (yb.mk s r.to)=true) (fun v next hv hn=>?_) _ _ (oF _) ⟨vbC,fun h=>vbU⟩;refine zai (p:=fun (b:Bool)=>b=true→∃s:Int,zad (yb.mk s r.from0)=true∧zad (yb.mk s r.to)=true) (fun c=>?_) (fun _=>hv.2);have c:=ol c;refine zai (p:=fun (b:Bool)=>b=true→∃s:Int,zad (yb.mk s r.from0)=true∧zad (yb.mk s r.to)=true) (fun _=>hn _ ⟨vbC,hv.2⟩ vbC) (fun c2=>?_);refine zai (p:=fun (b:Bool)=>b=true→∃s:Int,zad (yb.mk s r.from0)=true∧zad (yb.mk s r.to)=true) (fun _ h=>vbU) (fun c3=>hn _ ⟨vbC,fun _=>⟨v.2,?_,?_⟩⟩ vbC)
  ·rw [zaw] at c2; simpa using c2.2
  rw[zaw] at c3;simpa using c3.1
 obtain⟨s,h5,h6⟩:=h4;have hn:r.name.length≤12:=by have h7:zan r.name=true:=(by simp only[zaw,za4] at h0;first|exact h0.1.1|exact h0.1|simpa using h0.1.1);unfold zan at h7;rw[zfm] at h7;simp only[l1In,oc,ob] at h7;omega
 have hsx:0≤r.sex∧r.sex≤2:=by simp only[zaw,za4,l1In,oc,ob] at h0;omega
 exact⟨hn,zmj h5,zmj h6,zlj (zh1 h5),zlj (zh1 h6),hsx⟩
theorem zbm(x : List UInt8)(c : Int)(k : Nat) : ((zao x c).getD k wl).length ≤ x.length := by
 have all : ∀y ∈ zao x c, y.length ≤ x.length := by
  have snoc : ∀(l : List (List UInt8)) (a b : Nat), (∀y ∈ l, y.length ≤ x.length) → ∀y ∈ l ++ [(x.drop a).take b], y.length ≤ x.length := fun l a b hl y h => by
   rcases List.mem_append.1 h with h | h
   ·exact hl y h
   rw[oR] at h;subst h;simp only[yK,yL];omega
  unfold zao;exact zcd (fun i (v:List (List UInt8)×Int)=>∀y∈v.1,y.length≤x.length) (fun (r:List (List UInt8))=>∀y∈r,y.length≤x.length) (fun y h=>vbU) (fun i v next hi hv hn=>zai (p:=fun (r:List (List UInt8))=>∀y∈r,y.length≤x.length) (fun _=>hn _ (snoc _ _ _ hv)) (fun _=>hn _ hv)) (fun v hv=>snoc _ _ _ hv)
 rw[oh];cases e:(zao x c)[k]? with
 |none =>exact yS _
 |some y =>exact all y (oW e)
theorem zf6{l : List (List UInt8)}{n : Nat}(h : ∀y ∈ l, y.length ≤ n)(k : Nat) : (l.getD k wl).length ≤ n := by
 rw[oh];cases e:l[k]? with
 |none =>exact yS _
 |some y =>exact h y (oW e)
def zcp(x0:ye):(List UInt8):=bif(!(zaz x0)) then([]:List UInt8) else(bif(decide (x0.place=1)) then(bif(decide (x0.place=2)) then(((((((x0.name++[58,32])++(zb8 x0.sex))++[94])++(zc1 x0.from0))++[36])++[32,45,62,32])++(zc1 x0.to)) else((((((x0.name++[58,32])++(zb8 x0.sex))++[94])++(zc1 x0.from0))++[32,45,62,32])++(zc1 x0.to))) else(bif(decide (x0.place=2)) then((((((x0.name++[58,32])++(zb8 x0.sex))++(zc1 x0.from0))++[36])++[32,45,62,32])++(zc1 x0.to)) else(((((x0.name++[58,32])++(zb8 x0.sex))++(zc1 x0.from0))++[32,45,62,32])++(zc1 x0.to))))
def A25(x0:ye):Ann:=let q3:=zc1 x0.to;let q1:=zb8 x0.sex;let q2:=zc1 x0.from0;let q4:=decide (x0.place=2);r0 1 [1,2] [1] (.reg 1 [] [(1,k76 x0)] [1,2,6] [1] [] [] [] [0] (cn (!(zaz x0)) (r0 1 [1,2] [1] (rt [] (C57 ([]:List UInt8)))) (.reg 1 [] [(5,k77 x0.sex)] [1,2,3] [1] [] [pf (((x0.name.length+[58,32].length:Nat):Int)≤9223372036854775807),pf ((((x0.name++[58,32]).length+q1.length:Nat):Int)≤9223372036854775807)] [] [0,8,4] (r0 1 [1,2,3,16] [1] (cn (decide (x0.place=1)) (r1 1 [1,2,3] [1] [pf (((((x0.name++[58,32])++q1).length+[94].length:Nat):Int)≤9223372036854775807)] [0] (.reg 1 [] [(3,k78 x0.from0)] [1,2,3] [1] [] [pf ((((((x0.name++[58,32])++q1)++[94]).length+q2.length:Nat):Int)≤9223372036854775807)] [] [4,0] (r0 1 [1,2,3,26] [1] (cn q4 (r1 1 [1,2,3] [1] [pf (((((((x0.name++[58,32])++q1)++[94])++q2).length+[36].length:Nat):Int)≤9223372036854775807)] [0] (.reg 1 [] [(4,k78 x0.to)] [2] [] [] [pf ((((((((x0.name++[58,32])++q1)++[94])++q2)++[36]).length+[32,45,62,32].length:Nat):Int)≤9223372036854775807),pf (((((((((x0.name++[58,32])++q1)++[94])++q2)++[36])++[32,45,62,32]).length+q3.length:Nat):Int)≤9223372036854775807)] [] [0,8,4] (rt [] (C57 (((((((x0.name++[58,32])++q1)++[94])++q2)++[36])++[32,45,62,32])++q3))))) (.reg 1 [] [(4,k78 x0.to)] [2] [] [] [pf (((((((x0.name++[58,32])++q1)++[94])++q2).length+[32,45,62,32].length:Nat):Int)≤9223372036854775807),pf ((((((((x0.name++[58,32])++q1)++[94])++q2)++[32,45,62,32]).length+q3.length:Nat):Int)≤9223372036854775807)] [] [0,8,4] (rt [] (C57 ((((((x0.name++[58,32])++q1)++[94])++q2)++[32,45,62,32])++q3)))))))) (.reg 1 [] [(3,k78 x0.from0)] [1,2,3] [1] [] [pf (((((x0.name++[58,32])++q1).length+q2.length:Nat):Int)≤9223372036854775807)] [] [4,0] (r0 1 [1,2,3,26] [1] (cn q4 (r1 1 [1,2,3] [1] [pf ((((((x0.name++[58,32])++q1)++q2).length+[36].length:Nat):Int)≤9223372036854775807)] [0] (.reg 1 [] [(4,k78 x0.to)] [2] [] [] [pf (((((((x0.name++[58,32])++q1)++q2)++[36]).length+[32,45,62,32].length:Nat):Int)≤9223372036854775807),pf ((((((((x0.name++[58,32])++q1)++q2)++[36])++[32,45,62,32]).length+q3.length:Nat):Int)≤9223372036854775807)] [] [0,8,4] (rt [] (C57 ((((((x0.name++[58,32])++q1)++q2)++[36])++[32,45,62,32])++q3))))) (.reg 1 [] [(4,k78 x0.to)] [2] [] [] [pf ((((((x0.name++[58,32])++q1)++q2).length+[32,45,62,32].length:Nat):Int)≤9223372036854775807),pf (((((((x0.name++[58,32])++q1)++q2)++[32,45,62,32]).length+q3.length:Nat):Int)≤9223372036854775807)] [] [0,8,4] (rt [] (C57 (((((x0.name++[58,32])++q1)++q2)++[32,45,62,32])++q3))))))))))))
theorem zd5(x0 : ye)(hr : x0.name.length ≤ 1048576 ∧ x0.from0.length ≤ 1048576 ∧ x0.to.length ≤ 1048576) : FnT Tryz.prog 25 [.agg (cRule false x0)] (C57 (zcp x0)) := by
 refine Fn.gp 35 Tryz.func25 (by kernel_rfl) (by kernel_rfl) vbz (A25 x0) (by kernel_rfl) fun R hR=>?_;refine rT ?_;refine rg ⟨vbo,trivial⟩ ?_;refine cd (fun hc1 hR=>?_) (fun hc1 hR=>?_) hR
 ·refine rT ?_;exact oe C57 hR
 refine rg ⟨vaq,vaq,trivial,trivial⟩ ?_;refine rT ?_;refine cd (fun hc2 hR=>?_) (fun hc2 hR=>?_) hR
 ·refine rg ⟨vaj, trivial⟩ ?_;refine rg ⟨vaj, ⟨vaj, by (exact fun s h9 => ((zbu (r := x0) vbF).2.2.2.1 s h9).1)⟩, trivial⟩ ?_;refine rT ?_;refine cd (fun hc3 hR => ?_) (fun hc3 hR => ?_) hR
  ·refine rg ⟨vaj, trivial⟩ ?_;refine rg ⟨vaj, vaj, ⟨vaj, vaN⟩, trivial⟩ ?_;exact oe C57 hR
  refine rg ⟨vaq,vaq,⟨vaq,vaR⟩,trivial⟩ ?_;exact oe C57 hR
 refine rg ⟨vaq,⟨vaq,by(exact fun s h9=>((zbu (r:=x0) vbF).2.2.2.1 s h9).1)⟩,trivial⟩ ?_;refine rT ?_;refine cd (fun hc4 hR=>?_) (fun hc4 hR=>?_) hR
 ·refine rg ⟨vaj, trivial⟩ ?_;refine rg ⟨vaj, vaj, ⟨vaj, vaN⟩, trivial⟩ ?_;exact oe C57 hR
 refine rg ⟨vaq,vaq,⟨vaq,vaR⟩,trivial⟩ ?_;exact oe C57 hR
def k25(x0:ye):Cl:=(hres (C57 (zcp x0)),k1 (zd5 x0))
def C208(R:ye×Bool):LV×List (Nat×BC):=(.tup [.agg [.str R.1.name,.int .i64 R.1.sex,.int .i64 R.1.place,.own 0,.own 1],.bool R.2],[(0,.arr 2 R.1.from0.length (rowOf (cStep true) R.1.from0)),(1,.arr 2 R.1.to.length (rowOf (cStep true) R.1.to))])
def zca(x0:List UInt8):ye×Bool:=bif(((!decide ((((zao x0 32).length:Nat):Int)=4))||(decide (((((zao x0 32).getD 0 wl).length:Nat):Int)<2)))||(decide (((((zao x0 32).getD 1 wl).length:Nat):Int)<1))) then((ye.mk ([]:List UInt8) 0 0 ([]:List ya) ([]:List ya)),false) else(jn (fun K1=>bif((decide (0<((((l3Cut ((zao x0 32).getD 1 wl)).2).length:Nat):Int)))&&(decide (((((l3Cut ((zao x0 32).getD 1 wl)).2).getD 0 0).toNat:Int)=94))) then(K1 ((((l3Cut ((zao x0 32).getD 1 wl)).2).drop 1).take ((((l3Cut ((zao x0 32).getD 1 wl)).2).length) - 1),1)) else(bif((decide (0<((((l3Cut ((zao x0 32).getD 1 wl)).2).length:Nat):Int)))&&(decide (((((l3Cut ((zao x0 32).getD 1 wl)).2).getD ((((((l3Cut ((zao x0 32).getD 1 wl)).2).length:Nat):Int) - 1).toNat) 0).toNat:Int)=36))) then(K1 ((((l3Cut ((zao x0 32).getD 1 wl)).2).drop 0).take (((((((l3Cut ((zao x0 32).getD 1 wl)).2).length:Nat):Int) - 1).toNat) - 0),2)) else(K1 ((l3Cut ((zao x0 32).getD 1 wl)).2,0)))) (fun (j1:(List UInt8)×Int)=>bif((!(zaz (ye.mk ((((zao x0 32).getD 0 wl).drop 0).take (((((((zao x0 32).getD 0 wl).length:Nat):Int) - 1).toNat) - 0)) ((l3Cut ((zao x0 32).getD 1 wl)).1) j1.2 (zdf j1.1) (zdf ((zao x0 32).getD 3 wl)))))||(!((zcp (ye.mk ((((zao x0 32).getD 0 wl).drop 0).take (((((((zao x0 32).getD 0 wl).length:Nat):Int) - 1).toNat) - 0)) ((l3Cut ((zao x0 32).getD 1 wl)).1) j1.2 (zdf j1.1) (zdf ((zao x0 32).getD 3 wl))))==x0))) then((ye.mk ([]:List UInt8) 0 0 ([]:List ya) ([]:List ya)),false) else((ye.mk ((((zao x0 32).getD 0 wl).drop 0).take (((((((zao x0 32).getD 0 wl).length:Nat):Int) - 1).toNat) - 0)) ((l3Cut ((zao x0 32).getD 1 wl)).1) j1.2 (zdf j1.1) (zdf ((zao x0 32).getD 3 wl))),true)))
def zse(x0:List UInt8)(j1:(List UInt8)×Int):Dl:=let q1:=(zao x0 32).getD 0 wl;⟨[(7,.str j1.1)],[(5,.var [.str ((q1.drop 0).take (((((q1.length:Nat):Int) - 1).toNat) - 0)),.int .i64 ((l3Cut ((zao x0 32).getD 1 wl)).1),.int .i64 j1.2,.nilS,.own 1040])]⟩
def A208j1(x0:List UInt8)(j1:(List UInt8)×Int):Ann:=let q1:=(ye.mk ((((zao x0 32).getD 0 wl).drop 0).take (((((((zao x0 32).getD 0 wl).length:Nat):Int) - 1).toNat) - 0)) ((l3Cut ((zao x0 32).getD 1 wl)).1) j1.2 (zdf j1.1) (zdf ((zao x0 32).getD 3 wl)));let q2:=zaz q1;.reg 1 [] [(1,k207 j1.1)] [0,2,3,5] [2,5,1040,1080] [] [] [] [0] (.reg 1 [] [(1,k76 q1),(5,cg (!(!q2)) (k25 q1))] [2,3,5,90] [2,5,1040,1080] [!(!q2),!q2] [] [] [0,1,4,1,1,6] (cn ((!q2)||(!((zcp q1)==x0))) (r0 1 [2,3,5] [2,5,1040,1080] (rt [(0,none),(1,none)] (C208 ((ye.mk ([]:List UInt8) 0 0 ([]:List ya) ([]:List ya)),false)))) (r0 1 [2,3] [2,1040,1080] (rt [(0,some 1080),(1,some 1040)] (C208 (q1,true))))))
def A208(x0:List UInt8):Ann:=let q4:=(zao x0 32).getD 1 wl;let q2:=(((zao x0 32).length:Nat):Int);let q7:=(l3Cut q4).2;let q10:=!decide (q2=4);let q3:=((((zao x0 32).getD 0 wl).length:Nat):Int);let q1:=((q7.length:Nat):Int);let q8:=(0≤(0:Int)∧(0:Int)<q2);let q9:=(0≤(1:Int)∧(1:Int)<q2);let q11:=(q1 - 1:Int);let q6:=decide (0<q1);let q5:=q10||(decide (q3<2));.reg 2 [] [(1001,k270 x0 32)] [0,2,3,4] [2,1009] [] [] [] [0] (.reg 1 [] [] [0,2,3,4,26] [2,1009] [!q10,!decide (q2=4),!q5,q10||(decide (q3<2))] [gt (!q10) (pf q8),gt (!q5) (pf q9)] [] [1,0,1,1,1,6,9,4,9,9,9,14] (cn (q5||(decide (((q4.length:Nat):Int)<1))) (r0 1 [0,2,3,4] [2,1009] (rt [(0,none),(1,none)] (C208 ((ye.mk ([]:List UInt8) 0 0 ([]:List ya) ([]:List ya)),false)))) (.reg 3 [] [(12,k207 ((zao x0 32).getD 3 wl)),(1003,k206 q4)] [0,2,3,5,7] [2,5,1040] [] [pf q8,pf (inR .i64 (q3 - 1)),pf (0≤(0:Int)∧(0:Int)≤q3 - 1∧(q3 - 1:Int)≤q3),pf (0≤(3:Int)∧(3:Int)<q2),pf q9] [] [0,0,4,8,12,20,16,24] (.join 0 ((List UInt8)×Int) (zse x0) [0,2,3,5,7] [2,5,1040] (.reg 1 [] [] [0,2,3,5,7,58] [2,5,1040] [decide (0<q1)] [gt q6 (pf (0≤(0:Int)∧(0:Int)<q1))] [] [1,0,1,1] (cn (q6&&(decide (((q7.getD 0 0).toNat:Int)=94))) (r0 1 [0,2,3,5,7] [2,5,1040] (r1 1 [0,2,3,5,7] [2,5,1040] [pf (0≤(1:Int)∧(1:Int)≤q1∧(q1:Int)≤q1)] [0] (.next 0 [] (zse x0 ((q7.drop 1).take ((q7.length) - 1),1))))) (.reg 1 [] [] [0,2,3,5,7,72] [2,5,1040] [decide (0<q1)] [gt q6 (pf (inR .i64 (q1 - 1))),gt q6 (pf (0≤q11∧q11<q1))] [] [1,1,0,1,1,4,1,1] (cn (q6&&(decide (((q7.getD ((q1 - 1).toNat) 0).toNat:Int)=36))) (r0 1 [0,2,3,5,7] [2,5,1040] (r1 1 [0,2,3,5,7] [2,5,1040] [pf (inR .i64 (q1 - 1)),pf (0≤(0:Int)∧(0:Int)≤q1 - 1∧q11≤q1)] [0,4] (.next 0 [] (zse x0 ((q7.drop 0).take (((q1 - 1).toNat) - 0),2))))) (.next 0 [] (zse x0 ((l3Cut q4).2,0))))))) (A208j1 x0)))))
theorem zen(x0 : List UInt8)(hx : x0.length ≤ 1048576) : FnT Tryz.prog 208 [.str x0] (C208 (zca x0)) := by
 refine Fn.gp 93 Tryz.func208 (by kernel_rfl) (by kernel_rfl) vaF (A208 x0) (by kernel_rfl) fun R hR=>?_;refine rg ⟨vbo,trivial⟩ ?_;refine rg ⟨vaA,vaA,trivial⟩ ?_;refine cd (fun hc1 hR=>?_) (fun hc1 hR=>?_) hR
 ·refine rT ?_;exact oe C208 hR
 refine rg ⟨vaA,vae,vaA,vaA,vaA,vae,vae,trivial⟩ ?_;refine jN (fun v=>(v.1:List UInt8).length≤1048576) (fun F101 hR hJ101=>?_) (fun j1 hR hJ1=>?_) hR
 ·refine rg ⟨vau, trivial⟩ ?_;refine cd (fun hc2 hR => ?_) (fun hc2 hR => ?_) hR
  ·refine rT ?_;refine rg ⟨vau, trivial⟩ ?_;exact hJ101 _ hR vad
  refine rg ⟨vae,by((try clear hR hJ101);intros;(try simp only[ob,oa,oi,oc,zaw,za4,zci,od,inR] at *);(repeat' apply YU)<;>(intros;omega)),trivial⟩ ?_;refine cd (fun hc3 hR=>?_) (fun hc3 hR=>?_) hR
  ·refine rT ?_;refine rg ⟨vad, vau, trivial⟩ ?_;exact hJ101 _ hR vad
  exact hJ101 _ hR vae
 refine rg ⟨vbo,trivial⟩ ?_;refine rg ⟨vae,fun hg0=>by(have h9:=zbm x0 32 0;have h8:=zbm x0 32 1;have h7:=zbm x0 32 3;have h6:=zfq ((zao x0 32).getD 1 wl);have h5:=zcu ((zao x0 32).getD 3 wl);(try have h4:=zcu j1.1);(try dsimp only);(try simp only[inR,yK,yL]);omega),trivial⟩ ?_;refine cd (fun hc4 hR=>?_) (fun hc4 hR=>?_) hR
 ·refine rT ?_;exact oe C208 hR
 refine rT ?_;exact oe C208 hR
def k208(x0:List UInt8):Cl:=(hres (C208 (zca x0)),k1 (zen x0))
def C205(R:(List ye)):LV×List (Nat×BC):=(.own 0,[(0,.arr 5 R.length (rowOf (cRule true) R))])
def zfn(x0:List (List UInt8)):(List ye):=loopN (fun i1 (v1:(List ye)) next=>next (v1++[((zca (x0.getD i1 wl)).1)])) (fun (v1:(List ye))=>v1) x0.length 0 ([]:List ye)
def zw8(i1:Nat)(v1:(List ye)):Dl:=⟨[(11,.int .i64 (i1:Int)),(3,.own 20003)],[(20003,.arr 5 v1.length (rowOf (cRule true) v1))]⟩
def A205b1(x0:List (List UInt8))(i1:Nat)(v1:(List ye)):Ann:=let q2:=((i1:Nat):Int);let q3:=((x0.length:Nat):Int);let q1:=(zca (x0.getD i1 wl)).1;r0 1 [2,3,9,10,11,12] [20003] (cn (decide (q2<q3)) (.reg 2 [] [(1001,k208 (x0.getD i1 wl))] [2,3,6,9,10,11] [6,1017,2017,20003] [] [pf (0≤(q2:Int)∧(q2:Int)<q3)] [] [0,4] (.reg 1 [] [(2,bsC 22 (cRule true) ([q1]:List ye)),(3,ap1 23 (cRule true) 80 v1 q1)] [2,3,9,10,11] [23] [] [] [] [0,4] (r1 1 [2,3,9,10,11] [23] [pf (inR .i64 (q2+1))] [0] (.next 0 [(20003,some 23)] (zw8 (i1+1) (v1++[q1])))))) (r0 1 [2] [20003] (rt [(0,some 20003)] (C205 v1))))
def A205(x0:List (List UInt8)):Ann:=.reg 2 [] [(1000,bsC 8 (cRule true) ([]:List ye))] [0,2,3] [8] [] [] [] [0] (r0 1 [2,3,9,10,11] [8] (lp (zw8) [] [8] [(20003,some 8)] (zw8 0 ([]:List ye)) (A205b1 x0)))
theorem zj0(x0 : List (List UInt8))(hx : x0.length ≤ 1000)(hy : ∀y ∈ x0, y.length ≤ 1000) : FnT Tryz.prog 205 [.ro false 1 x0.length (rowOf (cStr) x0)] (C205 (zfn x0)) := by
 refine Fn.gp 26 Tryz.func205 (by kernel_rfl) (by kernel_rfl) vaG (A205 x0) (by kernel_rfl) fun R hR=>?_;refine rg ⟨trivial,trivial⟩ ?_;refine rT ?_;refine lN (fun i v=>(v:List ye).length≤i) vbm rfl (fun i1 v1 F1 hn1 hI1 hR hK1=>?_) hR;refine rT ?_;refine⟨fun hc1=>?_,fun hc1=>?_⟩
 ·have hii1 : i1 < x0.length := vbr
  replace hR:=zaq hR hii1;refine rg ⟨vbN,by(exact yM (hy _ (zat (d:=wl) hii1)) vbW),trivial⟩ ?_;refine rg ⟨trivial,vbX,trivial⟩ ?_;refine rg ⟨vbk,trivial⟩ ?_;exact hK1 (v1++[((zca (x0.getD i1 wl)).1)]) hii1 vbm hR
 obtain rfl:i1=x0.length:=by have:=oz hc1;omega
 replace hR:=zau hR (oP _);refine rT ?_;exact oe C205 hR
def k205(x0:List (List UInt8)):Cl:=(hres (C205 (zfn x0)),k2 (zj0 x0))
def zdp(x0:List UInt8):(List ye):=bif(x0==[103,101,110,101,114,97,116,105,111,110]) then(zfn (([[102,98,58,32,70,66,32,45,62,32,70],[102,122,58,32,70,90,32,45,62,32,77],[109,98,58,32,77,66,32,45,62,32,70],[109,122,58,32,77,90,32,45,62,32,77],[98,115,58,32,66,83,32,45,62,32,83],[98,100,58,32,66,68,32,45,62,32,68],[122,115,58,32,90,83,32,45,62,32,83],[122,100,58,32,90,68,32,45,62,32,68]]:List (List UInt8))++([[102,115,58,32,70,83,32,45,62,32,66],[102,100,58,32,70,68,32,45,62,32,90],[109,115,58,32,77,83,32,45,62,32,66],[109,100,58,32,77,68,32,45,62,32,90]]:List (List UInt8)))) else(bif(x0==[109,101,114,103,105,110,103]) then(zfn (([[102,98,58,32,70,66,32,45,62,32,70],[109,122,58,32,77,90,32,45,62,32,77],[98,115,58,32,109,58,66,83,32,45,62,32,83],[98,100,58,32,109,58,66,68,32,45,62,32,68],[122,115,58,32,119,58,90,83,32,45,62,32,83],[122,100,58,32,119,58,90,68,32,45,62,32,68]]:List (List UInt8))++([[102,115,58,32,70,83,32,45,62,32,66],[102,100,58,32,70,68,32,45,62,32,90],[109,115,58,32,77,83,32,45,62,32,66],[109,100,58,32,77,68,32,45,62,32,90]]:List (List UInt8)))) else(bif(x0==[115,107,101,119,105,110,103]) then(zfn ((([[102,98,58,32,70,66,32,45,62,32,70],[109,122,58,32,77,90,32,45,62,32,77],[98,115,58,32,109,58,66,83,32,45,62,32,83],[98,100,58,32,109,58,66,68,32,45,62,32,68],[122,115,58,32,119,58,90,83,32,45,62,32,83],[122,100,58,32,119,58,90,68,32,45,62,32,68]]:List (List UInt8))++([[102,115,58,32,70,83,32,45,62,32,66],[102,100,58,32,70,68,32,45,62,32,90],[109,115,58,32,77,83,32,45,62,32,66],[109,100,58,32,77,68,32,45,62,32,90]]:List (List UInt8)))++([[109,98,115,58,32,77,66,83,32,45,62,32,77,66],[109,98,100,58,32,77,66,68,32,45,62,32,77]]:List (List UInt8)))) else([]:List ye)))
def A143(x0:List UInt8):Ann:=.reg 3 [] [(1000,bsC 5 (cStr) (([[102,115,58,32,70,83,32,45,62,32,66],[102,100,58,32,70,68,32,45,62,32,90],[109,115,58,32,77,83,32,45,62,32,66],[109,100,58,32,77,68,32,45,62,32,90]]:List (List UInt8)):List (List UInt8))),(2000,bsC 6 (cStr) (([[102,98,58,32,70,66,32,45,62,32,70],[109,122,58,32,77,90,32,45,62,32,77],[98,115,58,32,109,58,66,83,32,45,62,32,83],[98,100,58,32,109,58,66,68,32,45,62,32,68],[122,115,58,32,119,58,90,83,32,45,62,32,83],[122,100,58,32,119,58,90,68,32,45,62,32,68]]:List (List UInt8)):List (List UInt8))),(2002,apC 8 (cStr) 16 ([[102,98,58,32,70,66,32,45,62,32,70],[109,122,58,32,77,90,32,45,62,32,77],[98,115,58,32,109,58,66,83,32,45,62,32,83],[98,100,58,32,109,58,66,68,32,45,62,32,68],[122,115,58,32,119,58,90,83,32,45,62,32,83],[122,100,58,32,119,58,90,68,32,45,62,32,68]]:List (List UInt8)) ([[102,115,58,32,70,83,32,45,62,32,66],[102,100,58,32,70,68,32,45,62,32,90],[109,115,58,32,77,83,32,45,62,32,66],[109,100,58,32,77,68,32,45,62,32,90]]:List (List UInt8)))] [0,2,3,4] [5,8] [] [] [] [0,4,8] (r0 1 [2,3,4,9] [5,8] (r0 1 [2,3,4,9,10] [5,8] (cn (x0==[103,101,110,101,114,97,116,105,111,110]) (.reg 1 [] [(0,bsC 12 (cStr) (([[102,98,58,32,70,66,32,45,62,32,70],[102,122,58,32,70,90,32,45,62,32,77],[109,98,58,32,77,66,32,45,62,32,70],[109,122,58,32,77,90,32,45,62,32,77],[98,115,58,32,66,83,32,45,62,32,83],[98,100,58,32,66,68,32,45,62,32,68],[122,115,58,32,90,83,32,45,62,32,83],[122,100,58,32,90,68,32,45,62,32,68]]:List (List UInt8)):List (List UInt8))),(2,apC 14 (cStr) 16 ([[102,98,58,32,70,66,32,45,62,32,70],[102,122,58,32,70,90,32,45,62,32,77],[109,98,58,32,77,66,32,45,62,32,70],[109,122,58,32,77,90,32,45,62,32,77],[98,115,58,32,66,83,32,45,62,32,83],[98,100,58,32,66,68,32,45,62,32,68],[122,115,58,32,90,83,32,45,62,32,83],[122,100,58,32,90,68,32,45,62,32,68]]:List (List UInt8)) ([[102,115,58,32,70,83,32,45,62,32,66],[102,100,58,32,70,68,32,45,62,32,90],[109,115,58,32,77,83,32,45,62,32,66],[109,100,58,32,77,68,32,45,62,32,90]]:List (List UInt8))),(3,k205 (([[102,98,58,32,70,66,32,45,62,32,70],[102,122,58,32,70,90,32,45,62,32,77],[109,98,58,32,77,66,32,45,62,32,70],[109,122,58,32,77,90,32,45,62,32,77],[98,115,58,32,66,83,32,45,62,32,83],[98,100,58,32,66,68,32,45,62,32,68],[122,115,58,32,90,83,32,45,62,32,83],[122,100,58,32,90,68,32,45,62,32,68]]:List (List UInt8))++([[102,115,58,32,70,83,32,45,62,32,66],[102,100,58,32,70,68,32,45,62,32,90],[109,115,58,32,77,83,32,45,62,32,66],[109,100,58,32,77,68,32,45,62,32,90]]:List (List UInt8))))] [2] [1015] [] [] [] [0,4,8] (rt [(0,some 1015)] (C205 (zfn (([[102,98,58,32,70,66,32,45,62,32,70],[102,122,58,32,70,90,32,45,62,32,77],[109,98,58,32,77,66,32,45,62,32,70],[109,122,58,32,77,90,32,45,62,32,77],[98,115,58,32,66,83,32,45,62,32,83],[98,100,58,32,66,68,32,45,62,32,68],[122,115,58,32,90,83,32,45,62,32,83],[122,100,58,32,90,68,32,45,62,32,68]]:List (List UInt8))++([[102,115,58,32,70,83,32,45,62,32,66],[102,100,58,32,70,68,32,45,62,32,90],[109,115,58,32,77,83,32,45,62,32,66],[109,100,58,32,77,68,32,45,62,32,90]]:List (List UInt8))))))) (r0 1 [2,4,9,16] [8] (cn (x0==[109,101,114,103,105,110,103]) (.reg 1 [] [(1,k205 (([[102,98,58,32,70,66,32,45,62,32,70],[109,122,58,32,77,90,32,45,62,32,77],[98,115,58,32,109,58,66,83,32,45,62,32,83],[98,100,58,32,109,58,66,68,32,45,62,32,68],[122,115,58,32,119,58,90,83,32,45,62,32,83],[122,100,58,32,119,58,90,68,32,45,62,32,68]]:List (List UInt8))++([[102,115,58,32,70,83,32,45,62,32,66],[102,100,58,32,70,68,32,45,62,32,90],[109,115,58,32,77,83,32,45,62,32,66],[109,100,58,32,77,68,32,45,62,32,90]]:List (List UInt8))))] [2] [1019] [] [] [] [0] (rt [(0,some 1019)] (C205 (zfn (([[102,98,58,32,70,66,32,45,62,32,70],[109,122,58,32,77,90,32,45,62,32,77],[98,115,58,32,109,58,66,83,32,45,62,32,83],[98,100,58,32,109,58,66,68,32,45,62,32,68],[122,115,58,32,119,58,90,83,32,45,62,32,83],[122,100,58,32,119,58,90,68,32,45,62,32,68]]:List (List UInt8))++([[102,115,58,32,70,83,32,45,62,32,66],[102,100,58,32,70,68,32,45,62,32,90],[109,115,58,32,77,83,32,45,62,32,66],[109,100,58,32,77,68,32,45,62,32,90]]:List (List UInt8))))))) (r0 1 [2,4,20] [8] (cn (x0==[115,107,101,119,105,110,103]) (.reg 1 [] [(1,bsC 23 (cStr) (([[109,98,115,58,32,77,66,83,32,45,62,32,77,66],[109,98,100,58,32,77,66,68,32,45,62,32,77]]:List (List UInt8)):List (List UInt8))),(2,apC 24 (cStr) 16 (([[102,98,58,32,70,66,32,45,62,32,70],[109,122,58,32,77,90,32,45,62,32,77],[98,115,58,32,109,58,66,83,32,45,62,32,83],[98,100,58,32,109,58,66,68,32,45,62,32,68],[122,115,58,32,119,58,90,83,32,45,62,32,83],[122,100,58,32,119,58,90,68,32,45,62,32,68]]:List (List UInt8))++([[102,115,58,32,70,83,32,45,62,32,66],[102,100,58,32,70,68,32,45,62,32,90],[109,115,58,32,77,83,32,45,62,32,66],[109,100,58,32,77,68,32,45,62,32,90]]:List (List UInt8))) ([[109,98,115,58,32,77,66,83,32,45,62,32,77,66],[109,98,100,58,32,77,66,68,32,45,62,32,77]]:List (List UInt8))),(3,k205 ((([[102,98,58,32,70,66,32,45,62,32,70],[109,122,58,32,77,90,32,45,62,32,77],[98,115,58,32,109,58,66,83,32,45,62,32,83],[98,100,58,32,109,58,66,68,32,45,62,32,68],[122,115,58,32,119,58,90,83,32,45,62,32,83],[122,100,58,32,119,58,90,68,32,45,62,32,68]]:List (List UInt8))++([[102,115,58,32,70,83,32,45,62,32,66],[102,100,58,32,70,68,32,45,62,32,90],[109,115,58,32,77,83,32,45,62,32,66],[109,100,58,32,77,68,32,45,62,32,90]]:List (List UInt8)))++([[109,98,115,58,32,77,66,83,32,45,62,32,77,66],[109,98,100,58,32,77,66,68,32,45,62,32,77]]:List (List UInt8))))] [2] [1025] [] [] [] [0,4,8] (rt [(0,some 1025)] (C205 (zfn ((([[102,98,58,32,70,66,32,45,62,32,70],[109,122,58,32,77,90,32,45,62,32,77],[98,115,58,32,109,58,66,83,32,45,62,32,83],[98,100,58,32,109,58,66,68,32,45,62,32,68],[122,115,58,32,119,58,90,83,32,45,62,32,83],[122,100,58,32,119,58,90,68,32,45,62,32,68]]:List (List UInt8))++([[102,115,58,32,70,83,32,45,62,32,66],[102,100,58,32,70,68,32,45,62,32,90],[109,115,58,32,77,83,32,45,62,32,66],[109,100,58,32,77,68,32,45,62,32,90]]:List (List UInt8)))++([[109,98,115,58,32,77,66,83,32,45,62,32,77,66],[109,98,100,58,32,77,66,68,32,45,62,32,77]]:List (List UInt8))))))) (r0 1 [2] [] (rt [(0,none)] (C205 ([]:List ye)))))))))))
theorem zdu(x0 : List UInt8)(hx : x0.length ≤ 1000) : FnT Tryz.prog 143 [.str x0] (C205 (zdp x0)) := by
 refine Fn.gp 26 Tryz.func143 (by kernel_rfl) (by kernel_rfl) vaG (A143 x0) (by kernel_rfl) fun R hR=>?_;refine rg ⟨trivial,trivial,vbW,trivial⟩ ?_;refine rT ?_;refine rT ?_;refine cd (fun hc1 hR=>?_) (fun hc1 hR=>?_) hR
 ·refine rg ⟨trivial, vbW, ⟨vbW, vbW⟩, trivial⟩ ?_;exact oe C205 hR
 refine rT ?_;refine cd (fun hc2 hR=>?_) (fun hc2 hR=>?_) hR
 ·refine rg ⟨⟨vbW, vbW⟩, trivial⟩ ?_;exact oe C205 hR
 refine rT ?_;refine cd (fun hc3 hR=>?_) (fun hc3 hR=>?_) hR
 ·refine rg ⟨trivial, vbW, ⟨vbW, vbW⟩, trivial⟩ ?_;exact oe C205 hR
 refine rT ?_;exact oe C205 hR
def k143(x0:List UInt8):Cl:=(hres (C205 (zdp x0)),k1 (zdu x0))
def C83(R:yg):LV×List (Nat×BC):=(.agg [.own 0,.own 1],[(0,.arr 5 R.rules.length (rowOf (cRule true) R.rules)),(1,.arr 3 R.entries.length (rowOf (zam true) R.entries))])
def zjl(x0:List UInt8):yg:=jn (fun K1=>bif(x0==[103,101,110,101,114,97,116,105,111,110]) then(K1 16) else(bif(x0==[109,101,114,103,105,110,103]) then(K1 28) else(bif(x0==[115,107,101,119,105,110,103]) then(K1 24) else(K1 0)))) (fun (j1:Int)=>loopW (fun (v1:Int×(List yf)) next=>bif(decide (v1.1<j1)) then(next (v1.1+2,(v1.2++[(yf.mk ((zdq (([[70],[102,97,116,104,101,114],[77],[109,111,116,104,101,114],[66],[98,114,111,116,104,101,114],[90],[115,105,115,116,101,114],[83],[115,111,110],[68],[100,97,117,103,104,116,101,114],[72],[104,117,115,98,97,110,100],[87],[119,105,102,101],[70,90],[97,117,110,116],[77,66],[117,110,99,108,101],[70,90,83],[99,111,117,115,105,110],[70,90,68],[99,111,117,115,105,110],[77,66,83],[99,111,117,115,105,110],[77,66,68],[99,111,117,115,105,110]]:List (List UInt8)).getD v1.1.toNat wl)).1) (([[70],[102,97,116,104,101,114],[77],[109,111,116,104,101,114],[66],[98,114,111,116,104,101,114],[90],[115,105,115,116,101,114],[83],[115,111,110],[68],[100,97,117,103,104,116,101,114],[72],[104,117,115,98,97,110,100],[87],[119,105,102,101],[70,90],[97,117,110,116],[77,66],[117,110,99,108,101],[70,90,83],[99,111,117,115,105,110],[70,90,68],[99,111,117,115,105,110],[77,66,83],[99,111,117,115,105,110],[77,66,68],[99,111,117,115,105,110]]:List (List UInt8)).getD ((v1.1+1).toNat) wl))]))) else(yg.mk (zdp x0) v1.2)) (((28:Int) - 0).toNat+1) (0,([]:List yf)))
def D83j1(j1:Int):Dl:=⟨[(5,.int .i64 j1)],[]⟩
def D83b1(v1:Int×(List yf)):Dl:=⟨[(6,.int .i64 v1.1)],[(30301,.arr 3 v1.2.length (rowOf (zam true) v1.2)),(3,.var [.own 1010,.own 30301])]⟩
def A83b1(x0:List UInt8)(j1:Int)(v1:Int×(List yf)):Ann:=let q1:=(yf.mk ((zdq (([[70],[102,97,116,104,101,114],[77],[109,111,116,104,101,114],[66],[98,114,111,116,104,101,114],[90],[115,105,115,116,101,114],[83],[115,111,110],[68],[100,97,117,103,104,116,101,114],[72],[104,117,115,98,97,110,100],[87],[119,105,102,101],[70,90],[97,117,110,116],[77,66],[117,110,99,108,101],[70,90,83],[99,111,117,115,105,110],[70,90,68],[99,111,117,115,105,110],[77,66,83],[99,111,117,115,105,110],[77,66,68],[99,111,117,115,105,110]]:List (List UInt8)).getD v1.1.toNat wl)).1) (([[70],[102,97,116,104,101,114],[77],[109,111,116,104,101,114],[66],[98,114,111,116,104,101,114],[90],[115,105,115,116,101,114],[83],[115,111,110],[68],[100,97,117,103,104,116,101,114],[72],[104,117,115,98,97,110,100],[87],[119,105,102,101],[70,90],[97,117,110,116],[77,66],[117,110,99,108,101],[70,90,83],[99,111,117,115,105,110],[70,90,68],[99,111,117,115,105,110],[77,66,83],[99,111,117,115,105,110],[77,66,68],[99,111,117,115,105,110]]:List (List UInt8)).getD ((v1.1+1).toNat) wl));r0 1 [2,3,4,5,6,22] [2,3,12,1010,30301] (cn (decide (v1.1<j1)) (.reg 1 [] [(4,k144 (([[70],[102,97,116,104,101,114],[77],[109,111,116,104,101,114],[66],[98,114,111,116,104,101,114],[90],[115,105,115,116,101,114],[83],[115,111,110],[68],[100,97,117,103,104,116,101,114],[72],[104,117,115,98,97,110,100],[87],[119,105,102,101],[70,90],[97,117,110,116],[77,66],[117,110,99,108,101],[70,90,83],[99,111,117,115,105,110],[70,90,68],[99,111,117,115,105,110],[77,66,83],[99,111,117,115,105,110],[77,66,68],[99,111,117,115,105,110]]:List (List UInt8)).getD v1.1.toNat wl))] [2,3,4,5,6,7] [2,3,7,12,1010,1030,30301] [] [pf (0≤(v1.1:Int)∧(v1.1:Int)<((28:Nat):Int))] [] [0,4] (.reg 1 [] [(9,bsC 42 (zam true) ([q1]:List yf)),(10,ap1 43 (zam true) 48 v1.2 q1)] [2,3,4,5,6] [2,3,12,43,1010] [] [pf (inR .i64 (v1.1+1)),pf (0≤(v1.1+1:Int)∧(v1.1+1:Int)<((28:Nat):Int))] [] [0,4,8,12] (r1 1 [2,3,4,5,6] [2,3,12,43,1010] [pf (inR .i64 (v1.1+2))] [0] (.next 0 [(30301,some 43)] (D83b1 (v1.1+2,(v1.2++[q1]))))))) (r0 1 [2] [2,1010,30301] (rt [(0,some 1010),(1,some 30301)] (C83 (yg.mk (zdp x0) v1.2)))))
def A83j1(x0:List UInt8)(j1:Int):Ann:=r0 1 [2,3,4,5,6] [2,3,12,1010] (.loop (Int×(List yf)) (D83b1) [] [] [(30301,none)] (D83b1 (0,([]:List yf))) (A83b1 x0 j1))
def A83(x0:List UInt8):Ann:=.reg 4 [] [(1001,k143 x0),(2000,bsC 12 (cStr) (([[70],[102,97,116,104,101,114],[77],[109,111,116,104,101,114],[66],[98,114,111,116,104,101,114],[90],[115,105,115,116,101,114],[83],[115,111,110],[68],[100,97,117,103,104,116,101,114],[72],[104,117,115,98,97,110,100],[87],[119,105,102,101],[70,90],[97,117,110,116],[77,66],[117,110,99,108,101],[70,90,83],[99,111,117,115,105,110],[70,90,68],[99,111,117,115,105,110],[77,66,83],[99,111,117,115,105,110],[77,66,68],[99,111,117,115,105,110]]:List (List UInt8)):List (List UInt8)))] [0,2,3,4,5] [2,3,12,1010] [] [] [] [0,4] (.join 0 Int (D83j1) [2,3,4,5] [2,3,1010,12] (r0 1 [2,3,4,5,13] [2,3,12,1010] (r0 1 [2,3,4,5,13,14] [2,3,12,1010] (cn (x0==[103,101,110,101,114,97,116,105,111,110]) (r0 1 [2,3,4,5] [2,3,12,1010] (.next 0 [] (D83j1 16))) (r0 1 [2,3,4,5,13,16] [2,3,12,1010] (cn (x0==[109,101,114,103,105,110,103]) (r0 1 [2,3,4,5] [2,3,12,1010] (.next 0 [] (D83j1 28))) (r0 1 [2,3,4,5,18] [2,3,12,1010] (cn (x0==[115,107,101,119,105,110,103]) (r0 1 [2,3,4,5] [2,3,12,1010] (.next 0 [] (D83j1 24))) (.next 0 [] (D83j1 0))))))))) (A83j1 x0))
theorem zeg(x0 : List UInt8)(hx : x0.length ≤ 1000) : FnT Tryz.prog 83 [.str x0] (C83 (zjl x0)) := by
 refine Fn.gp 46 Tryz.func83 (by kernel_rfl) (by kernel_rfl) (by simp[C83,Frs,FrsL,FrsB,rowOf,cInt,cBool,cStr,cSl,zar,cStep,zag,cRule,zam,zah]) (A83 x0) (by kernel_rfl) fun R hR=>?_;refine rg ⟨vbo,trivial,trivial⟩ ?_;refine jN (fun v=>v=0∨v=16∨v=24∨v=28) (fun F101 hR hJ101=>?_) (fun j1 hR hJ1=>?_) hR
 ·refine rT ?_;refine rT ?_;refine cd (fun hc1 hR => ?_) (fun hc1 hR => ?_) hR
  ·refine rT ?_;exact hJ101 16 hR vbL
  refine rT ?_;refine cd (fun hc2 hR=>?_) (fun hc2 hR=>?_) hR
  ·refine rT ?_;exact hJ101 28 hR vbL
  refine rT ?_;refine cd (fun hc3 hR=>?_) (fun hc3 hR=>?_) hR
  ·refine rT ?_;exact hJ101 24 hR vbL
  exact hJ101 0 hR vbN
 refine rT ?_;refine lW (fun v=>(0≤v.1∧v.1≤28∧v.1 % 2=0)∧((v.2:List yf).length:Int)≤v.1) (fun v=>((28:Int) - v.1).toNat) (by((refine⟨?_,?_⟩<;>((try dsimp only);(try simp only[og,ot,oA]);omega)))) (oF _) rfl (fun m1 v1 F1 hI1 hM1 hR hK1=>?_) hR;refine rT ?_;refine cd (fun hc4 hR=>?_) (fun hc4 hR=>?_) hR
 ·refine rg ⟨vaV, by (exact yM (zf6 (n := 100) vbW _) vbW), trivial⟩ ?_;refine rg ⟨vaV, vaV, trivial, vbX, trivial⟩ ?_;refine rg ⟨vaV, trivial⟩ ?_;exact hK1 (v1.1 + 2, (v1.2 ++ [(yf.mk ((zdq (([[70], [102, 97, 116, 104, 101, 114], [77], [109, 111, 116, 104, 101, 114], [66], [98, 114, 111, 116, 104, 101, 114], [90], [115, 105, 115, 116, 101, 114], [83], [115, 111, 110], [68], [100, 97, 117, 103, 104, 116, 101, 114], [72], [104, 117, 115, 98, 97, 110, 100], [87], [119, 105, 102, 101], [70, 90], [97, 117, 110, 116], [77, 66], [117, 110, 99, 108, 101], [70, 90, 83], [99, 111, 117, 115, 105, 110], [70, 90, 68], [99, 111, 117, 115, 105, 110], [77, 66, 83], [99, 111, 117, 115, 105, 110], [77, 66, 68], [99, 111, 117, 115, 105, 110]] : List (List UInt8)).getD v1.1.toNat wl)).1) (([[70], [102, 97, 116, 104, 101, 114], [77], [109, 111, 116, 104, 101, 114], [66], [98, 114, 111, 116, 104, 101, 114], [90], [115, 105, 115, 116, 101, 114], [83], [115, 111, 110], [68], [100, 97, 117, 103, 104, 116, 101, 114], [72], [104, 117, 115, 98, 97, 110, 100], [87], [119, 105, 102, 101], [70, 90], [97, 117, 110, 116], [77, 66], [117, 110, 99, 108, 101], [70, 90, 83], [99, 111, 117, 115, 105, 110], [70, 90, 68], [99, 111, 117, 115, 105, 110], [77, 66, 83], [99, 111, 117, 115, 105, 110], [77, 66, 68], [99, 111, 117, 115, 105, 110]] : List (List UInt8)).getD ((v1.1 + 1).toNat) wl))])) (by ((have h9 := ol hc4; refine ⟨?_, ?_⟩ <;> ((try dsimp only); (try simp only [og, ot, oA]); omega)))) vaV hR
 refine rT ?_;exact oe C83 hR
theorem zp4{s : List UInt8}{k : IntKind}{n : Int}(w : World)(vs : List Value)(hl : vs.length = [LV.str s, LV.int k n].length)(h : ∀(i : Nat) lv v, [LV.str s, LV.int k n][i]? = some lv → vs[i]? = some v → RepA w lv v) : vs = [.string ⟨s.toArray⟩, .int k n] := by
 match vs,hl with
 |[v,u],_ =>have h1:=h 0 _ v rfl rfl 0;have h2:=h 1 _ u rfl rfl 0;cases h1;cases h2;rfl
theorem zvt{P:Program}{f:FuncId}{args:List LV}{k:IntKind}{n:Int}{vals:List Value}(ha:∀w vs,vs.length=args.length→(∀(i:Nat) lv v,args[i]?=some lv→vs[i]?=some v→RepA w lv v)→vs=vals)(h:∀w,Calls P f vals.toArray w fun e w'=>e=.returned (.int k n)∧w'=w):Lite.Fn P f args (.int k n) []:=Lite.Fn.of_calls ha fun w _=>(h w).mono fun e w' ⟨he,hw⟩=>⟨_,he,by rw[hw];exact .refl _ _,.val (fun _=>.int _ _) fun id hm=>vbS⟩
theorem zvu{P : Program}{f : FuncId}{args : List LV}{a b : List UInt8}{c : Bool}{vals : List Value}(ha : ∀w vs, vs.length = args.length → (∀(i : Nat) lv v, args[i]? = some lv → vs[i]? = some v → RepA w lv v) → vs = vals)
    (h:∀w,GH w→Calls P f vals.toArray w fun e w'=>e=.returned (.tuple #[.string ⟨a.toArray⟩,.string ⟨b.toArray⟩,.bool c])∧RowKit.Below w.heap.size w w'):Lite.Fn P f args (.tup [.str a,.str b,.bool c]) [] :=
  Lite.Fn.of_calls ha fun w hg => (h w hg).mono fun e w' ⟨he, hb⟩ => ⟨_, he, hb, .val (fun X => .tup _ _ rfl fun i lv u hl hu => by
    match i,hl,hu with
    |0,hl,hu=>cases hl;cases hu;exact .str _
    |1,hl,hu=>cases hl;cases hu;exact .str _
    |2,hl,hu=>cases hl;cases hu;exact .bool _
    |i + 3, hl, _ => simp at hl) fun id hm => by
      cases hm with
      |tup _ lv _ hlv hm' =>
        simp only[oQ,List.not_mem_nil,or_false] at hlv
        rcases hlv with rfl | rfl | rfl<;>cases hm'⟩
def C103(R:(List UInt8)×(List UInt8)×Bool):LV×List (Nat×BC):=(.tup [.str R.1,.str R.2.1,.bool R.2.2],[])
def cutS(x0 x1:List UInt8):List UInt8×List UInt8×Bool:=Lib.cut x0 x1
theorem zdk(x y : List UInt8) : (cutS x y).1.length ≤ x.length ∧ (cutS x y).2.1.length ≤ x.length := by
 unfold cutS Lib.cut;split
 ·simp only [yK, yL]; omega
 exact⟨ou _,yS _⟩
theorem zge(x0:List UInt8)(x1:List UInt8)(h:x0.length≤1048576∧x1.length≤1048576):FnT Tryz.prog 103 [.str x0,.str x1] (C103 (cutS x0 x1)):=by refine zvu zo0 fun w hg=>?_;obtain⟨_,_,⟨m,hm⟩,_⟩:=hg;refine(Tryz.strings_Cut ⟨x0.toArray⟩ ⟨x1.toArray⟩ m w (by show x0.toArray.size<_;simp;omega) hm).mono fun e w' ⟨he,n,hw⟩=>⟨he,?_⟩;rw[hw];exact⟨rfl,rfl,rfl,ou _,fun _ _=>rfl⟩
def k103(x0:List UInt8)(x1:List UInt8):Cl:=(hres (C103 (cutS x0 x1)),k1 (zge x0 x1))
def idxB(x0:List UInt8)(x1:Int):Int:=Lib.indexByte x0 x1.toNat.toUInt8
theorem ziu : ∀(l : List UInt8) (c : UInt8), Lib.indexByte l c < l.length
  |[],_=>by show(-1:Int)<0;decide
  |b :: l, c => by
    have ih:=ziu l c
    unfold Lib.indexByte
    split
    · simp only [ot];omega
    · split<;>(simp only [ot];omega)
theorem zrp(l:List UInt8)(c:Int):-1≤idxB l c∧idxB l c<l.length:=⟨Lib.indexByte_ge _ _,ziu _ _⟩
theorem zga(x0:List UInt8)(x1:Int)(h:x0.length≤1048576):FnT Tryz.prog 196 [.str x0,.int .u8 x1] (C149 (idxB x0 x1)):=zvt zp4 fun w=>Tryz.strings_IndexByte ⟨x0.toArray⟩ x1 w
def k196(x0:List UInt8)(x1:Int):Cl:=(hres (C149 (idxB x0 x1)),k1 (zga x0 x1))
def slPre(x0:List UInt8)(x1:List UInt8):Bool:=(decide (((x1.length:Nat):Int)≤((x0.length:Nat):Int)))&&(((x0.drop 0).take (x1.length - 0))==x1)
def A156(x0:List UInt8)(x1:List UInt8):Ann:=let q2:=((x1.length:Nat):Int);let q1:=(q2≤((x0.length:Nat):Int));.reg 2 [] [] [4] [] [decide q1] [gt (decide q1) (pf (0≤(0:Int)∧(0:Int)≤q2∧(q2:Int)≤((x0.length:Nat):Int)))] [] [1,1,1,0,1,1,1] (rt [] (C70 ((decide q1)&&(((x0.drop 0).take (x1.length - 0))==x1))))
theorem zct(x0:List UInt8)(x1:List UInt8)(h:x0.length≤1048576∧x1.length≤1048576):FnT Tryz.prog 156 [.str x0,.str x1] (C70 (slPre x0 x1)):=by refine Fn.gp 18 Tryz.func156 (by kernel_rfl) (by kernel_rfl) vby (A156 x0 x1) (by kernel_rfl) fun R hR=>?_;refine rg ⟨vaA,trivial⟩ ?_;exact oe C70 hR
def k156(x0:List UInt8)(x1:List UInt8):Cl:=(hres (C70 (slPre x0 x1)),k1 (zct x0 x1))
def C217(R:(List UInt8)×Bool):LV×List (Nat×BC):=(.tup [.str R.1,.bool R.2],[])
def zjp(x0:List UInt8)(x1:List UInt8):(List UInt8)×Bool:=bif(!(slPre x0 x1)) then(x0,false) else((x0.drop x1.length).take (x0.length - x1.length),true)
def A217(x0:List UInt8)(x1:List UInt8):Ann:=let q1:=((x0.length:Nat):Int);let q2:=(((x1.length:Nat):Int):Int);r0 1 [0,1,4,5] [] (.reg 1 [] [(2,k156 x0 x1)] [0,1,4,5,9] [] [] [] [] [0] (cn (!(slPre x0 x1)) (r0 1 [0,1,4,5] [] (rt [] (C217 (x0,false)))) (r1 1 [4,5] [] [pf (0≤q2∧q2≤q1∧(q1:Int)≤q1)] [0] (rt [] (C217 ((x0.drop x1.length).take (x0.length - x1.length),true))))))
theorem zem(x0 : List UInt8)(x1 : List UInt8)(h : x0.length ≤ 1048576 ∧ x1.length ≤ 1048576) : FnT Tryz.prog 217 [.str x0, .str x1] (C217 (zjp x0 x1)) := by
 refine Fn.gp 15 Tryz.func217 (by kernel_rfl) (by kernel_rfl) (by simp[C217,Frs,FrsL]) (A217 x0 x1) (by kernel_rfl) fun R hR=>?_;refine rT ?_;refine rg ⟨vbV,trivial⟩ ?_;refine cd (fun hc1 hR=>?_) (fun hc1 hR=>?_) hR
 ·refine rT ?_;exact oe C217 hR
 refine rg ⟨by(simp only[slPre,oc,ob,za4] at *;omega),trivial⟩ ?_;exact oe C217 hR
def k217(x0:List UInt8)(x1:List UInt8):Cl:=(hres (C217 (zjp x0 x1)),k1 (zem x0 x1))
def cutP(x0:List UInt8)(x1:List UInt8):(List UInt8)×Bool:=((zjp x0 x1).1,(zjp x0 x1).2)
def A157(x0:List UInt8)(x1:List UInt8):Ann:=.reg 2 [] [(1002,k217 x0 x1)] [4,5] [] [] [] [] [0] (rt [] (C217 ((zjp x0 x1).1,(zjp x0 x1).2)))
theorem zhw(x y:List UInt8):(cutP x y).1.length≤x.length:=by unfold cutP zjp;dsimp only;refine zai (p:=fun (r:List UInt8×Bool)=>r.1.length≤x.length) (fun _=>ou _) (fun _=>?_);simp only[yK,yL];omega
theorem zgc(x0:List UInt8)(x1:List UInt8)(h:x0.length≤1048576∧x1.length≤1048576):FnT Tryz.prog 157 [.str x0,.str x1] (C217 (cutP x0 x1)):=by refine Fn.gp 11 Tryz.func157 (by kernel_rfl) (by kernel_rfl) (by simp[C217,Frs,FrsL]) (A157 x0 x1) (by kernel_rfl) fun R hR=>?_;refine rg ⟨vbV,trivial⟩ ?_;exact oe C217 hR
def k157(x0:List UInt8)(x1:List UInt8):Cl:=(hres (C217 (cutP x0 x1)),k1 (zgc x0 x1))
def zjo(x0:List UInt8)(x1:List UInt8):(List UInt8)×Bool:=bif(!(slSuf x0 x1)) then(x0,false) else((x0.drop 0).take (((((x0.length:Nat):Int) - ((x1.length:Nat):Int)).toNat) - 0),true)
def A218(x0:List UInt8)(x1:List UInt8):Ann:=let q1:=((x0.length:Nat):Int);let q2:=((x1.length:Nat):Int);r0 1 [0,1,4,5] [] (.reg 1 [] [(2,k278 x0 x1)] [0,1,4,5,9] [] [] [] [] [0] (cn (!(slSuf x0 x1)) (r0 1 [0,1,4,5] [] (rt [] (C217 (x0,false)))) (r1 1 [4,5] [] [pf (inR .i64 (q1 - q2)),pf (0≤(0:Int)∧(0:Int)≤q1 - q2∧(q1 - q2:Int)≤q1)] [0,4] (rt [] (C217 ((x0.drop 0).take (((q1 - q2).toNat) - 0),true))))))
theorem zel(x0 : List UInt8)(x1 : List UInt8)(h : x0.length ≤ 1048576 ∧ x1.length ≤ 1048576) : FnT Tryz.prog 218 [.str x0, .str x1] (C217 (zjo x0 x1)) := by
 refine Fn.gp 18 Tryz.func218 (by kernel_rfl) (by kernel_rfl) (by simp[C217,Frs,FrsL]) (A218 x0 x1) (by kernel_rfl) fun R hR=>?_;refine rT ?_;refine rg ⟨vbV,trivial⟩ ?_;refine cd (fun hc1 hR=>?_) (fun hc1 hR=>?_) hR
 ·refine rT ?_;exact oe C217 hR
 refine rg ⟨vbk,by(simp only[slSuf,oc,ob,za4] at *;omega),trivial⟩ ?_;exact oe C217 hR
def k218(x0:List UInt8)(x1:List UInt8):Cl:=(hres (C217 (zjo x0 x1)),k1 (zel x0 x1))
def cutU(x0:List UInt8)(x1:List UInt8):(List UInt8)×Bool:=((zjo x0 x1).1,(zjo x0 x1).2)
def A158(x0:List UInt8)(x1:List UInt8):Ann:=.reg 2 [] [(1002,k218 x0 x1)] [4,5] [] [] [] [] [0] (rt [] (C217 ((zjo x0 x1).1,(zjo x0 x1).2)))
theorem zjh(x y:List UInt8):(cutU x y).1.length≤x.length:=by unfold cutU zjo;dsimp only;refine zai (p:=fun (r:List UInt8×Bool)=>r.1.length≤x.length) (fun _=>ou _) (fun _=>?_);simp only[yK,yL];omega
theorem zgb(x0:List UInt8)(x1:List UInt8)(h:x0.length≤1048576∧x1.length≤1048576):FnT Tryz.prog 158 [.str x0,.str x1] (C217 (cutU x0 x1)):=by refine Fn.gp 11 Tryz.func158 (by kernel_rfl) (by kernel_rfl) (by simp[C217,Frs,FrsL]) (A158 x0 x1) (by kernel_rfl) fun R hR=>?_;refine rg ⟨vbV,trivial⟩ ?_;exact oe C217 hR
def k158(x0:List UInt8)(x1:List UInt8):Cl:=(hres (C217 (cutU x0 x1)),k1 (zgb x0 x1))
def zeb(x0:Int):(List UInt8):=(([([]:List UInt8),[109,58],[119,58]]:List (List UInt8)).getD x0.toNat wl)
def A188(x0:Int):Ann:=.reg 2 [] [(1000,bsC 3 (cStr) (([([]:List UInt8),[109,58],[119,58]]:List (List UInt8)):List (List UInt8)))] [2] [] [] [pf (0≤(x0:Int)∧(x0:Int)<((3:Nat):Int))] [] [4,0] (rt [] (C57 (([([]:List UInt8),[109,58],[119,58]]:List (List UInt8)).getD x0.toNat wl)))
theorem zf7(x:Int):(zeb x).length≤2:=zf6 (n:=2) vbW _
theorem zeq(x0:Int)(h:0≤x0∧x0≤2):FnT Tryz.prog 188 [.int .i64 x0] (C57 (zeb x0)):=by refine Fn.gp 7 Tryz.func188 (by kernel_rfl) (by kernel_rfl) vbz (A188 x0) (by kernel_rfl) fun R hR=>?_;refine rg ⟨vbN,trivial,trivial⟩ ?_;exact oe C57 hR
def k188(x0:Int):Cl:=(hres (C57 (zeb x0)),k1 (zeq x0))
def za3(x0:List UInt8):Int×(List UInt8):=loopW (fun (v1:Int) next=>bif(decide (v1≤2)) then(bif((cutP x0 (zeb v1)).2) then(v1,(cutP x0 (zeb v1)).1) else(next (v1+1))) else(0,x0)) ((3 - (1:Int)).toNat+1) 1
def zyi(v1:Int):Dl:=⟨[(4,.int .i64 v1)],[]⟩
def A126b1(x0:List UInt8)(v1:Int):Ann:=r0 1 [0,2,3,4,8] [] (cn (decide (v1≤2)) (.reg 2 [] [(2,k188 v1),(3,k157 x0 (zeb v1))] [0,2,3,4,5,18] [] [] [] [] [0,4] (cn ((cutP x0 (zeb v1)).2) (r0 1 [0,2,3,4] [] (rt [] (C206 (v1,(cutP x0 (zeb v1)).1)))) (r1 1 [0,2,3,4] [] [pf (inR .i64 (v1+1))] [0] (.next 0 [] (zyi (v1+1)))))) (r0 1 [2,3] [] (rt [] (C206 (0,x0)))))
def A126(x0:List UInt8):Ann:=r0 1 [0,2,3] [] (r0 1 [0,2,3,4] [] (.loop Int (zyi) [] [] [] (zyi 1) (A126b1 x0)))
theorem zdm(s:List UInt8):(za3 s).2.length≤s.length:=by unfold za3;refine zdi (fun (v:Int)=>True) (fun v=>(3 - v).toNat) (fun (r:Int×List UInt8)=>r.2.length≤s.length) (fun v next _ hn=>?_) _ _ vbW trivial;refine zai (p:=fun (r:Int×List UInt8)=>r.2.length≤s.length) (fun c=>?_) (fun _=>ou _);have c:=ol c;exact zai (p:=fun (r:Int×List UInt8)=>r.2.length≤s.length) (fun _=>zhw _ _) (fun _=>hn _ trivial vbX)
theorem zlb(x0 : List UInt8)(hx : x0.length ≤ 1048576) : FnT Tryz.prog 126 [.str x0] (C206 (za3 x0)) := by
 refine Fn.gp 22 Tryz.func126 (by kernel_rfl) (by kernel_rfl) (by simp[C206,Frs,FrsL]) (A126 x0) (by kernel_rfl) fun R hR=>?_;refine rT ?_;refine rT ?_;refine lW (fun v=>1≤v∧v≤3) (fun v=>(3 - (v:Int)).toNat) vbN (oF _) rfl (fun m1 v1 F1 hI1 hM1 hR hK1=>?_) hR;refine rT ?_;refine cd (fun hc1 hR=>?_) (fun hc1 hR=>?_) hR
 ·refine rg ⟨by ((have h9 := ol (by assumption : decide (v1 ≤ 2) = true); (try simp only [inR]); omega)), by ((have h9 := zf7 v1; omega)), trivial⟩ ?_;refine cd (fun hc2 hR => ?_) (fun hc2 hR => ?_) hR
  ·refine rT ?_;exact oe C206 hR
  refine rg ⟨vaT,trivial⟩ ?_;exact hK1 (v1+1) vaT vaT hR
 refine rT ?_;exact oe C206 hR
def k126(x0:List UInt8):Cl:=(hres (C206 (za3 x0)),k1 (zlb x0))
def C127(R:(List ya)×Bool):LV×List (Nat×BC):=(.tup [.own 0,.bool R.2],[(0,.arr 2 R.1.length (rowOf (cStep true) R.1))])
def zch(x0:List UInt8):(List ya)×Bool:=loopW (fun (v1:(List ya)×Int) next=>bif(decide (v1.2<((x0.length:Nat):Int))) then(jn (fun K1=>bif(decide (((x0.getD v1.2.toNat 0).toNat:Int)=101)) then(K1 (v1.2+1,1)) else(bif(decide (((x0.getD v1.2.toNat 0).toNat:Int)=121)) then(K1 (v1.2+1,2)) else(K1 (v1.2,0)))) (fun (j1:Int×Int)=>bif(decide (j1.1=((x0.length:Nat):Int))) then(([]:List ya),false) else(bif(decide (((idxB [70,77,66,90,83,68,72,87] ((x0.getD j1.1.toNat 0).toNat:Int))+1)=0)) then(([]:List ya),false) else(next ((v1.1++[(ya.mk ((idxB [70,77,66,90,83,68,72,87] ((x0.getD j1.1.toNat 0).toNat:Int))+1) j1.2)]),j1.1+1))))) else(v1.1,true)) (((x0.length:Int) - 0).toNat+1) (([]:List ya),0)
def zyh(v1:(List ya)×Int):Dl:=⟨[(4,.own 20004),(5,.int .i64 v1.2)],[(20004,.arr 2 v1.1.length (rowOf (cStep true) v1.1))]⟩
def zss(j1:Int×Int):Dl:=⟨[(5,.int .i64 j1.1)],[(6,.var [.int .i64 0,.int .i64 j1.2])]⟩
def A127j1(x0:List UInt8)(v1:(List ya)×Int)(j1:Int×Int):Ann:=let q3:=((x0.length:Nat):Int);let q1:=((idxB [70,77,66,90,83,68,72,87] ((x0.getD j1.1.toNat 0).toNat:Int))+1);let q2:=ya.mk q1 j1.2;r0 1 [0,2,3,4,5,6,30] [6,20004] (cn (decide (j1.1=q3)) (r0 1 [0,2,3,4,5,6] [6,20004] (rt [(0,none)] (C127 (([]:List ya),false)))) (.reg 1 [] [(3,k196 [70,77,66,90,83,68,72,87] ((x0.getD j1.1.toNat 0).toNat:Int))] [0,2,3,4,5,6] [6,20004] [] [pf (0≤(j1.1:Int)∧(j1.1:Int)<q3),pf (inR .i64 q1)] [] [0,8,4] (r0 1 [0,2,3,4,5,6,39] [6,20004] (cn (decide (q1=0)) (r0 1 [0,2,3,4,5,6] [6,20004] (rt [(0,none)] (C127 (([]:List ya),false)))) (.reg 1 [] [(2,bsC 42 (cStep true) ([q2]:List ya)),(3,ap1 43 (cStep true) 16 v1.1 q2)] [0,2,3,4,5] [43] [] [] [] [0,4] (r1 1 [0,2,3,4,5] [43] [pf (inR .i64 (j1.1+1))] [0] (.next 0 [(20004,some 43)] (zyh ((v1.1++[q2]),j1.1+1)))))))))
def A127b1(x0:List UInt8)(v1:(List ya)×Int):Ann:=let q2:=((x0.length:Nat):Int);let q1:=((x0.getD v1.2.toNat 0).toNat:Int);r0 1 [0,2,3,4,5,10] [20004] (cn (decide (v1.2<q2)) (r0 1 [0,2,3,4,5,6] [6,20004] (.join 0 (Int×Int) (zss) [0,2,3,4,5,6] [20004,6] (r1 1 [0,2,3,4,5,6,16] [6,20004] [pf (0≤(v1.2:Int)∧(v1.2:Int)<q2)] [0] (r0 1 [0,2,3,4,5,6,16,17] [6,20004] (cn (decide (q1=101)) (r0 1 [0,2,3,4,5,6] [6,20004] (r1 1 [0,2,3,4,5,6] [6,20004] [pf (inR .i64 (v1.2+1))] [0] (.next 0 [] (zss (v1.2+1,1))))) (r0 1 [0,2,3,4,5,6,22] [6,20004] (cn (decide (q1=121)) (r0 1 [0,2,3,4,5,6] [6,20004] (r1 1 [0,2,3,4,5,6] [6,20004] [pf (inR .i64 (v1.2+1))] [0] (.next 0 [] (zss (v1.2+1,2))))) (.next 0 [] (zss (v1.2,0)))))))) (A127j1 x0 v1))) (r0 1 [2,3] [20004] (rt [(0,some 20004)] (C127 (v1.1,true)))))
def A127(x0:List UInt8):Ann:=r0 2 [0,2,3,4] [] (r0 1 [0,2,3,4,5] [] (.loop ((List ya)×Int) (zyh) [] [] [(20004,none)] (zyh (([]:List ya),0)) (A127b1 x0)))
theorem zb5(s:List UInt8):(zch s).1.length≤s.length:=by unfold zch;refine zdi (fun (v:List ya×Int)=>v.2≤s.length∧(v.1.length:Int)≤v.2) (fun v=>((s.length:Int) - v.2).toNat) (fun (r:List ya×Bool)=>r.1.length≤s.length) (fun v next hv hn=>?_) _ _ vbC ⟨vbC,Int.le_refl _⟩;refine zai (p:=fun (r:List ya×Bool)=>r.1.length≤s.length) (fun c=>?_) (fun _=>vbC);have c:=ol c;have go:∀j1:Int×Int,v.2≤j1.1→j1.1≤v.2+1→(bif(decide (j1.1=((s.length:Nat):Int))) then(([]:List ya),false) else(bif(decide (((idxB [70,77,66,90,83,68,72,87] ((s.getD j1.1.toNat 0).toNat:Int))+1)=0)) then(([]:List ya),false) else(next ((v.1++[(ya.mk ((idxB [70,77,66,90,83,68,72,87] ((s.getD j1.1.toNat 0).toNat:Int))+1) j1.2)]),j1.1+1)))).1.length≤s.length:=fun j1 h1 h2=>(by refine zai (p:=fun (r:List ya×Bool)=>r.1.length≤s.length) (fun _=>yS _) (fun c2=>zai (p:=fun (r:List ya×Bool)=>r.1.length≤s.length) (fun _=>yS _) (fun _=>?_));have c2:=oz c2;exact hn _ ⟨vbC,vbm⟩ vbC);unfold jn;refine zai (p:=fun (r:List ya×Bool)=>r.1.length≤s.length) (fun _=>go _ vbC vbC) (fun _=>zai (p:=fun (r:List ya×Bool)=>r.1.length≤s.length) (fun _=>go _ vbC vbC) (fun _=>go _ vbC vbC))
theorem zib(x0 : List UInt8)(hx : x0.length ≤ 1048576) : FnT Tryz.prog 127 [.str x0] (C127 (zch x0)) := by
 refine Fn.gp 45 Tryz.func127 (by kernel_rfl) (by kernel_rfl) (by simp[C127,Frs,FrsL,FrsB,rowOf,cInt,cBool,cStr,cSl,zar,cStep,zag,cRule,zam,zah]) (A127 x0) (by kernel_rfl) fun R hR=>?_;refine rT ?_;refine rT ?_;refine lW (fun v=>(0≤v.2∧v.2≤x0.length)∧((v.1:List ya).length:Int)≤v.2) (fun v=>((x0.length:Int) - v.2).toNat) (by((exact⟨⟨Int.le_refl _,vbC⟩,Int.le_refl _⟩))) (oF _) rfl (fun m1 v1 F1 hI1 hM1 hR hK1=>?_) hR;refine rT ?_;refine cd (fun hc1 hR=>?_) (fun hc1 hR=>?_) hR
 ·refine rT ?_;refine jN (fun v => v1.2 ≤ v.1 ∧ v.1 ≤ v1.2 + 1) (fun F101 hR hJ101 => ?_) (fun j1 hR hJ1 => ?_) hR
  ·refine rg ⟨vaP, trivial⟩ ?_;refine rT ?_;refine cd (fun hc2 hR => ?_) (fun hc2 hR => ?_) hR
   ·refine rT ?_;refine rg ⟨vaP, trivial⟩ ?_;exact hJ101 _ hR vbL
   refine rT ?_;refine cd (fun hc3 hR=>?_) (fun hc3 hR=>?_) hR
   ·refine rT ?_;refine rg ⟨vaP, trivial⟩ ?_;exact hJ101 _ hR vbL
   exact hJ101 _ hR vbN
  refine rT ?_;refine cd (fun hc4 hR=>?_) (fun hc4 hR=>?_) hR
  ·refine rT ?_;exact oe C127 hR
  refine rg ⟨vat,vat,vbW,trivial⟩ ?_;refine rT ?_;refine cd (fun hc5 hR=>?_) (fun hc5 hR=>?_) hR
  ·refine rT ?_;exact oe C127 hR
  refine rg ⟨trivial,vbX,trivial⟩ ?_;refine rg ⟨vat,trivial⟩ ?_;exact hK1 ((v1.1++[(ya.mk ((idxB [70,77,66,90,83,68,72,87] ((x0.getD j1.1.toNat 0).toNat:Int))+1) j1.2)]),j1.1+1) (by(have h9:=zrp [70,77,66,90,83,68,72,87] ((x0.getD j1.1.toNat 0).toNat:Int);simp only[ot,oA] at h9;(try simp only[ob,oa] at *);refine⟨⟨?_,?_⟩,?_⟩<;>((try dsimp only);(try simp only[og,ot,oA]);omega))) vat hR
 refine rT ?_;exact oe C127 hR
def k127(x0:List UInt8):Cl:=(hres (C127 (zch x0)),k1 (zib x0))
def zcx(x0:List ya):(List UInt8):=loopN (fun i1 (v1:(List UInt8)) next=>next (v1++((([([]:List UInt8),[101],[121]]:List (List UInt8)).getD (((x0.getD i1 wl).age).toNat) wl)++((([70,77,66,90,83,68,72,87]:List UInt8).drop ((((x0.getD i1 wl).kind) - 1).toNat)).take ((((x0.getD i1 wl).kind).toNat) - ((((x0.getD i1 wl).kind) - 1).toNat)))))) (fun (v1:(List UInt8))=>v1) x0.length 0 ([]:List UInt8)
def zxd(i1:Nat)(v1:(List UInt8)):Dl:=⟨[(8,.int .i64 (i1:Int)),(3,.str v1)],[]⟩
def A190b1(x0:List ya)(i1:Nat)(v1:(List UInt8)):Ann:=let q4:=((i1:Nat):Int);let q3:=x0.getD i1 wl;let q5:=((x0.length:Nat):Int);let q2:=(([([]:List UInt8),[101],[121]]:List (List UInt8)).getD ((q3.age).toNat) wl);let q1:=((([70,77,66,90,83,68,72,87]:List UInt8).drop (((q3.kind) - 1).toNat)).take (((q3.kind).toNat) - (((q3.kind) - 1).toNat)));r0 1 [2,3,6,7,8,9] [] (cn (decide (q4<q5)) (r1 1 [2,3,5,6,7,8] [5] [pf (0≤(q4:Int)∧(q4:Int)<q5)] [0] (.reg 1 [] [(1,bsC 13 (cStr) (([([]:List UInt8),[101],[121]]:List (List UInt8)):List (List UInt8)))] [2,3,6,7,8] [] [] [pf (0≤(q3.age:Int)∧(q3.age:Int)<((3:Nat):Int)),pf (inR .i64 ((q3.kind) - 1)),pf (0≤((q3.kind) - 1:Int)∧((q3.kind) - 1:Int)≤q3.kind∧(q3.kind:Int)≤(([70,77,66,90,83,68,72,87].length:Nat):Int)),pf (((q2.length+q1.length:Nat):Int)≤9223372036854775807),pf (((v1.length+(q2++q1).length:Nat):Int)≤9223372036854775807)] [] [20,0,4,8,12,16] (r1 1 [2,3,6,7,8] [] [pf (inR .i64 (q4+1))] [0] (.next 0 [] (zxd (i1+1) (v1++(q2++q1))))))) (r0 1 [2] [] (rt [] (C57 v1))))
def A190(x0:List ya):Ann:=r0 2 [0,2,3] [] (r0 1 [2,3,6,7,8] [] (lp (zxd) [] [] [] (zxd 0 ([]:List UInt8)) (A190b1 x0)))
theorem zdn(l:List ya):(zcx l).length≤10 * l.length:=by unfold zcx;refine zcd (fun i (v:List UInt8)=>v.length≤10 * i) (fun (r:List UInt8)=>r.length≤10 * l.length) (yS _) (fun i v next hi hv hn=>hn _ ?_) (fun v hv=>hv);have h8:=zf6 (l:=[([]:List UInt8),[101],[121]]) (n:=1) vbW (l.getD i wl).age.toNat;simp only[og,ot,oA,yK,yL];omega
theorem zeo(x0 : List ya)(hx : x0.length ≤ 1000)(hs : ∀s ∈ x0, (1 ≤ s.kind ∧ s.kind ≤ 8) ∧ 0 ≤ s.age ∧ s.age ≤ 2) : FnT Tryz.prog 190 [.ro false 2 x0.length (rowOf (cStep false) x0)] (C57 (zcx x0)) := by
 refine Fn.gp 28 Tryz.func190 (by kernel_rfl) (by kernel_rfl) vbz (A190 x0) (by kernel_rfl) fun R hR=>?_;refine rT ?_;refine rT ?_;refine lN (fun i v=>(v:List UInt8).length≤10 * i) (by(exact yS _)) rfl (fun i1 v1 F1 hn1 hI1 hR hK1=>?_) hR;refine rT ?_;refine⟨fun hc1=>?_,fun hc1=>?_⟩
 ·have hii1 : i1 < x0.length := vbr
  replace hR:=zaq hR hii1;refine rg ⟨vbN,trivial⟩ ?_;refine rg ⟨vag,vag,vag,vag,vag,trivial,trivial⟩ ?_;refine rg ⟨vag,trivial⟩ ?_;exact hK1 (v1++((([([]:List UInt8),[101],[121]]:List (List UInt8)).getD (((x0.getD i1 wl).age).toNat) wl)++((([70,77,66,90,83,68,72,87]:List UInt8).drop ((((x0.getD i1 wl).kind) - 1).toNat)).take ((((x0.getD i1 wl).kind).toNat) - ((((x0.getD i1 wl).kind) - 1).toNat))))) hii1 vag hR
 obtain rfl:i1=x0.length:=by have:=oz hc1;omega
 replace hR:=zau hR (oP _);refine rT ?_;exact oe C57 hR
def k190(x0:List ya):Cl:=(hres (C57 (zcx x0)),k2 (zeo x0))
def orDot(x0:List UInt8):(List UInt8):=bif(x0==([]:List UInt8)) then[46] else x0
def A189(x0:List UInt8):Ann:=r0 1 [0,2] [] (r0 1 [0,2,4] [] (cn (x0==([]:List UInt8)) (r0 1 [0,2] [] (rt [] (C57 [46]))) (r0 1 [2] [] (rt [] (C57 x0)))))
theorem zjw(s:List UInt8):(orDot s).length≤s.length+1:=by unfold orDot;refine zai (p:=fun (r:List UInt8)=>r.length≤s.length+1) (fun _=>vbZ) (fun _=>Nat.le_succ _)
theorem zhg(x0 : List UInt8) : FnT Tryz.prog 189 [.str x0] (C57 (orDot x0)) := by
 refine Fn.gp 6 Tryz.func189 (by kernel_rfl) (by kernel_rfl) vbz (A189 x0) (by kernel_rfl) fun R hR=>?_;refine rT ?_;refine rT ?_;refine cd (fun hc1 hR=>?_) (fun hc1 hR=>?_) hR
 ·refine rT ?_;exact oe C57 hR
 refine rT ?_;exact oe C57 hR
def k189(x0:List UInt8):Cl:=(hres (C57 (orDot x0)),k0 (zhg x0))
end Go.Proofs.YtnphfelaffdmkaaGreatDoor
