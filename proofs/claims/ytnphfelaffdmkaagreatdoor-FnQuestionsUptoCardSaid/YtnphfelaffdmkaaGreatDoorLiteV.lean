/- Whole functions executed at once: a tree beside the code tells the hints, what must be proved, and where ways meet. Conditions: none; over any program. -/
import Derived.Test.YtnphfelaffdmkaaGreatDoorLiteI
import Derived.Laws.Externs
import GoSem.Extern.ReflectliteSwapper
import Derived.KernelRfl
import Derived.OpenVars
import Derived.Deep.DeepHandedRow
import Derived.Lib.LaidTab
set_option linter.unusedVariables false
set_option linter.unusedSimpArgs false
namespace Go.Lite
open Go Go.RowKit
open _root_.List renaming mem_cons_of_mem→YL, range→yI, map_cons→YH, replicate→yw
open _root_.Nat renaming beq→yv, blt→Yu, beq_refl→Yy, ble→yy, mul_comm→Y2
open _root_.Inhabited renaming default→wl

structure Pf where
  Q:Prop
  P:Prop
  h:Q→P
structure Pz where
  P:Prop
  h:P
def pf(P:Prop):Pf:=⟨P,P,id⟩
def k0{P:Prop}(h:P):Pf:=⟨True,P,fun _=>h⟩
def k1{q P:Prop}(h:q→P):Pf:=⟨q,P,h⟩
def k2{q r P:Prop}(h:q→r→P):Pf:=⟨q∧r,P,fun x=>h x.1 x.2⟩
def k3{q r s P:Prop}(h:q→r→s→P):Pf:=⟨q∧r∧s,P,fun x=>h x.1 x.2.1 x.2.2⟩
def k4{q r s t P:Prop}(h:q→r→s→t→P):Pf:=⟨q∧r∧s∧t,P,fun x=>h x.1 x.2.1 x.2.2.1 x.2.2.2⟩
def k5{q r s t u P:Prop}(h:q→r→s→t→u→P):Pf:=⟨q∧r∧s∧t∧u,P,fun x=>h x.1 x.2.1 x.2.2.1 x.2.2.2.1 x.2.2.2.2⟩
def k6{q r s t u v P:Prop}(h:q→r→s→t→u→v→P):Pf:=⟨q∧r∧s∧t∧u∧v,P,fun x=>h x.1 x.2.1 x.2.2.1 x.2.2.2.1 x.2.2.2.2.1 x.2.2.2.2.2⟩
def k7{q r s t u v y P:Prop}(h:q→r→s→t→u→v→y→P):Pf:=⟨q∧r∧s∧t∧u∧v∧y,P,fun x=>h x.1 x.2.1 x.2.2.1 x.2.2.2.1 x.2.2.2.2.1 x.2.2.2.2.2.1 x.2.2.2.2.2.2⟩
def zf{P:Prop}(h:P):Pz:=⟨P,h⟩
def gt(g : Bool) : Pf → Pf
  |⟨Q,P,h⟩=>⟨g=true→Q,g=true→P,fun x y=>h (x y)⟩
def gf(g : Bool) : Pf → Pf
  |⟨Q,P,h⟩=>⟨g=false→Q,g=false→P,fun x y=>h (x y)⟩
abbrev Cl:=Hint×Pf
def cg(g:Bool)(c:Cl):Cl:=(c.1,gt g c.2)
def cT(c:Cl):Cl:=(.gT c.1,c.2)
def hres(t:LV×List (Nat×BC)):Hint:=.res t.1 (t.2.map fun x=>x.2)
def hresM(d:Nat)(ids:List Nat)(t:LV×List (Nat×BC)):Hint:=.resM d ids t.2 t.1

def nth{α : Type} : List α → Nat → Option α
  |[],_=>none
  |x :: _,0=>some x
  |_ :: r,n+1=>nth r n
theorem zuw{α : Type} : ∀{l : List α} {n : Nat} {x : α}, nth l n = some x → x ∈ l
  |[],n,x,h=>by cases h
  |y :: l,0,x,h=>by cases h;simp
  |y :: l,n+1,x,h=>YL _ (zuw h)
def dec(bs : List Bool)(ps : List Pf)(zs : List Pz)(c : Nat) : Prop :=
  match c % 4 with
  | 0 => match nth ps (c / 4) with
    |some p=>p.P
    |none=>True
  | 1 => match nth bs (c / 4) with
    |some b=>b=true→b=true
    |none=>True
  | 2 => match nth bs (c / 4) with
    |some b=>b=false→(!b)=true
    |none=>True
  | _ => match nth zs (c / 4) with
    |some p=>p.P
    |none=>True
def AllQ : List Pf → Prop → Prop
  |[],k=>k
  |⟨Q,_,_⟩ :: r,k=>Q∧AllQ r k
def AllK : List (Nat × Cl) → Prop → Prop
  |[],k=>k
  |(_,_,⟨Q,_,_⟩) :: r,k=>Q∧AllK r k
theorem ze6{k : Prop} : ∀{ps : List Pf}, AllQ ps k → (∀p ∈ ps, p.P) ∧ k
  |[],h=>⟨fun p hp=>(by cases hp),h⟩
  |⟨Q, P, hh⟩ :: r, h => by
    obtain⟨h1,h2⟩:=h
    obtain⟨g1,g2⟩:=ze6 h2
    grind
theorem zsx{k : Prop} : ∀{ps : List (Nat × Cl)}, AllK ps k → (∀p ∈ ps.map (fun x => x.2.2), p.P) ∧ k
  |[],h=>⟨fun p hp=>(by cases hp),h⟩
  |(n, hi, ⟨Q, P, hh⟩) :: r, h => by
    obtain⟨h1,h2⟩:=h
    obtain⟨g1,g2⟩:=zsx h2
    grind
theorem zbw{k k' : Prop}(hk : k → k') : ∀{ps : List Pf}, AllQ ps k → AllQ ps k'
  |[],h=>hk h
  |⟨_,_,_⟩ :: _,h=>⟨h.1,zbw hk h.2⟩
theorem zkw{k k' : Prop}(hk : k → k') : ∀{ps : List (Nat × Cl)}, AllK ps k → AllK ps k'
  |[],h=>hk h
  |(_,_,⟨_,_,_⟩) :: _,h=>⟨h.1,zkw hk h.2⟩
theorem znb{bs : List Bool}{ps : List Pf}{zs : List Pz}(h : ∀p ∈ ps, p.P)(c : Nat) : dec bs ps zs c := by
 unfold dec;split
 ·split
  ·rename_i p hp; exact h p (zuw hp)
  trivial
 ·grind
 ·grind
 split
 ·rename_i p hp; exact p.h
 trivial
theorem znp{bs : List Bool}{ps : List Pf}{zs : List Pz}(h : ∀p ∈ ps, p.P) : ∀cs : List Nat, All (cs.map (dec bs ps zs))
  |[]=>trivial
  |c :: cs=>⟨znb h c,znp h cs⟩

mutual
def fit(g : List (Nat × Option Nat))(fz : Nat → Option BC) : LV → LV → Option LV
  | .int k a, t => match t with
    |.int k' _=>bif decide (k=k') then some (.int k' a) else none
    |_=>none
  | .bool a, t => match t with
    |.bool _=>some (.bool a)
    |_=>none
  | .str a, t => match t with
    |.str _=>some (.str a)
    |_=>none
  | .agg l, t => match t with
    | .agg l' => match fitL g fz l l' with
      |some r=>some (.agg r)
      |none=>none
    |_=>none
  | .tup l, t => match t with
    | .tup l' => match fitL g fz l l' with
      |some r=>some (.tup r)
      |none=>none
    |_=>none
  | .ro fr sz n row, t => match t with
    |.ro fr' sz' _ _=>bif yv sz sz'&&(!fr'||fr) then some (.ro fr' sz' n row) else none
    |_=>none
  | .ep row off, t => match t with
    |.ep _ off'=>bif yv off off' then some (.ep row off') else none
    |_=>none
  | .nilS, t => match t with
    |.nilS=>some .nilS
    |.ro fr sz _ row=>some (.ro fr sz 0 row)
    | .own i => match look g i with
      |some none=>some (.own i)
      |_=>none
    |_=>none
  | .nilM, t => match t with
    |.nilM=>some .nilM
    |_=>none
  |.rm _ _,_=>none
  | .nilP, t => match t with
    |.nilP=>some .nilP
    |_=>none
  | .fn f, t => match t with
    |.fn f'=>bif yv f f' then some (.fn f') else none
    |_=>none
  | .clo f l, t => match t with
    | .clo f' l' => match fitL g fz l l' with
      |some r=>bif yv f f' then some (.clo f' r) else none
      |none=>none
    |_=>none
  | .vp i off, t => match t with
    |.vp i' off'=>bif yv off off'&&toId g i i' then some (.vp i' off') else none
    |_=>none
  | .own i, t => match t with
    |.own i'=>bif toId g i i' then some (.own i') else none
    | .ro fr sz' _ _ => match fz i with
      |some (.arr sz n row)=>bif yv sz sz' then some (.ro fr sz' n row) else none
      |some (.nest 1 _ sz n rows)=>bif yv 1 sz' then some (.ro fr sz' n fun k=>[nrT sz (rows k)]) else none
      |_=>none
    |_=>none
  | .ap i sz k off, t => match t with
    |.ap i' sz' _ off'=>bif yv sz sz'&&(yv off off'&&toId g i i') then some (.ap i' sz' k off') else none
    |_=>none
  | .mp i, t => match t with
    |.mp i'=>bif toId g i i' then some (.mp i') else none
    |_=>none
  | .k b o, t => match t with
    |.k b' o'=>bif yv b b'&&yv o o' then some (.k b' o') else none
    |_=>none
  | .er b, t => match t with
    |.er _=>some (.er b)
    |_=>none
  | .fv, t => match t with
    |.fv=>some .fv
    |_=>none
  | .any, t => match t with
    |.any=>some .any
    |_=>none
  | .ifc i v, t => match t with
    | .ifc i' v' => match fit g fz v v' with
      |some r=>bif yv i i' then some (.ifc i' r) else none
      |none=>none
    |_=>none
  |.whn _ _,_=>none
def fitL(g : List (Nat × Option Nat))(fz : Nat → Option BC) : List LV → List LV → Option (List LV)
  |[],[]=>some []
  | x :: l, y :: l' => match fit g fz x y, fitL g fz l l' with
    |some p,some q=>some (p :: q)
    |_,_=>none
  |_,_=>none
end
theorem zbi{α : Type}{c : Bool}{x y : α}(h : (bif c then some x else none) = some y) : c = true ∧ x = y := by
 cases c with
 |true =>exact⟨rfl,vbK⟩
 |false =>cases h
section
variable {g:List (Nat×Option Nat)} {fz:Nat→Option BC}
theorem opt_t{b:Bool}{l:List Prop}(h:b=true):opt b l=some l:=by subst h;rfl
mutual
theorem zkj : ∀{x t : LV}, fit g fz x t = some t → ∃p, cmp g fz x t = some p ∧ All p
  |.int k a, t, h => by
    cases t<;>simp only[fit] at h<;>try contradiction
    obtain⟨h1,h2⟩:=zbi h
    injection h2 with _ h2
    exact⟨[_],vbd,h2,trivial⟩
  |.bool a, t, h => by
    cases t<;>simp only[fit] at h<;>try contradiction
    injection h with h;injection h with h
    exact⟨[_],rfl,h,trivial⟩
  |.str a, t, h => by
    cases t<;>simp only[fit] at h<;>try contradiction
    injection h with h;injection h with h
    exact⟨[_],rfl,h,trivial⟩
  |.agg l, t, h => by
    cases t<;>simp only[fit] at h<;>try contradiction
    split at h
    · rename_i r hr
      injection h with h;injection h with h;subst h
      obtain⟨p,h1,h2⟩:=zht hr
      exact⟨p,by simp only[cmp,h1],h2⟩
    · cases h
  |.tup l, t, h => by
    cases t<;>simp only[fit] at h<;>try contradiction
    split at h
    · rename_i r hr
      injection h with h;injection h with h;subst h
      obtain⟨p,h1,h2⟩:=zht hr
      exact⟨p,by simp only[cmp,h1],h2⟩
    · cases h
  |.ro fr sz n row, t, h => by
    cases t<;>simp only[fit] at h<;>try contradiction
    obtain⟨h1,h2⟩:=zbi h
    injection h2 with _ _ h2 h3;subst h2;subst h3
    exact⟨[zbo n n row row],vbd,⟨rfl,fun _ _=>rfl⟩,trivial⟩
  |.ep row off, t, h => by
    cases t<;>simp only[fit] at h<;>try contradiction
    obtain⟨h1,h2⟩:=zbi h
    injection h2 with h2 h3;subst h2
    exact⟨[row=row],vbd,rfl,trivial⟩
  |.nilS, t, h => by
    cases t<;>simp only[fit] at h<;>try contradiction
    · injection h with h;injection h with _ _ h2 h3;subst h2
      exact⟨[_],rfl,rfl,trivial⟩
    · exact ⟨[],rfl,trivial⟩
    · split at h
      · rename_i h1;exact ⟨[],by simp only [cmp,h1],trivial⟩
      · cases h
  |.nilP, t, h => by
    cases t<;>simp only[fit] at h<;>try contradiction
    exact⟨[],rfl,trivial⟩
  |.clo f l, t, h => by
    cases t<;>simp only[fit] at h<;>try contradiction
    split at h
    · rename_i r hr
      obtain⟨h1,h2⟩:=zbi h
      injection h2 with _ h2;subst h2
      obtain⟨p,k1,k2⟩:=zht hr
      exact⟨p,by simp only[cmp,k1];exact opt_t h1,k2⟩
    · cases h
  |.rm _ _,t,h=>by cases t<;>simp only[fit] at h<;>contradiction
  |.nilM, t, h => by
    cases t<;>simp only[fit] at h<;>try contradiction
    exact⟨[],rfl,trivial⟩
  |.fn f, t, h => by
    cases t<;>simp only[fit] at h<;>try contradiction
    obtain⟨h1,h2⟩:=zbi h
    exact⟨[],vbd,trivial⟩
  |.vp i off, t, h => by
    cases t<;>simp only[fit] at h<;>try contradiction
    obtain⟨h1,h2⟩:=zbi h
    exact⟨[],vbd,trivial⟩
  |.own i, t, h => by
    cases t<;>simp only[fit] at h<;>try contradiction
    · split at h
      · rename_i sz n row hz
        obtain⟨h1,h2⟩:=zbi h
        injection h2 with _ _ h2 h3;subst h2;subst h3
        exact⟨[zbo n n row row],by simp only[cmp,hz];exact opt_t h1,⟨rfl,fun _ _=>rfl⟩,trivial⟩
      · rename_i cl sz n rows hz
        obtain⟨h1,h2⟩:=zbi h
        injection h2 with _ _ h2 h3;subst h2;subst h3
        exact⟨[zbo n n (fun k=>[nrT sz (rows k)]) (fun k=>[nrT sz (rows k)])],by simp only[cmp,hz];exact opt_t h1,⟨rfl,fun _ _=>rfl⟩,trivial⟩
      · cases h
    · obtain ⟨h1,h2⟩:=zbi h
      exact⟨[],vbd,trivial⟩
  |.ap i sz k off, t, h => by
    cases t<;>simp only[fit] at h<;>try contradiction
    obtain⟨h1,h2⟩:=zbi h
    injection h2 with _ _ h2 _
    exact⟨[_],vbd,h2,trivial⟩
  |.mp i, t, h => by
    cases t<;>simp only[fit] at h<;>try contradiction
    obtain⟨h1,h2⟩:=zbi h
    exact⟨[],vbd,trivial⟩
  |.k b o, t, h => by
    cases t<;>simp only[fit] at h<;>try contradiction
    obtain⟨h1,h2⟩:=zbi h
    exact⟨[],vbd,trivial⟩
  |.er b, t, h => by
    cases t<;>simp only[fit] at h<;>try contradiction
    injection h with h;injection h with h
    exact⟨[_],rfl,h,trivial⟩
  |.fv, t, h => by
    cases t<;>simp only[fit] at h<;>try contradiction
    exact⟨[],rfl,trivial⟩
  |.any, t, h => by
    cases t<;>simp only[fit] at h<;>try contradiction
    exact⟨[],rfl,trivial⟩
  |.ifc i v, t, h => by
    cases t<;>simp only[fit] at h<;>try contradiction
    split at h
    · rename_i r hr
      obtain⟨h1,h2⟩:=zbi h
      injection h2 with _ h2;subst h2
      obtain⟨p,k1,k2⟩:=zkj hr
      exact⟨p,by simp only[cmp,k1];exact opt_t h1,k2⟩
    · cases h
  |.whn b v,t,h=>by cases t<;>simp only[fit] at h<;>contradiction
theorem zht : ∀{l t : List LV}, fitL g fz l t = some t → ∃p, cmpL g fz l t = some p ∧ All p
  |[], t, h => by
    cases t with
    |nil=>exact⟨[],rfl,trivial⟩
    |cons y t=>cases h
  |x :: l, t, h => by
    cases t with
    |nil=>cases h
    |cons y t =>
      simp only[fitL] at h
      split at h
      · rename_i p q h1 h2
        injection h with h;injection h with e1 e2;subst e1;subst e2
        obtain⟨p1,k1,k2⟩:=zkj h1
        obtain⟨p2,k3,k4⟩:=zht h2
        exact⟨p1++p2,by simp only[cmpL,k1,k3],All.append.2 ⟨k2,k4⟩⟩
      · cases h
end
end
def fitB(g : List (Nat × Option Nat))(fz : Nat → Option BC)(o : Option (Option Nat))(sb : Nat → Option BC) : BC → Option BC
  | .var cs' => match o with
    | some (some j) => match sb j with
      | some (.var cs) => match fitL g fz cs cs' with
        |some r=>some (.var r)
        |none=>none
      |_=>none
    |_=>none
  | .arr sz' n' row' => match o with
    | some (some j) => match sb j with
      |some (.arr sz n row)=>bif yv sz sz' then some (.arr sz' n row) else none
      |_=>none
    |some none=>some (.arr sz' 0 row')
    |none=>none
  | .mp kd' m' => match o with
    | some (some j) => match sb j with
      |some (.mp kd m)=>some (.mp kd m)
      |_=>none
    |_=>none
  | .nest wd' _ sz' n' rows' => match o with
    | some (some j) => match sb j with
      |some (.nest wd cl sz n rows)=>bif yv sz sz'&&(yv wd wd'&&cl) then some (.nest wd' true sz' n rows) else none
      |_=>none
    |some none=>some (.nest wd' true sz' 0 rows')
    |none=>none
  | .bld T' e' s' => match o with
    | some (some j) => match sb j with
      |some (.bld T e s)=>bif yv T T'&&yv e e' then some (.bld T' e' s) else none
      |_=>none
    |_=>none
def fitSl(g : List (Nat × Option Nat))(fz : Nat → Option BC)(sl : Nat → Option LV) : List (Nat × LV) → Option (List (Nat × LV))
  |[]=>some []
  | x :: r => match sl x.1 with
    | some lv => match fit g fz lv x.2, fitSl g fz sl r with
      |some p,some q=>some ((x.1,p) :: q)
      |_,_=>none
    |none=>none
def fitBl(g : List (Nat × Option Nat))(fz : Nat → Option BC)(sb : Nat → Option BC) : List (Nat × BC) → Option (List (Nat × BC))
  |[]=>some []
  | x :: r => match (bif (putOf g x.1).isSome then none else fitB g fz (look g x.1) sb x.2), fitBl g fz sb r with
    |some p,some q=>some ((x.1,p) :: q)
    |_,_=>none
def fitS(g : List (Nat × Option Nat))(S T : St) : Option St :=
  bif okT g T then
    match fitSl g (fzOf (imgs g T.blks) (look S.blks)) (look S.slots) T.slots,fitBl g (fzOf (imgs g T.blks) (look S.blks)) (look S.blks) T.blks with
    |some p,some q=>some ⟨p,q,T.used⟩
    |_,_=>none
  else none
section
variable {g:List (Nat×Option Nat)} {fz:Nat→Option BC}
theorem zzn{o : Option (Option Nat)}{sb : Nat → Option BC}{c : BC}(h : fitB g fz o sb c = some c) : ∃p, cmpB g fz o sb none c = some p ∧ All p := by
 cases c with
 |var cs =>
  simp only[fitB] at h;split at h
  ·split at h
   ·rename_i cs' hcs;split at h
    ·rename_i r hr;injection h with h; injection h with h; subst h;obtain ⟨p, h1, h2⟩ := zht hr;exact ⟨p, by simp only [cmpB, hcs, h1], h2⟩
    cases h
   cases h
  cases h
 |arr sz n row =>
  simp only[fitB] at h;split at h
  ·split at h
   ·rename_i sz' n' row' hcs;obtain ⟨h1, h2⟩ := zbi h;injection h2 with _ h2 h3; subst h2; subst h3;exact ⟨[zbo n' n' row' row'], by simp only [cmpB, hcs]; exact opt_t h1, ⟨rfl, fun _ _ => rfl⟩, trivial⟩
   cases h
  ·injection h with h; injection h with _ h _;exact ⟨[_], rfl, h.symm, trivial⟩
  cases h
 |mp kd m =>
  simp only[fitB] at h;split at h
  ·split at h
   ·rename_i kd' m' hcs;injection h with h; injection h with h1 h2;exact ⟨[kd' = kd ∧ m' = m], by simp only [cmpB, hcs], ⟨h1, h2⟩, trivial⟩
   cases h
  cases h
 |bld T e s =>
  simp only[fitB] at h;split at h
  ·split at h
   ·rename_i T' e' s' hcs;obtain ⟨h1, h2⟩ := zbi h;injection h2 with _ _ h3; subst h3;simp only [oc] at h1;exact ⟨[s' = s'], by simp only [cmpB, hcs]; exact opt_t (by simp [h1.1, h1.2]), rfl, trivial⟩
   cases h
  cases h
 |nest wd clt sz n rows =>
  simp only[fitB] at h;split at h
  ·split at h
   ·rename_i wd' cl sz' n' rows' hcs;obtain ⟨h1, h2⟩ := zbi h;injection h2 with _ e _ h2 h3; subst h2; subst h3; subst e;simp only [oc] at h1;exact ⟨[z0h wd' n' n' rows' rows'], by simp only [cmpB, hcs]; exact opt_t (by simp [h1.1, h1.2.1, h1.2.2]), ⟨rfl, fun _ _ => rfl⟩, trivial⟩
   cases h
  ·injection h with h; injection h with _ e _ h _; subst e;exact ⟨[_], rfl, h.symm, trivial⟩
  cases h
theorem zry{sl : Nat → Option LV} : ∀{l : List (Nat × LV)}, fitSl g fz sl l = some l → ∃p, zgz g fz sl l = some p ∧ All p
  |[],h=>⟨[],rfl,trivial⟩
  |x :: l, h => by
    simp only[fitSl] at h
    split at h
    · rename_i lv hlv
      split at h
      · rename_i p q h1 h2
        injection h with h;injection h with e1 e2;subst e2
        obtain⟨p1,k1,k2⟩:=zkj (g:=g) (fz:=fz) (x:=lv) (t:=x.2) (by rw[h1,←e1])
        obtain⟨p2,k3,k4⟩:=zry h2
        exact⟨p1++p2,by simp only[zgz,hlv,k1,k3],All.append.2 ⟨k2,k4⟩⟩
      · cases h
    · cases h
theorem zjd{sb : Nat → Option BC} : ∀{l : List (Nat × BC)}, fitBl g fz sb l = some l → ∃p, zgm g fz sb l = some p ∧ All p
  |[],h=>⟨[],rfl,trivial⟩
  |x :: l, h => by
    simp only[fitBl] at h
    split at h
    · rename_i p q h1 h2
      injection h with h;injection h with e1 e2;subst e2
      have hpt : putOf g x.1 = none := by
        cases hp:putOf g x.1 with
        |none=>rfl
        |some d=>rw[hp] at h1;cases h1
      rw[hpt] at h1
      have h1:fitB g fz (look g x.1) sb x.2=some p:=h1
      obtain⟨p1,k1,k2⟩:=zzn (g:=g) (fz:=fz) (o:=look g x.1) (sb:=sb) (c:=x.2) (by rw[h1,←e1])
      rw[←hpt] at k1
      obtain⟨p2,k3,k4⟩:=zjd h2
      exact⟨p1++p2,by simp only[zgm,k1,k3],All.append.2 ⟨k2,k4⟩⟩
    · cases h
end
theorem H.fit{N : Nat}{w0 w : World}{X0 : Fr}{S T : St}{a : Act}(hs : H N w0 X0 S a w)(g : List (Nat × Option Nat))(h : fitS g S T = some T) : H N w0 X0 T a w := by
 unfold fitS at h;cases hT:okT g T with
 |false =>rw[hT] at h;cases h
 |true =>
  rw[hT] at h;split at h
  ·rename_i p q h1 h2;injection h with h;have e1 : p = T.slots := oe St.slots h;have e2 : q = T.blks := oe St.blks h;rw [e1] at h1; rw [e2] at h2;obtain ⟨p1, k1, k2⟩ := zry h1;obtain ⟨p2, k3, k4⟩ := zjd h2;exact hs.le g (vcs := p1 ++ p2) (by simp only [leS, hT, oC, k1, k3]) (All.append.2 ⟨k2, k4⟩)
  cases h

structure Dl where
  s:List (Nat×LV)
  b:List (Nat×BC)
inductive Ann : Type 1
  |reg (n:Nat) (hs:List (Nat×Hint)) (ks:List (Nat×Cl)) (ts is:List Nat) (bs:List Bool) (ps:List Pf) (zs:List Pz) (cs:List Nat) (next:Ann)
  |co (sl:Bool) (i n:Nat) (row:Nat→List LV) (ps:List Pf) (zs:List Pz) (c:Nat) (next:Ann)
  |put (id d n:Nat) (rows:Nat→NR) (ps:List Pf) (zs:List Pz) (c:Nat) (next:Ann)
  |fits (ds db:List Nat) (g:List (Nat×Option Nat)) (t:Dl) (next:Ann)
  |split (b:Bool) (x y:Ann)
  |cond (b:Bool) (bs:List Bool) (ps:List Pf) (cs:List Nat) (x y:Ann)
  |loop (G:Type) (D:G→Dl) (ds db:List Nat) (g:List (Nat×Option Nat)) (t:Dl) (body:G→Ann)
  |join (k:Nat) (G:Type) (D:G→Dl) (ts is:List Nat) (first:Ann) (rest:G→Ann)
  |next (k:Nat) (g:List (Nat×Option Nat)) (t:Dl)
  |ret (bs:List Bool) (ps:List Pf) (cs:List Nat) (g:List (Nat×Option Nat)) (t:LV×List (Nat×BC))
  |ex (R:Type) (rest:R→Ann)
def r0(n:Nat)(ts is:List Nat)(next:Ann):Ann:=.reg n [] [] ts is [] [] [] [] next
def r1(n:Nat)(ts is:List Nat)(ps:List Pf)(cs:List Nat)(next:Ann):Ann:=.reg n [] [] ts is [] ps [] cs next
def lp{S:Type}(D:Nat→S→Dl)(ds db:List Nat)(g:List (Nat×Option Nat))(t:Dl)(body:Nat→S→Ann):Ann:=.loop (Nat×S) (fun v=>D v.1 v.2) ds db g t fun v=>body v.1 v.2
def cn(b:Bool)(x y:Ann):Ann:=.cond b [] [] [] x y
def rt(g:List (Nat×Option Nat))(t:LV×List (Nat×BC)):Ann:=.ret [] [] [] g t

inductive CF where
  |seq (c:Code)
  |blk (id:Nat)
  |nxt (K:Dl→Prop) (base:St)
def popTo(id : Nat) : List CF → Option (List CF)
  |[]=>none
  |.blk i :: st=>bif yv i id then some st else popTo id st
  |.seq _ :: st=>popTo id st
  |.nxt _ _ :: st=>popTo id st
def adv : Nat → Option Code → List CF → Option (Option Code × List CF)
  |0,_,_=>none
  | f + 1, none, st => match st with
    |.seq b :: st'=>adv f (some b) st'
    |.blk _ :: st'=>adv f none st'
    |st=>some (none,st)
  | f + 1, some c, st => match c with
    |.seq a b=>adv f (some a) (.seq b :: st)
    |.block i x=>adv f (some x) (.blk i :: st)
    | .exit i => match popTo i st with
      |some st'=>adv f none st'
      |none=>none
    |.skip=>adv f none st
    |.label _=>adv f none st
    |c=>some (some c,st)
def ends : Option (Option Code × List CF) → Bool
  |some (some .ret,_)=>true
  |some (none,[])=>true
  |_=>false
def advJ : Nat → Nat → Option Code → List CF → Option (Code × Code × List CF)
  |0,_,_,_=>none
  | f + 1, k, none, st => match st with
    |.seq b :: st'=>advJ f k (some b) st'
    |.blk _ :: st'=>advJ f k none st'
    |_=>none
  | f + 1, k, some c, st => match c with
    | .seq a b => match k with
      |0=>some (a,b,st)
      |k+1=>advJ f k (some a) (.seq b :: st)
    |.block i x=>advJ f k (some x) (.blk i :: st)
    | .exit i => match popTo i st with
      |some st'=>advJ f k none st'
      |none=>none
    |.skip=>advJ f k none st
    |.label _=>advJ f k none st
    |_=>none
def keepA(ts is : List Nat)(s : St) : St :=
  match ts,is with
  |[],[]=>s
  |ts,is=>keepS ts is s
theorem H.keepA{N : Nat}{w0 : World}{X0 : Fr}{s : St}{a : Act}{w : World}(hs : H N w0 X0 s a w)(ts is : List Nat) : H N w0 X0 (keepA ts is s) a w := by
 unfold Lite.keepA;split
 ·exact hs
 exact hs.keep _ _
def regs(P : Program)(N : Nat)(hs : List (Nat × Hint)) : Nat → Nat → Option Code → List CF → St → Option (Option Code × List CF × St × List Prop)
  |0,_,c,st,s=>some (c,st,s,[])
  | n + 1, i, c, st, s => match adv 400 c st with
    | some (some (.region _ ops d), st') => match (bif d then zpw P N ops.toList hs i s else zn0 P N ops.toList hs ops.toList i s) with
      | some (s1, p) => match regs P N hs n (i + 1000) none st' s1 with
        |some (c2,st2,s2,q)=>some (c2,st2,s2,p++q)
        |none=>none
      |none=>none
    |_=>none
def dropS(ds db:List Nat)(s:St):St:=⟨s.slots.filter fun x=>!mem ds x.1,s.blks.filter fun x=>!mem db x.1,s.used⟩
def updS(base : St)(d : Dl) : St :=
  ⟨d.s ++ base.slots.filter fun x => (look d.s x.1).isNone, d.b ++ base.blks.filter fun x => (look d.b x.1).isNone, (d.b ++ base.blks.filter fun x => (look d.b x.1).isNone).map (·.1)⟩
def gOf(g:List (Nat×Option Nat))(base:St):List (Nat×Option Nat):=g++base.blks.map fun x=>(x.1,some x.1)
def fitR(P : Program)(fn : Func)(s : St)(g : List (Nat × Option Nat))(t : LV × List (Nat × BC)) : Option (List Prop × LV × List (Nat × BC)) :=
  match resLs P (look s.slots) (look s.blks) fn.results.toList with
  | some (l, p) => match fitBl g (fzOf (imgs g t.2) (look s.blks)) (look s.blks) t.2, fit g (fzOf (imgs g t.2) (look s.blks)) (oneOr l) t.1 with
    |some b,some r=>some (p,r,b)
    |_,_=>none
  |none=>none
def zrj : List (Nat × BC) → Nat → Bool
  |[],_=>true
  |x :: r,i=>yv x.1 i&&zrj r (i+1)
def okR(md : Option Nat)(g : List (Nat × Option Nat))(t : LV × List (Nat × BC)) : Bool :=
  match md with
  | none => okT g ⟨[], t.2, yI t.2.length⟩ && (zrj t.2 0 && (zdw (mem (yI t.2.length)) t.1 && (t.2.map (·.2)).all isArr))
  | some n => okT g ⟨[], t.2, t.2.map (·.1)⟩ && (zdw (mem (t.2.map (·.1))) t.1 && t.2.all fun x => varIn (mem (t.2.map (·.1))) x.2 && Yu x.1 (900000 + n))
def eqd{α:Type}(d:Bool)(x y:α):Prop:=(bif d then y else x)=y
def coS(sl : Bool)(i n : Nat)(row : Nat → List LV)(s : St) : Option (St × Prop) :=
  bif sl then match look s.slots i with
    |some (.ro fr sz n0 row0)=>some ({ s with slots:=(i,.ro fr sz n row) :: s.slots },zbo n0 n row0 row)
    |_=>none
  else match look s.blks i with
    |some (.arr sz n0 row0)=>some ({ s with blks:=s.blks.map fun x=>bif yv x.1 i then(i,.arr sz n row) else x },zbo n0 n row0 row)
    |_=>none

def putP(wd d len : Nat)(row : Nat → List LV)(n n' : Nat)(rows rows' : Nat → NR) : Prop :=
  n=n'∧∃k0,k0<cN wd n∧rows k0=.out d∧rows' k0=.row len row∧(∀k,k<cN wd n→k≠k0→rows' k=rows k)∧∀k id,k<cN wd n→rows' k≠.out id
def putS(id d n : Nat)(rows : Nat → NR)(s : St) : Option (St × Prop) :=
  match look s.blks id,look s.blks d with
  | some (.nest wd _ sz n0 rows0), some (.arr sz' len row) => bif yv sz sz' then
      some ({ s with blks:=(id,.nest wd true sz n rows) :: s.blks.filter fun x=>!Nat.beq x.1 d&&!Nat.beq x.1 id },putP wd d len row n0 n rows0 rows) else none
  |_,_=>none

section
variable (P:Program) (fn:Func) (N:Nat) (md:Option Nat) (tgt:LV×List (Nat×BC))
def go(d : Bool) : Ann → List (Dl → Prop) → Option Code → List CF → St → Prop
  | .reg n hs ks ts is bs ps zs cs next, K, c, st, s => match regs P N (hs ++ ks.map fun x => (x.1, x.2.1)) n 0 c st s with
    |some (c',st',s',vcs)=>eqd d vcs (cs.map (dec bs (ps++ks.map fun x=>x.2.2) zs))∧AllQ ps (AllK ks (go d next K c' st' (keepA ts is s')))
    |none=>d=true
  | .co sl i n row ps zs cc next, K, c, st, s => match coS sl i n row s with
    |some (s',p)=>eqd d p (dec [] ps zs cc)∧AllQ ps (go d next K c st s')
    |none=>d=true
  | .put id e n rows ps zs cc next, K, c, st, s => match putS id e n rows s with
    |some (s',p)=>eqd d p (dec [] ps zs cc)∧AllQ ps (go d next K c st s')
    |none=>d=true
  |.fits ds db g t next,K,c,st,s=>eqd d (fitS (gOf g (dropS ds db s)) s (updS (dropS ds db s) t)) (some (updS (dropS ds db s) t))∧go d next K c st (updS (dropS ds db s) t)
  |.split b x y,K,c,st,s=>(b=true→go d x K c st s)∧(b=false→go d y K c st s)
  | .cond b bs ps cs x y, K, c, st, s => match adv 400 c st with
    | some (some (.cond o x' y'), st') => match ev (look s.slots) o with
      |some (.bool b',vcs)=>eqd d b' b∧eqd d vcs (cs.map (dec bs ps []))∧AllQ ps ((b=true→go d x K (some x') st' s)∧(b=false→go d y K (some y') st' s))
      |_=>d=true
    |_=>d=true
  | .loop G D ds db g t body, K, c, st, s => match adv 400 c st with
    |some (some (.loop x), st') =>
      eqd d (fitS (gOf g (dropS ds db s)) s (updS (dropS ds db s) t)) (some (updS (dropS ds db s) t)) ∧
        ∃ J : Nat → G → Prop, (∃ m v, J m v ∧ D v = t) ∧ ∀ m v, J m v →
          go d (body v) ((fun t'=>∃v',(∃m',m'<m∧J m' v')∧D v'=t') :: K) (some x) (.nxt (fun t'=>∃v',(∃m',m'<m∧J m' v')∧D v'=t') (dropS ds db s) :: st') (updS (dropS ds db s) (D v))
    |_=>d=true
  | .join k G D ts is first rest, K, c, st, s => match advJ 400 k c st with
    |some (x, y, st') =>
      ∃ J : G → Prop, go d first ((fun t' => ∃ v', J v' ∧ D v' = t') :: K) (some x) (.nxt (fun t' => ∃ v', J v' ∧ D v' = t') (keepS ts is s) :: st') s ∧
        ∀v,J v→go d (rest v) K (some y) st' (updS (keepS ts is s) (D v))
    |_=>d=true
  | .next k g t, K, c, st, s => match adv 400 c st with
    | some (none, .nxt F base :: _) => eqd d (fitS (gOf g base) s (updS base t)) (some (updS base t)) ∧ (match d, nth K k with
      |true,some F'=>F' t
      |true,none=>False
      |false,_=>F t)
    | _ => match d, nth K k with
      |true,some F'=>F' t
      |true,none=>False
      |false,_=>False
  | .ret bs ps cs g t, K, c, st, s => match ends (adv 400 c st) with
    | true => match fitR P fn s g t with
      |some (p,t')=>eqd d p (cs.map (dec bs ps []))∧eqd d t' t∧eqd d (okR md g t) true∧AllQ ps (t=tgt)
      |none=>d=true
    |false=>d=true
  |.ex R rest,K,c,st,s=>∃r:R,go d (rest r) K c st s
def slim : Ann → List (Dl → Prop) → Prop
  |.reg _ _ ks _ _ _ ps _ _ next,K=>AllQ ps (AllK ks (slim next K))
  |.co _ _ _ _ ps _ _ next,K=>AllQ ps (slim next K)
  |.put _ _ _ _ ps _ _ next,K=>AllQ ps (slim next K)
  |.fits _ _ _ _ next,K=>slim next K
  |.split b x y,K=>(b=true→slim x K)∧(b=false→slim y K)
  |.cond b _ ps _ x y,K=>AllQ ps ((b=true→slim x K)∧(b=false→slim y K))
  |.loop G D _ _ _ t body,K=>∃J:Nat→G→Prop,(∃m v,J m v∧D v=t)∧∀m v,J m v→slim (body v) ((fun t'=>∃v',(∃m',m'<m∧J m' v')∧D v'=t') :: K)
  |.join _ G D _ _ first rest,K=>∃J:G→Prop,slim first ((fun t'=>∃v',J v'∧D v'=t') :: K)∧∀v,J v→slim (rest v) K
  | .next k _ t, K => match nth K k with
    |some F=>F t
    |none=>False
  |.ret _ ps _ _ t,_=>AllQ ps (t=tgt)
  |.ex R rest,K=>∃r:R,slim (rest r) K
variable {P fn N md tgt}
theorem zub : ∀{A : Ann} {K : List (Dl → Prop)} {c : Option Code} {st : List CF} {s : St}, slim tgt A K → go P fn N md tgt true A K c st s := by
 intro A;induction A with
 |reg n hs ks ts is bs ps zs cs next ih =>
  intro K c st s h;simp only[go];split
  ·exact ⟨rfl, zbw (zkw ih) h⟩
  grind
 |co sl i n row ps zs cc next ih =>
  intro K c st s h;simp only[go];split
  ·exact ⟨rfl, zbw ih h⟩
  grind
 |put id e n rows ps zs cc next ih =>
  intro K c st s h;simp only[go];split
  ·exact ⟨rfl, zbw ih h⟩
  grind
 |fits ds db g t next ih =>intro K c st s h;exact⟨rfl,ih h⟩
 |split b x y ih1 ih2 =>intro K c st s h;exact⟨fun hb=>ih1 (h.1 hb),fun hb=>ih2 (h.2 hb)⟩
 |cond b bs ps cs x y ih1 ih2 =>
  intro K c st s h;simp only[go];split
  ·split
   ·exact ⟨rfl, rfl, zbw (fun hh => ⟨fun hb => ih1 (hh.1 hb), fun hb => ih2 (hh.2 hb)⟩) h⟩
   grind
  grind
 |loop G D ds db g t body ih =>
  intro K c st s h;simp only[go];split
  ·obtain ⟨J, h1, h2⟩ := h;exact ⟨rfl, J, h1, fun m v hJ => ih v (h2 m v hJ)⟩
  grind
 |join k G D ts is first rest ih1 ih2 =>
  intro K c st s h;simp only[go];split
  ·obtain ⟨J, h1, h2⟩ := h;exact ⟨J, ih1 h1, fun v hJ => ih2 v (h2 v hJ)⟩
  grind
 |next k g t =>
  intro K c st s h;simp only[go];simp only[slim] at h;split
  ·refine ⟨rfl, ?_⟩;grind
  grind
 |ret bs ps cs g t =>
  intro K c st s h;simp only[go];split
  ·split
   ·exact ⟨rfl, rfl, rfl, h⟩
   grind
  grind
 |ex R rest ih =>intro K c st s h;obtain⟨r,h⟩:=h;exact⟨r,ih r h⟩
end

section
variable {P:Program} {fn:Func} {N:Nat} {md:Option Nat} {tgt:LV×List (Nat×BC)} {w0:World} {X0:Fr}
def den(P : Program)(N : Nat)(w0 : World)(X0 : Fr)(r : AP) : List CF → AP × List (Nat × AP)
  |[]=>(r,[])
  |.seq c :: st=>(fun a w=>W P c (den P N w0 X0 r st).1 r (den P N w0 X0 r st).2 a w,(den P N w0 X0 r st).2)
  |.blk id :: st=>((den P N w0 X0 r st).1,(id,(den P N w0 X0 r st).1) :: (den P N w0 X0 r st).2)
  |.nxt K base :: st=>(fun a w=>∃t,K t∧H N w0 X0 (updS base t) a w,(den P N w0 X0 r st).2)
def DP(P : Program)(N : Nat)(w0 : World)(X0 : Fr)(r : AP)(c : Option Code)(st : List CF) : AP := fun a w =>
  match c with
  |some c=>W P c (den P N w0 X0 r st).1 r (den P N w0 X0 r st).2 a w
  |none=>(den P N w0 X0 r st).1 a w
variable {r:AP}
theorem zfc{id : Nat} : ∀{st st' : List CF}, popTo id st = some st' → look (den P N w0 X0 r st).2 id = some (den P N w0 X0 r st').1
  |[],st',h=>by cases h
  |.seq c :: st,st',h=>zfc (st:=st) h
  |.nxt K base :: st,st',h=>zfc (st:=st) h
  |.blk i :: st, st', h => by
    simp only[popTo] at h
    simp only[den,look]
    cases hb:yv i id with
    | true=>rw[hb] at h;simp only[oC,oo] at h ⊢;rw[h]
    | false=>rw[hb] at h;simp only[oB] at h ⊢;exact zfc h
theorem zda : ∀{f : Nat} {c c' : Option Code} {st st' : List CF} {a : Act} {w : World}, adv f c st = some (c', st') → DP P N w0 X0 r c' st' a w → DP P N w0 X0 r c st a w
  |0,c,c',st,st',a,w,h,hd=>by cases h
  |f + 1, none, c', st, st', a, w, h, hd => by
    simp only[adv] at h
    split at h
    · exact zda (c:=some _) h hd
    · rename_i id st1;exact (zda (c:=none) h hd:DP P N w0 X0 r none st1 a w)
    · grind
  |f + 1, some c, c', st, st', a, w, h, hd => by
    simp only[adv] at h
    split at h
    · exact W.seq rfl (zda (c:=some _) h hd)
    · exact W.block _ (by simp [isBlk]) (zda (c:=some _) h hd)
    · split at h
      · rename_i st2 hp
        exact W.exit _ (by simp[zrn]) (zfc hp) (zda (c:=none) h hd)
      · cases h
    · exact W.skip rfl (zda (c:=none) h hd)
    · exact W.skip rfl (zda (c:=none) h hd)
    · grind
theorem zed : ∀{f k : Nat} {c : Option Code} {x y : Code} {st st' : List CF} {a : Act} {w : World}, advJ f k c st = some (x, y, st') → DP P N w0 X0 r (some (.seq x y)) st' a w → DP P N w0 X0 r c st a w
  |0,k,c,x,y,st,st',a,w,h,hd=>by cases h
  |f + 1, k, none, x, y, st, st', a, w, h, hd => by
    simp only[advJ] at h
    split at h
    · exact zed (c:=some _) h hd
    · rename_i id st1;exact (zed (c:=none) h hd:DP P N w0 X0 r none st1 a w)
    · cases h
  |f + 1, k, some c, x, y, st, st', a, w, h, hd => by
    simp only[advJ] at h
    split at h
    · split at h
      · grind
      · exact W.seq rfl (zed (c:=some _) h hd)
    · exact W.block _ (by simp [isBlk]) (zed (c:=some _) h hd)
    · split at h
      · rename_i st2 hp
        exact W.exit _ (by simp[zrn]) (zfc hp) (zed (c:=none) h hd)
      · cases h
    · exact W.skip rfl (zed (c:=none) h hd)
    · exact W.skip rfl (zed (c:=none) h hd)
    · cases h
theorem zmp(hm : P.follows .mixedOrders = true){hs : List (Nat × Hint)} : ∀{n i : Nat} {c c' : Option Code} {st st' : List CF} {s s' : St} {vcs : List Prop} {a : Act} {w : World}, regs P N hs n i c st s = some (c', st', s', vcs) → All vcs →
    H N w0 X0 s a w→(∀a w,H N w0 X0 s' a w→DP P N w0 X0 r c' st' a w)→DP P N w0 X0 r c st a w
  |0,i,c,c',st,st',s,s',vcs,a,w,h,ha,hs,hn=>by cases h;exact hn a w hs
  |n + 1, i, c, c', st, st', s, s', vcs, a, w, h, ha, hs', hn => by
    simp only[regs] at h
    split at h
    · rename_i id ops d st1 hadv
      split at h
      · rename_i s1 p h1
        split at h
        · rename_i c2 st2 s2 q h2
          cases h
          obtain⟨a1,a2⟩:=All.append.1 ha
          refine zda hadv ?_
          cases d with
          |true=>exact W.draw hs' hm rfl hs h1 a1 fun a w h3=>zmp hm (c:=none) h2 a2 h3 hn
          |false=>exact W.region hs' rfl hs h1 a1 fun a w h3=>zmp hm (c:=none) h2 a2 h3 hn
        · cases h
      · cases h
    · cases h
theorem zv8{sl : Bool}{i n : Nat}{row : Nat → List LV}{s s' : St}{p : Prop}{a : Act}{w : World}(h : coS sl i n row s = some (s', p))(hp : p)(hs : H N w0 X0 s a w) : H N w0 X0 s' a w := by
 obtain⟨E,hs⟩:=hs;unfold coS at h;cases sl with
 |true =>
  split at h
  ·rename_i fr sz n0 row0 hl;cases h;refine ⟨E, ⟨hs.size, hs.defers, hs.below, fun t lv ht => ?_, hs.blks, hs.injA, hs.live, fun t lv id ht hmm => ?_, hs.wfb, hs.wfn, hs.baseA, hs.bown, hs.pin, hs.pu, hs.szf, hs.gh, hs.xge⟩⟩
   ·simp only [St.fs, za2] at ht;by_cases e : t = i
    ·subst e;simp only [if_true, oo] at ht;subst ht;exact .c _ _ ((hs.slots t _ hl).ro_inv.rows (fun h => h) hp)
    simp only[e] at ht;exact hs.slots t lv ht
   simp only[St.fs,za2] at ht;by_cases e:t=i
   ·subst e;simp only [if_true, oo] at ht;subst ht;cases hmm
   simp only[e] at ht;exact hs.wfs t lv id ht hmm
  cases h
 |false =>
  simp only[oB] at h;split at h
  ·rename_i sz n0 row0 hl;cases h;have hlk : ∀ (l : List (Nat × BC)) (j : Nat), look (l.map fun x => bif yv x.1 i then (i, BC.arr sz n row) else x) j = if j = i then (look l i).map (fun _ => BC.arr sz n row) else look l j := by
    intro l j;induction l with
    |nil =>simp[look]
    |cons x l ih =>
     simp only[YH];cases hb:yv x.1 i with
     |true =>
      have e:=om hb;simp only[look];by_cases e2:j=i
      ·grind
      have h1 : yv i j = false := by
       cases hc:yv i j with
       |true =>exact absurd (om hc).symm e2
       |false =>rfl
      grind
     |false =>simp only[look];grind
   exact⟨E,(hs.re (σ':=St.fs ⟨s.slots,s.blks.map fun x=>bif yv x.1 i then(i,BC.arr sz n row) else x,s.used⟩) (id:=i) (sz:=sz) (n:=n) (row:=row) rfl rfl hl (by simp[St.fs,hlk,hl]) (fun j hj=>by simp[St.fs,hlk,hj]) (zq3 (wk:=false) hp)).1⟩
  cases h
theorem zgy{α : Type}(f : Nat → Bool) : ∀(l : List (Nat × α)) (j : Nat), look (l.filter fun x => f x.1) j = if f j = true then look l j else none
  |[],j=>by simp[look]
  |x :: l, j => by
    cases hx:f x.1 with
    |true =>
      rw[List.filter_cons_of_pos (by simpa using hx)]
      simp only[look]
      cases hb:yv x.1 j with
      |true=>have:=om hb;subst this;simp[hx]
      |false=>simp only[oB];exact zgy f l j
    |false =>
      rw[List.filter_cons_of_neg (by simp[hx])]
      rw[zgy f l j]
      simp only[look]
      cases hb:yv x.1 j with
      |true=>have:=om hb;subst this;simp[hx]
      |false=>rfl
theorem zs8{id d n : Nat}{rows : Nat → NR}{s s' : St}{p : Prop}{a : Act}{w : World}(h : putS id d n rows s = some (s', p))(hp : p)(hs : H N w0 X0 s a w) : H N w0 X0 s' a w := by
 obtain⟨E,hs⟩:=hs;unfold putS at h;split at h
 ·rename_i wd cl sz n0 rows0 sz' len row hb hbd;obtain ⟨hc, h9⟩ := zbi h;clear h;have e := om hc;subst e;obtain ⟨rfl, rfl⟩ := Prod.mk.inj h9;obtain ⟨e, k0, h1, h2, h3, h4, h5⟩ := hp;subst e;obtain ⟨E', hS⟩ := hs.putBack (σ := s.fs) hb hbd h1 h2 h3 h4 h5;refine ⟨E', hS.weaken _ (fun t lv ht => ht) (fun i c hi => ?_) (fun i hi => ?_)⟩
  ·simp only [St.fs, za2] at hi;by_cases e : i = id
   ·subst e;simp only [if_true, oo] at hi;simp [FS.upd, oneB, hi]
   rw[if_neg e,zgy (fun x=>!Nat.beq x d&&!Nat.beq x id)] at hi;split at hi
   ·rename_i hf;simp only [oc, od] at hf;have hk : killL [d] i = false := by
     cases hk:killL [d] i with
     |false =>rfl
     |true =>have:=oR.1 (killL_mem.1 hk);rw[this,Yy] at hf;cases hf.1
    simp only[FS.upd,oneB,if_neg e,hk,oT,if_false];exact hi
   cases hi
  have hi':((oneB id (BC.nest wd true sz n0 rows) i).isSome||memU s.used i)=true:=hi;rcases oi _ _ ▸ hi' with h6 | h6
  ·have e : i = id := by
    unfold oneB at h6;by_cases e:i=id
    ·exact e
    simp[e] at h6
   subst e;exact hs.live i (by rw[show s.fs.blk i=_ from hb];simp)
  exact h6
 cases h
theorem zrr(hm : P.follows .mixedOrders = true)(hr : ∀{s : St} {g : List (Nat × Option Nat)} {p : List Prop} {a : Act} {w : World}, fitR P fn s g tgt = some (p, tgt) → okR md g tgt = true → All p → H N w0 X0 s a w → r a w) : ∀{A : Ann} {K : List (Dl → Prop)} {c : Option Code} {st : List CF} {s : St} {a : Act} {w : World}, go P fn N md tgt false A K c st s → H N w0 X0 s a w → DP P N w0 X0 r c st a w := by
 intro A;induction A with
 |reg n hs ks ts is bs ps zs cs next ih =>
  intro K c st s a w h hh;simp only[go] at h;split at h
  ·rename_i c' st' s' vcs he;obtain ⟨e, h⟩ := h;obtain ⟨h1, h⟩ := ze6 h;obtain ⟨h2, h⟩ := zsx h;refine zmp hm he ?_ hh fun a w h3 => ih h (h3.keepA ts is);rw [show vcs = _ from e];refine znp (fun p hp => ?_) cs;grind
  cases h
 |co sl i n row ps zs cc next ih =>
  intro K c st s a w h hh;simp only[go] at h;split at h
  ·rename_i s' p he;obtain ⟨e, h⟩ := h;obtain ⟨h1, h⟩ := ze6 h;refine ih h (zv8 he ?_ hh);rw [show p = _ from e];exact znb h1 cc
  cases h
 |put id e n rows ps zs cc next ih =>
  intro K c st s a w h hh;simp only[go] at h;split at h
  ·rename_i s' p he;obtain ⟨e1, h⟩ := h;obtain ⟨h1, h⟩ := ze6 h;refine ih h (zs8 he ?_ hh);rw [show p = _ from e1];exact znb h1 cc
  cases h
 |fits ds db g t next ih =>intro K c st s a w h hh;exact ih h.2 (hh.fit _ h.1)
 |split b x y ih1 ih2 =>
  intro K c st s a w h hh;cases b with
  |true =>exact ih1 (h.1 rfl) hh
  |false =>exact ih2 (h.2 rfl) hh
 |cond b bs ps cs x y ih1 ih2 =>
  intro K c st s a w h hh;simp only[go] at h;split at h
  ·rename_i o x' y' st' hadv;split at h
   ·rename_i b' vcs he;obtain ⟨e1, e2, h⟩ := h;obtain ⟨h1, h⟩ := ze6 h;have e1 : b' = b := e1;subst e1;refine zda hadv (W.cond hh rfl he ?_ (fun hb => ih1 (h.1 hb) hh) (fun hb => ih2 (h.2 hb) hh));rw [show vcs = _ from e2];exact znp h1 cs
   cases h
  cases h
 |loop G D ds db g t body ih =>
  intro K c st s a w h hh;simp only[go] at h;split at h
  ·rename_i x st' hadv;obtain ⟨e, J, ⟨m, v, hJ, hD⟩, h⟩ := h;refine zda hadv (W.loop rfl (G := Nat × G) (fun q a w => J q.1 q.2 ∧ H N w0 X0 (updS (dropS ds db s) (D q.2)) a w) (fun q => q.1) (m, v) ⟨hJ, ?_⟩ fun q a w hq => ?_)
   ·rw [hD]; exact hh.fit _ e
   refine(show W P x _ r _ a w from ih q.2 (h q.1 q.2 hq.1) hq.2).mono fun a w ⟨t',⟨v',⟨m',hm',hJ'⟩,hD'⟩,hH⟩=>⟨(m',v'),⟨hJ',?_⟩,hm'⟩;grind
  cases h
 |join k G D ts is first rest ih1 ih2 =>
  intro K c st s a w h hh;simp only[go] at h;split at h
  ·rename_i x y st' hadv;obtain ⟨J, h1, h2⟩ := h;refine zed hadv (W.seqM rfl _ (ih1 h1 hh) fun a w ⟨t', ⟨v', hJ', hD'⟩, hH⟩ => ?_);exact ih2 v' (h2 v' hJ') (by rw [hD']; exact hH)
  cases h
 |next k g t =>
  intro K c st s a w h hh;simp only[go] at h;split at h
  ·rename_i F base st' hadv;exact zda hadv ⟨t, h.2, hh.fit _ h.1⟩
  grind
 |ret bs ps cs g t =>
  intro K c st s a w h hh;simp only[go] at h;split at h
  ·rename_i hadv;split at h
   ·rename_i p t' he;obtain ⟨e1, e2, e3, h⟩ := h;obtain ⟨h1, h⟩ := ze6 h;subst h;have e2 : t' = t := e2;subst e2;have h9 : r a w := hr he e3 (by rw [show p = _ from e1]; exact znp h1 cs) hh;unfold ends at hadv;split at hadv
    ·rename_i st' he9; exact zda he9 (W.ret rfl h9)
    ·rename_i he9; exact zda he9 h9
    cases hadv
   cases h
  cases h
 |ex R rest ih =>intro K c st s a w h hh;obtain⟨r,h⟩:=h;exact ih r h hh

theorem zl5 : ∀ {l : List (Nat × BC)} {i : Nat}, zrj l i = true → enumB (l.map (·.2)) i = l
  |[],i,h=>rfl
  |x :: l, i, h => by
    simp only[zrj,oc] at h
    have e:=om h.1
    simp only[YH,enumB,zl5 h.2]
    rw[←e]
theorem zvy {s : St} {g : List (Nat × Option Nat)} {t : LV × List (Nat × BC)} {p : List Prop} (h : fitR P fn s g t = some (p, t)) (hk : okR none g t = true) (hp : All p) (hF : Frs t.1) (hB : ∀ x ∈ t.2, FrsB x.2) : ∃ vcs, retL P fn s g t.1 (t.2.map (·.2)) = some vcs ∧ All vcs := by
 unfold fitR at h;split at h
 ·rename_i l q h1;split at h
  ·rename_i b x h2 h3;injection h with h;obtain ⟨e1, e2⟩ := Prod.mk.inj h;have e3 : x = t.1 := oe Prod.fst e2;have e4 : b = t.2 := oe Prod.snd e2;subst e1; subst e3;rw [e4] at h2;obtain ⟨p1, k1, k2⟩ := zjd h2;obtain ⟨p2, k3, k4⟩ := zkj h3;simp only [okR, oc] at hk;obtain ⟨c1, c2, c3, c4⟩ := hk;refine ⟨q ++ (p1 ++ (p2 ++ (Frs t.1 :: (t.2.map (·.2)).map FrsB))), ?_, ?_⟩
   ·unfold retL;rw [h1];simp only [zl5 c2, List.length_map, k1, k3, c1, c3, c4, Bool.and_self, oC]
   refine All.append.2 ⟨hp,All.append.2 ⟨k2,All.append.2 ⟨k4,hF,?_⟩⟩⟩;revert hB;generalize t.2=l2;intro hB;induction l2 with
   |nil =>trivial
   |cons y l2 ih =>exact⟨hB y vbZ,ih fun z hz=>hB z (YL _ hz)⟩
  cases h
 cases h
theorem ztp{n : Nat}{s : St}{g : List (Nat × Option Nat)}{t : LV × List (Nat × BC)}{p : List Prop}(h : fitR P fn s g t = some (p, t))(hk : okR (some n) g t = true)(hp : All p) : ∃vcs, retLM P fn n s g t.1 t.2 = some vcs ∧ All vcs := by
 unfold fitR at h;split at h
 ·rename_i l q h1;split at h
  ·rename_i b x h2 h3;injection h with h;obtain ⟨e1, e2⟩ := Prod.mk.inj h;have e3 : x = t.1 := oe Prod.fst e2;have e4 : b = t.2 := oe Prod.snd e2;subst e1; subst e3;rw [e4] at h2;obtain ⟨p1, k1, k2⟩ := zjd h2;obtain ⟨p2, k3, k4⟩ := zkj h3;simp only [okR] at hk;refine ⟨q ++ (p1 ++ p2), ?_, All.append.2 ⟨hp, All.append.2 ⟨k2, k4⟩⟩⟩;unfold retLM;grind
  cases h
 cases h

abbrev FnT(P:Program)(f:FuncId)(args:List LV)(t:LV×List (Nat×BC)):Prop:=Fn P f args t.1 (t.2.map fun x=>x.2)
theorem Fn.go{f : FuncId}{fn : Func}{args : List LV}{t : LV × List (Nat × BC)}(N : Nat)(hf : P.funcs[f]? = some fn)(hb : (yv fn.ntmps N && (fn.body.isSome && yy args.length N)) = true)(hm : P.follows .mixedOrders = true)(hF : Frs t.1 ∧ ∀x ∈ t.2, FrsB x.2)(A : Ann)(hk : Lite.go P fn N none t false A [] (some (zb9 fn)) [] ⟨enumL args 0, [], []⟩ = Lite.go P fn N none t true A [] (some (zb9 fn)) [] ⟨enumL args 0, [], []⟩)(h : slim t A []) : FnT P f args t := by
 simp only[oc] at hb;refine Fn.intro N hf hb.2.1 (om hb.1) hb.2.2 fun w0 a w hs=>?_;have h1:Lite.go P fn N none t false A [] (some (zb9 fn)) [] ⟨enumL args 0,[],[]⟩:=by rw[hk];exact zub h
 have h2 := zrr (r := RetOk P fn w0 t.1 (t.2.map (·.2))) hm (fun h3 h4 h5 h6 => by
   obtain⟨vcs,k1,k2⟩:=zvy h3 h4 h5 hF.1 hF.2
   exact ret_ok h6 _ k1 k2) h1 hs
 assumption
abbrev FnMT(P:Program)(f:FuncId)(args:List LV)(bl:List BC)(t:LV×List (Nat×BC)):Prop:=FnM P f args bl t.1 t.2
theorem FnM.go{f : FuncId}{fn : Func}{args : List LV}{bl : List BC}{t : LV × List (Nat × BC)}(N : Nat)(hf : P.funcs[f]? = some fn)(hb : (yv fn.ntmps N && (fn.body.isSome && yy args.length N)) = true)(hm : P.follows .mixedOrders = true)(A : Ann)(hk : Lite.go P fn N (some bl.length) t false A [] (some (zb9 fn)) [] ⟨enumL args 0, enumB bl 900000, []⟩ = Lite.go P fn N (some bl.length) t true A [] (some (zb9 fn)) [] ⟨enumL args 0, enumB bl 900000, []⟩)(h : slim t A []) : FnMT P f args bl t := by
 simp only[oc] at hb;refine FnM.intro N hf hb.2.1 (om hb.1) hb.2.2 fun w0 X0 a w hs=>?_;have h1:Lite.go P fn N (some bl.length) t false A [] (some (zb9 fn)) [] ⟨enumL args 0,enumB bl 900000,[]⟩:=by rw[hk];exact zub h
 have h2 := zrr (r := zo2 P fn bl.length w0 X0 t.1 t.2) hm (fun h3 h4 h5 h6 => by
   obtain⟨vcs,k1,k2⟩:=ztp h3 h4 h5
   exact z1d h6 _ k1 k2) h1 hs
 assumption
theorem Fn.gp{f:FuncId}{fn:Func}{args:List LV}{α:Type}{m:α}{c:α→LV×List (Nat×BC)}(N:Nat)(hf:P.funcs[f]?=some fn)(hb:(yv fn.ntmps N&&(fn.body.isSome&&yy args.length N))=true)(hm:P.follows .mixedOrders=true)(hF:Frs (c m).1∧∀x∈(c m).2,FrsB x.2)(A:Ann)(hk:Lite.go P fn N none (c m) false A [] (some (zb9 fn)) [] ⟨enumL args 0,[],[]⟩=Lite.go P fn N none (c m) true A [] (some (zb9 fn)) [] ⟨enumL args 0,[],[]⟩)(h:∀R,m=R→slim (c R) A []):FnT P f args (c m):=Fn.go N hf hb hm hF A hk (h _ rfl)
theorem FnM.gp{f:FuncId}{fn:Func}{args:List LV}{bl:List BC}{α:Type}{m:α}{c:α→LV×List (Nat×BC)}(N:Nat)(hf:P.funcs[f]?=some fn)(hb:(yv fn.ntmps N&&(fn.body.isSome&&yy args.length N))=true)(hm:P.follows .mixedOrders=true)(A:Ann)(hk:Lite.go P fn N (some bl.length) (c m) false A [] (some (zb9 fn)) [] ⟨enumL args 0,enumB bl 900000,[]⟩=Lite.go P fn N (some bl.length) (c m) true A [] (some (zb9 fn)) [] ⟨enumL args 0,enumB bl 900000,[]⟩)(h:∀R,m=R→slim (c R) A []):FnMT P f args bl (c m):=FnM.go N hf hb hm A hk (h _ rfl)
end

section
variable {t:LV×List (Nat×BC)} {S α:Type} {R:α}
theorem cd{b:Bool}{x y:α}{p q:Prop}(h1:b=true→x=R→p)(h2:b=false→y=R→q)(hR:(bif b then x else y)=R):(b=true→p)∧(b=false→q):=⟨fun h=>h1 h (ct hR h),fun h=>h2 h (cf hR h)⟩
theorem zyq{k : Prop}(hk : k) : ∀{ks : List (Nat × Cl)}, AllK ks True → AllK ks k
  |[],_=>hk
  |(_,_,⟨_,_,_⟩) :: _,h=>⟨h.1,zyq hk h.2⟩
theorem znq{k : Prop}(hk : k){ks : List (Nat × Cl)} : ∀{ps : List Pf}, AllQ ps (AllK ks True) → AllQ ps (AllK ks k)
  |[],h=>zyq hk h
  |⟨_,_,_⟩ :: _,h=>⟨h.1,znq hk h.2⟩
theorem rg{next:Ann}{K:List (Dl→Prop)}{n:Nat}{hs:List (Nat×Hint)}{ks:List (Nat×Cl)}{ts is:List Nat}{bs:List Bool}{ps:List Pf}{zs:List Pz}{cs:List Nat}(h:AllQ ps (AllK ks True))(h2:slim t next K):slim t (.reg n hs ks ts is bs ps zs cs next) K:=znq h2 h
theorem rT{next:Ann}{K:List (Dl→Prop)}{n:Nat}{hs:List (Nat×Hint)}{ks:List (Nat×Cl)}{ts is:List Nat}{bs:List Bool}{ps:List Pf}{zs:List Pz}{cs:List Nat}(h2:slim t next K)(h:AllQ ps (AllK ks True):=by trivial):slim t (.reg n hs ks ts is bs ps zs cs next) K:=znq h2 h
theorem lN{bm:Nat→S→(S→α)→α}{em:S→α}{n:Nat}{s0:S}{D:Nat→S→Dl}{ds db:List Nat}{g:List (Nat×Option Nat)}{t0:Dl}{body:Nat→S→Ann}{K:List (Dl→Prop)}(I:Nat→S→Prop)(h0:I 0 s0)(e:D 0 s0=t0)(hb:∀i v (F:Dl→Prop),i≤n→I i v→loopN bm em (n - i) i v=R→(∀v',i<n→I (i+1) v'→loopN bm em (n - (i+1)) (i+1) v'=R→F (D (i+1) v'))→slim t (body i v) (F :: K))(hR:loopN bm em n 0 s0=R):slim t (lp D ds db g t0 body) K:=by refine⟨fun m v=>m=n - v.1∧v.1≤n∧I v.1 v.2∧loopN bm em (n - v.1) v.1 v.2=R,⟨n,(0,s0),⟨rfl,Nat.zero_le _,h0,hR⟩,e⟩,fun m v hJ=>?_⟩;obtain⟨h1,h2,h3,h4⟩:=hJ;refine hb v.1 v.2 _ h2 h3 h4 fun v' q1 q2 q3=>⟨(v.1+1,v'),⟨n - (v.1+1),vbX,rfl,q1,q2,q3⟩,rfl⟩
theorem lW[Inhabited α]{bm : S → (S → α) → α}{fuel : Nat}{s0 : S}{D : S → Dl}{ds db : List Nat}{g : List (Nat × Option Nat)}{t0 : Dl}{body : S → Ann}{K : List (Dl → Prop)}(I : S → Prop)(μ : S → Nat)(h0 : I s0)(hμ : μ s0 < fuel)(e : D s0 = t0)(hb : ∀m v (F : Dl → Prop), I v → μ v ≤ m → bm v (loopW bm m) = R → (∀v', I v' → μ v' < m → loopW bm m v' = R → F (D v')) → slim t (body v) (F :: K))(hR : loopW bm fuel s0 = R) : slim t (.loop S D ds db g t0 body) K := by
 refine⟨fun m v=>I v∧μ v<m∧loopW bm m v=R,⟨fuel,s0,⟨h0,hμ,hR⟩,e⟩,fun m v hJ=>?_⟩;obtain⟨h1,h2,h3⟩:=hJ;cases m with
 |zero =>exact absurd h2 (oO _)
 |succ m =>exact hb m v _ h1 (Nat.le_of_lt_succ h2) h3 fun v' q1 q2 q3=>⟨v',⟨m,oF m,q1,q2,q3⟩,rfl⟩
theorem jN{f:(S→α)→α}{k:S→α}{D:S→Dl}{kk:Nat}{ts is:List Nat}{first:Ann}{rest:S→Ann}{K:List (Dl→Prop)}(J:S→Prop)(h1:∀F:Dl→Prop,f k=R→(∀v,k v=R→J v→F (D v))→slim t first (F :: K))(h2:∀v,k v=R→J v→slim t (rest v) K)(hR:jn f k=R):slim t (.join kk S D ts is first rest) K:=⟨fun v=>k v=R∧J v,h1 _ hR fun v q1 q2=>⟨v,⟨q1,q2⟩,rfl⟩,fun v hv=>h2 v hv.1 hv.2⟩
end

section
variable {α:Type} [Inhabited α]
theorem ze0(f : α → List LV)(l : List α)(i : Nat)(x : α)(hi : i < l.length)(k : Nat) : rowOf f (l.set i x) k = bif yv k i then f x else rowOf f l k := by
 by_cases hk:k<l.length
 ·exact z1b f l i x hi k hk
 have hb : yv k i = false := by
  cases hb:yv k i with
  |true =>exact absurd (om hb) vbX
  |false =>rfl
 simp only[rowOf];grind
theorem rE{n:Nat}{row:Nat→List LV}:zbo n n row row:=⟨rfl,fun _ _=>rfl⟩
theorem rL{n m:Nat}{row:Nat→List LV}(h:n=m):zbo n m row row:=⟨h,fun _ _=>rfl⟩
def ap1(id : Nat)(c : α → List LV)(b : Nat)(l : List α)(x : α) : Cl :=
  (.rowN id (l ++ [x]).length (rowOf c (l ++ [x])), ⟨(l.length + 1) * b ≤ 140737488355328, All [∀ k, k < l.length + 1 → rowOf c (l ++ [x]) k = bif Yu k l.length then rowOf c l k else rowOf c [x] (k - l.length), (l.length + 1) * b ≤ 140737488355328] ∧
    zbo (l.length+1) (l++[x]).length (rowOf c (l++[x])) (rowOf c (l++[x])),fun h=>⟨⟨zln c l [x],h,trivial⟩,rL vbZ⟩⟩)
def apC(id : Nat)(c : α → List LV)(b : Nat)(l m : List α) : Cl :=
  (.rowN id (l ++ m).length (rowOf c (l ++ m)), ⟨(l.length + m.length) * b ≤ 140737488355328, All [∀ k, k < l.length + m.length → rowOf c (l ++ m) k = bif Yu k l.length then rowOf c l k else rowOf c m (k - l.length), (l.length + m.length) * b ≤ 140737488355328] ∧
    zbo (l.length+m.length) (l++m).length (rowOf c (l++m)) (rowOf c (l++m)),fun h=>⟨⟨zln c l m,h,trivial⟩,rL vbZ⟩⟩)
def apN(id : Nat)(c : α → List LV)(b : Nat)(m : List α) : Cl :=
  (.rowN id m.length (rowOf c m),⟨m.length * b≤140737488355328,All [∀k,k<m.length→rowOf c m k=rowOf c m k,m.length * b≤140737488355328]∧zbo m.length m.length (rowOf c m) (rowOf c m),fun h=>⟨⟨fun _ _=>rfl,h,trivial⟩,rE⟩⟩)
def bsC(id : Nat)(c : α → List LV)(l : List α) : Cl :=
  (.rowN id l.length (rowOf c l), ⟨True, All ((yI l.length).map fun i => rowOf c l i = rowOf c l i) ∧ zbo l.length l.length (rowOf c l) (rowOf c l), fun _ => ⟨by
    generalize yI l.length=r
    induction r with
    |nil=>trivial
    |cons x r ih=>exact⟨rfl,ih⟩,rE⟩⟩)
def stC(id : Nat)(c : α → List LV)(n : Nat)(l : List α)(i : Nat)(x : α) : Cl :=
  (.rowN id n (rowOf c (l.set i x)),⟨i<l.length,All [∀k,k<n→rowOf c (l.set i x) k=bif yv k i then c x else rowOf c l k]∧zbo n n (rowOf c (l.set i x)) (rowOf c (l.set i x)),fun h=>⟨⟨fun k _=>ze0 c l i x h k,trivial⟩,rE⟩⟩)
def stL(id : Nat)(c : α → List LV)(l : List α)(i : Nat)(x : α) : Cl :=
  (.rowN id (l.set i x).length (rowOf c (l.set i x)),⟨i<l.length,All [∀k,k<l.length→rowOf c (l.set i x) k=bif yv k i then c x else rowOf c l k]∧zbo l.length (l.set i x).length (rowOf c (l.set i x)) (rowOf c (l.set i x)),fun h=>⟨⟨fun k _=>ze0 c l i x h k,trivial⟩,rL vbZ⟩⟩)
def stP(id : Nat)(c : α → List LV)(n : Nat)(l m : List α)(i off : Nat)(xs : List LV)(x y : α)(e : m = l.set i y ∨ m = l ∧ y = l.getD i wl)(h : c x = zcf (c y) off xs) : Cl :=
  (.rowN id n (rowOf c (l.set i x)), ⟨i < l.length, All [∀ k, k < n → rowOf c (l.set i x) k = bif yv k i then zcf (rowOf c m k) off xs else rowOf c m k] ∧ zbo n n (rowOf c (l.set i x)) (rowOf c (l.set i x)), fun hi => ⟨⟨fun k _ => by
    rw[ze0 c l i x hi]
    cases hb:yv k i with
    |true =>
      have ek:=om hb
      subst ek
      simp only[oC,h]
      rcases e with e | ⟨e,e2⟩
      · rw [e,ze0 c l k y hi,hb];rfl
      · rw [e,e2];rfl
    |false =>
      simp only[oB]
      rcases e with e | ⟨e,e2⟩
      · rw [e,ze0 c l i y hi,hb];rfl
      · rw [e],trivial⟩,rE⟩⟩)
def msC(id : Nat)(c : α → List LV)(b : Nat)(N M : Int)(n : Nat)(x : α)(e : N.toNat = n) : Cl :=
  (.rowN id n (rowOf c (yw n x)), ⟨0 ≤ N ∧ N ≤ M ∧ (b : Int) * M ≤ 281474976710656 ∧ M ≤ 9223372036854775807, All [0 ≤ N ∧ N ≤ M ∧ (b : Int) * M ≤ 281474976710656 ∧ M ≤ 9223372036854775807] ∧ zbo N.toNat n (fun _ => c x) (rowOf c (yw n x)),
    fun h=>⟨⟨h,trivial⟩,e,fun k hk=>(zdg c n x k vbX).symm⟩⟩)
theorem zkn:zc9 [] []:=⟨rfl,fun j x y h=>vbQ⟩
theorem ziz{x y : LV}{l m : List LV}(hc : z0v x y)(h : zc9 l m) : zc9 (x :: l) (y :: m) :=
  ⟨by simp [h.1], fun j a b h1 h2 => by
    cases j with
    |zero=>simp at h1 h2;rw[←h1,←h2];exact hc
    |succ j=>exact h.2 j a b vbH vbI⟩
theorem zox{x:LV}{l m:List LV}(h:zc9 l m):zc9 (x :: l) (x :: m):=ziz (.inl rfl) h
theorem zow{fr:Bool}{sz:Nat}{row:Nat→List LV}{l m:List LV}(h:zc9 l m):zc9 (.nilS :: l) (.ro fr sz 0 row :: m):=ziz (.inr ⟨rfl,_,_,_,rfl⟩) h
def msW(id : Nat)(c : α → List LV)(b : Nat)(N M : Int)(n : Nat)(x : α)(z : List LV)(e : N.toNat = n)(hz : zc9 z (c x)) : Cl :=
  (.rowW id n (rowOf c (yw n x)), ⟨0 ≤ N ∧ N ≤ M ∧ (b : Int) * M ≤ 281474976710656 ∧ M ≤ 9223372036854775807, All [0 ≤ N ∧ N ≤ M ∧ (b : Int) * M ≤ 281474976710656 ∧ M ≤ 9223372036854775807] ∧ zlm N.toNat n (fun _ => z) (rowOf c (yw n x)),
    fun h=>⟨⟨h,trivial⟩,e,fun k hk=>by rw[zdg c n x k vbX];exact hz⟩⟩)
def bsW(id : Nat)(c : α → List LV)(x : α)(z : List LV)(hz : zc9 z (c x)) : Cl :=
  (.rowW id 1 (rowOf c [x]), ⟨True, All [] ∧ zlm 1 1 (fun _ => z) (rowOf c [x]), fun _ => ⟨trivial, rfl, fun k hk => by
    obtain rfl:k=0:=by omega
    exact hz⟩⟩)
def bxW(id : Nat)(c : α → List LV)(n : Nat)(x : α)(z cs : List LV)(e : cs = (yw n z).flatten)(hz : zc9 z (c x)) : Cl :=
  (.rowW id n (rowOf c (yw n x)), ⟨True, All [cs = (yw n z).flatten] ∧ zlm n n (fun _ => z) (rowOf c (yw n x)), fun _ => ⟨⟨e, trivial⟩, rfl, fun k hk => by
    rw[zdg c n x k hk];exact hz⟩⟩)
def slC(id : Nat)(c : α → List LV)(n : Nat)(L H : Int)(a m : Nat)(l : List α)(e : L.toNat = a)(e2 : H.toNat - L.toNat = m) : Cl :=
  (.rowN id ((l.drop a).take m).length (rowOf c ((l.drop a).take m)), ⟨n = l.length ∧ 0 ≤ L ∧ L ≤ H ∧ H ≤ (n : Int), All [0 ≤ L ∧ L ≤ H ∧ H ≤ (n : Int)] ∧ zbo (H.toNat - L.toNat) ((l.drop a).take m).length (fun k => rowOf c l (L.toNat + k)) (rowOf c ((l.drop a).take m)),
    fun h=>⟨⟨h.2,trivial⟩,by simp only[List.length_take,List.length_drop];omega,fun k hk=>by rw[e];exact zuk c l a m k vbX⟩⟩)
def lnP(row:Nat→List LV)(n m:Nat):Pf:=⟨n=m,zbo n m row row,rL⟩
end
def nz : LV → LV
  |.ro fr sz n row=>bif yv n 0 then .nilS else .ro fr sz n row
  |v=>v
def nzA(j : Nat) : LV → LV
  |.agg l=>.agg (l.modify j nz)
  |v=>nz v
theorem RepC.nz{w : World}{B : Nat}{lv : LV}{v : Value}(h : RepC w B (fun _ => False) (nz lv) v) : RepC w B (fun _ => False) lv v := by
 cases lv with
 |ro fr sz n row =>
  simp only[Lite.nz] at h;cases hb:yv n 0 with
  |true =>have e:=om hb;subst e;cases h;exact .ro fr sz 0 row none ⟨0,0,none⟩ 0 (fun _ _=>undef) (ou _) (fun h=>absurd h vbX) (fun h=>absurd h vbX) (fun h=>absurd h vbX) (fun h=>absurd h vbX) (fun i hi=>absurd hi vbX) (fun i hi=>absurd hi vbX) (fun i j hi=>absurd hi vbX) fun i j lv hi=>absurd hi vbX
  |false =>rw[hb] at h;exact h
 |_ =>exact h
theorem RepC.nzA{w : World}{B : Nat}{lv : LV}{v : Value}(j : Nat)(h : RepC w B (fun _ => False) (nzA j lv) v) : RepC w B (fun _ => False) lv v := by
 cases lv with
 |agg l =>
  cases h with
  |agg _ vs hl h =>
   refine .agg l vs vbG fun i lv u h1 h2=>?_;have:=h i (if j=i then Lite.nz lv else lv) u (by rw[List.getElem?_modify,h1];split<;>simp_all) h2;split at this
   ·exact this.nz
   grind
 |_ =>exact RepC.nz h
theorem FnT.nz{P : Program}{f : FuncId}{args : List LV}{t : LV × List (Nat × BC)}(h : FnT P f args t)(i j : Nat) : FnT P f (args.modify i (nzA j)) t := by
 intro w vals hgh hl hr;refine h w vals hgh vbG fun k lv v h1 h2 B=>?_;have:=hr k (if i=k then Lite.nzA j lv else lv) v (by rw[List.getElem?_modify,h1];split<;>simp_all) h2 B;split at this
 ·exact this.nzA j
 grind
section
variable {α:Type}
def nrOf[Inhabited α](c:α→List LV)(v:List (List α)):Nat→NR:=fun k=>.row (v.getD k []).length (rowOf c (v.getD k []))
def nrTk[Inhabited α](c:α→List LV)(v:List (List α))(i d:Nat):Nat→NR:=fun k=>bif yv k i then .out d else nrOf c v k
variable [Inhabited α] {c:α→List LV} {v:List (List α)} {l:List α} {i d k:Nat}
theorem zu0(id:Nat):nrOf c v k≠.out id:=fun h=>by cases h
theorem zux(h : k ≠ i) : nrTk c v i d k = nrOf c v k := by
 unfold nrTk;cases hb:yv k i with
 |true =>exact absurd (om hb) h
 |false =>rfl
theorem zuy:nrTk c v i d i=.out d:=by unfold nrTk;rw[Yy];rfl
def nrG[Inhabited α](c:α→List LV)(v:List (List α))(g:Nat):Nat→NR:=fun k=>bif Yu k g then .gone else nrOf c v k
theorem nrG_at : nrG c v i i = .row (v.getD i []).length (rowOf c (v.getD i [])) := by
 unfold nrG;have : Yu i i = false := by
  cases h:Yu i i with
  |false =>rfl
  |true =>exact absurd (oS h) (oP _)
 rw[this];rfl
theorem zzd:nrG c v (i+1) i=.gone:=by unfold nrG;rw[show Yu i (i+1)=true from oZ (ou _)];rfl
theorem nrG_ne(h:k≠i):nrG c v (i+1) k=nrG c v i k:=by unfold nrG;have:Yu k (i+1)=Yu k i:=(by rw[Bool.eq_iff_iff];exact⟨fun q=>oZ (by have:=oS q;omega),fun q=>oZ (by have:=oS q;omega)⟩);rw[this]
theorem zq7(h:i<v.length):nrOf c (v.set i l) i=.row l.length (rowOf c l):=by have:(v.set i l).getD i []=l:=vbY;unfold nrOf;rw[this]
theorem zj4(h:k≠i):nrOf c (v.set i l) k=nrOf c v k:=by have:(v.set i l).getD k []=v.getD k []:=vbY;unfold nrOf;rw[this]
theorem zuz(h:k<v.length):nrOf c (v++[l]) k=nrOf c v k:=by have:(v++[l]).getD k []=v.getD k []:=vbY;unfold nrOf;rw[this]
theorem zu1:nrOf c (v++[l]) v.length=.row l.length (rowOf c l):=by have:(v++[l]).getD v.length []=l:=vbY;unfold nrOf;rw[this]
variable (c v l i d)
def nTk:Cl:=(.take false (v.getD i []).length (rowOf c (v.getD i [])) (nrTk c v i d),⟨True,nrOf c v i=.row (v.getD i []).length (rowOf c (v.getD i []))∧nrTk c v i d i=(bif false then .gone else .out d)∧∀k,k<v.length→k≠i→nrTk c v i d k=nrOf c v k,fun _=>⟨rfl,zuy,fun _ _ h=>zux h⟩⟩)
def nTg:Cl:=(.take true (v.getD i []).length (rowOf c (v.getD i [])) (nrG c v (i+1)),⟨True,nrG c v i i=.row (v.getD i []).length (rowOf c (v.getD i []))∧nrG c v (i+1) i=(bif true then .gone else .out d)∧∀k,k<v.length→k≠i→nrG c v (i+1) k=nrG c v i k,fun _=>⟨nrG_at,zzd,fun _ _ h=>nrG_ne h⟩⟩)
def nS0 : Cl := (.nst true (v.set i l).length (nrOf c (v.set i l)), ⟨i < v.length, v.length = (v.set i l).length ∧ nrOf c (v.set i l) i = .row l.length (rowOf c l) ∧ (∀k, k < v.length → k ≠ i → nrOf c (v.set i l) k = nrOf c v k) ∧ (true = true → ∀k id, k < v.length → nrOf c (v.set i l) k ≠ .out id),
  fun h=>⟨vbZ,zq7 h,fun k _ hk=>zj4 hk,fun _ _ _ _=>zu0 _⟩⟩)
def nB1:Cl:=(.nst true [l].length (nrOf c [l]),⟨True,1=[l].length∧nrOf c [l] 0=.row l.length (rowOf c l),fun _=>⟨rfl,rfl⟩⟩)
def nA0(b:Nat):Cl:=(.nst true [l].length (nrOf c [l]),⟨b≤140737488355328,(1=[l].length∧nrOf c [l] 0=nrOf c [l] 0)∧b≤140737488355328,fun h=>⟨⟨rfl,rfl⟩,h⟩⟩)
def nA1(b : Nat) : Cl := (.nst true (v ++ [l]).length (nrOf c (v ++ [l])), ⟨(v.length + 1) * b ≤ 140737488355328, (v.length + 1 = (v ++ [l]).length ∧ (∀k, k < v.length → nrOf c (v ++ [l]) k = nrOf c v k) ∧ nrOf c (v ++ [l]) v.length = nrOf c [l] 0) ∧ (v.length + 1) * b ≤ 140737488355328,
  fun h=>⟨⟨vbZ,fun _ hk=>zuz hk,zu1⟩,h⟩⟩)
def nB0(sz:Nat):Cl:=(.nstM sz ([]:List (List α)).length (nrOf c ([]:List (List α))),⟨True,([]:List (List α)).length=0,fun _=>rfl⟩)
def nPb : Pf := ⟨i < v.length, putP 1 d l.length (rowOf c l) v.length (v.set i l).length (nrTk c v i d) (nrOf c (v.set i l)),
  fun h=>⟨vbZ,i,h,zuy,zq7 h,fun k _ hk=>by rw[zj4 hk,zux hk],fun _ _ _=>zu0 _⟩⟩
end
def NR.nout : NR → Bool
  |.out _=>false
  |_=>true
section
variable {α:Type} [Inhabited α]
def nwOf(wd:Nat)(c:α→List NR)(v:List α):Nat→NR:=fun k=>(c (v.getD (k / wd) wl)).getD (k % wd) .gone
def nwTk(wd:Nat)(c:α→List NR)(v:List α)(i off d:Nat):Nat→NR:=fun k=>bif yv k (i * wd+off) then .out d else nwOf wd c v k
variable {wd:Nat} {c:α→List NR} {v:List α} {x:α} {i off d k:Nat} {r:NR}
theorem zgu(h:off<wd):nwOf wd c v (i * wd+off)=(c (v.getD i wl)).getD off .gone:=by unfold nwOf;rw[Y2 i wd,Nat.mul_add_div vbX,Nat.mul_add_mod,Nat.div_eq_of_lt h,Nat.mod_eq_of_lt h,Nat.add_zero]
theorem zus(h : k ≠ i * wd + off) : nwTk wd c v i off d k = nwOf wd c v k := by
 unfold nwTk;cases hb:yv k (i * wd+off) with
 |true =>exact absurd (om hb) h
 |false =>rfl
def nwGn(wd:Nat)(c:α→List NR)(v:List α)(i off:Nat):Nat→NR:=fun k=>bif yv k (i * wd+off) then .gone else nwOf wd c v k
theorem z1k:nwGn wd c v i off (i * wd+off)=.gone:=by unfold nwGn;rw[Yy];rfl
theorem z1j(h : k ≠ i * wd + off) : nwGn wd c v i off k = nwOf wd c v k := by
 unfold nwGn;cases hb:yv k (i * wd+off) with
 |true =>exact absurd (om hb) h
 |false =>rfl
theorem zut:nwTk wd c v i off d (i * wd+off)=.out d:=by unfold nwTk;rw[Yy];rfl
theorem z1i(hc : ∀x, (c x).all NR.nout = true)(id : Nat) : nwOf wd c v k ≠ .out id := fun h => by
  have h1:=o0.1 (hc (v.getD (k / wd) wl))
  unfold nwOf at h
  rw[oh] at h
  cases hg:(c (v.getD (k / wd) wl))[k % wd]? with
  |none=>rw[hg] at h;cases h
  |some y =>
    rw[hg] at h
    have:=h1 y (oW hg)
    rw[show y=NR.out id from h] at this
    cases this
theorem zzb{f:α→α}(h:i<v.length)(ho:off<wd)(hl:∀x,(c x).length=wd)(hx:∀x,c (f x)=(c x).set off r):nwOf wd c (v.modify i f) (i * wd+off)=r:=by rw[zgu ho];simp_all
theorem zpl{f : α → α}(hx : ∀x, c (f x) = (c x).set off r)(h : k ≠ i * wd + off) : nwOf wd c (v.modify i f) k = nwOf wd c v k := by
 unfold nwOf;by_cases e:k / wd=i
 ·have h1 : k % wd ≠ off := fun e' => h (by rw [← e, ← e', Y2, Nat.div_add_mod]);grind
 grind
theorem zuu(hw:1≤wd)(h:k<cN wd v.length):nwOf wd c (v++[x]) k=nwOf wd c v k:=by rw[cN_eq] at h;have h1:k / wd<v.length:=(Nat.div_lt_iff_lt_mul hw).2 h;have:(v++[x]).getD (k / wd) wl=v.getD (k / wd) wl:=vbY;unfold nwOf;rw[this]
theorem zuv(h:off<wd):nwOf wd c (v++[x]) (v.length * wd+off)=nwOf wd c [x] off:=by rw[zgu h];have e:=zgu (c:=c) (v:=[x]) (i:=0) h;grind
theorem frsN_r{m:Nat}{r:Nat→List LV}:FrsN (.row m r)=∀k,k<m→FrsL (r k):=rfl
theorem frsN_c{v:LV}:FrsN (.cell v)=Frs v:=rfl
def FrsNL : List NR → Prop
  |[]=>True
  |r :: l=>FrsN r∧FrsNL l
theorem zop : ∀{l : List NR}, FrsNL l → ∀r ∈ l, FrsN r
  |[],_,r,h=>by cases h
  |x :: l, h, r, hr => by
    rcases oQ.1 hr with e | hr
    · rw [e];exact h.1
    · exact zop h.2 r hr
theorem frs_nw(h : ∀x, FrsNL (c x))(k : Nat) : FrsN (nwOf wd c v k) := by
 unfold nwOf;rw[oh];cases hg:(c (v.getD (k / wd) wl))[k % wd]? with
 |none =>trivial
 |some y =>exact zop (h _) y (oW hg)
variable (wd c v)
variable (f:α→α) (x:α) (i off d:Nat)
def wTk(m : Nat)(row : Nat → List LV)(ho : off < wd)(hx : (c (v.getD i wl)).getD off .gone = .row m row) : Cl := (.take false m row (nwTk wd c v i off d), ⟨True, nwOf wd c v (i * wd + off) = .row m row ∧ nwTk wd c v i off d (i * wd + off) = (bif false then .gone else .out d) ∧ ∀k, k < cN wd v.length → k ≠ i * wd + off → nwTk wd c v i off d k = nwOf wd c v k,
  fun _=>⟨(zgu ho).trans hx,zut,fun _ _ h=>zus h⟩⟩)
def wEl(pre : List LV)(m : Nat)(row : Nat → List LV)(ho : pre.length < wd)(hx : c (v.getD i wl) = pre.map .cell ++ [.row m row]) : Cl := (.elt pre m row (nwGn wd c v i pre.length), ⟨True, (nwOf wd c v (i * wd + pre.length) = .row m row ∧ nwGn wd c v i pre.length (i * wd + pre.length) = .gone ∧ ∀k, k < cN wd v.length → k ≠ i * wd + pre.length → nwGn wd c v i pre.length k = nwOf wd c v k) ∧ ∀j, j < pre.length → nwOf wd c v (i * wd + j) = .cell (pre.getD j .any),
  fun _=>⟨⟨by rw[zgu ho,hx];simp,z1k,fun _ _ h=>z1j h⟩,fun j hj=>by rw[zgu (Nat.lt_trans hj ho),hx];simp[oh,o3,hj]⟩⟩)
def wB0(sz:Nat):Cl:=(.nstM sz ([]:List α).length (nwOf wd c ([]:List α)),⟨True,([]:List α).length=0,fun _=>rfl⟩)
def wB1 : Cl := (.nst true [x].length (nwOf wd c [x]), ⟨True, 1 = [x].length ∧ ∀j, j < wd → nwOf wd c [x] j = (c x).getD j .gone, fun _ => ⟨rfl, fun j hj => by
  have e:=zgu (c:=c) (v:=[x]) (i:=0) hj
  rw[Nat.zero_mul,Nat.zero_add] at e
  exact e⟩⟩)
def wA0(b:Nat):Cl:=(.nst true [x].length (nwOf wd c [x]),⟨b≤140737488355328,(1=[x].length∧∀j,j<wd→nwOf wd c [x] j=nwOf wd c [x] j)∧b≤140737488355328,fun h=>⟨⟨rfl,fun _ _=>rfl⟩,h⟩⟩)
def wA1(b : Nat)(hw : 1 ≤ wd) : Cl := (.nst true (v ++ [x]).length (nwOf wd c (v ++ [x])), ⟨(v.length + 1) * b ≤ 140737488355328, (v.length + 1 = (v ++ [x]).length ∧ (∀k, k < cN wd v.length → nwOf wd c (v ++ [x]) k = nwOf wd c v k) ∧ ∀j, j < wd → nwOf wd c (v ++ [x]) (v.length * wd + j) = nwOf wd c [x] j) ∧ (v.length + 1) * b ≤ 140737488355328,
  fun h=>⟨⟨vbZ,fun _ hk=>zuu hw hk,fun _ hj=>zuv hj⟩,h⟩⟩)
def wPb(len : Nat)(row : Nat → List LV)(ho : off < wd)(hc : ∀x, (c x).all NR.nout = true)(hl : ∀x, (c x).length = wd)(hx : ∀x, c (f x) = (c x).set off (.row len row)) : Pf := ⟨i < v.length, putP wd d len row v.length (v.modify i f).length (nwTk wd c v i off d) (nwOf wd c (v.modify i f)),
  fun h => ⟨vbZ, i * wd + off, by
    rw[cN_eq]
    have h1:i * wd+wd≤v.length * wd:=by rw[←Nat.succ_mul];exact oU wd h
    omega,zut,zzb h ho hl hx,fun k _ hk=>by rw[zpl hx hk,zus hk],fun _ _ _=>z1i hc _⟩⟩
end
end Go.Lite
namespace Go.Lite
open Go Go.RowKit
open _root_.Nat renaming beq→yv, add_zero→Yv, succ_mul→Yc, beq_refl→Yy, ble→yy
open _root_.List renaming getElem_mem→Ya, getElem?_toArray→Yf, not_mem_nil→wa, replicate→yw
open Go.World renaming cell?→Yj
open _root_.Int renaming toNat_natCast→yZ
open Go.Result renaming andThen→Yh

section
variable {P:Program} {w:World} {B:Nat} {X:Nat→Prop} {E:Env}
theorem zq0{id sz n b : Nat}{row : Nat → List LV}(h : BlkOk w B X E id (.arr sz n row))(hb : (E id).b = some b)(hX : X b){T : TypeId}(hz : szOf P T = some sz){i : Nat}(hi : i < n){y : Value}{xs : List LV}(hxs : xs.length = sz)(h1 : ∀x ∈ xs, isOne x = true)(hy : y.cells.size = sz)(hr : ∀(j : Nat) lv u, xs[j]? = some lv → y.cells[j]? = some u → RepC w B X lv u) : ∃news : Array Value, (storeVar T ⟨b, (E id).off + i * sz, none⟩ y).run P w = .ok () (w.setRow b news) ∧ BlkOk (w.setRow b news) B X E id (.arr sz n fun k => bif yv k i then xs else row k) := by
 obtain⟨hnn,hkk⟩:=h;rcases hkk with⟨k1,_⟩ | ⟨b',cap,us,T',k1,k2,k3,k4,k5,k6,k7,k8⟩
 ·grind
 rw[hb] at k1;cases k1;have hcells:∀u∈y.cells.toList,u.oneCell'=true:=fun u hu=>by obtain⟨j,hj,e⟩:=oX hu;have hj':j<xs.length:=vbY;have hju:y.cells[j]?=some u:=vbY;exact zh6 (hr j xs[j] u (oj hj') hju) (h1 _ (Ya hj'))
 have hlen:y.cells.toList.length=sz:=by simp[hy]
 have hibd:(E id).off+i * sz+sz≤us.size:=vaJ
 have hfit:(E id).off+i * sz+0+y.cells.toList.length≤us.size:=by simp_all
 have hst:=run_storeCells_at P b ((E id).off+i * sz) T' y.cells.toList 0 us w k4 hfit hcells;have hgetv:∀j:Nat,(us.toList.take ((E id).off+i * sz+0)++y.cells.toList++us.toList.drop ((E id).off+i * sz+0+y.cells.toList.length)).toArray[j]?=if(E id).off+i * sz≤j∧j<(E id).off+i * sz+sz then y.cells[j - ((E id).off+i * sz)]? else us[j]?:=fun j=>by simp only[Yf,Yv];rw[zdo _ _ _ _ vbu,hlen];split<;>simp
 have hszn:(us.toList.take ((E id).off+i * sz+0)++y.cells.toList++us.toList.drop ((E id).off+i * sz+0+y.cells.toList.length)).toArray.size=us.size:=vbu
 refine⟨_,by simp only[storeVar,oD,zba hz,ow,hy,ne_eq,not_true_eq_false,if_false];exact hst,?_⟩;generalize(us.toList.take ((E id).off+i * sz+0)++y.cells.toList++us.toList.drop ((E id).off+i * sz+0+y.cells.toList.length)).toArray=news at hgetv hszn;have hkeep:∀b',b'<w.heap.size→¬X b'→(w.setRow b news).heap[b']?=w.heap[b']?:=fun b' _ hno=>setRow_other w b b' news (fun e=>hno (by rw[e];exact hX));refine⟨hnn,.inr ⟨b,cap,news,T',hb,k2,k3,setRow_heap w b us news T' (0,0) k4,k5,k6,by rw[hszn];exact k7,fun k hk=>?_⟩⟩;obtain⟨hl1,hl3,hl2⟩:=k8 k hk;show((bif yv k i then xs else row k).length=sz)∧(∀lv∈(bif yv k i then xs else row k),isOne lv=true)∧∀(j:Nat) lv v,(bif yv k i then xs else row k)[j]?=some lv→news[(E id).off+k * sz+j]?=some v→RepC (w.setRow b news) B X lv v;by_cases e:k=i
 ·subst e;have hbq : yv k k = true := vbZ
  rw[hbq,oC];refine⟨hxs,h1,fun j lv u hj hu=>?_⟩;have hjs:j<sz:=by rw[←hxs];exact(oE.1 hj).1
  rw[hgetv,if_pos vbX,show(E id).off+k * sz+j - ((E id).off+k * sz)=j by omega] at hu;exact(hr j lv u hj hu).keep vbZ hkeep (fun b' hb'=>.inl hb') (ou _)
 have hbq : yv k i = false := by
  cases h:yv k i with
  |false =>rfl
  |true =>exact absurd (om h) e
 rw[hbq,oB];refine⟨hl1,hl3,fun j lv u hj hu=>?_⟩;have hjs:j<sz:=vbj
 have hfar : ¬((E id).off + i * sz ≤ (E id).off + k * sz + j ∧ (E id).off + k * sz + j < (E id).off + i * sz + sz) := by
  rcases Nat.lt_or_gt_of_ne e with h | h
  ·have h1 : k * sz + sz ≤ i * sz := (by rw [← Yc]; exact oU sz h);omega
  have h1:i * sz+sz≤k * sz:=by rw[←Yc];exact oU sz h
  omega
 rw[hgetv,if_neg hfar] at hu;exact(hl2 j lv u hj hu).keep vbZ hkeep (fun b' hb'=>.inl hb') (ou _)
theorem zvb{id sz n b : Nat}{row : Nat → List LV}(h : BlkOk w B X E id (.arr sz n row))(hb : (E id).b = some b){T : TypeId}{ag : Bool}(ha : aggOf P T = some ag)(hz : szOf P T = some sz)(hag : ag = false → sz = 1){i : Nat}(hi : i < n) : ∃y, (loadVar T ⟨b, (E id).off + i * sz, none⟩).run P w = .ok y w ∧ (row i).length = sz ∧ (∀x ∈ row i, isOne x = true) ∧ y.cells.size = sz ∧ ∀(j : Nat) lv u, (row i)[j]? = some lv → y.cells[j]? = some u → RepC w B X lv u := by
 obtain⟨hnn,hkk⟩:=h;rcases hkk with⟨k1,_⟩ | ⟨b',cap,us,T',k1,k2,k3,k4,k5,k6,k7,k8⟩
 ·grind
 rw[hb] at k1;cases k1;obtain⟨hl1,hl3,hl2⟩:=k8 i hi;have hibd:(E id).off+i * sz+sz≤us.size:=vaJ
 have hc:∀j,j<sz→w.cell? ((⟨b,(E id).off+i * sz,none⟩:Addr).add j)=some (us.getD ((E id).off+i * sz+j) undef):=fun j hj=>by rw[za1];simp[Yj,k4,show(E id).off+i * sz+j<us.size by omega]
 have hg:∀j,j<sz→us[(E id).off+i * sz+j]?=some (us.getD ((E id).off+i * sz+j) undef):=fun j hj=>by simp[show(E id).off+i * sz+j<us.size by omega]
 cases ag with
 |true =>
  refine⟨.agg ((List.range sz).map fun j=>us.getD ((E id).off+i * sz+j) undef).toArray,?_,hl1,hl3,by simp[Value.cells],fun j lv u hj hu=>?_⟩
  ·simp only [loadVar, oD, zcw ha, ow, if_true, zba hz, oJ];rw [run_loadCells w _ sz (fun j => us.getD ((E id).off + i * sz + j) undef) hc];rfl
  have hjs:j<sz:=vbj
  have hu':u=us.getD ((E id).off+i * sz+j) undef:=by simpa[Value.cells,hjs] using hu.symm
  exact hl2 j lv u hj (by rw[hu'];exact hg j hjs)
 |false =>
  have e1:=hag rfl;subst e1;have hlt:0<(row i).length:=vbX
  have hr0:=hl2 0 ((row i)[0]) (us.getD ((E id).off+i * 1+0) undef) (oj hlt) (hg 0 vbX);have hone:=(zjx (E:=⟨fun _=>⟨none,0,none,0,0,0⟩,fun _ _=>False⟩) (hl3 _ (Ya hlt)) (.c _ _ hr0)).2;refine⟨us.getD ((E id).off+i * 1+0) undef,?_,hl1,hl3,by rw[hone];rfl,fun j lv u hj hu=>?_⟩
  ·have := hc 0 vbX;rw [show (⟨b, (E id).off + i * 1, none⟩ : Addr).add 0 = ⟨b, (E id).off + i * 1, none⟩ by rw [za1]; rfl] at this;simp only [loadVar, oD, zcw ha, ow, oT, if_false, run_load, this]
  have hj0:j=0:=by have:=(oE.1 hj).1;omega
  grind
end

def gi{α:Type}[Inhabited α](l:List α)(i:Int):α:=l.getD i.toNat default
def swp{α:Type}[Inhabited α](l:List α)(i j:Int):List α:=(l.set i.toNat (gi l j)).set j.toNat (gi l i)
theorem zjj{α:Type}[Inhabited α](l:List α)(i j:Int):(swp l i j).length=l.length:=by simp[swp]
theorem z06{α:Type}[Inhabited α](c:α→List LV)(l:List α){i j:Nat}(hi:i<l.length)(hj:j<l.length)(k:Nat):rowOf c (swp l i j) k=bif yv k j then rowOf c l i else bif yv k i then rowOf c l j else rowOf c l k:=by unfold swp;simp only[yZ];rw[ze0 c _ j _ (by simpa using hj),ze0 c _ i _ hi];rfl
theorem z1c(b : Bool)(i j : Int)(a : Addr)(n c : Nat)(h : Value) : Go.Extern.ReflectliteSwapper.swap b #[.int .i64 i, .int .i64 j, .slice (some a) n c, h] = (do
    if b then
      if i<0||i ≥ n then boundsPanic .i64 i n .index
      if j<0||j ≥ n then boundsPanic .i64 j n .index
    else if i<0||i ≥ n||j<0||j ≥ n then Go.Extern.ReflectliteSwapper.outOfRange
    Go.Extern.ReflectliteSwapper.exchange (←Go.Extern.Rtype.ofHandle h) a i.toNat j.toNat):=rfl
theorem zcc(c:BC):preB [c] 900000=some c:=by unfold preB;rw[oZ (ou _),Nat.sub_self];rfl
theorem zjb(c:BC):look [(900000,c)] 900000=some c:=by unfold look;rw[Yy];rfl
theorem zka(c : BC){k : Nat}(h : ¬k = 900000) : look [(900000, c)] k = none := by
 unfold look
 rw [show yv (900000, c).1 k = false from by
   cases hb:yv (900000,c).1 k with
   |false=>rfl
   |true=>exact absurd (om hb).symm h]
 rfl
theorem from9{k:Nat}(hb:yy 900000 k=true):∃d,k=900000+d:=by obtain⟨d,e⟩:=Nat.exists_eq_add_of_le (oS hb);exact⟨d,e⟩
theorem z1e(c:BC){k:Nat}(hz:([c]:List BC)[k - 900000]?=none):preB [c] k=none:=by unfold preB;rw[hz];cases yy 900000 k<;>rfl
theorem ge_no(c:BC){k:Nat}(h:¬k=900000)(hb:yy 900000 k=true):([c]:List BC)[k - 900000]?=none:=by obtain⟨d,e⟩:=from9 hb;grind
theorem zmr(c : BC){k : Nat}(h : ¬k = 900000) : preB [c] k = none := by
 cases hb:yy 900000 k with
 |false =>unfold preB;rw[hb];rfl
 |true =>exact z1e c (ge_no c h hb)
theorem zdt{f : Nat → Option BC}{E : Env}{sz n : Nat}{row : Nat → List LV}(h1 : f 900000 = some (.arr sz n row))(h2 : ∀k, ¬k = 900000 → f k = none){k b : Nat} : OwnAt f E k b ↔ k = 900000 ∧ (E 900000).b = some b := by
 constructor
 ·intro h;have e : k = 900000 := Classical.byContradiction fun e => h.ne (h2 k e);subst e;rcases h with h | h
  ·grind
  rw[h1] at h;exact h.1.elim
 rintro⟨rfl,h⟩;exact .inl ⟨by rw[h1];simp,h⟩
section
variable {P:Program} {α:Type} [Inhabited α]
theorem FnX.swap {f : FuncId} {fn : Func} {b ag : Bool} {T : TypeId} {sz : Nat} {c : α → List LV} {l : List α} {i j : Int} (hf : P.funcs[f]? = some fn) (hname : (fn.name == "runtime.NumGoroutine") = false) (hb : fn.body.isNone = true) (hn : Extern.findNext fn = none)
    (he:Extern.find fn=some (Go.Extern.ReflectliteSwapper.swap b)) (hh:handleType P (typeHandle P T)=some T) (ha:aggOf P T=some ag) (hz:szOf P T=some sz) (hag:ag=false→sz=1) (hi:0≤i∧i<l.length) (hj:0≤j∧j<l.length) :
    FnX P f [.int .i64 i,.int .i64 j,.own 900000,.k P.globals.size T] [.arr sz l.length (rowOf c l)] (.tup []) [(900000,.arr sz (swp l i j).length (rowOf c (swp l i j)))]:=by
  intro w0 w xo vals E hgh hl hbel hxo hxg hargs hblk
  obtain⟨v0, v1, v2, v3, rfl⟩ : ∃v0 v1 v2 v3, vals = [v0, v1, v2, v3] := by
    match vals,hl with
    |[v0,v1,v2,v3],_=>exact⟨v0,v1,v2,v3,rfl⟩
  have e0:=(hargs 0 _ v0 rfl rfl).1.int_inv
  have e1:=(hargs 1 _ v1 rfl rfl).1.int_inv
  have e2:=(hargs 2 _ v2 rfl rfl).1.own_inv
  have e3:=(hargs 3 _ v3 rfl rfl).1.k_inv
  subst e0;subst e1;subst e3
  have hB:=hblk.ok 900000 _ (zcc _)
  have hB2:=hB
  obtain⟨hnn,hkk⟩:=hB2
  rcases hkk with⟨_,_,k3⟩ | ⟨bl,cap,us,T',k1,k2,k3,k4,k5,k6,k7,k8⟩
  · omega
  have hX:OwnB xo (preB [.arr sz l.length (rowOf c l)]) E bl:=.inr ⟨900000,(zdt (zcc _) (fun k h=>zmr _ h)).2 ⟨rfl,k1⟩⟩
  obtain⟨i',rfl⟩:∃i':Nat,i=i':=⟨i.toNat,vbX⟩
  obtain⟨j',rfl⟩:∃j':Nat,j=j':=⟨j.toNat,vbX⟩
  have hi':i'<l.length:=vbX
  have hj':j'<l.length:=vbX
  obtain⟨x,x1,x2,x3,x4,x5⟩:=zvb hB k1 ha hz hag hi'
  obtain⟨y,y1,y2,y3,y4,y5⟩:=zvb hB k1 ha hz hag hj'
  obtain⟨n1,s1,hB1⟩:=zq0 hB k1 hX hz hi' y2 y3 y4 y5
  have hkeep1:∀b',b'<w.heap.size→¬OwnB xo (preB [.arr sz l.length (rowOf c l)]) E b'→(w.setRow bl n1).heap[b']?=w.heap[b']?:=fun b' _ hno=>setRow_other w bl b' n1 (fun e=>hno (by rw[e];exact hX))
  obtain⟨n2,s2,hB2⟩:=zq0 hB1 k1 hX hz hj' x2 x3 x4 (fun k lv u h1 h2=>(x5 k lv u h1 h2).keep vbZ hkeep1 (fun b' hb'=>.inl hb') (ou _))
  have hsw : ((fun k => bif yv k j' then rowOf c l i' else(fun k => bif yv k i' then rowOf c l j' else rowOf c l k) k) : Nat → List LV) = rowOf c (swp l (i' : Int) (j' : Int)) := by
    funext k;rw[z06 c l hi' hj']
  rw[hsw] at hB2
  have hown : ∀b', OwnB xo (look [(900000, BC.arr sz (swp l (i' : Int) (j' : Int)).length (rowOf c (swp l (i' : Int) (j' : Int))))]) E b' ↔ OwnB xo (preB [.arr sz l.length (rowOf c l)]) E b' := fun b' => by
    refine or_congr Iff.rfl (exists_congr fun k=>?_)
    rw[zdt (zjb _) (fun k h=>zka _ h),zdt (zcc _) (fun k h=>zmr _ h)]
  refine⟨.tuple #[],(w.setRow bl n1).setRow bl n2,?_,.tuple #[],E,rfl,zcr (zcr hbel k3) k3,vbZ,fun b' _ hno=>?_,fun k hk hl=>⟨rfl,?_⟩,fun k b' hl=>.inr ⟨k,?_⟩,⟨.c _ _ (.tup [] #[] rfl fun k lv v h=>vbQ),fun id hm=>by cases hm with | tup _ _ _ h=>cases h⟩,?_⟩
  · rw [run_callFunc_extern hf hname hb hn he,e2,k2]
    have h1:((i':Int)<0||(i':Int) ≥ (l.length:Int))=false:=vbY
    have h2:((j':Int)<0||(j':Int) ≥ (l.length:Int))=false:=vbP
    have h3:((i':Int)<0||(i':Int) ≥ (l.length:Int)||(j':Int)<0||(j':Int) ≥ (l.length:Int))=false:=vbP
    have hrun : (Go.Extern.ReflectliteSwapper.exchange T ⟨bl, (E 900000).off, none⟩ i' j').run P w = .ok (.tuple #[]) ((w.setRow bl n1).setRow bl n2) := by
      simp only[Go.Extern.ReflectliteSwapper.exchange,oD,zba hz,ow,za1,x1,y1,s1,s2,oJ]
    show Yh ((Go.Extern.ReflectliteSwapper.swap b #[.int .i64 (i':Int),.int .i64 (j':Int),.slice (some ⟨bl,(E 900000).off,none⟩) l.length cap,typeHandle P T]).run P w) _=_
    rw[z1c]
    have ho:(Go.Extern.Rtype.ofHandle (typeHandle P T)).run P w=.ok T w:=by simp[Go.Extern.Rtype.ofHandle,hh,Yh]
    cases b with
    |true =>
      simp only[if_true,h1,h2,oT,if_false,oD,oJ,ow,ho,yZ,hrun]
    |false =>
      simp only[oT,if_false,h3,oD,oJ,ow,ho,yZ,hrun]
  · have:b'≠bl:=fun e=>hno 900000 ((zdt (zcc _) (fun k h=>zmr _ h)).2 ⟨rfl,by rw [e];exact k1⟩)
    rw[setRow_other _ _ _ _ this,setRow_other _ _ _ _ this]
  · by_cases e:k=900000
    · rw [e,zcc];simp
    · exact absurd (zka _ e) hl
  · rw [zdt (zjb _) (fun k h=>zka _ h)] at hl
    rw[zdt (zcc _) (fun k h=>zmr _ h)]
    exact hl
  · have hX3:OwnB xo (look [(900000,BC.arr sz (swp l (i':Int) (j':Int)).length (rowOf c (swp l (i':Int) (j':Int))))]) E=OwnB xo (preB [.arr sz l.length (rowOf c l)]) E:=funext fun b'=>propext (hown b')
    have only : ∀k c', look [(900000, BC.arr sz (swp l (i' : Int) (j' : Int)).length (rowOf c (swp l (i' : Int) (j' : Int))))] k = some c' → k = 900000 ∧ c' = BC.arr sz (swp l (i' : Int) (j' : Int)).length (rowOf c (swp l (i' : Int) (j' : Int))) := fun k c' h => by
      by_cases e:k=900000
      · rw [e,zjb] at h;cases h;exact ⟨e,rfl⟩
      · rw [zka _ e] at h;cases h
    refine⟨fun k c' hk=>?_,fun k m b' h1 h2=>?_,fun k cells lv id h _ _=>?_,fun k wd cl sz n rows h=>?_⟩
    · obtain ⟨rfl,rfl⟩:=only k c' hk
      rw[hX3,zjj]
      exact hB2
    · rw [zdt (zjb _) (fun k h=>zka _ h)] at h1 h2
      rw[h1.1,h2.1]
    · have:=(only k _ h).2;cases this
    · have:=(only k _ h).2;cases this
end

section
open Go.Extern Go.Extern.Rtype
variable {P:Program} {t e:TypeId} {ti:TypeInfo}
theorem z0c(hi:P.info? t=some ti)(w:World):(typeInfo t).run P w=.ok ti w:=by simp[typeInfo,hi,Yh]
theorem zpc(hi:P.info? t=some ti)(hd:ti.desc=.slice e)(w:World):(under t).run P w=.ok (t,ti) w:=by simp[under,z0c hi,hd,Yh]
theorem s_kind(hi:P.info? t=some ti)(hd:ti.desc=.slice e)(w:World):(kind t).run P w=.ok 23 w:=by simp[kind,zpc hi hd,hd,Yh]
theorem s_elem(hi:P.info? t=some ti)(hd:ti.desc=.slice e)(w:World):(elem? t).run P w=.ok (some e) w:=by simp[elem?,zpc hi hd,hd,Yh]
theorem zny(hi:P.info? t=some ti)(hd:ti.desc=.slice e):P.underlying t=some (.slice e):=by obtain⟨d,_,_,_,_,_,_,_,_,_⟩:=ti;subst hd;simp[Program.underlying,hi]
theorem zy5(hi:P.info? t=some ti)(hd:ti.desc=.slice e)(p:Option Addr)(n c:Nat)(w:World):(ReflectliteValue.unpack (.iface t (.slice p n c))).run P w=.ok (.agg #[typeHandle P t,.pointer (some ⟨w.heap.size,0,none⟩),.int .u64 151]) (w.alloc (.cells #[.slice p n c] t)):=by simp[ReflectliteValue.unpack,ReflectliteValue.mk,newVar,newRow,handle,s_kind hi hd,Yh,Value.cells,ReflectliteValue.flagIndir]
theorem zy6(h:Value)(a:Addr):ReflectliteValue.partsAny (.agg #[h,.pointer (some a),.int .u64 151])=(do pure (some (←ofHandle h,a,151))):=rfl
theorem zud(z : Sem Value)(f : TypeId → Addr → Nat → Nat → Sem Value)(v : Value) :
    ReflectliteValue.method z f #[v]=(do match ←ReflectliteValue.parts v with | none=>z | some (t,a,fl)=>f t a fl (fl % 32)):=rfl
theorem z09(a:Addr)(hpk:P.packed t=false)(hh:handleType P (typeHandle P t)=some t)(w:World):(ReflectliteValue.parts (.agg #[typeHandle P t,.pointer (some a),.int .u64 151])).run P w=.ok (some (t,a,151)) w:=by have hn:∀(what:String) (w:World),(noPack what t).run P w=.ok () w:=fun what w=>(by simp[noPack,hpk,Yh]);unfold ReflectliteValue.parts;rw[zy6];simp[ofHandle,hh,hn,Yh]
theorem s_len(hi : P.info? t = some ti)(hd : ti.desc = .slice e)(hpk : P.packed t = false)(hh : handleType P (typeHandle P t) = some t)(a : Addr)(p : Option Addr)(n c : Nat)(w : World)(ha : w.cell? a = some (.slice p n c)) :
    (ReflectliteValue.method (ReflectliteValue.valueError "reflectlite.Value.Len" 0) ReflectliteValue.len #[.agg #[typeHandle P t, .pointer (some a), .int .u64 151]]).run P w = .ok (.int .i64 n) w := by
  have hu:=zny hi hd
  rw[zud]
  simp only[oD,z09 a hpk hh w]
  simp[ReflectliteValue.len,zpc hi hd,hd,loadVar,isAgg,underlying,hu,ha,Builtin.len_,goInt,Yh]
def litK(n : Nat)(ie : TypeInfo)(ke : Nat) : Nat :=
  if n==0 then 1 else if n==1 then 2
  else if ie.hasPointers&&ie.bytes==8 then 3
  else if ie.hasPointers&&(ke==24) then 4
  else if ie.hasPointers then 9
  else match ie.bytes with | 8=>5 | 4=>6 | 2=>7 | 1=>8 | _=>9
theorem zs4(pkg : String)(ns : Nat → Sem Value)(s : Value) :
    ReflectliteSwapper.swapper pkg ns #[.iface t s] = (do
      let (.slice _ n _,some e):=(s,←elem? t) | ns (←kind t)
      let i ←typeInfo e
      let isString:=(←kind e)==24
      let k : Nat :=
        if n==0 then 1 else if n==1 then 2
        else if i.hasPointers&&i.bytes==8 then 3
        else if i.hasPointers&&isString then 4
        else if i.hasPointers then 9
        else match i.bytes with | 8=>5 | 4=>6 | 2=>7 | 1=>8 | _=>9
      let h ←handle e
      ReflectliteSwapper.literal pkg k (if k≤2 then #[] else #[s,h])):=rfl
theorem zjq{ie : TypeInfo}(hi : P.info? t = some ti)(hd : ti.desc = .slice e)(hie : P.info? e = some ie){ke : Nat}(hke : ∀w, (kind e).run P w = .ok ke w)
    (p : Option Addr) (n c : Nat) {f : Nat} (hf : P.funcs.findIdx? (·.name == "internal/reflectlite" ++ ".Swapper$" ++ toString (litK n ie ke)) = some f) (w : World) :
    (ReflectliteSwapper.swapper "internal/reflectlite" (ReflectliteValue.valueError "Swapper") #[.iface t (.slice p n c)]).run P w
      = .ok (.func (.func f) #[] (if litK n ie ke≤2 then #[] else #[.slice p n c,typeHandle P e])) w:=by
  rw[zs4]
  simp only[oD,s_elem hi hd,Yh,z0c hie,hke]
  change Sem.run P (ReflectliteSwapper.literal "internal/reflectlite" (litK n ie ke) (if litK n ie ke ≤ 2 then #[] else #[.slice p n c, typeHandle P e])) w = _
  simp at hf
  simp[ReflectliteSwapper.literal,hf,Yh]

theorem FnX.keep{f:FuncId}{args:List LV}{bl:List BC}{r:LV}(hr:∀id,Ment r id→preB bl id≠none)(h:∀(w:World) (B:Nat) (X:Nat→Prop) (vals:List Value) (E:Env),vals.length=args.length→(∀(i:Nat) lv v,args[i]?=some lv→vals[i]?=some v→RepV w B X E lv v)→(∀i c,preB bl i=some c→BlkOk w B X E i c)→∃v,(callFunc f vals.toArray).run P w=.ok (.value v) w∧RepV w B X E r v):FnX P f args bl r (enumB bl 900000):=by intro w0 w xo vals E hgh hl hbel hxo hxg hargs hblk;have e9:look (enumB bl 900000)=preB bl:=funext (zc4 bl);obtain⟨v,h1,h2⟩:=h w w0.heap.size (OwnB xo (preB bl) E) vals E hl (fun i lv v h1 h2=>(hargs i lv v h1 h2).1) hblk.ok;refine⟨v,w,h1,v,E,rfl,hbel,ou _,fun b _ _=>rfl,fun k hk hl=>⟨rfl,by rw[e9] at hl;exact hl⟩,fun k b' hl=>.inr ⟨k,by rw[e9] at hl;exact hl⟩,⟨by rw[e9];exact h2,fun id hm=>by rw[e9];exact hr id hm⟩,by rw[e9];exact hblk⟩
theorem zuo(c d:BC):preB [c,d] 900000=some c:=by unfold preB;rw[oZ (ou _),Nat.sub_self];rfl
theorem zun(c d:BC):preB [c,d] 900001=some d:=by unfold preB;rw[oZ (Nat.le_succ _),show 900001 - 900000=1 from rfl];rfl
theorem FnX.valLen {f : FuncId} {fn : Func} {sz n : Nat} {row : Nat → List LV} (hf : P.funcs[f]? = some fn) (hname : (fn.name == "runtime.NumGoroutine") = false) (hb : fn.body.isNone = true) (hn : Extern.findNext fn = none)
    (he : Extern.find fn = some (ReflectliteValue.method (ReflectliteValue.valueError "reflectlite.Value.Len" 0) ReflectliteValue.len)) (hi : P.info? t = some ti) (hd : ti.desc = .slice e) (hpk : P.packed t = false) (hh : handleType P (typeHandle P t) = some t) :
    FnX P f [.agg [.k P.globals.size t,.vp 900001 0,.int .u64 151]] [.arr sz n row,.var [.own 900000]] (.int .i64 n) (enumB [.arr sz n row,.var [.own 900000]] 900000):=by
  refine FnX.keep (fun id h=>vbU) fun w B X vals E hl hargs hblk=>?_
  obtain⟨v0, rfl⟩ : ∃v0, vals = [v0] := by
    match vals,hl with
    |[v0],_=>exact⟨v0,rfl⟩
  obtain⟨vs,rfl,h1,h2⟩:=(hargs 0 _ v0 rfl rfl).agg_inv
  have hg:∀i,i<3→vs[i]?=some (vs.getD i undef):=fun i hi=>by simp[show i<vs.size by rw[h1];exact hi]
  have a0:=(h2 0 _ _ rfl (hg 0 vbX)).k_inv
  obtain⟨b,a1,a1'⟩:=(h2 1 _ _ rfl (hg 1 vbX)).vp_inv
  have a2:=(h2 2 _ _ rfl (hg 2 vbX)).int_inv
  have hvs : vs = #[typeHandle P t, .pointer (some ⟨b, 0, none⟩), .int .u64 151] := by
    apply Array.ext vbH
    intro i hi1 hi2
    have hi3:i<3:=vbY
    have:=hg i hi3
    rw[oL hi1] at this
    rw[Option.some.inj this]
    match i,hi3 with
    |0,_=>exact a0
    |1,_=>exact a1'
    |2,_=>exact a2
  obtain⟨b',us,T,k1,k2,k3,k4,k5⟩:=hblk 900001 _ (zun _ _)
  rw[a1] at k1;cases k1
  have hv:=(k5 0 (.own 900000) (us.getD 0 undef) rfl (by simp[show 0<us.size by rw[k4];simp])).own_inv
  have hn':=(hblk 900000 _ (zuo _ _))
  have hval : (E 900000).val = .slice (E 900000).A n (E 900000).vc := by
    obtain⟨g1,g2⟩:=hn'
    rcases g2 with⟨_,g3,g4⟩ | ⟨_,_,_,_,_,g3,_⟩
    · unfold EI.val at g3 ⊢;injection g3 with q1 q2 q3;rw [q2,g4]
    · unfold EI.val at g3 ⊢;injection g3 with q1 q2 q3;rw [q2]
  have hcell:w.cell? ⟨b,0,none⟩=some (us.getD 0 undef):=by simp[Yj,k3,show 0<us.size by rw[k4];simp]
  rw[hv,hval] at hcell
  refine⟨_,?_,.c _ _ (.int .i64 n)⟩
  rw[run_callFunc_extern hf hname hb hn he,hvs,s_len hi hd hpk hh _ (E 900000).A n (E 900000).vc w hcell]
  rfl
theorem zpf{w : World}{B : Nat}{X : Nat → Prop}{E : Env}{id sz n : Nat}{row : Nat → List LV}(h : BlkOk w B X E id (.arr sz n row)) : (E id).val = .slice (E id).A n (E id).vc := by
 obtain⟨g1,g2⟩:=h;rcases g2 with⟨_,g3,g4⟩ | ⟨_,_,_,_,_,g3,_⟩
 ·unfold EI.val at g3 ⊢; injection g3 with q1 q2 q3; rw [q2, g4]
 unfold EI.val at g3 ⊢;injection g3 with q1 q2 q3;rw[q2]
theorem FnX.swapper {f g : FuncId} {fn : Func} {sz n : Nat} {row : Nat → List LV} {ie : TypeInfo} {ke : Nat} (h2 : 2 ≤ n) (hf : P.funcs[f]? = some fn) (hname : (fn.name == "runtime.NumGoroutine") = false) (hb : fn.body.isNone = true) (hn : Extern.findNext fn = none)
    (he : Extern.find fn = some (ReflectliteSwapper.swapper "internal/reflectlite" (ReflectliteValue.valueError "Swapper"))) (hi : P.info? t = some ti) (hd : ti.desc = .slice e) (hie : P.info? e = some ie) (hke : ∀ w, (kind e).run P w = .ok ke w)
    (hk : ∀ m, litK (m + 2) ie ke = litK 2 ie ke ∧ 3 ≤ litK 2 ie ke) (hg : P.funcs.findIdx? (·.name == "internal/reflectlite" ++ ".Swapper$" ++ toString (litK 2 ie ke)) = some g) :
    FnX P f [.ifc t (.own 900000)] [.arr sz n row] (.clo g [.own 900000,.k P.globals.size e]) (enumB [.arr sz n row] 900000):=by
  refine FnX.keep (fun id hm=>?_) fun w B X vals E hl hargs hblk=>?_
  · cases hm with
    |clo _ _ lv _ hlv hm =>
      simp only[oQ,wa,or_false] at hlv
      rcases hlv with rfl | rfl
      · cases hm;rw [zcc];simp
      · cases hm
  obtain⟨v0, rfl⟩ : ∃v0, vals = [v0] := by
    match vals,hl with
    |[v0],_=>exact⟨v0,rfl⟩
  obtain⟨u,rfl,hu⟩:=(hargs 0 _ v0 rfl rfl).ifc_inv
  have hu:=hu.own_inv
  have hval:=zpf (hblk 900000 _ (zcc _))
  obtain⟨m,rfl⟩:∃m,n=m+2:=⟨n - 2,vbX⟩
  refine⟨.func (.func g) #[] #[(E 900000).val,typeHandle P e],?_,.clo _ _ _ rfl fun i lv v h1 h3=>?_⟩
  · rw [run_callFunc_extern hf hname hb hn he,hu,hval,zjq hi hd hie hke (E 900000).A (m+2) (E 900000).vc (f:=g) (by rw [(hk m).1];exact hg) w,(hk m).1,if_neg (by have:=(hk m).2;omega)]
    rfl
  · match i with
    |0=>cases h1;cases h3;exact .own 900000
    |1=>cases h1;cases h3;exact .c _ _ (.k _ _)
    |_+2=>simp at h1
theorem FnX.swapper0 {f g0 g1 : FuncId} {fn : Func} {sz n : Nat} {row : Nat → List LV} {ie : TypeInfo} {ke : Nat} (h2 : n ≤ 1) (hf : P.funcs[f]? = some fn) (hname : (fn.name == "runtime.NumGoroutine") = false) (hb : fn.body.isNone = true) (hn : Extern.findNext fn = none)
    (he : Extern.find fn = some (ReflectliteSwapper.swapper "internal/reflectlite" (ReflectliteValue.valueError "Swapper"))) (hi : P.info? t = some ti) (hd : ti.desc = .slice e) (hie : P.info? e = some ie) (hke : ∀ w, (kind e).run P w = .ok ke w)
    (hg0 : P.funcs.findIdx? (·.name == "internal/reflectlite" ++ ".Swapper$" ++ toString 1) = some g0) (hg1 : P.funcs.findIdx? (·.name == "internal/reflectlite" ++ ".Swapper$" ++ toString 2) = some g1) :
    FnX P f [.ifc t (.own 900000)] [.arr sz n row] .fv (enumB [.arr sz n row] 900000):=by
  refine FnX.keep (fun id hm=>vbS) fun w B X vals E hl hargs hblk=>?_
  obtain⟨v0, rfl⟩ : ∃v0, vals = [v0] := by
    match vals,hl with
    |[v0],_=>exact⟨v0,rfl⟩
  obtain⟨u,rfl,hu⟩:=(hargs 0 _ v0 rfl rfl).ifc_inv
  have hu:=hu.own_inv
  have hval:=zpf (hblk 900000 _ (zcc _))
  rcases(show n=0∨n=1 by omega) with rfl | rfl
  · refine ⟨.func (.func g0) #[] #[],?_,.c _ _ (.fv _ _)⟩
    rw[run_callFunc_extern hf hname hb hn he,hu,hval,zjq hi hd hie hke (E 900000).A 0 (E 900000).vc (f:=g0) hg0 w]
    rfl
  · refine ⟨.func (.func g1) #[] #[],?_,.c _ _ (.fv _ _)⟩
    rw[run_callFunc_extern hf hname hb hn he,hu,hval,zjq hi hd hie hke (E 900000).A 1 (E 900000).vc (f:=g1) hg1 w]
    rfl
theorem FnX.valueOf {f : FuncId} {fn : Func} {sz n : Nat} {row : Nat → List LV} (hf : P.funcs[f]? = some fn) (hname : (fn.name == "runtime.NumGoroutine") = false) (hb : fn.body.isNone = true) (hn : Extern.findNext fn = none)
    (he:Extern.find fn=some (fun args=>ReflectliteValue.unpack (args.getD 0 (.tuple #[])))) (hi:P.info? t=some ti) (hd:ti.desc=.slice e) :
    FnX P f [.ifc t (.own 900000)] [.arr sz n row] (.agg [.k P.globals.size t,.vp 0 0,.int .u64 151]) [(900000,.arr sz n row),(0,.var [.own 900000])]:=by
  intro w0 w xo vals E hgh hl hbel hxo hxg hargs hblk
  obtain⟨v0, rfl⟩ : ∃v0, vals = [v0] := by
    match vals,hl with
    |[v0],_=>exact⟨v0,rfl⟩
  obtain⟨u,rfl,hu⟩:=(hargs 0 _ v0 rfl rfl).1.ifc_inv
  have hu:=hu.own_inv
  have hB:=hblk.ok 900000 _ (zcc _)
  have hval:=zpf hB
  let E':Env:=⟨fun i=>if i=0 then⟨some w.heap.size,0,none,0,0,0⟩ else E i,E.s⟩
  have e9:E' 900000=E 900000:=vbY
  have e00:E' 0=⟨some w.heap.size,0,none,0,0,0⟩:=vbY
  have look2 : ∀k c', look [(900000, BC.arr sz n row), (0, BC.var [.own 900000])] k = some c' → (k = 900000 ∧ c' = BC.arr sz n row) ∨ (k = 0 ∧ c' = .var [.own 900000]) := fun k c' h => by
    have:=zbl h
    grind
  have l9 : look [(900000, BC.arr sz n row), (0, BC.var [.own 900000])] 900000 ≠ none := by
    unfold look;rw[Yy];simp
  have l0 : look [(900000, BC.arr sz n row), (0, BC.var [.own 900000])] 0 ≠ none := by
    intro h;cases h
  have main2 : ∀k b', OwnAt (look [(900000, BC.arr sz n row), (0, BC.var [.own 900000])]) E' k b' → (k = 900000 ∧ (E' 900000).b = some b') ∨ (k = 0 ∧ (E' 0).b = some b') := fun k b' hk => by
    obtain⟨c',hc⟩:=oN.1 hk.ne
    rcases look2 k c' hc with⟨rfl,rfl⟩ | ⟨rfl,rfl⟩
    · rcases hk with hk | hk
      · grind
      · rw [hc] at hk;exact hk.1.elim
    · rcases hk with hk | hk
      · exact .inr ⟨rfl,hk.2⟩
      · rw [hc] at hk;exact hk.1.elim
  have hown : ∀b', OwnB xo (look [(900000, BC.arr sz n row), (0, BC.var [.own 900000])]) E' b' → OwnB xo (preB [.arr sz n row]) E b' ∨ w.heap.size ≤ b' := fun b' hb' => by
    rcases hb' with hb' | ⟨k,hk⟩
    · exact .inl (.inl hb')
    · rcases main2 k b' hk with ⟨rfl,hkb⟩ | ⟨rfl,hkb⟩
      · rw [e9] at hkb
        exact .inl (.inr ⟨900000,.inl ⟨by rw[zcc];simp,hkb⟩⟩)
      · simp_all
  have hheap:∀b',b'<w.heap.size→(w.alloc (.cells #[.slice (E 900000).A n (E 900000).vc] t)).heap[b']?=w.heap[b']?:=fun b' hb'=>Below.heap_alloc _ _ _ hb'
  refine⟨_,w.alloc (.cells #[.slice (E 900000).A n (E 900000).vc] t),by rw[run_callFunc_extern hf hname hb hn he,hu,hval];show Yh ((ReflectliteValue.unpack (.iface t (.slice (E 900000).A n (E 900000).vc))).run P w) _=_;rw[zy5 hi hd];rfl,_,E',rfl,hbel.alloc hbel.size _,?_,fun b' hb' _=>hheap b' hb',fun k hk hl=>?_,fun k b' hl=>?_,⟨.agg _ _ rfl fun i lv v h1 h3=>?_,fun id hm=>?_⟩,?_⟩
  · simp
  · obtain ⟨c',hc⟩:=oN.1 hl
    rcases look2 k c' hc with⟨rfl,_⟩ | ⟨rfl,_⟩
    · exact ⟨e9,by rw [zcc];simp⟩
    · omega
  · rcases main2 k b' hl with ⟨rfl,hkb⟩ | ⟨rfl,hkb⟩
    · rw [e9] at hkb;exact .inr ⟨900000,.inl ⟨by rw [zcc];simp,hkb⟩⟩
    · grind
  · match i with
    |0=>cases h1;cases h3;exact .c _ _ (.k _ _)
    |1=>cases h1;cases h3;exact .vp 0 0 w.heap.size (by rw[e00])
    |2=>cases h1;cases h3;exact .c _ _ (.int _ _)
    |_+3=>simp at h1
  · cases hm with
    |agg _ lv _ hlv hm =>
      simp only[oQ,wa,or_false] at hlv
      rcases hlv with rfl | rfl | rfl
      · cases hm
      · cases hm;exact l0
      · cases hm
  · refine ⟨fun k c' hk=>?_,fun k m b' h1 h2=>?_,fun k cells lv id h hlv hm=>?_,fun k wd cl sz' n' rows h=>by rcases look2 k _ h with ⟨_,h⟩ | ⟨_,h⟩<;>cases h⟩
    · rcases look2 k c' hk with ⟨rfl,rfl⟩ | ⟨rfl,rfl⟩
      · have h1:=hB
        obtain⟨q1,q2⟩:=h1
        refine⟨by rw[e9];exact q1,?_⟩
        rw[e9]
        rcases q2 with q2 | ⟨b,cap,vs,T,k1,k2,k3,k4,k5,k6,k7,k8⟩
        · exact .inl q2
        · have hlt:=(oI.1 k4).1
          refine .inr ⟨b,cap,vs,T,k1,k2,k3,by rw[hheap b hlt];exact k4,k5,k6,k7,fun k hk=>⟨(k8 k hk).1,(k8 k hk).2.1,fun j lv v g1 g2=>((k8 k hk).2.2 j lv v g1 g2).keep vbZ (fun b' hb' _=>hheap b' hb') (fun b' hb'=>?_) (ou _)⟩⟩
          exact hown b' hb'
      · refine ⟨w.heap.size,#[.slice (E 900000).A n (E 900000).vc],t,by rw [e00],hbel.size,heap_alloc_new w _,rfl,fun j lv v h1 h3=>?_⟩
        match j with
        |0 =>
          cases h1;cases h3
          have:=RepV.own (w:=w.alloc (.cells #[.slice (E 900000).A n (E 900000).vc] t)) (B:=w0.heap.size) (X:=OwnB xo (look [(900000,BC.arr sz n row),(0,BC.var [.own 900000])]) E') (E:=E') 900000
          rw[e9,hval] at this
          exact this
        |_+1=>simp at h1
    · have hl9:∀ b',(E 900000).b=some b'→b'<w.heap.size:=fun b' hb'=>hB.lt hb'
      rcases main2 k b' h1 with⟨rfl,g1⟩ | ⟨rfl,g1⟩<;>rcases main2 m b' h2 with⟨rfl,g2⟩ | ⟨rfl,g2⟩
      · rfl
      · rw [e9] at g1;rw [e00] at g2;cases g2;have:=hl9 _ g1;omega
      · rw [e9] at g2;rw [e00] at g1;cases g1;have:=hl9 _ g2;omega
      · rfl
    · rcases look2 k _ h with ⟨_,h⟩ | ⟨_,h⟩
      · cases h
      · cases h
        simp only[oR] at hlv
        subst hlv
        cases hm
        exact l9
end
def msL{α : Type}[Inhabited α](id : Nat)(c : α → List LV)(b : Nat)(N M : Int)(n : Nat)(x : α)(e : N.toNat = n) : Cl :=
  (.rowN id (yw n x).length (rowOf c (yw n x)), ⟨0 ≤ N ∧ N ≤ M ∧ (b : Int) * M ≤ 281474976710656 ∧ M ≤ 9223372036854775807, All [0 ≤ N ∧ N ≤ M ∧ (b : Int) * M ≤ 281474976710656 ∧ M ≤ 9223372036854775807] ∧ zbo N.toNat (yw n x).length (fun _ => c x) (rowOf c (yw n x)),
    fun h=>⟨⟨h,trivial⟩,by rw[List.length_replicate];exact e,fun k hk=>(zdg c n x k vbX).symm⟩⟩)
theorem zn2(bl : List BC)(c : BC)(i : Nat) : preB (bl ++ [c]) i = if i = 900000 + bl.length then some c else preB bl i := by
 unfold preB;cases hb:yy 900000 i with
 |true =>have h:=oS hb;obtain⟨d,rfl⟩:=Nat.exists_eq_add_of_le h;grind
 |false =>simp only[oB];rw[if_neg];intro h2;have h3:yy 900000 i=true:=oZ (by rw[h2];exact Nat.le_add_right _ _);grind
theorem zq4(bl:List BC):preB bl (900000+bl.length)=none:=by unfold preB;rw[oZ (Nat.le_add_right _ _),oC,Nat.add_sub_cancel_left];exact o5 (ou _)
theorem BlkOk.env{w : World}{B : Nat}{X X' : Nat → Prop}{E E' : Env}{i : Nat}{c : BC}(h : BlkOk w B X E i c)(hx : ∀b, X' b → X b)(hE : E' i = E i)(hm : ∀cells lv id, c = .var cells → lv ∈ cells → Ment lv id → E' id = E id)(hS : E'.s i = E.s i)(ho : ∀wd cl sz n rows, c = .nest wd cl sz n rows → cl = true) : BlkOk w B X' E' i c := by
 have h:=h.sub hx;cases c with
 |var cells =>obtain⟨b,vs,T,h1,h2,h3,h4,h5⟩:=h;exact⟨b,vs,T,vbB,h2,h3,h4,fun j lv v k1 k2=>(h5 j lv v k1 k2).keep (ou _) (fun _ _ _=>rfl) (fun b hb=>.inl hb) fun id hid=>hm cells lv id rfl (oW k1) hid⟩
 |mp kd m =>obtain⟨b,es,ck,h1,h2⟩:=h;exact⟨b,es,ck,vbB,h2⟩
 |bld T e s =>obtain⟨b,v,p,h1,h2,h3⟩:=h;exact⟨b,v,p,vbB,h2,by rw[hS];exact h3⟩
 |arr sz n row =>simp only[BlkOk,hE];exact h
 |nest wd cl sz n rows =>exact h.move (ho wd cl sz n rows rfl) (ou _) (fun _ h=>h) hE fun b=>by rw[hS]
theorem FnM.nil{P : Program}{f : FuncId}{args : List LV}{bl : List BC}{sz : Nat}{row : Nat → List LV}{r : LV}{rbl : List (Nat × BC)}(k : Nat)(hk : args[k]? = some (.own (900000 + bl.length)))(hn : look rbl (900000 + bl.length) = none)(h : FnM P f args (bl ++ [.arr sz 0 row]) r rbl) : FnM P f (args.set k .nilS) bl r rbl := by
 intro w0 w xo vals E hgh hl hbel hxo hxg hargs hblk;let n9:=900000+bl.length;let E':Env:=⟨fun i=>if i=n9 then⟨none,0,none,0,0,0⟩ else E i,E.s⟩;have hE:∀i,i≠n9→E' i=E i:=fun i hi=>if_neg hi;have hE9:E' n9=⟨none,0,none,0,0,0⟩:=if_pos rfl;have hp:∀i,i≠n9→preB (bl++[.arr sz 0 row]) i=preB bl i:=fun i hi=>by rw[zn2,if_neg hi]
 have hp9:preB (bl++[.arr sz 0 row]) n9=some (.arr sz 0 row):=by rw[zn2,if_pos rfl]
 have hne : ∀i, preB bl i ≠ none → i ≠ n9 := fun i hi e => hi (by rw[e]; exact zq4 bl);have hat : ∀i b, OwnAt (preB (bl ++ [.arr sz 0 row])) E' i b ↔ OwnAt (preB bl) E i b := fun i b => by
  by_cases e:i=n9
  ·subst e;constructor
   ·rintro (⟨_, h2⟩ | ⟨h1, _⟩)
    ·grind
    rw[hp9] at h1;exact h1.elim
   intro h;exact absurd (zq4 bl) h.ne
  unfold OwnAt;grind
 have hX : ∀b, OwnB xo (preB (bl ++ [.arr sz 0 row])) E' b → OwnB xo (preB bl) E b := fun b hb => by
  rcases hb with hb | ⟨i,h1⟩
  ·exact .inl hb
  exact .inr ⟨i,(hat i b).1 h1⟩
 have hlen:vals.length=args.length:=vbG
 refine Calls.mono (h w0 w xo vals E' hgh hlen hbel (fun b hb=>⟨(hxo b hb).1,fun i hi=>(hxo b hb).2 i ((hat i b).1 hi)⟩) hxg (fun i lv v h1 h2=>?_) ⟨fun i c hc=>?_,fun i j b hi hj=>hblk.inj i j b ((hat i b).1 hi) ((hat j b).1 hj),fun i cells lv id h1 h2 h3=>?_,fun i wd cl sz' n' rows hi=>?_⟩) fun e w' hh=>?_
 ·by_cases e : i = k
  ·subst e;have e2 : lv = .own n9 := vbY;subst e2;have h3 := (hargs i .nilS v (by rw [List.getElem?_set_self (by exact (oE.1 hk).1)]) h2).1.nilS_inv;subst h3;refine ⟨?_, fun id hm => by cases hm; rw [hp9]; exact fun h => vbU⟩;have : (Value.slice none 0 0) = (E' n9).val := (by rw [hE9]; rfl);rw [this];exact .own n9
  obtain⟨h3,h4⟩:=hargs i lv v (by rw[List.getElem?_set_ne (fun h=>e h.symm)];exact h1) h2;exact⟨h3.keep (ou _) (fun _ _ _=>rfl) (fun b hb=>.inl (hX b hb)) fun id hm=>hE id (hne id (h4 id hm)),fun id hm=>by rw[hp id (hne id (h4 id hm))];exact h4 id hm⟩
 ·by_cases e : i = n9
  ·subst e;rw [hp9] at hc;injection hc with hc; subst hc;exact ⟨by rw [hE9], .inl ⟨by rw [hE9], by rw [hE9]; rfl, rfl⟩⟩
  rw[hp i e] at hc;exact(hblk.ok i c hc).env hX (hE i e) (fun cells lv id h1 h2 h3=>hE id (hne id (hblk.ment i cells lv id (by rw[hc,h1]) h2 h3))) rfl fun wd cl sz' n' rows hcc=>hblk.out i wd cl sz' n' rows (by rw[hc,hcc])
 ·by_cases e1 : i = n9
  ·grind
  rw[hp i e1] at h1;have:=hblk.ment i cells lv id h1 h2 h3;rw[hp id (hne id this)];exact this
 ·by_cases e1 : i = n9
  ·rw [e1, hp9] at hi; cases hi
  rw[hp i e1] at hi;exact hblk.out i wd cl sz' n' rows hi
 obtain⟨v,E2,c1,c2,c3,c4,c5,c6,c7,c8⟩:=hh;refine⟨v,E2,c1,c2,c3,fun b hb hi=>c4 b hb fun i h1=>hi i ((hat i b).1 h1),fun i h1 h2=>?_,fun i b h1=>?_,c7,c8⟩
 ·have e1 : i ≠ n9 := fun e => h2 (by rw [e]; exact hn);obtain ⟨k1, k2⟩ := c5 i h1 h2;rw [hE i e1] at k1; rw [hp i e1] at k2;exact ⟨k1, k2⟩
 rcases c6 i b h1 with k1 | ⟨j,k1⟩
 ·exact .inl k1
 exact .inr ⟨j,(hat j b).1 k1⟩
theorem ResOk.val{w':World}{B:Nat}{r:LV}{v:Value}(h:∀X,RepC w' B X r v)(hm:∀id,¬Ment r id):ResOk w' B r [] v:=⟨⟨fun _=>eiNil,fun _ _=>False⟩,.c _ _ (h _),fun i c hi=>by simp at hi,fun i j b hi=>by simpa using hi.ne,fun id h=>absurd h (hm id)⟩
theorem Fn.of_calls{P : Program}{f : FuncId}{args : List LV}{r : LV}{arrs : List BC}{vals : List Value}(ha : ∀w vs, vs.length = args.length → (∀(i : Nat) lv v, args[i]? = some lv → vs[i]? = some v → RepA w lv v) → vs = vals)
    (h:∀w,GH w→Calls P f vals.toArray w fun e w'=>∃v,e=.returned v∧Below w.heap.size w w'∧ResOk w' w.heap.size r arrs v):Fn P f args r arrs:=fun w vs hg hl hv=>by
  rw[ha w vs hl hv];exact h w hg
theorem zz5{k : IntKind}{n : Int}(w : World)(vs : List Value)(hl : vs.length = [LV.int k n].length)(h : ∀(i : Nat) lv v, [LV.int k n][i]? = some lv → vs[i]? = some v → RepA w lv v) : vs = [.int k n] := by
 match vs,hl with
 |[v],_ =>have:=h 0 _ v rfl rfl 0;cases this;rfl
theorem zr4{s : List UInt8}(w : World)(vs : List Value)(hl : vs.length = [LV.str s].length)(h : ∀(i : Nat) lv v, [LV.str s][i]? = some lv → vs[i]? = some v → RepA w lv v) : vs = [.string ⟨s.toArray⟩] := by
 match vs,hl with
 |[v],_ =>have:=h 0 _ v rfl rfl 0;cases this;rfl
theorem zo0{s t : List UInt8}(w : World)(vs : List Value)(hl : vs.length = [LV.str s, LV.str t].length)(h : ∀(i : Nat) lv v, [LV.str s, LV.str t][i]? = some lv → vs[i]? = some v → RepA w lv v) : vs = [.string ⟨s.toArray⟩, .string ⟨t.toArray⟩] := by
 match vs,hl with
 |[v,u],_ =>have h1:=h 0 _ v rfl rfl 0;have h2:=h 1 _ u rfl rfl 0;cases h1;cases h2;rfl
theorem Fn.of_strs{P : Program}{f : FuncId}{args : List LV}{l : List (List UInt8)}{vals : List Value}{T : TypeId}(ha : ∀w vs, vs.length = args.length → (∀(i : Nat) lv v, args[i]? = some lv → vs[i]? = some v → RepA w lv v) → vs = vals)
    (hl:l.length≤maxLen) (h:∀w,GH w→Calls P f vals.toArray w fun e w'=>e=.returned (.slice (some ⟨w.heap.size,0,none⟩) l.length l.length)∧w'=w.alloc (.cells (l.map fun s=>Value.string ⟨s.toArray⟩).toArray T)) :
    Fn P f args (.own 0) [.arr 1 l.length (rowOf cStr l)] :=
  Fn.of_calls ha fun w hg => (h w hg).mono fun e w' ⟨he, hw⟩ => ⟨_, he, by
    rw[hw];exact(Below.refl _ _).alloc (ou _) _,by
    refine⟨⟨fun _=>⟨some w.heap.size,0,some ⟨w.heap.size,0,none⟩,l.length,l.length,l.length⟩,fun _ _=>False⟩,.own 0,fun i c hi=>?_,fun i j b hi' hj'=>?_,fun id hm=>?_⟩
    · match i,hi with
      |0, hi =>
        cases hi
        refine⟨⟨rfl,.inr ⟨w.heap.size,l.length,_,T,rfl,rfl,ou _,by rw[hw];exact heap_alloc_new w _,ou _,hl,vbZ,fun k hk=>⟨rfl,fun lv hlv=>?_,fun j lv v hj hv=>?_⟩⟩⟩,trivial⟩
        · simp only [rowOf,cStr,oR] at hlv;subst hlv;rfl
        · match j,hj with
          |0, hj =>
            simp only[rowOf,cStr,List.getElem?_cons_zero,oo] at hj
            subst hj
            simp only[Nat.zero_add,Nat.mul_one,Yv,Yf,List.getElem?_map,oj hk,Option.map_some,oo] at hv
            subst hv
            rw[oh,oj hk]
            exact .str _
    · have hi:=hi'.ne
      have hj:=hj'.ne
      grind
    · cases hm;simp⟩
theorem Fn.of_intErr{P : Program}{f : FuncId}{args : List LV}{k : IntKind}{n : Int}{b : Bool}{vals : List Value}(ha : ∀w vs, vs.length = args.length → (∀(i : Nat) lv v, args[i]? = some lv → vs[i]? = some v → RepA w lv v) → vs = vals)
    (h:∀w,GH w→Calls P f vals.toArray w fun e w'=>∃v,e=.returned (.tuple #[.int k n,v])∧(b=false→v=.nilIface)∧(b=true→∃t u,v=.iface t u)∧Below w.heap.size w w'):Fn P f args (.tup [.int k n,.er b]) [] :=
  Fn.of_calls ha fun w hg => (h w hg).mono fun e w' ⟨v, he, h0, h1, hb⟩ => ⟨_, he, hb, .val (fun X => .tup _ _ rfl fun i lv u hl hu => by
    match i,hl,hu with
    |0,hl,hu=>cases hl;cases hu;exact .int _ _
    |1,hl,hu=>cases hl;cases hu;exact .er b _ h0 h1
    |i + 2, hl, _ => simp at hl) fun id hm => by
      cases hm with
      |tup _ lv _ hlv hm' =>
        simp only[oQ,wa,or_false] at hlv
        rcases hlv with rfl | rfl<;>cases hm'⟩
theorem Fn.of_strB{P:Program}{f:FuncId}{args:List LV}{s:List UInt8}{vals:List Value}(ha:∀w vs,vs.length=args.length→(∀(i:Nat) lv v,args[i]?=some lv→vs[i]?=some v→RepA w lv v)→vs=vals)(h:∀w,GH w→Calls P f vals.toArray w fun e w'=>e=.returned (.string ⟨s.toArray⟩)∧Below w.heap.size w w'):Fn P f args (.str s) []:=Fn.of_calls ha fun w hg=>(h w hg).mono fun e w' ⟨he,hw⟩=>⟨_,he,hw,.val (fun _=>.str s) fun id hm=>vbS⟩
end Go.Lite

namespace Go.Lite
open Go Go.RowKit

section
variable {P:Program} {w:World} {B:Nat} {X:Nat→Prop} {E:Env}
end
section
variable {P:Program} {α:Type} [Inhabited α]
end
section
open Go.Extern Go.Extern.Rtype
variable {P:Program} {t e:TypeId} {ti:TypeInfo}
end
end Go.Lite

namespace Go.Lite
open Go Go.RowKit
def slimX(Q : LV × List (Nat × BC) → Prop) : Ann → List (Dl → Prop) → Prop
  |.reg _ _ ks _ _ _ ps _ _ next,K=>AllQ ps (AllK ks (slimX Q next K))
  |.co _ _ _ _ ps _ _ next,K=>AllQ ps (slimX Q next K)
  |.put _ _ _ _ ps _ _ next,K=>AllQ ps (slimX Q next K)
  |.fits _ _ _ _ next,K=>slimX Q next K
  |.split b x y,K=>(b=true→slimX Q x K)∧(b=false→slimX Q y K)
  |.cond b _ ps _ x y,K=>AllQ ps ((b=true→slimX Q x K)∧(b=false→slimX Q y K))
  |.loop G D _ _ _ t body,K=>∃J:Nat→G→Prop,(∃m v,J m v∧D v=t)∧∀m v,J m v→slimX Q (body v) ((fun t'=>∃v',(∃m',m'<m∧J m' v')∧D v'=t') :: K)
  |.join _ G D _ _ first rest,K=>∃J:G→Prop,slimX Q first ((fun t'=>∃v',J v'∧D v'=t') :: K)∧∀v,J v→slimX Q (rest v) K
  | .next k _ t, K => match nth K k with
    |some F=>F t
    |none=>False
  |.ret _ ps _ _ t,_=>AllQ ps (Q t)
  |.ex R rest,K=>∃r:R,slimX Q (rest r) K
theorem zkv{T : Type}{Q : T → Prop}{k : Prop}{k' : T → Prop}(h : k → ∃t, Q t ∧ k' t) : ∀{ps : List Pf}, AllQ ps k → ∃t, Q t ∧ AllQ ps (k' t)
  |[],hk=>h hk
  |⟨_,_,_⟩ :: r,hk=>by obtain⟨t,h1,h2⟩:=zkv h (ps:=r) hk.2;exact⟨t,h1,hk.1,h2⟩
theorem zyr{T : Type}{Q : T → Prop}{k : Prop}{k' : T → Prop}(h : k → ∃t, Q t ∧ k' t) : ∀{ks : List (Nat × Cl)}, AllK ks k → ∃t, Q t ∧ AllK ks (k' t)
  |[],hk=>h hk
  |(_,_,⟨_,_,_⟩) :: r,hk=>by obtain⟨t,h1,h2⟩:=zyr h (ks:=r) hk.2;exact⟨t,h1,hk.1,h2⟩
abbrev RT:=LV×List (Nat×BC)
abbrev KL(L:List (RT→Dl→Prop))(t:RT):List (Dl→Prop):=L.map fun g=>g t
def KR(Q : LV × List (Nat × BC) → Prop) : List (Dl → Prop) → List (LV × List (Nat × BC) → Dl → Prop) → Prop
  |[],[]=>True
  |F :: K,G :: L=>(∀d,F d→∃t,Q t∧G t d)∧KR Q K L
  |_,_=>False
theorem z00{Q : LV × List (Nat × BC) → Prop} : ∀{K : List (Dl → Prop)} {L : List (LV × List (Nat × BC) → Dl → Prop)} {k : Nat} {F : Dl → Prop}, KR Q K L → nth K k = some F → ∃G : RT → Dl → Prop, (∀t, nth (KL L t) k = some (G t)) ∧ ∀d, F d → ∃t, Q t ∧ G t d
  |F :: K,G :: L,0,_,h,e=>by cases e;exact⟨G,fun t=>rfl,h.1⟩
  |F :: K,G :: L,k+1,_,h,e=>z00 (K:=K) (L:=L) h.2 e
  |[],[],_,_,h,e=>by cases e
def ledTo{G : Type}(J : Nat → G → Prop)(S : LV × List (Nat × BC) → G → (G → Prop) → Prop)(t : LV × List (Nat × BC))(m : Nat) : G → Prop :=
  WellFounded.fix (C:=fun _=>G→Prop) Nat.lt_wfRel.wf (fun m rec v=>J m v∧S t v fun v'=>∃m',∃h:m'<m,rec m' h v') m
theorem zrg{G:Type}(J:Nat→G→Prop)(S:LV×List (Nat×BC)→G→(G→Prop)→Prop)(t:LV×List (Nat×BC))(m:Nat)(v:G):ledTo J S t m v=(J m v∧S t v fun v'=>∃m',m'<m∧ledTo J S t m' v'):=by unfold ledTo;rw[WellFounded.fix_eq];simp only[exists_prop]
theorem zq1(Q : LV × List (Nat × BC) → Prop) : ∀{A : Ann} {K : List (Dl → Prop)} {L : List (LV × List (Nat × BC) → Dl → Prop)}, KR Q K L → slimX Q A K → ∃t, Q t ∧ slim t A (KL L t) := by
 intro A;induction A with
 |reg n hs ks ts is bs ps zs cs next ih =>exact fun hK h=>zkv (zyr (ih hK)) h
 |co sl i n row ps zs cc next ih =>exact fun hK h=>zkv (ih hK) h
 |put id e n rows ps zs cc next ih =>exact fun hK h=>zkv (ih hK) h
 |fits ds db g t next ih =>exact fun hK h=>ih hK h
 |split b x y ih1 ih2 =>
  intro K L hK h;cases b with
  |true =>obtain⟨t,h1,h2⟩:=ih1 hK (h.1 rfl);exact⟨t,h1,fun _=>h2,(fun e=>nomatch e)⟩
  |false =>obtain⟨t,h1,h2⟩:=ih2 hK (h.2 rfl);exact⟨t,h1,(fun e=>nomatch e),fun _=>h2⟩
 |cond b bs ps cs x y ih1 ih2 =>
  intro K L hK h;refine zkv (fun h=>?_) h;cases b with
  |true =>obtain⟨t,h1,h2⟩:=ih1 hK (h.1 rfl);exact⟨t,h1,fun _=>h2,(fun e=>nomatch e)⟩
  |false =>obtain⟨t,h1,h2⟩:=ih2 hK (h.2 rfl);exact⟨t,h1,(fun e=>nomatch e),fun _=>h2⟩
 |loop G D ds db g t0 body ih =>
  intro K L hK h;obtain⟨J, ⟨m0, v0, hJ0, hD0⟩, h⟩ := h;let S : LV × List (Nat × BC) → G → (G → Prop) → Prop := fun t v F => slim t (body v) ((fun t' => ∃v', F v' ∧ D v' = t') :: KL L t);have key : ∀m v, J m v → ∃t, Q t ∧ ledTo J S t m v := by
   intro m;induction m using Nat.strongRecOn with
   |_ m im =>intro v hv;have hK':KR Q ((fun t'=>∃v',(∃m',m'<m∧J m' v')∧D v'=t') :: K) ((fun t d=>∃v',(∃m',m'<m∧ledTo J S t m' v')∧D v'=d) :: L):=(by refine⟨fun d hd=>?_,hK⟩;obtain⟨v',⟨m',hm,hj⟩,e⟩:=hd;obtain⟨t,q1,q2⟩:=im m' hm v' hj;exact⟨t,q1,v',⟨m',hm,q2⟩,e⟩);obtain⟨t,q1,q2⟩:=ih v hK' (h m v hv);refine⟨t,q1,?_⟩;rw[zrg];exact⟨hv,q2⟩
  obtain⟨t,q1,q2⟩:=key m0 v0 hJ0;refine⟨t,q1,ledTo J S t,⟨m0,v0,q2,hD0⟩,fun m v hv=>?_⟩;rw[zrg] at hv;exact hv.2
 |join k G D ts is first rest ih1 ih2 =>intro K L hK h;obtain⟨J,h1,h2⟩:=h;have hK':KR Q ((fun t'=>∃v',J v'∧D v'=t') :: K) ((fun t d=>∃v',(J v'∧slim t (rest v') (KL L t))∧D v'=d) :: L):=(by refine⟨fun d hd=>?_,hK⟩;obtain⟨v',hj,e⟩:=hd;obtain⟨t,q1,q2⟩:=ih2 v' hK (h2 v' hj);exact⟨t,q1,v',⟨hj,q2⟩,e⟩);obtain⟨t,q1,q2⟩:=ih1 hK' h1;exact⟨t,q1,(fun v=>J v∧slim t (rest v) (KL L t)),q2,fun v hv=>hv.2⟩
 |next k g t0 =>
  intro K L hK h;simp only[slimX] at h;split at h
  ·rename_i F he;obtain ⟨G, e, hG⟩ := z00 hK he;obtain ⟨t, q1, q2⟩ := hG _ h;refine ⟨t, q1, ?_⟩;simp only [slim, e t];exact q2
  cases h
 |ret bs ps cs g t0 =>
  intro K L hK h;simp only[slimX] at h;refine⟨t0,?_,?_⟩
  ·exact (ze6 h).2
  exact zbw (k':=t0=t0) (fun _=>rfl) h
 |ex R rest ih =>intro K L hK h;obtain⟨r,h⟩:=h;obtain⟨t,q1,q2⟩:=ih r hK h;exact⟨t,q1,r,q2⟩
variable {P:Program}
theorem Fn.ge{f:FuncId}{fn:Func}{args:List LV}{α:Type}{c:α→RT}(Q:α→Prop)(N:Nat)(hf:P.funcs[f]?=some fn)(hb:(Nat.beq fn.ntmps N&&(fn.body.isSome&&Nat.ble args.length N))=true)(hm:P.follows .mixedOrders=true)(hF:∀r,Frs (c r).1∧∀x∈(c r).2,FrsB x.2)(A:Ann)(hk:∀t,Lite.go P fn N none t false A [] (some (zb9 fn)) [] ⟨enumL args 0,[],[]⟩=Lite.go P fn N none t true A [] (some (zb9 fn)) [] ⟨enumL args 0,[],[]⟩)(h:slimX (fun t=>∃r,Q r∧c r=t) A []):∃r,Q r∧FnT P f args (c r):=by obtain⟨t,⟨r,q,rfl⟩,h2⟩:=zq1 _ (K:=[]) (L:=[]) (show KR _ [] [] from trivial) h;exact⟨r,q,Fn.go N hf hb hm (hF r) A (hk _) h2⟩
theorem FnM.ge{f:FuncId}{fn:Func}{args:List LV}{bl:List BC}{α:Type}{c:α→RT}(Q:α→Prop)(N:Nat)(hf:P.funcs[f]?=some fn)(hb:(Nat.beq fn.ntmps N&&(fn.body.isSome&&Nat.ble args.length N))=true)(hm:P.follows .mixedOrders=true)(A:Ann)(hk:∀t,Lite.go P fn N (some bl.length) t false A [] (some (zb9 fn)) [] ⟨enumL args 0,enumB bl 900000,[]⟩=Lite.go P fn N (some bl.length) t true A [] (some (zb9 fn)) [] ⟨enumL args 0,enumB bl 900000,[]⟩)(h:slimX (fun t=>∃r,Q r∧c r=t) A []):∃r,Q r∧FnMT P f args bl (c r):=by obtain⟨t,⟨r,q,rfl⟩,h2⟩:=zq1 _ (K:=[]) (L:=[]) (show KR _ [] [] from trivial) h;exact⟨r,q,FnM.go N hf hb hm A (hk _) h2⟩
section
variable {Q:RT→Prop} {K:List (Dl→Prop)}
theorem xg{next:Ann}{n:Nat}{hs:List (Nat×Hint)}{ks:List (Nat×Cl)}{ts is:List Nat}{bs:List Bool}{ps:List Pf}{zs:List Pz}{cs:List Nat}(h:AllQ ps (AllK ks True))(h2:slimX Q next K):slimX Q (.reg n hs ks ts is bs ps zs cs next) K:=znq h2 h
theorem xf{next:Ann}{ds db:List Nat}{g:List (Nat×Option Nat)}{t0:Dl}(h:slimX Q next K):slimX Q (.fits ds db g t0 next) K:=h
theorem xc{b:Bool}{x y:Ann}(h1:b=true→slimX Q x K)(h2:b=false→slimX Q y K):slimX Q (cn b x y) K:=⟨h1,h2⟩
theorem xs{b:Bool}{x y:Ann}(h1:b=true→slimX Q x K)(h2:b=false→slimX Q y K):slimX Q (.split b x y) K:=⟨h1,h2⟩
theorem xo{next:Ann}{sl:Bool}{i n c:Nat}{row:Nat→List LV}{P' P:Prop}{hh:P'→P}{zs:List Pz}(h:P')(h2:slimX Q next K):slimX Q (.co sl i n row [⟨P',P,hh⟩] zs c next) K:=⟨h,h2⟩
theorem xp{next:Ann}{id d n c:Nat}{rows:Nat→NR}{P' P:Prop}{hh:P'→P}{zs:List Pz}(h:P')(h2:slimX Q next K):slimX Q (.put id d n rows [⟨P',P,hh⟩] zs c next) K:=⟨h,h2⟩
theorem xN{S:Type}{s0:S}{D:Nat→S→Dl}{ds db:List Nat}{g:List (Nat×Option Nat)}{t0:Dl}{body:Nat→S→Ann}(n:Nat)(I:Nat→S→Prop)(h0:I 0 s0)(e:D 0 s0=t0)(hb:∀i v (F:Dl→Prop),i≤n→I i v→(∀v',i<n→I (i+1) v'→F (D (i+1) v'))→slimX Q (body i v) (F :: K)):slimX Q (lp D ds db g t0 body) K:=by refine⟨fun m v=>m=n - v.1∧v.1≤n∧I v.1 v.2,⟨n,(0,s0),⟨rfl,Nat.zero_le _,h0⟩,e⟩,fun m v hJ=>?_⟩;obtain⟨h1,h2,h3⟩:=hJ;exact hb v.1 v.2 _ h2 h3 fun v' hi hv=>⟨(v.1+1,v'),⟨n - (v.1+1),vbX,rfl,hi,hv⟩,rfl⟩
theorem xW{S:Type}{s0:S}{D:S→Dl}{ds db:List Nat}{g:List (Nat×Option Nat)}{t0:Dl}{body:S→Ann}(I:S→Prop)(μ:S→Nat)(h0:I s0)(e:D s0=t0)(hb:∀v (F:Dl→Prop),I v→(∀v',I v'→μ v'<μ v→F (D v'))→slimX Q (body v) (F :: K)):slimX Q (.loop S D ds db g t0 body) K:=by refine⟨fun m v=>m=μ v∧I v,⟨μ s0,s0,⟨rfl,h0⟩,e⟩,fun m v hJ=>?_⟩;obtain⟨h1,h2⟩:=hJ;exact hb v _ h2 fun v' hv hm=>⟨v',⟨μ v',vbX,rfl,hv⟩,rfl⟩
end
theorem zs2{Q : RT → Prop} : ∀{A : Ann} {K K' : List (Dl → Prop)}, (∀k F, nth K k = some F → ∃G, nth K' k = some G ∧ ∀d, F d → G d) → slimX Q A K → slimX Q A K' := by
 intro A;have ext : ∀{F : Dl → Prop} {K K' : List (Dl → Prop)}, (∀k F, nth K k = some F → ∃G, nth K' k = some G ∧ ∀d, F d → G d) → ∀k F', nth (F :: K) k = some F' → ∃G, nth (F :: K') k = some G ∧ ∀d, F' d → G d := fun h k F' e => by
  cases k with
  |zero =>exact⟨F',e,fun _ h=>h⟩
  |succ k =>exact h k F' e
 induction A with
 |reg n hs ks ts is bs ps zs cs next ih =>exact fun hK h=>zbw (zkw (ih hK)) h
 |co sl i n row ps zs cc next ih =>exact fun hK h=>zbw (ih hK) h
 |put id e n rows ps zs cc next ih =>exact fun hK h=>zbw (ih hK) h
 |fits ds db g t next ih =>exact fun hK h=>ih hK h
 |split b x y ih1 ih2 =>exact fun hK h=>⟨fun e=>ih1 hK (h.1 e),fun e=>ih2 hK (h.2 e)⟩
 |cond b bs ps cs x y ih1 ih2 =>exact fun hK h=>zbw (fun h=>⟨fun e=>ih1 hK (h.1 e),fun e=>ih2 hK (h.2 e)⟩) h
 |loop G D ds db g t0 body ih =>intro K K' hK h;obtain⟨J,h0,h⟩:=h;exact⟨J,h0,fun m v hv=>ih v (ext hK) (h m v hv)⟩
 |join k G D ts is first rest ih1 ih2 =>intro K K' hK h;obtain⟨J,h1,h2⟩:=h;exact⟨J,ih1 (ext hK) h1,fun v hv=>ih2 v hK (h2 v hv)⟩
 |next k g t0 =>
  intro K K' hK h;simp only[slimX] at h ⊢;split at h
  ·rename_i F he;obtain ⟨G, e, hG⟩ := hK _ _ he;rw [e]; exact hG _ h
  cases h
 |ret bs ps cs g t0 =>exact fun hK h=>h
 |ex R rest ih =>intro K K' hK h;obtain⟨r,h⟩:=h;exact⟨r,ih r hK h⟩
theorem zll{Q : RT → Prop}{K : List (Dl → Prop)}{A : Ann}{F G : Dl → Prop}(h : ∀d, F d → G d)(hA : slimX Q A (F :: K)) : slimX Q A (G :: K) :=
  zs2 (fun k F' e => by
    cases k with
    |zero=>cases e;exact⟨G,rfl,h⟩
    |succ k=>exact⟨F',e,fun _ h=>h⟩) hA
def Al{α:Type}(p:α→Prop)(l:List α):Prop:=∀x∈l,p x
section
variable {α:Type} {p:α→Prop} {l l':List α} {a:α} {n:Nat}
theorem Al.nil:Al p []:=fun _ h=>by cases h
theorem Al.one(h:p a):Al p [a]:=fun x hx=>by rw[oR.1 hx];exact h
theorem Al.cons(h : p a)(h2 : Al p l) : Al p (a :: l) := fun x hx => by
  rcases oQ.1 hx with rfl | hx
  · exact h
  · exact h2 x hx
theorem Al.app(h:Al p l)(h2:Al p l'):Al p (l++l'):=fun x hx=>(List.mem_append.1 hx).elim (h x) (h2 x)
theorem Al.set(h:Al p l)(h2:p a):Al p (l.set n a):=fun x hx=>(List.mem_or_eq_of_mem_set hx).elim (h x) fun e=>e ▸ h2
theorem Al.take(h:Al p l):Al p (l.take n):=fun x hx=>h x (List.mem_of_mem_take hx)
theorem Al.drop(h:Al p l):Al p (l.drop n):=fun x hx=>h x (List.mem_of_mem_drop hx)
theorem Al.rep(h:p a):Al p (List.replicate n a):=fun x hx=>by rw[List.eq_of_mem_replicate hx];exact h
theorem Al.mono{q:α→Prop}(h:Al p l)(hq:∀x,p x→q x):Al q l:=fun x hx=>hq x (h x hx)
theorem Al.get[Inhabited α](h:Al p l)(hn:n<l.length):p (l.getD n default):=h _ (by rw[oh,oj hn];exact List.getElem_mem hn)
theorem zwb:Al p (a :: l)↔p a∧Al p l:=⟨fun h=>⟨h a vbZ,fun x hx=>h x (by simp[hx])⟩,fun h=>.cons h.1 h.2⟩
theorem z0x:Al p []↔True:=⟨fun _=>trivial,fun _=>.nil⟩
end
def fe{α:Type}[Inhabited α](L:List α)(i:Nat)(next:Ann):Ann:=next
def fd{α:Type}(L:List α)(i:Nat)(d:α)(next:Ann):Ann:=next
class Ct {α : Type} (k : α → Cl) (pre : outParam Prop) (post : outParam (α → Prop)) : Prop where
  h:pre→∃r,post r∧(k r).2.Q
def cK(P:Program)(f:FuncId)(args:List LV){α:Type}(c:α→RT)(r:α):Cl:=(hres (c r),k1 (q:=FnT P f args (c r)) fun h=>h)
def cM(P:Program)(f:FuncId)(args:List LV)(bl:List BC){α:Type}(c:α→RT)(d:Nat)(ids:List Nat)(r:α):Cl:=(hresM d ids (c r),k1 (q:=FnMT P f args bl (c r)) fun h=>h)
def ec{α:Type}(k:α→Cl)(rest:α→Cl→Ann):Ann:=.ex α fun r=>rest r (k r)
def eg(g:Bool){α:Type}(k:α→Cl)(rest:α→Cl→Ann):Ann:=.ex α fun r=>rest r (cg g (k r))
def eb(k:Bool→Cl)(rest:Bool→Cl→Ann):Ann:=ec k rest
def e2{α:Type}(k:α×Bool→Cl)(rest:α×Bool→Cl→Ann):Ann:=ec k rest
def e3{α β:Type}(k:α×β×Bool→Cl)(rest:α×β×Bool→Cl→Ann):Ann:=ec k rest
def gb(g:Bool)(k:Bool→Cl)(rest:Bool→Cl→Ann):Ann:=eg g k rest
def g2(g:Bool){α:Type}(k:α×Bool→Cl)(rest:α×Bool→Cl→Ann):Ann:=eg g k rest
def g3(g:Bool){α β:Type}(k:α×β×Bool→Cl)(rest:α×β×Bool→Cl→Ann):Ann:=eg g k rest
abbrev ix(i:Int)(n:Nat):Pf:=pf (0≤i∧i<(n:Int))
abbrev iR(n:Int):Pf:=pf (inR .i64 n)
def lI{S:Type}(n:Nat)(I:Nat→S→Prop)(D:Nat→S→Dl)(ds db:List Nat)(g:List (Nat×Option Nat))(t:Dl)(body:Nat→S→Ann):Ann:=lp D ds db g t body
def lM{S:Type}(I:S→Prop)(μ:S→Nat)(D:S→Dl)(ds db:List Nat)(g:List (Nat×Option Nat))(t:Dl)(body:S→Ann):Ann:=.loop S D ds db g t body
def jI{S:Type}(J:S→Prop)(k:Nat)(D:S→Dl)(ts is:List Nat)(first:Ann)(rest:S→Ann):Ann:=.join k S D ts is first rest
section
variable {P:Program} {Q:RT→Prop} {K:List (Dl→Prop)}
theorem Ct.of{f:FuncId}{fn:Func}{args:List LV}{α:Type}{c:α→RT}{pre:Prop}{post:α→Prop}(N:Nat)(hf:P.funcs[f]?=some fn)(A:Ann)(h:pre→slimX (fun t=>∃r,post r∧c r=t) A [])(hF:∀r,Frs (c r).1∧∀x∈(c r).2,FrsB x.2:=by intro r;refine⟨?_,fun _ h=>vbU⟩;repeat' (first|exact trivial|refine⟨?_,?_⟩))(hb:(Nat.beq fn.ntmps N&&(fn.body.isSome&&Nat.ble args.length N))=true:=by kernel_rfl)(hm:P.follows .mixedOrders=true:=by kernel_rfl)(hk:∀t,Lite.go P fn N none t false A [] (some (zb9 fn)) [] ⟨enumL args 0,[],[]⟩=Lite.go P fn N none t true A [] (some (zb9 fn)) [] ⟨enumL args 0,[],[]⟩:=by intro t;kernel_rfl):Ct (cK P f args c) pre post:=⟨fun hp=>Fn.ge _ N hf hb hm hF A hk (h hp)⟩
theorem Ct.ofM{f:FuncId}{fn:Func}{args:List LV}{bl:List BC}{α:Type}{c:α→RT}{pre:Prop}{post:α→Prop}{d:Nat}{ids:List Nat}(N:Nat)(hf:P.funcs[f]?=some fn)(A:Ann)(h:pre→slimX (fun t=>∃r,post r∧c r=t) A [])(hb:(Nat.beq fn.ntmps N&&(fn.body.isSome&&Nat.ble args.length N))=true:=by kernel_rfl)(hm:P.follows .mixedOrders=true:=by kernel_rfl)(hk:∀t,Lite.go P fn N (some bl.length) t false A [] (some (zb9 fn)) [] ⟨enumL args 0,enumB bl 900000,[]⟩=Lite.go P fn N (some bl.length) t true A [] (some (zb9 fn)) [] ⟨enumL args 0,enumB bl 900000,[]⟩:=by intro t;kernel_rfl):Ct (cM P f args bl c d ids) pre post:=⟨fun hp=>FnM.ge _ N hf hb hm A hk (h hp)⟩
theorem Ct.was{f:FuncId}{args:List LV}{α:Type}{c:α→RT}{pre:Prop}{post:α→Prop}(r:α)(h:pre→FnT P f args (c r))(h2:pre→post r):Ct (cK P f args c) pre post:=⟨fun hp=>⟨r,h2 hp,h hp⟩⟩
theorem yC{α:Type}{k:α→Cl}{rest:α→Cl→Ann}{pre:Prop}{post:α→Prop}[i:Ct k pre post](h:pre)(h2:∀r,post r→(k r).2.Q→slimX Q (rest r (k r)) K):slimX Q (ec k rest) K:=by obtain⟨r,h1,h3⟩:=i.h h;exact⟨r,h2 r h1 h3⟩
theorem yG{α : Type}{g : Bool}{k : α → Cl}{rest : α → Cl → Ann}{pre : Prop}{post : α → Prop}[i : Ct k pre post][Inhabited α](h : g = true → pre)(h2 : ∀r, (g = true → post r) → (g = true → (k r).2.Q) → slimX Q (rest r (cg g (k r))) K) : slimX Q (eg g k rest) K := by
 cases g with
 |true =>obtain⟨r,h1,h3⟩:=i.h (h rfl);exact⟨r,h2 r (fun _=>h1) fun _=>h3⟩
 |false =>exact⟨default,h2 default (fun e=>nomatch e) fun e=>nomatch e⟩
theorem yB{k:Bool→Cl}{rest:Bool→Cl→Ann}{pre:Prop}{post:Bool→Prop}[i:Ct k pre post](h:pre)(h1:post true→(k true).2.Q→slimX Q (rest true (k true)) K)(h2:post false→(k false).2.Q→slimX Q (rest false (k false)) K):slimX Q (eb k rest) K:=yC h fun r=>by cases r;exact h2;exact h1
theorem y2{α:Type}{k:α×Bool→Cl}{rest:α×Bool→Cl→Ann}{pre:Prop}{post:α×Bool→Prop}[i:Ct k pre post](h:pre)(h1:∀r,post (r,true)→(k (r,true)).2.Q→slimX Q (rest (r,true) (k (r,true))) K)(h2:∀r,post (r,false)→(k (r,false)).2.Q→slimX Q (rest (r,false) (k (r,false))) K):slimX Q (e2 k rest) K:=yC h fun r=>by obtain⟨r,b⟩:=r;cases b;exact h2 r;exact h1 r
theorem y3{α β:Type}{k:α×β×Bool→Cl}{rest:α×β×Bool→Cl→Ann}{pre:Prop}{post:α×β×Bool→Prop}[i:Ct k pre post](h:pre)(h1:∀r s,post (r,s,true)→(k (r,s,true)).2.Q→slimX Q (rest (r,s,true) (k (r,s,true))) K)(h2:∀r s,post (r,s,false)→(k (r,s,false)).2.Q→slimX Q (rest (r,s,false) (k (r,s,false))) K):slimX Q (e3 k rest) K:=yC h fun r=>by obtain⟨r,s,b⟩:=r;cases b;exact h2 r s;exact h1 r s
theorem yGt{α:Type}{k:α→Cl}{rest:α→Cl→Ann}{pre:Prop}{post:α→Prop}[i:Ct k pre post](h:pre)(h2:∀r,post r→(k r).2.Q→slimX Q (rest r (cg true (k r))) K):slimX Q (eg true k rest) K:=by obtain⟨r,h1,h3⟩:=i.h h;exact⟨r,h2 r h1 h3⟩
theorem yGf{α:Type}{k:α→Cl}{rest:α→Cl→Ann}[Inhabited α](h2:∀r,slimX Q (rest r (cg false (k r))) K):slimX Q (eg false k rest) K:=⟨default,h2 _⟩
theorem yBt{k:Bool→Cl}{rest:Bool→Cl→Ann}{pre:Prop}{post:Bool→Prop}[i:Ct k pre post](h:pre)(h1:post true→(k true).2.Q→slimX Q (rest true (cg true (k true))) K)(h2:post false→(k false).2.Q→slimX Q (rest false (cg true (k false))) K):slimX Q (gb true k rest) K:=yGt h fun r=>by cases r;exact h2;exact h1
theorem yBf{k:Bool→Cl}{rest:Bool→Cl→Ann}(h2:slimX Q (rest false (cg false (k false))) K):slimX Q (gb false k rest) K:=⟨false,h2⟩
theorem yBg{g:Bool}{k:Bool→Cl}{rest:Bool→Cl→Ann}{pre:Prop}{post:Bool→Prop}[i:Ct k pre post](h:g=true→pre)(h1:(g=true→post true)→(g=true→(k true).2.Q)→slimX Q (rest true (cg g (k true))) K)(h2:(g=true→post false)→(g=true→(k false).2.Q)→slimX Q (rest false (cg g (k false))) K):slimX Q (gb g k rest) K:=yG h fun r=>by cases r;exact h2;exact h1
theorem y2t{α:Type}{k:α×Bool→Cl}{rest:α×Bool→Cl→Ann}{pre:Prop}{post:α×Bool→Prop}[i:Ct k pre post](h:pre)(h1:∀r,post (r,true)→(k (r,true)).2.Q→slimX Q (rest (r,true) (cg true (k (r,true)))) K)(h2:∀r,post (r,false)→(k (r,false)).2.Q→slimX Q (rest (r,false) (cg true (k (r,false)))) K):slimX Q (g2 true k rest) K:=yGt h fun r=>by obtain⟨r,b⟩:=r;cases b;exact h2 r;exact h1 r
theorem y2f{α:Type}[Inhabited α]{k:α×Bool→Cl}{rest:α×Bool→Cl→Ann}(h2:∀r,slimX Q (rest (r,false) (cg false (k (r,false)))) K):slimX Q (g2 false k rest) K:=⟨(default,false),h2 _⟩
theorem yN{S:Type}{s0:S}{D:Nat→S→Dl}{ds db:List Nat}{g:List (Nat×Option Nat)}{body:Nat→S→Ann}{n:Nat}{I:Nat→S→Prop}(h0:I 0 s0)(hb:∀i v,i≤n→I i v→slimX Q (body i v) ((fun d=>∃v',i<n∧I (i+1) v'∧D (i+1) v'=d) :: K)):slimX Q (lI n I D ds db g (D 0 s0) body) K:=xN n I h0 rfl fun i v F hi hv hF=>zll (fun d ⟨v',h1,h2,h3⟩=>h3 ▸ hF v' h1 h2) (hb i v hi hv)
theorem yW{S:Type}{s0:S}{D:S→Dl}{ds db:List Nat}{g:List (Nat×Option Nat)}{body:S→Ann}{I:S→Prop}{μ:S→Nat}(h0:I s0)(hb:∀v,I v→slimX Q (body v) ((fun d=>∃v',I v'∧μ v'<μ v∧D v'=d) :: K)):slimX Q (lM I μ D ds db g (D s0) body) K:=xW I μ h0 rfl fun v F hv hF=>zll (fun d ⟨v',h1,h2,h3⟩=>h3 ▸ hF v' h1 h2) (hb v hv)
theorem yJ{S:Type}{J:S→Prop}{D:S→Dl}{kk:Nat}{ts is:List Nat}{first:Ann}{rest:S→Ann}(h1:slimX Q first ((fun d=>∃v,J v∧D v=d) :: K))(h2:∀v,J v→slimX Q (rest v) K):slimX Q (jI J kk D ts is first rest) K:=⟨J,h1,h2⟩
theorem yd{p:Prop}[Decidable p]{x y:Ann}(h1:p→slimX Q x K)(h2:¬p→slimX Q y K):slimX Q (cn (decide p) x y) K:=⟨fun h=>h1 (ol h),fun h=>h2 (oz h)⟩
theorem yc{b:Bool}{bs:List Bool}{ps:List Pf}{cs:List Nat}{x y:Ann}(h:AllQ ps True)(h1:b=true→slimX Q x K)(h2:b=false→slimX Q y K):slimX Q (.cond b bs ps cs x y) K:=zbw (k:=True) (fun _=>⟨h1,h2⟩) h
theorem yr{bs:List Bool}{ps:List Pf}{cs:List Nat}{g:List (Nat×Option Nat)}{t:RT}(h:AllQ ps True)(h2:Q t):slimX Q (.ret bs ps cs g t) K:=zbw (k:=True) (fun _=>h2) h
theorem yR{g:List (Nat×Option Nat)}{t:RT}(h2:Q t):slimX Q (rt g t) K:=h2
theorem yE{α:Type}[Inhabited α]{L:List α}{i:Nat}{next:Ann}{p:α→Prop}(h:Al p L)(hk:i<L.length)(h2:p (L.getD i default)→slimX Q next K):slimX Q (fe L i next) K:=h2 (h.get hk)
theorem yF{α:Type}[Inhabited α]{L:List α}{i:Nat}{next:Ann}{p:Nat→Prop}(h:∀k:Nat,k<L.length→p k)(hk:i<L.length)(h2:p i→slimX Q next K):slimX Q (fe L i next) K:=h2 (h i hk)
theorem yED{α:Type}{L:List α}{i:Nat}{d:α}{next:Ann}{p:α→Prop}(h:Al p L)(hk:i<L.length)(h2:p (L.getD i d)→slimX Q next K):slimX Q (fd L i d next) K:=h2 (h _ (by rw[oh,oj hk];exact List.getElem_mem hk))
theorem yOD{α:Type}{L:List α}{i:Nat}{d:α}{next:Ann}(h2:slimX Q next K):slimX Q (fd L i d next) K:=h2
theorem yO{α:Type}[Inhabited α]{L:List α}{i:Nat}{next:Ann}(h2:slimX Q next K):slimX Q (fe L i next) K:=h2
theorem aN{k:Prop}(h:k):AllQ [] k:=h
theorem aQ{P k:Prop}{ps:List Pf}(h:P)(h2:AllQ ps k):AllQ (pf P :: ps) k:=⟨h,h2⟩
theorem ag{g:Bool}{p:Pf}{k:Prop}{ps:List Pf}(h:g=true→p.Q)(h2:AllQ ps k):AllQ (gt g p :: ps) k:=by cases p;exact⟨h,h2⟩
theorem af{g:Bool}{p:Pf}{k:Prop}{ps:List Pf}(h:g=false→p.Q)(h2:AllQ ps k):AllQ (gf g p :: ps) k:=by cases p;exact⟨h,h2⟩
theorem gtQ{g:Bool}{p:Pf}:(gt g p).Q=(g=true→p.Q):=by cases p;rfl
theorem gfQ{g:Bool}{p:Pf}:(gf g p).Q=(g=false→p.Q):=by cases p;rfl
theorem pfQ{p:Prop}:(pf p).Q=p:=rfl
theorem aC{n:Nat}{c:Cl}{k:Prop}{ks:List (Nat×Cl)}(h:c.2.Q)(h2:AllK ks k):AllK ((n,c) :: ks) k:=vbb
theorem aD{n:Nat}{c:Cl}{k:Prop}{ks:List (Nat×Cl)}(h:c.2.Q)(h2:AllK ks k):AllK ((n,c) :: ks) k:=aC h h2
theorem aG{g:Bool}{n:Nat}{c:Cl}{k:Prop}{ks:List (Nat×Cl)}(h:g=true→c.2.Q)(h2:AllK ks k):AllK ((n,cg g c) :: ks) k:=vbb
theorem aT{n:Nat}{c:Cl}{k:Prop}{ks:List (Nat×Cl)}(h:c.2.Q)(h2:AllK ks k):AllK ((n,cT c) :: ks) k:=vbb
theorem aW:AllK [] True:=trivial
theorem yn99{g:List (Nat×Option Nat)}{t:Dl}(h:False):slimX Q (.next 99 g t) K:=h.elim
theorem zs{A:Ann}(h:slimX Q A K):slimX Q A K:=h
theorem zq{k:Prop}{ps:List Pf}(h:AllQ ps k):AllQ ps k:=h
theorem zk{k:Prop}{ks:List (Nat×Cl)}(h:AllK ks k):AllK ks k:=h
theorem aZ:AllQ [] (AllK [] True):=trivial
theorem zr0{next:Ann}{n:Nat}{ts is:List Nat}(h2:slimX Q next K):slimX Q (r0 n ts is next) K:=h2
theorem zr1{next:Ann}{n:Nat}{ts is cs:List Nat}{ps:List Pf}(h:AllQ ps True)(h2:slimX Q next K):slimX Q (r1 n ts is ps cs next) K:=zbw (k:=True) (fun _=>h2) h
theorem yn0{F:Dl→Prop}{g:List (Nat×Option Nat)}{t:Dl}(h:F t):slimX Q (.next 0 g t) (F :: K):=h
theorem yn1{F F0:Dl→Prop}{g:List (Nat×Option Nat)}{t:Dl}(h:F t):slimX Q (.next 1 g t) (F0 :: F :: K):=h
theorem yn2{F F0 F1:Dl→Prop}{g:List (Nat×Option Nat)}{t:Dl}(h:F t):slimX Q (.next 2 g t) (F0 :: F1 :: F :: K):=h
theorem yn3{F F0 F1 F2:Dl→Prop}{g:List (Nat×Option Nat)}{t:Dl}(h:F t):slimX Q (.next 3 g t) (F0 :: F1 :: F2 :: F :: K):=h
end
noncomputable def pk{α : Type}[Inhabited α](p : α → Prop) : α := by
  classical exact if h:∃x,p x then h.choose else default
theorem pk_ok{α:Type}[Inhabited α]{p:α→Prop}(h:∃x,p x):p (pk p):=by unfold pk;rw[dif_pos h];exact h.choose_spec
end Go.Lite

namespace Go.Lite
open Go Go.RowKit Go.ChangeShapes Go.WideShapes Go.Deep Go.WideElems

section
variable {P:Program} {H:Type} {enc:TypeId×Value→H}
theorem zgo(hl : laidOutB P = true){W W' : World}(hb : Below W.heap.size W W'){sp : Nat → Bool} :
    ∀{ns:List String} {gs:List (DataW H)} {ps:List MemPlace},varsRowed P ns=true→DataW.TrodVars enc P W (fun _=>true) ns gs ps→(∀p∈ps,sp p.block=true)→DataW.TrodVars enc P W' sp ns gs ps
  |[],[],_,_,h,_=>h
  |[],_ :: _,_,_,h,_=>h.elim
  |_ :: _,[],_,_,h,_=>h.elim
  |n :: ns, d :: ds, ps, hv, h, hsp => by
    have hlt:=h.lt
    obtain⟨g,t,cs,fuel,p,q,h1,h2,h3,h4,hs,e⟩:=h
    simp only[varsRowed,List.all_cons,oc] at hv
    have ht : P.readableRec t = true ∧ t < P.types.size := by
      have:=hv.1
      rw[h1] at this
      cases hg:P.globals[g]? with
      |none=>rw[hg] at h2;cases h2
      |some gl =>
        rw[hg] at h2
        obtain rfl:gl.type=t:=Option.some.inj h2
        simpa[hg] using this
    have hp:∀x∈p,x.block<W.heap.size:=fun x hx=>hlt x (by rw[e];simp[hx])
    have h3' : W'.var? P n = some cs := by
      unfold World.var? at h3 ⊢
      rw[h1] at h3 ⊢
      simp only[Option.bind_some] at h3 ⊢
      have hg : g < W.heap.size := by
        cases hh:W.heap[g]? with
        |none=>rw[hh] at h3;cases h3
        |some o=>exact(oI.1 hh).1
      rw[hb.block g hg];exact h3
    exact ⟨g, t, cs, fuel, p, q, h1, h2, h3', DataW.trod_stays (kids_book hl ht.1) (book_sized ht.1) (fun h => vbU) ⟨ht.2, book_self t⟩ h4 (fun x hx => hb.same (hp x hx)) (fun x hx => hsp x (by rw [e]; simp [hx])),
      zgo hl hb (by simpa[varsRowed] using hv.2) hs (fun x hx=>hsp x (by rw[e];simp[hx])),e⟩

theorem zmm{f : Func}{s : ChangeSpec}{W W' : World}{args : Array Value}{ds gs : List (DataW H)}{before : List MemPlace}{tb : TypeId}(hl : laidOutB P = true)(hp : f.params.toList.all (fun t => P.readableRec t && decide (t < P.types.size)) = true)(hrt : f.resultTypes = #[tb])(hb : P.underlying tb = some .bool)(hv : varsRowed P s.vars = true)(hfn : s.fn H (ds ++ gs) = { results := [.lit (.bool true)], args := ds, vars := gs })(hW : DataW.Whole enc P f.params.toList s.vars false W args.toList ds gs before)(hbe : Below W.heap.size W W') : s.post enc P f false true false false W args (.bool true) W' := by
 have hW':=hW;obtain⟨p,q,hA,hV,rfl,hfz,hnd⟩:=hW;have hlt:∀x∈p++q,x.block<W.heap.size:=fun x hx=>hW'.lt x hx;refine zms (pa:=p) (pv:=q) hW' (fun _ _ _=>?_) (fun sp hsp=>?_) (fun sp hsp=>?_) rfl hbe ?_
 ·rw [hfn, hrt];exact ⟨[], [], shut_bool hb _, trodAll_mk0, rfl⟩
 ·rw [hfn];exact zh0 hl hp hA (fun x hx => hbe.same (hlt x (List.mem_append_left _ hx))) (fun x hx => hsp x (List.mem_append_left _ hx))
 ·rw [hfn];exact zgo hl hbe hv hV (fun x hx => hsp x (List.mem_append_right _ hx))
 exact ok_one hrt rfl (okWide_bool_mk hb _)

theorem znc{w : World}{base : Nat}{sp : Nat → Bool}{held : Bool}{fuel : Nat}{t e : TypeId}{n : Nat}{cs : List Value}{ws : List (List UInt8)}{p : List MemPlace}(ht : P.underlying t = some (.array n e))(he : P.underlying e = some .string)(hce : P.cellsOf e = 1)(hct : P.cellsOf t = n)(h : DataW.trod enc P w base sp held fuel t cs = some (.agg (ws.map fun s => .lit (.string s)), p)) : cs = ws.map fun s => Value.string ⟨s.toArray⟩ := by
 cases fuel with
 |zero =>simp[DataW.trod] at h
 |succ fuel =>
  simp only[DataW.trod,ht,hce,hct,Nat.mul_one] at h;split at h
  ·rename_i hl;obtain ⟨xs, hm, hx⟩ := oq.1 h;have hxs : xs.map (·.1) = ws.map fun z => (DataW.lit (.string z) : DataW H) := (by have := oe Prod.fst hx;simpa using this);have hxl : xs.length = n := (by simpa using Go.Lib.mapM_length hm);have hzl : ws.length = n := (by have := oe List.length hxs;simp at this;omega);apply List.ext_getElem?;intro i;by_cases hi : i < n
   ·obtain ⟨b, hb, hf⟩ := Go.Lib.mapM_at hm i i (by simp [hi]);obtain ⟨z, hc, rfl, _⟩ := DataW.trod_string he hf;have h1 : cs[i]? = some (.string z) := (by have := oe (·[0]?) hc;simpa [List.getElem?_take, List.getElem?_drop] using this);have h2 : (xs.map (·.1))[i]? = some (DataW.lit (.string z.data.toList) : DataW H) := (by simp [hb]);rw [hxs] at h2;simp only [List.getElem?_map, oq, DataW.lit.injEq, Lit.string.injEq] at h2;obtain ⟨z', hz', e'⟩ := h2;simp [h1, hz', e']
   rw[o5 vbX,o5 vbP]
  cases h
theorem zmf {W : World} {name : String} {ws : List (List UInt8)} {rest : List (String × DataW Unit)} {g : Nat} {t e : TypeId} {n : Nat} (hg : P.globalNamed name = some g) (hty : (P.globals[g]?).map (·.type) = some t) (ht : P.underlying t = some (.array n e)) (he : P.underlying e = some .string) (hce : P.cellsOf e = 1) (hct : P.cellsOf t = n) (h : laidMet P ((name, .agg (ws.map fun s => .lit (.string s))) :: rest) W) : g < W.heap.size ∧ ∀ i, i < ws.length → W.cell? ⟨g, i, none⟩ = some (.string ⟨(ws.getD i []).toArray⟩) := by
 obtain⟨ps,⟨g',t',cs,fuel,p,q,hg',ht',hvar,hd,_,_⟩,_⟩:=h;obtain rfl:=Option.some.inj (hg.symm.trans hg');obtain rfl:=Option.some.inj (hty.symm.trans ht');have hc:=znc ht he hce hct hd;refine⟨?_,fun i hi=>?_⟩
 ·unfold World.var? at hvar;rw [hg] at hvar;simp only [Option.bind_some] at hvar;cases hh : W.heap[g]? with
  |none =>rw[hh] at hvar;cases hvar
  |some o =>exact(oI.1 hh).1
 have:=World.var?_cell hg hvar i;rw[this,←Array.getElem?_toList,hc];simp[List.getD,hi]
end
end Go.Lite
