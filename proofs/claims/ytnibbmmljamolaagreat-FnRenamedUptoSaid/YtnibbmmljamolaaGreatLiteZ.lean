/- Whole functions executed at once: a tree beside the code tells the hints, what must be proved, and where ways meet. Conditions: none; over any program. -/
import Derived.Test.YtnibbmmljamolaaGreatLiteY
import Derived.Test.YtnibbmmljamolaaGreatLiteI
set_option linter.unusedVariables false
set_option linter.unusedSimpArgs false
namespace Go.Lite
open Go Go.RowKit

structure Pf where
  Q:Prop
  P:Prop
  h:Q→P
structure Pz where
  P:Prop
  h:P
def pf(P:Prop):Pf:=⟨P,P,id⟩
def k0{P:Prop}(h:P):Pf:=⟨True,P,fun _=>h⟩
def k1{q P:Prop}(h:q→P):Pf:=⟨q,P,h⟩
def k2{q r P:Prop}(h:q→r→P):Pf:=⟨q∧r,P,fun x=>h x.1 x.2⟩
def k3{q r s P:Prop}(h:q→r→s→P):Pf:=⟨q∧r∧s,P,fun x=>h x.1 x.2.1 x.2.2⟩
def k4{q r s t P:Prop}(h:q→r→s→t→P):Pf:=⟨q∧r∧s∧t,P,fun x=>h x.1 x.2.1 x.2.2.1 x.2.2.2⟩
def k5{q r s t u P:Prop}(h:q→r→s→t→u→P):Pf:=⟨q∧r∧s∧t∧u,P,fun x=>h x.1 x.2.1 x.2.2.1 x.2.2.2.1 x.2.2.2.2⟩
def k6{q r s t u v P:Prop}(h:q→r→s→t→u→v→P):Pf:=⟨q∧r∧s∧t∧u∧v,P,fun x=>h x.1 x.2.1 x.2.2.1 x.2.2.2.1 x.2.2.2.2.1 x.2.2.2.2.2⟩
def k7{q r s t u v y P:Prop}(h:q→r→s→t→u→v→y→P):Pf:=⟨q∧r∧s∧t∧u∧v∧y,P,fun x=>h x.1 x.2.1 x.2.2.1 x.2.2.2.1 x.2.2.2.2.1 x.2.2.2.2.2.1 x.2.2.2.2.2.2⟩
def zf{P:Prop}(h:P):Pz:=⟨P,h⟩
def gt(g : Bool) : Pf → Pf
  |⟨Q,P,h⟩=>⟨g=true→Q,g=true→P,fun x y=>h (x y)⟩
def gf(g : Bool) : Pf → Pf
  |⟨Q,P,h⟩=>⟨g=false→Q,g=false→P,fun x y=>h (x y)⟩
abbrev Cl:=Hint×Pf
def cg(g:Bool)(c:Cl):Cl:=(c.1,gt g c.2)
def cT(c:Cl):Cl:=(.gT c.1,c.2)
def hres(t:LV×List (Nat×BC)):Hint:=.res t.1 (t.2.map fun x=>x.2)
def hresM(d:Nat)(ids:List Nat)(t:LV×List (Nat×BC)):Hint:=.resM d ids t.2 t.1

def nth{α : Type} : List α → Nat → Option α
  |[],_=>none
  |x :: _,0=>some x
  |_ :: r,n+1=>nth r n
theorem z0d{α : Type} : ∀{l : List α} {n : Nat} {x : α}, nth l n = some x → x ∈ l
  |[],n,x,h=>by cases h
  |y :: l,0,x,h=>by cases h;simp
  |y :: l,n+1,x,h=>List.mem_cons_of_mem _ (z0d h)
def dec(bs : List Bool)(ps : List Pf)(zs : List Pz)(c : Nat) : Prop :=
  match c % 4 with
  | 0 => match nth ps (c / 4) with
    |some p=>p.P
    |none=>True
  | 1 => match nth bs (c / 4) with
    |some b=>b=true→b=true
    |none=>True
  | 2 => match nth bs (c / 4) with
    |some b=>b=false→(!b)=true
    |none=>True
  | _ => match nth zs (c / 4) with
    |some p=>p.P
    |none=>True
def AllQ : List Pf → Prop → Prop
  |[],k=>k
  |⟨Q,_,_⟩ :: r,k=>Q∧AllQ r k
def AllK : List (Nat × Cl) → Prop → Prop
  |[],k=>k
  |(_,_,⟨Q,_,_⟩) :: r,k=>Q∧AllK r k
theorem zjn{k : Prop} : ∀{ps : List Pf}, AllQ ps k → (∀p ∈ ps, p.P) ∧ k
  |[],h=>⟨fun p hp=>(by cases hp),h⟩
  |⟨Q, P, hh⟩ :: r, h => by
    obtain⟨h1,h2⟩:=h
    obtain⟨g1,g2⟩:=zjn h2
    grind
theorem zyg{k : Prop} : ∀{ps : List (Nat × Cl)}, AllK ps k → (∀p ∈ ps.map (fun x => x.2.2), p.P) ∧ k
  |[],h=>⟨fun p hp=>(by cases hp),h⟩
  |(n, hi, ⟨Q, P, hh⟩) :: r, h => by
    obtain⟨h1,h2⟩:=h
    obtain⟨g1,g2⟩:=zyg h2
    grind
theorem zi6{k k' : Prop}(hk : k → k') : ∀{ps : List Pf}, AllQ ps k → AllQ ps k'
  |[],h=>hk h
  |⟨_,_,_⟩ :: _,h=>⟨h.1,zi6 hk h.2⟩
theorem zut{k k' : Prop}(hk : k → k') : ∀{ps : List (Nat × Cl)}, AllK ps k → AllK ps k'
  |[],h=>hk h
  |(_,_,⟨_,_,_⟩) :: _,h=>⟨h.1,zut hk h.2⟩
theorem zsx{bs : List Bool}{ps : List Pf}{zs : List Pz}(h : ∀p ∈ ps, p.P)(c : Nat) : dec bs ps zs c := by
 unfold dec;split
 ·split
  ·rename_i p hp; exact h p (z0d hp)
  trivial
 ·grind
 ·grind
 split
 ·rename_i p hp; exact p.h
 trivial
theorem zs4{bs : List Bool}{ps : List Pf}{zs : List Pz}(h : ∀p ∈ ps, p.P) : ∀cs : List Nat, All (cs.map (dec bs ps zs))
  |[]=>trivial
  |c :: cs=>⟨zsx h c,zs4 h cs⟩

mutual
def fit(g : List (Nat × Option Nat))(fz : Nat → Option BC) : LV → LV → Option LV
  | .int k a, t => match t with
    |.int k' _=>bif decide (k=k') then some (.int k' a) else none
    |_=>none
  | .bool a, t => match t with
    |.bool _=>some (.bool a)
    |_=>none
  | .str a, t => match t with
    |.str _=>some (.str a)
    |_=>none
  | .agg l, t => match t with
    | .agg l' => match fitL g fz l l' with
      |some r=>some (.agg r)
      |none=>none
    |_=>none
  | .tup l, t => match t with
    | .tup l' => match fitL g fz l l' with
      |some r=>some (.tup r)
      |none=>none
    |_=>none
  | .ro fr sz n row, t => match t with
    |.ro fr' sz' _ _=>bif Nat.beq sz sz'&&(!fr'||fr) then some (.ro fr' sz' n row) else none
    |_=>none
  | .ep row off, t => match t with
    |.ep _ off'=>bif Nat.beq off off' then some (.ep row off') else none
    |_=>none
  | .nilS, t => match t with
    |.nilS=>some .nilS
    |.ro fr sz _ row=>some (.ro fr sz 0 row)
    | .own i => match look g i with
      |some none=>some (.own i)
      |_=>none
    |_=>none
  | .nilM, t => match t with
    |.nilM=>some .nilM
    |_=>none
  |.rm _ _,_=>none
  | .nilP, t => match t with
    |.nilP=>some .nilP
    |_=>none
  | .fn f, t => match t with
    |.fn f'=>bif Nat.beq f f' then some (.fn f') else none
    |_=>none
  | .clo f l, t => match t with
    | .clo f' l' => match fitL g fz l l' with
      |some r=>bif Nat.beq f f' then some (.clo f' r) else none
      |none=>none
    |_=>none
  | .vp i off, t => match t with
    |.vp i' off'=>bif Nat.beq off off'&&toId g i i' then some (.vp i' off') else none
    |_=>none
  | .own i, t => match t with
    |.own i'=>bif toId g i i' then some (.own i') else none
    | .ro fr sz' _ _ => match fz i with
      |some (.arr sz n row)=>bif Nat.beq sz sz' then some (.ro fr sz' n row) else none
      |some (.nest 1 _ sz n rows)=>bif Nat.beq 1 sz' then some (.ro fr sz' n fun k=>[nrT sz (rows k)]) else none
      |_=>none
    |_=>none
  | .ap i sz k off, t => match t with
    |.ap i' sz' _ off'=>bif Nat.beq sz sz'&&(Nat.beq off off'&&toId g i i') then some (.ap i' sz' k off') else none
    |_=>none
  | .mp i, t => match t with
    |.mp i'=>bif toId g i i' then some (.mp i') else none
    |_=>none
  | .k b o, t => match t with
    |.k b' o'=>bif Nat.beq b b'&&Nat.beq o o' then some (.k b' o') else none
    |_=>none
  | .er b, t => match t with
    |.er _=>some (.er b)
    |_=>none
  | .fv, t => match t with
    |.fv=>some .fv
    |_=>none
  | .any, t => match t with
    |.any=>some .any
    |_=>none
  | .ifc i v, t => match t with
    | .ifc i' v' => match fit g fz v v' with
      |some r=>bif Nat.beq i i' then some (.ifc i' r) else none
      |none=>none
    |_=>none
  |.whn _ _,_=>none
def fitL(g : List (Nat × Option Nat))(fz : Nat → Option BC) : List LV → List LV → Option (List LV)
  |[],[]=>some []
  | x :: l, y :: l' => match fit g fz x y, fitL g fz l l' with
    |some p,some q=>some (p :: q)
    |_,_=>none
  |_,_=>none
end
theorem zcw{α : Type}{c : Bool}{x y : α}(h : (bif c then some x else none) = some y) : c = true ∧ x = y := by
 cases c with
 |true =>exact⟨rfl,vc3⟩
 |false =>cases h
section
variable {g:List (Nat×Option Nat)} {fz:Nat→Option BC}
theorem opt_t{b:Bool}{l:List Prop}(h:b=true):opt b l=some l:=by subst h;rfl
mutual
theorem zpc : ∀{x t : LV}, fit g fz x t = some t → ∃p, cmp g fz x t = some p ∧ All p
  |.int k a, t, h => by
    cases t<;>simp only[fit] at h<;>try contradiction
    obtain⟨h1,h2⟩:=zcw h
    injection h2 with _ h2
    exact⟨[_],vcp,h2,trivial⟩
  |.bool a, t, h => by
    cases t<;>simp only[fit] at h<;>try contradiction
    injection h with h;injection h with h
    exact⟨[_],rfl,h,trivial⟩
  |.str a, t, h => by
    cases t<;>simp only[fit] at h<;>try contradiction
    injection h with h;injection h with h
    exact⟨[_],rfl,h,trivial⟩
  |.agg l, t, h => by
    cases t<;>simp only[fit] at h<;>try contradiction
    split at h
    · rename_i r hr
      injection h with h;injection h with h;subst h
      obtain⟨p,h1,h2⟩:=zlk hr
      exact⟨p,by simp only[cmp,h1],h2⟩
    · cases h
  |.tup l, t, h => by
    cases t<;>simp only[fit] at h<;>try contradiction
    split at h
    · rename_i r hr
      injection h with h;injection h with h;subst h
      obtain⟨p,h1,h2⟩:=zlk hr
      exact⟨p,by simp only[cmp,h1],h2⟩
    · cases h
  |.ro fr sz n row, t, h => by
    cases t<;>simp only[fit] at h<;>try contradiction
    obtain⟨h1,h2⟩:=zcw h
    injection h2 with _ _ h2 h3;subst h2;subst h3
    exact⟨[zc5 n n row row],vcp,⟨rfl,fun _ _=>rfl⟩,trivial⟩
  |.ep row off, t, h => by
    cases t<;>simp only[fit] at h<;>try contradiction
    obtain⟨h1,h2⟩:=zcw h
    injection h2 with h2 h3;subst h2
    exact⟨[row=row],vcp,rfl,trivial⟩
  |.nilS, t, h => by
    cases t<;>simp only[fit] at h<;>try contradiction
    · injection h with h;injection h with _ _ h2 h3;subst h2
      exact⟨[_],rfl,rfl,trivial⟩
    · exact ⟨[],rfl,trivial⟩
    · split at h
      · rename_i h1;exact ⟨[],by simp only [cmp,h1],trivial⟩
      · cases h
  |.nilP, t, h => by
    cases t<;>simp only[fit] at h<;>try contradiction
    exact⟨[],rfl,trivial⟩
  |.clo f l, t, h => by
    cases t<;>simp only[fit] at h<;>try contradiction
    split at h
    · rename_i r hr
      obtain⟨h1,h2⟩:=zcw h
      injection h2 with _ h2;subst h2
      obtain⟨p,k1,k2⟩:=zlk hr
      exact⟨p,by simp only[cmp,k1];exact opt_t h1,k2⟩
    · cases h
  |.rm _ _,t,h=>by cases t<;>simp only[fit] at h<;>contradiction
  |.nilM, t, h => by
    cases t<;>simp only[fit] at h<;>try contradiction
    exact⟨[],rfl,trivial⟩
  |.fn f, t, h => by
    cases t<;>simp only[fit] at h<;>try contradiction
    obtain⟨h1,h2⟩:=zcw h
    exact⟨[],vcp,trivial⟩
  |.vp i off, t, h => by
    cases t<;>simp only[fit] at h<;>try contradiction
    obtain⟨h1,h2⟩:=zcw h
    exact⟨[],vcp,trivial⟩
  |.own i, t, h => by
    cases t<;>simp only[fit] at h<;>try contradiction
    · split at h
      · rename_i sz n row hz
        obtain⟨h1,h2⟩:=zcw h
        injection h2 with _ _ h2 h3;subst h2;subst h3
        exact⟨[zc5 n n row row],by simp only[cmp,hz];exact opt_t h1,⟨rfl,fun _ _=>rfl⟩,trivial⟩
      · rename_i cl sz n rows hz
        obtain⟨h1,h2⟩:=zcw h
        injection h2 with _ _ h2 h3;subst h2;subst h3
        exact⟨[zc5 n n (fun k=>[nrT sz (rows k)]) (fun k=>[nrT sz (rows k)])],by simp only[cmp,hz];exact opt_t h1,⟨rfl,fun _ _=>rfl⟩,trivial⟩
      · cases h
    · obtain ⟨h1,h2⟩:=zcw h
      exact⟨[],vcp,trivial⟩
  |.ap i sz k off, t, h => by
    cases t<;>simp only[fit] at h<;>try contradiction
    obtain⟨h1,h2⟩:=zcw h
    injection h2 with _ _ h2 _
    exact⟨[_],vcp,h2,trivial⟩
  |.mp i, t, h => by
    cases t<;>simp only[fit] at h<;>try contradiction
    obtain⟨h1,h2⟩:=zcw h
    exact⟨[],vcp,trivial⟩
  |.k b o, t, h => by
    cases t<;>simp only[fit] at h<;>try contradiction
    obtain⟨h1,h2⟩:=zcw h
    exact⟨[],vcp,trivial⟩
  |.er b, t, h => by
    cases t<;>simp only[fit] at h<;>try contradiction
    injection h with h;injection h with h
    exact⟨[_],rfl,h,trivial⟩
  |.fv, t, h => by
    cases t<;>simp only[fit] at h<;>try contradiction
    exact⟨[],rfl,trivial⟩
  |.any, t, h => by
    cases t<;>simp only[fit] at h<;>try contradiction
    exact⟨[],rfl,trivial⟩
  |.ifc i v, t, h => by
    cases t<;>simp only[fit] at h<;>try contradiction
    split at h
    · rename_i r hr
      obtain⟨h1,h2⟩:=zcw h
      injection h2 with _ h2;subst h2
      obtain⟨p,k1,k2⟩:=zpc hr
      exact⟨p,by simp only[cmp,k1];exact opt_t h1,k2⟩
    · cases h
  |.whn b v,t,h=>by cases t<;>simp only[fit] at h<;>contradiction
theorem zlk : ∀{l t : List LV}, fitL g fz l t = some t → ∃p, cmpL g fz l t = some p ∧ All p
  |[], t, h => by
    cases t with
    |nil=>exact⟨[],rfl,trivial⟩
    |cons y t=>cases h
  |x :: l, t, h => by
    cases t with
    |nil=>cases h
    |cons y t =>
      simp only[fitL] at h
      split at h
      · rename_i p q h1 h2
        injection h with h;injection h with e1 e2;subst e1;subst e2
        obtain⟨p1,k1,k2⟩:=zpc h1
        obtain⟨p2,k3,k4⟩:=zlk h2
        exact⟨p1++p2,by simp only[cmpL,k1,k3],All.append.2 ⟨k2,k4⟩⟩
      · cases h
end
end
def fitB(g : List (Nat × Option Nat))(fz : Nat → Option BC)(o : Option (Option Nat))(sb : Nat → Option BC) : BC → Option BC
  | .var cs' => match o with
    | some (some j) => match sb j with
      | some (.var cs) => match fitL g fz cs cs' with
        |some r=>some (.var r)
        |none=>none
      |_=>none
    |_=>none
  | .arr sz' n' row' => match o with
    | some (some j) => match sb j with
      |some (.arr sz n row)=>bif Nat.beq sz sz' then some (.arr sz' n row) else none
      |_=>none
    |some none=>some (.arr sz' 0 row')
    |none=>none
  | .mp kd' m' => match o with
    | some (some j) => match sb j with
      |some (.mp kd m)=>some (.mp kd m)
      |_=>none
    |_=>none
  | .nest wd' _ sz' n' rows' => match o with
    | some (some j) => match sb j with
      |some (.nest wd cl sz n rows)=>bif Nat.beq sz sz'&&(Nat.beq wd wd'&&cl) then some (.nest wd' true sz' n rows) else none
      |_=>none
    |some none=>some (.nest wd' true sz' 0 rows')
    |none=>none
  | .bld T' e' s' => match o with
    | some (some j) => match sb j with
      |some (.bld T e s)=>bif Nat.beq T T'&&Nat.beq e e' then some (.bld T' e' s) else none
      |_=>none
    |_=>none
def fitSl(g : List (Nat × Option Nat))(fz : Nat → Option BC)(sl : Nat → Option LV) : List (Nat × LV) → Option (List (Nat × LV))
  |[]=>some []
  | x :: r => match sl x.1 with
    | some lv => match fit g fz lv x.2, fitSl g fz sl r with
      |some p,some q=>some ((x.1,p) :: q)
      |_,_=>none
    |none=>none
def fitBl(g : List (Nat × Option Nat))(fz : Nat → Option BC)(sb : Nat → Option BC) : List (Nat × BC) → Option (List (Nat × BC))
  |[]=>some []
  | x :: r => match (bif (putOf g x.1).isSome then none else fitB g fz (look g x.1) sb x.2), fitBl g fz sb r with
    |some p,some q=>some ((x.1,p) :: q)
    |_,_=>none
def fitS(g : List (Nat × Option Nat))(S T : St) : Option St :=
  bif okT g T then
    match fitSl g (fzOf (imgs g T.blks) (look S.blks)) (look S.slots) T.slots,fitBl g (fzOf (imgs g T.blks) (look S.blks)) (look S.blks) T.blks with
    |some p,some q=>some ⟨p,q,T.used⟩
    |_,_=>none
  else none
section
variable {g:List (Nat×Option Nat)} {fz:Nat→Option BC}
theorem z3h{o : Option (Option Nat)}{sb : Nat → Option BC}{c : BC}(h : fitB g fz o sb c = some c) : ∃p, cmpB g fz o sb none c = some p ∧ All p := by
 cases c with
 |var cs =>
  simp only[fitB] at h;split at h
  ·split at h
   ·rename_i cs' hcs;split at h
    ·rename_i r hr;injection h with h; injection h with h; subst h;obtain ⟨p, h1, h2⟩ := zlk hr;exact ⟨p, by simp only [cmpB, hcs, h1], h2⟩
    cases h
   cases h
  cases h
 |arr sz n row =>
  simp only[fitB] at h;split at h
  ·split at h
   ·rename_i sz' n' row' hcs;obtain ⟨h1, h2⟩ := zcw h;injection h2 with _ h2 h3; subst h2; subst h3;exact ⟨[zc5 n' n' row' row'], by simp only [cmpB, hcs]; exact opt_t h1, ⟨rfl, fun _ _ => rfl⟩, trivial⟩
   cases h
  ·injection h with h; injection h with _ h _;exact ⟨[_], rfl, h.symm, trivial⟩
  cases h
 |mp kd m =>
  simp only[fitB] at h;split at h
  ·split at h
   ·rename_i kd' m' hcs;injection h with h; injection h with h1 h2;exact ⟨[kd' = kd ∧ m' = m], by simp only [cmpB, hcs], ⟨h1, h2⟩, trivial⟩
   cases h
  cases h
 |bld T e s =>
  simp only[fitB] at h;split at h
  ·split at h
   ·rename_i T' e' s' hcs;obtain ⟨h1, h2⟩ := zcw h;injection h2 with _ _ h3; subst h3;simp only [oc] at h1;exact ⟨[s' = s'], by simp only [cmpB, hcs]; exact opt_t (by simp [h1.1, h1.2]), rfl, trivial⟩
   cases h
  cases h
 |nest wd clt sz n rows =>
  simp only[fitB] at h;split at h
  ·split at h
   ·rename_i wd' cl sz' n' rows' hcs;obtain ⟨h1, h2⟩ := zcw h;injection h2 with _ e _ h2 h3; subst h2; subst h3; subst e;simp only [oc] at h1;exact ⟨[z4b wd' n' n' rows' rows'], by simp only [cmpB, hcs]; exact opt_t (by simp [h1.1, h1.2.1, h1.2.2]), ⟨rfl, fun _ _ => rfl⟩, trivial⟩
   cases h
  ·injection h with h; injection h with _ e _ h _; subst e;exact ⟨[_], rfl, h.symm, trivial⟩
  cases h
theorem zxv{sl : Nat → Option LV} : ∀{l : List (Nat × LV)}, fitSl g fz sl l = some l → ∃p, zkf g fz sl l = some p ∧ All p
  |[],h=>⟨[],rfl,trivial⟩
  |x :: l, h => by
    simp only[fitSl] at h
    split at h
    · rename_i lv hlv
      split at h
      · rename_i p q h1 h2
        injection h with h;injection h with e1 e2;subst e2
        obtain⟨p1,k1,k2⟩:=zpc (g:=g) (fz:=fz) (x:=lv) (t:=x.2) (by rw[h1,←e1])
        obtain⟨p2,k3,k4⟩:=zxv h2
        exact⟨p1++p2,by simp only[zkf,hlv,k1,k3],All.append.2 ⟨k2,k4⟩⟩
      · cases h
    · cases h
theorem zno{sb : Nat → Option BC} : ∀{l : List (Nat × BC)}, fitBl g fz sb l = some l → ∃p, zjy g fz sb l = some p ∧ All p
  |[],h=>⟨[],rfl,trivial⟩
  |x :: l, h => by
    simp only[fitBl] at h
    split at h
    · rename_i p q h1 h2
      injection h with h;injection h with e1 e2;subst e2
      have hpt : putOf g x.1 = none := by
        cases hp:putOf g x.1 with
        |none=>rfl
        |some d=>rw[hp] at h1;cases h1
      rw[hpt] at h1
      have h1:fitB g fz (look g x.1) sb x.2=some p:=h1
      obtain⟨p1,k1,k2⟩:=z3h (g:=g) (fz:=fz) (o:=look g x.1) (sb:=sb) (c:=x.2) (by rw[h1,←e1])
      rw[←hpt] at k1
      obtain⟨p2,k3,k4⟩:=zno h2
      exact⟨p1++p2,by simp only[zjy,k1,k3],All.append.2 ⟨k2,k4⟩⟩
    · cases h
end
theorem H.fit{N : Nat}{w0 w : World}{X0 : Fr}{S T : St}{a : Act}(hs : H N w0 X0 S a w)(g : List (Nat × Option Nat))(h : fitS g S T = some T) : H N w0 X0 T a w := by
 unfold fitS at h;cases hT:okT g T with
 |false =>rw[hT] at h;cases h
 |true =>
  rw[hT] at h;split at h
  ·rename_i p q h1 h2;injection h with h;have e1 : p = T.slots := oe St.slots h;have e2 : q = T.blks := oe St.blks h;rw [e1] at h1; rw [e2] at h2;obtain ⟨p1, k1, k2⟩ := zxv h1;obtain ⟨p2, k3, k4⟩ := zno h2;exact hs.le g (vcs := p1 ++ p2) (by simp only [leS, hT, oE, k1, k3]) (All.append.2 ⟨k2, k4⟩)
  cases h

structure Dl where
  s:List (Nat×LV)
  b:List (Nat×BC)
inductive Ann : Type 1
  |reg (n:Nat) (hs:List (Nat×Hint)) (ks:List (Nat×Cl)) (ts is:List Nat) (bs:List Bool) (ps:List Pf) (zs:List Pz) (cs:List Nat) (next:Ann)
  |co (sl:Bool) (i n:Nat) (row:Nat→List LV) (ps:List Pf) (zs:List Pz) (c:Nat) (next:Ann)
  |put (id d n:Nat) (rows:Nat→NR) (ps:List Pf) (zs:List Pz) (c:Nat) (next:Ann)
  |fits (ds db:List Nat) (g:List (Nat×Option Nat)) (t:Dl) (next:Ann)
  |split (b:Bool) (x y:Ann)
  |cond (b:Bool) (bs:List Bool) (ps:List Pf) (cs:List Nat) (x y:Ann)
  |loop (G:Type) (D:G→Dl) (ds db:List Nat) (g:List (Nat×Option Nat)) (t:Dl) (body:G→Ann)
  |join (k:Nat) (G:Type) (D:G→Dl) (ts is:List Nat) (first:Ann) (rest:G→Ann)
  |next (k:Nat) (g:List (Nat×Option Nat)) (t:Dl)
  |ret (bs:List Bool) (ps:List Pf) (cs:List Nat) (g:List (Nat×Option Nat)) (t:LV×List (Nat×BC))
def r0(n:Nat)(ts is:List Nat)(next:Ann):Ann:=.reg n [] [] ts is [] [] [] [] next
def r1(n:Nat)(ts is:List Nat)(ps:List Pf)(cs:List Nat)(next:Ann):Ann:=.reg n [] [] ts is [] ps [] cs next
def lp{S:Type}(D:Nat→S→Dl)(ds db:List Nat)(g:List (Nat×Option Nat))(t:Dl)(body:Nat→S→Ann):Ann:=.loop (Nat×S) (fun v=>D v.1 v.2) ds db g t fun v=>body v.1 v.2
def cn(b:Bool)(x y:Ann):Ann:=.cond b [] [] [] x y
def rt(g:List (Nat×Option Nat))(t:LV×List (Nat×BC)):Ann:=.ret [] [] [] g t

inductive CF where
  |seq (c:Code)
  |blk (id:Nat)
  |nxt (K:Dl→Prop) (base:St)
def popTo(id : Nat) : List CF → Option (List CF)
  |[]=>none
  |.blk i :: st=>bif Nat.beq i id then some st else popTo id st
  |.seq _ :: st=>popTo id st
  |.nxt _ _ :: st=>popTo id st
def adv : Nat → Option Code → List CF → Option (Option Code × List CF)
  |0,_,_=>none
  | f + 1, none, st => match st with
    |.seq b :: st'=>adv f (some b) st'
    |.blk _ :: st'=>adv f none st'
    |st=>some (none,st)
  | f + 1, some c, st => match c with
    |.seq a b=>adv f (some a) (.seq b :: st)
    |.block i x=>adv f (some x) (.blk i :: st)
    | .exit i => match popTo i st with
      |some st'=>adv f none st'
      |none=>none
    |.skip=>adv f none st
    |.label _=>adv f none st
    |c=>some (some c,st)
def ends : Option (Option Code × List CF) → Bool
  |some (some .ret,_)=>true
  |some (none,[])=>true
  |_=>false
def advJ : Nat → Nat → Option Code → List CF → Option (Code × Code × List CF)
  |0,_,_,_=>none
  | f + 1, k, none, st => match st with
    |.seq b :: st'=>advJ f k (some b) st'
    |.blk _ :: st'=>advJ f k none st'
    |_=>none
  | f + 1, k, some c, st => match c with
    | .seq a b => match k with
      |0=>some (a,b,st)
      |k+1=>advJ f k (some a) (.seq b :: st)
    |.block i x=>advJ f k (some x) (.blk i :: st)
    | .exit i => match popTo i st with
      |some st'=>advJ f k none st'
      |none=>none
    |.skip=>advJ f k none st
    |.label _=>advJ f k none st
    |_=>none
def regs(P : Program)(N : Nat)(hs : List (Nat × Hint)) : Nat → Nat → Option Code → List CF → St → Option (Option Code × List CF × St × List Prop)
  |0,_,c,st,s=>some (c,st,s,[])
  | n + 1, i, c, st, s => match adv 400 c st with
    | some (some (.region _ ops d), st') => match (bif d then zv1 P N ops.toList hs i s else ztd P N ops.toList hs ops.toList i s) with
      | some (s1, p) => match regs P N hs n (i + 1000) none st' s1 with
        |some (c2,st2,s2,q)=>some (c2,st2,s2,p++q)
        |none=>none
      |none=>none
    |_=>none
def dropS(ds db:List Nat)(s:St):St:=⟨s.slots.filter fun x=>!mem ds x.1,s.blks.filter fun x=>!mem db x.1,s.used⟩
def updS(base : St)(d : Dl) : St :=
  ⟨d.s ++ base.slots.filter fun x => (look d.s x.1).isNone, d.b ++ base.blks.filter fun x => (look d.b x.1).isNone, (d.b ++ base.blks.filter fun x => (look d.b x.1).isNone).map (·.1)⟩
def gOf(g:List (Nat×Option Nat))(base:St):List (Nat×Option Nat):=g++base.blks.map fun x=>(x.1,some x.1)
def fitR(P : Program)(fn : Func)(s : St)(g : List (Nat × Option Nat))(t : LV × List (Nat × BC)) : Option (List Prop × LV × List (Nat × BC)) :=
  match resLs P (look s.slots) (look s.blks) fn.results.toList with
  | some (l, p) => match fitBl g (fzOf (imgs g t.2) (look s.blks)) (look s.blks) t.2, fit g (fzOf (imgs g t.2) (look s.blks)) (oneOr l) t.1 with
    |some b,some r=>some (p,r,b)
    |_,_=>none
  |none=>none
def zxi : List (Nat × BC) → Nat → Bool
  |[],_=>true
  |x :: r,i=>Nat.beq x.1 i&&zxi r (i+1)
def okR(md : Option Nat)(g : List (Nat × Option Nat))(t : LV × List (Nat × BC)) : Bool :=
  match md with
  | none => okT g ⟨[], t.2, List.range t.2.length⟩ && (zxi t.2 0 && (zgj (mem (List.range t.2.length)) t.1 && (t.2.map (·.2)).all isArr))
  | some n => okT g ⟨[], t.2, t.2.map (·.1)⟩ && (zgj (mem (t.2.map (·.1))) t.1 && t.2.all fun x => varIn (mem (t.2.map (·.1))) x.2 && Nat.blt x.1 (900000 + n))
def eqd{α:Type}(d:Bool)(x y:α):Prop:=(bif d then y else x)=y
def coS(sl : Bool)(i n : Nat)(row : Nat → List LV)(s : St) : Option (St × Prop) :=
  bif sl then match look s.slots i with
    |some (.ro fr sz n0 row0)=>some ({ s with slots:=(i,.ro fr sz n row) :: s.slots },zc5 n0 n row0 row)
    |_=>none
  else match look s.blks i with
    |some (.arr sz n0 row0)=>some ({ s with blks:=s.blks.map fun x=>bif Nat.beq x.1 i then(i,.arr sz n row) else x },zc5 n0 n row0 row)
    |_=>none

def putP(wd d len : Nat)(row : Nat → List LV)(n n' : Nat)(rows rows' : Nat → NR) : Prop :=
  n=n'∧∃k0,k0<cN wd n∧rows k0=.out d∧rows' k0=.row len row∧(∀k,k<cN wd n→k≠k0→rows' k=rows k)∧∀k id,k<cN wd n→rows' k≠.out id
def putS(id d n : Nat)(rows : Nat → NR)(s : St) : Option (St × Prop) :=
  match look s.blks id,look s.blks d with
  | some (.nest wd _ sz n0 rows0), some (.arr sz' len row) => bif Nat.beq sz sz' then
      some ({ s with blks:=(id,.nest wd true sz n rows) :: s.blks.filter fun x=>!Nat.beq x.1 d&&!Nat.beq x.1 id },putP wd d len row n0 n rows0 rows) else none
  |_,_=>none

section
variable (P:Program) (fn:Func) (N:Nat) (md:Option Nat) (tgt:LV×List (Nat×BC))
def go(d : Bool) : Ann → List (Dl → Prop) → Option Code → List CF → St → Prop
  | .reg n hs ks ts is bs ps zs cs next, K, c, st, s => match regs P N (hs ++ ks.map fun x => (x.1, x.2.1)) n 0 c st s with
    |some (c',st',s',vcs)=>eqd d vcs (cs.map (dec bs (ps++ks.map fun x=>x.2.2) zs))∧AllQ ps (AllK ks (go d next K c' st' (keepS ts is s')))
    |none=>d=true
  | .co sl i n row ps zs cc next, K, c, st, s => match coS sl i n row s with
    |some (s',p)=>eqd d p (dec [] ps zs cc)∧AllQ ps (go d next K c st s')
    |none=>d=true
  | .put id e n rows ps zs cc next, K, c, st, s => match putS id e n rows s with
    |some (s',p)=>eqd d p (dec [] ps zs cc)∧AllQ ps (go d next K c st s')
    |none=>d=true
  |.fits ds db g t next,K,c,st,s=>eqd d (fitS (gOf g (dropS ds db s)) s (updS (dropS ds db s) t)) (some (updS (dropS ds db s) t))∧go d next K c st (updS (dropS ds db s) t)
  |.split b x y,K,c,st,s=>(b=true→go d x K c st s)∧(b=false→go d y K c st s)
  | .cond b bs ps cs x y, K, c, st, s => match adv 400 c st with
    | some (some (.cond o x' y'), st') => match ev (look s.slots) o with
      |some (.bool b',vcs)=>eqd d b' b∧eqd d vcs (cs.map (dec bs ps []))∧AllQ ps ((b=true→go d x K (some x') st' s)∧(b=false→go d y K (some y') st' s))
      |_=>d=true
    |_=>d=true
  | .loop G D ds db g t body, K, c, st, s => match adv 400 c st with
    |some (some (.loop x), st') =>
      eqd d (fitS (gOf g (dropS ds db s)) s (updS (dropS ds db s) t)) (some (updS (dropS ds db s) t)) ∧
        ∃ J : Nat → G → Prop, (∃ m v, J m v ∧ D v = t) ∧ ∀ m v, J m v →
          go d (body v) ((fun t'=>∃v',(∃m',m'<m∧J m' v')∧D v'=t') :: K) (some x) (.nxt (fun t'=>∃v',(∃m',m'<m∧J m' v')∧D v'=t') (dropS ds db s) :: st') (updS (dropS ds db s) (D v))
    |_=>d=true
  | .join k G D ts is first rest, K, c, st, s => match advJ 400 k c st with
    |some (x, y, st') =>
      ∃ J : G → Prop, go d first ((fun t' => ∃ v', J v' ∧ D v' = t') :: K) (some x) (.nxt (fun t' => ∃ v', J v' ∧ D v' = t') (keepS ts is s) :: st') s ∧
        ∀v,J v→go d (rest v) K (some y) st' (updS (keepS ts is s) (D v))
    |_=>d=true
  | .next k g t, K, c, st, s => match adv 400 c st with
    | some (none, .nxt F base :: _) => eqd d (fitS (gOf g base) s (updS base t)) (some (updS base t)) ∧ (match d, nth K k with
      |true,some F'=>F' t
      |true,none=>False
      |false,_=>F t)
    | _ => match d, nth K k with
      |true,some F'=>F' t
      |true,none=>False
      |false,_=>False
  | .ret bs ps cs g t, K, c, st, s => match ends (adv 400 c st) with
    | true => match fitR P fn s g t with
      |some (p,t')=>eqd d p (cs.map (dec bs ps []))∧eqd d t' t∧eqd d (okR md g t) true∧AllQ ps (t=tgt)
      |none=>d=true
    |false=>d=true
def slim : Ann → List (Dl → Prop) → Prop
  |.reg _ _ ks _ _ _ ps _ _ next,K=>AllQ ps (AllK ks (slim next K))
  |.co _ _ _ _ ps _ _ next,K=>AllQ ps (slim next K)
  |.put _ _ _ _ ps _ _ next,K=>AllQ ps (slim next K)
  |.fits _ _ _ _ next,K=>slim next K
  |.split b x y,K=>(b=true→slim x K)∧(b=false→slim y K)
  |.cond b _ ps _ x y,K=>AllQ ps ((b=true→slim x K)∧(b=false→slim y K))
  |.loop G D _ _ _ t body,K=>∃J:Nat→G→Prop,(∃m v,J m v∧D v=t)∧∀m v,J m v→slim (body v) ((fun t'=>∃v',(∃m',m'<m∧J m' v')∧D v'=t') :: K)
  |.join _ G D _ _ first rest,K=>∃J:G→Prop,slim first ((fun t'=>∃v',J v'∧D v'=t') :: K)∧∀v,J v→slim (rest v) K
  | .next k _ t, K => match nth K k with
    |some F=>F t
    |none=>False
  |.ret _ ps _ _ t,_=>AllQ ps (t=tgt)
variable {P fn N md tgt}
theorem zzq : ∀{A : Ann} {K : List (Dl → Prop)} {c : Option Code} {st : List CF} {s : St}, slim tgt A K → go P fn N md tgt true A K c st s := by
 intro A;induction A with
 |reg n hs ks ts is bs ps zs cs next ih =>
  intro K c st s h;simp only[go];split
  ·exact ⟨rfl, zi6 (zut ih) h⟩
  grind
 |co sl i n row ps zs cc next ih =>
  intro K c st s h;simp only[go];split
  ·exact ⟨rfl, zi6 ih h⟩
  grind
 |put id e n rows ps zs cc next ih =>
  intro K c st s h;simp only[go];split
  ·exact ⟨rfl, zi6 ih h⟩
  grind
 |fits ds db g t next ih =>intro K c st s h;exact⟨rfl,ih h⟩
 |split b x y ih1 ih2 =>intro K c st s h;exact⟨fun hb=>ih1 (h.1 hb),fun hb=>ih2 (h.2 hb)⟩
 |cond b bs ps cs x y ih1 ih2 =>
  intro K c st s h;simp only[go];split
  ·split
   ·exact ⟨rfl, rfl, zi6 (fun hh => ⟨fun hb => ih1 (hh.1 hb), fun hb => ih2 (hh.2 hb)⟩) h⟩
   grind
  grind
 |loop G D ds db g t body ih =>
  intro K c st s h;simp only[go];split
  ·obtain ⟨J, h1, h2⟩ := h;exact ⟨rfl, J, h1, fun m v hJ => ih v (h2 m v hJ)⟩
  grind
 |join k G D ts is first rest ih1 ih2 =>
  intro K c st s h;simp only[go];split
  ·obtain ⟨J, h1, h2⟩ := h;exact ⟨J, ih1 h1, fun v hJ => ih2 v (h2 v hJ)⟩
  grind
 |next k g t =>
  intro K c st s h;simp only[go];simp only[slim] at h;split
  ·refine ⟨rfl, ?_⟩;grind
  grind
 |ret bs ps cs g t =>
  intro K c st s h;simp only[go];split
  ·split
   ·exact ⟨rfl, rfl, rfl, h⟩
   grind
  grind
end

section
variable {P:Program} {fn:Func} {N:Nat} {md:Option Nat} {tgt:LV×List (Nat×BC)} {w0:World} {X0:Fr}
def den(P : Program)(N : Nat)(w0 : World)(X0 : Fr)(r : AP) : List CF → AP × List (Nat × AP)
  |[]=>(r,[])
  |.seq c :: st=>(fun a w=>W P c (den P N w0 X0 r st).1 r (den P N w0 X0 r st).2 a w,(den P N w0 X0 r st).2)
  |.blk id :: st=>((den P N w0 X0 r st).1,(id,(den P N w0 X0 r st).1) :: (den P N w0 X0 r st).2)
  |.nxt K base :: st=>(fun a w=>∃t,K t∧H N w0 X0 (updS base t) a w,(den P N w0 X0 r st).2)
def DP(P : Program)(N : Nat)(w0 : World)(X0 : Fr)(r : AP)(c : Option Code)(st : List CF) : AP := fun a w =>
  match c with
  |some c=>W P c (den P N w0 X0 r st).1 r (den P N w0 X0 r st).2 a w
  |none=>(den P N w0 X0 r st).1 a w
variable {r:AP}
theorem zin{id : Nat} : ∀{st st' : List CF}, popTo id st = some st' → look (den P N w0 X0 r st).2 id = some (den P N w0 X0 r st').1
  |[],st',h=>by cases h
  |.seq c :: st,st',h=>zin (st:=st) h
  |.nxt K base :: st,st',h=>zin (st:=st) h
  |.blk i :: st, st', h => by
    simp only[popTo] at h
    simp only[den,look]
    cases hb:Nat.beq i id with
    | true=>rw[hb] at h;simp only[oE,oq] at h ⊢;rw[h]
    | false=>rw[hb] at h;simp only[oD] at h ⊢;exact zin h
theorem zfj : ∀{f : Nat} {c c' : Option Code} {st st' : List CF} {a : Act} {w : World}, adv f c st = some (c', st') → DP P N w0 X0 r c' st' a w → DP P N w0 X0 r c st a w
  |0,c,c',st,st',a,w,h,hd=>by cases h
  |f + 1, none, c', st, st', a, w, h, hd => by
    simp only[adv] at h
    split at h
    · exact zfj (c:=some _) h hd
    · rename_i id st1;exact (zfj (c:=none) h hd:DP P N w0 X0 r none st1 a w)
    · grind
  |f + 1, some c, c', st, st', a, w, h, hd => by
    simp only[adv] at h
    split at h
    · exact W.seq rfl (zfj (c:=some _) h hd)
    · exact W.block _ (by simp [isBlk]) (zfj (c:=some _) h hd)
    · split at h
      · rename_i st2 hp
        exact W.exit _ (by simp[zxl]) (zin hp) (zfj (c:=none) h hd)
      · cases h
    · exact W.skip rfl (zfj (c:=none) h hd)
    · exact W.skip rfl (zfj (c:=none) h hd)
    · grind
theorem zg5 : ∀{f k : Nat} {c : Option Code} {x y : Code} {st st' : List CF} {a : Act} {w : World}, advJ f k c st = some (x, y, st') → DP P N w0 X0 r (some (.seq x y)) st' a w → DP P N w0 X0 r c st a w
  |0,k,c,x,y,st,st',a,w,h,hd=>by cases h
  |f + 1, k, none, x, y, st, st', a, w, h, hd => by
    simp only[advJ] at h
    split at h
    · exact zg5 (c:=some _) h hd
    · rename_i id st1;exact (zg5 (c:=none) h hd:DP P N w0 X0 r none st1 a w)
    · cases h
  |f + 1, k, some c, x, y, st, st', a, w, h, hd => by
    simp only[advJ] at h
    split at h
    · split at h
      · grind
      · exact W.seq rfl (zg5 (c:=some _) h hd)
    · exact W.block _ (by simp [isBlk]) (zg5 (c:=some _) h hd)
    · split at h
      · rename_i st2 hp
        exact W.exit _ (by simp[zxl]) (zin hp) (zg5 (c:=none) h hd)
      · cases h
    · exact W.skip rfl (zg5 (c:=none) h hd)
    · exact W.skip rfl (zg5 (c:=none) h hd)
    · cases h
theorem zrx(hm : P.follows .mixedOrders = true){hs : List (Nat × Hint)} : ∀{n i : Nat} {c c' : Option Code} {st st' : List CF} {s s' : St} {vcs : List Prop} {a : Act} {w : World}, regs P N hs n i c st s = some (c', st', s', vcs) → All vcs →
    H N w0 X0 s a w→(∀a w,H N w0 X0 s' a w→DP P N w0 X0 r c' st' a w)→DP P N w0 X0 r c st a w
  |0,i,c,c',st,st',s,s',vcs,a,w,h,ha,hs,hn=>by cases h;exact hn a w hs
  |n + 1, i, c, c', st, st', s, s', vcs, a, w, h, ha, hs', hn => by
    simp only[regs] at h
    split at h
    · rename_i id ops d st1 hadv
      split at h
      · rename_i s1 p h1
        split at h
        · rename_i c2 st2 s2 q h2
          cases h
          obtain⟨a1,a2⟩:=All.append.1 ha
          refine zfj hadv ?_
          cases d with
          |true=>exact W.draw hs' hm rfl hs h1 a1 fun a w h3=>zrx hm (c:=none) h2 a2 h3 hn
          |false=>exact W.region hs' rfl hs h1 a1 fun a w h3=>zrx hm (c:=none) h2 a2 h3 hn
        · cases h
      · cases h
    · cases h
theorem z1i{sl : Bool}{i n : Nat}{row : Nat → List LV}{s s' : St}{p : Prop}{a : Act}{w : World}(h : coS sl i n row s = some (s', p))(hp : p)(hs : H N w0 X0 s a w) : H N w0 X0 s' a w := by
 obtain⟨E,hs⟩:=hs;unfold coS at h;cases sl with
 |true =>
  split at h
  ·rename_i fr sz n0 row0 hl;cases h;refine ⟨E, ⟨hs.size, hs.defers, hs.below, fun t lv ht => ?_, hs.blks, hs.injA, hs.live, fun t lv id ht hmm => ?_, hs.wfb, hs.wfn, hs.baseA, hs.bown, hs.pin, hs.pu, hs.szf, hs.gh, hs.xge⟩⟩
   ·simp only [St.fs, zbx] at ht;by_cases e : t = i
    ·subst e;simp only [if_true, oq] at ht;subst ht;exact .c _ _ ((hs.slots t _ hl).ro_inv.rows (fun h => h) hp)
    simp only[e] at ht;exact hs.slots t lv ht
   simp only[St.fs,zbx] at ht;by_cases e:t=i
   ·subst e;simp only [if_true, oq] at ht;subst ht;cases hmm
   simp only[e] at ht;exact hs.wfs t lv id ht hmm
  cases h
 |false =>
  simp only[oD] at h;split at h
  ·rename_i sz n0 row0 hl;cases h;have hlk : ∀ (l : List (Nat × BC)) (j : Nat), look (l.map fun x => bif Nat.beq x.1 i then (i, BC.arr sz n row) else x) j = if j = i then (look l i).map (fun _ => BC.arr sz n row) else look l j := by
    intro l j;induction l with
    |nil =>simp[look]
    |cons x l ih =>
     simp only[List.map_cons];cases hb:Nat.beq x.1 i with
     |true =>
      have e:=oo hb;simp only[look];by_cases e2:j=i
      ·grind
      have h1 : Nat.beq i j = false := by
       cases hc:Nat.beq i j with
       |true =>exact absurd (oo hc).symm e2
       |false =>rfl
      grind
     |false =>simp only[look];grind
   exact⟨E,(hs.re (σ':=St.fs ⟨s.slots,s.blks.map fun x=>bif Nat.beq x.1 i then(i,BC.arr sz n row) else x,s.used⟩) (id:=i) (sz:=sz) (n:=n) (row:=row) rfl rfl hl (by simp[St.fs,hlk,hl]) (fun j hj=>by simp[St.fs,hlk,hj]) (zw1 (wk:=false) hp)).1⟩
  cases h
theorem zke{α : Type}(f : Nat → Bool) : ∀(l : List (Nat × α)) (j : Nat), look (l.filter fun x => f x.1) j = if f j = true then look l j else none
  |[],j=>by simp[look]
  |x :: l, j => by
    cases hx:f x.1 with
    |true =>
      rw[List.filter_cons_of_pos (by simpa using hx)]
      simp only[look]
      cases hb:Nat.beq x.1 j with
      |true=>have:=oo hb;subst this;simp[hx]
      |false=>simp only[oD];exact zke f l j
    |false =>
      rw[List.filter_cons_of_neg (by simp[hx])]
      rw[zke f l j]
      simp only[look]
      cases hb:Nat.beq x.1 j with
      |true=>have:=oo hb;subst this;simp[hx]
      |false=>rfl
theorem zyk{id d n : Nat}{rows : Nat → NR}{s s' : St}{p : Prop}{a : Act}{w : World}(h : putS id d n rows s = some (s', p))(hp : p)(hs : H N w0 X0 s a w) : H N w0 X0 s' a w := by
 obtain⟨E,hs⟩:=hs;unfold putS at h;split at h
 ·rename_i wd cl sz n0 rows0 sz' len row hb hbd;obtain ⟨hc, h9⟩ := zcw h;clear h;have e := oo hc;subst e;obtain ⟨rfl, rfl⟩ := Prod.mk.inj h9;obtain ⟨e, k0, h1, h2, h3, h4, h5⟩ := hp;subst e;obtain ⟨E', hS⟩ := hs.putBack (σ := s.fs) hb hbd h1 h2 h3 h4 h5;refine ⟨E', hS.weaken _ (fun t lv ht => ht) (fun i c hi => ?_) (fun i hi => ?_)⟩
  ·simp only [St.fs, zbx] at hi;by_cases e : i = id
   ·subst e;simp only [if_true, oq] at hi;simp [FS.upd, oneB, hi]
   rw[if_neg e,zke (fun x=>!Nat.beq x d&&!Nat.beq x id)] at hi;split at hi
   ·rename_i hf;simp only [oc, od] at hf;have hk : killL [d] i = false := by
     cases hk:killL [d] i with
     |false =>rfl
     |true =>have:=oT.1 (killL_mem.1 hk);rw[this,Nat.beq_refl] at hf;cases hf.1
    simp only[FS.upd,oneB,if_neg e,hk,oV,if_false];exact hi
   cases hi
  have hi':((oneB id (BC.nest wd true sz n0 rows) i).isSome||memU s.used i)=true:=hi;rcases oj _ _ ▸ hi' with h6 | h6
  ·have e : i = id := by
    unfold oneB at h6;by_cases e:i=id
    ·exact e
    simp[e] at h6
   subst e;exact hs.live i (by rw[show s.fs.blk i=_ from hb];simp)
  exact h6
 cases h
theorem zxo(hm : P.follows .mixedOrders = true)(hr : ∀{s : St} {g : List (Nat × Option Nat)} {p : List Prop} {a : Act} {w : World}, fitR P fn s g tgt = some (p, tgt) → okR md g tgt = true → All p → H N w0 X0 s a w → r a w) : ∀{A : Ann} {K : List (Dl → Prop)} {c : Option Code} {st : List CF} {s : St} {a : Act} {w : World}, go P fn N md tgt false A K c st s → H N w0 X0 s a w → DP P N w0 X0 r c st a w := by
 intro A;induction A with
 |reg n hs ks ts is bs ps zs cs next ih =>
  intro K c st s a w h hh;simp only[go] at h;split at h
  ·rename_i c' st' s' vcs he;obtain ⟨e, h⟩ := h;obtain ⟨h1, h⟩ := zjn h;obtain ⟨h2, h⟩ := zyg h;refine zrx hm he ?_ hh fun a w h3 => ih h (h3.keep ts is);rw [show vcs = _ from e];refine zs4 (fun p hp => ?_) cs;grind
  cases h
 |co sl i n row ps zs cc next ih =>
  intro K c st s a w h hh;simp only[go] at h;split at h
  ·rename_i s' p he;obtain ⟨e, h⟩ := h;obtain ⟨h1, h⟩ := zjn h;refine ih h (z1i he ?_ hh);rw [show p = _ from e];exact zsx h1 cc
  cases h
 |put id e n rows ps zs cc next ih =>
  intro K c st s a w h hh;simp only[go] at h;split at h
  ·rename_i s' p he;obtain ⟨e1, h⟩ := h;obtain ⟨h1, h⟩ := zjn h;refine ih h (zyk he ?_ hh);rw [show p = _ from e1];exact zsx h1 cc
  cases h
 |fits ds db g t next ih =>intro K c st s a w h hh;exact ih h.2 (hh.fit _ h.1)
 |split b x y ih1 ih2 =>
  intro K c st s a w h hh;cases b with
  |true =>exact ih1 (h.1 rfl) hh
  |false =>exact ih2 (h.2 rfl) hh
 |cond b bs ps cs x y ih1 ih2 =>
  intro K c st s a w h hh;simp only[go] at h;split at h
  ·rename_i o x' y' st' hadv;split at h
   ·rename_i b' vcs he;obtain ⟨e1, e2, h⟩ := h;obtain ⟨h1, h⟩ := zjn h;have e1 : b' = b := e1;subst e1;refine zfj hadv (W.cond hh rfl he ?_ (fun hb => ih1 (h.1 hb) hh) (fun hb => ih2 (h.2 hb) hh));rw [show vcs = _ from e2];exact zs4 h1 cs
   cases h
  cases h
 |loop G D ds db g t body ih =>
  intro K c st s a w h hh;simp only[go] at h;split at h
  ·rename_i x st' hadv;obtain ⟨e, J, ⟨m, v, hJ, hD⟩, h⟩ := h;refine zfj hadv (W.loop rfl (G := Nat × G) (fun q a w => J q.1 q.2 ∧ H N w0 X0 (updS (dropS ds db s) (D q.2)) a w) (fun q => q.1) (m, v) ⟨hJ, ?_⟩ fun q a w hq => ?_)
   ·rw [hD]; exact hh.fit _ e
   refine(show W P x _ r _ a w from ih q.2 (h q.1 q.2 hq.1) hq.2).mono fun a w ⟨t',⟨v',⟨m',hm',hJ'⟩,hD'⟩,hH⟩=>⟨(m',v'),⟨hJ',?_⟩,hm'⟩;grind
  cases h
 |join k G D ts is first rest ih1 ih2 =>
  intro K c st s a w h hh;simp only[go] at h;split at h
  ·rename_i x y st' hadv;obtain ⟨J, h1, h2⟩ := h;refine zg5 hadv (W.seqM rfl _ (ih1 h1 hh) fun a w ⟨t', ⟨v', hJ', hD'⟩, hH⟩ => ?_);exact ih2 v' (h2 v' hJ') (by rw [hD']; exact hH)
  cases h
 |next k g t =>
  intro K c st s a w h hh;simp only[go] at h;split at h
  ·rename_i F base st' hadv;exact zfj hadv ⟨t, h.2, hh.fit _ h.1⟩
  grind
 |ret bs ps cs g t =>
  intro K c st s a w h hh;simp only[go] at h;split at h
  ·rename_i hadv;split at h
   ·rename_i p t' he;obtain ⟨e1, e2, e3, h⟩ := h;obtain ⟨h1, h⟩ := zjn h;subst h;have e2 : t' = t := e2;subst e2;have h9 : r a w := hr he e3 (by rw [show p = _ from e1]; exact zs4 h1 cs) hh;unfold ends at hadv;split at hadv
    ·rename_i st' he9; exact zfj he9 (W.ret rfl h9)
    ·rename_i he9; exact zfj he9 h9
    cases hadv
   cases h
  cases h

theorem zq8 : ∀ {l : List (Nat × BC)} {i : Nat}, zxi l i = true → enumB (l.map (·.2)) i = l
  |[],i,h=>rfl
  |x :: l, i, h => by
    simp only[zxi,oc] at h
    have e:=oo h.1
    simp only[List.map_cons,enumB,zq8 h.2]
    rw[←e]
theorem z1b {s : St} {g : List (Nat × Option Nat)} {t : LV × List (Nat × BC)} {p : List Prop} (h : fitR P fn s g t = some (p, t)) (hk : okR none g t = true) (hp : All p) (hF : Frs t.1) (hB : ∀ x ∈ t.2, FrsB x.2) : ∃ vcs, retL P fn s g t.1 (t.2.map (·.2)) = some vcs ∧ All vcs := by
 unfold fitR at h;split at h
 ·rename_i l q h1;split at h
  ·rename_i b x h2 h3;injection h with h;obtain ⟨e1, e2⟩ := Prod.mk.inj h;have e3 : x = t.1 := oe Prod.fst e2;have e4 : b = t.2 := oe Prod.snd e2;subst e1; subst e3;rw [e4] at h2;obtain ⟨p1, k1, k2⟩ := zno h2;obtain ⟨p2, k3, k4⟩ := zpc h3;simp only [okR, oc] at hk;obtain ⟨c1, c2, c3, c4⟩ := hk;refine ⟨q ++ (p1 ++ (p2 ++ (Frs t.1 :: (t.2.map (·.2)).map FrsB))), ?_, ?_⟩
   ·unfold retL;rw [h1];simp only [zq8 c2, List.length_map, k1, k3, c1, c3, c4, Bool.and_self, oE]
   refine All.append.2 ⟨hp,All.append.2 ⟨k2,All.append.2 ⟨k4,hF,?_⟩⟩⟩;revert hB;generalize t.2=l2;intro hB;induction l2 with
   |nil =>trivial
   |cons y l2 ih =>exact⟨hB y vdj,ih fun z hz=>hB z (List.mem_cons_of_mem _ hz)⟩
  cases h
 cases h
theorem zy3{n : Nat}{s : St}{g : List (Nat × Option Nat)}{t : LV × List (Nat × BC)}{p : List Prop}(h : fitR P fn s g t = some (p, t))(hk : okR (some n) g t = true)(hp : All p) : ∃vcs, retLM P fn n s g t.1 t.2 = some vcs ∧ All vcs := by
 unfold fitR at h;split at h
 ·rename_i l q h1;split at h
  ·rename_i b x h2 h3;injection h with h;obtain ⟨e1, e2⟩ := Prod.mk.inj h;have e3 : x = t.1 := oe Prod.fst e2;have e4 : b = t.2 := oe Prod.snd e2;subst e1; subst e3;rw [e4] at h2;obtain ⟨p1, k1, k2⟩ := zno h2;obtain ⟨p2, k3, k4⟩ := zpc h3;simp only [okR] at hk;refine ⟨q ++ (p1 ++ p2), ?_, All.append.2 ⟨hp, All.append.2 ⟨k2, k4⟩⟩⟩;unfold retLM;grind
  cases h
 cases h

abbrev FnT(P:Program)(f:FuncId)(args:List LV)(t:LV×List (Nat×BC)):Prop:=Fn P f args t.1 (t.2.map fun x=>x.2)
theorem Fn.go{f : FuncId}{fn : Func}{args : List LV}{t : LV × List (Nat × BC)}(N : Nat)(hf : P.funcs[f]? = some fn)(hb : (Nat.beq fn.ntmps N && (fn.body.isSome && Nat.ble args.length N)) = true)(hm : P.follows .mixedOrders = true)(hF : Frs t.1 ∧ ∀x ∈ t.2, FrsB x.2)(A : Ann)(hk : Lite.go P fn N none t false A [] (some (zic fn)) [] ⟨enumL args 0, [], []⟩ = Lite.go P fn N none t true A [] (some (zic fn)) [] ⟨enumL args 0, [], []⟩)(h : slim t A []) : FnT P f args t := by
 simp only[oc] at hb;refine Fn.intro N hf hb.2.1 (oo hb.1) hb.2.2 fun w0 a w hs=>?_;have h1:Lite.go P fn N none t false A [] (some (zic fn)) [] ⟨enumL args 0,[],[]⟩:=by rw[hk];exact zzq h
 have h2 := zxo (r := RetOk P fn w0 t.1 (t.2.map (·.2))) hm (fun h3 h4 h5 h6 => by
   obtain⟨vcs,k1,k2⟩:=z1b h3 h4 h5 hF.1 hF.2
   exact ret_ok h6 _ k1 k2) h1 hs
 assumption
abbrev FnMT(P:Program)(f:FuncId)(args:List LV)(bl:List BC)(t:LV×List (Nat×BC)):Prop:=FnM P f args bl t.1 t.2
theorem FnM.go{f : FuncId}{fn : Func}{args : List LV}{bl : List BC}{t : LV × List (Nat × BC)}(N : Nat)(hf : P.funcs[f]? = some fn)(hb : (Nat.beq fn.ntmps N && (fn.body.isSome && Nat.ble args.length N)) = true)(hm : P.follows .mixedOrders = true)(A : Ann)(hk : Lite.go P fn N (some bl.length) t false A [] (some (zic fn)) [] ⟨enumL args 0, enumB bl 900000, []⟩ = Lite.go P fn N (some bl.length) t true A [] (some (zic fn)) [] ⟨enumL args 0, enumB bl 900000, []⟩)(h : slim t A []) : FnMT P f args bl t := by
 simp only[oc] at hb;refine FnM.intro N hf hb.2.1 (oo hb.1) hb.2.2 fun w0 X0 a w hs=>?_;have h1:Lite.go P fn N (some bl.length) t false A [] (some (zic fn)) [] ⟨enumL args 0,enumB bl 900000,[]⟩:=by rw[hk];exact zzq h
 have h2 := zxo (r := zus P fn bl.length w0 X0 t.1 t.2) hm (fun h3 h4 h5 h6 => by
   obtain⟨vcs,k1,k2⟩:=zy3 h3 h4 h5
   exact z43 h6 _ k1 k2) h1 hs
 assumption
end

section
variable {t:LV×List (Nat×BC)} {S α:Type} {R:α}
theorem cd{b:Bool}{x y:α}{p q:Prop}(h1:b=true→x=R→p)(h2:b=false→y=R→q)(hR:(bif b then x else y)=R):(b=true→p)∧(b=false→q):=⟨fun h=>h1 h (ct hR h),fun h=>h2 h (cf hR h)⟩
theorem z2i{k : Prop}(hk : k) : ∀{ks : List (Nat × Cl)}, AllK ks True → AllK ks k
  |[],_=>hk
  |(_,_,⟨_,_,_⟩) :: _,h=>⟨h.1,z2i hk h.2⟩
theorem zwx{k : Prop}(hk : k){ks : List (Nat × Cl)} : ∀{ps : List Pf}, AllQ ps (AllK ks True) → AllQ ps (AllK ks k)
  |[],h=>z2i hk h
  |⟨_,_,_⟩ :: _,h=>⟨h.1,zwx hk h.2⟩
theorem rg{next:Ann}{K:List (Dl→Prop)}{n:Nat}{hs:List (Nat×Hint)}{ks:List (Nat×Cl)}{ts is:List Nat}{bs:List Bool}{ps:List Pf}{zs:List Pz}{cs:List Nat}(h:AllQ ps (AllK ks True))(h2:slim t next K):slim t (.reg n hs ks ts is bs ps zs cs next) K:=zwx h2 h
theorem rT{next:Ann}{K:List (Dl→Prop)}{n:Nat}{hs:List (Nat×Hint)}{ks:List (Nat×Cl)}{ts is:List Nat}{bs:List Bool}{ps:List Pf}{zs:List Pz}{cs:List Nat}(h2:slim t next K)(h:AllQ ps (AllK ks True):=by trivial):slim t (.reg n hs ks ts is bs ps zs cs next) K:=zwx h2 h
theorem og{next:Ann}{K:List (Dl→Prop)}{sl:Bool}{i n c:Nat}{row:Nat→List LV}{Q P:Prop}{hh:Q→P}{zs:List Pz}(h:Q)(h2:slim t next K):slim t (.co sl i n row [⟨Q,P,hh⟩] zs c next) K:=⟨h,h2⟩
theorem pg{next:Ann}{K:List (Dl→Prop)}{id d n c:Nat}{rows:Nat→NR}{Q P:Prop}{hh:Q→P}{zs:List Pz}(h:Q)(h2:slim t next K):slim t (.put id d n rows [⟨Q,P,hh⟩] zs c next) K:=⟨h,h2⟩
theorem ft{next:Ann}{K:List (Dl→Prop)}{ds db:List Nat}{g:List (Nat×Option Nat)}{t0:Dl}(h:slim t next K):slim t (.fits ds db g t0 next) K:=h
theorem lN{bm:Nat→S→(S→α)→α}{em:S→α}{n:Nat}{s0:S}{D:Nat→S→Dl}{ds db:List Nat}{g:List (Nat×Option Nat)}{t0:Dl}{body:Nat→S→Ann}{K:List (Dl→Prop)}(I:Nat→S→Prop)(h0:I 0 s0)(e:D 0 s0=t0)(hb:∀i v (F:Dl→Prop),i≤n→I i v→loopN bm em (n - i) i v=R→(∀v',i<n→I (i+1) v'→loopN bm em (n - (i+1)) (i+1) v'=R→F (D (i+1) v'))→slim t (body i v) (F :: K))(hR:loopN bm em n 0 s0=R):slim t (lp D ds db g t0 body) K:=by refine⟨fun m v=>m=n - v.1∧v.1≤n∧I v.1 v.2∧loopN bm em (n - v.1) v.1 v.2=R,⟨n,(0,s0),⟨rfl,Nat.zero_le _,h0,hR⟩,e⟩,fun m v hJ=>?_⟩;obtain⟨h1,h2,h3,h4⟩:=hJ;refine hb v.1 v.2 _ h2 h3 h4 fun v' q1 q2 q3=>⟨(v.1+1,v'),⟨n - (v.1+1),vdh,rfl,q1,q2,q3⟩,rfl⟩
theorem lW[Inhabited α]{bm : S → (S → α) → α}{fuel : Nat}{s0 : S}{D : S → Dl}{ds db : List Nat}{g : List (Nat × Option Nat)}{t0 : Dl}{body : S → Ann}{K : List (Dl → Prop)}(I : S → Prop)(μ : S → Nat)(h0 : I s0)(hμ : μ s0 < fuel)(e : D s0 = t0)(hb : ∀m v (F : Dl → Prop), I v → μ v ≤ m → bm v (loopW bm m) = R → (∀v', I v' → μ v' < m → loopW bm m v' = R → F (D v')) → slim t (body v) (F :: K))(hR : loopW bm fuel s0 = R) : slim t (.loop S D ds db g t0 body) K := by
 refine⟨fun m v=>I v∧μ v<m∧loopW bm m v=R,⟨fuel,s0,⟨h0,hμ,hR⟩,e⟩,fun m v hJ=>?_⟩;obtain⟨h1,h2,h3⟩:=hJ;cases m with
 |zero =>exact absurd h2 (oQ _)
 |succ m =>exact hb m v _ h1 (Nat.le_of_lt_succ h2) h3 fun v' q1 q2 q3=>⟨v',⟨m,oH m,q1,q2,q3⟩,rfl⟩
theorem jN{f:(S→α)→α}{k:S→α}{D:S→Dl}{kk:Nat}{ts is:List Nat}{first:Ann}{rest:S→Ann}{K:List (Dl→Prop)}(J:S→Prop)(h1:∀F:Dl→Prop,f k=R→(∀v,k v=R→J v→F (D v))→slim t first (F :: K))(h2:∀v,k v=R→J v→slim t (rest v) K)(hR:jn f k=R):slim t (.join kk S D ts is first rest) K:=⟨fun v=>k v=R∧J v,h1 _ hR fun v q1 q2=>⟨v,⟨q1,q2⟩,rfl⟩,fun v hv=>h2 v hv.1 hv.2⟩
end

section
variable {α:Type} [Inhabited α]
theorem zhw(f : α → List LV)(l : List α)(i : Nat)(x : α)(hi : i < l.length)(k : Nat) : rowOf f (l.set i x) k = bif Nat.beq k i then f x else rowOf f l k := by
 by_cases hk:k<l.length
 ·exact z41 f l i x hi k hk
 have hb : Nat.beq k i = false := by
  cases hb:Nat.beq k i with
  |true =>exact absurd (oo hb) vdh
  |false =>rfl
 simp only[rowOf];grind
theorem rE{n:Nat}{row:Nat→List LV}:zc5 n n row row:=⟨rfl,fun _ _=>rfl⟩
theorem rL{n m:Nat}{row:Nat→List LV}(h:n=m):zc5 n m row row:=⟨h,fun _ _=>rfl⟩
def ap1(id : Nat)(c : α → List LV)(b : Nat)(l : List α)(x : α) : Cl :=
  (.rowN id (l ++ [x]).length (rowOf c (l ++ [x])), ⟨(l.length + 1) * b ≤ 140737488355328, All [∀ k, k < l.length + 1 → rowOf c (l ++ [x]) k = bif Nat.blt k l.length then rowOf c l k else rowOf c [x] (k - l.length), (l.length + 1) * b ≤ 140737488355328] ∧
    zc5 (l.length+1) (l++[x]).length (rowOf c (l++[x])) (rowOf c (l++[x])),fun h=>⟨⟨zqm c l [x],h,trivial⟩,rL vdj⟩⟩)
def apC(id : Nat)(c : α → List LV)(b : Nat)(l m : List α) : Cl :=
  (.rowN id (l ++ m).length (rowOf c (l ++ m)), ⟨(l.length + m.length) * b ≤ 140737488355328, All [∀ k, k < l.length + m.length → rowOf c (l ++ m) k = bif Nat.blt k l.length then rowOf c l k else rowOf c m (k - l.length), (l.length + m.length) * b ≤ 140737488355328] ∧
    zc5 (l.length+m.length) (l++m).length (rowOf c (l++m)) (rowOf c (l++m)),fun h=>⟨⟨zqm c l m,h,trivial⟩,rL vdj⟩⟩)
def apN(id : Nat)(c : α → List LV)(b : Nat)(m : List α) : Cl :=
  (.rowN id m.length (rowOf c m),⟨m.length * b≤140737488355328,All [∀k,k<m.length→rowOf c m k=rowOf c m k,m.length * b≤140737488355328]∧zc5 m.length m.length (rowOf c m) (rowOf c m),fun h=>⟨⟨fun _ _=>rfl,h,trivial⟩,rE⟩⟩)
def bsC(id : Nat)(c : α → List LV)(l : List α) : Cl :=
  (.rowN id l.length (rowOf c l), ⟨True, All ((List.range l.length).map fun i => rowOf c l i = rowOf c l i) ∧ zc5 l.length l.length (rowOf c l) (rowOf c l), fun _ => ⟨by
    generalize List.range l.length=r
    induction r with
    |nil=>trivial
    |cons x r ih=>exact⟨rfl,ih⟩,rE⟩⟩)
def stC(id : Nat)(c : α → List LV)(n : Nat)(l : List α)(i : Nat)(x : α) : Cl :=
  (.rowN id n (rowOf c (l.set i x)),⟨i<l.length,All [∀k,k<n→rowOf c (l.set i x) k=bif Nat.beq k i then c x else rowOf c l k]∧zc5 n n (rowOf c (l.set i x)) (rowOf c (l.set i x)),fun h=>⟨⟨fun k _=>zhw c l i x h k,trivial⟩,rE⟩⟩)
def stL(id : Nat)(c : α → List LV)(l : List α)(i : Nat)(x : α) : Cl :=
  (.rowN id (l.set i x).length (rowOf c (l.set i x)),⟨i<l.length,All [∀k,k<l.length→rowOf c (l.set i x) k=bif Nat.beq k i then c x else rowOf c l k]∧zc5 l.length (l.set i x).length (rowOf c (l.set i x)) (rowOf c (l.set i x)),fun h=>⟨⟨fun k _=>zhw c l i x h k,trivial⟩,rL vdj⟩⟩)
def stP(id : Nat)(c : α → List LV)(n : Nat)(l m : List α)(i off : Nat)(xs : List LV)(x y : α)(e : m = l.set i y ∨ m = l ∧ y = l.getD i default)(h : c x = zd5 (c y) off xs) : Cl :=
  (.rowN id n (rowOf c (l.set i x)), ⟨i < l.length, All [∀ k, k < n → rowOf c (l.set i x) k = bif Nat.beq k i then zd5 (rowOf c m k) off xs else rowOf c m k] ∧ zc5 n n (rowOf c (l.set i x)) (rowOf c (l.set i x)), fun hi => ⟨⟨fun k _ => by
    rw[zhw c l i x hi]
    cases hb:Nat.beq k i with
    |true =>
      have ek:=oo hb
      subst ek
      simp only[oE,h]
      rcases e with e | ⟨e,e2⟩
      · rw [e,zhw c l k y hi,hb];rfl
      · rw [e,e2];rfl
    |false =>
      simp only[oD]
      rcases e with e | ⟨e,e2⟩
      · rw [e,zhw c l i y hi,hb];rfl
      · rw [e],trivial⟩,rE⟩⟩)
def msC(id : Nat)(c : α → List LV)(b : Nat)(N M : Int)(n : Nat)(x : α)(e : N.toNat = n) : Cl :=
  (.rowN id n (rowOf c (List.replicate n x)), ⟨0 ≤ N ∧ N ≤ M ∧ (b : Int) * M ≤ 281474976710656 ∧ M ≤ 9223372036854775807, All [0 ≤ N ∧ N ≤ M ∧ (b : Int) * M ≤ 281474976710656 ∧ M ≤ 9223372036854775807] ∧ zc5 N.toNat n (fun _ => c x) (rowOf c (List.replicate n x)),
    fun h=>⟨⟨h,trivial⟩,e,fun k hk=>(zkq c n x k vdh).symm⟩⟩)
def slC(id : Nat)(c : α → List LV)(n : Nat)(L H : Int)(a m : Nat)(l : List α)(e : L.toNat = a)(e2 : H.toNat - L.toNat = m) : Cl :=
  (.rowN id ((l.drop a).take m).length (rowOf c ((l.drop a).take m)), ⟨n = l.length ∧ 0 ≤ L ∧ L ≤ H ∧ H ≤ (n : Int), All [0 ≤ L ∧ L ≤ H ∧ H ≤ (n : Int)] ∧ zc5 (H.toNat - L.toNat) ((l.drop a).take m).length (fun k => rowOf c l (L.toNat + k)) (rowOf c ((l.drop a).take m)),
    fun h=>⟨⟨h.2,trivial⟩,by simp only[List.length_take,List.length_drop];omega,fun k hk=>by rw[e];exact zz0 c l a m k vdh⟩⟩)
def lnP(row:Nat→List LV)(n m:Nat):Pf:=⟨n=m,zc5 n m row row,rL⟩
end
def nz : LV → LV
  |.ro fr sz n row=>bif Nat.beq n 0 then .nilS else .ro fr sz n row
  |v=>v
def nzA(j : Nat) : LV → LV
  |.agg l=>.agg (l.modify j nz)
  |v=>nz v
theorem RepC.nz{w : World}{B : Nat}{lv : LV}{v : Value}(h : RepC w B (fun _ => False) (nz lv) v) : RepC w B (fun _ => False) lv v := by
 cases lv with
 |ro fr sz n row =>
  simp only[Lite.nz] at h;cases hb:Nat.beq n 0 with
  |true =>have e:=oo hb;subst e;cases h;exact .ro fr sz 0 row none ⟨0,0,none⟩ 0 (fun _ _=>undef) (oz _) (fun h=>absurd h vdh) (fun h=>absurd h vdh) (fun h=>absurd h vdh) (fun h=>absurd h vdh) (fun i hi=>absurd hi vdh) (fun i hi=>absurd hi vdh) (fun i j hi=>absurd hi vdh) fun i j lv hi=>absurd hi vdh
  |false =>rw[hb] at h;exact h
 |_ =>exact h
theorem RepC.nzA{w : World}{B : Nat}{lv : LV}{v : Value}(j : Nat)(h : RepC w B (fun _ => False) (nzA j lv) v) : RepC w B (fun _ => False) lv v := by
 cases lv with
 |agg l =>
  cases h with
  |agg _ vs hl h =>
   refine .agg l vs vcX fun i lv u h1 h2=>?_;have:=h i (if j=i then Lite.nz lv else lv) u (by rw[List.getElem?_modify,h1];split<;>simp_all) h2;split at this
   ·exact this.nz
   grind
 |_ =>exact RepC.nz h
theorem FnT.nz{P : Program}{f : FuncId}{args : List LV}{t : LV × List (Nat × BC)}(h : FnT P f args t)(i j : Nat) : FnT P f (args.modify i (nzA j)) t := by
 intro w vals hgh hl hr;refine h w vals hgh vcX fun k lv v h1 h2 B=>?_;have:=hr k (if i=k then Lite.nzA j lv else lv) v (by rw[List.getElem?_modify,h1];split<;>simp_all) h2 B;split at this
 ·exact this.nzA j
 grind
section
variable {α:Type}
def nrOf[Inhabited α](c:α→List LV)(v:List (List α)):Nat→NR:=fun k=>.row (v.getD k []).length (rowOf c (v.getD k []))
def nrTk[Inhabited α](c:α→List LV)(v:List (List α))(i d:Nat):Nat→NR:=fun k=>bif Nat.beq k i then .out d else nrOf c v k
variable [Inhabited α] {c:α→List LV} {v:List (List α)} {l:List α} {i d k:Nat}
theorem z5b(id:Nat):nrOf c v k≠.out id:=fun h=>by cases h
theorem z0e(h : k ≠ i) : nrTk c v i d k = nrOf c v k := by
 unfold nrTk;cases hb:Nat.beq k i with
 |true =>exact absurd (oo hb) h
 |false =>rfl
theorem z0f:nrTk c v i d i=.out d:=by unfold nrTk;rw[Nat.beq_refl];rfl
theorem z22(h:i<v.length):nrOf c (v.set i l) i=.row l.length (rowOf c l):=by have:(v.set i l).getD i []=l:=vdi;unfold nrOf;rw[this]
theorem zvk(h:k≠i):nrOf c (v.set i l) k=nrOf c v k:=by have:(v.set i l).getD k []=v.getD k []:=vdi;unfold nrOf;rw[this]
theorem z0g(h:k<v.length):nrOf c (v++[l]) k=nrOf c v k:=by have:(v++[l]).getD k []=v.getD k []:=vdi;unfold nrOf;rw[this]
theorem z0h:nrOf c (v++[l]) v.length=.row l.length (rowOf c l):=by have:(v++[l]).getD v.length []=l:=vdi;unfold nrOf;rw[this]
variable (c v l i d)
def nTk:Cl:=(.take false (v.getD i []).length (rowOf c (v.getD i [])) (nrTk c v i d),⟨True,nrOf c v i=.row (v.getD i []).length (rowOf c (v.getD i []))∧nrTk c v i d i=(bif false then .gone else .out d)∧∀k,k<v.length→k≠i→nrTk c v i d k=nrOf c v k,fun _=>⟨rfl,z0f,fun _ _ h=>z0e h⟩⟩)
def nB1:Cl:=(.nst true [l].length (nrOf c [l]),⟨True,1=[l].length∧nrOf c [l] 0=.row l.length (rowOf c l),fun _=>⟨rfl,rfl⟩⟩)
def nA1(b : Nat) : Cl := (.nst true (v ++ [l]).length (nrOf c (v ++ [l])), ⟨(v.length + 1) * b ≤ 140737488355328, (v.length + 1 = (v ++ [l]).length ∧ (∀k, k < v.length → nrOf c (v ++ [l]) k = nrOf c v k) ∧ nrOf c (v ++ [l]) v.length = nrOf c [l] 0) ∧ (v.length + 1) * b ≤ 140737488355328,
  fun h=>⟨⟨vdj,fun _ hk=>z0g hk,z0h⟩,h⟩⟩)
def nB0(sz:Nat):Cl:=(.nstM sz ([]:List (List α)).length (nrOf c ([]:List (List α))),⟨True,([]:List (List α)).length=0,fun _=>rfl⟩)
def nPb : Pf := ⟨i < v.length, putP 1 d l.length (rowOf c l) v.length (v.set i l).length (nrTk c v i d) (nrOf c (v.set i l)),
  fun h=>⟨vdj,i,h,z0f,z22 h,fun k _ hk=>by rw[zvk hk,z0e hk],fun _ _ _=>z5b _⟩⟩
end
section
variable {α:Type} [Inhabited α]
def nwOf(wd:Nat)(c:α→List NR)(v:List α):Nat→NR:=fun k=>(c (v.getD (k / wd) default)).getD (k % wd) .gone
variable {wd:Nat} {c:α→List NR} {v:List α} {x:α} {i off d k:Nat} {r:NR}
theorem zos(h:off<wd):nwOf wd c v (i * wd+off)=(c (v.getD i default)).getD off .gone:=by unfold nwOf;rw[Nat.mul_comm i wd,Nat.mul_add_div vdh,Nat.mul_add_mod,Nat.div_eq_of_lt h,Nat.mod_eq_of_lt h,Nat.add_zero]
def nwGn(wd:Nat)(c:α→List NR)(v:List α)(i off:Nat):Nat→NR:=fun k=>bif Nat.beq k (i * wd+off) then .gone else nwOf wd c v k
theorem z5a:nwGn wd c v i off (i * wd+off)=.gone:=by unfold nwGn;rw[Nat.beq_refl];rfl
theorem z49(h : k ≠ i * wd + off) : nwGn wd c v i off k = nwOf wd c v k := by
 unfold nwGn;cases hb:Nat.beq k (i * wd+off) with
 |true =>exact absurd (oo hb) h
 |false =>rfl
theorem z0b(hw:1≤wd)(h:k<cN wd v.length):nwOf wd c (v++[x]) k=nwOf wd c v k:=by rw[cN_eq] at h;have h1:k / wd<v.length:=(Nat.div_lt_iff_lt_mul hw).2 h;have:(v++[x]).getD (k / wd) default=v.getD (k / wd) default:=vdi;unfold nwOf;rw[this]
theorem z0c(h:off<wd):nwOf wd c (v++[x]) (v.length * wd+off)=nwOf wd c [x] off:=by rw[zos h];have e:=zos (c:=c) (v:=[x]) (i:=0) h;grind
theorem frsN_r{m:Nat}{r:Nat→List LV}:FrsN (.row m r)=∀k,k<m→FrsL (r k):=rfl
theorem frsN_c{v:LV}:FrsN (.cell v)=Frs v:=rfl
def FrsNL : List NR → Prop
  |[]=>True
  |r :: l=>FrsN r∧FrsNL l
theorem zuc : ∀{l : List NR}, FrsNL l → ∀r ∈ l, FrsN r
  |[],_,r,h=>by cases h
  |x :: l, h, r, hr => by
    rcases oS.1 hr with e | hr
    · rw [e];exact h.1
    · exact zuc h.2 r hr
theorem frs_nw(h : ∀x, FrsNL (c x))(k : Nat) : FrsN (nwOf wd c v k) := by
 unfold nwOf;rw[oi];cases hg:(c (v.getD (k / wd) default))[k % wd]? with
 |none =>trivial
 |some y =>exact zuc (h _) y (oY hg)
variable (wd c v)
variable (f:α→α) (x:α) (i off d:Nat)
def wEl(pre : List LV)(m : Nat)(row : Nat → List LV)(ho : pre.length < wd)(hx : c (v.getD i default) = pre.map .cell ++ [.row m row]) : Cl := (.elt pre m row (nwGn wd c v i pre.length), ⟨True, (nwOf wd c v (i * wd + pre.length) = .row m row ∧ nwGn wd c v i pre.length (i * wd + pre.length) = .gone ∧ ∀k, k < cN wd v.length → k ≠ i * wd + pre.length → nwGn wd c v i pre.length k = nwOf wd c v k) ∧ ∀j, j < pre.length → nwOf wd c v (i * wd + j) = .cell (pre.getD j .any),
  fun _=>⟨⟨by rw[zos ho,hx];simp,z5a,fun _ _ h=>z49 h⟩,fun j hj=>by rw[zos (Nat.lt_trans hj ho),hx];simp[oi,o5,hj]⟩⟩)
def wB0(sz:Nat):Cl:=(.nstM sz ([]:List α).length (nwOf wd c ([]:List α)),⟨True,([]:List α).length=0,fun _=>rfl⟩)
def wB1 : Cl := (.nst true [x].length (nwOf wd c [x]), ⟨True, 1 = [x].length ∧ ∀j, j < wd → nwOf wd c [x] j = (c x).getD j .gone, fun _ => ⟨rfl, fun j hj => by
  have e:=zos (c:=c) (v:=[x]) (i:=0) hj
  rw[Nat.zero_mul,Nat.zero_add] at e
  exact e⟩⟩)
def wA1(b : Nat)(hw : 1 ≤ wd) : Cl := (.nst true (v ++ [x]).length (nwOf wd c (v ++ [x])), ⟨(v.length + 1) * b ≤ 140737488355328, (v.length + 1 = (v ++ [x]).length ∧ (∀k, k < cN wd v.length → nwOf wd c (v ++ [x]) k = nwOf wd c v k) ∧ ∀j, j < wd → nwOf wd c (v ++ [x]) (v.length * wd + j) = nwOf wd c [x] j) ∧ (v.length + 1) * b ≤ 140737488355328,
  fun h=>⟨⟨vdj,fun _ hk=>z0b hw hk,fun _ hj=>z0c hj⟩,h⟩⟩)
end
end Go.Lite
