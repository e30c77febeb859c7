/- Loops as plain functions: what is left to do, as a value. Conditions: none. -/
import Derived.Test.YtnibbmmljamolaaGreatLiteL
set_option linter.unusedVariables false
set_option linter.unusedSimpArgs false
namespace Go.Lite
open Go Go.RowKit

def loopN{S α : Type}(body : Nat → S → (S → α) → α)(k : S → α) : Nat → Nat → S → α
  |0,_,s=>k s
  |m+1,i,s=>body i s fun s'=>loopN body k m (i+1) s'

theorem ct{α:Type}{c:Bool}{x y R:α}(h:(bif c then x else y)=R)(hc:c=true):x=R:=by subst hc;exact h
theorem cf{α:Type}{c:Bool}{x y R:α}(h:(bif c then x else y)=R)(hc:c=false):y=R:=by subst hc;exact h

section
variable {S α:Type} {body:Nat→S→(S→α)→α} {k:S→α} {R:α} {s:S} {i n:Nat}
theorem zai(h:loopN body k (n - i) i s=R)(hi:i<n):body i s (fun s'=>loopN body k (n - (i+1)) (i+1) s')=R:=by have e:n - i=(n - (i+1))+1:=vdh;rw[e] at h;exact h
theorem zaq(h:loopN body k (n - i) i s=R)(hi:¬i<n):k s=R:=by have e:n - i=0:=vdh;rw[e] at h;exact h
variable {P:Program} {c:Code} {n' r:AP} {xs:List (Nat×AP)} {a:Act} {w:World} {N:Nat} {w0:World} {X0:Fr}
end

def loopW{S α : Type}[Inhabited α](body : S → (S → α) → α) : Nat → S → α
  |0,_=>default
  |m+1,s=>body s (loopW body m)
def jn{S α:Type}(f:(S→α)→α)(k:S→α):α:=f k

section
variable {S α:Type} [Inhabited α] {body:S→(S→α)→α} {R:α}
variable {P:Program} {c:Code} {n' r:AP} {xs:List (Nat×AP)} {a:Act} {w:World} {N:Nat} {w0:World} {X0:Fr}
end
theorem W.join{S α:Type}{f:(S→α)→α}{k:S→α}{R:α}{P:Program}{c:Code}{n r:AP}{xs:List (Nat×AP)}{a:Act}{w:World}{N:Nat}{w0:World}{X0:Fr}(hR:jn f k=R)(hc:isSeq c=true)(st:S→St)(J:S→Prop)(h1:f k=R→W P (c1 c) (fun a w=>∃v,k v=R∧J v∧H N w0 X0 (st v) a w) r xs a w)(h2:∀v a w,k v=R→J v→H N w0 X0 (st v) a w→W P (c2 c) n r xs a w):W P c n r xs a w:=W.seqM hc _ (h1 hR) fun a w ⟨v,q1,q2,q3⟩=>h2 v a w q1 q2 q3

theorem zlc{S α : Type}{body : Nat → S → (S → α) → α}{k : S → α}(Inv : Nat → S → Prop)(Q : α → Prop)(n : Nat)(hb : ∀i s next, i < n → Inv i s → (∀s', Inv (i + 1) s' → Q (next s')) → Q (body i s next))(hk : ∀s, Inv n s → Q (k s)) :
    ∀m i s,i+m=n→Inv i s→Q (loopN body k m i s)
  |0,i,s,he,h=>hk s (by rw[←he];exact h)
  |m+1,i,s,he,h=>hb i s _ vdh h fun s' h'=>zlc Inv Q n hb hk m (i+1) s' vdh h'
theorem za3{S α:Type}{body:Nat→S→(S→α)→α}{k:S→α}{n:Nat}{s:S}(Inv:Nat→S→Prop)(Q:α→Prop)(h0:Inv 0 s)(hb:∀i s next,i<n→Inv i s→(∀s',Inv (i+1) s'→Q (next s'))→Q (body i s next))(hk:∀s,Inv n s→Q (k s)):Q (loopN body k n 0 s):=zlc Inv Q n hb hk n 0 s vdh h0
theorem ztv{S T α β : Type}{b1 : Nat → S → (S → α) → α}{k1 : S → α}{b2 : Nat → T → (T → β) → β}{k2 : T → β}(Rel : Nat → S → T → Prop)(Q : α → β → Prop)(n : Nat)
    (hb:∀i s t n1 n2,i<n→Rel i s t→(∀s' t',Rel (i+1) s' t'→Q (n1 s') (n2 t'))→Q (b1 i s n1) (b2 i t n2)) (hk:∀s t,Rel n s t→Q (k1 s) (k2 t)):∀m i s t,i+m=n→Rel i s t→Q (loopN b1 k1 m i s) (loopN b2 k2 m i t)
  |0,i,s,t,he,h=>hk s t (by rw[←he];exact h)
  |m+1,i,s,t,he,h=>hb i s t _ _ vdh h fun s' t' h'=>ztv Rel Q n hb hk m (i+1) s' t' vdh h'
theorem zma{S T α β:Type}{b1:Nat→S→(S→α)→α}{k1:S→α}{b2:Nat→T→(T→β)→β}{k2:T→β}{n:Nat}{s:S}{t:T}(Rel:Nat→S→T→Prop)(Q:α→β→Prop)(h0:Rel 0 s t)(hb:∀i s t n1 n2,i<n→Rel i s t→(∀s' t',Rel (i+1) s' t'→Q (n1 s') (n2 t'))→Q (b1 i s n1) (b2 i t n2))(hk:∀s t,Rel n s t→Q (k1 s) (k2 t)):Q (loopN b1 k1 n 0 s) (loopN b2 k2 n 0 t):=ztv Rel Q n hb hk n 0 s t vdh h0
theorem za8{S α : Type}[Inhabited α]{body : S → (S → α) → α}(Inv : S → Prop)(μ : S → Nat)(Q : α → Prop)(hb : ∀s next, Inv s → (∀s', Inv s' → μ s' < μ s → Q (next s')) → Q (body s next)) : ∀m s, μ s < m → Inv s → Q (loopW body m s)
  |0,s,hm,_=>absurd hm (oQ _)
  |m+1,s,hm,h=>hb s _ h fun s' h' hlt=>za8 Inv μ Q hb m s' vdh h'
theorem zdq{c x:Bool}:(bif c then false else x)=true↔c=false∧x=true:=by cases c<;>simp
theorem zrb{c x:Bool}:(bif c then true else x)=true↔c=true∨x=true:=by cases c<;>simp
theorem zar{a b:Bool}:(a||b)=false↔a=false∧b=false:=by cases a<;>simp
theorem zi5{a b:Bool}:(a&&b)=false↔a=true→b=false:=by cases a<;>simp
theorem zan{a:Bool}:(!a)=false↔a=true:=by cases a<;>simp
theorem not_t_iff{a:Bool}:(!a)=true↔a=false:=by cases a<;>simp
theorem zjx(p : Nat → Bool)(k : Unit → Bool) : ∀m i, loopN (fun i (_ : Unit) next => bif p i then false else next ()) k m i () = true ↔ (∀j, i ≤ j → j < i + m → p j = false) ∧ k () = true
  |0,i=>by simp only[loopN];exact⟨fun h=>⟨fun j h1 h2=>by omega,h⟩,fun h=>h.2⟩
  |m + 1, i => by
    simp only[loopN]
    cases hp:p i with
    |true =>
      grind
    |false =>
      simp only[oD]
      rw[zjx p k m (i+1)]
      grind
theorem zdb(p:Nat→Bool)(k:Unit→Bool)(n:Nat):loopN (fun i (_:Unit) next=>bif p i then false else next ()) k n 0 ()=true↔(∀j,j<n→p j=false)∧k ()=true:=by rw[zjx];grind
theorem zq0{S α : Type}(g : Nat → S → S)(k : S → α) : ∀m i s, loopN (fun i s next => next (g i s)) k m i s = k ((List.range' i m).foldl (fun s i => g i s) s)
  |0,i,s=>rfl
  |m+1,i,s=>by simp only[List.range'_succ];exact zq0 g k m (i+1) (g i s)

theorem zbd : ∀{l m : List LV}, FrsL (l ++ m) ↔ FrsL l ∧ FrsL m
  |[],m=>by simp[FrsL]
  |v :: l,m=>by simp[FrsL,zbd,and_assoc]

section
variable {α:Type} [Inhabited α] (f:α→List LV)
theorem zqm(l m : List α) : ∀k, k < l.length + m.length → rowOf f (l ++ m) k = bif Nat.blt k l.length then rowOf f l k else rowOf f m (k - l.length) := by
 intro k hk;cases hb:Nat.blt k l.length with
 |true =>have:=zrh hb;simp only[rowOf,oE,oi,o5 this]
 |false =>
  have : l.length ≤ k := by
   rcases o0 k l.length with h | h
   ·have h2 : Nat.blt k l.length = true := o3 h;grind
   exact h
  simp only[rowOf,oD,oi,o6 this]
theorem z41(l : List α)(i : Nat)(x : α)(hi : i < l.length) : ∀k, k < l.length → rowOf f (l.set i x) k = bif Nat.beq k i then f x else rowOf f l k := by
 intro k hk;cases hb:Nat.beq k i with
 |true =>have:=oo hb;subst this;simp[rowOf,hk]
 |false =>have hne:i≠k:=fun e=>(by subst e;rw[Nat.beq_refl] at hb;cases hb);simp[rowOf,List.getElem?_set_ne hne]
theorem zkq(n:Nat)(x:α):∀k,k<n→rowOf f (List.replicate n x) k=f x:=by intro k hk;simp[rowOf,hk]
end

theorem zbc{α:Type}(l:List α)(i k:Nat)(x d:α):(l.set i x).getD k d=if k=i∧i<l.length then x else l.getD k d:=vdi
theorem zeb{α:Type}(l:List α)(k:Nat)(x d:α):(l++[x]).getD k d=if k<l.length then l.getD k d else if k=l.length then x else d:=vdi
theorem zd2{α:Type}(n k:Nat)(x d:α):(List.replicate n x).getD k d=if k<n then x else d:=by simp only[oi,List.getElem?_replicate];split<;>rfl
theorem zjb{α:Type}(n:Nat)(x:α):List.replicate n x++[x]=List.replicate (n+1) x:=(List.replicate_succ' ..).symm

structure Rg(l : List Int)(n : Nat)(f : Nat → Int → Prop) : Prop where
  len:l.length=n
  get:∀k,k<n→f k (l.getD k default)
theorem Rg.set{l : List Int}{n i : Nat}{f : Nat → Int → Prop}{x : Int}(h : Rg l n f)(hx : i < n → f i x) : Rg (l.set i x) n f :=
  ⟨by rw [Ob]; exact h.len, fun k hk => by
    rw[zbc]
    split
    · grind
    · exact h.get k hk⟩
theorem Rg.snoc{l : List Int}{n : Nat}{f : Nat → Int → Prop}{x : Int}(h : Rg l n f)(hx : f n x) : Rg (l ++ [x]) (n + 1) f :=
  ⟨by simp [h.len], fun k hk => by
    rw[zeb,h.len]
    split
    · exact h.get k vc9
    · rw [if_pos vdh];rw [show k=n by omega];exact hx⟩
theorem Rg.nil{f:Nat→Int→Prop}:Rg [] 0 f:=⟨rfl,fun k hk=>absurd hk (oQ _)⟩
theorem Rg.rep{n:Nat}{a:Int}{f:Nat→Int→Prop}(h:∀k,k<n→f k a):Rg (List.replicate n a) n f:=⟨vdj,fun k hk=>by rw[zd2,if_pos hk];exact h k hk⟩
theorem Rg.mono{l:List Int}{n:Nat}{f g:Nat→Int→Prop}(h:Rg l n f)(hg:∀k x,k<n→f k x→g k x):Rg l n g:=⟨h.len,fun k hk=>hg k _ hk (h.get k hk)⟩

theorem zn8{α : Type}{p : α → Prop}{a b d : α}{i : Nat}(ha : p a)(hb : p b)(hi : i < 2) : p ([a, b].getD i d) := by
 match i,hi with
 |0,_ =>exact ha
 |1,_ =>exact hb
theorem z3c{p : Nat → Prop}{i : Nat}(h : ∀k, k < i → p k)(hi : p i) : ∀k, k < i + 1 → p k := fun k hk => by
  by_cases e:k=i
  · rw [e];exact hi
  · exact h k vdh

theorem zaj{α : Type}{p : α → Prop}{c : Bool}{x y : α}(h1 : c = true → p x)(h2 : c = false → p y) : p (bif c then x else y) := by
 cases c with
 |true =>exact h1 rfl
 |false =>exact h2 rfl

theorem zz0{α:Type}[Inhabited α](f:α→List LV)(l:List α)(a n:Nat):∀k,k<n→rowOf f l (a+k)=rowOf f ((l.drop a).take n) k:=by intro k hk;simp only[rowOf,oi,List.getElem?_take,hk,if_true,List.getElem?_drop]

end Go.Lite
