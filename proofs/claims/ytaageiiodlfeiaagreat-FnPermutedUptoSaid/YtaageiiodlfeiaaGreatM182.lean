import Derived.Test.YtaageiiodlfeiaaGreatVS50
set_option maxHeartbeats 4000000
set_option linter.unusedSimpArgs false
set_option linter.unusedVariables false
namespace Go.Proofs.YtaageiiodlfeiaaGreat
open Go Go.Lite Go.Proofs
def cuR {α:Type} (b:List Int) (r:α×Int×Int):l01Cur:=⟨b,r.2.1,r.2.2⟩
theorem cuI {c:l01Cur} (h:CurOk c) {l:List Int} (hl:0<l.length∧l.length≤256):CurOk (cuR c.b (zbb c l)):=(zcl h hl).2
theorem cuI2 {c:l01Cur} {b:List Int} (h:CurOk c) {l:List Int} (hl:0<l.length∧l.length≤256) (hb:c.b=b):CurOk (cuR b (zbb c l)):=by subst hb;exact cuI h hl
theorem cuO {c:l01Cur} (h:CurOk c) {n:Int} (hn:n≤256):CurOk (cuR c.b (zbo c n)):=zcy h hn
theorem cuO2 {c:l01Cur} {b:List Int} (h:CurOk c) {n:Int} (hn:n≤256) (hb:c.b=b):CurOk (cuR b (zbo c n)):=by subst hb;exact cuO h hn

def C40 (x0:l01Cur) (R:Law×Int×Int):LV×List (Nat×BC):=(.agg [.int .i64 R.1.degree,.int .i64 R.1.canon,.int .i64 R.1.affinity,.int .i64 R.1.age,.int .i64 R.1.wives,.int .i64 R.1.husbands,.bool R.1.patriline,.bool R.1.matriline],[(900000,.var [.ro false 1 x0.b.length (rowOf (cInt .u8) x0.b),.int .i64 R.2.1,.int .i64 R.2.2])])
def l9Law (x0:l01Cur):Law×Int×Int:=jn (fun K1=>K1 ((zbb x0 [0,0,2,3,4,8,20]).1,(zbb (cuR x0.b (zbb x0 [0,0,2,3,4,8,20])) [0,0,1,2,4,10]).1,(zbb (cuR x0.b (zbb (cuR x0.b (zbb x0 [0,0,2,3,4,8,20])) [0,0,1,2,4,10])) [0,0,1,2,4,20]).1,(zbb (cuR x0.b (zbb (cuR x0.b (zbb (cuR x0.b (zbb x0 [0,0,2,3,4,8,20])) [0,0,1,2,4,10])) [0,0,1,2,4,20])) [0,0,1,16,99]).1,(zbb (cuR x0.b (zbb (cuR x0.b (zbb (cuR x0.b (zbb (cuR x0.b (zbb x0 [0,0,2,3,4,8,20])) [0,0,1,2,4,10])) [0,0,1,2,4,20])) [0,0,1,16,99])) [1,1,2,9]).1,(zbb (cuR x0.b (zbb (cuR x0.b (zbb (cuR x0.b (zbb (cuR x0.b (zbb (cuR x0.b (zbb x0 [0,0,2,3,4,8,20])) [0,0,1,2,4,10])) [0,0,1,2,4,20])) [0,0,1,16,99])) [1,1,2,9])) [1,1,2,9]).1,(zbo (cuR x0.b (zbb (cuR x0.b (zbb (cuR x0.b (zbb (cuR x0.b (zbb (cuR x0.b (zbb (cuR x0.b (zbb x0 [0,0,2,3,4,8,20])) [0,0,1,2,4,10])) [0,0,1,2,4,20])) [0,0,1,16,99])) [1,1,2,9])) [1,1,2,9])) 4).1,(zbo (cuR x0.b (zbo (cuR x0.b (zbb (cuR x0.b (zbb (cuR x0.b (zbb (cuR x0.b (zbb (cuR x0.b (zbb (cuR x0.b (zbb x0 [0,0,2,3,4,8,20])) [0,0,1,2,4,10])) [0,0,1,2,4,20])) [0,0,1,16,99])) [1,1,2,9])) [1,1,2,9])) 4)) 4).1,(zbo (cuR x0.b (zbo (cuR x0.b (zbb (cuR x0.b (zbb (cuR x0.b (zbb (cuR x0.b (zbb (cuR x0.b (zbb (cuR x0.b (zbb x0 [0,0,2,3,4,8,20])) [0,0,1,2,4,10])) [0,0,1,2,4,20])) [0,0,1,16,99])) [1,1,2,9])) [1,1,2,9])) 4)) 4).2.1,(zbo (cuR x0.b (zbo (cuR x0.b (zbb (cuR x0.b (zbb (cuR x0.b (zbb (cuR x0.b (zbb (cuR x0.b (zbb (cuR x0.b (zbb x0 [0,0,2,3,4,8,20])) [0,0,1,2,4,10])) [0,0,1,2,4,20])) [0,0,1,16,99])) [1,1,2,9])) [1,1,2,9])) 4)) 4).2.2)) (fun (j1:Int×Int×Int×Int×Int×Int×Bool×Bool×Int×Int)=>((Law.mk j1.1 j1.2.1 j1.2.2.1 j1.2.2.2.1 j1.2.2.2.2.1 j1.2.2.2.2.2.1 j1.2.2.2.2.2.2.1 j1.2.2.2.2.2.2.2.1),j1.2.2.2.2.2.2.2.2.1,j1.2.2.2.2.2.2.2.2.2))
def D40j1 (x0:l01Cur) (j1:Int×Int×Int×Int×Int×Int×Bool×Bool×Int×Int):Dl:=⟨[],[(2,.var [.int .i64 j1.1,.int .i64 j1.2.1,.int .i64 j1.2.2.1,.int .i64 j1.2.2.2.1,.int .i64 j1.2.2.2.2.1,.int .i64 j1.2.2.2.2.2.1,.bool j1.2.2.2.2.2.2.1,.bool j1.2.2.2.2.2.2.2.1]),(900000,.var [.ro false 1 x0.b.length (rowOf (cInt .u8) x0.b),.int .i64 j1.2.2.2.2.2.2.2.2.1,.int .i64 j1.2.2.2.2.2.2.2.2.2])]⟩
def A40j1 (x0:l01Cur) (j1:Int×Int×Int×Int×Int×Int×Bool×Bool×Int×Int):Ann:=rt [(900000,some 900000)] (C40 x0 ((Law.mk j1.1 j1.2.1 j1.2.2.1 j1.2.2.2.1 j1.2.2.2.2.1 j1.2.2.2.2.2.1 j1.2.2.2.2.2.2.1 j1.2.2.2.2.2.2.2.1),j1.2.2.2.2.2.2.2.2.1,j1.2.2.2.2.2.2.2.2.2))
def A40 (x0:l01Cur):Ann:=r0 1 [0,2] [2,900000] (.join 0 (Int×Int×Int×Int×Int×Int×Bool×Bool×Int×Int) (D40j1 x0) [2] [2,900000] (.reg 1 [] [(1,bsC 4 (cInt .i64) ([0,0,2,3,4,8,20]:List Int)),(2,k84 5 [900000,4] x0 [0,0,2,3,4,8,20]),(4,bsC 7 (cInt .i64) ([0,0,1,2,4,10]:List Int)),(5,k84 8 [900000,7] (cuR x0.b (zbb x0 [0,0,2,3,4,8,20])) [0,0,1,2,4,10]),(7,bsC 10 (cInt .i64) ([0,0,1,2,4,20]:List Int)),(8,k84 11 [900000,10] (cuR x0.b (zbb (cuR x0.b (zbb x0 [0,0,2,3,4,8,20])) [0,0,1,2,4,10])) [0,0,1,2,4,20]),(10,bsC 13 (cInt .i64) ([0,0,1,16,99]:List Int)),(11,k84 14 [900000,13] (cuR x0.b (zbb (cuR x0.b (zbb (cuR x0.b (zbb x0 [0,0,2,3,4,8,20])) [0,0,1,2,4,10])) [0,0,1,2,4,20])) [0,0,1,16,99]),(13,bsC 16 (cInt .i64) ([1,1,2,9]:List Int)),(14,k84 17 [900000,16] (cuR x0.b (zbb (cuR x0.b (zbb (cuR x0.b (zbb (cuR x0.b (zbb x0 [0,0,2,3,4,8,20])) [0,0,1,2,4,10])) [0,0,1,2,4,20])) [0,0,1,16,99])) [1,1,2,9]),(16,bsC 19 (cInt .i64) ([1,1,2,9]:List Int)),(17,k84 20 [900000,19] (cuR x0.b (zbb (cuR x0.b (zbb (cuR x0.b (zbb (cuR x0.b (zbb (cuR x0.b (zbb x0 [0,0,2,3,4,8,20])) [0,0,1,2,4,10])) [0,0,1,2,4,20])) [0,0,1,16,99])) [1,1,2,9])) [1,1,2,9]),(19,k76 22 [900000] (cuR x0.b (zbb (cuR x0.b (zbb (cuR x0.b (zbb (cuR x0.b (zbb (cuR x0.b (zbb (cuR x0.b (zbb x0 [0,0,2,3,4,8,20])) [0,0,1,2,4,10])) [0,0,1,2,4,20])) [0,0,1,16,99])) [1,1,2,9])) [1,1,2,9])) 4),(21,k76 24 [900000] (cuR x0.b (zbo (cuR x0.b (zbb (cuR x0.b (zbb (cuR x0.b (zbb (cuR x0.b (zbb (cuR x0.b (zbb (cuR x0.b (zbb x0 [0,0,2,3,4,8,20])) [0,0,1,2,4,10])) [0,0,1,2,4,20])) [0,0,1,16,99])) [1,1,2,9])) [1,1,2,9])) 4)) 4)] [2] [2,900000] [] [] [] [0,4,8,12,16,20,24,28,32,36,40,44,48,52] (.next 0 [] (D40j1 x0 ((zbb x0 [0,0,2,3,4,8,20]).1,(zbb (cuR x0.b (zbb x0 [0,0,2,3,4,8,20])) [0,0,1,2,4,10]).1,(zbb (cuR x0.b (zbb (cuR x0.b (zbb x0 [0,0,2,3,4,8,20])) [0,0,1,2,4,10])) [0,0,1,2,4,20]).1,(zbb (cuR x0.b (zbb (cuR x0.b (zbb (cuR x0.b (zbb x0 [0,0,2,3,4,8,20])) [0,0,1,2,4,10])) [0,0,1,2,4,20])) [0,0,1,16,99]).1,(zbb (cuR x0.b (zbb (cuR x0.b (zbb (cuR x0.b (zbb (cuR x0.b (zbb x0 [0,0,2,3,4,8,20])) [0,0,1,2,4,10])) [0,0,1,2,4,20])) [0,0,1,16,99])) [1,1,2,9]).1,(zbb (cuR x0.b (zbb (cuR x0.b (zbb (cuR x0.b (zbb (cuR x0.b (zbb (cuR x0.b (zbb x0 [0,0,2,3,4,8,20])) [0,0,1,2,4,10])) [0,0,1,2,4,20])) [0,0,1,16,99])) [1,1,2,9])) [1,1,2,9]).1,(zbo (cuR x0.b (zbb (cuR x0.b (zbb (cuR x0.b (zbb (cuR x0.b (zbb (cuR x0.b (zbb (cuR x0.b (zbb x0 [0,0,2,3,4,8,20])) [0,0,1,2,4,10])) [0,0,1,2,4,20])) [0,0,1,16,99])) [1,1,2,9])) [1,1,2,9])) 4).1,(zbo (cuR x0.b (zbo (cuR x0.b (zbb (cuR x0.b (zbb (cuR x0.b (zbb (cuR x0.b (zbb (cuR x0.b (zbb (cuR x0.b (zbb x0 [0,0,2,3,4,8,20])) [0,0,1,2,4,10])) [0,0,1,2,4,20])) [0,0,1,16,99])) [1,1,2,9])) [1,1,2,9])) 4)) 4).1,(zbo (cuR x0.b (zbo (cuR x0.b (zbb (cuR x0.b (zbb (cuR x0.b (zbb (cuR x0.b (zbb (cuR x0.b (zbb (cuR x0.b (zbb x0 [0,0,2,3,4,8,20])) [0,0,1,2,4,10])) [0,0,1,2,4,20])) [0,0,1,16,99])) [1,1,2,9])) [1,1,2,9])) 4)) 4).2.1,(zbo (cuR x0.b (zbo (cuR x0.b (zbb (cuR x0.b (zbb (cuR x0.b (zbb (cuR x0.b (zbb (cuR x0.b (zbb (cuR x0.b (zbb x0 [0,0,2,3,4,8,20])) [0,0,1,2,4,10])) [0,0,1,2,4,20])) [0,0,1,16,99])) [1,1,2,9])) [1,1,2,9])) 4)) 4).2.2)))) (A40j1 x0))
theorem zq9 (x0:l01Cur) (hc:CurOk x0):FnMT Tryz.prog 40 [.vp 900000 0] [.var [.ro false 1 x0.b.length (rowOf (cInt .u8) x0.b),.int .i64 x0.i,.int .i64 x0.h]] (C40 x0 (l9Law x0)):=by
 have aux:∀ R,l9Law x0=R→slim (C40 x0 R) (A40 x0) []:=by
  intro R hR
  refine rg trivial ?_
  revert hR;refine jN (fun v=>True) (fun F101 hR hJ101=>?_) (fun j1 hR hJ1=>?_)
  ·
    refine rg ⟨trivial,⟨by with_reducible assumption,by (simp;done)⟩,trivial,⟨by ((repeat (first | exact hc | refine cuI2 ?_ zaj rfl | refine cuO2 ?_ om rfl));done),by (simp;done)⟩,trivial,⟨by ((repeat (first | exact hc | refine cuI2 ?_ zaj rfl | refine cuO2 ?_ om rfl));done),by (simp;done)⟩,trivial,⟨by ((repeat (first | exact hc | refine cuI2 ?_ zaj rfl | refine cuO2 ?_ om rfl));done),by (simp;done)⟩,trivial,⟨by ((repeat (first | exact hc | refine cuI2 ?_ zaj rfl | refine cuO2 ?_ om rfl));done),by (simp;done)⟩,trivial,⟨by ((repeat (first | exact hc | refine cuI2 ?_ zaj rfl | refine cuO2 ?_ om rfl));done),by (simp;done)⟩,⟨by ((repeat (first | exact hc | refine cuI2 ?_ zaj rfl | refine cuO2 ?_ om rfl));done),by (intros;omega)⟩,⟨by ((repeat (first | exact hc | refine cuI2 ?_ zaj rfl | refine cuO2 ?_ om rfl));done),by (intros;omega)⟩,trivial⟩ ?_
    exact hJ101 ((zbb x0 [0,0,2,3,4,8,20]).1,(zbb (cuR x0.b (zbb x0 [0,0,2,3,4,8,20])) [0,0,1,2,4,10]).1,(zbb (cuR x0.b (zbb (cuR x0.b (zbb x0 [0,0,2,3,4,8,20])) [0,0,1,2,4,10])) [0,0,1,2,4,20]).1,(zbb (cuR x0.b (zbb (cuR x0.b (zbb (cuR x0.b (zbb x0 [0,0,2,3,4,8,20])) [0,0,1,2,4,10])) [0,0,1,2,4,20])) [0,0,1,16,99]).1,(zbb (cuR x0.b (zbb (cuR x0.b (zbb (cuR x0.b (zbb (cuR x0.b (zbb x0 [0,0,2,3,4,8,20])) [0,0,1,2,4,10])) [0,0,1,2,4,20])) [0,0,1,16,99])) [1,1,2,9]).1,(zbb (cuR x0.b (zbb (cuR x0.b (zbb (cuR x0.b (zbb (cuR x0.b (zbb (cuR x0.b (zbb x0 [0,0,2,3,4,8,20])) [0,0,1,2,4,10])) [0,0,1,2,4,20])) [0,0,1,16,99])) [1,1,2,9])) [1,1,2,9]).1,(zbo (cuR x0.b (zbb (cuR x0.b (zbb (cuR x0.b (zbb (cuR x0.b (zbb (cuR x0.b (zbb (cuR x0.b (zbb x0 [0,0,2,3,4,8,20])) [0,0,1,2,4,10])) [0,0,1,2,4,20])) [0,0,1,16,99])) [1,1,2,9])) [1,1,2,9])) 4).1,(zbo (cuR x0.b (zbo (cuR x0.b (zbb (cuR x0.b (zbb (cuR x0.b (zbb (cuR x0.b (zbb (cuR x0.b (zbb (cuR x0.b (zbb x0 [0,0,2,3,4,8,20])) [0,0,1,2,4,10])) [0,0,1,2,4,20])) [0,0,1,16,99])) [1,1,2,9])) [1,1,2,9])) 4)) 4).1,(zbo (cuR x0.b (zbo (cuR x0.b (zbb (cuR x0.b (zbb (cuR x0.b (zbb (cuR x0.b (zbb (cuR x0.b (zbb (cuR x0.b (zbb x0 [0,0,2,3,4,8,20])) [0,0,1,2,4,10])) [0,0,1,2,4,20])) [0,0,1,16,99])) [1,1,2,9])) [1,1,2,9])) 4)) 4).2.1,(zbo (cuR x0.b (zbo (cuR x0.b (zbb (cuR x0.b (zbb (cuR x0.b (zbb (cuR x0.b (zbb (cuR x0.b (zbb (cuR x0.b (zbb x0 [0,0,2,3,4,8,20])) [0,0,1,2,4,10])) [0,0,1,2,4,20])) [0,0,1,16,99])) [1,1,2,9])) [1,1,2,9])) 4)) 4).2.2) hR zax
  ·
    exact congrArg (C40 x0) hR
 exact FnM.go 26 Tryz.func40 zah zah (A40 x0) zah (aux _ rfl)
def k40 (d:Nat) (ids:List Nat) (x0:l01Cur):Cl:=(hresM d ids (C40 x0 (l9Law x0)),k1 (zq9 x0))
def C12 (R:Law):LV×List (Nat×BC):=(.agg [.int .i64 R.degree,.int .i64 R.canon,.int .i64 R.affinity,.int .i64 R.age,.int .i64 R.wives,.int .i64 R.husbands,.bool R.patriline,.bool R.matriline],[])
def zef (x0:List Int):Law:=((l9Law (zfy x0)).1)
def A12 (x0:List Int):Ann:=.reg 2 [] [(1001,k34 4 [] x0),(1002,k40 5 [1004] (zfy x0))] [2] [2] [] [] [] [0,4] (rt [] (C12 ((l9Law (zfy x0)).1)))
theorem znk (x0:List Int) (hx:x0.length≤1048576) (hb:∀ y∈x0,0≤y∧y≤255):FnT Tryz.prog 12 [.ro false 1 x0.length (rowOf (cInt .u8) x0)] (C12 (zef x0)):=by
 have aux:∀ R,zef x0=R→slim (C12 R) (A12 x0) []:=by
  intro R hR
  refine rg ⟨⟨by trivial,by trivial⟩,by (exact zgi hb hx),trivial⟩ ?_
  exact congrArg C12 hR
 exact Fn.go 6 Tryz.func12 zah zah (by simp [C12,Frs,FrsL]) (A12 x0) zah (aux _ rfl)
def k12 (x0:List Int):Cl:=(hres (C12 (zef x0)),k2 (znk x0))
theorem zg8 {α:Type} (l:List α) (d:α) {i:Nat} (hi:i<l.length):l.take (i+1)=l.take i++[l.getD i d]:=by
 rw [List.take_add_one,List.getD_eq_getElem?_getD,List.getElem?_eq_getElem hi];rfl
def UDiff (a b:Union):Prop:=a.man=b.man→¬ a.woman=b.woman
theorem zxa {α : Type} [Inhabited α] {R : α → α → Prop} : ∀ {l : List α}, (∀ k : Nat, k < l.length → ∀ j, j < k → R (l.getD j default) (l.getD k default)) → l.Pairwise R
  | [],_=>.nil
  | a :: l,h=>by
    refine List.pairwise_cons.2 ⟨fun b hb=>?_,zxa fun k hk j hj=>?_⟩
    · obtain ⟨k,hk,e⟩:=zdk (d:=default) hb
      have:=h (k+1) (by rw [List.length_cons];omega) 0 om
      rw [List.getD_cons_zero,List.getD_cons_succ,e] at this
      exact this
    · have:=h (k+1) (by rw [List.length_cons];omega) (j+1) om
      rwa [List.getD_cons_succ,List.getD_cons_succ] at this
theorem zod {α : Type} [Inhabited α] {R : α → α → Prop} : ∀ {l : List α}, l.Pairwise R → ∀ k : Nat, k < l.length → ∀ j, j < k → R (l.getD j default) (l.getD k default)
  | [],_,k,hk,_,_=>absurd hk (Nat.not_lt_zero _)
  | a :: l,h,k,hk,j,hj=>by
    obtain ⟨h1,h2⟩:=List.pairwise_cons.1 h
    obtain ⟨k,rfl⟩:∃ m,k=m+1:=⟨k - 1,om⟩
    rw [List.length_cons] at hk
    rw [List.getD_cons_succ]
    cases j with
    | zero=>rw [List.getD_cons_zero];exact h1 _ (zb0 om)
    | succ j=>rw [List.getD_cons_succ];exact zod h2 k om j om
theorem z07 {P:List Person} {U V:List Union} (h:za4 ⟨P,U⟩=true) (hs:V.Sublist U):za4 ⟨P,V⟩=true:=by
 obtain ⟨h1,h2,h3,h4⟩:=(zie _).1 h
 have hl:=hs.length_le
 dsimp only at h1
 refine (zie _).2 ⟨⟨h1.1,by dsimp only;omega⟩,fun k hk=>?_,h3,fun k hk=>?_⟩
 ·have:=h2 k hk
  exact ⟨this.name,this.sex,this.born,this.died,this.uniq,this.fa,this.mo⟩
 ·have hm:=hs.subset (zb0 (d:=(default:Union)) hk)
  obtain ⟨j,hj,e⟩:=zdk (d:=default) hm
  have hu:=h4 j hj
  have hp:U.Pairwise UDiff:=zxa fun k hk j hj=>(h4 k hk).uniq j hj
  have hd:=zod (hp.sublist hs) k hk
  have e2:(Family.mk P U).unions.getD j default=(Family.mk P V).unions.getD k default:=e
  obtain ⟨u1,u2,u3,u4,u5,u6,u7,u8,_⟩:=hu
  rw [e2] at u1 u2 u3 u4 u5 u6 u7 u8
  exact ⟨u1,u2,u3,u4,u5,u6,u7,u8,hd⟩
def AuI (x:Family) (i:Nat) (u:List Union):Prop:=u.Sublist (x.unions.take i)
theorem AuI.snoc {x:Family} {i:Nat} {u:List Union} (h:AuI x i u) (hi:i<x.unions.length):AuI x (i+1) (u++[x.unions.getD i default]):=by
 unfold AuI
 rw [zg8 _ default hi]
 exact List.Sublist.append h (List.Sublist.refl _)
theorem AuI.skip {x:Family} {i:Nat} {u:List Union} (h:AuI x i u) (hi:i<x.unions.length):AuI x (i+1) u:=by
 unfold AuI
 rw [zg8 _ default hi]
 exact List.Sublist.trans h (List.sublist_append_left _ _)
theorem AuI.fam {x:Family} {i:Nat} {u:List Union} (h:AuI x i u) (hf:za4 x=true):za4 ⟨x.people,u⟩=true:=z07 (U:=x.unions) hf (List.Sublist.trans h (List.take_sublist _ _))
def kLt (keys:List Int) (a b:Int):Prop:=keys.getD a.toNat default<keys.getD b.toNat default∨(keys.getD a.toNat default=keys.getD b.toNat default∧a<b)
def upto (n:Nat):List Int:=(List.range n).map fun j=>((j:Nat):Int)
theorem mem_upto {n:Nat} {a:Int}:a∈upto n↔0≤a∧a<n:=by
 unfold upto
 rw [List.mem_map]
 constructor
 ·rintro ⟨j,hj,rfl⟩;have:=List.mem_range.1 hj;omega
 ·intro h;exact ⟨a.toNat,List.mem_range.2 om,om⟩
theorem zmi (n:Nat):(upto n).length=n:=by simp [upto]
theorem zkp (n:Nat):(upto n).Nodup:=by
 unfold upto
 rw [List.nodup_iff_pairwise_ne,List.pairwise_map]
 exact (List.nodup_iff_pairwise_ne.1 List.nodup_range).imp fun h e=>h om
theorem zmy (n:Nat):upto (n+1)=upto n++[((n:Nat):Int)]:=by simp [upto,List.range_succ]
structure OrdI (keys:List Int) (i:Nat) (v:List Int):Prop where
 perm:v.Perm (upto i)
 pw:v.Pairwise (kLt keys)
theorem OrdI.len {keys:List Int} {i:Nat} {v:List Int} (h:OrdI keys i v):v.length=i:=by rw [h.perm.length_eq,zmi]
theorem OrdI.insert {keys : List Int} {i : Nat} {v : List Int} (h : OrdI keys i v) {c : Nat} (hc : c ≤ v.length) (h1 : ∀ m : Nat, m < c → ¬ keys.getD i default < keys.getD (v.getD m default).toNat default)
    (h2:c<v.length→keys.getD i default<keys.getD (v.getD c default).toNat default):OrdI keys (i+1) (v.take c++((i:Nat):Int) :: v.drop c):=by
 have hpw:=h.pw
 have hsp:(v.take c++v.drop c).Pairwise (kLt keys):=by rw [List.take_append_drop];exact hpw
 obtain ⟨p1,p2,p3⟩:=List.pairwise_append.1 hsp
 have hi:∀ a∈v,a<i:=fun a ha=>(mem_upto.1 (h.perm.mem_iff.1 ha)).2
 refine ⟨?_,List.pairwise_append.2 ⟨p1,List.pairwise_cons.2 ⟨fun b hb=>?_,p2⟩,fun a ha b hb=>?_⟩⟩
 ·refine List.Perm.trans List.perm_middle ?_
  rw [List.take_append_drop,zmy]
  exact List.Perm.trans (List.Perm.cons _ h.perm) (List.perm_append_comm (l₁:=[((i:Nat):Int)]))
 ·obtain ⟨m,hm,e⟩:=zdk (d:=default) hb
  rw [List.length_drop] at hm
  have e2:b=v.getD (c+m) default:=by
   rw [← e,List.getD_eq_getElem?_getD,List.getD_eq_getElem?_getD,List.getElem?_drop]
  have hk:=h2 om
  left
  rw [Int.toNat_natCast,e2]
  rcases Nat.eq_zero_or_pos m with g | g
  ·subst g;exact hk
  ·have:=zod hpw (c+m) om c om
   rcases this with q | q<;>omega
 ·rcases List.mem_cons.1 hb with e | hb'
  ·subst e
   obtain ⟨m,hm,e⟩:=zdk (d:=default) ha
   rw [List.length_take] at hm
   have e2:a=v.getD m default:=by
    rw [← e,List.getD_eq_getElem?_getD,List.getD_eq_getElem?_getD,List.getElem?_take,if_pos om]
   have hk:=h1 m om
   have ha':=hi a (List.mem_of_mem_take ha)
   unfold kLt
   rw [Int.toNat_natCast,e2]
   rw [e2] at ha'
   omega
  ·exact p3 a ha b hb'
structure LI (i:Nat) (v:List Int):Prop where
 len:v.length=i
 rng:∀ c∈v,0≤c∧c<i
structure LJ (i j:Nat) (w:List Int) (d:Bool):Prop where
 len:w.length=j+(bif d then 1 else 0)
 rng:∀ c∈w,0≤c∧c≤i
theorem LI.nil:LI 0 []:=⟨rfl,fun c hc=>absurd hc List.not_mem_nil⟩
theorem LJ.nil (i:Nat):LJ i 0 [] false:=⟨rfl,fun c hc=>absurd hc List.not_mem_nil⟩
theorem LI.at {i:Nat} {v:List Int} (h:LI i v) {j:Nat} (hj:j<v.length):0≤v.getD j default∧v.getD j default<i:=h.rng _ (zb0 hj)
theorem LJ.one {i j:Nat} {w v:List Int} {d:Bool} (h:LJ i j w d) (hv:LI i v) {m:Nat} (hm:m<v.length):LJ i (j+1) (w++[v.getD m default]) d:=by
 refine ⟨by rw [List.length_append,h.len,List.length_singleton];omega,fun a ha=>?_⟩
 rcases List.mem_append.1 ha with ha | ha
 ·exact h.rng a ha
 ·rw [List.mem_singleton.1 ha];have:=hv.at hm;omega
theorem LJ.done {i:Nat} {w v:List Int} {d:Bool} (h:LJ i v.length w d) (hd:d=true) (hv:LI i v):LI (i+1) w:=by
 subst hd
 have hl:=h.len
 have h2:=hv.len
 simp only [cond_true] at hl
 exact ⟨om,fun a ha=>by have:=h.rng a ha;omega⟩
theorem LJ.bd {i j:Nat} {w:List Int} {d:Bool} (h:LJ i j w d):w.length≤j+1:=by
 have:=h.len
 cases d<;>simp only [cond_true,cond_false] at this<;>omega
end Go.Proofs.YtaageiiodlfeiaaGreat
