/- Control over claims: rules for each form of code, comparison of states, functions entered and left. Conditions: none; over any program. -/
import Derived.Test.YtnibbmmljamolaaGreatLiteE
set_option linter.unusedVariables false
namespace Go.Lite
open Go Go.RowKit

abbrev AP:=Act→World→Prop
def PQ(n r : AP)(xs : List (Nat × AP)) : Exit → Act → World → Prop
  |.normal,a,w=>n a w
  |.ret,a,w=>r a w
  | .exit id, a, w => match look xs id with
    |some p=>p a w
    |none=>False
  |_,_,_=>False
def W(P:Program)(c:Code)(n r:AP)(xs:List (Nat×AP))(a:Act)(w:World):Prop:=c.wp P (PQ n r xs) a w

def zic(fn : Func) : Code := match fn.body with
  |some c=>c
  |none=>.skip
def c1 : Code → Code
  |.seq x _=>x
  |.cond _ x _=>x
  |.block _ x=>x
  |.loop x=>x
  |.scope x=>x
  |_=>.skip
def c2 : Code → Code
  |.seq _ y=>y
  |.cond _ _ y=>y
  |_=>.skip
def cOp : Code → Operand
  |.cond c _ _=>c
  |_=>.const (.bool true)
def opsOf : Code → Array Oper
  |.region _ ops _=>ops
  |_=>#[]
def isSeq : Code → Bool
  |.seq _ _=>true
  |_=>false
def z4k : Code → Bool
  |.cond _ _ _=>true
  |_=>false
def isBlk(id : Nat) : Code → Bool
  |.block i _=>Nat.beq i id
  |_=>false
def z4i : Code → Bool
  |.loop _=>true
  |_=>false
def zxl(id : Nat) : Code → Bool
  |.exit i=>Nat.beq i id
  |_=>false
def isRet : Code → Bool
  |.ret=>true
  |_=>false
def z4h : Code → Bool
  |.skip=>true
  |.label _=>true
  |_=>false
def isReg : Code → Bool
  |.region _ _ d=>!d
  |_=>false

section
variable {P:Program} {c x y:Code} {n r:AP} {xs:List (Nat×AP)} {a:Act} {w:World}

theorem W.mono{n':AP}(h:W P c n' r xs a w)(hn:∀a w,n' a w→n a w):W P c n r xs a w:=wp_mono h fun e a w q=>by cases e<;>first|exact hn _ _ q|exact q

theorem W.seq(hc:isSeq c=true)(h:W P (c1 c) (fun a w=>W P (c2 c) n r xs a w) r xs a w):W P c n r xs a w:=by cases c<;>simp[isSeq] at hc;exact wp_seq (wp_mono h fun e a w q=>by cases e<;>first|exact q|exact q.elim)

theorem W.seqM(hc:isSeq c=true)(M:AP)(h:W P (c1 c) M r xs a w)(h2:∀a w,M a w→W P (c2 c) n r xs a w):W P c n r xs a w:=W.seq hc (h.mono h2)

theorem W.block(id : Nat)(hc : isBlk id c = true)(h : W P (c1 c) n r ((id, n) :: xs) a w) : W P c n r xs a w := by
 cases c<;>simp[isBlk] at hc;refine wp_block (wp_mono h fun e a w q=>?_);cases e with
 |exit j =>simp only[PQ,zbx] at q;simp only[Exit.inBlock,PQ];grind
 |_ =>first|exact q|exact q.elim

theorem W.exit(id:Nat)(hc:zxl id c=true){p:AP}(hx:look xs id=some p)(h:p a w):W P c n r xs a w:=by cases c<;>simp[zxl] at hc;subst hc;exact wp_exit (by simp only[PQ,hx];exact h)

theorem W.ret(hc:isRet c=true)(h:r a w):W P c n r xs a w:=by cases c<;>simp[isRet] at hc;exact wp_ret h

theorem W.skip(hc : z4h c = true)(h : n a w) : W P c n r xs a w := by
 cases c<;>simp[z4h] at hc
 ·exact wp_skip h
 exact wp_label h

variable {N:Nat} {w0:World} {X0:Fr} {s:St}

theorem W.cond(hs:H N w0 X0 s a w)(hc:z4k c=true){b:Bool}{p:List Prop}(he:ev (look s.slots) (cOp c)=some (.bool b,p))(ha:All p)(h1:b=true→W P (c1 c) n r xs a w)(h2:b=false→W P (c2 c) n r xs a w):W P c n r xs a w:=by cases c<;>simp[z4k] at hc;obtain⟨E,hs⟩:=hs;exact wp_cond_split (zao hs he ha).1.bool_inv h1 h2

theorem W.region(hs:H N w0 X0 s a w)(hc:isReg c=true)(hints:List (Nat×Hint)){i:Nat}{s':St}{vcs:List Prop}(he:ztd P N (opsOf c).toList hints (opsOf c).toList i s=some (s',vcs))(ha:All vcs)(hn:∀a w,H N w0 X0 s' a w→n a w):W P c n r xs a w:=by cases c<;>simp[isReg] at hc;subst hc;refine wp_region_list ?_;have:=zmo (Q:=PQ n r xs) he ha hs hn;assumption

theorem W.loop(hc : z4i c = true){G : Type}(I : G → AP)(m : G → Nat)(g0 : G)(h0 : I g0 a w)(hr : ∀g a w, I g a w → W P (c1 c) (fun a w => ∃g', I g' a w ∧ m g' < m g) r xs a w) : W P c n r xs a w := by
 cases c<;>simp[z4i] at hc;classical
 let J : Act → World → Nat → Prop := fun a w k => ∃g, I g a w ∧ m g = k;have hmin : ∀a w, (∃k, J a w k) → ∃k, J a w k ∧ ∀k', J a w k' → k ≤ k' := by
  intro a w ⟨k,hk⟩;induction k using Nat.strongRecOn with
  |_ k ih =>
   by_cases h:∃k',k'<k∧J a w k'
   ·obtain ⟨k', h1, h2⟩ := h; exact ih k' h1 h2
   grind
 let μ:Act→World→Nat:=fun a w=>if h:∃k,J a w k then Classical.choose (hmin a w h) else 0;refine wp_loop (fun a w=>∃k,J a w k) μ ⟨_,g0,h0,rfl⟩ fun a w hI=>?_;obtain⟨⟨g,hg,hgm⟩,hle⟩:=Classical.choose_spec (hmin a w hI);refine wp_mono (hr g a w hg) fun e a' w' q=>?_;cases e with
 |normal =>obtain⟨g',h1,h2⟩:=q;have hI':∃k,J a' w' k:=⟨_,g',h1,rfl⟩;refine⟨hI',?_⟩;have:=(Classical.choose_spec (hmin a' w' hI')).2 _ ⟨g',h1,rfl⟩;grind
 |_ =>first|exact q|exact q.elim
end


def toId(g : List (Nat × Option Nat))(i i' : Nat) : Bool :=
  match look g i' with
  |some (some j)=>Nat.beq i j
  |_=>false
theorem zzn{g : List (Nat × Option Nat)}{i i' : Nat}(h : toId g i i' = true) : look g i' = some (some i) := by
 unfold toId at h;split at h
 ·rename_i j hj; rw [hj, oo h]
 cases h
def opt(b:Bool)(l:List Prop):Option (List Prop):=bif b then some l else none

def nrT(sz : Nat) : NR → LV
  |.row m r=>.ro true sz m r
  |.cell v=>v
  |_=>.any
mutual
def cmp(g : List (Nat × Option Nat))(fz : Nat → Option BC) : LV → LV → Option (List Prop)
  | .int k a, t => match t with
    |.int k' b=>opt (decide (k=k')) [a=b]
    |_=>none
  | .bool a, t => match t with
    |.bool b=>some [a=b]
    |_=>none
  | .str a, t => match t with
    |.str b=>some [a=b]
    |_=>none
  | .agg l, t => match t with
    |.agg l'=>cmpL g fz l l'
    |_=>none
  | .tup l, t => match t with
    |.tup l'=>cmpL g fz l l'
    |_=>none
  | .ro fr sz n row, t => match t with
    |.ro fr' sz' n' row'=>opt (Nat.beq sz sz'&&(!fr'||fr)) [zc5 n n' row row']
    |_=>none
  | .ep row off, t => match t with
    |.ep row' off'=>opt (Nat.beq off off') [row=row']
    |_=>none
  | .nilS, t => match t with
    |.nilS=>some []
    |.ro _ _ n _=>some [n=0]
    | .own i => match look g i with
      |some none=>some []
      |_=>none
    |_=>none
  | .nilM, t => match t with
    |.nilM=>some []
    |_=>none
  |.rm _ _,_=>none
  | .nilP, t => match t with
    |.nilP=>some []
    |_=>none
  | .fn f, t => match t with
    |.fn f'=>opt (Nat.beq f f') []
    |_=>none
  | .clo f l, t => match t with
    | .clo f' l' => match cmpL g fz l l' with
      |some p=>opt (Nat.beq f f') p
      |none=>none
    |_=>none
  | .vp i off, t => match t with
    |.vp i' off'=>opt (Nat.beq off off'&&toId g i i') []
    |_=>none
  | .own i, t => match t with
    |.own i'=>opt (toId g i i') []
    | .ro _ sz' n' row' => match fz i with
      |some (.arr sz n row)=>opt (Nat.beq sz sz') [zc5 n n' row row']
      |some (.nest 1 _ sz n rows)=>opt (Nat.beq 1 sz') [zc5 n n' (fun k=>[nrT sz (rows k)]) row']
      |_=>none
    |_=>none
  | .ap i sz k off, t => match t with
    |.ap i' sz' k' off'=>opt (Nat.beq sz sz'&&(Nat.beq off off'&&toId g i i')) [k=k']
    |_=>none
  | .mp i, t => match t with
    |.mp i'=>opt (toId g i i') []
    |_=>none
  | .k b o, t => match t with
    |.k b' o'=>opt (Nat.beq b b'&&Nat.beq o o') []
    |_=>none
  | .er b, t => match t with
    |.er b'=>some [b=b']
    |_=>none
  | .fv, t => match t with
    |.fv=>some []
    |_=>none
  | .any, t => match t with
    |.any=>some []
    |_=>none
  | .ifc i v, t => match t with
    | .ifc i' v' => match cmp g fz v v' with
      |some p=>opt (Nat.beq i i') p
      |none=>none
    |_=>none
  | .whn b v, t => match t with
    | .whn b' v' => match cmp g fz v v' with
      |some p=>some ((b=b') :: p.map fun q=>b=true→q)
      |none=>none
    | v' => match cmp g fz v v' with
      |some p=>some ((b=true) :: p)
      |none=>none
def cmpL(g : List (Nat × Option Nat))(fz : Nat → Option BC) : List LV → List LV → Option (List Prop)
  |[],[]=>some []
  | x :: l, y :: l' => match cmp g fz x y, cmpL g fz l l' with
    |some p,some q=>some (p++q)
    |_,_=>none
  |_,_=>none
end
def eiNil:EI:=⟨none,0,none,0,0,0⟩
def putOf(g : List (Nat × Option Nat))(i : Nat) : Option Nat :=
  match look g (500000+i) with
  |some (some d)=>some d
  |_=>none
def envG(g : List (Nat × Option Nat))(E : Env) : Env := ⟨fun i => match look g i with
  |some (some j)=>E j
  |_=>eiNil,fun i b=>∃j,look g i=some (some j)∧(E.s j b∨∃d,putOf g i=some d∧(E d).b=some b)⟩
theorem zi3{g:List (Nat×Option Nat)}{E:Env}{i j:Nat}(h:look g i=some (some j)):envG g E i=E j:=by show(match look g i with | some (some j)=>E j | _=>eiNil)=E j;rw[h]
theorem zmh{g:List (Nat×Option Nat)}{E:Env}{i i':Nat}(h:toId g i i'=true):envG g E i'=E i:=zi3 (zzn h)
theorem zsu{g:List (Nat×Option Nat)}{E:Env}{i:Nat}(h:look g i=some none):envG g E i=eiNil:=by show(match look g i with | some (some j)=>E j | _=>eiNil)=eiNil;rw[h]

theorem zb6{b : Bool}{l p : List Prop}(h : opt b l = some p) : b = true ∧ l = p := by
 cases b with
 |true =>exact⟨rfl,by simpa[opt] using h⟩
 |false =>simp[opt] at h

section
variable {N:Nat} {w0 w:World} {X0:Fr} {X':Nat→Prop} {σ:FS} {E:Env} {a:Act} {g:List (Nat×Option Nat)} {fz:Nat→Option BC}

theorem RepC.rows{B : Nat}{X : Nat → Prop}{fr fr' : Bool}{sz n n' : Nat}{row row' : Nat → List LV}{v : Value}(h : RepC w B X (.ro fr sz n row) v)(hf : fr' = true → fr = true)(he : zc5 n n' row row') : RepC w B X (.ro fr' sz n' row') v := by
 obtain⟨rfl,he⟩:=he;cases h with
 |ro _ _ _ _ A ad cap cv hcap hA hlt hX hB hsz ho hc h =>exact .ro fr' sz n row' A ad cap cv hcap hA hlt hX (fun h0 h1=>hB h0 (hf h1)) (fun i hi=>by rw[←he i hi];exact hsz i hi) (fun i hi=>by rw[←he i hi];exact ho i hi) hc fun i j lv hi hl=>h i j lv hi (by rw[he i hi];exact hl)

theorem RepC.emptyRo{B:Nat}{X:Nat→Prop}{fr:Bool}{sz:Nat}{row:Nat→List LV}:RepC w B X (.ro fr sz 0 row) (.slice none 0 0):=.ro fr sz 0 row none ⟨0,0,none⟩ 0 (fun _ _=>undef) (oz _) (fun h=>absurd h vdh) (fun h=>absurd h vdh) (fun h=>absurd h vdh) (fun h=>absurd h vdh) (fun i hi=>absurd hi vdh) (fun i hi=>absurd hi vdh) (fun i j hi=>absurd hi vdh) fun i j lv hi=>absurd hi vdh

theorem RepC.subX{B:Nat}{X:Nat→Prop}{lv:LV}{v:Value}(h:RepC w B X lv v)(hx:∀b,X' b→X b):RepC w B X' lv v:=h.keep (oz _) (fun _ _ _=>rfl) (fun b hb=>.inl (hx b hb)) (oz _)

theorem RepV.agg_undef{B : Nat}{X : Nat → Prop}{b : Bool}{lv : LV}{v : Value}(h : RepV w B X E (.whn b lv) v) : (b = true → RepV w B X E lv v) ∧ (b = false → v = undef) := by
 cases h with
 |c _ _ h =>cases h
 |whn _ _ _ h1 h2 =>exact⟨h1,h2⟩

theorem z23{B : Nat}{X : Nat → Prop}{i sz n : Nat}{cl : Bool}{rows : Nat → NR}(h : BlkOk w B X E i (.nest 1 cl sz n rows))(hx : ∀b, X' b → X b)(hb : ∀b, (E i).b = some b → ¬X' b)(hs : ∀b, E.s i b → ¬X' b) : RepC w B X' (.ro true 1 n fun k => [nrT sz (rows k)]) (E i).val := by
 obtain⟨ek,hsub,hn,hk⟩:=h;rcases hk with⟨_,k2,k3⟩ | ⟨b,cap,vs,T',k1,k2,k3,k4,k5,k6,k7,k8⟩
 ·subst k3;rw [k2];exact .emptyRo
 rw[k2];refine .ro true 1 n _ (some ⟨b,(E i).off,none⟩) ⟨b,(E i).off,none⟩ cap (fun k _=>vs.getD ((E i).off+k) undef) k5 (fun _=>rfl) (fun _=>(oK.1 k4).1) (fun _=>hb b k1) (fun _ _=>k3) (fun k hk=>rfl) (fun k hk lv hl=>?_) (fun k j hk hj=>?_) fun k j lv hk hl=>?_
 ·obtain rfl := oT.1 hl;have h8 := k8 k hk;cases hr : rows k with
  |cell v =>rw[hr] at h8;exact h8.1
  |_ =>rfl
 ·obtain rfl : j = 0 := by omega
  rw[zbv];have h1:(E i).off+k<vs.size:=by simp only[cN] at k7;omega
  simp[World.cell?,k4,h1]
 cases j with
 |succ j =>simp at hl
 |zero =>
  simp only[List.getElem?_cons_zero,oq] at hl;subst hl;have h8:=k8 k hk;cases hr:rows k with
  |out id =>rw[hr] at h8;simp only[NROk] at h8;rw[h8];exact .any _ _ _
  |gone =>rw[hr] at h8;obtain⟨A,m,c,e⟩:=h8;rw[e];exact .any A m c
  |cell v =>rw[hr] at h8;exact h8.2.subX hx
  |row m r =>
   rw[hr] at h8;obtain⟨e1,e2,e3⟩:=h8;rw[e1];rcases e3 with⟨q1,q2,q3⟩ | ⟨b',cap',vs',T'',q1,q2,q3,q4,q5,q6,q7,q8⟩
   ·subst q3; rw [q2]; exact .emptyRo
   rw[q2];have hbd:∀i j,i<m→j<sz→(ek k).off+i * sz+j<vs'.size:=fun i j hi hj=>(by have h1:i * sz+sz≤cap' * sz:=vcd;omega);refine .ro true sz m r (some ⟨b',(ek k).off,none⟩) ⟨b',(ek k).off,none⟩ cap' (fun i j=>vs'.getD ((ek k).off+i * sz+j) undef) q5 (fun _=>rfl) (fun _=>(oK.1 q4).1) (fun _=>hs b' ((hsub.iff b').2 ⟨k,hk,by rw[hr];trivial,q1⟩)) (fun _ _=>q3) (fun i hi=>(q8 i hi).1) (fun i hi=>(q8 i hi).2.1) (fun i j hi hj=>?_) fun i j lv hi hl=>?_
   ·rw [zbv, ← Nat.add_assoc];have := hbd i j hi hj;simp [World.cell?, q4, this]
   have hj:j<sz:=(by rw[←(q8 i hi).1];exact(oG.1 hl).1);have:=hbd i j hi hj;exact((q8 i hi).2.2 j lv (vs'.getD ((ek k).off+i * sz+j) undef) hl (by simp[this])).subX hx

mutual
theorem zgn(hs : Sat N w0 X0 σ E a w)(hx : ∀b, X' b → Own σ E X0 b)(hz : ∀i c, fz i = some c → σ.blk i = some c ∧ ∀b, OwnAt σ.blk E i b → ¬X' b) : ∀{lv lv' : LV} {p : List Prop} {v : Value}, cmp g fz lv lv' = some p → All p →
    RepV w w0.heap.size (Own σ E X0) E lv v→RepV w w0.heap.size X' (envG g E) lv' v
  |.int k n, lv', p, v, h, ha, hr => by
    simp only[cmp] at h
    split at h
    · obtain ⟨h1,rfl⟩:=zb6 h
      have:=om h1
      subst this
      have:=ha.1
      subst this
      rw[hr.int_inv];exact .c _ _ (.int _ _)
    · cases h
  |.bool n, lv', p, v, h, ha, hr => by
    simp only[cmp] at h
    split at h
    · cases h
      have:=ha.1
      subst this
      rw[hr.bool_inv];exact .c _ _ (.bool _)
    · cases h
  |.str n, lv', p, v, h, ha, hr => by
    simp only[cmp] at h
    split at h
    · cases h
      have:=ha.1
      subst this
      rw[hr.str_inv];exact .c _ _ (.str _)
    · cases h
  |.agg l, lv', p, v, h, ha, hr => by
    simp only[cmp] at h
    split at h
    · obtain ⟨vs,rfl,hl,hc⟩:=hr.agg_inv
      obtain⟨h1,h2⟩:=zhu hs hx hz h ha
      refine .agg _ vs vdh fun i lv u hi hu=>?_
      obtain⟨y,hy,hy'⟩:=h2 i lv hi
      exact hy' u (hc i y u hy hu)
    · cases h
  |.tup l, lv', p, v, h, ha, hr => by
    simp only[cmp] at h
    split at h
    · obtain ⟨vs,rfl,hl,hc⟩:=hr.tup_inv
      obtain⟨h1,h2⟩:=zhu hs hx hz h ha
      refine .tup _ vs vdh fun i lv u hi hu=>?_
      obtain⟨y,hy,hy'⟩:=h2 i lv hi
      exact hy' u (hc i y u hy hu)
    · cases h
  |.ro fr sz n row, lv', p, v, h, ha, hr => by
    simp only[cmp] at h
    split at h
    · obtain ⟨h1,rfl⟩:=zb6 h
      simp only[oc,oj,od] at h1
      have e:=oo h1.1
      subst e
      exact .c _ _ ((hr.ro_inv.rows (fun hf=>by rcases h1.2 with h2 | h2<;>simp_all) ha.1).subX hx)
    · cases h
  |.ep row off, lv', p, v, h, ha, hr => by
    simp only[cmp] at h
    split at h
    · obtain ⟨h1,rfl⟩:=zb6 h
      have e:=oo h1
      subst e
      have e:=ha.1
      subst e
      exact .c _ _ (hr.ep_inv.subX hx)
    · cases h
  |.nilP, lv', p, v, h, ha, hr => by
    simp only[cmp] at h
    rw[hr.nilP_inv]
    split at h
    · exact .c _ _ .nilP
    · cases h
  |.clo f l, lv', p, v, h, ha, hr => by
    simp only[cmp] at h
    split at h
    · split at h
      · rename_i q hq
        obtain⟨e,rfl⟩:=zb6 h
        have e:=oo e
        subst e
        obtain⟨vs,rfl,hl,hc⟩:=hr.clo_inv
        obtain⟨h1,h2⟩:=zhu hs hx hz hq ha
        refine .clo _ _ vs vdh fun i lv u hi hu=>?_
        obtain⟨y,hy,hy'⟩:=h2 i lv hi
        exact hy' u (hc i y u hy hu)
      · cases h
    · cases h
  |.rm _ _,lv',p,v,h,ha,hr=>by simp only[cmp] at h;cases h
  |.nilM, lv', p, v, h, ha, hr => by
    simp only[cmp] at h
    rw[hr.nilM_inv]
    split at h
    · exact .c _ _ .nilM
    · cases h
  |.nilS, lv', p, v, h, ha, hr => by
    simp only[cmp] at h
    rw[hr.nilS_inv]
    split at h
    · exact .c _ _ .nilS
    · cases h
      have:=ha.1
      subst this
      exact .c _ _ .emptyRo
    · split at h
      · rename_i i _ hi
        have:=RepV.own (w:=w) (B:=w0.heap.size) (X:=X') (E:=envG g E) i
        rw[zsu hi] at this
        exact this
      · cases h
    · cases h
  |.fn f, lv', p, v, h, ha, hr => by
    simp only[cmp] at h
    split at h
    · obtain ⟨h1,rfl⟩:=zb6 h
      have e:=oo h1
      subst e
      rw[hr.fn_inv];exact .c _ _ (.fn _)
    · cases h
  |.vp i off, lv', p, v, h, ha, hr => by
    simp only[cmp] at h
    split at h
    · obtain ⟨h1,rfl⟩:=zb6 h
      simp only[oc] at h1
      have e:=oo h1.1
      subst e
      obtain⟨b,hb,rfl⟩:=hr.vp_inv
      exact .vp _ _ b (by rw[zmh h1.2];exact hb)
    · cases h
  |.own i, lv', p, v, h, ha, hr => by
    simp only[cmp] at h
    split at h
    · obtain ⟨h1,rfl⟩:=zb6 h
      rw[hr.own_inv,←zmh (E:=E) h1]
      exact .own _
    · split at h
      · rename_i sz n row hfz
        obtain⟨h1,rfl⟩:=zb6 h
        have e:=oo h1
        subst e
        obtain⟨hb,hno⟩:=hz i _ hfz
        have := zsr hs hx (v := .own i) (x := .ro true sz n row) (is := [i]) (by simp [frz, hb]) (fun k hk b hkb => by
          rw[oT.1 hk] at hkb;exact hno b (.inl ⟨vc5,hkb⟩)) hr
        exact .c _ _ (this.rows (fun _=>rfl) ha.1)
      · rename_i cl sz n rows hfz
        obtain⟨h1,rfl⟩:=zb6 h
        have e:=oo h1
        subst e
        obtain⟨hb,hno⟩:=hz i _ hfz
        rw[hr.own_inv]
        have:=z23 (hs.blks i _ hb) hx (fun b hib=>hno b (.inl ⟨vc5,hib⟩)) fun b hib=>hno b (.inr ⟨by rw[hb];trivial,hib⟩)
        exact .c _ _ (RepC.rows (fr:=true) this (fun _=>rfl) ha.1)
      · cases h
    · cases h
  |.ap i sz k off, lv', p, v, h, ha, hr => by
    simp only[cmp] at h
    split at h
    · obtain ⟨h1,rfl⟩:=zb6 h
      simp only[oc] at h1
      have e:=oo h1.1
      subst e
      have e:=oo h1.2.1
      subst e
      have e:=ha.1
      subst e
      obtain⟨b,hb,hk,rfl⟩:=hr.ap_inv
      have:=RepV.ap (w:=w) (B:=w0.heap.size) (X:=X') (E:=envG g E) _ sz k off b (by rw[zmh h1.2.2];exact hb) (by rw[zmh h1.2.2];exact hk)
      rw[zmh h1.2.2] at this
      exact this
    · cases h
  |.mp i, lv', p, v, h, ha, hr => by
    simp only[cmp] at h
    split at h
    · obtain ⟨h1,rfl⟩:=zb6 h
      obtain⟨b,hb,rfl⟩:=hr.mp_inv
      exact .mp _ b (by rw[zmh h1];exact hb)
    · cases h
  |.k b o, lv', p, v, h, ha, hr => by
    simp only[cmp] at h
    split at h
    · obtain ⟨h1,rfl⟩:=zb6 h
      simp only[oc] at h1
      have e:=oo h1.1
      subst e
      have e:=oo h1.2
      subst e
      rw[hr.k_inv]
      exact .c _ _ (.k b o)
    · cases h
  |.er b, lv', p, v, h, ha, hr => by
    simp only[cmp] at h
    split at h
    · cases h
      have e:=ha.1
      subst e
      have hc:=hr.er_inv
      cases hc with
      |er _ _ h0 h1=>exact .c _ _ (.er b v h0 h1)
    · cases h
  |.fv, lv', p, v, h, ha, hr => by
    simp only[cmp] at h
    split at h
    · have hc:=hr.fv_inv
      cases hc with
      |fv f cs=>exact .c _ _ (.fv f cs)
      |fv0=>exact .c _ _ .fv0
    · cases h
  |.any, lv', p, v, h, ha, hr => by
    simp only[cmp] at h
    split at h
    · have hc:=hr.any_inv
      cases hc with
      |any A n c=>exact .c _ _ (.any A n c)
    · cases h
  |.ifc i x, lv', p, v, h, ha, hr => by
    simp only[cmp] at h
    split at h
    · split at h
      · rename_i q hq
        obtain⟨h1,rfl⟩:=zb6 h
        have e:=oo h1
        subst e
        obtain⟨u,rfl,hu⟩:=hr.ifc_inv
        exact .ifc i _ u (zgn hs hx hz hq ha hu)
      · cases h
    · cases h
  |.whn b x, lv', p, v, h, ha, hr => by
    obtain⟨k1,k2⟩:=hr.agg_undef
    simp only[cmp] at h
    split at h
    · split at h
      · rename_i q hq
        cases h
        have e:=ha.1
        subst e
        exact .whn _ _ _ (fun hb=>zgn hs hx hz hq (All.map_imp ha.2 hb) (k1 hb)) k2
      · cases h
    · split at h
      · rename_i q hq
        cases h
        exact zgn hs hx hz hq ha.2 (k1 ha.1)
      · cases h
theorem zhu(hs : Sat N w0 X0 σ E a w)(hx : ∀b, X' b → Own σ E X0 b)(hz : ∀i c, fz i = some c → σ.blk i = some c ∧ ∀b, OwnAt σ.blk E i b → ¬X' b) : ∀{l l' : List LV} {p : List Prop}, cmpL g fz l l' = some p → All p →
    l.length=l'.length∧∀(i:Nat) lv',l'[i]?=some lv'→∃lv,l[i]?=some lv∧∀v,RepV w w0.heap.size (Own σ E X0) E lv v→RepV w w0.heap.size X' (envG g E) lv' v
  |[], l', p, h, ha => by
    cases l' with
    |nil=>exact⟨rfl,fun i x hx=>by simp at hx⟩
    |cons y l'=>simp[cmpL] at h
  |x :: l, l', p, h, ha => by
    cases l' with
    |nil=>simp[cmpL] at h
    |cons y l' =>
      simp only[cmpL] at h
      split at h
      · rename_i q1 q2 h1 h2
        cases h
        obtain⟨a1,a2⟩:=All.append.1 ha
        obtain⟨k1,k2⟩:=zhu hs hx hz h2 a2
        refine⟨by simp[k1],fun i z hz'=>?_⟩
        cases i with
        |zero=>simp at hz';subst hz';exact⟨x,vdj,fun v hv=>zgn hs hx hz h1 a1 hv⟩
        |succ i=>simpa using k2 i z (by simpa using hz')
      · cases h
end
end

def z4b(wd n n':Nat)(rows rows':Nat→NR):Prop:=n=n'∧∀k,k<cN wd n→rows k=rows' k
def z5f(wd d len : Nat)(row : Nat → List LV)(n n' : Nat)(rows rows' : Nat → NR) : Prop :=
  n=n'∧∃k0,k0<cN wd n∧rows k0=.out d∧rows' k0=.row len row∧∀k,k<cN wd n→k≠k0→rows k=rows' k∧∀id,rows' k≠.out id
def cmpB(g : List (Nat × Option Nat))(fz : Nat → Option BC)(o : Option (Option Nat))(sb : Nat → Option BC)(pt : Option Nat) : BC → Option (List Prop)
  | .var cs' => match o with
    | some (some j) => match sb j with
      |some (.var cs)=>cmpL g fz cs cs'
      |_=>none
    |_=>none
  | .arr sz' n' row' => match o with
    | some (some j) => match sb j with
      |some (.arr sz n row)=>opt (Nat.beq sz sz') [zc5 n n' row row']
      |_=>none
    |some none=>some [n'=0]
    |none=>none
  | .mp kd' m' => match o with
    | some (some j) => match sb j with
      |some (.mp kd m)=>some [kd=kd'∧m=m']
      |_=>none
    |_=>none
  | .nest wd' clt sz' n' rows' => match o with
    | some (some j) => match sb j with
      | some (.nest wd cl sz n rows) => match pt with
        |none=>opt (Nat.beq sz sz'&&(Nat.beq wd wd'&&(cl&&clt))) [z4b wd n n' rows rows']
        | some d => match sb d with
          |some (.arr szd len row)=>opt (Nat.beq sz sz'&&(Nat.beq szd sz&&(Nat.beq wd wd'&&clt))) [z5f wd d len row n n' rows rows']
          |_=>none
      |_=>none
    |some none=>opt clt [n'=0]
    |none=>none
  | .bld T' e' s' => match o with
    | some (some j) => match sb j with
      | some (.bld T e s) => match pt with
        |none=>opt (Nat.beq T T'&&Nat.beq e e') [s=s']
        |some _=>none
      |_=>none
    |_=>none
def zkf(g : List (Nat × Option Nat))(fz : Nat → Option BC)(sl : Nat → Option LV) : List (Nat × LV) → Option (List Prop)
  |[]=>some []
  | x :: r => match sl x.1 with
    | some lv => match cmp g fz lv x.2, zkf g fz sl r with
      |some p,some q=>some (p++q)
      |_,_=>none
    |none=>none
def zjy(g : List (Nat × Option Nat))(fz : Nat → Option BC)(sb : Nat → Option BC) : List (Nat × BC) → Option (List Prop)
  |[]=>some []
  | x :: r => match cmpB g fz (look g x.1) sb (putOf g x.1) x.2, zjy g fz sb r with
    |some p,some q=>some (p++q)
    |_,_=>none
def mentsB(u : Nat → Bool) : BC → Bool
  |.var cs=>zf8 u cs
  |.arr _ _ _=>true
  |.mp _ _=>true
  |.nest _ _ _ _ _=>true
  |.bld _ _ _=>true
def zgf(g : List (Nat × Option Nat))(x : Nat × BC) : List Nat :=
  match look g x.1 with
  | some (some j) => match x.2 with
    | .nest _ _ _ _ _ => match putOf g x.1 with
      |some d=>[j,d]
      |none=>[j]
    |_=>[j]
  |_=>[]
def imgs(g : List (Nat × Option Nat)) : List (Nat × BC) → List Nat
  |[]=>[]
  |x :: r=>zgf g x++imgs g r
def disjB(l m:List Nat):Bool:=l.all fun i=>!mem m i
theorem z3k{l m:List Nat}(h:disjB l m=true){k:Nat}(h1:k∈l)(h2:k∈m):False:=by have:=o4.1 h k h1;rw[mem_iff.2 h2] at this;cases this
def fzOf(im:List Nat)(sb:Nat→Option BC):Nat→Option BC:=fun i=>bif mem im i then none else sb i
def pinOk(g : List (Nat × Option Nat))(i : Nat) : Bool := !Nat.ble 900000 i || match look g i with
  |some (some k)=>Nat.beq k i
  |_=>false
def okT(g : List (Nat × Option Nat))(T : St) : Bool :=
  T.blks.all (fun x=>memU T.used x.1&&(mentsB (memU T.used) x.2&&(pinOk g x.1&&(zis (zgf g x)&&T.blks.all fun y=>Nat.beq x.1 y.1||disjB (zgf g x) (zgf g y)))))&&T.slots.all fun x=>zgj (memU T.used) x.2
def leS(g : List (Nat × Option Nat))(S T : St) : Option (List Prop) :=
  bif okT g T then
    match zkf g (fzOf (imgs g T.blks) (look S.blks)) (look S.slots) T.slots,zjy g (fzOf (imgs g T.blks) (look S.blks)) (look S.blks) T.blks with
    |some p,some q=>some (p++q)
    |_,_=>none
  else none

theorem zef{α : Type} : ∀{l : List (Nat × α)} {i : Nat} {c : α}, look l i = some c → (i, c) ∈ l
  |[],i,c,h=>by simp[look] at h
  |y :: l, i, c, h => by
    rw[show(y :: l)=(y.1,y.2) :: l from rfl,zbx] at h
    by_cases e:i=y.1
    · grind
    · simp only [e] at h
      exact List.mem_cons_of_mem _ (zef h)
theorem zoz{g : List (Nat × Option Nat)}{fz : Nat → Option BC}{sl : Nat → Option LV} : ∀{l : List (Nat × LV)} {p : List Prop}, zkf g fz sl l = some p → All p → ∀x ∈ l, ∃lv q, sl x.1 = some lv ∧ cmp g fz lv x.2 = some q ∧ All q
  |[],p,h,ha,x,hx=>by cases hx
  |y :: l, p, h, ha, x, hx => by
    simp only[zkf] at h
    split at h
    · rename_i lv hlv
      split at h
      · rename_i p1 q1 h1 h2
        cases h
        obtain⟨a1,a2⟩:=All.append.1 ha
        rcases oS.1 hx with e | hx
        · grind
        · exact zoz h2 a2 x hx
      · cases h
    · cases h
theorem zjg{g : List (Nat × Option Nat)}{fz sb : Nat → Option BC} : ∀{l : List (Nat × BC)} {p : List Prop}, zjy g fz sb l = some p → All p → ∀x ∈ l, ∃q, cmpB g fz (look g x.1) sb (putOf g x.1) x.2 = some q ∧ All q
  |[],p,h,ha,x,hx=>by cases hx
  |y :: l, p, h, ha, x, hx => by
    simp only[zjy] at h
    split at h
    · rename_i p1 q1 h1 h2
      cases h
      obtain⟨a1,a2⟩:=All.append.1 ha
      rcases oS.1 hx with e | hx
      · grind
      · exact zjg h2 a2 x hx
    · cases h
theorem ztx{g : List (Nat × Option Nat)}{fz sb : Nat → Option BC}{l : List (Nat × BC)}{q : List Prop}(h : zjy g fz sb l = some q)(hq : All q){i wd sz n : Nat}{cl : Bool}{rows : Nat → NR}(hi : (i, .nest wd cl sz n rows) ∈ l) : cl = true := by
 obtain⟨pr,k1,k2⟩:=zjg h hq _ hi;simp only[cmpB] at k1;split at k1
 ·split at k1
  ·split at k1
   ·obtain ⟨k3, _⟩ := zb6 k1;grind
   split at k1
   ·obtain ⟨k3, _⟩ := zb6 k1;grind
   cases k1
  cases k1
 ·exact (zb6 k1).1
 cases k1
theorem zxm{g : List (Nat × Option Nat)} : ∀{l : List (Nat × BC)} {x : Nat × BC} {j : Nat}, x ∈ l → j ∈ zgf g x → j ∈ imgs g l
  |[],x,j,hx,h=>by cases hx
  |y :: l, x, j, hx, h => by
    rcases oS.1 hx with e | hx
    · exact List.mem_append_left _ (e ▸ h)
    · exact List.mem_append_right _ (zxm hx h)

section
variable {N:Nat} {w0 w:World} {X0:Fr} {E:Env} {a:Act} {g:List (Nat×Option Nat)} {S T:St}

theorem z0t{p q : List Prop}(hT : okT g T = true)(h1 : zkf g (fzOf (imgs g T.blks) (look S.blks)) (look S.slots) T.slots = some p)(h2 : zjy g (fzOf (imgs g T.blks) (look S.blks)) (look S.blks) T.blks = some q)(hp : All p)(hq : All q)(hs : Sat N w0 X0 S.fs E a w) : Sat N w0 X0 T.fs (envG g E) a w ∧ (∀b, Own T.fs (envG g E) X0 b → Own S.fs E X0 b) ∧ ∀i c, fzOf (imgs g T.blks) (look S.blks) i = some c → S.fs.blk i = some c ∧ ∀b, OwnAt S.fs.blk E i b → ¬Own T.fs (envG g E) X0 b := by
 simp only[okT, oc] at hT;obtain⟨t1, t2⟩ := hT;have hB : ∀i c, T.fs.blk i = some c → (∃j c', look g i = some (some j) ∧ S.fs.blk j = some c' ∧ j ∈ zgf g (i, c) ∧ (Mul (some c) → Mul (some c') ∧ ∀d, putOf g i = some d → d ∈ zgf g (i, c) ∧ ∃sz n row, S.fs.blk d = some (.arr sz n row))) ∨ (look g i = some none) := by
  intro i c hi;have hm:=zef hi;obtain⟨pr,k1,k2⟩:=zjg h2 hq _ hm;unfold cmpB at k1;cases c with
  |var cs =>
   simp only at k1;split at k1
   ·rename_i j hj;split at k1
    ·rename_i cs' hcs;exact .inl ⟨j, _, hj, hcs, by simp [zgf, hj], fun h => h.elim⟩
    cases k1
   cases k1
  |arr sz n row =>
   simp only at k1;split at k1
   ·rename_i j hj;split at k1
    ·rename_i sz' n' row' hcs;exact .inl ⟨j, _, hj, hcs, by simp [zgf, hj], fun h => h.elim⟩
    cases k1
   ·grind
   cases k1
  |mp kd m =>
   simp only at k1;split at k1
   ·rename_i j hj;split at k1
    ·rename_i kd' m' hcs;exact .inl ⟨j, _, hj, hcs, by simp [zgf, hj], fun h => h.elim⟩
    cases k1
   cases k1
  |nest wd cl sz n rows =>
   simp only at k1;split at k1
   ·rename_i j hj;split at k1
    ·rename_i wd' cl' sz' n' rows' hcs;split at k1
     ·rename_i hpt;exact .inl ⟨j, _, hj, hcs, by simp [zgf, hj, hpt], fun _ => ⟨trivial, fun d hd => by rw [hpt] at hd; cases hd⟩⟩
     rename_i d hpt;split at k1
     ·rename_i szd len row hd
      exact .inl ⟨j, _, hj, hcs, by simp [zgf, hj, hpt], fun _ => ⟨trivial, fun d' hd' => by
        rw[hpt] at hd';cases hd';exact⟨by simp[zgf,hj,hpt],szd,len,row,hd⟩⟩⟩
     cases k1
    cases k1
   ·rename_i hj; exact .inr hj
   cases k1
  |bld T e s =>
   simp only at k1;split at k1
   ·rename_i j hj;split at k1
    ·rename_i T' e' s' hcs;split at k1
     ·rename_i hpt;exact .inl ⟨j, _, hj, hcs, by simp [zgf, hj], fun _ => ⟨trivial, fun d hd => by rw [hpt] at hd; cases hd⟩⟩
     cases k1
    cases k1
   cases k1
 have hat : ∀i b, OwnAt T.fs.blk (envG g E) i b → ∃c, T.fs.blk i = some c ∧ ∃k ∈ zgf g (i, c), OwnAt S.fs.blk E k b := by
  intro i b hb;obtain⟨c,hc⟩:=oP.1 hb.ne;refine⟨c,hc,?_⟩;rcases hB i c hc with⟨j,c',g1,g2,g3,g4⟩ | g1
  ·rcases hb with ⟨_, hb⟩ | ⟨hm, j', hj', hb⟩
   ·rw [zi3 g1] at hb;exact ⟨j, g3, .inl ⟨by rw [g2]; simp, hb⟩⟩
   rw[hc] at hm;obtain⟨g5,g6⟩:=g4 hm;rw[g1] at hj';cases hj';rcases hb with hb | ⟨d,hd,hb⟩
   ·exact ⟨j, g3, .inr ⟨by rw [g2]; exact g5, hb⟩⟩
   obtain⟨q1,sz,n,row,q2⟩:=g6 d hd;exact⟨d,q1,.inl ⟨by rw[q2];simp,hb⟩⟩
  rcases hb with⟨_,hb⟩ | ⟨hm,j',hj',_⟩
  ·rw [zsu g1] at hb; cases hb
  rw[g1] at hj';cases hj'
 have hown : ∀b, Own T.fs (envG g E) X0 b → Own S.fs E X0 b := by
  intro b hb;rcases hb with h0 | ⟨i,hi⟩
  ·exact .inl h0
  obtain⟨_,_,k,_,hk⟩:=hat i b hi;exact .inr ⟨k,hk⟩
 have hz : ∀i c, fzOf (imgs g T.blks) (look S.blks) i = some c → S.fs.blk i = some c ∧ ∀b, OwnAt S.fs.blk E i b → ¬Own T.fs (envG g E) X0 b := by
  intro i c hi;unfold fzOf at hi;cases hm:mem (imgs g T.blks) i with
  |true =>rw[hm] at hi;cases hi
  |false =>
   rw[hm] at hi;refine⟨hi,fun b hb hob=>?_⟩;rcases hob with h0 | ⟨j,hj⟩
   ·exact hs.xneA h0 hb
   obtain⟨c',hc',k,hk,hkb⟩:=hat j b hj;have:=hs.injA k i b hkb hb;subst this;rw[mem_iff.2 (zxm (zef hc') hk)] at hm;cases hm
 have hblk : ∀i c, T.fs.blk i = some c → BlkOk w w0.heap.size (Own T.fs (envG g E) X0) (envG g E) i c := by
  intro i c hi;have hm:=zef hi;obtain⟨pr,k1,k2⟩:=zjg h2 hq _ hm;unfold cmpB at k1;cases c with
  |var cs =>
   simp only at k1;split at k1
   ·rename_i j hj;split at k1
    ·rename_i cs' hcs;obtain ⟨b, vs, T', e1, e2, e3, e4, e5⟩ := hs.blks j _ hcs;obtain ⟨l1, l2⟩ := zhu hs hown hz k1 k2;refine ⟨b, vs, T', by rw [zi3 hj]; exact e1, e2, e3, vdh, fun m lv v hl hv => ?_⟩;obtain ⟨lv0, m1, m2⟩ := l2 m lv hl;exact m2 v (e5 m lv0 v m1 hv)
    cases k1
   cases k1
  |mp kd m =>
   simp only at k1;split at k1
   ·rename_i j hj;split at k1
    ·rename_i kd' m' hcs;cases k1;obtain ⟨⟨rfl, rfl⟩, _⟩ := k2;obtain ⟨b, es, ck, e1, e2, e3, e4⟩ := hs.blks j _ hcs;exact ⟨b, es, ck, by rw [zi3 hj]; exact e1, e2, e3, e4⟩
    cases k1
   cases k1
  |bld T e s =>
   simp only at k1;split at k1
   ·rename_i j hj;split at k1
    ·rename_i T' e' s' hcs;split at k1
     ·rename_i hpt;obtain ⟨k3, rfl⟩ := zb6 k1;simp only [oc] at k3;have q1 := oo k3.1;have q2 := oo k3.2;subst q1; subst q2;have q3 := k2.1;subst q3;obtain ⟨b, v, p, e1, e2, e3⟩ := hs.blks j _ hcs;refine ⟨b, v, p, by rw [zi3 hj]; exact e1, e2, fun x => ?_⟩
      have : (envG g E).s i x ↔ E.s j x := ⟨fun ⟨j', hj', h⟩ => (by
          rw[hj] at hj';cases hj'
          rcases h with h | ⟨d,hd,_⟩
          · exact h
          · rw [hpt] at hd;cases hd),fun h=>⟨j,hj,.inl h⟩⟩
      rw[this];exact e3 x
     cases k1
    cases k1
   cases k1
  |arr sz n row =>
   simp only at k1;split at k1
   ·rename_i j hj;split at k1
    ·rename_i sz' n' row' hcs;obtain ⟨k3, rfl⟩ := zb6 k1;have e := oo k3;subst e;obtain ⟨e, hrow⟩ := k2.1;subst e;have hb := (hs.blks j _ hcs).sub hown;have hE : envG g E i = E j := zi3 hj;refine ⟨by rw [hE]; exact hb.1, ?_⟩;rw [hE];rcases hb.2 with f1 | ⟨b, cap, vs, T', f1, f2, f3, f4, f5, f6, f7, f8⟩
     ·exact .inl f1
     refine .inr ⟨b,cap,vs,T',f1,f2,f3,f4,f5,f6,f7,fun k hk=>?_⟩;rw[←hrow k hk];exact f8 k hk
    cases k1
   ·rename_i hj;cases k1;have e := k2.1;subst e;refine ⟨vcG, .inl ⟨vcG, vcG, rfl⟩⟩
   cases k1
  |nest wd clt sz n rows' =>
   simp only at k1;split at k1
   ·rename_i j hj;split at k1
    ·rename_i wd' cl sz' n' rows hcs;have hE : envG g E i = E j := zi3 hj;obtain ⟨ek, hsub, hn, hk⟩ := (hs.blks j _ hcs).sub hown;split at k1
     ·rename_i hpt;obtain ⟨k3, rfl⟩ := zb6 k1;simp only [oc] at k3;have e := oo k3.1;have ew := oo k3.2.1;subst e; subst ew;obtain ⟨e, hrow⟩ := k2.1;subst e;have hno : ∀ k id, k < cN wd' n' → rows' k ≠ .out id := fun k id hk => (by rw [← hrow k hk]; exact hsub.cl k3.2.2.1 k id hk);refine ⟨ek, ⟨fun b => ?_, ?_, ?_, fun _ => hno⟩, by rw [hE]; exact hn, ?_⟩
      ·have : (envG g E).s i b ↔ E.s j b := ⟨fun ⟨j', hj', h⟩ => (by
         rw[hj] at hj';cases hj'
         rcases h with h | ⟨d,hd,_⟩
         · exact h
         · rw [hpt] at hd;cases hd),fun h=>⟨j,hj,.inl h⟩⟩
       rw[this,hsub.iff b];exact⟨fun ⟨k,q1,q2,q3⟩=>⟨k,q1,by rw[←hrow k q1];exact q2,q3⟩,fun ⟨k,q1,q2,q3⟩=>⟨k,q1,by rw[hrow k q1];exact q2,q3⟩⟩
      ·intro k k' b q1 q2 q3 q4;rw [← hrow k q1] at q3;rw [← hrow k' q2] at q4;exact hsub.inj k k' b q1 q2 q3 q4
      ·intro k b q1 q2;rw [← hrow k q1] at q2;rw [hE];exact hsub.ne k b q1 q2
      rw[hE];rcases hk with f1 | ⟨b,cap,vs,T',f1,f2,f3,f4,f5,f6,f7,f8⟩
      ·exact .inl f1
      refine .inr ⟨b,cap,vs,T',f1,f2,f3,f4,f5,f6,f7,fun k hk=>?_⟩;have hf:=f8 k hk;rw[hrow k hk] at hf;exact hf.keep (oz _) (fun _ _ _=>rfl) (fun _ _ _=>rfl) (fun b hb=>.inl hb) (oz _) fun id hid=>absurd hid (hno k id hk)
     rename_i d hpt;split at k1
     ·rename_i szd len row hd;obtain ⟨k3, rfl⟩ := zb6 k1;simp only [oc] at k3;have e := oo k3.1;have e' := oo k3.2.1;have ew := oo k3.2.2.1;subst e;subst e';subst ew;obtain ⟨⟨e, k0, hk0, hout, hin, hrow⟩, _⟩ := k2;subst e;have had : ArrOk w w0.heap.size (Own T.fs (envG g E) X0) (E d) szd len row := (hs.blks d _ hd).sub hown;have hdl : S.fs.blk d ≠ none := (by rw [show S.fs.blk d = some _ from hd]; simp);have hjl : S.fs.blk j ≠ none := (by rw [show S.fs.blk j = some _ from hcs]; simp);have hjm : Mul (S.fs.blk j) := (by rw [show S.fs.blk j = some _ from hcs]; trivial);have hdj : d ≠ j := fun e => (by rw [e, show look S.blks j = _ from hcs] at hd; cases hd)
      have hdn : ∀b, (E d).b = some b → ∀k, k < cN wd' n' → (rows k).isRow → (ek k).b = some b → False := fun b hb k q1 q2 q3 =>
        hdj (hs.injA d j b (.inl ⟨hdl,hb⟩) (.inr ⟨hjm,(hsub.iff b).2 ⟨k,q1,q2,q3⟩⟩))
      let ek' : Nat → EI := fun k => if k = k0 then E d else ek k;have e0 : ek' k0 = E d := (by simp[ek']);have e1 : ∀k, k ≠ k0 → ek' k = ek k := fun k h => (by simp[ek', h]);have hr1 : ∀k, k < cN wd' n' → k ≠ k0 → (rows' k).isRow → (rows k).isRow := fun k q1 q2 q3 => (by rw[(hrow k q1 q2).1]; exact q3);have hno : ∀k id, k < cN wd' n' → rows' k ≠ .out id := fun k id hk => by
       by_cases hne:k=k0
       ·rw [hne, hin]; simp
       exact(hrow k hk hne).2 id
      refine⟨ek',⟨fun b=>?_,?_,?_,fun _=>hno⟩,by rw[hE];exact hn,?_⟩
      ·constructor
       ·rintro ⟨j', hj', h⟩;rw [hj] at hj'; cases hj';rcases h with h | ⟨d', hd', h⟩
        ·obtain ⟨k, q1, q2, q3⟩ := (hsub.iff b).1 h;have hne : k ≠ k0 := fun e => (by rw [e, hout] at q2; exact q2.elim);exact ⟨k, q1, by rw [← (hrow k q1 hne).1]; exact q2, by rw [e1 k hne]; exact q3⟩
        rw[hpt] at hd';cases hd';exact⟨k0,hk0,by rw[hin];trivial,by rw[e0];exact h⟩
       rintro⟨k,q1,q2,q3⟩;by_cases hne:k=k0
       ·subst hne;rw [e0] at q3;exact ⟨j, hj, .inr ⟨d, hpt, q3⟩⟩
       rw[e1 k hne] at q3;exact⟨j,hj,.inl ((hsub.iff b).2 ⟨k,q1,hr1 k q1 hne q2,q3⟩)⟩
      ·intro k k' b q1 q2 q3 q4 q5 q6;by_cases hne : k = k0
       ·by_cases hne' : k' = k0
        ·rw [hne, hne']
        subst hne;rw[e0] at q5;rw[e1 k' hne'] at q6;exact(hdn b q5 k' q2 (hr1 k' q2 hne' q4) q6).elim
       by_cases hne':k'=k0
       ·subst hne';rw [e0] at q6; rw [e1 k hne] at q5;exact (hdn b q6 k q1 (hr1 k q1 hne q3) q5).elim
       rw[e1 k hne] at q5;rw[e1 k' hne'] at q6;exact hsub.inj k k' b q1 q2 (hr1 k q1 hne q3) (hr1 k' q2 hne' q4) q5 q6
      ·intro k b q1 q2 q3 q4;rw [hE] at q4;by_cases hne : k = k0
       ·subst hne;rw [e0] at q3;exact hdj (hs.injA d j b (.inl ⟨hdl, q3⟩) (.inl ⟨hjl, q4⟩))
       rw[e1 k hne] at q3;exact hsub.ne k b q1 (hr1 k q1 hne q2) q3 q4
      rw[hE];rcases hk with f1 | ⟨b,cap,vs,T',f1,f2,f3,f4,f5,f6,f7,f8⟩
      ·exact .inl f1
      refine .inr ⟨b,cap,vs,T',f1,f2,f3,f4,f5,f6,f7,fun k hk=>?_⟩;have hf:=f8 k hk;by_cases hne:k=k0
      ·subst hne;rw [hout] at hf;rw [hin, e0];exact ⟨hf, had⟩
      rw[e1 k hne,←(hrow k hk hne).1];exact hf.keep (oz _) (fun _ _ _=>rfl) (fun _ _ _=>rfl) (fun b hb=>.inl hb) (oz _) fun id hid=>absurd ((hrow k hk hne).1 ▸ hid) ((hrow k hk hne).2 id)
     cases k1
    cases k1
   ·rename_i hj;obtain ⟨_, rfl⟩ := zb6 k1;have e := k2.1;subst e;have z : ∀ k, ¬ k < cN wd 0 := fun k hk => (by rw [zsy] at hk; exact oQ _ hk);refine ⟨fun _ => eiNil, ⟨fun b => ⟨fun ⟨j', hj', _⟩ => (by rw [hj] at hj'; cases hj'), fun ⟨k, q1, _⟩ => absurd q1 (z _)⟩, fun k _ _ q1 => absurd q1 (z _), fun k _ q1 => absurd q1 (z _), fun _ k _ q1 => absurd q1 (z _)⟩, vcG, .inl ⟨vcG, vcG, rfl⟩⟩
   cases k1
 refine⟨⟨hs.size,hs.defers,hs.below,?_,?_,?_,?_,?_,?_,?_,fun b o hb=>⟨(hs.baseA b o hb).1,fun i hi=>?_⟩,hs.bown,fun i ei hp hi=>?_,fun i hi=>?_,hs.szf,hs.gh,hs.xge⟩,hown,hz⟩
 ·intro t lv ht;obtain ⟨lv0, pr, k1, k2, k3⟩ := zoz h1 hp _ (zef ht);exact zgn hs hown hz k2 k3 (hs.slots t lv0 k1)
 ·exact hblk
 ·intro i j b hi hj;obtain ⟨c, hc, k, hk, hkb⟩ := hat i b hi;obtain ⟨d, hd, l, hl, hlb⟩ := hat j b hj;have := hs.injA k l b hkb hlb;subst this;have q1 := o4.1 t1 _ (zef hc);simp only [oc] at q1;have q2 := o4.1 q1.2.2.2.2 _ (zef hd);simp only [oj] at q2;rcases q2 with q2 | q2
  ·exact oo q2
  exact(z3k q2 hk hl).elim
 ·intro i hi;obtain ⟨c, hc⟩ := oP.1 hi;have q1 := o4.1 t1 _ (zef hc);simp only [oc] at q1;exact q1.1
 ·intro t lv id ht hm;exact zdh hm (o4.1 t2 _ (zef ht))
 ·intro i cells lv id hi hl hm;have q1 := o4.1 t1 _ (zef hi);simp only [oc] at q1;exact zdh hm (zcz q1.2.1 lv hl)
 ·intro i wd cl sz n rows k id hi hk hr;obtain ⟨ek9, hs9, _⟩ := hblk i _ hi;exact absurd hr (hs9.cl (ztx h2 hq (zef hi)) k id hk)
 ·obtain ⟨_, _, k, _, hk⟩ := hat i b hi;exact (hs.baseA b o hb).2 k hk
 ·have h9 : 900000 ≤ i := by
   rcases o0 i 900000 with h | h
   ·rw [X0.low i h] at hp; cases hp
   exact h
  obtain⟨c,hc⟩:=oP.1 hi;have q1:=o4.1 t1 _ (zef hc);simp only[oc,pinOk,o3 h9,Bool.not_true,Bool.false_or] at q1;have q2:=q1.2.2.1;rcases hB i c hc with⟨j,c',g1,g2,_⟩ | g1
  ·rw [g1] at q2;have := oo q2;subst this;rw [zi3 g1];exact hs.pin j ei hp (by rw [g2]; simp)
  rw[g1] at q2;cases q2
 simp[St.fs,memU,o3 hi]

theorem H.le(hs : H N w0 X0 S a w)(g : List (Nat × Option Nat)){vcs : List Prop}(h : leS g S T = some vcs)(ha : All vcs) : H N w0 X0 T a w := by
 obtain⟨E,hs⟩:=hs;obtain⟨hT,h⟩:=zec h;split at h
 ·rename_i p q h1 h2;cases h;obtain ⟨a1, a2⟩ := All.append.1 ha;exact ⟨_, (z0t hT h1 h2 a1 a2 hs).1⟩
 cases h
end
end Go.Lite
