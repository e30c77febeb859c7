/- The operations of LiteD are sound. Conditions: none; over any program. -/
import Derived.Test.YtnphfelaffdmkaaGreatDoorLiteD
set_option linter.unusedVariables false
set_option linter.unusedSimpArgs false
namespace Go.Lite
open Go Go.RowKit
open _root_.List renaming getElem_mem→Ya, getElem?_toArray→Yf, mem_append→yx, mem_of_mem_take→Yp, mem_of_mem_drop→Yo, eq_nil_of_length_eq_zero→Yz, mem_cons_of_mem→YL, replicate→yw, getElem?_map→Ym, getElem?_take→YA, getElem?_drop→YB, range→yI, map_cons→YH, mem_map→Y9, length_map→Yx, getElem?_cons_zero→Yl, mem_append_right→Y7
open _root_.Nat renaming add_zero→Yv, add_assoc→Yt, beq→yv, succ_mul→Yc, mul_comm→Y2, mod_eq_of_lt→YZ, ble→yy, le_mul_of_pos_right→YO, eq_zero_or_pos→wi, add_mul→Ys, blt→Yu, zero_add→yA, beq_refl→Yy, mul_one→wc, zero_mul→YG, one_mul→Y0
open Go.World renaming cell?→Yj
open _root_.Array renaming range→YR, toList_map→YQ, getElem?_append_left→Yk, getElem?_toList→Ye, getD_eq_getD_getElem?→yY
open _root_.Option renaming map_some→Yw, map_none→YT, getD_some→YD, some→YN
open _root_.Inhabited renaming default→wl

section
variable {w:World} {B:Nat} {X:Nat→Prop} {E:Env} {v:Value}
theorem zjx{lv : LV}(h1 : isOne lv = true)(h : RepV w B X E lv v) : v.oneCell' = true ∧ v.cells = #[v] := by
 cases h with
 |c _ _ h =>cases h<;>first|(simp[isOne] at h1;done)|exact⟨rfl,rfl⟩|(rename_i b hb0 hb1;cases b with|false=>(have e:=hb0 rfl;subst e;exact⟨rfl,rfl⟩)|true=>(obtain⟨t,u,rfl⟩:=hb1 rfl;exact⟨rfl,rfl⟩))
 |vp =>exact⟨rfl,rfl⟩
 |own =>exact⟨rfl,rfl⟩
 |ap =>exact⟨rfl,rfl⟩
 |mp =>exact⟨rfl,rfl⟩
 |clo =>exact⟨rfl,rfl⟩
 |agg =>simp[isOne] at h1
 |tup =>simp[isOne] at h1
 |whn =>simp[isOne] at h1
 |ifc =>exact⟨rfl,rfl⟩

theorem zey{lv : LV}{cs : List LV}(h : zhy lv = some cs)(hr : RepV w B X E lv v) : v.cells.size = cs.length ∧ (∀(j : Nat) x u, cs[j]? = some x → v.cells[j]? = some u → RepV w B X E x u) ∧ (∀x ∈ cs, isOne x = true) ∧ (∀x ∈ cs, ∀id, Ment x id → Ment lv id) := by
 unfold zhy at h;split at h
 ·rename_i l;cases ha : l.all isOne with
  |false =>rw[ha] at h;cases h
  |true =>rw[ha] at h;simp only[oC,oo] at h;subst h;obtain⟨vs,rfl,hl,hh⟩:=hr.agg_inv;exact⟨hl,hh,fun x hx=>o0.1 ha x hx,fun x hx id hm=>.agg l x id hx hm⟩
 ·cases h
 ·cases h
 rename_i h1 h2 h3;have ho:isOne lv=true:=by cases lv<;>first|rfl|exact absurd rfl (h1 _)|exact absurd rfl (h2 _)|exact absurd rfl (h3 _ _)
 obtain⟨_,hc⟩:=zjx ho hr;grind

theorem zh2(l : List LV)(off : Nat)(xs : List LV)(j : Nat)(hl : off + xs.length ≤ l.length) : (zcf l off xs)[j]? = if off ≤ j ∧ j < off + xs.length then xs[j - off]? else l[j]? := by
 unfold zcf;have ht:(l.take off).length=off:=vbY
 by_cases h1:j<off
 ·grind
 grind
theorem zcz(l:List LV)(off:Nat)(xs:List LV)(hl:off+xs.length≤l.length):(zcf l off xs).length=l.length:=by unfold zcf;simp;omega

theorem zdo(cur : List Value)(off : Nat)(xs : List Value)(j : Nat)(hl : off + xs.length ≤ cur.length) : (cur.take off ++ xs ++ cur.drop (off + xs.length))[j]? = if off ≤ j ∧ j < off + xs.length then xs[j - off]? else cur[j]? := by
 have ht:(cur.take off).length=off:=vbY
 by_cases h1:j<off
 ·grind
 grind
end

section mop
variable {P:Program} {N:Nat} {w0:World} {X0:Fr} {σ:FS} {E:Env} {a:Act} {w:World}

def MOk(P : Program)(N : Nat)(w0 : World)(X0 : Fr)(σ : FS)(a : Act)(w : World)(o : Oper)(D : MD) : Prop :=
  ∀ (K : Act → World → Prop) (Q : Exit → Act → World → Prop), (∀ v w' E', Sat N w0 X0 (σ.upd D.K D.ub) E' a w' → (D.dst = none → v = undef) →
      (∀lv,D.dst=some lv→RepV w' w0.heap.size (Own (σ.upd D.K D.ub) E' X0) E' lv v∧∀id,Ment lv id→(σ.upd D.K D.ub).used id=true)→K (a.put o.dst v) w')→o.wp P a w K Q

theorem zbe{o:Oper}{v:Value}{w':World}(h:(execOp a.eval o).run P w=.ok (.value v) w'){K:Act→World→Prop}{Q:Exit→Act→World→Prop}(hk:K (a.put o.dst v) w'):o.wp P a w K Q:=by unfold Oper.wp;rw[h];exact hk
theorem zme{o:Oper}{w':World}(h:(execOp a.eval o).run P w=.ok .skip w'){K:Act→World→Prop}{Q:Exit→Act→World→Prop}(hk:K (a.put o.dst undef) w'):o.wp P a w K Q:=by unfold Oper.wp;rw[h];exact hk

theorem zlw(hs:Sat N w0 X0 σ E a w){o:Oper}{d:Nat}{T:TypeId}{vs:Array Value}{cs:List LV}(hrun:(execOp a.eval o).run P w=.ok (.value (.pointer (some ⟨w.heap.size,0,none⟩))) (w.alloc (.cells vs T)))(hi:σ.used d=false)(hl:vs.size=cs.length)(hr:∀(j:Nat) x u,cs[j]?=some x→vs[j]?=some u→RepV w w0.heap.size (Own σ E X0) E x u)(hm:∀x∈cs,∀id,Ment x id→σ.used id=true)(nw:List Nat)(p:List Prop):MOk P N w0 X0 σ a w o ⟨some (.vp d 0),noK,oneB d (.var cs),nw,p⟩:=by intro K Q hk;obtain⟨E',h1,h2⟩:=hs.newVar hi vs T cs hl hr hm;refine zbe hrun (hk _ _ E' h2 (fun h=>vbU) fun lv hlv=>?_);cases hlv;exact⟨.vp d 0 w.heap.size h1,fun id hmm=>vbi⟩

theorem zbs{T : Nat}{cs : List LV}(h : zeroL P T = some cs) : ∃i z, P.info? T = some i ∧ i.zero = some z ∧ z.cells.size = cs.length ∧ ∀{w : World} {B : Nat} {X : Nat → Prop} (j : Nat) x u, cs[j]? = some x → z.cells[j]? = some u → RepC w B X x u := by
 unfold zeroL at h;split at h
 ·rename_i i hi;split at h
  ·rename_i z hz;refine ⟨i, z, hi, hz, ?_, fun {w} {B} {X} j x u hx hu => ?_⟩
   ·have := (zf1 (w := wl) (B := 0) (X := fun _ => False) h).1;grind
   exact(zf1 (w:=w) (B:=B) (X:=X) h).2 j x u hx (by simpa using hu)
  cases h
 cases h

theorem zlr : ∀{vs : List Value} {l : List LV}, zir vs = some l → ∀x ∈ l, isOne x = true
  |[],l,h,x,hx=>by cases h;simp at hx
  |v :: r, l, h, x, hx => by
    simp only[zir] at h
    split at h
    · rename_i y ys h1 h2
      cases h
      rcases oQ.1 hx with hx | hx
      · subst hx
        unfold ofVal at h1
        split at h1<;>cases h1<;>rfl
      · exact zlr h2 x hx
    · cases h
theorem zg5{T : Nat}{cs : List LV}(h : zeroL P T = some cs) : ∀x ∈ cs, isOne x = true := by
 unfold zeroL at h;split at h
 ·split at h
  ·exact zlr h
  cases h
 cases h
theorem zcr{b:Nat}{cs:Array Value}(hb:Below w0.heap.size w0 w)(h:w0.heap.size≤b):Below w0.heap.size w0 (w.setRow b cs):=hb.trans ⟨rfl,rfl,rfl,vbZ,fun k hk=>setRow_other w b k cs vbX⟩

theorem zmy(hs : Sat N w0 X0 σ E a w){o : Oper}{T : Nat}{x y : Operand}(ho : o.op = .store T x y)(hd : o.dst = none){id off n : Nat}{cs vs : List LV}{v : LV}(hx : RepV w w0.heap.size (Own σ E X0) E (.vp id off) (a.eval x))(hy : RepV w w0.heap.size (Own σ E X0) E v (a.eval y))(hym : ∀i, Ment v i → σ.used i = true)(hz : szOf P T = some n)(hb : σ.blk id = some (.var cs))(hv : zhy v = some vs)(hn : vs.length = n)(hle : off + n ≤ cs.length)(p : List Prop) : MOk P N w0 X0 σ a w o ⟨none, noK, oneB id (.var (zcf cs off vs)), [], p⟩ := by
 intro K Q hk;obtain⟨c1,c2,c3,c4⟩:=zey hv hy;obtain⟨b,g1,g2⟩:=hx.vp_inv;obtain⟨b',us,T',k1,k2,k3,k4,k5⟩:=hs.blks id _ hb;rw[g1] at k1;cases k1;have hcells:∀u∈(a.eval y).cells.toList,u.oneCell'=true:=fun u hu=>by obtain⟨j,hj,e⟩:=oX hu;have hj':j<vs.length:=vbY;have hju:(a.eval y).cells[j]?=some u:=vbY;exact(zjx (c3 _ (Ya hj')) (c2 j vs[j] u (oj hj') hju)).1
 have hlen:(a.eval y).cells.toList.length=n:=by simp[c1,hn]
 have hfit:off+0+(a.eval y).cells.toList.length≤us.size:=vbX
 have hst:=run_storeCells_at P b off T' (a.eval y).cells.toList 0 us w k3 hfit hcells;have hrun:(execOp a.eval o).run P w=.ok .skip (w.setRow b (us.toList.take (off+0)++(a.eval y).cells.toList++us.toList.drop (off+0+(a.eval y).cells.toList.length)).toArray):=by simp only[execOp,ho,oD,g2,Instr.storeAt,Instr.sureAddr,oJ,ow,storeVar,zba hz,c1,hn,ne_eq,not_true_eq_false,if_false,hst]
 have hgetv:∀j:Nat,(us.toList.take (off+0)++(a.eval y).cells.toList++us.toList.drop (off+0+(a.eval y).cells.toList.length)).toArray[j]?=if off≤j∧j<off+n then(a.eval y).cells[j - off]? else us[j]?:=fun j=>by simp only[Yf,Yv];rw[zdo _ _ _ _ vbP,hlen];simp
 generalize(us.toList.take (off + 0) ++ (a.eval y).cells.toList ++ us.toList.drop (off + 0 + (a.eval y).cells.toList.length)).toArray = news at hrun hgetv;have hsz : news.size = us.size := by
  have h1:=hgetv us.size;rcases Nat.lt_trichotomy news.size us.size with h | h | h
  ·have h3 := hgetv news.size;grind
  ·exact h
  rw[oL h] at h1;split at h1
  ·omega
  rw[Array.getElem?_eq_none (ou _)] at h1;cases h1
 have hown : ∀b', Own (σ.upd noK (oneB id (.var (zcf cs off vs)))) (E.setF (one id (.var (zcf cs off vs)) (E id))) X0 b' → Own σ E X0 b' := fun b'' hbo => by
  rcases zd2 zu3 hbo with hq | hq
  ·exact hq
  exact .inr ⟨id,.inl ⟨vbM,hq⟩⟩
 have hE : ∀i, (E.setF (one id (.var (zcf cs off vs)) (E id))) i = E i := fun i => by
  by_cases e:i=id
  ·subst e; simp [Env.setF, one]
  simp[Env.setF,one,e]
 have hkeep:∀b',b'<w.heap.size→¬Own σ E X0 b'→(w.setRow b news).heap[b']?=w.heap[b']?:=fun b' _ hno=>setRow_other w b b' news (fun e=>hno (.inr ⟨id,.inl ⟨vbM,vbE⟩⟩));refine zme hrun (hk undef _ (E.setF (one id (.var (zcf cs off vs)) (E id))) ?_ (fun _=>rfl) fun lv h=>vbU);rw[←za6 id (.var (zcf cs off vs)) (E id),←FS.setF_eq];refine hs.set noK id _ (E id) (.inr ⟨rfl,vbM⟩) vbZ (fun b' hb' hno=>setRow_other w b b' news fun e=>hno id (.inl rfl) vbM vbE) (fun b' hb'=>.inr ⟨id,.inl rfl,vbM,hb'⟩) (zcr hs.below k2) (fun cells lv i hc hlv hm=>?_) ?_
 ·cases hc;right;have : lv ∈ cs ∨ lv ∈ vs := by
   rcases yx.1 hlv with h | h
   ·exact .inl (Yp h)
   rcases yx.1 h with h | h
   ·exact .inr h
   exact .inl (Yo h)
  rcases this with h | h
  ·exact hs.wfb id cs lv i hb h hm
  exact hym i (c4 lv h i hm)
 refine⟨b,news,T',by rw[hE];exact g1,k2,setRow_heap w b us news T' (0,0) k3,by rw[zcz _ _ _ vbX,hsz,k4],fun j lv u hj hu=>?_⟩;rw[zh2 _ _ _ _ vbX,hn] at hj;rw[hgetv] at hu;rw[FS.setF_eq,za6];refine RepV.keep (X:=Own σ E X0) (E:=E) (w:=w) ?_ vbZ hkeep (fun b' hb'=>.inl (hown b' hb')) fun i _=>hE i;by_cases hc:off≤j∧j<off+n
 ·rw [if_pos hc] at hj hu; exact c2 _ lv u hj hu
 rw[if_neg hc] at hj hu;exact k5 j lv u hj hu

theorem zm5(hs : Sat N w0 X0 σ E a w){X' : Nat → Prop}(h1 : ∀b, X' b → Own σ E X0 b){v x : LV}{is : List Nat}(hf : frz σ.blk v = some (x, is))(h2 : ∀k ∈ is, ∀b, (E k).b = some b → ¬X' b){u : Value}(hr : RepV w w0.heap.size (Own σ E X0) E v u) : RepC w w0.heap.size X' x u := by
 unfold frz at hf;split at hf
 ·rename_i id;split at hf
  ·rename_i sz n row hb;cases hf;have e := hr.own_inv;subst e;obtain ⟨hn, hk⟩ := hs.blks id _ hb;rcases hk with ⟨_, k2, k3⟩ | ⟨b, cap, vs, T', k1, k2, k3, k4, k5, k6, k7, k8⟩
   ·subst k3;rw [k2];exact .ro true sz 0 _ none ⟨0, 0, none⟩ 0 (fun _ _ => undef) (ou _) (fun h => absurd h vbX) (fun h => absurd h vbX) (fun h => absurd h vbX) (fun h => absurd h vbX) (fun i hi => absurd hi vbX) (fun i hi => absurd hi vbX) (fun i j hi => absurd hi vbX) fun i j lv hi => absurd hi vbX
   rw[k2];have hbd:∀i j,i<n→j<sz→(E id).off+i * sz+j<vs.size:=fun i j hi hj=>vaJ;refine .ro true sz n _ (some ⟨b,(E id).off,none⟩) ⟨b,(E id).off,none⟩ cap (fun i j=>vs.getD ((E id).off+i * sz+j) undef) k5 (fun _=>rfl) (fun _=>(oI.1 k4).1) (fun _=>h2 id vbZ b k1) (fun _ _=>k3) (fun i hi=>(k8 i hi).1) (fun i hi=>(k8 i hi).2.1) (fun i j hi hj=>?_) fun i j lv hi hl=>?_
   ·rw [za1, ← Yt];have := hbd i j hi hj;simp [Yj, k4, this]
   have hj:j<sz:=vbY;have:=hbd i j hi hj;exact((k8 i hi).2.2 j lv (vs.getD ((E id).off+i * sz+j) undef) hl (by simp[this])).keep (ou _) (fun _ _ _=>rfl) (fun b' hb'=>.inl (h1 b' hb')) (ou _)
  cases hf
 ·cases hf; rw [hr.int_inv]; exact .int _ _
 ·cases hf; rw [hr.bool_inv]; exact .bool _
 ·cases hf; rw [hr.str_inv]; exact .str _
 ·cases hf; exact hr.ro_inv.keep (ou _) (fun _ _ _ => rfl) (fun b hb => .inl (h1 b hb)) (ou _)
 ·cases hf; rw [hr.nilS_inv]; exact .nilS
 ·cases hf; rw [hr.nilM_inv]; exact .nilM
 ·cases hf; rw [hr.nilP_inv]; exact .nilP
 ·cases hf; rw [hr.fn_inv]; exact .fn _
 cases hf

theorem zjc(hs : Sat N w0 X0 σ E a w){X' : Nat → Prop}(h1 : ∀b, X' b → Own σ E X0 b) : ∀{vs xs : List LV} {is : List Nat}, frzL σ.blk vs = some (xs, is) →
    (∀k∈is,∀b,(E k).b=some b→¬X' b)→xs.length=vs.length∧∀(j:Nat) x,xs[j]?=some x→∃y,vs[j]?=some y∧∀u,RepV w w0.heap.size (Own σ E X0) E y u→RepC w w0.heap.size X' x u
  |[],xs,is,h,_=>by cases h;exact⟨rfl,fun j x hx=>by simp at hx⟩
  |v :: r, xs, is, h, h2 => by
    simp only[frzL] at h
    split at h
    · rename_i x i ys js g1 g2
      cases h
      obtain⟨k1,k2⟩:=zjc hs h1 g2 (fun k hk=>h2 k (yx.2 (.inr hk)))
      refine⟨by simp[k1],fun j z hz=>?_⟩
      cases j with
      |zero=>simp at hz;subst hz;exact⟨v,vbZ,fun u hu=>zm5 hs h1 g1 (fun k hk=>h2 k (yx.2 (.inl hk))) hu⟩
      |succ j=>simpa using k2 j z (by simpa using hz)
    · cases h
theorem zhr : ∀{vs xs : List LV} {is : List Nat}, frzL σ.blk vs = some (xs, is) → ∀k ∈ is, ∃sz n row, σ.blk k = some (.arr sz n row)
  |[],xs,is,h,k,hk=>by cases h;simp at hk
  |v :: r, xs, is, h, k, hk => by
    simp only[frzL] at h
    split at h
    · rename_i x i ys js g1 g2
      cases h
      rcases yx.1 hk with hk | hk
      · unfold frz at g1
        grind
      · exact zhr g2 k hk
    · cases h

theorem zm6 : ∀{vs xs : List LV} {is : List Nat}, frzL σ.blk vs = some (xs, is) → ∀x ∈ xs, isOne x = true
  |[],xs,is,h,x,hx=>by cases h;simp at hx
  |v :: r, xs, is, h, x, hx => by
    simp only[frzL] at h
    split at h
    · rename_i y i ys js g1 g2
      cases h
      rcases oQ.1 hx with hx | hx
      · subst hx
        unfold frz at g1
        split at g1<;>(try (split at g1))<;>cases g1<;>rfl
      · exact zm6 g2 x hx
    · cases h
theorem killL_mem{l:List Nat}{j:Nat}:killL l j=true↔j∈l:=by unfold killL;simp_all

theorem zei(hs : Sat N w0 X0 σ E a w){ks : List Nat}{d : Nat}{c : BC}{ei : EI}(hc : ¬Mul (some c))(hd : d ∉ ks)(hei : (σ.blk d ≠ none ∧ ei = E d) ∨ ∃b', ei.b = some b' ∧ w.heap.size ≤ b'){k : Nat}(hk : k ∈ ks){b : Nat}(hb : OwnAt σ.blk E k b) : ¬Own (σ.upd (killL ks) (oneB d c)) (E.setF (one d c ei)) X0 b := by
 have hlt:=hs.olt hb;rintro(h | ⟨j,hj⟩)
 ·exact hs.xneA h hb
 by_cases e:j=d
 ·subst e;have hjb : ei.b = some b := by
   rcases hj with⟨_,hj⟩ | ⟨hm,_⟩
   ·simpa [Env.setF, one] using hj
   exact absurd (by simpa[FS.upd,oneB] using hm) hc
  rcases hei with⟨h1,rfl⟩ | ⟨b',h1,h2⟩
  ·have := hs.injA j k b (.inl ⟨h1, hjb⟩) hb;grind
  grind
 have hbk:(σ.upd (killL ks) (oneB d c)).blk j=if killL ks j=true then none else σ.blk j:=by simp[FS.upd,oneB,e]
 cases hkj:killL ks j with
 |true =>rw[hkj] at hbk;exact hj.ne hbk
 |false =>
  rw[hkj] at hbk;have hj' : OwnAt σ.blk E j b := by
   have hE:(E.setF (one d c ei)) j=E j:=(by simp[Env.setF,one,e]);have hS:(E.setF (one d c ei)).s j=E.s j:=(by simp[Env.setF,one,e]);rcases hj with⟨h1,h2⟩ | ⟨h1,h2⟩
   ·rw [hbk] at h1; rw [hE] at h2; exact .inl ⟨h1, h2⟩
   rw[hbk] at h1;rw[hS] at h2;exact .inr ⟨h1,h2⟩
  have:=hs.injA j k b hj' hb;subst this;rw[killL_mem.2 hk] at hkj;cases hkj

theorem zn9(hs : Sat N w0 X0 σ E a w){o : Oper}{T : Nat}{x y : Operand}(ho : o.op = .store T x y){id sz i off n m : Nat}{row row' : Nat → List LV}{vs xs : List LV}{ks : List Nat}{v : LV}(hx : RepV w w0.heap.size (Own σ E X0) E (.ap id sz i off) (a.eval x))(hy : RepV w w0.heap.size (Own σ E X0) E v (a.eval y))(hz : szOf P T = some n)(hb : σ.blk id = some (.arr sz m row))(hv : zhy v = some vs)(hf : frzL σ.blk vs = some (xs, ks))(hn : xs.length = n)(hle : off + n ≤ sz)(hki : killL ks id = false)(hrow : ∀k, k < m → row' k = bif yv k i then zcf (row k) off xs else row k)(p : List Prop) : MOk P N w0 X0 σ a w o ⟨none, killL ks, oneB id (.arr sz m row'), [], p⟩ := by
 intro K Q hk;obtain⟨c1,c2,c3,c4⟩:=zey hv hy;have hxl:=(zjc hs (X':=fun b=>Own σ E X0 b∧∀k∈ks,(E k).b≠some b) (fun b hb=>hb.1) hf (fun k hk b hkb hb=>hb.2 k hk hkb)).1;obtain⟨b,g1,gi,g2⟩:=hx.ap_inv;obtain⟨hnn,hkk⟩:=hs.blks id _ hb;rcases hkk with⟨k1,_⟩ | ⟨b',cap,us,T',k1,k2,k3,k4,k5,k6,k7,k8⟩
 ·grind
 rw[g1] at k1;cases k1;have hcells:∀u∈(a.eval y).cells.toList,u.oneCell'=true:=fun u hu=>by obtain⟨j,hj,e⟩:=oX hu;have hj':j<vs.length:=(by simpa[c1] using hj);have hju:(a.eval y).cells[j]?=some u:=vbY;exact(zjx (c3 _ (Ya hj')) (c2 j vs[j] u (oj hj') hju)).1
 have hlen:(a.eval y).cells.toList.length=n:=by simp[c1];omega
 have hibd:(E id).off+i * sz+sz≤us.size:=vaJ
 have hfit:(E id).off+i * sz+off+0+(a.eval y).cells.toList.length≤us.size:=vbX
 have hst:=run_storeCells_at P b ((E id).off+i * sz+off) T' (a.eval y).cells.toList 0 us w k4 hfit hcells;have hgetv:∀j:Nat,(us.toList.take ((E id).off+i * sz+off+0)++(a.eval y).cells.toList++us.toList.drop ((E id).off+i * sz+off+0+(a.eval y).cells.toList.length)).toArray[j]?=if(E id).off+i * sz+off≤j∧j<(E id).off+i * sz+off+n then(a.eval y).cells[j - ((E id).off+i * sz+off)]? else us[j]?:=fun j=>by simp only[Yf,Yv];rw[zdo _ _ _ _ vbu,hlen];simp
 have hszn:(us.toList.take ((E id).off+i * sz+off+0)++(a.eval y).cells.toList++us.toList.drop ((E id).off+i * sz+off+0+(a.eval y).cells.toList.length)).toArray.size=us.size:=vbu
 have hrun:(execOp a.eval o).run P w=.ok .skip (w.setRow b (us.toList.take ((E id).off+i * sz+off+0)++(a.eval y).cells.toList++us.toList.drop ((E id).off+i * sz+off+0+(a.eval y).cells.toList.length)).toArray):=by have hc1:(a.eval y).cells.size=n:=vbX;simp only[execOp,ho,oD,g2,Instr.storeAt,Instr.sureAddr,oJ,ow,storeVar,zba hz,hc1,ne_eq,not_true_eq_false,if_false,hst]
 generalize(us.toList.take ((E id).off + i * sz + off + 0) ++ (a.eval y).cells.toList ++ us.toList.drop ((E id).off + i * sz + off + 0 + (a.eval y).cells.toList.length)).toArray = news at hrun hgetv hszn;have hE : ∀j, (E.setF (one id (.arr sz m row') (E id))) j = E j := fun j => by
  by_cases e:j=id
  ·subst e; simp [Env.setF, one]
  simp[Env.setF,one,e]
 have hbid:σ.blk id≠none:=vbM
 have hidk:id ∉ ks:=fun h=>by rw[killL_mem.2 h] at hki;cases hki
 have hown : ∀b', Own (σ.upd (killL ks) (oneB id (.arr sz m row'))) (E.setF (one id (.arr sz m row') (E id))) X0 b' → Own σ E X0 b' := fun b'' hbo => by
  rcases zd2 zdv hbo with hq | hq
  ·exact hq
  exact .inr ⟨id,.inl ⟨hbid,hq⟩⟩
 have hidown:Own (σ.upd (killL ks) (oneB id (.arr sz m row'))) (E.setF (one id (.arr sz m row') (E id))) X0 b:=.inr ⟨id,.inl ⟨by simp[FS.upd,oneB],by rw[hE];exact g1⟩⟩;have hkeep:∀b',b'<w.heap.size→¬Own (σ.upd (killL ks) (oneB id (.arr sz m row'))) (E.setF (one id (.arr sz m row') (E id))) X0 b'→(w.setRow b news).heap[b']?=w.heap[b']?:=fun b' _ hno=>setRow_other w b b' news (fun e=>hno (by rw[e];exact hidown));have hfr:=(zjc hs hown hf (fun k hk b'' hkb=>zei hs zdv hidk (.inl ⟨hbid,rfl⟩) hk (.inl ⟨by obtain⟨_,_,_,hl⟩:=zhr hf k hk;rw[hl];simp,hkb⟩))).2;refine zme hrun (hk undef _ (E.setF (one id (.arr sz m row') (E id))) ?_ (fun _=>rfl) fun lv h=>vbU);rw[←za6 id (.arr sz m row') (E id),←FS.setF_eq];refine hs.set (killL ks) id _ (E id) (.inr ⟨rfl,hbid⟩) vbZ (fun b' hb' hno=>setRow_other w b b' news fun e=>hno id (.inl rfl) hbid vbE) (fun b' hb'=>.inr ⟨id,.inl rfl,hbid,hb'⟩) (zcr hs.below k3) (fun cells lv j hc hlv hm=>vbR) ?_;rw[FS.setF_eq,za6];refine⟨by rw[hE];exact hnn,.inr ⟨b,cap,news,T',by rw[hE];exact g1,by rw[hE];exact k2,k3,setRow_heap w b us news T' (0,0) k4,k5,k6,by rw[hE,hszn];exact k7,fun k hk=>?_⟩⟩;rw[hrow k hk,hE];obtain⟨hl1,hl3,hl2⟩:=k8 k hk;by_cases e:k=i
 ·subst e;have hbq : yv k k = true := vbZ
  rw[hbq,oC];refine⟨by rw[zcz _ _ _ vbX];exact hl1,fun lv hlv=>?_,fun j lv u hj hu=>?_⟩
  ·unfold zcf at hlv;rcases yx.1 hlv with h | h
   ·exact hl3 lv (Yp h)
   rcases yx.1 h with h | h
   ·exact zm6 hf lv h
   exact hl3 lv (Yo h)
  rw[zh2 _ _ _ _ vbX,hn] at hj;rw[hgetv] at hu;by_cases hc:off≤j∧j<off+n
  ·rw [if_pos hc] at hj;rw [if_pos vbX, show (E id).off + k * sz + j - ((E id).off + k * sz + off) = j - off from by omega] at hu;obtain ⟨y', hy1, hy2⟩ := hfr (j - off) lv hj;exact (hy2 u (c2 (j - off) y' u hy1 hu)).keep vbZ hkeep (fun b' hb' => .inl hb') (ou _)
  rw[if_neg hc] at hj;have hjs:j<sz:=vbj
  rw[if_neg vbX] at hu;exact(hl2 j lv u hj hu).keep vbZ (fun b' h1 h2=>setRow_other w b b' news fun e=>h2 (.inr ⟨id,.inl ⟨hbid,vbE⟩⟩)) (fun b' hb'=>.inl (hown b' hb')) (ou _)
 have hbq : yv k i = false := by
  cases h:yv k i with
  |false =>rfl
  |true =>exact absurd (om h) e
 rw[hbq,oB];refine⟨hl1,hl3,fun j lv u hj hu=>?_⟩;have hjs:j<sz:=vbj
 have hfar : ¬((E id).off + i * sz + off ≤ (E id).off + k * sz + j ∧ (E id).off + k * sz + j < (E id).off + i * sz + off + n) := by
  rcases Nat.lt_or_gt_of_ne e with h | h
  ·have h1 : k * sz + sz ≤ i * sz := (by rw [← Yc]; exact oU sz h);omega
  have h1:i * sz+sz≤k * sz:=by rw[←Yc];exact oU sz h
  omega
 rw[hgetv,if_neg hfar] at hu;exact(hl2 j lv u hj hu).keep vbZ (fun b' h1 h2=>setRow_other w b b' news fun e=>h2 (.inr ⟨id,.inl ⟨hbid,vbE⟩⟩)) (fun b' hb'=>.inl (hown b' hb')) (ou _)

theorem zlx(hs:Sat N w0 X0 σ E a w){o:Oper}{d:Nat}{T:TypeId}{vs:Array Value}{sz n cap:Nat}{row:Nat→List LV}{w1:World}(hb1:Below w.heap.size w w1)(hrun:(execOp a.eval o).run P w=.ok (.value (.slice (some ⟨w1.heap.size,0,none⟩) n cap)) (w1.alloc (.cells vs T)))(hi:σ.used d=false)(hn:n≤cap)(hcap:cap≤maxLen)(hl:cap * sz≤vs.size)(hsz:∀k,k<n→(row k).length=sz)(ho1:∀k,k<n→∀lv∈row k,isOne lv=true)(hr:∀k,k<n→∀(j:Nat) lv v,(row k)[j]?=some lv→vs[k * sz+j]?=some v→RepC w1 w0.heap.size (Own σ E X0) lv v)(nw:List Nat)(p:List Prop):MOk P N w0 X0 σ a w o ⟨some (.own d),noK,oneB d (.arr sz n row),nw,p⟩:=by intro K Q hk;obtain⟨E',h1,h2,h3⟩:=(hs.grow hb1).newArr hi vs T sz n cap row hn hcap hl hsz ho1 hr;refine zbe hrun (hk _ _ E' h3 (fun h=>vbU) fun lv hlv=>?_);cases hlv;refine⟨by rw[←h2];exact .own d,fun id hmm=>vbi⟩

theorem zzf(hs : Sat N w0 X0 σ E a w){o : Oper}{d T : Nat}{l c : Operand}(ho : o.op = .makeSlice T l c){e : Nat}(hu : P.underlying T = some (.slice e)){kl kc : IntKind}{n m : Int}(hl : RepV w w0.heap.size (Own σ E X0) E (.int kl n) (a.eval l))(hc : RepV w w0.heap.size (Own σ E X0) E (.int kc m) (a.eval c)){z : List LV}(hz : zeroL P e = some z){i : TypeInfo}(hi : P.info? e = some i)(hzi : z.length = i.size)(h0 : 0 ≤ n)(h1 : n ≤ m)(h2 : (i.bytes : Int) * m ≤ 281474976710656)(h3 : m ≤ 9223372036854775807)(hd : σ.used d = false)(nw : List Nat)(p : List Prop) : MOk P N w0 X0 σ a w o ⟨some (.own d), noK, oneB d (.arr i.size n.toNat (fun _ => z)), nw, p⟩ := by
 obtain⟨i',zv,g1,g2,g3,g4⟩:=zbs hz;rw[hi] at g1;cases g1;have hr:=run_make (P:=P) w T e i zv hu hi g2 kl kc n m h0 h1 h2 h3;refine zlx hs (w1:=w) (Below.refl _ _) (T:=e) (vs:=madeCells zv.cells (m.toNat * i.size)) (cap:=m.toNat) ?_ hd vbX vbx (by simp[size_madeCells]) (fun k _=>hzi) (fun k _=>zg5 hz) (fun k hk j lv v hj hv=>?_) nw p
 ·simp only [execOp, ho, oD, hl.int_inv, hc.int_inv, hr, ow, oJ]
 have hjs:j<i.size:=by rw[←hzi];exact(oE.1 hj).1
 have hkm:k * i.size+j<m.toNat * i.size:=by have:k * i.size+i.size≤m.toNat * i.size:=(by rw[←Yc];exact oU i.size vbX);omega
 have hmod:(k * i.size+j) % i.size=j:=by rw[Y2,Nat.mul_add_mod];exact YZ hjs
 have:v=zv.cells[j]' vbX:=by have h5:(madeCells zv.cells (m.toNat * i.size))[k * i.size+j]?=some (zv.cells[(k * i.size+j) % zv.cells.size]!):=(by simp[madeCells,hkm]);grind
 subst this;exact g4 j lv _ hj (oL vbX)

section fill
theorem zhs(off : Nat) : ∀(l : List Value) (k : Nat) (cs : Array Value), off + k + l.length ≤ cs.size → ∀m : Nat,
    ((l.zipIdx k).foldl (fun cs (x:Value×Nat)=>cs.setIfInBounds (off+x.2) x.1) cs).size=cs.size ∧
    ((l.zipIdx k).foldl (fun cs (x:Value×Nat)=>cs.setIfInBounds (off+x.2) x.1) cs)[m]?=if off+k≤m∧m<off+k+l.length then l[m - (off+k)]? else cs[m]?
  |[], k, cs, _, m => by
    refine⟨rfl,?_⟩
    rw[if_neg vbZ]
    rfl
  |x :: l, k, cs, hl, m => by
    simp only[ot] at hl
    obtain⟨h1,h2⟩:=zhs off l (k+1) (cs.setIfInBounds (off+k) x) vbP m
    simp only[List.zipIdx_cons,List.foldl_cons]
    refine⟨by rw[h1];simp,?_⟩
    rw[h2]
    by_cases hm:m=off+k
    · grind
    · by_cases hc:off+(k+1)≤m∧m<off+(k+1)+l.length
      · rw [if_pos hc,if_pos (by simp only [ot];omega)]
        rw[show m - (off+k)=(m - (off+(k+1)))+1 from by omega,List.getElem?_cons_succ]
      · rw [if_neg hc,if_neg (by simp only [ot];omega)]
        grind

theorem zft(R : LV → Value → Prop){place : Nat → Option (Nat × Nat)} : ∀(pl : List (Nat × List LV)) (pv : List (Nat × Value)) (cs : List LV) (cv : Array Value) (out : List LV),
    fillL place cs pl=some out→cv.size=cs.length→(∀(j:Nat) x u,cs[j]?=some x→cv[j]?=some u→R x u)→pv.length=pl.length →
    (∀(i:Nat) x y,pl[i]?=some x→pv[i]?=some y→x.1=y.1∧y.2.cells.size=x.2.length∧∀(j:Nat) z u,x.2[j]?=some z→y.2.cells[j]?=some u→R z u) →
    ∃ov,Instr.fill place cv pv=some ov∧ov.size=out.length∧out.length=cs.length∧∀(j:Nat) x u,out[j]?=some x→ov[j]?=some u→R x u
  |[], pv, cs, cv, out, h, hl, hr, hp, _ => by
    have:pv=[]:=Yz (by simpa using hp)
    subst this
    cases h
    exact⟨cv,rfl,hl,rfl,hr⟩
  |(i,v) :: pl,[],cs,cv,out,h,hl,hr,hp,_=>by simp at hp
  |(i, v) :: pl, (i', y) :: pv, cs, cv, out, h, hl, hr, hp, hh => by
    obtain⟨e1,e2,e3⟩:=hh 0 (i,v) (i',y) vbZ vbZ
    unfold fillL at h
    split at h
    · rename_i off sz hpl
      cases hc:(yv v.length sz&&yy (off+sz) cs.length) with
      |false=>rw[hc] at h;cases h
      |true =>
        rw[hc] at h
        simp only[oc] at hc
        have h1:=om hc.1
        have h2:=oS hc.2
        have hfold : y.cells.zipIdx.foldl (fun cs (c, j) => cs.setIfInBounds (off + j) c) cv = (y.cells.toList.zipIdx 0).foldl (fun cs (x : Value × Nat) => cs.setIfInBounds (off + x.2) x.1) cv := by
          rw[←Array.foldl_toList,Array.toList_zipIdx]
        have hyl:y.cells.toList.length=v.length:=vbY
        have hg:=zhs off y.cells.toList 0 cv vbX
        obtain ⟨ov, k1, k2, k3, k4⟩ := zft R pl pv (zcf cs off v) ((y.cells.toList.zipIdx 0).foldl (fun cs (x : Value × Nat) => cs.setIfInBounds (off + x.2) x.1) cv) out h
          (by rw[(hg 0).1,zcz _ _ _ vbX];exact hl)
          (fun j x u hx hu => by
            rw[zh2 _ _ _ _ vbX] at hx
            rw[(hg j).2] at hu
            by_cases hj:off≤j∧j<off+v.length
            · grind
            · rw [if_neg hj] at hx
              rw[if_neg vbX] at hu
              exact hr j x u hx hu)
          (by simpa using hp) (fun m x z hx hz=>hh (m+1) x z (by simpa using hx) (by simpa using hz))
        refine⟨ov,?_,k2,by rw[k3,zcz _ _ _ vbX],k4⟩
        simp only[Instr.fill,hpl]
        grind
    · cases h
end fill

theorem zce(hs : Sat N w0 X0 σ E a w) : ∀{xs : List (Nat × Operand)} {l : List (Nat × List LV)} {p : List Prop}, za9 σ.slot xs = some (l, p) → All p →
    xs.length = l.length ∧ ∀ (i : Nat) x y, l[i]? = some x → xs[i]? = some y → x.1 = y.1 ∧ (a.eval y.2).cells.size = x.2.length ∧
      (∀(j:Nat) z u,x.2[j]?=some z→(a.eval y.2).cells[j]?=some u→RepV w w0.heap.size (Own σ E X0) E z u)∧∀z∈x.2,∀id,Ment z id→σ.used id=true
  |[],l,p,h,_=>by cases h;exact⟨rfl,fun i x y h=>vbQ⟩
  |(i0, o) :: r, l, p, h, ha => by
    simp only[za9] at h
    split at h
    · rename_i v q vs q' h1 h2
      split at h
      · rename_i cs hcs
        cases h
        obtain⟨ha1,ha2⟩:=All.append.1 ha
        obtain⟨h3,h4⟩:=zce hs h2 ha2
        obtain⟨g1,g2⟩:=zae hs h1 ha1
        obtain⟨c1,c2,c3,c4⟩:=zey hcs g1
        refine⟨by simp[h3],fun i x y hx hy=>?_⟩
        cases i with
        |zero=>simp at hx hy;subst hx;subst hy;exact⟨rfl,c1,c2,fun z hz id hm=>g2 id (c4 z hz id hm)⟩
        |succ i=>exact h4 i x y (by simpa using hx) (by simpa using hy)
      · cases h
    · cases h

theorem zru(hs : Sat N w0 X0 σ E a w){X' : Nat → Prop}(h1 : ∀b, X' b → Own σ E X0 b) : ∀{vs xs : List (Nat × List LV)} {is : List Nat}, frzP σ.blk vs = some (xs, is) →
    (∀ k ∈ is, ∀ b, (E k).b = some b → ¬ X' b) → xs.length = vs.length ∧ ∀ (j : Nat) x, xs[j]? = some x → ∃ y, vs[j]? = some y ∧ x.1 = y.1 ∧ x.2.length = y.2.length ∧
      ∀(m:Nat) z,x.2[m]?=some z→∃t,y.2[m]?=some t∧∀u,RepV w w0.heap.size (Own σ E X0) E t u→RepC w w0.heap.size X' z u
  |[],xs,is,h,_=>by cases h;exact⟨rfl,fun j x hx=>by simp at hx⟩
  |(i, v) :: r, xs, is, h, h2 => by
    simp only[frzP] at h
    split at h
    · rename_i x i' ys js g1 g2
      cases h
      obtain⟨k1,k2⟩:=zru hs h1 g2 (fun k hk=>h2 k (yx.2 (.inr hk)))
      obtain⟨m1,m2⟩:=zjc hs h1 g1 (fun k hk=>h2 k (yx.2 (.inl hk)))
      refine⟨by simp[k1],fun j z hz=>?_⟩
      grind
    · cases h
theorem zrv : ∀{vs xs : List (Nat × List LV)} {is : List Nat}, frzP σ.blk vs = some (xs, is) → ∀p ∈ xs, ∀x ∈ p.2, isOne x = true
  |[],xs,is,h,p,hp=>by cases h;simp at hp
  |(i, v) :: r, xs, is, h, p, hp => by
    simp only[frzP] at h
    split at h
    · rename_i x i' ys js g1 g2
      cases h
      rcases oQ.1 hp with hp | hp
      · subst hp;exact zm6 g1
      · exact zrv g2 p hp
    · cases h
theorem zor{place : Nat → Option (Nat × Nat)} : ∀{pl : List (Nat × List LV)} {cs out : List LV}, fillL place cs pl = some out → (∀x ∈ cs, isOne x = true) → (∀p ∈ pl, ∀x ∈ p.2, isOne x = true) → ∀x ∈ out, isOne x = true
  |[],cs,out,h,hc,_=>by cases h;exact hc
  |(i, v) :: pl, cs, out, h, hc, hp => by
    unfold fillL at h
    split at h
    · rename_i off sz hpl
      cases hb:(yv v.length sz&&yy (off+sz) cs.length) with
      |false=>rw[hb] at h;cases h
      |true =>
        rw[hb] at h
        refine zor h (fun x hx=>?_) (fun p hp'=>hp p (YL _ hp'))
        rcases yx.1 hx with h | h
        · grind
        · rcases yx.1 h with h | h
          · simp_all
          · grind
    · cases h
theorem zfs : ∀{vs xs : List (Nat × List LV)} {is : List Nat}, frzP σ.blk vs = some (xs, is) → ∀k ∈ is, ∃sz n row, σ.blk k = some (.arr sz n row)
  |[],xs,is,h,k,hk=>by cases h;simp at hk
  |(i, v) :: r, xs, is, h, k, hk => by
    simp only[frzP] at h
    split at h
    · rename_i x i' ys js g1 g2
      cases h
      rcases yx.1 hk with hk | hk
      · exact zhr g1 k hk
      · exact zfs g2 k hk
    · cases h

theorem zbt(hs : Sat N w0 X0 σ E a w){i : Nat}(hi : σ.used i = false) : σ.blk i = none := by
 cases hb:σ.blk i with
 |none =>rfl
 |some c =>have:=hs.live i vbM;rw[hi] at this;cases this

theorem zpn(hs : Sat N w0 X0 σ E a w){o : Oper}{d : Nat}{T : TypeId}{vs : Array Value}{sz n cap : Nat}{row : Nat → List LV}{ks : List Nat}(hrun : (execOp a.eval o).run P w = .ok (.value (.slice (some ⟨w.heap.size, 0, none⟩) n cap)) (w.alloc (.cells vs T)))(hi : σ.used d = false)(hn : n ≤ cap)(hcap : cap ≤ maxLen)(hl : cap * sz ≤ vs.size)(hsz : ∀k, k < n → (row k).length = sz)(ho1 : ∀k, k < n → ∀lv ∈ row k, isOne lv = true)(hks : ∀k ∈ ks, σ.blk k ≠ none)(hr : ∀X' : Nat → Prop, (∀b, X' b → Own σ E X0 b) → (∀k ∈ ks, ∀b, (E k).b = some b → ¬X' b) → ∀k, k < n → ∀(j : Nat) lv v, (row k)[j]? = some lv → vs[k * sz + j]? = some v → RepC w w0.heap.size X' lv v)(nw : List Nat)(p : List Prop) : MOk P N w0 X0 σ a w o ⟨some (.own d), killL ks, oneB d (.arr sz n row), nw, p⟩ := by
 intro K Q hk;have hdl:=zbt hs hi;have hdk:d ∉ ks:=fun h=>hks d h hdl;let ei:EI:=⟨some w.heap.size,0,some ⟨w.heap.size,0,none⟩,n,cap,n⟩;have hh:∀b,b<w.heap.size→(w.alloc (.cells vs T)).heap[b]?=w.heap[b]?:=fun b hb=>Below.heap_alloc _ _ _ hb;have hEd:(E.setF (one d (.arr sz n row) ei)) d=ei:=vbw
 have hown : ∀b, Own (σ.upd (killL ks) (oneB d (.arr sz n row))) (E.setF (one d (.arr sz n row) ei)) X0 b → b < w.heap.size → Own σ E X0 b := fun b hb hlt => by
  rcases zd2 zdv hb with hq | hq
  ·exact hq
  grind
 have hS : Sat N w0 X0 (σ.upd (killL ks) (oneB d (.arr sz n row))) (E.setF (one d (.arr sz n row) ei)) a (w.alloc (.cells vs T)) := by
  rw[←za6 d (.arr sz n row) ei,←FS.setF_eq];refine hs.set (killL ks) d _ ei (.inl hi) vbZ (fun b hb _=>hh b hb) (fun b hb=>.inl (by simp only[ei,oo] at hb;omega)) (hs.below.alloc hs.below.size _) (fun c lv id hc=>vbR) ?_;rw[FS.setF_eq,za6];refine⟨vbT,.inr ⟨w.heap.size,cap,vs,T,vbT,by rw[hEd];rfl,hs.below.size,heap_alloc_new w _,hn,hcap,by rw[hEd];simpa[ei] using hl,fun k hk=>⟨hsz k hk,ho1 k hk,fun j lv v hj hv=>?_⟩⟩⟩;rw[hEd] at hv;have hv':vs[k * sz+j]?=some v:=vbY
  refine(hr (fun b=>Own (σ.upd (killL ks) (oneB d (.arr sz n row))) (E.setF (one d (.arr sz n row) ei)) X0 b∧b<w.heap.size) (fun b hb=>hown b hb.1 hb.2) (fun k' hk' b hkb hb=>?_) k hk j lv v hj hv').keep vbZ (fun b hb _=>hh b hb) (fun b hb=>?_) (ou _)
  ·exact zei hs zdv hdk (.inr ⟨w.heap.size, rfl, ou _⟩) hk' (.inl ⟨hks k' hk', hkb⟩) hb.1
  by_cases hlt:b<w.heap.size
  ·exact .inl ⟨hb, hlt⟩
  omega
 refine zbe hrun (hk _ _ _ hS (fun h=>vbU) fun lv hlv=>?_);cases hlv;refine⟨?_,fun id hmm=>vbi⟩;have:=RepV.own (w:=w.alloc (.cells vs T)) (B:=w0.heap.size) (X:=Own (σ.upd (killL ks) (oneB d (.arr sz n row))) (E.setF (one d (.arr sz n row) ei)) X0) (E:=E.setF (one d (.arr sz n row) ei)) d;rw[hEd] at this;exact this

theorem zj8(hs : Sat N w0 X0 σ E a w){o : Oper}{d : Nat}{T : TypeId}{vs : Array Value}{sz n cap : Nat}{row : Nat → List LV}{ks : List Nat}(hrun : (execOp a.eval o).run P w = .ok (.value (.pointer (some ⟨w.heap.size, 0, none⟩))) (w.alloc (.cells vs T)))(hi : σ.used d = false)(h1n : 1 ≤ n)(hn : n ≤ cap)(hcap : cap ≤ maxLen)(hl : cap * sz ≤ vs.size)(hsz : ∀k, k < n → (row k).length = sz)(ho1 : ∀k, k < n → ∀lv ∈ row k, isOne lv = true)(hks : ∀k ∈ ks, σ.blk k ≠ none)(hr : ∀X' : Nat → Prop, (∀b, X' b → Own σ E X0 b) → (∀k ∈ ks, ∀b, (E k).b = some b → ¬X' b) → ∀k, k < n → ∀(j : Nat) lv v, (row k)[j]? = some lv → vs[k * sz + j]? = some v → RepC w w0.heap.size X' lv v)(nw : List Nat)(p : List Prop) : MOk P N w0 X0 σ a w o ⟨some (.ap d sz 0 0), killL ks, oneB d (.arr sz n row), nw, p⟩ := by
 intro K Q hk;have hdl:=zbt hs hi;have hdk:d ∉ ks:=fun h=>hks d h hdl;let ei:EI:=⟨some w.heap.size,0,some ⟨w.heap.size,0,none⟩,n,cap,n⟩;have hh:∀b,b<w.heap.size→(w.alloc (.cells vs T)).heap[b]?=w.heap[b]?:=fun b hb=>Below.heap_alloc _ _ _ hb;have hEd:(E.setF (one d (.arr sz n row) ei)) d=ei:=vbw
 have hown : ∀b, Own (σ.upd (killL ks) (oneB d (.arr sz n row))) (E.setF (one d (.arr sz n row) ei)) X0 b → b < w.heap.size → Own σ E X0 b := fun b hb hlt => by
  rcases zd2 zdv hb with hq | hq
  ·exact hq
  grind
 have hS : Sat N w0 X0 (σ.upd (killL ks) (oneB d (.arr sz n row))) (E.setF (one d (.arr sz n row) ei)) a (w.alloc (.cells vs T)) := by
  rw[←za6 d (.arr sz n row) ei,←FS.setF_eq];refine hs.set (killL ks) d _ ei (.inl hi) vbZ (fun b hb _=>hh b hb) (fun b hb=>.inl (by simp only[ei,oo] at hb;omega)) (hs.below.alloc hs.below.size _) (fun c lv id hc=>vbR) ?_;rw[FS.setF_eq,za6];refine⟨vbT,.inr ⟨w.heap.size,cap,vs,T,vbT,by rw[hEd];rfl,hs.below.size,heap_alloc_new w _,hn,hcap,by rw[hEd];simpa[ei] using hl,fun k hk=>⟨hsz k hk,ho1 k hk,fun j lv v hj hv=>?_⟩⟩⟩;rw[hEd] at hv;have hv':vs[k * sz+j]?=some v:=vbY
  refine(hr (fun b=>Own (σ.upd (killL ks) (oneB d (.arr sz n row))) (E.setF (one d (.arr sz n row) ei)) X0 b∧b<w.heap.size) (fun b hb=>hown b hb.1 hb.2) (fun k' hk' b hkb hb=>?_) k hk j lv v hj hv').keep vbZ (fun b hb _=>hh b hb) (fun b hb=>?_) (ou _)
  ·exact zei hs zdv hdk (.inr ⟨w.heap.size, rfl, ou _⟩) hk' (.inl ⟨hks k' hk', hkb⟩) hb.1
  by_cases hlt:b<w.heap.size
  ·exact .inl ⟨hb, hlt⟩
  omega
 refine zbe hrun (hk _ _ _ hS (fun h=>vbU) fun lv hlv=>?_);cases hlv;refine⟨?_,fun id hmm=>vbi⟩;have:=RepV.ap (w:=w.alloc (.cells vs T)) (B:=w0.heap.size) (X:=Own (σ.upd (killL ks) (oneB d (.arr sz n row))) (E.setF (one d (.arr sz n row) ei)) X0) (E:=E.setF (one d (.arr sz n row) ei)) d sz 0 0 w.heap.size vbT (by rw[hEd];exact h1n);rw[hEd] at this;simpa[ei] using this

theorem zc0(z : List LV)(len : Nat) : ∀(m : Nat) (x : LV), ((yw len z).flatten)[m]? = some x → z[m % z.length]? = some x := by
 induction len with
 |zero =>intro m x h;simp at h
 |succ len ih =>
  intro m x h;rw[List.replicate_succ,List.flatten_cons] at h;by_cases hm:m<z.length
  ·rw [o3 hm] at h;rw [YZ hm]; exact h
  rw[o4 vbX] at h;rw[Nat.mod_eq_sub_mod vbX];grind
theorem zbj(z:List LV)(len:Nat):((yw len z).flatten).length=len * z.length:=by simp_all

theorem zdb {T e n len : Nat} (hu : P.underlying T = some (.slice e)) (hz : szOf P e = some n) {i : TypeInfo} {zv : Value} (hi : P.info? e = some i) (hzv : i.zero = some zv) (hcap : len * n ≤ 16777216) {parts : Array (Nat × Value)} {ov : Array Value} (hf : Instr.fill (fun j => some (j * n, n)) ((YR (len * n)).map (zv.cells[· % zv.cells.size]!)) parts.toList = some ov) : (Instr.buildSlice T len parts).run P w = .ok (.slice (some ⟨w.heap.size, 0, none⟩) len len) (w.alloc (.cells ov e)) := by
 have h1:¬(len * n > 2 ^ 24):=vbX
 by_cases h0:len * n=0
 ·have hz0 : (YR (len * n)).map (zv.cells[· % zv.cells.size]!) = (YR (len * n)).map ((#[] : Array Value)[· % (#[] : Array Value).size]!) := by simp [h0]
  rw[hz0] at hf;simp only[Instr.buildSlice,oD,oM hu,ow,zba hz,if_neg h1,oJ,if_pos h0,hf];rfl
 simp only[Instr.buildSlice,oD,oM hu,ow,zba hz,if_neg h1,oJ,if_neg h0,zeroValue,typeInfo,run_program,hi,hzv,hf];rfl

theorem zgj(hs : Sat N w0 X0 σ E a w){o : Oper}{d T len : Nat}{parts : Array (Nat × Operand)}(ho : o.op = .buildSlice T len parts){e n : Nat}(hu : P.underlying T = some (.slice e)){vs xs : List (Nat × List LV)}{p' : List Prop}(hev : za9 σ.slot parts.toList = some (vs, p'))(ha : All p'){z : List LV}(hz : zeroL P e = some z)(hsz : szOf P e = some n){ks : List Nat}(hf : frzP σ.blk vs = some (xs, ks)){flat : List LV}(hfl : fillL (fun i => some (i * n, n)) ((yw len z).flatten) xs = some flat)(hzn : z.length = n)(hcap : len * n ≤ 16777216)(hn1 : 1 ≤ n)(hd : σ.used d = false){row' : Nat → List LV}(hrow : ∀i, i < len → row' i = (flat.drop (i * n)).take n)(nw : List Nat)(p : List Prop) : MOk P N w0 X0 σ a w o ⟨some (.own d), killL ks, oneB d (.arr n len row'), nw, p⟩ := by
 obtain⟨i,zv,g1,g2,g3,g4⟩:=zbs hz;have hzs:zv.cells.size=n:=vbX
 obtain ⟨q1, q2⟩ := zce hs hev ha;have fill : ∀ X' : Nat → Prop, (∀ b, X' b → Own σ E X0 b) → (∀ k ∈ ks, ∀ b, (E k).b = some b → ¬ X' b) → ∃ ov, Instr.fill (fun j => some (j * n, n)) ((YR (len * n)).map (zv.cells[· % zv.cells.size]!)) (parts.map fun (i, x) => (i, a.eval x)).toList = some ov ∧ ov.size = flat.length ∧ flat.length = len * n ∧ ∀ (j : Nat) x u, flat[j]? = some x → ov[j]? = some u → RepC w w0.heap.size X' x u := fun X' hX hkX => by
  obtain⟨m1,m2⟩:=zru hs hX hf hkX
  obtain ⟨ov, k1, k2, k3, k4⟩ := zft (RepC w w0.heap.size X') xs (parts.map fun (i, x) => (i, a.eval x)).toList ((yw len z).flatten) ((YR (len * n)).map (zv.cells[· % zv.cells.size]!)) flat hfl
    (by rw [zbj, hzn]; simp) (fun j x u hx hu => by
      have hx':=zc0 z len j x hx
      rw[hzn] at hx'
      have hj:j<len * n:=vbY
      have hmod:j % n<n:=Nat.mod_lt _ hn1
      have hu':u=zv.cells[j % n]' vbX:=vbY
      subst hu'
      exact g4 (j % n) x _ hx' (oL vbX))
    (by simp; rw [m1]; simpa using q1) (fun j x y hx hy => by
      obtain⟨t,ht,e1,e2,e3⟩:=m2 j x hx
      simp only[YQ,Ym,oq] at hy
      obtain⟨y0,hy0,rfl⟩:=hy
      obtain⟨r1,r2,r3,_⟩:=q2 j t y0 ht hy0
      refine⟨e1.trans r1,by rw[e2];exact r2,fun m z' u hz' hu=>?_⟩
      obtain⟨t',ht',hh⟩:=e3 m z' hz'
      exact hh u (r3 m t' u ht' hu))
  exact⟨ov,k1,k2,by rw[k3,zbj,hzn],k4⟩
 have hflo : ∀ x ∈ flat, isOne x = true := zor hfl (fun x hx => by
     obtain⟨m,hm,e⟩:=oX hx
     exact zg5 hz x (oW (zc0 z len m x (by rw[oj hm,e])))) (fun p hp=>zrv hf p hp)
 have hksl:∀k∈ks,σ.blk k≠none:=fun k hk=>by obtain⟨_,_,_,h⟩:=zfs hf k hk;rw[h];simp
 obtain⟨ov,k1,k2,k3,_⟩:=fill (fun _=>False) (fun b h=>h.elim) (fun _ _ _ _ h=>h);refine zpn hs (T:=e) (vs:=ov) (cap:=len) ?_ hd (ou _) ?_ vbX (fun k hk=>?_) (fun k hk=>?_) hksl (fun X' hX hkX k hk j lv v hj hv=>?_) nw p
 ·have := zdb (P := P) (w := w) hu hsz g1 g2 hcap (parts := parts.map fun (i, x) => (i, a.eval x)) k1;simp only [execOp, ho, oD, this, ow, oJ]
 ·have : len ≤ len * n := YO len hn1;unfold maxLen; omega
 ·rw [hrow k hk];have : k * n + n ≤ len * n := by rw [← Yc]; exact oU n hk
  simp;omega
 ·rw [hrow k hk];intro lv hlv;exact hflo lv (Yo (Yp hlv))
 obtain⟨ov',m1,m2,m3,m4⟩:=fill X' hX hkX;rw[k1] at m1;cases m1;rw[hrow k hk] at hj;have hjn:j<n:=by have:=(oE.1 hj).1;simp at this;omega
 rw[YA,if_pos hjn,YB] at hj;exact m4 _ lv v hj hv

theorem zg4(hs : Sat N w0 X0 σ E a w){y : LV}{sz m : Nat}{row : Nat → List LV}{is : List Nat}(h : arrOf σ.blk y = some (sz, m, row, is)){v : Value}(hr : RepV w w0.heap.size (Own σ E X0) E y v) : ∃(A : Option Addr) (cap : Nat), v = .slice A m cap ∧ (0 < m → ∃(ad : Addr) (cv : Nat → Nat → Value), A = some ad ∧ (∀k j, k < m → j < sz → w.cell? (ad.add (k * sz + j)) = some (cv k j)) ∧ (∀k, k < m → (row k).length = sz) ∧ (∀k j lv, k < m → (row k)[j]? = some lv → RepC w w0.heap.size (Own σ E X0) lv (cv k j)) ∧ ∀k, k < m → ∀lv ∈ row k, isOne lv = true) := by
 unfold arrOf at h;split at h
 ·rename_i id;split at h
  ·rename_i sz' n' row' hb;cases h;have e := hr.own_inv;subst e;obtain ⟨hn, hk⟩ := hs.blks id _ hb;rcases hk with ⟨_, k2, k3⟩ | ⟨b, cap, vs, T', k1, k2, k3, k4, k5, k6, k7, k8⟩
   ·grind
   have hbd:∀i j,i<m→j<sz→(E id).off+i * sz+j<vs.size:=fun i j hi hj=>vaJ;refine⟨_,cap,k2,fun _=>⟨⟨b,(E id).off,none⟩,fun i j=>vs.getD ((E id).off+i * sz+j) undef,rfl,fun i j hi hj=>?_,fun i hi=>(k8 i hi).1,fun i j lv hi hl=>?_,fun i hi=>(k8 i hi).2.1⟩⟩
   ·rw [za1, ← Yt];have := hbd i j hi hj;simp [Yj, k4, this]
   have hj:j<sz:=(by rw[←(k8 i hi).1];exact(oE.1 hl).1);have:=hbd i j hi hj;exact(k8 i hi).2.2 j lv _ hl (by simp[this])
  cases h
 ·cases h;have h := hr.ro_inv;cases h with
  |ro _ _ _ _ A ad cap cv hcap hA hlt hX hb hsz ho1 hc hrr =>exact⟨A,cap,rfl,fun h0=>⟨ad,cv,hA h0,hc,hsz,fun k j lv hk hl=>hrr k j lv hk hl,ho1⟩⟩
 cases h

theorem zh6{lv:LV}{v:Value}{B:Nat}{X:Nat→Prop}(h:RepC w B X lv v)(h1:isOne lv=true):v.oneCell'=true:=(zjx (E:=⟨fun _=>⟨none,0,none,0,0,0⟩,fun _ _=>False⟩) h1 (.c _ _ h)).1

def zb4(m sz:Nat)(cv:Nat→Nat→Value):List Value:=(yI (m * sz)).map fun t=>cv (t / sz) (t % sz)
theorem zf2{m sz:Nat}{cv:Nat→Nat→Value}(hsz:1≤sz)(k j:Nat)(hk:k<m)(hj:j<sz):(zb4 m sz cv)[k * sz+j]?=some (cv k j):=by have h1:k * sz+j<m * sz:=vaY;have h2:(k * sz+j) / sz=k:=(by rw[Y2,Nat.mul_add_div vbX,Nat.div_eq_of_lt hj,Yv]);have h3:(k * sz+j) % sz=j:=(by rw[Y2,Nat.mul_add_mod];exact YZ hj);simp[zb4,h1,h2,h3]
theorem za8(m sz:Nat)(cv:Nat→Nat→Value):(zb4 m sz cv).length=m * sz:=by simp[zb4]
theorem zfh{m sz:Nat}{cv:Nat→Nat→Value}{ad:Addr}(hsz:1≤sz)(hc:∀k j,k<m→j<sz→w.cell? (ad.add (k * sz+j))=some (cv k j))(t:Nat)(u:Value)(h:(zb4 m sz cv)[t]?=some u):w.cell? (ad.add t)=some u:=by have ht:t<m * sz:=(by rw[←za8 m sz cv];exact(oE.1 h).1);have hj:t % sz<sz:=Nat.mod_lt _ hsz;have hk:t / sz<m:=(Nat.div_lt_iff_lt_mul vbX).2 ht;have e:t / sz * sz+t % sz=t:=(by rw[Y2];exact Nat.div_add_mod t sz);have:=zf2 (cv:=cv) hsz (t / sz) (t % sz) hk hj;grind

theorem zio{T ty e b off n m c cap:Nat}(ht:P.underlying T=some (.slice e)){i:TypeInfo}(hi:P.info? e=some i){cur:Array Value}{T':TypeId}(hg:w.heap[b]?=some (.cells cur T' (0,0))){ad:Addr}{news:List Value}(hl:news.length=m * i.size)(hnews:∀j u,news[j]?=some u→w.cell? (ad.add j)=some u)(h1:∀u∈news,u.oneCell'=true)(hroom:n+m≤cap)(hfit:off+n * i.size+news.length≤cur.size):(Builtin.append_ #[T,T] ty #[.slice (some ⟨b,off,none⟩) n cap,.slice (some ad) m c]).run P w=.ok (.slice (some ⟨b,off,none⟩) (n+m) cap) (w.setRow b (cur.toList.take (off+n * i.size)++news++cur.toList.drop (off+n * i.size+news.length)).toArray):=by have hf:=run_firstCells_some (P:=P) w i.size m ad m c news hl hnews;have hst:=run_storeCells_at P b (off+n * i.size) T' news 0 cur w hg (by simpa using hfit) h1;simp[Builtin.append_,oM ht,sizeOf,typeInfo,hi,Builtin.lenOf,hroom,hf,za1,hst]

theorem zin{T ty e c cap n:Nat}(ht:P.underlying T=some (.slice e)){i:TypeInfo}(hi:P.info? e=some i){A A':Option Addr}(hn:n≤cap):(Builtin.append_ #[T,T] ty #[.slice A n cap,.slice A' 0 c]).run P w=.ok (.slice A n cap) w:=by cases A<;>cases A'<;>simp[Builtin.append_,oM ht,sizeOf,typeInfo,hi,Builtin.lenOf,Builtin.firstCells,hn,loadCells,loadCellsFrom,storeCells]

theorem zc6{o:Oper}{x y:Operand}{T T':Nat}{tys:Array TypeId}{args:Array Operand}(ho:o.op=.call { callee:=.builtin .append,args,argTypes:=tys })(ha:args.toList=[x,y])(ht:tys.toList=[T,T']){v:Value}{w':World}(h:(Builtin.append_ #[T,T'] o.type #[a.eval x,a.eval y]).run P w=.ok v w'):(execOp a.eval o).run P w=.ok (.value v) w':=by have e1:args=#[x,y]:=vbY;have e2:tys=#[T,T']:=vbY;subst e1;subst e2;simp only[execOp,ho,oD,resolve,oJ,ow,invoke,builtin,List.map_toArray,YH,List.map_nil,h]

theorem zgk(hs : Sat N w0 X0 σ E a w){o : Oper}{d T : Nat}{v1 v2 : Value}(hv1 : v1 = .slice none 0 0){y : LV}{sz m : Nat}{row2 row' : Nat → List LV}{is : List Nat}(hrun : ∀v w', (Builtin.append_ #[T, T] o.type #[v1, v2]).run P w = .ok v w' → (execOp a.eval o).run P w = .ok (.value v) w'){e : Nat}(hu : P.underlying T = some (.slice e)){i : TypeInfo}(hi : P.info? e = some i)(hz : ∃z, zeroL P e = some z ∧ z.length = i.size)(hsz : sz = i.size)(hb1 : 1 ≤ i.bytes)(hsz1 : 1 ≤ sz)(hy : arrOf σ.blk y = some (sz, m, row2, is))(hyr : RepV w w0.heap.size (Own σ E X0) E y v2)(hrow : ∀k, k < m → row' k = row2 k)(hbd : m * i.bytes ≤ 140737488355328)(hd : σ.used d = false)(nw : List Nat)(p : List Prop) : MOk P N w0 X0 σ a w o ⟨some (.own d), noK, oneB d (.arr sz m row'), nw, p⟩ := by
 subst hv1;obtain⟨A,cap,rfl,hA⟩:=zg4 hs hy hyr;have hmb:m≤m * i.bytes:=YO m hb1;rcases wi m with h0 | h0
 ·subst h0;have hr := hrun _ _ (zin (P := P) (w := w) (ty := o.type) hu hi (A := none) (A' := A) (n := 0) (cap := 0) (c := cap) (ou _));intro K Q hk;let ei : EI := ⟨none, 0, none, 0, 0, 0⟩;have hEd : (E.setF (one d (.arr sz 0 row') ei)) d = ei := by simp [Env.setF, one]
  have hS:Sat N w0 X0 (σ.upd noK (oneB d (.arr sz 0 row'))) (E.setF (one d (.arr sz 0 row') ei)) a w:=by rw[←za6 d (.arr sz 0 row') ei,←FS.setF_eq];exact hs.set noK d _ ei (.inl hd) (ou _) (fun _ _ _=>rfl) (fun b hb=>by cases hb) hs.below (fun c lv id hc=>vbR) ⟨vbT,.inl ⟨vbT,by rw[hEd];rfl,rfl⟩⟩
  refine zbe hr (hk _ _ _ hS (fun h=>vbU) fun lv hlv=>?_);cases hlv;refine⟨?_,fun id hmm=>vbi⟩;have:=RepV.own (w:=w) (B:=w0.heap.size) (X:=Own (σ.upd noK (oneB d (.arr sz 0 row'))) (E.setF (one d (.arr sz 0 row') ei)) X0) (E:=E.setF (one d (.arr sz 0 row') ei)) d;rw[hEd] at this;exact this
 obtain⟨ad,cv,rfl,c1,c2,c3,c4⟩:=hA h0;obtain⟨z,hz1,hz2⟩:=hz;obtain⟨i',zv,g1,g2,g3,g4⟩:=zbs hz1;rw[hi] at g1;cases g1;have hbb:m * i.bytes≤281474976710656:=vbX
 have hm63:(m:Int)≤9223372036854775807:=vbX
 have hr:=hrun _ _ (run_append_nil (P:=P) w T o.type e i zv hu hi g2 ad m cap (zb4 m sz cv) (by rw[za8,hsz]) (fun j u h=>zfh hsz1 c1 j u h) h0 hm63 hbb);have hge:=grownCap_ge w m 0 e;refine zlx hs (w1:=w.drew) (Below.drew (Below.refl _ _)) (T:=e) hr hd hge (grownCap_le_maxLen w m 0 e vbx) ?_ (fun k hk=>by rw[hrow k hk];exact c2 k hk) (fun k hk=>by rw[hrow k hk];exact c4 k hk) (fun k hk j lv v hj hv=>?_) nw p
 ·simp only [Array.size_append, List.size_toArray, za8, size_zeroCells, g3, hz2, ← hsz];rw [← Ys];grind
 rw[hrow k hk] at hj;have hjs:j<sz:=by rw[←c2 k hk];exact(oE.1 hj).1
 have hlt:k * sz+j<m * sz:=vaY
 rw[Yk (by simp[za8];exact hlt),Yf,zf2 hsz1 k j hk hjs] at hv;cases hv;exact(c3 k j lv hk hj).keep (ou _) (fun _ _ _=>rfl) (fun b hb=>.inl hb) (ou _)

theorem ztf{m sz:Nat}{cv:Nat→Nat→Value}{row:Nat→List LV}(hsz:1≤sz){B:Nat}{X:Nat→Prop}(c2:∀k,k<m→(row k).length=sz)(c3:∀k j lv,k<m→(row k)[j]?=some lv→RepC w B X lv (cv k j))(c4:∀k,k<m→∀lv∈row k,isOne lv=true):∀u∈zb4 m sz cv,u.oneCell'=true:=by intro u hu;unfold zb4 at hu;simp only[Y9,oV] at hu;obtain⟨t,ht,rfl⟩:=hu;have hj:t % sz<sz:=Nat.mod_lt _ hsz;have hk:t / sz<m:=(Nat.div_lt_iff_lt_mul vbX).2 ht;have hl:t % sz<(row (t / sz)).length:=vbY;exact zh6 (c3 (t / sz) (t % sz) _ hk (oj hl)) (c4 _ hk _ (Ya hl))

set_option maxHeartbeats 1000000 in
theorem zle(hs : Sat N w0 X0 σ E a w){o : Oper}{d T : Nat}{v1 v2 : Value}{y : LV}{id sz n m : Nat}{row1 row2 row' : Nat → List LV}{is : List Nat}(hrun : ∀v w', (Builtin.append_ #[T, T] o.type #[v1, v2]).run P w = .ok v w' → (execOp a.eval o).run P w = .ok (.value v) w')
    (hv1:RepV w w0.heap.size (Own σ E X0) E (.own id) v1) (hb:σ.blk id=some (.arr sz n row1))
    {e:Nat} (hu:P.underlying T=some (.slice e)) {i:TypeInfo} (hi:P.info? e=some i) (hz:∃z,zeroL P e=some z∧z.length=i.size) (hsz:sz=i.size) (hb1:1≤i.bytes) (hsz1:1≤sz) (hy:arrOf σ.blk y=some (sz,m,row2,is)) (hyr:RepV w w0.heap.size (Own σ E X0) E y v2)
    (hrow:∀k,k<n+m→row' k=bif Yu k n then row1 k else row2 (k - n)) (hbd:(n+m) * i.bytes≤140737488355328) (hd:σ.used d=false) (nw:List Nat) (p:List Prop) :
    MOk P N w0 X0 σ a w o ⟨some (.own d),killL [id],oneB d (.arr sz (n+m) row'),nw,p⟩:=by
  have hbid:σ.blk id≠none:=vbM
  have hdid:d≠id:=by rintro rfl;exact hbid (zbt hs hd)
  have hv1:=hv1.own_inv
  obtain⟨A,capy,rfl,hA⟩:=zg4 hs hy hyr
  have hmb:n+m≤(n+m) * i.bytes:=YO _ hb1
  have r1 : ∀k, k < n → row' k = row1 k := fun k hk => by
    rw[hrow k vbX,show Yu k n=true from oZ hk,oC]
  have r2 : ∀k, n ≤ k → k < n + m → row' k = row2 (k - n) := fun k h1 h2 => by
    have hf : Yu k n = false := by
      cases h:Yu k n with
      |false=>rfl
      |true=>have:=oS h;omega
    rw[hrow k h2,hf,oB]
  obtain⟨hn,hk0⟩:=hs.blks id _ hb
  -- what is owned afterwards
  have hEo : ∀(c : BC) (ei : EI) (j : Nat), σ.blk j ≠ none → (E.setF (one d c ei)) j = E j := fun c ei j hj => by
    have:j≠d:=fun e=>hj (e ▸ zbt hs hd)
    simp[Env.setF,one,this]
  have hEd:∀(c:BC) (ei:EI),(E.setF (one d c ei)) d=ei:=fun c ei=>by simp[Env.setF,one]
  have fin : ∀ (ei : EI) (w' : World), Sat N w0 X0 (σ.upd (killL [id]) (oneB d (.arr sz (n + m) row'))) (E.setF (one d (.arr sz (n + m) row') ei)) a w' → (Builtin.append_ #[T, T] o.type #[v1, .slice A m capy]).run P w = .ok ei.val w' →
      MOk P N w0 X0 σ a w o ⟨some (.own d),killL [id],oneB d (.arr sz (n+m) row'),nw,p⟩:=fun ei w' hS hr=>by
    intro K Q hk
    refine zbe (hrun _ _ hr) (hk _ _ _ hS (fun h=>vbU) fun lv hlv=>?_)
    cases hlv
    refine⟨?_,fun id hmm=>vbi⟩
    have:=RepV.own (w:=w') (B:=w0.heap.size) (X:=Own (σ.upd (killL [id]) (oneB d (.arr sz (n+m) row'))) (E.setF (one d (.arr sz (n+m) row') ei)) X0) (E:=E.setF (one d (.arr sz (n+m) row') ei)) d
    rw[hEd] at this
    exact this
  rcases hk0 with⟨k1,k2,k3⟩ | ⟨b,cap,us,T',k1,k2,k3,k4,k5,k6,k7,k8⟩
  · -- nothing was there
    subst k3
    rw[k2] at hv1
    have r2':∀k,k<m→row' k=row2 k:=fun k hk=>by have:=r2 k vbX vbX;simpa using this
    have h:=zgk hs hv1 (row':=row') hrun hu hi hz hsz hb1 hsz1 hy hyr r2' (by simpa using hbd) hd nw p
    intro K Q hk
    refine h K Q fun v w' E' hS h1 h2=>?_
    have hSk : Sat N w0 X0 (σ.upd (killL [id]) (oneB d (.arr sz (0 + m) row'))) E' a w' := by
      rw[yA]
      have hsub : ∀j, (σ.upd (killL [id]) (oneB d (.arr sz m row'))).blk j ≠ none → (σ.upd noK (oneB d (.arr sz m row'))).blk j = (σ.upd (killL [id]) (oneB d (.arr sz m row'))).blk j := fun j hj => by
        simp only[FS.upd] at hj ⊢
        cases ho:oneB d (.arr sz m row') j with
        |some c=>simp
        |none =>
          simp only[ho] at hj
          by_cases hkl:killL [id] j=true
          · simp [hkl] at hj
          · simp [hkl,noK]
      have hownsub : ∀b, Own (σ.upd (killL [id]) (oneB d (.arr sz m row'))) E' X0 b → Own (σ.upd noK (oneB d (.arr sz m row'))) E' X0 b := fun b hbo => by
        rcases hbo with hbo | ⟨j,hj⟩
        · exact .inl hbo
        · exact .inr ⟨j,by have e:=hsub j hj.ne;unfold OwnAt at hj ⊢;rw [e];exact hj⟩
      exact hS.weaken _ (fun _ _ h=>h) (fun j c hj=>by rw[hsub j (by rw[hj];simp)];exact hj) (fun _ h=>h)
    refine hk v w' E' hSk (fun h=>vbU) fun lv hlv=>?_
    cases hlv
    obtain⟨g1,g2⟩:=h2 (.own d) rfl
    rw[g1.own_inv]
    exact⟨.own d,fun q hq=>by cases hq;simp[FS.upd,oneB]⟩
  · rw [k2] at hv1
    subst hv1
    have hus : ∀k j, k < n → j < sz → (E id).off + k * sz + j < us.size := fun k j hk hj => by
      have h1:k * sz+sz≤cap * sz:=va7
      omega
    rcases wi m with h0 | h0
    · -- nothing is appended
      subst h0
      let ei:EI:=⟨some b,(E id).off,some ⟨b,(E id).off,none⟩,n,cap,n⟩
      refine fin ei w ?_ (zin hu hi k5)
      have hown : ∀b', Own (σ.upd (killL [id]) (oneB d (.arr sz n row'))) (E.setF (one d (.arr sz n row') ei)) X0 b' → Own σ E X0 b' := fun b' hb' => by
        rcases zd2 zdv hb' with hq | hq
        · exact hq
        · simp only [ei,oo] at hq;subst hq;exact .inr ⟨id,.inl ⟨hbid,k1⟩⟩
      show Sat N w0 X0 (σ.upd (killL [id]) (oneB d (.arr sz n row'))) (E.setF (one d (.arr sz n row') ei)) a w
      rw[←za6 d (.arr sz n row') ei,←FS.setF_eq]
      refine hs.set (killL [id]) d _ ei (.inl hd) (ou _) (fun _ _ _=>rfl) (fun b' hb'=>.inr ⟨id,.inr (killL_mem.2 vbZ),hbid,va6⟩) hs.below (fun c lv q hc=>vbR) ?_
      rw[FS.setF_eq,za6]
      refine⟨vbT,.inr ⟨b,cap,us,T',vbT,by rw[hEd];rfl,k3,k4,k5,k6,by rw[hEd];exact k7,fun k hk=>?_⟩⟩
      rw[r1 k hk,hEd]
      exact⟨(k8 k hk).1,(k8 k hk).2.1,fun j lv v hj hv=>((k8 k hk).2.2 j lv v hj hv).keep (ou _) (fun _ _ _=>rfl) (fun b hb=>.inl (hown b hb)) (ou _)⟩
    · obtain ⟨ad,cv,rfl,c1,c2,c3,c4⟩:=hA h0
      have hnl:(zb4 m sz cv).length=m * i.size:=by rw[za8,hsz]
      by_cases hroom:n+m≤cap
      · -- there is room
        have hnm:n * sz+m * sz≤cap * sz:=by rw[←Ys];exact oU sz hroom
        let ei:EI:=⟨some b,(E id).off,some ⟨b,(E id).off,none⟩,n+m,cap,n+m⟩
        have hfit:(E id).off+n * sz+(zb4 m sz cv).length≤us.size:=by rw[za8];omega
        have hr:=zio (P:=P) (w:=w) (ty:=o.type) (c:=capy) hu hi k4 (ad:=ad) (news:=zb4 m sz cv) (off:=(E id).off) (n:=n) hnl (fun j u h=>zfh hsz1 c1 j u h) (ztf hsz1 c2 c3 c4) hroom (by rw[←hsz];exact hfit)
        rw[←hsz] at hr
        have hgetv : ∀ j : Nat, (us.toList.take ((E id).off + n * sz) ++ zb4 m sz cv ++ us.toList.drop ((E id).off + n * sz + (zb4 m sz cv).length)).toArray[j]? =
            if(E id).off+n * sz≤j∧j<(E id).off+n * sz+(zb4 m sz cv).length then(zb4 m sz cv)[j - ((E id).off+n * sz)]? else us[j]?:=fun j=>by
          simp only[Yf]
          rw[zdo _ _ _ _ (by simpa using hfit)]
          split<;>simp
        have hszn : (us.toList.take ((E id).off + n * sz) ++ zb4 m sz cv ++ us.toList.drop ((E id).off + n * sz + (zb4 m sz cv).length)).toArray.size = us.size := by
          simp at hfit ⊢;omega
        generalize(us.toList.take ((E id).off+n * sz)++zb4 m sz cv++us.toList.drop ((E id).off+n * sz+(zb4 m sz cv).length)).toArray=news at hr hgetv hszn
        refine fin ei _ ?_ hr
        have hkeep:∀b',b'<w.heap.size→¬Own σ E X0 b'→(w.setRow b news).heap[b']?=w.heap[b']?:=fun b' _ hno=>setRow_other w b b' news (fun e=>hno (.inr ⟨id,.inl ⟨hbid,by rw[e];exact k1⟩⟩))
        have hown : ∀b', Own (σ.upd (killL [id]) (oneB d (.arr sz (n + m) row'))) (E.setF (one d (.arr sz (n + m) row') ei)) X0 b' → Own σ E X0 b' := fun b' hb' => by
          rcases zd2 zdv hb' with hq | hq
          · exact hq
          · simp only [ei,oo] at hq;subst hq;exact .inr ⟨id,.inl ⟨hbid,k1⟩⟩
        rw[←za6 d (.arr sz (n+m) row') ei,←FS.setF_eq]
        refine hs.set (killL [id]) d _ ei (.inl hd) vbZ (fun b' hb' hno => setRow_other w b b' news fun e => hno id (.inr (killL_mem.2 vbZ)) hbid (by rw [e]; exact k1))
          (fun b' hb'=>.inr ⟨id,.inr (killL_mem.2 vbZ),hbid,va6⟩) (zcr hs.below k3) (fun c lv q hc=>vbR) ?_
        rw[FS.setF_eq,za6]
        refine⟨vbT,.inr ⟨b,cap,news,T',vbT,by rw[hEd];rfl,k3,setRow_heap w b us news T' (0,0) k4,hroom,k6,by rw[hEd,hszn];exact k7,fun k hk=>?_⟩⟩
        rw[hEd]
        by_cases hkn:k<n
        · rw [r1 k hkn]
          refine⟨(k8 k hkn).1,(k8 k hkn).2.1,fun j lv v hj hv=>?_⟩
          have hjs:j<sz:=by rw[←(k8 k hkn).1];exact(oE.1 hj).1
          have hlt:k * sz+sz≤n * sz:=by rw[←Yc];exact oU sz hkn
          rw[show ei.off=(E id).off from rfl,hgetv,if_neg vbX] at hv
          exact((k8 k hkn).2.2 j lv v hj hv).keep vbZ hkeep (fun b hb=>.inl (hown b hb)) (ou _)
        · rw [r2 k vbX hk]
          have hkm:k - n<m:=vbX
          refine⟨c2 _ hkm,c4 _ hkm,fun j lv v hj hv=>?_⟩
          have hjs:j<sz:=by rw[←c2 _ hkm];exact(oE.1 hj).1
          have e1:k * sz=n * sz+(k - n) * sz:=by rw[←Ys];congr 1;omega
          have hlt:(k - n) * sz+sz≤m * sz:=by rw[←Yc];exact oU sz hkm
          rw[show ei.off=(E id).off from rfl,hgetv,if_pos (by rw[za8];omega),show(E id).off+k * sz+j - ((E id).off+n * sz)=(k - n) * sz+j from by omega,zf2 hsz1 _ _ hkm hjs] at hv
          cases hv
          exact(c3 _ j lv hkm hj).keep vbZ hkeep (fun b hb=>.inl (hown b hb)) (ou _)
      · -- it grows
        obtain⟨z,hz1,hz2⟩:=hz
        obtain⟨i',zv,g1,g2,g3,g4⟩:=zbs hz1
        rw[hi] at g1;cases g1
        let olds:List Value:=(us.toList.drop (E id).off).take (n * sz)
        have hns:n * sz≤cap * sz:=oU sz k5
        have hol:olds.length=n * i.size:=by rw[←hsz];simp[olds];omega
        have hog : ∀t, t < n * sz → olds[t]? = us[(E id).off + t]? := fun t ht => by
          simp only[olds,YA,if_pos ht,YB,Ye]
        have holds : ∀j u, olds[j]? = some u → w.cell? ((⟨b, (E id).off, none⟩ : Addr).add j) = some u := fun j u h => by
          have hj : j < n * sz := by
            have:=(oE.1 h).1
            rw[hol,←hsz] at this;exact this
          rw[hog j hj] at h
          rw[za1]
          simp[Yj,k4,h]
        have hfits:Builtin.nextslicecap (n+m) cap * i.bytes≤281474976710656:=growslice_fits vbX hbd
        have hr:=run_append_grow (P:=P) w T o.type e i zv hu hi g2 ⟨b,(E id).off,none⟩ n cap olds hol holds ad m capy (zb4 m sz cv) hnl (fun j u h=>zfh hsz1 c1 j u h) vbX vbX hfits
        have hge:=grownCap_ge w (n+m) cap e
        let ei:EI:=⟨some w.heap.size,0,some ⟨w.heap.size,0,none⟩,n+m,grownCap w (n+m) cap e,n+m⟩
        have hsz1' : (olds.toArray ++ (zb4 m sz cv).toArray ++ Builtin.zeroCells zv.cells (grownCap w (n + m) cap e - (n + m))).size = grownCap w (n + m) cap e * sz := by
          simp only[Array.size_append,List.size_toArray,hol,hnl,size_zeroCells,g3,hz2,←hsz]
          rw[←Ys,←Ys]
          congr 1;omega
        have hgO : ∀t, t < n * sz → (olds.toArray ++ (zb4 m sz cv).toArray ++ Builtin.zeroCells zv.cells (grownCap w (n + m) cap e - (n + m)))[t]? = us[(E id).off + t]? := fun t ht => by
          rw[Yk (by simp[hol,za8,←hsz];omega),Yk (by simp[hol,←hsz];omega),Yf,hog t ht]
        have hgN : ∀t, t < m * sz → (olds.toArray ++ (zb4 m sz cv).toArray ++ Builtin.zeroCells zv.cells (grownCap w (n + m) cap e - (n + m)))[n * sz + t]? = (zb4 m sz cv)[t]? := fun t ht => by
          rw[Yk (by simp[hol,za8,←hsz];omega),Array.getElem?_append_right (by simp[hol,←hsz]),Yf]
          congr 1
          simp[hol,←hsz]
        generalize olds.toArray++(zb4 m sz cv).toArray++Builtin.zeroCells zv.cells (grownCap w (n+m) cap e - (n+m))=news at hr hsz1' hgO hgN
        refine fin ei _ ?_ hr
        have hh:∀b',b'<w.heap.size→(w.drew.alloc (.cells news e)).heap[b']?=w.heap[b']?:=fun b' hb'=>Below.heap_alloc w.drew _ _ hb'
        have hown : ∀b', Own (σ.upd (killL [id]) (oneB d (.arr sz (n + m) row'))) (E.setF (one d (.arr sz (n + m) row') ei)) X0 b' → Own σ E X0 b' ∨ w.heap.size ≤ b' := fun b' hb' => by
          rcases zd2 zdv hb' with hq | hq
          · exact .inl hq
          · simp only [ei,oo] at hq;exact .inr vbX
        rw[←za6 d (.arr sz (n+m) row') ei,←FS.setF_eq]
        refine hs.set (killL [id]) d _ ei (.inl hd) vbZ (fun b' hb' _=>hh b' hb') (fun b' hb'=>.inl (by simp only[ei,oo] at hb';omega)) (hs.below.drew.alloc hs.below.size _) (fun c lv q hc=>vbR) ?_
        rw[FS.setF_eq,za6]
        refine⟨vbT,.inr ⟨w.heap.size,grownCap w (n+m) cap e,news,e,vbT,by rw[hEd];rfl,hs.below.size,heap_alloc_new w.drew _,hge,grownCap_le_maxLen w (n+m) cap e vbx,by rw[hEd];simp only[ei];omega,fun k hk=>?_⟩⟩
        rw[hEd]
        by_cases hkn:k<n
        · rw [r1 k hkn]
          refine⟨(k8 k hkn).1,(k8 k hkn).2.1,fun j lv v hj hv=>?_⟩
          have hjs:j<sz:=by rw[←(k8 k hkn).1];exact(oE.1 hj).1
          have hlt:k * sz+sz≤n * sz:=by rw[←Yc];exact oU sz hkn
          rw[show ei.off=0 from rfl,yA,hgO _ vbX,←Yt] at hv
          exact((k8 k hkn).2.2 j lv v hj hv).keep vbZ (fun b hb _=>hh b hb) hown (ou _)
        · rw [r2 k vbX hk]
          have hkm:k - n<m:=vbX
          refine⟨c2 _ hkm,c4 _ hkm,fun j lv v hj hv=>?_⟩
          have hjs:j<sz:=by rw[←c2 _ hkm];exact(oE.1 hj).1
          have e1:k * sz=n * sz+(k - n) * sz:=by rw[←Ys];congr 1;omega
          have hlt:(k - n) * sz+sz≤m * sz:=by rw[←Yc];exact oU sz hkm
          rw[show ei.off=0 from rfl,yA,show k * sz+j=n * sz+((k - n) * sz+j) from by omega,hgN _ vbX,zf2 hsz1 _ _ hkm hjs] at hv
          cases hv
          exact(c3 _ j lv hkm hj).keep vbZ (fun b hb _=>hh b hb) hown (ou _)

theorem zzg(hs : Sat N w0 X0 σ E a w){o : Oper}{f : Operand}{args : Array Operand}{tys : Array TypeId}(ho : o.op = .call { callee := .value f, args, argTypes := tys }){d : Nat}{g : Nat}{p q : List Prop}
    (hf:ev σ.slot f=some (.fn g,p)) (hp:All p) {xs ys:List LV} (hx:evs σ.slot args.toList=some (xs,q)) (hq:All q) (hc:zgn σ.blk xs=some ys) {fn:Func} (hfn:P.funcs[g]?=some fn) (hbody:fn.body.isSome=true)
    (hname : (fn.name == "runtime.NumGoroutine") = false) {r : LV} {arrs : List BC} (hF : Fn P g ys r arrs) (hnew : ∀ j, resB d arrs j ≠ none → σ.used j = false) (nw : List Nat) (pp : List Prop) :
    MOk P N w0 X0 σ a w o ⟨some (ren (resId d) r),noK,resB d arrs,nw,pp⟩:=by
  intro K Q hk
  have e1:=(zae hs hf hp).1.fn_inv
  obtain⟨h1,h2⟩:=zew hs hx hq
  obtain⟨c1,c2⟩:=zl9 hs hc
  have hbn:fn.body.isNone=false:=by simp_all
  have hrun : (execOp a.eval o).run P w = .ok (.enter g (args.map a.eval)) w := by
    simp only[execOp,ho,oD,resolve,e1,Deferred.ofValue,oJ,ow,invoke,callFunc,run_program,hfn,hname,hbn]
    simp
  unfold Oper.wp
  rw[hrun]
  have := hF w (args.toList.map a.eval) (hs.gh.below hs.below) (by rw [Yx]; omega) (fun i lv v hlv hv => by
    obtain⟨z,hz,hzz⟩:=c2 i lv hlv
    obtain⟨x,hx1,hx2,_⟩:=h2 i z hz
    simp only[Ym,hx1,Yw,oo] at hv
    subst hv
    exact hzz _ hx2)
  rw[show(args.map a.eval)=(args.toList.map a.eval).toArray from by rw[←YQ]]
  refine this.mono fun e w' hh=>?_
  obtain⟨v,rfl,hb,hr⟩:=hh
  obtain⟨E',g1,g2,g3⟩:=hs.called hb hr d hnew
  grind

theorem zu6(hs : Sat N w0 X0 σ E a w){o : Oper}{f : Operand}{args : Array Operand}{tys : Array TypeId}(ho : o.op = .call { callee := .value f, args, argTypes := tys }){d : Nat}{g : Nat}{cs : List LV}{p q : List Prop}
    (hf:ev σ.slot f=some (.clo g cs,p)) (hp:All p) {xs ys:List LV} (hx:evs σ.slot args.toList=some (xs,q)) (hq:All q) (hc:zgn σ.blk (xs++cs)=some ys) {fn:Func} (hfn:P.funcs[g]?=some fn) (hbody:fn.body.isSome=true)
    (hname : (fn.name == "runtime.NumGoroutine") = false) {r : LV} {arrs : List BC} (hF : Fn P g ys r arrs) (hnew : ∀ j, resB d arrs j ≠ none → σ.used j = false) (nw : List Nat) (pp : List Prop) :
    MOk P N w0 X0 σ a w o ⟨some (ren (resId d) r),noK,resB d arrs,nw,pp⟩:=by
  intro K Q hk
  obtain⟨vs,e1,hl,hcap⟩:=(zae hs hf hp).1.clo_inv
  obtain⟨h1,h2⟩:=zew hs hx hq
  obtain⟨c1,c2⟩:=zl9 hs hc
  have hbn:fn.body.isNone=false:=by cases h:fn.body<;>simp_all
  have hrun : (execOp a.eval o).run P w = .ok (.enter g (args.map a.eval ++ vs)) w := by
    simp only[execOp,ho,oD,resolve,e1,Deferred.ofValue,oJ,ow,invoke,callFunc,run_program,hfn,hname,oT,if_false,hbn,Array.append_empty]
    simp
  unfold Oper.wp
  rw[hrun]
  show Calls P g (args.map a.eval++vs) w _
  have hlen:args.toList.length=xs.length:=h1
  have hsz:args.size=xs.length:=by simpa using hlen
  have hvl:vs.toList.length=cs.length:=vbG
  have := hF w (args.toList.map a.eval ++ vs.toList) (hs.gh.below hs.below) (by rw [og, Yx, c1, og]; omega) (fun i lv v hlv hv => by
    obtain⟨z,hz,hzz⟩:=c2 i lv hlv
    by_cases hi:i<xs.length
    · rw [o3 hi] at hz
      obtain⟨x,hx1,hx2,_⟩:=h2 i z hz
      rw[o3 (by rw[Yx];omega)] at hv
      simp only[Ym,hx1,Yw,oo] at hv
      subst hv
      exact hzz _ hx2
    · rw [o4 vbX] at hz
      rw[o4 (by rw[Yx];omega),Yx,hlen,Ye] at hv
      exact hzz _ (hcap _ z v hz hv))
  rw[show(args.map a.eval++vs)=(args.toList.map a.eval++vs.toList).toArray from by rw[←List.toArray_appendList];simp]
  refine this.mono fun e w' hh=>?_
  obtain⟨v,rfl,hb,hr⟩:=hh
  obtain⟨E',g1,g2,g3⟩:=hs.called hb hr d hnew
  refine hk v w' E' g1 (fun h=>vbU) fun lv hlv=>?_
  cases hlv
  exact⟨g2,g3⟩

theorem zq6(hs : Sat N w0 X0 σ E a w){d : Nat}{x : Option Operand}{n : Int}{p : List Prop}(h : optN σ.slot d x = some (n, p))(ha : All p) : (x = none ∧ n = (d : Int)) ∨ ∃o k, x = some o ∧ a.eval o = .int k n := by
 unfold optN at h;split at h
 ·cases h; exact .inl ⟨rfl, rfl⟩
 rename_i o;split at h
 ·rename_i k n' p' he;cases h;exact .inr ⟨o, k, rfl, (zae hs he ha).1.int_inv⟩
 cases h
theorem zf9(hs : Sat N w0 X0 σ E a w){lo hi : Option Operand}{l h : Int}{p q : List Prop}{len cap : Nat}{b : Bool}(h1 : optN σ.slot 0 lo = some (l, p))(h2 : optN σ.slot len hi = some (h, q))(hp : All p)(hq : All q)(h0 : 0 ≤ l)(hlh : l ≤ h)(hh : h ≤ (len : Int))(hc : len ≤ cap) : (Instr.sliceBounds b len cap (lo.map a.eval) (hi.map a.eval) none).run P w = .ok (l.toNat, h.toNat, cap) w := by
 have eh:(h.toNat:Int)=h:=Int.toNat_of_nonneg vbX;rcases zq6 hs h1 hp with⟨rfl,rfl⟩ | ⟨o1,k1,rfl,e1⟩<;>rcases zq6 hs h2 hq with⟨rfl,rfl⟩ | ⟨o2,k2,rfl,e2⟩
 ·simp [Instr.sliceBounds]
 ·simp [Instr.sliceBounds, e2, run_sliceBound w k2 h cap _ vbX vbX]
 ·simp [Instr.sliceBounds, e1, run_sliceBound w k1 l len _ h0 vbX]
 simp[Instr.sliceBounds,e1,e2,run_sliceBound w k2 h cap _ vbX vbX,run_sliceBound w k1 l h.toNat _ h0 vbX]
theorem zjn {T e : Nat} (hu : P.underlying T = some (.slice e)) {s : Nat} (hz : szOf P e = some s) {A : Option Addr} {len cap : Nat} {lo hi : Option Value} {l h m : Nat} (hb : (Instr.sliceBounds true len cap lo hi none).run P w = .ok (l, h, m) w) : (Instr.sliceAt T (.slice A len cap) lo hi none).run P w = .ok (.slice (if m = l then A else A.map (·.add (l * s))) (h - l) (m - l)) w := by rw [run_sliceAt_slice (t := T) (h := zv4 hu)];simp [Instr.slice, oM hu, hb, zba hz]

theorem zmz(hs : Sat N w0 X0 σ E a w){o : Oper}{d T : Nat}{x : Operand}{lo hi : Option Operand}(ho : o.op = .slice T x lo hi none){e : Nat}(hu : P.underlying T = some (.slice e)){id sz n : Nat}{row : Nat → List LV}(hx : RepV w w0.heap.size (Own σ E X0) E (.own id) (a.eval x))(hb : σ.blk id = some (.arr sz n row))(hz : szOf P e = some sz){l h : Int}{p q : List Prop}(h1 : optN σ.slot 0 lo = some (l, p))(h2 : optN σ.slot n hi = some (h, q))(hp : All p)(hq : All q)(h0 : 0 ≤ l)(hlh : l ≤ h)(hh : h ≤ (n : Int))(hd : σ.used d = false)(nw : List Nat)(pp : List Prop) : MOk P N w0 X0 σ a w o ⟨some (.own d), killL [id], oneB d (.arr sz (h.toNat - l.toNat) (fun k => row (l.toNat + k))), nw, pp⟩ := by
 have hbid:σ.blk id≠none:=vbM
 have he:=hx.own_inv;obtain⟨hn,hk0⟩:=hs.blks id _ hb;intro K Q hk;have hEo:∀(c:BC) (ei:EI) (j:Nat),σ.blk j≠none→(E.setF (one d c ei)) j=E j:=fun c ei j hj=>by have:j≠d:=fun e=>hj (e ▸ zbt hs hd);simp[Env.setF,one,this]
 have hEd:∀(c:BC) (ei:EI),(E.setF (one d c ei)) d=ei:=fun c ei=>by simp[Env.setF,one]
 have fin:∀(c:BC) (ei:EI),Sat N w0 X0 (σ.upd (killL [id]) (oneB d c)) (E.setF (one d c ei)) a w→(execOp a.eval o).run P w=.ok (.value ei.val) w→c=.arr sz (h.toNat - l.toNat) (fun k=>row (l.toNat+k))→o.wp P a w K Q:=fun c ei hS hr hc=>by subst hc;refine zbe hr (hk _ _ _ hS (fun h=>vbU) fun lv hlv=>?_);cases hlv;refine⟨?_,fun id hmm=>vbi⟩;have:=RepV.own (w:=w) (B:=w0.heap.size) (X:=Own (σ.upd (killL [id]) (oneB d (.arr sz (h.toNat - l.toNat) (fun k=>row (l.toNat+k))))) (E.setF (one d (.arr sz (h.toNat - l.toNat) (fun k=>row (l.toNat+k))) ei)) X0) (E:=E.setF (one d (.arr sz (h.toNat - l.toNat) (fun k=>row (l.toNat+k))) ei)) d;rw[hEd] at this;exact this
 rcases hk0 with⟨k1,k2,k3⟩ | ⟨b,cap,us,T',k1,k2,k3,k4,k5,k6,k7,k8⟩
 ·subst k3;have hl0 : l = 0 := vbX
  have hh0:h=0:=vbX
  subst hl0;subst hh0;let ei:EI:=⟨none,0,none,0,0,0⟩;refine fin _ ei ?_ ?_ rfl
  ·rw [← za6 d _ ei, ← FS.setF_eq];exact hs.set (killL [id]) d _ ei (.inl hd) (ou _) (fun _ _ _ => rfl) (fun b hb => by cases hb) hs.below (fun c lv q hc => vbR) ⟨by rw [hEd]; rfl, .inl ⟨vbT, by rw [hEd]; rfl, rfl⟩⟩
  have hbr:=zf9 (P:=P) (cap:=0) (b:=true) hs h1 h2 hp hq h0 hlh hh (ou _);have:=zjn (P:=P) hu hz (A:=none) hbr;simp only[execOp,ho,oD,he,k2,YT];rw[this];rfl
 have hbr:=zf9 (P:=P) (cap:=cap) (b:=true) hs h1 h2 hp hq h0 hlh hh k5;have hsl:=zjn (P:=P) hu hz (A:=some ⟨b,(E id).off,none⟩) hbr;let ei:EI:=⟨some b,if cap=l.toNat then(E id).off else(E id).off+l.toNat * sz,some (if cap=l.toNat then⟨b,(E id).off,none⟩ else⟨b,(E id).off+l.toNat * sz,none⟩),h.toNat - l.toNat,cap - l.toNat,h.toNat - l.toNat⟩;have hval:ei.val=.slice (some ⟨b,ei.off,none⟩) (h.toNat - l.toNat) (cap - l.toNat):=by simp only[EI.val,ei];split<;>rfl
 refine fin _ ei ?_ ?_ rfl
 ·have hown : ∀ b', Own (σ.upd (killL [id]) (oneB d (.arr sz (h.toNat - l.toNat) (fun k => row (l.toNat + k))))) (E.setF (one d (.arr sz (h.toNat - l.toNat) (fun k => row (l.toNat + k))) ei)) X0 b' → Own σ E X0 b' := fun b' hb' => by
   rcases zd2 zdv hb' with hq | hq
   ·exact hq
   simp only[ei,oo] at hq;subst hq;exact .inr ⟨id,.inl ⟨hbid,k1⟩⟩
  rw[←za6 d _ ei,←FS.setF_eq];refine hs.set (killL [id]) d _ ei (.inl hd) (ou _) (fun _ _ _=>rfl) (fun b' hb'=>.inr ⟨id,.inr (killL_mem.2 vbZ),hbid,va6⟩) hs.below (fun c lv q hc=>vbR) ?_;rw[FS.setF_eq,za6];have hlc:l.toNat≤cap:=vbX
  refine⟨vbT,.inr ⟨b,cap - l.toNat,us,T',vbT,by rw[hEd];exact hval,k3,k4,vbX,vbX,?_,fun k hk=>?_⟩⟩
  ·rw [hEd];have : l.toNat * sz + (cap - l.toNat) * sz = cap * sz := (by rw [← Ys]; congr 1; omega);simp only [ei];split
   ·rename_i hc; rw [hc]; simp; omega
   omega
  rw[hEd];have hkn:l.toNat+k<n:=vbX
  obtain⟨m1,m2,m3⟩:=k8 _ hkn;refine⟨m1,m2,fun j lv v hj hv=>?_⟩;have hcn:¬cap=l.toNat:=vbX
  have hoff:ei.off=(E id).off+l.toNat * sz:=by simp[ei,hcn]
  rw[hoff,show(E id).off+l.toNat * sz+k * sz+j=(E id).off+(l.toNat+k) * sz+j from by rw[Ys];omega] at hv;exact(m3 j lv v hj hv).keep (ou _) (fun _ _ _=>rfl) (fun b hb=>.inl (hown b hb)) (ou _)
 simp only[execOp,ho,oD,he,k2,YT];rw[hsl];simp only[ow,oJ,hval];congr 3;simp only[ei];split
 ·rfl
 rw[Yw,za1]

theorem zfw{e : Nat}{i : TypeInfo}(h : zOk P e i = true) : ∃z, zeroL P e = some z ∧ z.length = i.size := by
 unfold zOk at h;split at h
 ·rename_i z hz; exact ⟨z, hz, om h⟩
 cases h

theorem All.getRange{len : Nat}{f : Nat → Prop}(h : All ((yI len).map f)) : ∀i, i < len → f i := by
 intro i hi;have key : ∀(l : List Nat), All (l.map f) → ∀x ∈ l, f x := by
  intro l;induction l with
  |nil =>intro _ x hx;simp at hx
  |cons y l ih =>
   intro h x hx;rcases oQ.1 hx with rfl | hx
   ·exact h.1
   exact ih h.2 x hx
 exact key _ h i (by simpa using hi)

theorem zl8{c : Bool}{α : Type}{x y : α}(h : (bif c then some x else none) = some y) : c = true ∧ x = y := by
 cases c with
 |true =>exact⟨rfl,vbK⟩
 |false =>cases h

theorem zrk{kd : KD}{lv : LV}{k : KV}(h : keyL kd lv = some k){B : Nat}{X : Nat → Prop}{v : Value}(hr : RepV w B X E lv v) : kd.key v = some k := by
 unfold keyL at h;split at h
 ·cases h; rw [hr.str_inv]; simp [KD.key]
 ·rw [hr.int_inv]; exact h
 ·cases h;obtain ⟨vs, rfl, hl, hh⟩ := hr.agg_inv;obtain ⟨l⟩ := vs;match l, hl with
  |[x,y],_ =>have h1:=(hh 0 _ x rfl rfl).int_inv;have h2:=(hh 1 _ y rfl rfl).int_inv;subst h1;subst h2;rfl
 cases h
theorem zva{V : TypeId}{m : MV}(h : mapTy P V m = true)(w : World) : ∃z, (zeroValue V).run P w = .ok z w ∧ match m with
    |.b _=>z=.bool false
    |.i _=>z=.int .i64 0:=by
  cases m with
  |b f =>
    simp only[mapTy,zero1] at h
    cases hi:P.info? V with
    |none=>simp[hi] at h
    |some i =>
      simp only[hi] at h
      split at h
      · rename_i hz;exact ⟨.bool false,by simp [zeroValue,typeInfo,hi,hz],rfl⟩
      · cases h
  |i f =>
    simp only[mapTy,zero1] at h
    cases hi:P.info? V with
    |none=>simp[hi] at h
    |some i =>
      simp only[hi] at h
      split at h
      · rename_i hz;exact ⟨.int .i64 0,by simp [zeroValue,typeInfo,hi,hz],rfl⟩
      · cases h
theorem zlg(hs : Sat N w0 X0 σ E a w){o : Oper}{T : TypeId}{x i : Operand}{ok : Bool}(ho : o.op = .lookup T x i ok){K V : TypeId}(ht : P.underlying T = some (.map K V)){kd : KD}{m : MV}{b : Nat}{es : Array MapEntry}{ck : Nat}(g2 : a.eval x = .map (some b))(k3 : w.heap[b]? = some (.map es ck))(k4 : MapOk kd m es){kv : LV}{k : KV}(hi : RepV w w0.heap.size (Own σ E X0) E kv (a.eval i))(hk : keyL kd kv = some k)(hkd : kdOk P K kd = true)(hm : mapTy P V m = true) : VOk P w0 X0 σ E a w o (lookL m k ok) := by
 obtain⟨z,hz,hz2⟩:=zva hm w;have hrun:=zpd ht hkd k3 k4 (zrk hk hi) hz ok;refine⟨_,by simp only[execOp,ho,oD,g2,hrun,ow,oJ];rfl,?_,fun id' hmm=>?_⟩
 ·cases m with
  |b f =>
   simp only at hz2;subst hz2;have e:((MV.b f).val k).getD (.bool false)=.bool ((f k).getD false):=(by simp only[MV.val];cases f k<;>rfl);have e2:((MV.b f).val k).isSome=(f k).isSome:=(by simp[MV.val]);rw[e,e2];cases ok with
   |false =>exact .c _ _ (.bool _)
   |true =>
    refine .c _ _ (.tup _ _ rfl fun i lv v hl hv=>?_);match i with
    |0 =>simp at hl hv;subst hl;subst hv;exact .bool _
    |1 =>simp at hl hv;subst hl;subst hv;exact .bool _
    |i+2 =>simp at hl
  |i f =>
   simp only at hz2;subst hz2;have e:((MV.i f).val k).getD (.int .i64 0)=.int .i64 ((f k).getD 0):=(by simp only[MV.val];cases f k<;>rfl);have e2:((MV.i f).val k).isSome=(f k).isSome:=(by simp[MV.val]);rw[e,e2];cases ok with
   |false =>exact .c _ _ (.int _ _)
   |true =>
    refine .c _ _ (.tup _ _ rfl fun i lv v hl hv=>?_);match i with
    |0 =>simp at hl hv;subst hl;subst hv;exact .int _ _
    |1 =>simp at hl hv;subst hl;subst hv;exact .bool _
    |i+2 =>simp at hl
 exfalso;cases m<;>cases ok<;>simp only[lookL,oC,oB] at hmm
 ·cases hmm
 ·cases hmm with
  |tup _ y _ hy hm' =>simp at hy;rcases hy with rfl|rfl<;>cases hm'
 ·cases hmm
 cases hmm with
 |tup _ y _ hy hm' =>simp at hy;rcases hy with rfl|rfl<;>cases hm'

theorem zth(hs:Sat N w0 X0 σ E a w){o:Oper}{d:Nat}{T:TypeId}(ho:o.op=.makeMap T none){K V:TypeId}(ht:P.underlying T=some (.map K V))(hi:σ.used d=false)(kd:KD)(nw:List Nat)(p:List Prop):MOk P N w0 X0 σ a w o ⟨some (.mp d),noK,oneB d (.mp kd (newMV P V)),nw,p⟩:=by intro K' Q hk;have hm:MapOk kd (newMV P V) #[]:=(by refine⟨fun e he=>by simp at he,fun k=>?_⟩;unfold newMV;split<;>rfl);obtain⟨E',h1,h2⟩:=hs.newMap hi kd (newMV P V) #[] 0 hm;have hrun:(execOp a.eval o).run P w=.ok (.value (.map (some w.heap.size))) (w.alloc (.map #[] 0)):=(by simp only[execOp,ho,oD,Instr.makeMap,run_newObj,ow,oJ,YT];rfl);refine zbe hrun (hk _ _ E' h2 (fun h=>vbU) fun lv hlv=>?_);cases hlv;exact⟨.mp d w.heap.size h1,fun id hmm=>vbi⟩

theorem zy3{m m' : MV}{k : KV}{v : LV}(h : m.setL k v = some m'){B : Nat}{X : Nat → Prop}{u : Value}(hr : RepV w B X E v u) : ∀k', m'.val k' = if k' = k then some u else m.val k' := by
 intro k';unfold MV.setL at h;split at h
 ·cases h;rw [hr.bool_inv];simp only [MV.val, mset];split <;> simp_all
 ·cases h;rw [hr.int_inv];simp only [MV.val, mset];split <;> simp_all
 cases h

theorem zly(hs : Sat N w0 X0 σ E a w){o : Oper}{T : TypeId}{x i y : Operand}(ho : o.op = .mapUpdate T x i y ∨ o.op = .insert T x i y)(hd : o.dst = none){K V : TypeId}(ht : P.underlying T = some (.map K V)){id : Nat}{kd : KD}{m m' : MV}(hx : RepV w w0.heap.size (Own σ E X0) E (.mp id) (a.eval x))(hb : σ.blk id = some (.mp kd m)){kv v : LV}{k : KV}(hi : RepV w w0.heap.size (Own σ E X0) E kv (a.eval i))(hk : keyL kd kv = some k)(hy : RepV w w0.heap.size (Own σ E X0) E v (a.eval y))(hkd : kdOk P K kd = true)(hm : m.setL k v = some m')(nw : List Nat)(p : List Prop) : MOk P N w0 X0 σ a w o ⟨none, noK, oneB id (.mp kd m'), nw, p⟩ := by
 intro K' Q hkk;obtain⟨b,g1,g2⟩:=hx.mp_inv;obtain⟨b',es,ck,k1,k2,k3,k4⟩:=hs.blks id _ hb;rw[g1] at k1;cases k1;obtain⟨es',ck',hrun,q1,q2⟩:=zkz (x:=a.eval y) ht hkd k3 k4.1 (zrk hk hi);have hset:=MapKept.heap_set (o':=.map es' ck') k3;have hr:(execOp a.eval o).run P w=.ok .skip { w with heap:=w.heap.setIfInBounds b (.map es' ck') }:=by rcases ho with ho | ho<;>simp only[execOp,ho,oD,g2,hrun,ow,oJ]
 have hE : ∀i, (E.setF (one id (.mp kd m') (E id))) i = E i := fun i => by
  by_cases e:i=id
  ·subst e; simp [Env.setF, one]
  simp[Env.setF,one,e]
 refine zme hr (hkk undef _ (E.setF (one id (.mp kd m') (E id))) ?_ (fun _=>rfl) fun lv h=>vbU);rw[←za6 id (.mp kd m') (E id),←FS.setF_eq];have hbl:b<w.heap.size:=(oI.1 k3).1;refine hs.set noK id _ (E id) (.inr ⟨rfl,vbM⟩) vbZ (fun b' hb' hno=>hset.2 b' fun e=>hno id (.inl rfl) vbM vbE) (fun b' hb'=>.inr ⟨id,.inl rfl,vbM,hb'⟩) ⟨hs.below.os,hs.below.tape,hs.below.output,by simpa using hs.below.size,fun j hj=>by rw[hset.2 j vbX];exact hs.below.block j hj⟩ (fun cells lv i hc=>vbR) ?_;refine⟨b,es',ck',by rw[hE];exact g1,k2,hset.1,q1,fun k'=>?_⟩;rw[q2 k',zy3 hm hy k',k4.2 k']

theorem zhq{i : Nat} : ∀{ids : List Nat}, i ∈ ids → ids[idxOf ids i]? = some i
  |x :: r, h => by
    simp only[idxOf]
    cases hb:yv x i with
    |true=>have:=om hb;subst this;simp
    |false =>
      simp only[oB,List.getElem?_cons_succ]
      rcases oQ.1 h with rfl | h
      · rw [Yy] at hb;cases hb
      · exact zhq h
theorem zj5 : ∀{ids : List Nat}, zfg ids = true → ∀(k l i : Nat), ids[k]? = some i → ids[l]? = some i → k = l
  |[],_,k,l,i,h,_=>by simp at h
  |x :: r, hn, k, l, i, h1, h2 => by
    simp only[zfg,oc,od] at hn
    have hx : ∀m, r[m]? ≠ some x := fun m hm => by
      have:=killL_mem.2 (oW hm)
      rw[hn.1] at this;cases this
    cases k with
    |zero =>
      cases l with
      |zero=>rfl
      |succ l=>simp at h1 h2;subst h1;exact absurd h2 (hx l)
    |succ k =>
      cases l with
      |zero=>simp at h1 h2;subst h2;exact absurd h1 (hx k)
      |succ l=>rw[zj5 hn.2 k l i vbH vbI]
theorem zmq{blk : Nat → Option BC}{ids : List Nat} : ∀{l : List Nat} {bl : List BC}, preL blk ids l = some bl → bl.length = l.length ∧ ∀(k i : Nat), l[k]? = some i → ∃c, blk i = some c ∧ varIn (killL ids) c = true ∧ bl[k]? = some (renB (inM ids) c)
  |[],bl,h=>by cases h;exact⟨rfl,fun k i h=>vbQ⟩
  |x :: r, bl, h => by
    simp only[preL] at h
    split at h
    · rename_i c l h1 h2
      obtain⟨hc,h⟩:=zl8 h
      subst h
      obtain⟨g1,g2⟩:=zmq h2
      refine⟨by simp[g1],fun k i hk=>?_⟩
      cases k with
      |zero=>simp at hk;subst hk;exact⟨c,h1,hc,vbZ⟩
      |succ k=>simpa using g2 k i vbJ
    · cases h

set_option maxHeartbeats 1000000 in
theorem zhl(hs : Sat N w0 X0 σ E a w){o : Oper}{f : Operand}{args : Array Operand}{tys : Array TypeId}(ho : o.op = .call { callee := .value f, args, argTypes := tys }){g : Nat}{p pp : List Prop}{xs cs : List LV}(hfv : All p → ∃vs : Array Value, a.eval f = .func (.func g) #[] vs ∧ vs.size = cs.length ∧ ∀(i : Nat) lv u, cs[i]? = some lv → vs[i]? = some u → RepV w w0.heap.size (Own σ E X0) E lv u)(hx : ∃q, evs σ.slot args.toList = some (xs, q) ∧ pp = p ++ q){dst : Bool}{d : Nat}{ids : List Nat}{rbl : List (Nat × BC)}{r : LV}{D : MD}(hD : callM P σ.blk g (xs ++ cs) pp dst d ids rbl r = some D)(hvc : All D.vcs)(hnew : ∀i ∈ D.new, σ.used i = false)(hdst : dst = false → o.dst = none) : MOk P N w0 X0 σ a w o D := by
 obtain⟨q,hx,rfl⟩:=hx;unfold callM at hD;split at hD;case h_2=>cases hD
 rename_i bl fn hbl hfn;obtain⟨hc,hD⟩:=zl8 hD;subst hD;simp only[oc,od] at hc;obtain⟨hname,hnd,hxm,hkeys⟩:=hc;obtain⟨hpq,hF,_⟩:=All.append.1 hvc;obtain⟨hp,hq⟩:=All.append.1 hpq;obtain⟨b1,b2⟩:=zmq hbl;let Ec:Env:=⟨fun i=>bif yy 900000 i then E (ids.getD (i - 900000) 0) else⟨none,0,none,0,0,0⟩,fun i=>bif yy 900000 i then E.s (ids.getD (i - 900000) 0) else fun _=>False⟩;have hin:∀id,id∈ids→Ec (inM ids id)=E id:=fun id hid=>by have h1:=zhq hid;have h2:yy 900000 (inM ids id)=true:=oZ (by unfold inM;omega);show(bif yy 900000 (inM ids id) then E (ids.getD (inM ids id - 900000) 0) else _)=_;rw[h2];simp only[oC,inM,show 900000+idxOf ids id - 900000=idxOf ids id by omega,oh,h1,YD]
 have hpre : ∀i, preB bl i ≠ none → ∃k id, i = 900000 + k ∧ ids[k]? = some id ∧ Ec i = E id ∧ ∃c, σ.blk id = some c ∧ varIn (killL ids) c = true ∧ preB bl i = some (renB (inM ids) c) := fun i hi => by
  unfold preB at hi ⊢;cases hb:yy 900000 i with
  |false =>rw[hb] at hi;exact absurd rfl hi
  |true =>
   have h9 := oS hb;rw[hb] at hi;simp only[oC] at hi ⊢;have hlt : i - 900000 < bl.length := by
    rcases oY (i - 900000) bl.length with h | h
    ·exact h
    exact absurd (o5 h) hi
   have hk:ids[i - 900000]?=some (ids[i - 900000]' vbX):=oj vbX;obtain⟨c,h1,h2,h3⟩:=b2 _ _ hk;refine⟨i - 900000,_,vbX,hk,?_,c,h1,h2,h3⟩;show(bif yy 900000 i then E (ids.getD (i - 900000) 0) else _)=_;rw[hb];simp only[oC,oh,hk,YD]
 have hsub:∀k id,ids[k]?=some id→Ec.s (900000+k)=E.s id:=fun k id hk=>by show(bif yy 900000 (900000+k) then E.s (ids.getD (900000+k - 900000) 0) else _)=_;rw[show yy 900000 (900000+k)=true from oZ vbX,show 900000+k - 900000=k by omega];simp only[oC,oh,hk,YD]
 have hpre2:∀id,id∈ids→preB bl (inM ids id)≠none∧σ.blk id≠none:=fun id hid=>by obtain⟨c,h1,h2,h3⟩:=b2 _ _ (zhq hid);refine⟨?_,by rw[h1];simp⟩;unfold preB;rw[show yy 900000 (inM ids id)=true from oZ (by unfold inM;omega)];simp only[oC,inM,show 900000+idxOf ids id - 900000=idxOf ids id by omega,h3];simp
 have hlive : ∀k id, ids[k]? = some id → σ.blk id ≠ none := fun k id hk => (hpre2 id (oW hk)).2;have hat : ∀i b, OwnAt (preB bl) Ec i b → ∃k id, i = 900000 + k ∧ ids[k]? = some id ∧ OwnAt σ.blk E id b := fun i b hb => by
  obtain⟨k,id,rfl,h1,h2,c,h3,_,h5⟩:=hpre i hb.ne;refine⟨k,id,rfl,h1,?_⟩;rcases hb with⟨_,hb⟩ | ⟨hm,hb⟩
  ·rw [h2] at hb; exact .inl ⟨hlive k id h1, hb⟩
  rw[hsub k id h1] at hb;rw[h5] at hm;refine .inr ⟨?_,hb⟩;rw[h3];cases c with
  |nest _ _ _ _ =>trivial
  |bld _ _ _ =>trivial
  |var _ =>exact hm.elim
  |arr _ _ _ =>exact hm.elim
  |mp _ _ =>exact hm.elim
 let xo : Nat → Prop := fun b => Own σ E X0 b ∧ ∀id ∈ ids, ¬OwnAt σ.blk E id b;have hX1 : ∀b, OwnB xo (preB bl) Ec b → Own σ E X0 b := fun b hb => by
  rcases hb with hb | ⟨i,hi⟩
  ·exact hb.1
  obtain⟨k,id,rfl,h1,h2⟩:=hat i b hi;exact .inr ⟨id,h2⟩
 have hownlt : ∀b, Own σ E X0 b → b < w.heap.size := fun b hb => by
  rcases hb with hb | ⟨i,hi⟩
  ·exact hs.xlt hb
  exact hs.olt hi
 obtain⟨cv,e1,hcl,hcap⟩:=hfv hp;obtain⟨h1,h2⟩:=zew hs hx hq;have hcvl:cv.toList.length=cs.length:=by simpa using hcl
 have hal:(args.toList.map a.eval).length=xs.length:=by rw[Yx];exact h1
 have hgo:(execOp a.eval o).run P w=(callFunc g (args.toList.map a.eval++cv.toList).toArray).run P w:=by rw[show(args.toList.map a.eval++cv.toList).toArray=(args.map a.eval++cv) from by rw[←List.toArray_appendList];simp];simp only[execOp,ho,oD,resolve,e1,Deferred.ofValue,oJ,ow,invoke];simp
 have hreps0 : ∀(i : Nat) x, (xs ++ cs)[i]? = some x → ∃v, (args.toList.map a.eval ++ cv.toList)[i]? = some v ∧ RepV w w0.heap.size (Own σ E X0) E x v := fun i x hx' => by
  by_cases hi:i<xs.length
  ·rw [o3 hi] at hx';obtain ⟨y, hy1, hy2, _⟩ := h2 i x hx';exact ⟨_, by rw [o3 vbX]; simp only [Ym, hy1, Yw], hy2⟩
  rw[o4 vbX] at hx';have hlt:=(oE.1 hx').1;have hv:cv[i - xs.length]?=some (cv[i - xs.length]' vbX):=oL vbX;refine⟨cv[i - xs.length]' vbX,?_,hcap _ x _ hx' hv⟩;rw[o4 vbX,hal,Ye];exact hv
 have hreps:∀(i:Nat) x,(dfrL (xs++cs))[i]?=some x→∃v,(args.toList.map a.eval++cv.toList)[i]?=some v∧RepV w w0.heap.size (Own σ E X0) E x v:=fun i x hx'=>by rw[zbg] at hx';simp only[oq] at hx';obtain⟨y,hy,rfl⟩:=hx';obtain⟨v,h8,h9⟩:=hreps0 i y hy;exact⟨v,h8,h9.dfrX⟩
 have hmx:∀lv∈dfrL (xs++cs),∀id,Ment lv id→id∈ids:=fun lv hl id hm=>killL_mem.1 (zbx hm (zbk hxm lv hl))
 have hcall : ∀ C : Array Value → World → (Ending → World → Prop) → Prop, FnG C (renL (inM ids) (dfrL (xs ++ cs))) bl r rbl → C (args.toList.map a.eval ++ cv.toList).toArray w _ := fun C hF => hF w0 w xo (args.toList.map a.eval ++ cv.toList) Ec hs.gh (by rw [og, zby, zb1, og, hal, hcvl]) hs.below (fun b hb => ⟨hownlt b hb.1, fun i hi => by
     obtain⟨k,id,rfl,g1,g2⟩:=hat i b hi
     exact hb.2 id (oW g1) g2⟩) (fun b hb=>by
     rcases hb.1 with hx | ⟨i,hi⟩
     · exact hs.xge b hx
     · exact hs.own_geA hi) (fun i lv v hlv hv=>by
     rw[zdc] at hlv
     simp only[oq] at hlv
     obtain⟨x,hxi,rfl⟩:=hlv
     obtain⟨y,hy1,hy2⟩:=hreps i x hxi
     rw[hy1] at hv
     cases hv
     have hxm':=hmx x (oW hxi)
     refine⟨hy2.renamed (ou _) hX1 fun id hid=>hin id (hxm' id hid),fun id hid=>?_⟩
     obtain⟨k,rfl,hk⟩:=ze1 _ _ _ hid
     exact(hpre2 k (hxm' k hk)).1) ⟨fun i c hc=>by
     obtain⟨k,id,rfl,g1,g2,c0,g3,g4,g5⟩:=hpre i (by rw[hc];simp)
     rw[hc] at g5
     cases g5
     refine(hs.blks id c0 g3).renamed hX1 g2 (fun b=>by rw[hsub k id g1]) (fun wd cl sz n rows hcc=>by subst hcc;exact g4) fun cells lv id' hcc hl hm=>hin id' ?_
     subst hcc
     exact killL_mem.1 (zbx hm (zbk g4 lv hl)),fun i j b hi hj=>by
     obtain⟨k,id,rfl,g1,g2⟩:=hat i b hi
     obtain⟨l,id',rfl,g1',g2'⟩:=hat j b hj
     have:=hs.injA id id' b g2 g2'
     subst this
     rw[zj5 hnd k l id g1 g1'],fun i cells lv id hi hl hm=>by
     obtain⟨k,id0,rfl,g1,g2,c0,g3,g4,g5⟩:=hpre i (by rw[hi];simp)
     rw[hi] at g5
     cases c0 with
     |var cs =>
       simp only[renB,oo,BC.var.injEq] at g5
       subst g5
       obtain⟨x,hx1,rfl⟩:=zmo hl
       obtain⟨m,rfl,hm'⟩:=ze1 _ _ _ hm
       exact(hpre2 m (killL_mem.1 (zbx hm' (zbk g4 x hx1)))).1
     |arr=>simp[renB] at g5
     |mp=>simp[renB] at g5
     |bld=>simp[renB] at g5
     |nest=>simp[renB] at g5,fun i wd cl sz n rows hi=>by
     obtain⟨m,id0,rfl,g1,g2,c0,g3,g4,g5⟩:=hpre i (by rw[hi];simp)
     rw[hi] at g5
     cases c0 with
     |nest wd' cl' sz' n' rows'=>simp only[renB,oo,BC.nest.injEq] at g5;rw[g5.2.1];exact g4
     |arr=>simp[renB] at g5
     |mp=>simp[renB] at g5
     |bld=>simp[renB] at g5
     |var=>simp[renB] at g5⟩
 intro K Q hk;have fin : ∀e w', (∃v E', e = Ending.returned v ∧ Below w0.heap.size w0 w' ∧ w.heap.size ≤ w'.heap.size ∧ (∀b, b < w.heap.size → (∀i, ¬OwnAt (preB bl) Ec i b) → w'.heap[b]? = w.heap[b]?) ∧ (∀i, 900000 ≤ i → look rbl i ≠ none → E' i = Ec i ∧ preB bl i ≠ none) ∧ (∀i b, OwnAt (look rbl) E' i b → w.heap.size ≤ b ∨ ∃j, OwnAt (preB bl) Ec j b) ∧ (RepV w' w0.heap.size (OwnB xo (look rbl) E') E' r v ∧ ∀id, Ment r id → look rbl id ≠ none) ∧ BlksOk w' w0.heap.size xo E' (look rbl)) → ∃v, e = Ending.returned v ∧ K (a.put o.dst v) w' := fun e w' hh => by
  obtain ⟨v, E', rfl, p1, p2, p3, p4, p5, ⟨p6, p7⟩, p8⟩ := hh;refine ⟨v, rfl, ?_⟩;let U : Nat → Option (BC × EI) := look (rbl.map fun x => (outM ids d x.1, (renB (outM ids d) x.2, E' x.1)));have hUub : (fun j => (U j).map (·.1)) = look (rbl.map fun x => (outM ids d x.1, renB (outM ids d) x.2)) := by funext j;exact zis (outM ids d) (fun x => (renB (outM ids d) x.2, E' x.1)) (·.1) rbl j
  have hUs:∀j y,U j=some y→∃i c,outM ids d i=j∧look rbl i=some c∧y=(renB (outM ids d) c,E' i):=fun j y hy=>zgx (outM ids d) (fun x=>(renB (outM ids d) x.2,E' x.1)) hy;have hUn:∀i,look rbl i≠none→U (outM ids d i)≠none:=fun i hi=>zlf (outM ids d) (fun x=>(renB (outM ids d) x.2,E' x.1)) hi;have hnw:∀i,i<900000→look rbl i≠none→σ.used (resId d i)=false:=fun i hi hl=>by obtain⟨c,hc⟩:=oN.1 hl;refine hnew _ ?_;simp only[newM,Y9,List.mem_filter];exact⟨(i,c),⟨zbl hc,oZ hi⟩,rfl⟩
  have hout : ∀i, look rbl i ≠ none → (i < 900000 ∧ outM ids d i = resId d i ∧ σ.used (resId d i) = false) ∨ ∃k id, i = 900000 + k ∧ ids[k]? = some id ∧ outM ids d i = id ∧ E' i = E id := fun i hi => by
   rcases oY i 900000 with h | h
   ·left;refine ⟨h, ?_, hnw i h hi⟩;unfold outM;rw [show yy 900000 i = false from by cases hb : yy 900000 i with | false => rfl | true => have := oS hb; omega];rfl
   right;obtain⟨q1,q2⟩:=p4 i h hi;obtain⟨k,id,rfl,g1,g2,_⟩:=hpre i q2;refine⟨k,id,rfl,g1,?_,by rw[q1,g2]⟩;unfold outM;rw[oZ h];simp only[oC,show 900000+k - 900000=k by omega,oh,g1,YD]
  have hinj : ∀i j, look rbl i ≠ none → look rbl j ≠ none → outM ids d i = outM ids d j → i = j := fun i j hi hj he => by
   rcases hout i hi with⟨h1,h2,h3⟩ | ⟨k,id,rfl,h1,h2,_⟩<;>rcases hout j hj with⟨g1,g2,g3⟩ | ⟨l,id',rfl,g1,g2,_⟩
   ·rw [h2, g2] at he; unfold resId at he; omega
   ·rw [h2, g2] at he;rw [he, hs.live id' (hlive l id' g1)] at h3; cases h3
   ·rw [h2, g2] at he;rw [← he, hs.live id (hlive k id h1)] at g3; cases g3
   rw[h2,g2] at he;subst he;rw[zj5 hnd k l id h1 g1]
  let S : Nat → Nat → Prop := fun j b => ∃i, look rbl i ≠ none ∧ outM ids d i = j ∧ E'.s i b;have hSi : ∀i, look rbl i ≠ none → ∀b, S (outM ids d i) b ↔ E'.s i b := fun i hi b => ⟨fun ⟨i', h1, h2, h3⟩ => by rw[hinj i' i h1 hi h2] at h3; exact h3, fun h => ⟨i, hi, rfl, h⟩⟩;have hmr : ∀c, Mul (some (renB (outM ids d) c)) → Mul (some c) := fun c hc => by
   cases c with
   |nest _ _ _ _ =>trivial
   |bld _ _ _ =>trivial
   |var _ =>exact hc.elim
   |arr _ _ _ =>exact hc.elim
   |mp _ _ =>exact hc.elim
  have hUE:∀i,look rbl i≠none→(E.setFS U S) (outM ids d i)=E' i:=fun i hi=>by obtain⟨y,hy⟩:=oN.1 (hUn i hi);obtain⟨i',c,h1,h2,rfl⟩:=hUs _ y hy;have:=hinj i' i (by rw[h2];simp) hi h1;subst this;simp only[Env.setFS,hy]
  have hUS:∀i,look rbl i≠none→∀b,(E.setFS U S).s (outM ids d i) b↔E'.s i b:=fun i hi b=>by obtain⟨y,hy⟩:=oN.1 (hUn i hi);simp only[Env.setFS,hy];exact hSi i hi b
  have hatU : ∀j y b, U j = some y → (y.2.b = some b ∨ (Mul (some y.1) ∧ S j b)) → ∃i, outM ids d i = j ∧ OwnAt (look rbl) E' i b := fun j y b hU hb => by
   obtain⟨i,c,rfl,h2,rfl⟩:=hUs j y hU;refine⟨i,rfl,?_⟩;rcases hb with hb | ⟨hm,hb⟩
   ·exact .inl ⟨by rw [h2]; simp, hb⟩
   exact .inr ⟨by rw[h2];exact hmr c hm,(hSi i (by rw[h2];simp) b).1 hb⟩
  have hX2 : ∀b, Own (σ.setF (killL ids) U) (E.setFS U S) X0 b → OwnB xo (look rbl) E' b := fun b hb => by
   rcases hb with hb | ⟨j,hj⟩
   ·exact .inl ⟨.inl hb, fun id hid => hs.xneA hb⟩
   cases hU:U j with
   |some y =>
    have hbk:(σ.setF (killL ids) U).blk j=some y.1:=(by simp[FS.setF,hU])
    obtain ⟨i, _, hi⟩ := hatU j y b hU (by
      rcases hj with⟨_,hj⟩ | ⟨hm,hj⟩
      · simp only [Env.setFS,hU] at hj;exact .inl hj
      · simp only [Env.setFS,hU] at hj;rw [hbk] at hm;exact .inr ⟨hm,hj⟩)
    exact .inr ⟨i,hi⟩
   |none =>
    have hbk:(σ.setF (killL ids) U).blk j=if killL ids j=true then none else σ.blk j:=(by simp[FS.setF,hU]);cases hkl:killL ids j with
    |true =>rw[hkl] at hbk;exact absurd hbk hj.ne
    |false =>
     rw[hkl] at hbk;have hj' : OwnAt σ.blk E j b := by
      rcases hj with⟨h5,hj⟩ | ⟨hm,hj⟩
      ·simp only [Env.setFS, hU] at hj; rw [hbk] at h5; exact .inl ⟨h5, hj⟩
      simp only[Env.setFS,hU] at hj;rw[hbk] at hm;exact .inr ⟨hm,hj⟩
     refine .inl ⟨.inr ⟨j,hj'⟩,fun id hid hidb=>?_⟩;have:=hs.injA j id b hj' hidb;subst this;rw[killL_mem.2 hid] at hkl;cases hkl
  have hS : Sat N w0 X0 (σ.setF (killL ids) U) (E.setFS U S) a w' := by
   refine hs.setFS (killL ids) U S (fun i y hy=>?_) p2 (fun b hb hno=>p3 b hb fun i hi=>?_) (fun i y b hy hyb=>?_) (fun i j y z b hy hz hyb hzb=>?_) p1 (fun i cells ei lv id hU hl hm=>?_) (fun i wd cl sz n rows ei k id hU hk hid=>?_) fun i y hy=>?_
   ·obtain ⟨i0, c, rfl, h2, rfl⟩ := hUs i y hy;rcases hout i0 (by rw [h2]; simp) with ⟨g1, g2, g3⟩ | ⟨k, id, rfl, g1, g2, g3⟩
    ·rw [g2]; exact .inl g3
    right;rw[g2];exact⟨g3,hlive k id g1⟩
   ·obtain ⟨k, id, rfl, g1, g2⟩ := hat i b hi;exact hno id (.inr (killL_mem.2 (oW g1))) g2
   ·obtain ⟨i0, _, hi0⟩ := hatU i y b hy hyb;rcases p5 i0 b hi0 with h3 | ⟨j, hj⟩
    ·exact .inl h3
    obtain⟨k,id,rfl,g1,g2⟩:=hat j b hj;exact .inr ⟨id,.inr (killL_mem.2 (oW g1)),g2⟩
   ·obtain ⟨i0, rfl, hi0⟩ := hatU i y b hy hyb;obtain ⟨j0, rfl, hj0⟩ := hatU j z b hz hzb;rw [p8.inj i0 j0 b hi0 hj0]
   ·obtain ⟨i0, c, rfl, h2, he⟩ := hUs i _ hU;cases c with
    |var cs =>simp only[renB,o6,BC.var.injEq] at he;obtain⟨rfl,rfl⟩:=he;obtain⟨x,hx1,rfl⟩:=zmo hl;obtain⟨m,rfl,hm'⟩:=ze1 _ _ _ hm;exact .inl (hUn m (p8.ment i0 cs x m h2 hx1 hm'))
    |arr =>simp[renB] at he
    |mp =>simp[renB] at he
    |bld =>simp[renB] at he
    |nest =>simp[renB] at he
   ·obtain ⟨i0, c, rfl, h2, he⟩ := hUs i _ hU;cases c with
    |nest wd' cl' sz' n' rows' =>simp only[renB,o6,BC.nest.injEq] at he;obtain⟨⟨rfl,rfl,rfl,rfl,rfl⟩,rfl⟩:=he;obtain⟨ek9,hs9,_⟩:=p8.ok i0 _ h2;exact absurd hid (hs9.cl (p8.out i0 _ _ _ _ _ h2) k id hk)
    |arr =>simp[renB] at he
    |mp =>simp[renB] at he
    |bld =>simp[renB] at he
    |var =>simp[renB] at he
   obtain⟨i0,c,rfl,h2,rfl⟩:=hUs i y hy;refine(p8.ok i0 c h2).renamed hX2 (hUE i0 (by rw[h2];simp)) (hUS i0 (by rw[h2];simp)) (fun wd cl sz n rows hcc=>?_) fun cells lv id hcc hl hm=>?_
   ·subst hcc;exact p8.out i0 _ _ _ _ _ h2
   subst hcc;exact hUE id (p8.ment i0 cells lv id h2 hl hm)
  have hput:∀u,(dst=false→u=undef)→K (a.put o.dst u) w'→True:=fun _ _ _=>trivial;have hSu:σ.upd (killL ids) (look (rbl.map fun x=>(outM ids d x.1,renB (outM ids d) x.2)))=σ.setF (killL ids) U:=by rw[FS.setF_eq,hUub]
  cases dst with
  |true =>refine hk v w' (E.setFS U S) (by rw[hSu];exact hS) (fun h=>vbU) fun lv hlv=>?_;cases hlv;rw[hSu];refine⟨p6.renamed (ou _) hX2 fun id hid=>hUE id (p7 id hid),fun id hid=>?_⟩;obtain⟨m,rfl,hm'⟩:=ze1 _ _ _ hid;obtain⟨y,hy⟩:=oN.1 (hUn m (p7 m hm'));simp[FS.setF,hy]
  | false =>have hd:=hdst rfl;have:=hk undef w' (E.setFS U S) (by rw[hSu];exact hS) (fun _=>rfl) fun lv hlv=>(by cases hlv);rw[hd] at this ⊢;exact this
 cases hb:fn.body.isSome with
 |true =>rw[hb] at hF;have hbn:fn.body.isNone=false:=(by cases h:fn.body<;>simp_all);have hrun:(execOp a.eval o).run P w=.ok (.enter g (args.toList.map a.eval++cv.toList).toArray) w:=(by rw[hgo];simp only[callFunc,oD,run_program,hfn,ow,hname,oT,if_false,hbn,oJ]);unfold Oper.wp;rw[hrun];show Calls P g _ w _;exact(hcall _ hF).mono fun e w' hh=>by obtain⟨v,rfl,hk'⟩:=fin e w' hh;exact hk'
 |false =>rw[hb] at hF;obtain⟨v,w',hr,hh⟩:=hcall _ hF;obtain⟨v',e,hk'⟩:=fin _ w' hh;cases e;exact zbe (hgo.trans hr) hk'

theorem zaj{c : Bool}{α : Type}{x y : α}(h : (bif c then some x else none) = some y) : c = true ∧ x = y := by
 cases c with
 |true =>exact⟨rfl,vbK⟩
 |false =>cases h

theorem zmb(w : World)(f : Value → ByteArray → Sem (ForInStep ByteArray))(hf : ∀n s, f (.int .u8 n) s = pure (ForInStep.yield (s.push (UInt8.ofNat n.toNat)))) : ∀(cs : List Value) (l : List Int) (s : ByteArray), cs.length = l.length → (∀(k : Nat) v, cs[k]? = some v → v = .int .u8 (l.getD k wl)) →
    (forIn cs s f).run P w=.ok ⟨(s.data.toList++l.map byteOf).toArray⟩ w
  |[],[],s,_,_=>by simp
  |c :: cs, n :: l, s, hl, hh => by
    have e:=hh 0 c rfl
    subst e
    simp only[List.forIn_cons,List.getD_cons_zero,hf,oD,oJ,ow]
    have:=zmb w f hf cs l (s.push (UInt8.ofNat n.toNat)) vbG fun k v hv=>by simpa using hh (k+1) v (by simpa using hv)
    refine Eq.trans this ?_
    simp[byteOf]

theorem zu7(hs : Sat N w0 X0 σ E a w){o : Oper}{S T : TypeId}{x : Operand}(ho : o.op = .convert S T x){e : Nat}(hS : P.underlying S = some (.slice e))(hT : P.underlying T = some .string)(hu : P.underlying e = some (.int .u8)){v : LV}{n : Nat}{row : Nat → List LV}{is : List Nat}(hx : RepV w w0.heap.size (Own σ E X0) E v (a.eval x))(hv : arrOf σ.blk v = some (1, n, row, is)){l : List Int}(hn : n = l.length)(hr : ∀k, k < n → row k = [.int .u8 (l.getD k wl)])(nw : List Nat)(p : List Prop) : MOk P N w0 X0 σ a w o ⟨some (.str (l.map byteOf)), noK, fun _ => none, nw, p⟩ := by
 intro K Q hk;obtain⟨A,cap,hval,hcells⟩:=zg4 hs hv hx;have hup:σ.upd noK (fun _=>none)=σ:=by cases σ;simp[FS.upd,noK]
 have hrun : (execOp a.eval o).run P w = .ok (.value (.string ⟨(l.map byteOf).toArray⟩)) w := by
  simp only[execOp,ho,oD,Go.convert,oM hS,oM hT,ow,hval,hu,oM hu,Conv.bytesToString];cases A with
  |none =>
   have h0 : n = 0 := by
    rcases wi n with h | h
    ·exact h
    obtain⟨_,_,h1,_⟩:=hcells h;cases h1
   have:l=[]:=Yz vbX;subst this;rfl
  |some ad =>
   have hc:∀j,j<n→w.cell? (ad.add j)=some (.int .u8 (l.getD j wl)):=fun j hj=>(by obtain⟨ad',cv,h1,h2,h3,h4,_⟩:=hcells vbX;cases h1;have h5:=h2 j 0 hj vbX;rw[wc,Yv] at h5;have h6:=h4 j 0 (.int .u8 (l.getD j wl)) hj (by rw[hr j hj];rfl);rw[h5,(RepV.c (E:=E) _ _ h6).int_inv]);simp only[oD,run_loadCells w ad n (fun j=>.int .u8 (l.getD j wl)) hc,ow];rw[←Array.forIn_toList]
   rw [zmb (P := P) w _ (fun n s => rfl) ((yI n).map fun j => Value.int .u8 (l.getD j wl)) l ByteArray.empty (by simp [hn]) (fun k v hv => by
     simp only[Ym,oq] at hv
     obtain⟨j,hj,rfl⟩:=hv
     rw[List.getElem?_range (by simpa using (oE.1 hj).1)] at hj
     cases hj;rfl)]
   simp
 refine zbe hrun (hk _ w E (by rw[hup];exact hs) (fun h=>vbU) fun lv hlv=>?_);cases hlv;rw[hup];exact⟨.c _ _ (.str _),fun id hm=>vbS⟩

set_option maxHeartbeats 1000000 in
theorem zlz(hs : Sat N w0 X0 σ E a w){o : Oper}{h : Hint}{D : MD}(hm : mop0 P o σ.slot σ.blk h = some D)(ha : All D.vcs)(hnew : ∀i ∈ D.new, σ.used i = false) : MOk P N w0 X0 σ a w o D := by
 unfold mop0 at hm;split at hm
 ·rename_i T x d ho hd;split at hm
  ·rename_i v p hv;split at hm
   ·rename_i n e _;split at hm
    ·rename_i z sz cs hz hsz hcs;obtain ⟨hc, rfl⟩ := zaj hm;simp only [oc] at hc;obtain ⟨hp, e1, e2, e3⟩ := hc;have e1 := om e1;obtain ⟨ha1, ha2⟩ := All.append.1 ha;obtain ⟨g1, g2⟩ := zae hs hv ha1;obtain ⟨c1, c2, _, c4⟩ := zey hcs g1;have hcz : cs = (yw n z).flatten := ha2.1;have hl : cs.length = n * sz := (by rw [hcz, zbj, e1]);refine zj8 hs (T := T) (vs := (a.eval x).cells) (cap := n) (ks := []) ?_ (hnew d vbZ) (oS e2) (ou _) (by have := oS e3; unfold maxLen; omega) vbX (fun k hk => e1) (fun k hk => zg5 hz) (fun k hk => by cases hk) (fun X' hX hkX k hk j lv u hj hu => ?_) _ _
     ·simp only [execOp, ho, oD, Instr.box, newVar, newRow, run_newObj, ow, oJ];rfl
     have hjl:j<z.length:=(oE.1 hj).1;have hk2:k * sz+sz≤n * sz:=va9;have hx:cs[k * sz+j]?=some lv:=(by obtain⟨y,hy⟩:∃y,cs[k * sz+j]?=some y:=⟨_,oj vbX⟩;have:=zc0 z n (k * sz+j) y (by rw[←hcz];exact hy);rw[e1,Nat.add_comm,Nat.add_mul_mod_self_right,YZ vbX,hj] at this;rw[hy,this]);have hr:=c2 _ lv u hx hu;have hpl:zup lv=true:=o0.1 hp lv (oW hj);cases lv<;>simp only[zup,oT] at hpl
     ·rw [hr.int_inv]; exact .int _ _
     ·rw [hr.bool_inv]; exact .bool _
     rw[hr.nilS_inv];exact .nilS
    cases hm
   simp only[oq] at hm;obtain⟨cs,hcs,rfl⟩:=hm;obtain⟨g1,g2⟩:=zae hs hv ha;obtain⟨c1,c2,_,c4⟩:=zey hcs g1;refine zlw hs (T:=T) (vs:=(a.eval x).cells) ?_ (hnew d vbZ) c1 c2 (fun y hy id hmm=>g2 id (c4 y hy id hmm)) _ _;simp only[execOp,ho,oD,Instr.box,newVar,newRow,run_newObj,ow,oJ];rfl
  cases hm
 ·rename_i T d ho hd;split at hm
  ·rename_i row';split at hm
   ·rename_i n e cs hu hcs;split at hm
    ·rename_i sz hz;obtain ⟨hc, rfl⟩ := zaj hm;simp only [oc] at hc;have e1 := om hc.1.1;have e2 := oS hc.1.2;have e3 := oS hc.2;have hrow := All.getRange ha;obtain ⟨i, z, g1, g2, g3, g4⟩ := zbs hcs;have hone := zg5 hcs;refine zj8 hs (T := T) (vs := z.cells) (cap := n) (ks := []) ?_ (hnew d vbZ) e2 (ou _) (by unfold maxLen; omega) vbX (fun k hk => ?_) (fun k hk => ?_) (fun k hk => by cases hk) (fun X' hX hkX k hk j lv v hj hv => ?_) _ _
     ·simp only [execOp, ho, oD, Instr.alloc, zeroValue, typeInfo, run_program, ow, g1, g2, oJ, newVar, newRow, run_newObj];rfl
     ·rw [hrow k hk];have : k * sz + sz ≤ n * sz := (by rw [← Yc]; exact oU sz hk);simp; omega
     ·rw [hrow k hk];intro lv hlv;exact hone lv (Yo (Yp hlv))
     rw[hrow k hk,YA] at hj;split at hj
     ·rw [YB] at hj;exact g4 _ lv v hj hv
     cases hj
    cases hm
   cases hm
  simp only[oq] at hm;obtain⟨cs,hcs,rfl⟩:=hm;obtain⟨i,z,g1,g2,g3,g4⟩:=zbs hcs;refine zlw hs (T:=T) (vs:=z.cells) ?_ (hnew d vbZ) g3 (fun j x u hx hu=>.c _ _ (g4 j x u hx hu)) (fun y hy id hmm=>?_) _ _
  ·simp only [execOp, ho, oD, Instr.alloc, zeroValue, typeInfo, run_program, ow, g1, g2, oJ, newVar, newRow, run_newObj];rfl
  obtain⟨j,hj,e⟩:=oX hy;have hju:z.cells[j]?=some (z.cells[j]' vbX):=oL vbX;exact absurd hmm ((g4 (w:=w) (B:=0) (X:=fun _=>False) j y _ (by rw[oj hj,e]) hju).noMent id)
 ·rename_i T x y ho hd;split at hm
  ·rename_i id off p v q n hx hy hz;split at hm
   ·rename_i cs vs hb hv;obtain ⟨hc, rfl⟩ := zaj hm;simp only [oc] at hc;obtain ⟨ha1, ha2⟩ := All.append.1 ha;obtain ⟨g1, g2⟩ := zae hs hx ha1;obtain ⟨k1, k2⟩ := zae hs hy ha2;exact zmy hs ho hd g1 k1 k2 hz hb hv (om hc.1) (oS hc.2) _
   cases hm
  ·rename_i id sz i off p v q n hx hy hz;split at hm
   ·rename_i sz' m row vs row' hb hv;split at hm
    ·rename_i xs ks hf;obtain ⟨hc, rfl⟩ := zaj hm;simp only [oc, od] at hc;obtain ⟨⟨⟨e1, e2⟩, e3⟩, e4⟩ := hc;have e1 := om e1;subst e1;obtain ⟨hab, hrow, _⟩ := All.append.1 ha;obtain ⟨ha1, ha2⟩ := All.append.1 hab;exact zn9 hs ho (zae hs hx ha1).1 (zae hs hy ha2).1 hz hb hv hf (om e2) (oS e3) e4 hrow _
    cases hm
   cases hm
  cases hm
 ·rename_i T l c d ho hd;split at hm
  ·rename_i e kl n p kc m q hu hl hc;split at hm
   ·rename_i z i hz hi;obtain ⟨hzz, rfl⟩ := zaj hm;obtain ⟨hab, hv, _⟩ := All.append.1 ha;obtain ⟨ha1, ha2⟩ := All.append.1 hab;exact zzf hs ho hu (zae hs hl ha1).1 (zae hs hc ha2).1 hz hi (om hzz) hv.1 hv.2.1 hv.2.2.1 hv.2.2.2 (hnew d vbZ) _ _
   cases hm
  cases hm
 ·rename_i T len parts d ho hd;split at hm
  ·rename_i e vs p hu hev;split at hm
   ·rename_i z n xs ks hz hsz hf;split at hm
    ·rename_i flat hfl;cases hc : (yv z.length n && yy (len * n) 16777216 && yy 1 n) with
     |false =>rw[hc] at hm;cases hm
     |true =>
      rw[hc] at hm;simp only[oC] at hm;simp only[oc] at hc;obtain⟨⟨e1,e2⟩,e3⟩:=hc;have e1:=om e1;have e2:=oS e2;have e3:=oS e3;split at hm
      ·rename_i row';cases hm;obtain ⟨ha1, ha2⟩ := All.append.1 ha;exact zgj hs ho hu hev ha1 hz hsz hf hfl e1 e2 e3 (hnew d vbZ) (All.getRange ha2) _ _
      obtain⟨hl1, rfl⟩ := zaj hm;have hl1 := oS hl1;refine zgj hs ho hu hev ha hz hsz hf hfl e1 e2 e3 (hnew d vbZ) (fun k hk => ?_) _ _;have hk0 : k = 0 := vbX;subst hk0;have hlen : len = 1 := vbX;subst hlen;have hfll : flat.length = n := by
       have : ∀{pl : List (Nat × List LV)} {cs out : List LV} {place : Nat → Option (Nat × Nat)}, fillL place cs pl = some out → out.length = cs.length := by
        intro pl;induction pl with
        |nil =>intro cs out place h;cases h;rfl
        |cons x pl ih =>
         intro cs out place h;obtain⟨j,v⟩:=x;unfold fillL at h;split at h
         ·rename_i off sz _;cases hcc : (yv v.length sz && yy (off + sz) cs.length) with
          |false =>rw[hcc] at h;cases h
          |true =>rw[hcc] at h;simp only[oC] at h;simp only[oc] at hcc;have h1:=om hcc.1;have h2:=oS hcc.2;rw[ih h,zcz _ _ _ vbX]
         cases h
       rw[this hfl,zbj];omega
      simp[List.take_of_length_le (show flat.length≤n by omega)]
    cases hm
   cases hm
  cases hm
 ·rename_i args tys d ho hd;split at hm
  ·rename_i x y T T' row' hargs htys;split at hm
   ·rename_i e x' p y' q hu hx hy;split at hm
    ·rename_i i sz m row2 is hi hya;split at hm
     ·obtain ⟨hc, rfl⟩ := zaj hm;simp only [oc] at hc;obtain ⟨⟨⟨⟨e0, e1⟩, e2⟩, e3⟩, e4⟩ := hc;have e1 := om e1;subst e1;obtain ⟨hab, hrow, hbd, _⟩ := All.append.1 ha;obtain ⟨ha1, ha2⟩ := All.append.1 hab;exact zgk hs (zae hs hx ha1).1.nilS_inv (fun v w' hr => zc6 ho hargs htys hr) hu hi (zfw e0) (om e2) (oS e3) (oS e4) hya (zae hs hy ha2).1 hrow hbd (hnew d vbZ) _ _
     ·rename_i id;split at hm
      ·rename_i sz' n row1 hb;obtain ⟨hc, rfl⟩ := zaj hm;simp only [oc] at hc;obtain ⟨⟨⟨⟨⟨e0, e1⟩, e2⟩, e5⟩, e3⟩, e4⟩ := hc;have e1 := om e1;subst e1;have e5 := om e5;subst e5;obtain ⟨hab, hrow, hbd, _⟩ := All.append.1 ha;obtain ⟨ha1, ha2⟩ := All.append.1 hab;exact zle hs (fun v w' hr => zc6 ho hargs htys hr) (zae hs hx ha1).1 hb hu hi (zfw e0) (om e2) (oS e3) (oS e4) hya (zae hs hy ha2).1 hrow hbd (hnew d vbZ) _ _
      cases hm
     cases hm
    cases hm
   cases hm
  cases hm
 ·rename_i f args tys d ho hd;split at hm
  ·rename_i g p xs q r arrs hf hx;split at hm
   ·rename_i ys fn hc hfn;obtain ⟨hb, rfl⟩ := zaj hm;simp only [oc, od] at hb;obtain ⟨hab, hF, _⟩ := All.append.1 ha;obtain ⟨ha1, ha2⟩ := All.append.1 hab;refine zzg hs ho hf ha1 hx ha2 hc hfn hb.1 hb.2 hF (fun j hj => ?_) _ _;obtain ⟨c, hcj⟩ := oN.1 hj;obtain ⟨k, rfl, hk⟩ := zhb hcj;have hkl := (oE.1 hk).1;exact hnew _ (Y9.2 ⟨k, oV.2 hkl, rfl⟩)
   cases hm
  ·rename_i g p xs q d' ids rbl r hf hx;exact zhl hs ho (fun hp => ⟨#[], (zae hs hf hp).1.fn_inv, rfl, fun i lv u h => vbQ⟩) ⟨q, hx, rfl⟩ hm ha hnew fun h => by cases h
  ·rename_i g cs p xs q d' ids rbl r hf hx;exact zhl hs ho (fun hp => vaL) ⟨q, hx, rfl⟩ hm ha hnew fun h => by cases h
  ·rename_i g cs p xs q r arrs hf hx;split at hm
   ·rename_i ys fn hc hfn;obtain ⟨hb, rfl⟩ := zaj hm;simp only [oc, od] at hb;obtain ⟨hab, hF, _⟩ := All.append.1 ha;obtain ⟨ha1, ha2⟩ := All.append.1 hab;refine zu6 hs ho hf ha1 hx ha2 hc hfn hb.1 hb.2 hF (fun j hj => ?_) _ _;obtain ⟨c, hcj⟩ := oN.1 hj;obtain ⟨k, rfl, hk⟩ := zhb hcj;have hkl := (oE.1 hk).1;exact hnew _ (Y9.2 ⟨k, oV.2 hkl, rfl⟩)
   cases hm
  cases hm
 ·rename_i f args tys ho hd;split at hm
  ·rename_i g p xs q d' ids rbl r hf hx;exact zhl hs ho (fun hp => ⟨#[], (zae hs hf hp).1.fn_inv, rfl, fun i lv u h => vbQ⟩) ⟨q, hx, rfl⟩ hm ha hnew fun _ => hd
  ·rename_i g cs p xs q d' ids rbl r hf hx;exact zhl hs ho (fun hp => vaL) ⟨q, hx, rfl⟩ hm ha hnew fun _ => hd
  cases hm
 ·rename_i S T x d ho hd;split at hm
  ·rename_i e v p l hS hT hx;split at hm
   ·rename_i sz n row is hu hv;obtain ⟨hc, rfl⟩ := zaj hm;have e1 := om hc;subst e1;obtain ⟨ha1, ha2, _⟩ := All.append.1 ha;exact zu7 hs ho hS hT hu (zae hs hx ha1).1 hv ha2.1 ha2.2 _ _
   cases hm
  cases hm
 ·rename_i T d ho hd;split at hm
  ·rename_i K V hu;obtain ⟨hc, rfl⟩ := zaj hm;exact zth hs ho hu (hnew d vbZ) _ _ _
  cases hm
 ·rename_i T x i y ho hd;split at hm
  ·rename_i K V id p kv q v r hu hx hi hy;split at hm
   ·rename_i kd m hb;split at hm
    ·rename_i k hk;split at hm
     ·rename_i m' hm';obtain ⟨hc, rfl⟩ := zaj hm;obtain ⟨hab, ha3⟩ := All.append.1 ha;obtain ⟨ha1, ha2⟩ := All.append.1 hab;exact zly hs (.inl ho) hd hu (zae hs hx ha1).1 hb (zae hs hi ha2).1 hk (zae hs hy ha3).1 hc hm' _ _
     cases hm
    cases hm
   cases hm
  cases hm
 ·rename_i T x i y ho hd;split at hm
  ·rename_i K V id p kv q v r hu hx hi hy;split at hm
   ·rename_i kd m hb;split at hm
    ·rename_i k hk;split at hm
     ·rename_i m' hm';obtain ⟨hc, rfl⟩ := zaj hm;obtain ⟨hab, ha3⟩ := All.append.1 ha;obtain ⟨ha1, ha2⟩ := All.append.1 hab;exact zly hs (.inr ho) hd hu (zae hs hx ha1).1 hb (zae hs hi ha2).1 hk (zae hs hy ha3).1 hc hm' _ _
     cases hm
    cases hm
   cases hm
  cases hm
 ·rename_i T x lo hi d ho hd;split at hm
  ·rename_i e id p hu hx;split at hm
   ·rename_i sz n row l q s hb h1 hz;split at hm
    ·rename_i h' r h2;obtain ⟨hc, rfl⟩ := zaj hm;have := om hc;subst this;obtain ⟨habc, hv, _⟩ := All.append.1 ha;obtain ⟨hab, ha3⟩ := All.append.1 habc;obtain ⟨ha1, ha2⟩ := All.append.1 hab;exact zmz hs ho hu (zae hs hx ha1).1 hb hz h1 h2 ha2 ha3 hv.1 hv.2.1 hv.2.2 (hnew d vbZ) _ _
    cases hm
   cases hm
  cases hm
 cases hm

theorem zhc : ∀{fs : List Field} {pl : List (Nat × Nat)}, zi7 P fs = some pl → fs.mapM (fun f => (P.info? f.type).map fun i => (f.offset, i.size)) = some pl
  |[],pl,h=>by cases h;rfl
  |f :: r, pl, h => by
    simp only[zi7] at h
    split at h
    · rename_i n l h1 h2
      cases h
      simp only[szOf,oq] at h1
      obtain⟨i,hi,rfl⟩:=h1
      simp[List.mapM_cons,hi,zhc h2]
    · cases h

theorem znt(hs : Sat N w0 X0 σ E a w){o : Oper}{T : Nat}{parts : Array (Nat × Operand)}(ho : o.op = .build T parts){z : List LV}(hz : zeroL P T = some z){vs : List (Nat × List LV)}{p : List Prop}(hev : za9 σ.slot parts.toList = some (vs, p))(ha : All p){place : Nat → Option (Nat × Nat)}{out : List LV}(hf : fillL place z vs = some out)(hrun : ∀i zv ov, P.info? T = some i → i.zero = some zv → Instr.fill place zv.cells (parts.map fun (i, x) => (i, a.eval x)).toList = some ov → (Instr.build T (parts.map fun (i, x) => (i, a.eval x))).run P w = .ok (.agg ov) w) : VOk P w0 X0 σ E a w o (.agg out) := by
 obtain⟨i,zv,g1,g2,g3,g4⟩:=zbs hz;obtain⟨q1,q2⟩:=zce hs hev ha
 obtain ⟨ov, k1, k2, k3, k4⟩ := zft (RepV w w0.heap.size (Own σ E X0) E) vs (parts.map fun (i, x) => (i, a.eval x)).toList z zv.cells out hf g3 (fun j x u hx hu => .c _ _ (g4 j x u hx hu)) (by simpa using q1)
   (fun j x y hx hy => by
     simp only[YQ,Ym,oq] at hy
     obtain⟨y0,hy0,rfl⟩:=hy
     obtain⟨r1,r2,r3,_⟩:=q2 j x y0 hx hy0
     exact⟨r1,r2,r3⟩)
 refine⟨.agg ov,?_,.agg out ov k2 k4,fun id hm=>?_⟩
 ·simp only [execOp, ho, oD, hrun i zv ov g1 g2 k1, ow, oJ]
 cases hm with
 |agg _ x _ hx hm' =>
  have key : ∀{pl : List (Nat × List LV)} {cs out : List LV}, fillL place cs pl = some out → ∀x ∈ out, x ∈ cs ∨ ∃q ∈ pl, x ∈ q.2 := by
   intro pl;induction pl with
   |nil =>intro cs out h x hx;cases h;exact .inl hx
   |cons y pl ih =>
    intro cs out h x hx;obtain⟨j,v⟩:=y;unfold fillL at h;split at h
    ·rename_i off sz _;cases hcc : (yv v.length sz && yy (off + sz) cs.length) with
     |false =>rw[hcc] at h;cases h
     |true =>
      rw[hcc] at h;simp only[oC] at h;rcases ih h x hx with h1 | ⟨q,hq,h1⟩
      ·unfold zcf at h1;rcases yx.1 h1 with h1 | h1
       ·exact .inl (Yp h1)
       rcases yx.1 h1 with h1 | h1
       ·exact .inr ⟨(j, v), List.mem_cons_self .., h1⟩
       exact .inl (Yo h1)
      exact .inr ⟨q,YL _ hq,h1⟩
    cases h
  rcases key hf x hx with h1 | ⟨q,hq,h1⟩
  ·obtain ⟨j, hj, e⟩ := oX h1;exact absurd hm' ((g4 (w := w) (B := 0) (X := fun _ => False) j x _ (by rw [oj hj, e]) (oL vbX)).noMent id)
  obtain⟨j,hj,e⟩:=oX hq;have hj':j<parts.toList.length:=vbX
  exact(q2 j q parts.toList[j] (by rw[oj hj,e]) (oj hj')).2.2.2 x h1 id hm'

theorem own_inv{w : World}{B : Nat}{X : Nat → Prop}{E : Env}{id : Nat}{v : Value}(h : RepV w B X E (.own id) v) : v = (E id).val := by
 cases h with
 |c _ _ h =>cases h
 |own _ =>rfl
theorem nilS_inv{w : World}{B : Nat}{X : Nat → Prop}{E : Env}{v : Value}(h : RepV w B X E .nilS v) : v = .slice none 0 0 := by
 cases h with
 |c _ _ h =>cases h;rfl
theorem zug{P:Program}{w:World}{T e:Nat}(hu:P.underlying T=some (.slice e)){ad:Addr}{n c:Nat}:(binOp .eql T (.slice (some ad) n c) (.slice none 0 0)).run P w=.ok (.bool false) w:=by have h:∀d:Nat,(Op.equalIn (d+1) T (.slice (some ad) n c) (.slice none 0 0)).run P w=.ok false w:=fun d=>(by simp[Op.equalIn,oM hu]);simp only[binOp];simp[Op.equal,Op.maxDepth,h 9999]
theorem zs5{P:Program}{w:World}{T e:Nat}(hu:P.underlying T=some (.slice e)):(binOp .eql T (.slice none 0 0) (.slice none 0 0)).run P w=.ok (.bool true) w:=by have h:∀d:Nat,(Op.equalIn (d+1) T (.slice none 0 0) (.slice none 0 0)).run P w=.ok true w:=fun d=>(by simp[Op.equalIn,oM hu]);simp only[binOp];simp[Op.equal,Op.maxDepth,h 9999]
theorem zl4{P:Program}{w:World}{op:BinOp}{T:Nat}{x y:Operand}{A A':Option Addr}{n n' c c':Nat}:(eqGuard op T x y (.slice A n c) (.slice A' n' c')).run P w=.ok () w:=vbg
theorem zlh(hs : Sat N w0 X0 σ E a w){o : Oper}{lv : LV}{p : List Prop}(hv : vop2 P o σ.slot σ.blk = some (lv, p))(ha : All p) : VOk P w0 X0 σ E a w o lv := by
 unfold vop2 at hv;split at hv
 ·rename_i T parts ho;split at hv
  ·rename_i fs z vs q hu hz hev;split at hv
   ·rename_i pl hpl;simp only [oq] at hv;obtain ⟨out, hf, e⟩ := hv;cases e;refine znt hs ho hz hev ha hf fun i zv ov g1 g2 hfl => run_build w T _ ov ?_;simp only [Program.built, g1, hu, g2, zhc hpl];simpa using hfl
   cases hv
  ·rename_i n e z vs q hu hz hev;split at hv
   ·rename_i m hm;simp only [oq] at hv;obtain ⟨out, hf, e'⟩ := hv;cases e';refine znt hs ho hz hev ha hf fun i zv ov g1 g2 hfl => run_build w T _ ov ?_;simp only [szOf, oq] at hm;obtain ⟨ie, hie, rfl⟩ := hm;simp only [Program.built, g1, hu, g2, hie];exact hfl
   cases hv
  cases hv
 ·rename_i T x lo hi ho;split at hv
  ·rename_i s q hu hx;split at hv
   ·rename_i l q1 h r1 h1 h2;cases hv;obtain ⟨habc, hv, _⟩ := All.append.1 ha;obtain ⟨hab, ha3⟩ := All.append.1 habc;obtain ⟨ha1, ha2⟩ := All.append.1 hab;have e1 := (zae hs hx ha1).1.str_inv;have hbr := zf9 (P := P) (cap := s.length) (b := false) hs h1 h2 ha2 ha3 hv.1 hv.2.1 hv.2.2 (ou _);refine ⟨.string ⟨((s.drop l.toNat).take (h.toNat - l.toNat)).toArray⟩, ?_, .c _ _ (.str _), fun id hm => vbS⟩;have hz : (⟨s.toArray⟩ : ByteArray).size = s.length := (by show s.toArray.size = s.length; simp);simp only [execOp, ho, oD, e1, YT, run_sliceAt_string (P := P) (t := T) (h := hu), Instr.slice, oM hu, ow, Option.isSome_none, oT, if_false, hz, hbr, oJ, ByteArray.extract_mk]
   cases hv
  ·rename_i e fr sz n row q hu hx;split at hv
   ·rename_i l q1 h r1 s h1 h2 hz;cases hc : yv s sz with
    |false =>rw[hc] at hv;cases hv
    |true =>
     rw[hc] at hv;simp only[oC,oo,o6] at hv;obtain⟨rfl,rfl⟩:=hv;have:=om hc;subst this;obtain⟨habc,hv,_⟩:=All.append.1 ha;obtain⟨hab,ha3⟩:=All.append.1 habc;obtain⟨ha1,ha2⟩:=All.append.1 hab;have hr:=(zae hs hx ha1).1.ro_inv;generalize he:a.eval x=v at hr;cases hr with
     |ro _ _ _ _ A ad cap cv hcap hA hlt hX hb hsz ho1 hcc hrr =>
      have hbr:=zf9 (P:=P) (cap:=cap) (b:=true) hs h1 h2 ha2 ha3 hv.1 hv.2.1 hv.2.2 hcap;have hsl:=zjn (P:=P) hu hz (A:=A) hbr;refine⟨_,by simp only[execOp,ho,oD,he,YT];rw[hsl];rfl,.c _ _ ?_,fun id hm=>vbS⟩;have hln:l.toNat≤n:=vbX;refine .ro fr s (h.toNat - l.toNat) _ _ (ad.add (l.toNat * s)) (cap - l.toNat) (fun i j=>cv (l.toNat+i) j) vbX (fun h0=>?_) (fun h0=>by rw[zcm];exact hlt vbX) (fun h0=>by rw[zcm];exact hX vbX) (fun h0 hf=>by rw[zcm];exact hb vbX hf) (fun i hi=>hsz _ vbX) (fun i hi=>ho1 _ vbX) (fun i j hi hj=>?_) fun i j lv hi hl=>hrr _ j lv vbX hl
      ·rw [if_neg vbX, hA vbX]; rfl
      rw[zil,←Yt,←Ys];exact hcc _ j vbX hj
   cases hv
  cases hv
 ·rename_i T x i ok ho;split at hv
  ·rename_i K V id p kv q hu hx hi;split at hv
   ·rename_i kd m hb;split at hv
    ·rename_i k hk;cases hc : (kdOk P K kd && mapTy P V m) with
     |false =>rw[hc] at hv;cases hv
     |true =>rw[hc] at hv;simp only[oC,oo,o6] at hv;obtain⟨rfl,rfl⟩:=hv;simp only[oc] at hc;obtain⟨ha1,ha2⟩:=All.append.1 ha;obtain⟨b,g1,g2⟩:=(zae hs hx ha1).1.mp_inv;obtain⟨b',es,ck,k1,k2,k3,k4⟩:=hs.blks _ _ hb;rw[g1] at k1;cases k1;exact zlg hs ho hu g2 k3 k4 (zae hs hi ha2).1 hk hc.1 hc.2
    cases hv
   cases hv
  ·rename_i K V kd m q kv r hu hx hi;split at hv
   ·rename_i k hk;obtain ⟨hc, e⟩ := zaj hv;cases e;simp only [oc] at hc;obtain ⟨ha1, ha2⟩ := All.append.1 ha;have hr := (zae hs hx ha1).1.rm_inv;generalize he : a.eval x = v at hr;cases hr with
    |rm _ _ b es ck hlt hX k3 k4 =>exact zlg hs ho hu he k3 k4 (zae hs hi ha2).1 hk hc.1 hc.2
   cases hv
  cases hv
 ·rename_i T x f ho;split at hv
  ·rename_i fs l q hu hx;split at hv
   ·rename_i fl hf;split at hv
    ·rename_i v hag hl;cases hv;obtain ⟨g1, g2⟩ := zae hs hx ha;obtain ⟨vs, e1, e2, e3⟩ := g1.agg_inv;obtain ⟨hlt, he⟩ := oE.1 hl;have hv : vs[fl.offset]? = some (vs[fl.offset]' vbX) := oL vbX;refine ⟨_, ?_, e3 _ _ _ hl hv, fun id hm => g2 id (.agg l _ id (oW hl) hm)⟩;simp only [execOp, ho, oD, e1, Instr.field, oM hu, ow, hf, asAgg, oJ, part, zcw hag, oT, if_false, hv]
    cases hv
   cases hv
  cases hv
 ·rename_i g first caps ho
  have hfst : first.isEmpty = true := by
   cases hb:first.isEmpty with
   |true =>rfl
   |false =>rw[hb] at hv;cases hv
  rw[hfst] at hv;simp only[oC,oq,o6] at hv;obtain⟨⟨xs,q⟩,hx,rfl,rfl⟩:=hv;obtain⟨h1,h2⟩:=zew hs hx ha;have hf0:first=#[]:=by simpa[Array.isEmpty_iff] using hfst
  subst hf0;refine⟨.func (.func g) #[] (caps.map a.eval),?_,.clo g xs _ ?_ fun i lv v hl hv=>?_,fun id hm=>?_⟩
  ·simp [execOp, ho, Instr.makeFunc]
  ·simpa using h1
  ·obtain ⟨x, hx1, hx2, _⟩ := h2 i lv hl;have : v = a.eval x := (by rw [← Ye] at hv;simp only [YQ, Ym, hx1, Yw, oo] at hv;exact hv.symm);rw [this]; exact hx2
  cases hm with
  |clo _ _ y _ hy hm' =>obtain⟨i,hi,e⟩:=oX hy;obtain⟨x,_,_,hx3⟩:=h2 i y (by rw[oj hi,e]);exact hx3 id hm'
 ·rename_i T x ho;split at hv
  ·rename_i e hu;simp only [oq] at hv;obtain ⟨⟨v, q⟩, hx, e⟩ := hv;cases e;obtain ⟨h1, h2⟩ := zae hs hx ha;exact ⟨.iface T (a.eval x), by simp only [execOp, ho, Instr.makeInterface, oD, oM hu, ow, oJ], .ifc T v _ h1, fun id hm => by cases hm with | ifc _ _ _ hm => exact h2 id hm⟩
  cases hv
 ·rename_i T x y yT ho;split at hv
  ·rename_i e id p1 q1 hu hx hy;have key : ∀ n, (∀ h : 0 < n, ∃ ad cap, (E id).val = .slice (some ad) n cap) → (LV.bool false, p1 ++ q1 ++ [0 < n]) = (lv, p) → VOk P w0 X0 σ E a w o lv := fun n hval e => (by cases e;obtain ⟨hab, hc⟩ := All.append.1 ha;obtain ⟨ha1, ha2⟩ := All.append.1 hab;obtain ⟨ad, cap, hv⟩ := hval hc.1;have r1 := own_inv (zae hs hx ha1).1;have r2 := nilS_inv (zae hs hy ha2).1;refine ⟨.bool false, ?_, .c _ _ (.bool false), fun id hm => vbS⟩;simp only [execOp, ho, oD, r1, r2, hv, zug hu, zl4, ow, oJ]);split at hv
   ·rename_i sz n row hb;refine key n (fun h0 => ?_) (YN.inj hv);obtain ⟨_, h | ⟨b, cap, vs, T', _, h, _⟩⟩ := hs.blks id _ hb
    ·omega
    exact⟨_,_,h⟩
   ·rename_i wd cl sz n rows hb;refine key n (fun h0 => ?_) (YN.inj hv);obtain ⟨_, _, _, h | ⟨b, cap, vs, T', _, h, _⟩⟩ := hs.blks id _ hb
    ·omega
    exact⟨_,_,h⟩
   cases hv
  ·rename_i e p1 q1 hu hx hy;cases hv;obtain ⟨ha1, ha2⟩ := All.append.1 ha;have r1 := nilS_inv (zae hs hx ha1).1;have r2 := nilS_inv (zae hs hy ha2).1;refine ⟨.bool true, ?_, .c _ _ (.bool true), fun id hm => vbS⟩;simp only [execOp, ho, oD, r1, r2, zs5 hu, zl4, ow, oJ]
  cases hv
 cases hv
def zv5:EI:=⟨none,0,none,0,0,0⟩
theorem zj7(hs : Sat N w0 X0 σ E a w)(K : Nat → Bool)(d : Nat)(ei : EI)(wd : Nat)(cl : Bool)(sz n : Nat)(rows : Nat → NR)(ek : Nat → EI){w' : World}(hd : σ.used d = false ∨ (ei = E d ∧ σ.blk d ≠ none))(hsz : w.heap.size ≤ w'.heap.size)(hw : ∀b, b < w.heap.size → (∀j, (j = d ∨ K j = true) → ¬OwnAt σ.blk E j b) → w'.heap[b]? = w.heap[b]?)(hmain : ∀b, ei.b = some b → w.heap.size ≤ b ∨ ∃j, (j = d ∨ K j = true) ∧ OwnAt σ.blk E j b)(hsub : ∀k b, k < cN wd n → (rows k).isRow → (ek k).b = some b → (∃j, (j = d ∨ K j = true) ∧ OwnAt σ.blk E j b) ∧ w'.heap[b]? = w.heap[b]? ∧ ei.b ≠ some b)(hinj : ∀k k' b, k < cN wd n → k' < cN wd n → (rows k).isRow → (rows k').isRow → (ek k).b = some b → (ek k').b = some b → k = k')(hcl : cl = true → ∀k id, k < cN wd n → rows k ≠ .out id)(hbelow : Below w0.heap.size w0 w')(hn : ∀k id, k < cN wd n → rows k = .out id → σ.used id = true)(hok : ei.n = n ∧ ((ei.b = none ∧ ei.val = .slice none 0 0 ∧ n = 0) ∨ ∃b cap vs T, ei.b = some b ∧ ei.val = .slice (some ⟨b, ei.off, none⟩) n cap ∧ w0.heap.size ≤ b ∧ w'.heap[b]? = some (.cells vs T (0, 0)) ∧ n ≤ cap ∧ cap ≤ maxLen ∧ ei.off + cN wd cap ≤ vs.size ∧ ∀k, k < cN wd n → NROk w w0.heap.size (Own σ E X0) E sz (ek k) (vs.getD (ei.off + k) undef) (rows k))) : Sat N w0 X0 (σ.upd K (oneB d (.nest wd cl sz n rows))) (E.setFS (one d (.nest wd cl sz n rows) ei) fun _ b => ∃k, k < cN wd n ∧ (rows k).isRow ∧ (ek k).b = some b) a w' := by
 have hEd:(E.setFS (one d (.nest wd cl sz n rows) ei) fun _ b=>∃k,k<cN wd n∧(rows k).isRow∧(ek k).b=some b) d=ei:=by simp[Env.setFS,one]
 have hSd:(E.setFS (one d (.nest wd cl sz n rows) ei) fun _ b=>∃k,k<cN wd n∧(rows k).isRow∧(ek k).b=some b).s d=fun b=>∃k,k<cN wd n∧(rows k).isRow∧(ek k).b=some b:=by simp[Env.setFS,one]
 have hEu : ∀id, σ.used id = true → (E.setFS (one d (.nest wd cl sz n rows) ei) fun _ b => ∃k, k < cN wd n ∧ (rows k).isRow ∧ (ek k).b = some b) id = E id := fun id hid => by
  by_cases e:id=d
  ·subst e;rcases hd with h | h
   ·rw [h] at hid; cases hid
   rw[hEd];exact h.1
  simp[Env.setFS,one,e]
 have hall : ∀j b, (∃x, one d (BC.nest wd cl sz n rows) ei j = some x ∧ (x.2.b = some b ∨ (Mul (some x.1) ∧ ∃k, k < cN wd n ∧ (rows k).isRow ∧ (ek k).b = some b))) → w.heap.size ≤ b ∨ ∃j, (j = d ∨ K j = true) ∧ OwnAt σ.blk E j b := by
  rintro j b ⟨x,hx,hb⟩;obtain⟨rfl,rfl⟩:=zbz hx;rcases hb with hb | ⟨_,k,h1,h2,h3⟩
  ·exact hmain b hb
  exact .inr (hsub k b h1 h2 h3).1
 rw[←za6 d (.nest wd cl sz n rows) ei,←FS.setF_eq];refine hs.setFS K _ _ (fun i x hx=>?_) hsz (fun b hb hh=>hw b hb fun j hj=>hh j (hj.imp one_ne.2 id)) (fun i x b hx hb=>?_) (fun i j x y b hx hy _ _=>(zbz hx).1.trans (zbz hy).1.symm) hbelow (fun i cells e' lv id hx=>?_) (fun i wd' cl' sz' n' rows' e' k id hx hk hr=>?_) fun i x hx=>?_
 ·obtain ⟨rfl, rfl⟩ := zbz hx;exact hd
 ·rcases hall i b ⟨x, hx, hb⟩ with h | ⟨j, h1, h2⟩
  ·exact .inl h
  exact .inr ⟨j,h1.imp one_ne.2 id,h2⟩
 ·have := (zbz hx).2;cases this
 ·have := (zbz hx).2;cases this;exact .inr (hn k id hk hr)
 obtain⟨rfl, rfl⟩ := zbz hx;have hown : ∀b, Own (σ.setF K (one i (.nest wd cl sz n rows) ei)) (E.setFS (one i (.nest wd cl sz n rows) ei) fun _ b => ∃k, k < cN wd n ∧ (rows k).isRow ∧ (ek k).b = some b) X0 b → Own σ E X0 b ∨ w.heap.size ≤ b := fun b hb => by
  rcases hb with hb | ⟨j,hj⟩
  ·exact .inl (.inl hb)
  by_cases e:j=i
  ·subst e
   rcases hall j b ⟨(BC.nest wd cl sz n rows, ei), by simp [one], by
     rcases hj with⟨_,hj⟩ | ⟨hm,hj⟩
     · rw [hEd] at hj;exact .inl hj
     · rw [hSd] at hj;exact .inr ⟨trivial,hj⟩⟩ with h | ⟨l,_,h⟩
   ·exact .inr h
   exact .inl (.inr ⟨l,h⟩)
  have hbk:(σ.setF K (one i (.nest wd cl sz n rows) ei)).blk j=if K j=true then none else σ.blk j:=by simp[FS.setF,one,e]
  have hEj:(E.setFS (one i (.nest wd cl sz n rows) ei) fun _ b=>∃k,k<cN wd n∧(rows k).isRow∧(ek k).b=some b) j=E j:=by simp[Env.setFS,one,e]
  have hSj:(E.setFS (one i (.nest wd cl sz n rows) ei) fun _ b=>∃k,k<cN wd n∧(rows k).isRow∧(ek k).b=some b).s j=E.s j:=by simp[Env.setFS,one,e]
  cases hK:K j with
  |true =>rw[hK] at hbk;exact absurd hbk hj.ne
  |false =>
   rw[hK] at hbk;refine .inl (.inr ⟨j,?_⟩);rcases hj with⟨h1,h2⟩ | ⟨h1,h2⟩
   ·rw [hbk] at h1; rw [hEj] at h2; exact .inl ⟨h1, h2⟩
   rw[hbk] at h1;rw[hSj] at h2;exact .inr ⟨h1,h2⟩
 have hk:∀b,b<w.heap.size→¬Own σ E X0 b→w'.heap[b]?=w.heap[b]?:=fun b hb hno=>hw b hb fun j _ hj=>hno (.inr ⟨j,hj⟩);obtain⟨ho1,ho2⟩:=hok;refine⟨ek,⟨fun b=>by rw[hSd],hinj,fun k b h1 h2 h3=>by rw[hEd];exact(hsub k b h1 h2 h3).2.2,hcl⟩,by rw[hEd];exact ho1,?_⟩;rw[hEd];rcases ho2 with h | ⟨b,cap,vs,T,k1,k2,k3,k4,k5,k6,k7,k8⟩
 ·exact .inl h
 exact .inr ⟨b,cap,vs,T,k1,k2,k3,k4,k5,k6,k7,fun k hk'=>(k8 k hk').keep hsz (fun hr b' hb'=>(hsub k b' hk' hr hb').2.1) hk hown (ou _) fun id hid=>hEu id (hn k id hk' hid)⟩
theorem zra{d : Nat}{c : BC}{E' : Env}{v : Value}{w' : World}{K : Nat → Bool}(hv : v = (E' d).val) : ∀lv, (some (LV.own d)) = some lv → RepV w' w0.heap.size (Own (σ.upd K (oneB d c)) E' X0) E' lv v ∧ ∀id, Ment lv id → (σ.upd K (oneB d c)).used id = true := fun lv hlv => by
  cases hlv
  rw[hv]
  exact⟨.own d,fun id hmm=>vbi⟩
theorem Sat.putBack(hs : Sat N w0 X0 σ E a w){id d wd sz n len : Nat}{cl : Bool}{rows rows' : Nat → NR}{row : Nat → List LV}(hb : σ.blk id = some (.nest wd cl sz n rows))(hbd : σ.blk d = some (.arr sz len row)){k0 : Nat}(hk0 : k0 < cN wd n)(hout : rows k0 = .out d)(hin : rows' k0 = .row len row)(hrow : ∀k, k < cN wd n → k ≠ k0 → rows' k = rows k)(hcl : ∀k id, k < cN wd n → rows' k ≠ .out id) : ∃E', Sat N w0 X0 (σ.upd (killL [d]) (oneB id (.nest wd true sz n rows'))) E' a w := by
 have hbid:σ.blk id≠none:=vbM
 have hbdl:σ.blk d≠none:=by rw[hbd];simp
 have hne:d≠id:=fun e=>by rw[e,hb] at hbd;cases hbd
 obtain⟨ek,hsub,hn,hk⟩:=hs.blks id _ hb;have had:ArrOk w w0.heap.size (Own σ E X0) (E d) sz len row:=hs.blks d _ hbd
 have hdn : ∀b, (E d).b = some b → ∀k, k < cN wd n → (rows k).isRow → (ek k).b = some b → False := fun b hb' k q1 q2 q3 =>
   hne (hs.injA d id b (.inl ⟨hbdl,hb'⟩) (.inr ⟨by rw[hb];trivial,(hsub.iff b).2 ⟨k,q1,q2,q3⟩⟩))
 let ek':Nat→EI:=fun k=>if k=k0 then E d else ek k;have e0:ek' k0=E d:=by simp[ek']
 have e1:∀k,k≠k0→ek' k=ek k:=fun k h=>by simp[ek',h]
 have hr1:∀k,k<cN wd n→k≠k0→(rows' k).isRow→(rows k).isRow:=fun k q1 q2 q3=>by rw[←hrow k q1 q2];exact q3
 refine⟨_,zj7 hs (killL [d]) id (E id) wd true sz n rows' ek' (.inr ⟨rfl,hbid⟩) (ou _) (fun _ _ _=>rfl) (fun b hb'=>.inr ⟨id,.inl rfl,.inl ⟨hbid,hb'⟩⟩) (fun k b q1 q2 q3=>?_) (fun k k' b q1 q2 q3 q4 q5 q6=>?_) (fun _=>hcl) hs.below (fun k id' q1 q2=>absurd q2 (hcl k id' q1)) ⟨hn,?_⟩⟩
 ·by_cases e : k = k0
  ·subst e;rw [e0] at q3;exact ⟨⟨d, .inr (killL_mem.2 vbZ), .inl ⟨hbdl, q3⟩⟩, rfl, fun hb' => hne (hs.injA d id b (.inl ⟨hbdl, q3⟩) (.inl ⟨hbid, hb'⟩))⟩
  rw[e1 k e] at q3;have q2':=hr1 k q1 e q2;exact⟨⟨id,.inl rfl,.inr ⟨by rw[hb];trivial,(hsub.iff b).2 ⟨k,q1,q2',q3⟩⟩⟩,rfl,hsub.ne k b q1 q2' q3⟩
 ·by_cases e : k = k0
  ·by_cases e' : k' = k0
   ·rw [e, e']
   subst e;rw[e0] at q5;rw[e1 k' e'] at q6;exact(hdn b q5 k' q2 (hr1 k' q2 e' q4) q6).elim
  by_cases e':k'=k0
  ·subst e';rw [e0] at q6; rw [e1 k e] at q5;exact (hdn b q6 k q1 (hr1 k q1 e q3) q5).elim
  rw[e1 k e] at q5;rw[e1 k' e'] at q6;exact hsub.inj k k' b q1 q2 (hr1 k q1 e q3) (hr1 k' q2 e' q4) q5 q6
 rcases hk with f1 | ⟨b,cap,vs,T',f1,f2,f3,f4,f5,f6,f7,f8⟩
 ·exact .inl f1
 refine .inr ⟨b,cap,vs,T',f1,f2,f3,f4,f5,f6,f7,fun k hk=>?_⟩;have hf:=f8 k hk;by_cases e:k=k0
 ·subst e;rw [hout] at hf;rw [hin, e0];exact ⟨hf, had⟩
 rw[e1 k e,hrow k hk e];exact hf
theorem z0g(hs:Sat N w0 X0 σ E a w){id wd sz n:Nat}{cl:Bool}{rows:Nat→NR}(hb:σ.blk id=some (.nest wd cl sz n rows)):(E id).n=n:=by obtain⟨ek,_,hn,_⟩:=hs.blks id _ hb;exact hn
theorem zgi(hs : Sat N w0 X0 σ E a w){id d b i wd n m sz : Nat}{cl g : Bool}{rows rows' : Nat → NR}{row : Nat → List LV}(hd : σ.used d = false)(hb : σ.blk id = some (.nest wd cl sz n rows))(g1 : (E id).b = some b)(gi : i < cN wd n)(hin : rows i = .row m row)(hout0 : rows' i = bif g then .gone else .out d)(hrow : ∀k, k < cN wd n → k ≠ i → rows' k = rows k) : ∃(vs : Nat → Value) (ek : Nat → EI) (E' : Env), (∀k, k < cN wd n → w.cell? ⟨b, (E id).off + k, none⟩ = some (vs k) ∧ NROk w w0.heap.size (Own σ E X0) E sz (ek k) (vs k) (rows k)) ∧ Sat N w0 X0 (σ.upd noK fun j => bif yv j d then some (.arr sz m row) else oneB id (.nest wd (g && cl) sz n rows') j) E' a w ∧ RepV w w0.heap.size (Own (σ.upd noK fun j => bif yv j d then some (.arr sz m row) else oneB id (.nest wd (g && cl) sz n rows') j) E' X0) E' (.own d) (vs i) ∧ (σ.upd noK fun j => bif yv j d then some (.arr sz m row) else oneB id (.nest wd (g && cl) sz n rows') j).used d = true := by
 have hout:rows' i=.out d∨rows' i=.gone:=by cases g with | false=>exact .inl hout0 | true=>exact .inr hout0
 have hbid:σ.blk id≠none:=vbM
 have hdl:=zbt hs hd;have hdid:d≠id:=fun h=>hbid (h ▸ hdl);have hmul:Mul (σ.blk id):=by rw[hb];trivial
 obtain⟨ek,hsub,hn,hkk⟩:=hs.blks id _ hb;rcases hkk with⟨k1,_⟩ | ⟨b',cap,us,T',k1,k2,k3,k4,k5,k6,k7,k8⟩
 ·rw [g1] at k1; cases k1
 rw[g1] at k1;cases k1;have hi8:=k8 i gi;rw[hin] at hi8;obtain⟨hval,harr⟩:=hi8;have hlt:(E id).off+i<us.size:=vaZ
 have hcell:∀k,k<cN wd n→w.cell? ⟨b,(E id).off+k,none⟩=some (us.getD ((E id).off+k) undef):=fun k hk=>by have:(E id).off+k<us.size:=vaZ;simp[Yj,k4,this]
 let U : Nat → Option (BC × EI) := fun j => bif yv j d then some (.arr sz m row, ek i) else one id (.nest wd (g && cl) sz n rows') (E id) j;let S : Nat → Nat → Prop := fun _ b => ∃ k, k < cN wd n ∧ (rows' k).isRow ∧ (ek k).b = some b;have hUub : (fun j => (U j).map (·.1)) = fun j => bif yv j d then some (.arr sz m row) else oneB id (.nest wd (g && cl) sz n rows') j := by
  funext j;show (bif yv j d then some ((BC.arr sz m row : BC), ek i) else one id (.nest wd (g && cl) sz n rows') (E id) j).map (·.1) = _;cases yv j d with
  |true =>rfl
  |false =>exact congrFun (za6 id (.nest wd (g&&cl) sz n rows') (E id)) j
 have hUd:U d=some (.arr sz m row,ek i):=by show(bif yv d d then _ else _)=_;rw[Yy];rfl
 have hbeq : ∀{j}, j ≠ d → yv j d = false := fun {j} h => by
  cases hq:yv j d with
  |false =>rfl
  |true =>exact absurd (om hq) h
 have hUid:U id=some (.nest wd (g&&cl) sz n rows',E id):=by show(bif yv id d then _ else _)=_;rw[hbeq (Ne.symm hdid)];simp[one]
 have hUs : ∀j y, U j = some y → (j = d ∧ y = (.arr sz m row, ek i)) ∨ (j = id ∧ y = (.nest wd (g && cl) sz n rows', E id)) := fun j y h => by
  by_cases e:j=d
  ·subst e; rw [hUd] at h; cases h; exact .inl ⟨rfl, rfl⟩
  have h:(bif yv j d then some ((BC.arr sz m row:BC),ek i) else one id (.nest wd (g&&cl) sz n rows') (E id) j)=some y:=h;rw[hbeq e] at h;exact .inr (zbz h)
 have hr1:∀k,k<cN wd n→(rows' k).isRow→k≠i∧(rows k).isRow:=fun k q1 q2=>by have hne:k≠i:=fun e=>(by rw[e] at q2;rcases hout with hout | hout<;>(rw[hout] at q2;exact q2.elim));exact⟨hne,by rw[←hrow k q1 hne];exact q2⟩
 have hat : ∀j y b', U j = some y → (y.2.b = some b' ∨ (Mul (some y.1) ∧ S j b')) → OwnAt σ.blk E id b' := fun j y b' hU hb' => by
  rcases hUs j y hU with⟨rfl,rfl⟩ | ⟨rfl,rfl⟩
  ·rcases hb' with hb' | ⟨hm, _⟩
   ·exact .inr ⟨hmul, (hsub.iff b').2 ⟨i, gi, by rw [hin]; trivial, hb'⟩⟩
   exact hm.elim
  rcases hb' with hb' | ⟨_,k,q1,q2,q3⟩
  ·exact .inl ⟨hbid, hb'⟩
  exact .inr ⟨hmul,(hsub.iff b').2 ⟨k,q1,(hr1 k q1 q2).2,q3⟩⟩
 have hE':∀j,U j=none→(E.setFS U S) j=E j:=fun j h=>by simp[Env.setFS,h]
 have hEd:(E.setFS U S) d=ek i:=by simp[Env.setFS,hUd]
 have hEid:(E.setFS U S) id=E id:=by simp[Env.setFS,hUid]
 have hEu : ∀j, σ.used j = true → (E.setFS U S) j = E j := fun j hj => by
  cases hU:U j with
  |none =>exact hE' j hU
  |some y =>
   rcases hUs j y hU with⟨rfl,_⟩ | ⟨rfl,_⟩
   ·rw [hd] at hj; cases hj
   exact hEid
 have hSid:(E.setFS U S).s id=fun b=>∃k,k<cN wd n∧(rows' k).isRow∧(ek k).b=some b:=by simp[Env.setFS,hUid,S]
 have hown : ∀b', Own (σ.setF noK U) (E.setFS U S) X0 b' → Own σ E X0 b' := fun b' hb' => by
  rcases hb' with hb' | ⟨j,hj⟩
  ·exact .inl hb'
  cases hU:U j with
  |some y =>
   have hbk:(σ.setF noK U).blk j=some y.1:=(by simp[FS.setF,hU]);refine .inr ⟨id,hat j y b' hU ?_⟩;rcases hj with⟨_,hj⟩ | ⟨hm,hj⟩
   ·simp only [Env.setFS, hU] at hj; exact .inl hj
   simp only[Env.setFS,hU] at hj;rw[hbk] at hm;exact .inr ⟨hm,hj⟩
  |none =>
   have hbk:(σ.setF noK U).blk j=σ.blk j:=(by simp[FS.setF,hU,noK]);refine .inr ⟨j,?_⟩;rcases hj with⟨h5,hj⟩ | ⟨hm,hj⟩
   ·simp only [Env.setFS, hU] at hj; rw [hbk] at h5; exact .inl ⟨h5, hj⟩
   simp only[Env.setFS,hU] at hj;rw[hbk] at hm;exact .inr ⟨hm,hj⟩
 have hS : Sat N w0 X0 (σ.setF noK U) (E.setFS U S) a w := by
  refine hs.setFS noK U S (fun j y hU=>?_) (ou _) (fun _ _ _=>rfl) (fun j y b' hU hb'=>.inr ⟨id,.inl (by rw[hUid];simp),hat j y b' hU hb'⟩) (fun j l y z b' hy hz h1 h2=>?_) hs.below (fun j cells ei lv q hU=>?_) (fun j wd' cl' sz' n' rows2 ei k q hU hk' hr=>?_) fun j y hU=>?_
  ·rcases hUs j y hU with ⟨rfl, rfl⟩ | ⟨rfl, rfl⟩
   ·exact .inl hd
   exact .inr ⟨rfl,hbid⟩
  ·rcases hUs j y hy with ⟨rfl, rfl⟩ | ⟨rfl, rfl⟩ <;> rcases hUs l z hz with ⟨rfl, rfl⟩ | ⟨rfl, rfl⟩
   ·rfl
   ·exfalso;rcases h1 with h1 | ⟨hm, _⟩
    ·rcases h2 with h2 | ⟨_, k, q1, q2, q3⟩
     ·exact hsub.ne i b' gi (by rw [hin]; trivial) h1 h2
     exact(hr1 k q1 q2).1 (hsub.inj k i b' q1 gi (hr1 k q1 q2).2 (by rw[hin];trivial) q3 h1)
    exact hm.elim
   ·exfalso;rcases h2 with h2 | ⟨hm, _⟩
    ·rcases h1 with h1 | ⟨_, k, q1, q2, q3⟩
     ·exact hsub.ne i b' gi (by rw [hin]; trivial) h2 h1
     exact(hr1 k q1 q2).1 (hsub.inj k i b' q1 gi (hr1 k q1 q2).2 (by rw[hin];trivial) q3 h2)
    exact hm.elim
   rfl
  ·rcases hUs j _ hU with ⟨_, h⟩ | ⟨_, h⟩ <;> cases h
  ·rcases hUs j _ hU with ⟨_, h⟩ | ⟨_, h⟩
   ·cases h
   cases h;by_cases e:k=i
   ·rw [e] at hr;rcases hout with hout | hout <;> (rw [hout] at hr; cases hr);exact .inl (by rw [hUd]; simp)
   rw[hrow k hk' e] at hr;exact .inr (hs.wfn id wd cl sz n rows k q hb hk' hr)
  rcases hUs j y hU with⟨rfl,rfl⟩ | ⟨rfl,rfl⟩
  ·have := harr.keep (X' := Own (σ.setF noK U) (E.setFS U S) X0) (ou _) (fun _ _ => rfl) (fun _ _ _ => rfl) (fun b hb => .inl (hown b hb)) (ou w0.heap.size);rw [← hEd] at this;exact this
  refine ⟨ek, ⟨fun b => by rw [hSid], fun k k' b q1 q2 q3 q4 => hsub.inj k k' b q1 q2 (hr1 k q1 q3).2 (hr1 k' q2 q4).2, fun k b q1 q2 => by rw [hEid]; exact hsub.ne k b q1 (hr1 k q1 q2).2, fun h k q q1 q2 => by
    simp only[oc] at h
    by_cases e:k=i
    · rw [e,hout0,h.1] at q2;cases q2
    · rw [hrow k q1 e] at q2;exact hsub.cl h.2 k q q1 q2⟩,by rw [hEid];exact hn,?_⟩
  rw[hEid];refine .inr ⟨b,cap,us,T',g1,k2,k3,k4,k5,k6,k7,fun k hk'=>?_⟩;by_cases e:k=i
  ·subst e;rcases hout with hout | hout
   ·rw [hout];show us.getD ((E j).off + k) undef = ((E.setFS U S) d).val;rw [hEd]; exact hval
   rw[hout];rcases harr with⟨_,⟨_,a2,_⟩ | ⟨_,_,_,_,_,a2,_⟩⟩<;>exact⟨_,_,_,hval.trans a2⟩
  rw[hrow k hk' e];exact(k8 k hk').keep (ou _) (fun _ _ _=>rfl) (fun _ _ _=>rfl) (fun b hb=>.inl (hown b hb)) (ou _) fun q hq=>hEu q (hs.wfn j wd cl sz n rows k q hb hk' hq)
 have hSu:σ.upd noK (fun j=>bif yv j d then some (.arr sz m row) else oneB id (.nest wd (g&&cl) sz n rows') j)=σ.setF noK U:=by rw[FS.setF_eq,hUub]
 refine⟨fun k=>us.getD ((E id).off+k) undef,ek,E.setFS U S,fun k hk=>⟨hcell k hk,k8 k hk⟩,by rw[hSu];exact hS,?_,by rw[hSu];simp[FS.setF,hUd]⟩;rw[hSu];have:=RepV.own (w:=w) (B:=w0.heap.size) (X:=Own (σ.setF noK U) (E.setFS U S) X0) (E:=E.setFS U S) d;rw[hEd,←hval] at this;exact this
theorem zhk(hs:Sat N w0 X0 σ E a w){o:Oper}{T:Nat}{x:Operand}(ho:o.op=.load T x){id d i off wd n m sz:Nat}{cl g:Bool}{rows rows':Nat→NR}{row:Nat→List LV}(hx:RepV w w0.heap.size (Own σ E X0) E (.ap id wd i off) (a.eval x))(hof:off<wd)(hag:aggOf P T=some false)(hd:σ.used d=false)(hb:σ.blk id=some (.nest wd cl sz n rows))(hin:rows (i * wd+off)=.row m row)(hout0:rows' (i * wd+off)=bif g then .gone else .out d)(hrow:∀k,k<cN wd n→k≠i * wd+off→rows' k=rows k)(nw:List Nat)(p:List Prop):MOk P N w0 X0 σ a w o ⟨some (.own d),noK,fun j=>bif yv j d then some (.arr sz m row) else oneB id (.nest wd (g&&cl) sz n rows') j,nw,p⟩:=by intro K Q hk;obtain⟨b,g1,gi,g2⟩:=hx.ap_inv;rw[z0g hs hb] at gi;have gi:=zko gi hof;rw[Yt] at g2;obtain⟨vs,ek,E',q1,q2,q3,q4⟩:=zgi hs hd hb g1 gi hin hout0 hrow;have hrun:(execOp a.eval o).run P w=.ok (.value (vs (i * wd+off))) w:=(by simp only[execOp,ho,oD,g2,Instr.loadAt,Instr.sureAddr,oJ,ow,loadVar,zcw hag,oT,if_false,run_load,(q1 _ gi).1]);exact zbe hrun (hk _ w E' q2 (fun h=>vbU) fun lv hlv=>by cases hlv;exact⟨q3,fun q hq=>by cases hq;exact q4⟩)
theorem zpr{B : Nat}{X X' : Nat → Prop}{lv : LV}{v : Value}(h : zej lv = true)(hr : RepC w B X lv v) : RepC w B X' lv v := by
 cases lv<;>first|cases h|skip
 ·cases hr; exact .int _ _
 ·cases hr; exact .bool _
 cases hr;exact .str _
theorem zoi{lv : LV}(h : zej lv = true)(id : Nat) : ¬Ment lv id := fun hm => by
  cases lv<;>first|cases h|skip
  all_goals cases hm
theorem zoa(hs : Sat N w0 X0 σ E a w){o : Oper}{T : Nat}{x : Operand}(ho : o.op = .load T x){id d i wd n m sz : Nat}{cl : Bool}{rows rows' : Nat → NR}{row : Nat → List LV}{pre : List LV}(hx : RepV w w0.heap.size (Own σ E X0) E (.ap id wd i 0) (a.eval x))(hag : aggOf P T = some true)(hsz : szOf P T = some wd)(hd : σ.used d = false)(hl : pre.length + 1 = wd)(hp : pre.all zej = true)(hb : σ.blk id = some (.nest wd cl sz n rows))(hin : rows (i * wd + pre.length) = .row m row)(hout0 : rows' (i * wd + pre.length) = .gone)(hrow : ∀k, k < cN wd n → k ≠ i * wd + pre.length → rows' k = rows k)(hpre : ∀j, j < pre.length → rows (i * wd + j) = .cell (pre.getD j .any))(nw : List Nat)(p : List Prop) : MOk P N w0 X0 σ a w o ⟨some (.agg (pre ++ [.own d])), noK, fun j => bif yv j d then some (.arr sz m row) else oneB id (.nest wd (true && cl) sz n rows') j, nw, p⟩ := by
 intro K Q hk;obtain⟨b,g1,gi,g2⟩:=hx.ap_inv;rw[z0g hs hb] at gi;have gj:∀j,j<wd→i * wd+j<cN wd n:=fun j hj=>zko gi hj;obtain⟨vs,ek,E',q1,q2,q3,q4⟩:=zgi (g:=true) hs hd hb g1 (gj pre.length vbX) hin hout0 hrow;have hc:∀j,j<wd→w.cell? ((⟨b,(E id).off+i * wd+0,none⟩:Addr).add j)=some (vs (i * wd+j)):=fun j hj=>by rw[za1,Yv,Yt];exact(q1 _ (gj j hj)).1
 have hrun:(execOp a.eval o).run P w=.ok (.value (.agg ((yI wd).map fun j=>vs (i * wd+j)).toArray)) w:=by simp only[execOp,ho,oD,g2,Instr.loadAt,Instr.sureAddr,oJ,ow,loadVar,zcw hag,if_true,zba hsz,run_loadCells w _ wd (fun j=>vs (i * wd+j)) hc]
 refine zbe hrun (hk _ w E' q2 (fun h=>vbU) fun lv hlv=>?_);cases hlv;have hall:=o0.1 hp;refine⟨.agg _ _ vbP fun j lv u hj hu=>?_,fun q hq=>?_⟩
 ·have hjw : j < wd := by have := (oE.1 hj).1;simp only [og, oG] at this; omega
  have hu':u=vs (i * wd+j):=by simpa[hjw] using hu.symm
  subst hu';by_cases c:j<pre.length
  ·rw [o3 c, oj c] at hj;cases hj;have h1 := (q1 _ (gj j hjw)).2;rw [hpre j c, show pre.getD j .any = pre[j] by rw [oh, oj c]; rfl] at h1;exact .c _ _ (zpr (hall _ (Ya c)) h1.2)
  obtain rfl:j=pre.length:=by omega
  rw[o4 (ou _),Nat.sub_self] at hj;cases hj;exact q3
 cases hq with
 |agg _ lv _ hlv hm =>
  rcases yx.1 hlv with h | h
  ·exact absurd hm (zoi (hall _ h) q)
  rw[oR.1 h] at hm;cases hm;exact q4
theorem zfj(hs : Sat N w0 X0 σ E a w){o : Oper}{d : Nat}{T : TypeId}{vs : Array Value}{wd sz n cap : Nat}{rows : Nat → NR}{ek : Nat → EI}{K : Nat → Bool}(hr : (execOp a.eval o).run P w = .ok (.value (.slice (some ⟨w.heap.size, 0, none⟩) n cap)) (w.alloc (.cells vs T)))(hd : σ.used d = false)(hn : n ≤ cap)(hcap : cap ≤ maxLen)(hl : cN wd cap ≤ vs.size)(hsub : ∀k b, k < cN wd n → (rows k).isRow → (ek k).b = some b → ∃j, K j = true ∧ OwnAt σ.blk E j b)(hinj : ∀k k' b, k < cN wd n → k' < cN wd n → (rows k).isRow → (rows k').isRow → (ek k).b = some b → (ek k').b = some b → k = k')(hrow : ∀k id, k < cN wd n → rows k ≠ .out id)(hok : ∀k, k < cN wd n → NROk w w0.heap.size (Own σ E X0) E sz (ek k) (vs.getD k undef) (rows k))(nw : List Nat)(p : List Prop) : MOk P N w0 X0 σ a w o ⟨some (.own d), K, oneB d (.nest wd true sz n rows), nw, p⟩ := by
 intro K' Q hk;let ei:EI:=⟨some w.heap.size,0,some ⟨w.heap.size,0,none⟩,n,cap,n⟩;have hh:∀b,b<w.heap.size→(w.alloc (.cells vs T)).heap[b]?=w.heap[b]?:=fun b hb=>Below.heap_alloc _ _ _ hb;refine zbe hr (hk _ _ _ (zj7 hs K d ei wd true sz n rows ek (.inl hd) vbZ (fun b hb _=>hh b hb) (fun b hb=>.inl (by simp only[ei,oo] at hb;omega)) (fun k b q1 q2 q3=>?_) hinj (fun _=>hrow) (hs.below.alloc hs.below.size _) (fun k id q1 q2=>absurd q2 (hrow k id q1)) ⟨rfl,.inr ⟨w.heap.size,cap,vs,T,rfl,rfl,hs.below.size,heap_alloc_new w _,hn,hcap,by simpa[ei] using hl,fun k q1=>?_⟩⟩) (fun h=>vbU) (zra (by simp[Env.setFS,one,ei,EI.val])))
 ·obtain ⟨j, h1, h2⟩ := hsub k b q1 q2 q3;have hlt := hs.olt h2;exact ⟨⟨j, .inr h1, h2⟩, hh b hlt, by simp only [ei, ne_eq, oo]; omega⟩
 have:=hok k q1;simpa[ei] using this
theorem zld(hs : Sat N w0 X0 σ E a w){o : Oper}{d T f sz m : Nat}{parts : Array (Nat × Operand)}(ho : o.op = .buildSlice T 1 parts){e : Nat}(hu : P.underlying T = some (.slice e)){p' : List Prop}(hev : za9 σ.slot parts.toList = some ([(0, [.own f])], p'))(ha : All p')(hz : zeroL P e = some [.nilS])(hsz : szOf P e = some 1){row : Nat → List LV}(hb : σ.blk f = some (.arr sz m row))(hd : σ.used d = false){rows : Nat → NR}(hrow : rows 0 = .row m row)(nw : List Nat)(p : List Prop) : MOk P N w0 X0 σ a w o ⟨some (.own d), killL [f], oneB d (.nest 1 true sz 1 rows), nw, p⟩ := by
 have hbf:σ.blk f≠none:=vbM
 obtain⟨i,zv,g1,g2,g3,_⟩:=zbs hz;have haf:ArrOk w w0.heap.size (Own σ E X0) (E f) sz m row:=hs.blks f _ hb;obtain⟨q1,q2⟩:=zce hs hev ha;have hpl:parts.toList.length=1:=by rw[q1];rfl
 obtain⟨y0, hy0⟩ : ∃y0, parts.toList = [y0] := List.length_eq_one_iff.1 hpl;obtain⟨r1, r2, r3, _⟩ := q2 0 (0, [.own f]) y0 rfl (by rw[hy0]; rfl);have hval : (a.eval y0.2).cells.toList = [(E f).val] := by
  have h1:(a.eval y0.2).cells.size=1:=r2;have h2:=r3 0 (.own f) ((a.eval y0.2).cells[0]' vbX) rfl (oL vbX);apply List.ext_getElem?;intro k;cases k with
  |zero =>rw[Ye,oL vbX,h2.own_inv];rfl
  |succ k =>rw[Ye,Array.getElem?_eq_none vbX];rfl
 obtain ⟨ov, k1, k2, k3, k4⟩ := zft (fun lv u => lv = .any → u = (E f).val) (place := fun j => some (j * 1, 1)) [(0, [.any])] (parts.map fun (i, x) => (i, a.eval x)).toList [.nilS] ((YR (1 * 1)).map (zv.cells[· % zv.cells.size]!)) [.any] rfl vbZ
   (fun j x u hx _ hh => by subst hh; cases j with | zero => cases hx | succ j => simp at hx) (by simp [hpl]) (fun j x y hx hy => by
     cases j with
     |succ j=>simp at hx
     |zero =>
       cases hx
       simp only[YQ,hy0,YH,List.map_nil,Yl,oo] at hy
       subst hy
       refine⟨r1,r2,fun j z u hz hu _=>?_⟩
       have:(a.eval y0.2).cells.toList[j]?=some u:=by rw[Ye];exact hu
       rw[hval] at this
       cases j with
       |zero=>exact(YN.inj this).symm
       |succ j=>simp at this)
 have hov:ov[0]?=some (E f).val:=by have h1:0<ov.size:=(by rw[k2];exact Nat.one_pos);have h2:=k4 0 .any ov[0] rfl (oL h1) rfl;rw[oL h1,h2]
 have hr:=zdb (P:=P) (w:=w) hu hsz g1 g2 (show 1 * 1≤16777216 by omega) (parts:=parts.map fun (i,x)=>(i,a.eval x)) k1;refine zfj hs (wd:=1) (T:=e) (vs:=ov) (cap:=1) (ek:=fun _=>E f) (by simp only[execOp,ho,oD,hr,ow,oJ]) hd (ou _) vbx (by rw[k2];exact ou _) (fun k b h1 h2 h3=>⟨f,killL_mem.2 vbZ,.inl ⟨hbf,h3⟩⟩) (fun k k' b (h1:k<1) (h2:k'<1) _ _ _ _=>vbX) (fun k id (h1:k<1)=>?_) (fun k (h1:k<1)=>?_) nw p
 ·obtain rfl : k = 0 := by omega
  rw[hrow];simp
 obtain rfl:k=0:=by omega
 rw[hrow];exact⟨by rw[yY,hov];rfl,haf⟩
theorem zpq{B : Nat}{X : Nat → Prop}{lv : LV}{v : Value}(h : zej lv = true)(hr : RepV w B X E lv v) : RepC w B X lv v ∧ isOne lv = true := by
 cases lv<;>first|cases h|skip
 ·rw [hr.int_inv]; exact ⟨.int _ _, rfl⟩
 ·rw [hr.bool_inv]; exact ⟨.bool _, rfl⟩
 rw[hr.str_inv];exact⟨.str _,rfl⟩
theorem zte{l m : List Nat}(h : zfg (l ++ m) = true) : zfg m = true ∧ ∀f, f ∈ l → f ∈ m → False := by
 induction l with
 |nil =>exact⟨h,fun f hf=>by cases hf⟩
 |cons x l ih =>
  simp only[List.cons_append,zfg,oc,od] at h;obtain⟨h1,h2⟩:=ih h.2;refine⟨h1,fun f hf hm=>?_⟩;rcases oQ.1 hf with e | hf
  ·have : killL (l ++ m) x = true := killL_mem.2 (Y7 _ (e ▸ hm));rw [h.1] at this; cases this
  exact h2 f hf hm
theorem zid{blk : Nat → Option BC}{v : LV}{s : Option Nat}{x : NR}{is : List Nat}(h : nrOne blk v = some (s, x, is)) : (∃f sz n row, v = .own f ∧ blk f = some (.arr sz n row) ∧ x = .row n row ∧ is = [f] ∧ s = some sz) ∨ (zej v = true ∧ x = .cell v ∧ is = []) := by
 unfold nrOne at h;split at h
 ·rename_i id;split at h
  ·rename_i sz n row hb;cases h;exact .inl ⟨id, sz, n, row, rfl, hb, rfl, rfl, rfl⟩
  cases h
 obtain⟨hp,h⟩:=zaj h;cases h;exact .inr ⟨hp,rfl,rfl⟩
theorem zls{blk : Nat → Option BC}{sz : Nat} : ∀{cs : List LV} {rs : List NR} {ids : List Nat}, nrsGo blk sz cs = some (rs, ids) →
    (∀ (k : Nat) v, cs[k]? = some v → (∃ f n row, v = .own f ∧ blk f = some (.arr sz n row) ∧ rs[k]? = some (.row n row) ∧ f ∈ ids) ∨ (zej v = true ∧ rs[k]? = some (.cell v))) ∧
      (zfg ids=true→∀(k k' f:Nat),cs[k]?=some (.own f)→cs[k']?=some (.own f)→k=k')
  |[],rs,ids,h=>by cases h;exact⟨fun k v h=>by simp at h,fun _ k k' f h=>vbQ⟩
  |v :: r, rs, ids, h => by
    simp only[nrsGo] at h
    split at h
    · rename_i s x is xs js h1 h2
      obtain⟨hc,h⟩:=zaj h
      cases h
      obtain⟨k1,k2⟩:=zls h2
      have hat : ∀(k : Nat) u, r[k]? = some u → (∃f n row, u = .own f ∧ blk f = some (.arr sz n row) ∧ (x :: xs)[k + 1]? = some (.row n row) ∧ f ∈ is ++ js) ∨ (zej u = true ∧ (x :: xs)[k + 1]? = some (.cell u)) := fun k u hu => by
        rcases k1 k u hu with⟨f,n,row,a1,a2,a3,a4⟩ | ⟨a1,a2⟩
        · exact .inl ⟨f,n,row,a1,a2,by simpa using a3,Y7 _ a4⟩
        · exact .inr ⟨a1,by simpa using a2⟩
      have hin : ∀(k : Nat) f, r[k]? = some (.own f) → f ∈ js := fun k f hf => by
        rcases k1 k _ hf with⟨f',n,row,a1,a2,a3,a4⟩ | ⟨a1,a2⟩
        · cases a1;exact a4
        · cases a1
      have h0 : ∀f, v = .own f → f ∈ is := fun f hf => by
        rcases zid h1 with⟨f',sz',n,row,e1,e2,e3,e4,e5⟩ | ⟨e1,e2,e3⟩
        · rw [hf] at e1;cases e1;rw [e4];simp
        · rw [hf] at e1;cases e1
      refine⟨fun k u hu=>?_,fun hnd k k' f hk hk'=>?_⟩
      · cases k with
        |succ k=>exact hat k u (by simpa using hu)
        |zero =>
          simp only[Yl,oo] at hu
          subst hu
          rcases zid h1 with⟨f,sz',n,row,e1,e2,e3,e4,e5⟩ | ⟨e1,e2,e3⟩
          · subst e5
            have:=om hc
            subst this
            exact .inl ⟨f,n,row,e1,e2,by simp[e3],by rw[e4];simp⟩
          · exact .inr ⟨e1,by simp [e2]⟩
      · obtain ⟨n1,n2⟩:=zte hnd
        cases k with
        |zero =>
          cases k' with
          |zero=>rfl
          |succ k'=>exact(n2 f (h0 f vbJ) (hin k' f (by simpa using hk'))).elim
        |succ k =>
          cases k' with
          |zero=>exact(n2 f (h0 f (by simpa using hk')) (hin k f vbJ)).elim
          |succ k'=>rw[k2 n1 k k' f vbJ (by simpa using hk')]
    · cases h
theorem zm1(hs : Sat N w0 X0 σ E a w){o : Oper}{d T sz wd : Nat}{parts : Array (Nat × Operand)}(ho : o.op = .buildSlice T 1 parts){e : Nat}(hu : P.underlying T = some (.slice e)){cs : List LV}{p' : List Prop}(hev : za9 σ.slot parts.toList = some ([(0, cs)], p'))(ha : All p'){z : List LV}(hz : zeroL P e = some z)(hsz : szOf P e = some wd)(hzl : z.length = wd)(hcl : cs.length = wd)(hw : wd ≤ 16777216){rs : List NR}{ids : List Nat}(hr : nrsOf σ.blk cs = some (sz, rs, ids))(hnd : zfg ids = true)(hd : σ.used d = false){rows : Nat → NR}(hrow : ∀j, j < wd → rows j = rs.getD j .gone)(nw : List Nat)(p : List Prop) : MOk P N w0 X0 σ a w o ⟨some (.own d), killL ids, oneB d (.nest wd true sz 1 rows), nw, p⟩ := by
 obtain⟨i,zv,g1,g2,g3,g4⟩:=zbs hz;have hgo:nrsGo σ.blk sz cs=some (rs,ids):=by unfold nrsOf at hr;obtain⟨x,h1,h2⟩:=oq.1 hr;cases h2;exact h1
 obtain⟨s1,s2⟩:=zls hgo;obtain⟨q1,q2⟩:=zce hs hev ha;have hpl:parts.toList.length=1:=by rw[q1];rfl
 obtain⟨y0,hy0⟩:∃y0,parts.toList=[y0]:=List.length_eq_one_iff.1 hpl;obtain⟨r1,r2,r3,_⟩:=q2 0 (0,cs) y0 rfl (by rw[hy0];rfl);have hfl:fillL (fun i=>some (i * wd,wd)) z [(0,cs)]=some (zcf z (0 * wd) cs):=by have h1:yv cs.length wd=true:=(by rw[hcl];exact Yy wd);have h2:yy (0 * wd+wd) z.length=true:=oZ vbX;simp only[fillL,h1,h2,Bool.and_self,oC]
 obtain ⟨ov, k1, k2, k3, k4⟩ := zft (RepV w w0.heap.size (Own σ E X0) E) (place := fun j => some (j * wd, wd)) [(0, cs)] (parts.map fun (i, x) => (i, a.eval x)).toList z ((YR (1 * wd)).map (zv.cells[· % zv.cells.size]!)) _ hfl (by simp; omega)
   (fun j x u hx hu => by
     have hj:j<wd:=by have:=(oE.1 hx).1;omega
     have h5 : ((YR (1 * wd)).map (zv.cells[· % zv.cells.size]!))[j]? = some (zv.cells[j % zv.cells.size]!) := by simp [hj]
     rw[h5,YZ vbX,getElem!_pos zv.cells j vbX] at hu
     cases hu
     exact .c _ _ (g4 j x _ hx (oL vbX))) (by simp[hpl]) (fun j x y hx hy=>by
     cases j with
     |succ j=>simp at hx
     |zero =>
       cases hx
       simp only[YQ,hy0,YH,List.map_nil,Yl,oo] at hy
       subst hy
       exact⟨r1,r2,r3⟩)
 have hflat:∀j,j<wd→(zcf z (0 * wd) cs)[j]?=cs[j]?:=fun j hj=>by simp only[zcf,YG,List.take_zero,List.nil_append,yA];rw[o3 vbX]
 have hov:∀j (hj:j<wd),RepV w w0.heap.size (Own σ E X0) E (cs[j]' vbX) (ov.getD j undef):=fun j hj=>by have h1:j<ov.size:=vbX;refine k4 j _ _ (by rw[hflat j hj];exact oj vbX) ?_;rw[yY,oL h1];rfl
 have hrun:=zdb (P:=P) (w:=w) hu hsz g1 g2 (show 1 * wd≤16777216 by omega) (parts:=parts.map fun (i,x)=>(i,a.eval x)) k1;let ek:Nat→EI:=fun j=>match cs[j]? with
 |some (.own f) =>E f
 |_ =>zv5
 have hcell : ∀k, k < wd → (∃f n row, cs[k]? = some (.own f) ∧ σ.blk f = some (.arr sz n row) ∧ rows k = .row n row ∧ f ∈ ids ∧ ek k = E f) ∨ (∃v, cs[k]? = some v ∧ zej v = true ∧ rows k = .cell v) := fun k hk => by
  have hg:cs[k]?=some (cs[k]' vbX):=oj vbX;rcases s1 k _ hg with⟨f,n,row,a1,a2,a3,a4⟩ | ⟨a1,a2⟩
  ·refine .inl ⟨f, n, row, by rw [hg, a1], a2, by rw [hrow k hk, oh, a3]; rfl, a4, ?_⟩;simp only [ek, hg, a1]
  exact .inr ⟨_,hg,a1,by rw[hrow k hk,oh,a2];rfl⟩
 refine zfj hs (wd:=wd) (T:=e) (vs:=ov) (cap:=1) (ek:=ek) (by simp only[execOp,ho,oD,hrun,ow,oJ]) hd (ou _) vbx (by rw[cN_eq];omega) (fun k b h1 h2 h3=>?_) (fun k k' b h1 h2 h3 h4 h5 h6=>?_) (fun k id h1 h2=>?_) (fun k h1=>?_) nw p<;>simp only[cN_eq,Y0] at h1
 ·rcases hcell k h1 with ⟨f, n, row, a1, a2, a3, a4, a5⟩ | ⟨v, a1, a2, a3⟩
  ·rw [a5] at h3;exact ⟨f, killL_mem.2 a4, .inl ⟨by rw [a2]; simp, h3⟩⟩
  rw[a3] at h2;exact h2.elim
 ·simp only [cN_eq, Y0] at h2;rcases hcell k h1 with ⟨f, n, row, a1, a2, a3, a4, a5⟩ | ⟨v, a1, a2, a3⟩
  ·rcases hcell k' h2 with ⟨f', n', row', b1, b2, b3, b4, b5⟩ | ⟨v, b1, b2, b3⟩
   ·rw [a5] at h5; rw [b5] at h6;have := hs.injA f f' b (.inl ⟨by rw [a2]; simp, h5⟩) (.inl ⟨by rw [b2]; simp, h6⟩);subst this;exact s2 hnd k k' f a1 b1
   rw[b3] at h4;exact h4.elim
  rw[a3] at h3;exact h3.elim
 ·rcases hcell k h1 with ⟨f, n, row, a1, a2, a3, a4, a5⟩ | ⟨v, a1, a2, a3⟩
  ·rw [a3] at h2; cases h2
  rw[a3] at h2;cases h2
 have hv:=hov k h1;rcases hcell k h1 with⟨f,n,row,a1,a2,a3,a4,a5⟩ | ⟨v,a1,a2,a3⟩
 ·rw [(oE.1 a1).2] at hv;rw [a3, a5];exact ⟨hv.own_inv, hs.blks f _ a2⟩
 rw[(oE.1 a1).2] at hv;rw[a3];obtain⟨c1,c2⟩:=zpq a2 hv;exact⟨c2,c1⟩
theorem zm0(hs : Sat N w0 X0 σ E a w){o : Oper}{d T sz wd : Nat}{parts : Array (Nat × Operand)}(ho : o.op = .buildSlice T 0 parts){e : Nat}(hu : P.underlying T = some (.slice e)){p' : List Prop}(hev : za9 σ.slot parts.toList = some ([], p'))(ha : All p'){z : List LV}(hz : zeroL P e = some z)(hsz : szOf P e = some wd)(hzl : z.length = wd)(hd : σ.used d = false){rows : Nat → NR}(nw : List Nat)(p : List Prop) : MOk P N w0 X0 σ a w o ⟨some (.own d), noK, oneB d (.nest wd true sz 0 rows), nw, p⟩ := by
 obtain⟨i,zv,g1,g2,g3,_⟩:=zbs hz;obtain⟨q1,_⟩:=zce hs hev ha;have h0:cN wd 0=0:=by rw[cN_eq,YG]
 have hpl : parts.toList = [] := Yz (by rw [q1]; rfl);have hr := zdb (P := P) (w := w) (len := 0) hu hsz g1 g2 vbX (parts := parts.map fun (i, x) => (i, a.eval x)) (ov := (YR (0 * wd)).map (zv.cells[· % zv.cells.size]!)) (by simp only [YQ, hpl, List.map_nil]; rfl);refine zfj hs (wd := wd) (T := e) (vs := (YR (0 * wd)).map (zv.cells[· % zv.cells.size]!)) (cap := 0) (ek := fun _ => zv5) (by simp only [execOp, ho, oD, hr, ow, oJ]) hd (ou _) (by unfold maxLen; omega) (by rw [h0]; exact Nat.zero_le _) ?_ ?_ ?_ ?_ nw p
 ·intro k _ q; rw [h0] at q; exact absurd q (oO _)
 ·intro k _ _ q; rw [h0] at q; exact absurd q (oO _)
 ·intro k _ q; rw [h0] at q; exact absurd q (oO _)
 intro k q;rw[h0] at q;exact absurd q (oO _)
theorem zy7{T ty e n c wd : Nat}(hu : P.underlying T = some (.slice e)){i : TypeInfo}(hi : P.info? e = some i){z : List LV}(hz : zeroL P e = some z)(hzl : z.length = i.size)(hi1 : i.size = wd)(hw1 : 1 ≤ wd)(hb1 : 1 ≤ i.bytes)(hbd : (n + 1) * i.bytes ≤ 140737488355328){v1 : Value}{eb : Option Nat}{off : Nat}(h1 : (eb = none ∧ v1 = .slice none 0 0 ∧ n = 0) ∨ ∃b cap us T', eb = some b ∧ v1 = .slice (some ⟨b, off, none⟩) n cap ∧ w.heap[b]? = some (.cells us T' (0, 0)) ∧ n ≤ cap ∧ cap ≤ maxLen ∧ off + cap * wd ≤ us.size){ad : Addr}{xs : List Value}(hxl : xs.length = wd)(hc : ∀j u, xs[j]? = some u → w.cell? (ad.add j) = some u)(hu1 : ∀u ∈ xs, u.oneCell' = true) : ∃b' off' cap' us' T'' w', (Builtin.append_ #[T, T] ty #[v1, .slice (some ad) 1 c]).run P w = .ok (.slice (some ⟨b', off', none⟩) (n + 1) cap') w' ∧ w'.heap[b']? = some (.cells us' T'' (0, 0)) ∧ n + 1 ≤ cap' ∧ cap' ≤ maxLen ∧ off' + cap' * wd ≤ us'.size ∧ (∀j, j < wd → us'[off' + n * wd + j]? = xs[j]?) ∧ (∀b us T', eb = some b → w.heap[b]? = some (.cells us T' (0, 0)) → off + n * wd ≤ us.size → ∀t, t < n * wd → us'[off' + t]? = us[off + t]?) ∧ w.heap.size ≤ w'.heap.size ∧ (∀x, x < w.heap.size → eb ≠ some x → w'.heap[x]? = w.heap[x]?) ∧ (eb = some b' ∨ w.heap.size ≤ b') ∧ ∀w0 : World, Below w0.heap.size w0 w → (∀b, eb = some b → w0.heap.size ≤ b) → Below w0.heap.size w0 w' := by
 have hmb:n+1≤(n+1) * i.bytes:=YO _ hb1;obtain⟨i',zv,g1,g2,g3,g4⟩:=zbs hz;rw[hi] at g1;cases g1;have hz1:zv.cells.size=wd:=vbX
 have hx1:xs.length=1 * i.size:=vbX
 have hzero:∀k,(Builtin.zeroCells zv.cells k).size=k * wd:=fun k=>by rw[size_zeroCells,hz1]
 rcases h1 with⟨rfl,rfl,rfl⟩ | ⟨b,cap,us,T',rfl,rfl,k4,k5,k6,k7⟩
 ·have hge := grownCap_ge w 1 0 e;have hr := run_append_nil (P := P) w T ty e i zv hu hi g2 ad 1 c xs hx1 hc Nat.one_pos vbX vbX;refine ⟨w.heap.size, 0, grownCap w 1 0 e, _, e, _, hr, heap_alloc_new w.drew _, vbX, grownCap_le_maxLen w 1 0 e (by unfold maxLen; omega), ?_, fun j hj => ?_, fun b _ _ h => vbU, vbZ, fun x hx _ => Below.heap_alloc w.drew _ _ hx, .inr (ou _), fun w0 hb _ => hb.drew.alloc hb.size _⟩
  ·have : grownCap w 1 0 e * wd = wd + (grownCap w 1 0 e - 1) * wd := (by rw [Nat.sub_mul, Y0];have : 1 * wd ≤ grownCap w 1 0 e * wd := oU wd hge;omega);simp only [Array.size_append, List.size_toArray, hzero, hxl]; omega
  rw[YG,yA,Yk vbP,Yf]
 by_cases hroom:n+1≤cap
 ·have hcw : (n + 1) * wd ≤ cap * wd := oU wd hroom;rw [Yc] at hcw;have hfit : off + n * i.size + xs.length ≤ us.size := by rw [hi1]; omega
  have hr:=zio (P:=P) (w:=w) (ty:=ty) (c:=c) hu hi k4 (ad:=ad) (news:=xs) (off:=off) (n:=n) (m:=1) hx1 hc hu1 hroom hfit;have hget:∀j:Nat,(us.toList.take (off+n * i.size)++xs++us.toList.drop (off+n * i.size+xs.length)).toArray[j]?=if off+n * wd≤j∧j<off+n * wd+wd then xs[j - (off+n * wd)]? else us[j]?:=fun j=>by simp only[Yf];rw[zdo _ _ _ _ (by simpa using hfit)];simp only[Ye,hi1,hxl]
  have hsize:(us.toList.take (off+n * i.size)++xs++us.toList.drop (off+n * i.size+xs.length)).toArray.size=us.size:=vbu
  refine⟨b,off,cap,_,T',_,hr,setRow_heap w b us _ T' (0,0) k4,hroom,k6,by rw[hsize];exact k7,fun j hj=>?_,fun b2 us2 T2 h2 h3 _ t ht=>?_,vbZ,fun x _ hx=>setRow_other w b x _ (fun h=>hx (by rw[h])),.inl rfl,fun w0 hb hh=>zcr hb (hh b rfl)⟩
  ·rw [hget, if_pos vbX, Nat.add_sub_cancel_left]
  cases h2;rw[k4] at h3;cases h3;rw[hget,if_neg vbX]
 let olds:List Value:=(us.toList.drop off).take (n * wd);have hnw:n * wd≤cap * wd:=oU wd k5;have hol:olds.length=n * i.size:=by rw[hi1];simp[olds];omega
 have hog:∀t,t<n * wd→olds[t]?=us[off+t]?:=fun t ht=>by simp only[olds,YA,if_pos ht,YB,Ye]
 have holds:∀j x,olds[j]?=some x→w.cell? ((⟨b,off,none⟩:Addr).add j)=some x:=fun j x h=>by have hj:j<n * wd:=(by have:=(oE.1 h).1;rw[hol,hi1] at this;omega);rw[hog j hj] at h;rw[za1];simp[Yj,k4,h]
 have hfits:Builtin.nextslicecap (n+1) cap * i.bytes≤281474976710656:=growslice_fits vbX hbd;have hr:=run_append_grow (P:=P) w T ty e i zv hu hi g2 ⟨b,off,none⟩ n cap olds hol holds ad 1 c xs hx1 hc vbX vbX hfits;have hge:=grownCap_ge w (n+1) cap e;have hls:olds.length=n * wd:=by rw[hol,hi1]
 refine⟨w.heap.size,0,grownCap w (n+1) cap e,_,e,_,hr,heap_alloc_new w.drew _,vbX,grownCap_le_maxLen w (n+1) cap e vbx,?_,fun j hj=>?_,fun b2 us2 T2 h2 h3 _ t ht=>?_,vbZ,fun x hx _=>Below.heap_alloc w.drew _ _ hx,.inr (ou _),fun w0 hb _=>hb.drew.alloc hb.size _⟩
 ·have h5 : (n + 1) * wd ≤ grownCap w (n + 1) cap e * wd := oU wd hge;have : grownCap w (n + 1) cap e * wd = (n + 1) * wd + (grownCap w (n + 1) cap e - (n + 1)) * wd := by rw [Nat.sub_mul]; omega
  rw[Yc] at this;simp only[Array.size_append,List.size_toArray,hzero,hls,hxl];omega
 ·rw [yA, Yk (by simp [hls]; omega), Array.getElem?_append_right (by simp [hls])]; simp [hls]
 cases h2;rw[k4] at h3;cases h3;rw[yA,Yk (by simp[hls];omega),Yk (by simp[hls];omega),Yf,hog t ht]
theorem zd8(hs : Sat N w0 X0 σ E a w){o : Oper}{d T f wd sz n : Nat}{v1 v2 : Value}(hrun : ∀v w', (Builtin.append_ #[T, T] o.type #[v1, v2]).run P w = .ok v w' → (execOp a.eval o).run P w = .ok (.value v) w'){e : Nat}(hu : P.underlying T = some (.slice e)){i : TypeInfo}(hi : P.info? e = some i){z : List LV}(hz : zeroL P e = some z)(hzl : z.length = i.size)(hi1 : i.size = wd)(hw1 : 1 ≤ wd)(hb1 : 1 ≤ i.bytes)(hbd : (n + 1) * i.bytes ≤ 140737488355328){rows1 rows2 rows' : Nat → NR}{ids : List Nat}(h1 : (ids = [f] ∧ v1 = .slice none 0 0 ∧ n = 0) ∨ ∃id, ids = [id, f] ∧ v1 = (E id).val ∧ σ.blk id = some (.nest wd true sz n rows1) ∧ id ≠ f)(hv2 : v2 = (E f).val)(hbf : σ.blk f = some (.nest wd true sz 1 rows2))(hr1 : ∀k, k < cN wd n → rows' k = rows1 k)(hr2 : ∀j, j < wd → rows' (n * wd + j) = rows2 j)(hd : σ.used d = false)(nw : List Nat)(p : List Prop) : MOk P N w0 X0 σ a w o ⟨some (.own d), killL ids, oneB d (.nest wd true sz (n + 1) rows'), nw, p⟩ := by
 have hbfl:σ.blk f≠none:=by rw[hbf];simp
 have hfm:Mul (σ.blk f):=by rw[hbf];trivial
 have hfk:killL ids f=true:=by rcases h1 with⟨rfl,_⟩ | ⟨id,rfl,_⟩<;>exact killL_mem.2 vbZ
 obtain⟨ek2,hsub2,hn2,hk2⟩:=hs.blks f _ hbf;rcases hk2 with⟨_,_,h⟩ | ⟨b2,cap2,us2,T2,f1,f2,f3,f4,f5,f6,f7,f8⟩
 ·cases h
 simp only[cN_eq,Y0] at f8 hsub2 hr1;let xs:List Value:=(us2.toList.drop (E f).off).take wd;have f7:(E f).off+cap2 * wd≤us2.size:=by rw[←cN_eq];exact f7
 have f5w:1 * wd≤cap2 * wd:=oU wd f5;have hxl:xs.length=wd:=by simp[xs];omega
 have hxg:∀j,j<wd→xs[j]?=some (us2.getD ((E f).off+j) undef):=fun j hj=>by have:(E f).off+j<us2.size:=vbX;simp[xs,YA,if_pos hj,YB,this]
 have hcell:∀j u,xs[j]?=some u→w.cell? ((⟨b2,(E f).off,none⟩:Addr).add j)=some u:=fun j u h=>by have hj:j<wd:=(by have:=(oE.1 h).1;omega);rw[hxg j hj] at h;cases h;have:(E f).off+j<us2.size:=vbX;rw[za1];simp[Yj,f4,this]
 have h20 := fun j (hj : j < wd) => f8 j vbX;have hone : ∀u ∈ xs, u.oneCell' = true := fun u hu => by
  obtain⟨j,hj⟩:=List.getElem?_of_mem hu;have hjw:j<wd:=by have:=(oE.1 hj).1;omega
  rw[hxg j hjw] at hj;cases hj;have h:=h20 j hjw;cases hr:rows2 j with
  |row m r =>rw[hr] at h;rw[h.1];rfl
  |out id =>exact absurd hr (hsub2.cl rfl j id vbX)
  |gone =>rw[hr] at h;obtain⟨A,q,c,h⟩:=h;rw[h];rfl
  |cell v =>rw[hr] at h;exact zh6 h.2 h.1
 obtain⟨eb, ek1, hmain1, hsubs1, hok1, hav, hout1⟩ : ∃(eb : Option Nat) (ek1 : Nat → EI), (∀b, eb = some b → ∃j, killL ids j = true ∧ j ≠ f ∧ OwnAt σ.blk E j b ∧ w0.heap.size ≤ b) ∧ ((∀k b, k < n * wd → (rows1 k).isRow → (ek1 k).b = some b → eb ≠ some b ∧ ∃j, killL ids j = true ∧ j ≠ f ∧ OwnAt σ.blk E j b) ∧ ∀k k' b, k < n * wd → k' < n * wd → (rows1 k).isRow → (rows1 k').isRow → (ek1 k).b = some b → (ek1 k').b = some b → k = k') ∧ (∃off, ((eb = none ∧ v1 = .slice none 0 0 ∧ n = 0) ∨ ∃b cap us T', eb = some b ∧ v1 = .slice (some ⟨b, off, none⟩) n cap ∧ w.heap[b]? = some (.cells us T' (0, 0)) ∧ n ≤ cap ∧ cap ≤ maxLen ∧ off + cap * wd ≤ us.size) ∧ ∀k, k < n * wd → ∃b us T', eb = some b ∧ w.heap[b]? = some (.cells us T' (0, 0)) ∧ off + n * wd ≤ us.size ∧ NROk w w0.heap.size (Own σ E X0) E sz (ek1 k) (us.getD (off + k) undef) (rows1 k)) ∧ True ∧ ∀k id, k < n * wd → rows1 k ≠ .out id := by
  rcases h1 with⟨rfl,rfl,rfl⟩ | ⟨id,rfl,rfl,hb,hne⟩
  ·exact ⟨none, fun _ => zv5, fun b h => vbU, ⟨fun k b h => vbX, fun k k' b h => vbX⟩, ⟨0, .inl ⟨rfl, rfl, rfl⟩, fun k h => vbX⟩, trivial, fun k id h => vbX⟩
  have hbl:σ.blk id≠none:=vbM
  have hmul:Mul (σ.blk id):=by rw[hb];trivial
  obtain⟨ek1,hsub1,hn1,hk1⟩:=hs.blks id _ hb;simp only[cN_eq] at hsub1 hk1;have hik:killL [id,f] id=true:=killL_mem.2 vbZ;refine⟨(E id).b,ek1,fun b h=>⟨id,hik,hne,.inl ⟨hbl,h⟩,hs.own_ge hbl h⟩,⟨fun k b q1 q2 q3=>⟨hsub1.ne k b q1 q2 q3,id,hik,hne,.inr ⟨hmul,(hsub1.iff b).2 ⟨k,q1,q2,q3⟩⟩⟩,hsub1.inj⟩,⟨(E id).off,?_,fun k q1=>?_⟩,trivial,hsub1.cl rfl⟩
  ·rcases hk1 with h | ⟨b, cap, us, T', k1, k2, k3, k4, k5, k6, k7, k8⟩
   ·exact .inl h
   exact .inr ⟨b,cap,us,T',k1,k2,k4,k5,k6,k7⟩
  rcases hk1 with⟨_,_,h⟩ | ⟨b,cap,us,T',k1,k2,k3,k4,k5,k6,k7,k8⟩
  ·exfalso; rename_i h; rw [h, YG] at q1; omega
  exact ⟨b, us, T', k1, k4, by
    have:n * wd≤cap * wd:=oU wd k5
    omega,k8 k q1⟩
 obtain⟨off,hshape,hnr⟩:=hok1;rw[hv2,f2] at hrun;obtain⟨b',off',cap',us',T'',w',r1,r2,r3,r4,r5,r6,r7,r8,r9,r10,r11⟩:=zy7 (P:=P) (w:=w) (ty:=o.type) (c:=cap2) hu hi hz hzl hi1 hw1 hb1 hbd hshape hxl hcell hone;let ei:EI:=⟨some b',off',some ⟨b',off',none⟩,n+1,cap',n+1⟩;let ek':Nat→EI:=fun k=>if n * wd≤k then ek2 (k - n * wd) else ek1 k;have e0:∀k,n * wd≤k→ek' k=ek2 (k - n * wd):=fun k h=>by simp[ek',h]
 have e1:∀k,k<n * wd→ek' k=ek1 k:=fun k h=>by simp[ek',show ¬n * wd≤k by omega]
 have hr2:∀k,n * wd≤k→k<(n+1) * wd→rows' k=rows2 (k - n * wd)∧k - n * wd<1 * wd:=fun k h h'=>by rw[Yc] at h';have:=hr2 (k - n * wd) vbX;rw[Nat.add_sub_cancel' h] at this;exact⟨this,vbX⟩
 have own2 : ∀k b, k < 1 * wd → (rows2 k).isRow → (ek2 k).b = some b → OwnAt σ.blk E f b := fun k b q0 q1 q2 => .inr ⟨hfm, (hsub2.iff b).2 ⟨k, vbX, q1, q2⟩⟩;have hs9 : ∀k b, k < (n + 1) * wd → (rows' k).isRow → (ek' k).b = some b → (∃j, killL ids j = true ∧ OwnAt σ.blk E j b) ∧ eb ≠ some b := fun k b q1 q2 q3 => by
  by_cases e:n * wd≤k
  ·obtain ⟨hk2, hk3⟩ := hr2 k e q1;rw [e0 k e] at q3; rw [hk2] at q2;refine ⟨⟨f, hfk, own2 _ b hk3 q2 q3⟩, fun h => ?_⟩;obtain ⟨j, _, q5, q6, _⟩ := hmain1 b h;exact q5 (hs.injA j f b q6 (own2 _ b hk3 q2 q3))
  rw[e1 k vbX] at q3;rw[hr1 k vbX] at q2;obtain⟨q4,j,q5,_,q6⟩:=hsubs1.1 k b vbX q2 q3;exact⟨⟨j,q5,q6⟩,q4⟩
 have hout9 : ∀k id, k < (n + 1) * wd → rows' k ≠ .out id := fun k id q1 q2 => by
  by_cases h:n * wd≤k
  ·obtain ⟨hk2, hk3⟩ := hr2 k h q1;rw [hk2] at q2; exact hsub2.cl rfl _ id vbX q2
  rw[hr1 k vbX] at q2;exact hout1 k id vbX q2
 intro K Q hk;refine zbe (hrun _ _ r1) (hk _ _ _ (zj7 hs (killL ids) d ei wd true sz (n+1) rows' ek' (.inl hd) r8 (fun b hb hh=>r9 b hb fun h=>?_) (fun b hb=>?_) (fun k b q1 q2 q3=>?_) (fun k k' b q1 q2 q3 q4 q5 q6=>?_) (fun _ k id q1=>hout9 k id (by rw[←cN_eq];exact q1)) (r11 w0 hs.below fun b h=>by obtain⟨_,_,_,_,h⟩:=hmain1 b h;exact h) (fun k id q1 q2=>absurd q2 (hout9 k id (by rw[←cN_eq];exact q1))) ⟨rfl,.inr ⟨b',cap',us',T'',rfl,rfl,?_,r2,r3,r4,by rw[cN_eq];exact r5,fun k q1=>?_⟩⟩) (fun h=>vbU) (zra (by simp[Env.setFS,one,ei,EI.val])))
 ·obtain ⟨j, q1, _, q2, _⟩ := hmain1 b h;exact hh j (.inr q1) q2
 ·simp only [ei, oo] at hb;subst hb;rcases r10 with h | h
  ·obtain ⟨j, q1, _, q2, _⟩ := hmain1 b' h;exact .inr ⟨j, .inr q1, q2⟩
  exact .inl h
 ·rw [cN_eq] at q1;obtain ⟨⟨j, q4, q5⟩, q6⟩ := hs9 k b q1 q2 q3;have hlt := hs.olt q5;refine ⟨⟨j, .inr q4, q5⟩, r9 b hlt q6, fun h => ?_⟩;simp only [ei, oo] at h;subst h;rcases r10 with h | h
  ·exact q6 h
  omega
 ·rw [cN_eq] at q1 q2;by_cases h : n * wd ≤ k
  ·obtain ⟨a1, a2⟩ := hr2 k h q1;rw [e0 k h] at q5; rw [a1] at q3;by_cases h' : n * wd ≤ k'
   ·obtain ⟨b1, b2⟩ := hr2 k' h' q2;rw [e0 k' h'] at q6; rw [b1] at q4;have := hsub2.inj _ _ b vbX vbX q3 q4 q5 q6;omega
   rw[e1 k' vbX] at q6;rw[hr1 k' vbX] at q4;obtain⟨_,j,_,q7,q8⟩:=hsubs1.1 k' b vbX q4 q6;exact(q7 (hs.injA j f b q8 (own2 _ b a2 q3 q5))).elim
  rw[e1 k vbX] at q5;rw[hr1 k vbX] at q3;by_cases h':n * wd≤k'
  ·obtain ⟨b1, b2⟩ := hr2 k' h' q2;rw [e0 k' h'] at q6; rw [b1] at q4;obtain ⟨_, j, _, q7, q8⟩ := hsubs1.1 k b vbX q3 q5;exact (q7 (hs.injA j f b q8 (own2 _ b b2 q4 q6))).elim
  rw[e1 k' vbX] at q6;rw[hr1 k' vbX] at q4;exact hsubs1.2 k k' b vbX vbX q3 q4 q5 q6
 ·rcases r10 with h | h
  ·obtain ⟨_, _, _, _, q⟩ := hmain1 b' h; exact q
  exact Nat.le_trans hs.below.size h
 rw[cN_eq] at q1;show NROk w w0.heap.size (Own σ E X0) E sz (ek' k) (us'.getD (off'+k) undef) (rows' k);by_cases h:n * wd≤k
 ·obtain ⟨a1, a2⟩ := hr2 k h q1;have h6 := r6 (k - n * wd) vbX;rw [Yt, Nat.add_sub_cancel' h, hxg _ vbX] at h6;rw [e0 k h, a1, yY, h6, YD];exact h20 _ vbX
 obtain⟨b,us,T',q2,q3,q4,q5⟩:=hnr k vbX;rw[e1 k vbX,hr1 k vbX,yY,r7 b us T' q2 q3 q4 k vbX,←yY];exact q5
theorem zti(hs : Sat N w0 X0 σ E a w){o : Oper}{h : Hint}{D : MD}(hm : mopN P o σ.slot σ.blk h = some D)(ha : All D.vcs)(hnew : ∀i ∈ D.new, σ.used i = false) : MOk P N w0 X0 σ a w o D := by
 unfold mopN at hm;split at hm
 ·rename_i T x d ho hd;split at hm
  ·rename_i g m row rows';split at hm
   ·rename_i id sz1 i off p hx hag;split at hm
    ·rename_i cl sz n rows hb;obtain ⟨hc, rfl⟩ := zaj hm;simp only [oc] at hc;have e1 := om hc.1;have e2 := om hc.2;subst e1; subst e2;obtain ⟨ha1, ⟨h1, h2, h3⟩, _⟩ := All.append.1 ha;exact zhk (i := i) (wd := 1) (off := 0) hs ho (zae hs hx ha1).1 Nat.one_pos hag (hnew d vbZ) hb vbH vbI (fun k q1 q2 => h3 k q1 (by simpa using q2)) _ _
    ·rename_i wd cl sz n rows _ hb;obtain ⟨hc, rfl⟩ := zaj hm;simp only [oc] at hc;have e1 := om hc.1;subst e1;obtain ⟨ha1, ⟨h1, h2, h3⟩, _⟩ := All.append.1 ha;exact zhk hs ho (zae hs hx ha1).1 (oS hc.2) hag (hnew d vbZ) hb h1 h2 h3 _ _
    cases hm
   cases hm
  ·rename_i pre m row rows';split at hm
   ·rename_i id sz1 i off p one hx hag hsz;split at hm
    ·rename_i wd cl sz n rows hb;obtain ⟨hc, rfl⟩ := zaj hm;simp only [oc] at hc;have e1 := om hc.1;have e2 := om hc.2.1;have e3 := om hc.2.2.1;subst e1; subst e2; subst e3;obtain ⟨ha1, ⟨⟨h1, h2, h3⟩, h4⟩, _⟩ := All.append.1 ha;exact zoa hs ho (zae hs hx ha1).1 hag hsz (hnew d vbZ) (om hc.2.2.2.1) hc.2.2.2.2 hb h1 h2 h3 h4 _ _
    cases hm
   cases hm
  cases hm
 ·rename_i T len parts d ho hd;split at hm
  ·rename_i cl n' rows';split at hm
   ·rename_i e i0 f p hu hev;split at hm
    ·rename_i one sz m row hz hsz hb;obtain ⟨hc, rfl⟩ := zaj hm;simp only [oc] at hc;have e0 := om hc.1;have e1 := om hc.2.1;have e2 := om hc.2.2;subst e0; subst e1; subst e2;obtain ⟨ha1, ⟨h0, h1⟩, _⟩ := All.append.1 ha;subst h0;exact zld hs ho hu hev ha1 hz hsz hb (hnew d vbZ) h1 _ _
    cases hm
   ·rename_i e i0 cs p _ hu hev;split at hm
    ·rename_i z wd sz rs ids hz hsz hr;obtain ⟨hc, rfl⟩ := zaj hm;simp only [oc] at hc;have e0 := om hc.1;have e1 := om hc.2.1;have e2 := om hc.2.2.1;have e3 := om hc.2.2.2.1;subst e0; subst e1;obtain ⟨ha1, ⟨h0, h1⟩, _⟩ := All.append.1 ha;subst h0;exact zm1 hs ho hu hev ha1 hz hsz e2 e3 (oS hc.2.2.2.2.1) hr hc.2.2.2.2.2 (hnew d vbZ) h1 _ _
    cases hm
   cases hm
  ·rename_i sz n' rows';split at hm
   ·rename_i e p hu hev;split at hm
    ·rename_i z one hz hsz;obtain ⟨hc, rfl⟩ := zaj hm;simp only [oc] at hc;have e0 := om hc.1;have e1 := om hc.2;subst e0;obtain ⟨ha1, h0, _⟩ := All.append.1 ha;subst h0;exact zm0 hs ho hu hev ha1 hz hsz e1 (hnew d vbZ) _ _
    cases hm
   cases hm
  cases hm
 ·rename_i args tys d ho hd;split at hm
  ·rename_i cl n' rows';split at hm
   ·rename_i x y T T' hargs htys;split at hm
    ·rename_i e x' p f q hu hx hy;split at hm
     ·rename_i i cl2 sz one rows2 hi hbf;split at hm
      ·obtain ⟨hc, rfl⟩ := zaj hm;simp only [oc] at hc;obtain ⟨c1, c2, c3, c4, c5, c6⟩ := hc;have e0 := om c2;have e1 := om c5;subst e0; subst e1; subst c6;obtain ⟨hab, ⟨⟨h0, h1⟩, h2⟩, _⟩ := All.append.1 ha;subst h0;obtain ⟨ha1, ha2⟩ := All.append.1 hab;obtain ⟨z, hz1, hz2⟩ := zfw c1;have hv1 := (zae hs hx ha1).1.nilS_inv;have hv2 := (zae hs hy ha2).1.own_inv;exact zd8 hs (wd := 1) (n := 0) (fun v w' h => zc6 ho hargs htys h) hu hi hz1 hz2 (om c3) (ou _) (oS c4) vbI (rows1 := fun _ => .gone) (.inl ⟨rfl, hv1, rfl⟩) hv2 hbf (fun k h => absurd h (oO _)) (fun j hj => by rw [show j = 0 by omega]; exact h1) (hnew d vbZ) _ _
      ·rename_i id;split at hm
       ·rename_i cl1 sz1 n rows1 hb;obtain ⟨hc, rfl⟩ := zaj hm;simp only [oc] at hc;obtain ⟨c1, c2, c3, c4, c5, c6, c7, c8, c9⟩ := hc;have e0 := om c2;have e1 := om c5;have e2 := om c8;subst e0; subst e1; subst c6; subst c7; subst e2;obtain ⟨hab, ⟨⟨h0, h1, h2⟩, h3⟩, _⟩ := All.append.1 ha;subst h0;obtain ⟨ha1, ha2⟩ := All.append.1 hab;obtain ⟨z, hz1, hz2⟩ := zfw c1;have hv1 := (zae hs hx ha1).1.own_inv;have hv2 := (zae hs hy ha2).1.own_inv;have hne : id ≠ f := fun h => (by rw [h, Yy] at c9; cases c9);exact zd8 hs (wd := 1) (fun v w' h => zc6 ho hargs htys h) hu hi hz1 hz2 (om c3) (ou _) (oS c4) h3 (.inr ⟨id, rfl, hv1, hb, hne⟩) hv2 hbf h1 (fun j hj => by rw [show j = 0 by omega, wc]; exact h2) (hnew d vbZ) _ _
       cases hm
      cases hm
     ·rename_i i wd cl2 sz one rows2 _ hi hbf;split at hm
      ·obtain ⟨hc, rfl⟩ := zaj hm;simp only [oc] at hc;obtain ⟨c1, c2, c3, cw, c4, c5, c6⟩ := hc;have e0 := om c2;have e1 := om c5;subst e0; subst e1; subst c6;obtain ⟨hab, ⟨⟨h0, h1⟩, h2⟩, _⟩ := All.append.1 ha;subst h0;obtain ⟨ha1, ha2⟩ := All.append.1 hab;obtain ⟨z, hz1, hz2⟩ := zfw c1;have hv1 := (zae hs hx ha1).1.nilS_inv;have hv2 := (zae hs hy ha2).1.own_inv;exact zd8 hs (n := 0) (fun v w' h => zc6 ho hargs htys h) hu hi hz1 hz2 (om c3) (oS cw) (oS c4) vbI (rows1 := fun _ => .gone) (.inl ⟨rfl, hv1, rfl⟩) hv2 hbf (fun k h => by rw [znd] at h; exact absurd h (oO _)) (fun j hj => by rw [YG, yA]; exact h1 j hj) (hnew d vbZ) _ _
      ·rename_i id;split at hm
       ·rename_i wd1 cl1 sz1 n rows1 hb;obtain ⟨hc, rfl⟩ := zaj hm;simp only [oc] at hc;obtain ⟨c1, c2, c3, cw, c4, c5, c6, c7, c8, c8w, c9⟩ := hc;have e0 := om c2;have e1 := om c5;have e2 := om c8;have e3 := om c8w;subst e0; subst e1; subst c6; subst c7; subst e2; subst e3;obtain ⟨hab, ⟨⟨h0, h1, h2⟩, h3⟩, _⟩ := All.append.1 ha;subst h0;obtain ⟨ha1, ha2⟩ := All.append.1 hab;obtain ⟨z, hz1, hz2⟩ := zfw c1;have hv1 := (zae hs hx ha1).1.own_inv;have hv2 := (zae hs hy ha2).1.own_inv;have hne : id ≠ f := fun h => (by rw [h, Yy] at c9; cases c9);exact zd8 hs (fun v w' h => zc6 ho hargs htys h) hu hi hz1 hz2 (om c3) (oS cw) (oS c4) h3 (.inr ⟨id, rfl, hv1, hb, hne⟩) hv2 hbf h1 h2 (hnew d vbZ) _ _
       cases hm
      cases hm
     cases hm
    cases hm
   cases hm
  cases hm
 cases hm
theorem zp1{l m : List LV}(h : zc9 l m)(h1 : ∀lv ∈ l, isOne lv = true) : ∀lv ∈ m, isOne lv = true := fun y hy => by
  obtain⟨j,hj,e⟩:=oX hy
  have hl:j<l.length:=by have:=h.1;omega
  rcases h.2 j l[j] y (oj hl) (by rw[oj hj,e]) with q | ⟨_,fr,sz,row,q⟩
  · rw [← q];exact h1 _ (Ya hl)
  · rw [q];rfl
theorem zp0{w : World}{B : Nat}{X : Nat → Prop}{l m : List LV}{f : Nat → Option Value}(h : zc9 l m)(h1 : ∀(j : Nat) lv v, l[j]? = some lv → f j = some v → RepC w B X lv v) : ∀(j : Nat) lv v, m[j]? = some lv → f j = some v → RepC w B X lv v := fun j y v hy hv => by
  have hj:=(oE.1 hy).1
  have hl:j<l.length:=by have:=h.1;omega
  have h2:=h1 j l[j] v (oj hl) hv
  rcases h.2 j l[j] y (oj hl) hy with q | ⟨q,fr,sz,row,e⟩
  · rw [← q];exact h2
  · rw [q] at h2
    have h3:=(RepV.c (E:=⟨fun _=>⟨none,0,none,0,0,0⟩,fun _ _=>False⟩) _ _ h2).nilS_inv
    rw[h3,e]
    exact .ro fr sz 0 row none ⟨0,0,none⟩ 0 (fun _ _=>undef) (ou _) (fun h=>absurd h (oP _)) (fun h=>absurd h (oP _)) (fun h=>absurd h (oP _)) (fun h=>absurd h (oP _)) (fun i h=>absurd h (oO _)) (fun i h=>absurd h (oO _)) (fun i j h=>absurd h (oO _)) fun i j lv h=>absurd h (oO _)
theorem Sat.re{σ σ' : FS}{E : Env}{w : World}{id sz n0 n : Nat}{row0 row : Nat → List LV}(hs : Sat N w0 X0 σ E a w)(e1 : σ'.slot = σ.slot)(e2 : σ'.used = σ.used)(h0 : σ.blk id = some (.arr sz n0 row0))(h1 : σ'.blk id = some (.arr sz n row))(hne : ∀j, j ≠ id → σ'.blk j = σ.blk j)(hr : zlm n0 n row0 row) : Sat N w0 X0 σ' E a w ∧ Own σ' E X0 = Own σ E X0 := by
 have hb : ∀j, σ'.blk j ≠ none ↔ σ.blk j ≠ none := fun j => by
  by_cases e:j=id
  ·subst e; rw [h0, h1]; simp
  rw[hne j e]
 have ha : ∀i b, OwnAt σ'.blk E i b ↔ OwnAt σ.blk E i b := fun i b => by
  unfold OwnAt;by_cases e:i=id
  ·subst e; rw [h0, h1]; simp [Mul]
  rw[hne i e]
 have ho:Own σ' E X0=Own σ E X0:=by funext b;simp only[Own,ha]
 refine⟨⟨hs.size,hs.defers,hs.below,fun t lv ht=>?_,fun j c hj=>?_,fun i j b hi hj=>hs.injA i j b ((ha i b).1 hi) ((ha j b).1 hj),fun j hj=>by rw[e2];exact hs.live j ((hb j).1 hj),fun t lv i ht hm=>?_,fun j cells lv i hj hl hm=>?_,fun j wd cl sz n rows k i hj hk hr=>?_,fun b o h=>⟨(hs.baseA b o h).1,fun j hj=>(hs.baseA b o h).2 j ((ha j b).1 hj)⟩,hs.bown,fun j ei hp hj=>hs.pin j ei hp ((hb j).1 hj),fun i hi=>by rw[e2];exact hs.pu i hi,hs.szf,hs.gh,hs.xge⟩,ho⟩
 ·rw [ho]; rw [e1] at ht; exact hs.slots t lv ht
 ·rw [ho];by_cases e : j = id
  ·subst e;rw [h1] at hj; cases hj;obtain ⟨e3, hrow⟩ := hr;subst e3;have hk := hs.blks j _ h0;refine ⟨hk.1, ?_⟩;rcases hk.2 with f1 | ⟨b, cap, vs, T', f1, f2, f3, f4, f5, f6, f7, f8⟩
   ·exact .inl f1
   refine .inr ⟨b,cap,vs,T',f1,f2,f3,f4,f5,f6,f7,fun k hk=>?_⟩;exact(f8 k hk).imp (fun q=>by rw[←q];exact(hrow k hk).1.symm) fun q=>⟨fun lv hl=>zp1 (hrow k hk) q.1 lv hl,fun j lv v hj hv=>zp0 (hrow k hk) q.2 j lv v hj hv⟩
  rw[hne j e] at hj;exact hs.blks j c hj
 ·rw [e2]; rw [e1] at ht; exact hs.wfs t lv i ht hm
 ·rw [e2];by_cases e : j = id
  ·subst e; rw [h1] at hj; cases hj
  rw[hne j e] at hj;exact hs.wfb j cells lv i hj hl hm
 rw[e2];by_cases e:j=id
 ·subst e; rw [h1] at hj; cases hj
 rw[hne j e] at hj;exact hs.wfn j wd cl sz n rows k i hj hk hr
theorem zfi(hs : Sat N w0 X0 σ E a w){o : Oper}{h : Hint}{D : MD}(hm : mop P o σ.slot σ.blk h = some D)(ha : All D.vcs)(hnew : ∀i ∈ D.new, σ.used i = false) : MOk P N w0 X0 σ a w o D := by
 rcases zfk hm with hm | ⟨wk,id,n,row,D0,hi0,e,h0,h1⟩ | hm
 ·exact zlz hs hm ha hnew
 rotate_left
 ·exact zti hs hm ha hnew
 obtain⟨sz,n0,row0,hu,rfl⟩:=zi6 h1;obtain⟨⟨ha1,ha2⟩,_⟩:=ha;intro K Q hk;refine zlz hs h0 ha1 hnew K Q fun v w' E' g1 g2 g3=>?_
 obtain ⟨q1, q2⟩ := g1.re (σ' := σ.upd D0.K fun j => bif yv j id then some (.arr sz n row) else D0.ub j) (id := id) (sz := sz) (n0 := n0) (n := n) (row0 := row0) (row := row) rfl (by
   funext j
   simp only[FS.upd]
   cases hb:yv j id with
   |true=>rw[om hb,hu];simp
   |false => rfl) (by simp only[FS.upd, hu]) (by simp only[FS.upd, Yy, oC]) (fun j hj => by
     have hb : yv j id = false := by
       cases hb:yv j id with
       |true=>exact absurd (om hb) hj
       |false=>rfl
     simp only[FS.upd,hb,oB]) (zq3 ha2)
 refine hk v w' E' q1 g2 fun lv hlv=>?_;obtain⟨k1,k2⟩:=g3 lv hlv;refine⟨by rw[q2];exact k1,fun i hm=>?_⟩;have:=k2 i hm;simp only[FS.upd] at this ⊢;cases hb:yv i id with
 |true =>simp
 |false =>simpa[hb] using this
end mop
end Go.Lite
