/- Regions of operations that run in the order of the text, executed on lists of claims; each step is sound. Conditions: none; over any program. -/
import Derived.Test.YtlinnkjieghmhaaGreatDoorLiteDS
set_option linter.unusedVariables false
namespace Go.Lite
open Go Go.RowKit


structure St where
 slots:List (Nat×LV)
 blks:List (Nat×BC)
 used:List Nat

def mem (l:List Nat) (i:Nat):Bool:=l.any (Nat.beq i)
theorem mem_iff {l:List Nat} {i:Nat}:mem l i=true↔i∈l:=by
 simp only [mem,List.any_eq_true]
 constructor
 ·rintro ⟨x,hx,e⟩
  rw [Nat.eq_of_beq_eq_true e];exact hx
 ·intro h;exact ⟨i,h,Nat.beq_refl i⟩

def memU (l:List Nat) (i:Nat):Bool:=mem l i||Nat.ble 900000 i
def St.fs (s:St):FS:=⟨look s.slots,look s.blks,memU s.used⟩

def H (N:Nat) (w0:World) (X0:Fr) (s:St) (a:Act) (w:World):Prop:=∃ E,Sat N w0 X0 s.fs E a w

section
variable {P:Program} {N:Nat} {w0:World} {X0:Fr} {σ:FS} {E:Env} {a:Act} {w:World}

def reV (h:Hint) (r:LV×List Prop):LV×List Prop :=
 match h,r.1 with
 | .rowN _ n row,.ro fr sz n0 row0=>(.ro fr sz n row,[All r.2∧zd8 n0 n row0 row])
 | _,_=>r
theorem zzd (h:Hint) (r:LV×List Prop):reV h r=r∨∃ i n row fr sz n0 row0,h=.rowN i n row∧r.1=.ro fr sz n0 row0∧reV h r=(.ro fr sz n row,[All r.2∧zd8 n0 n row0 row]):=by
 unfold reV
 split
 ·rename_i e;exact .inr ⟨_,_,_,_,_,_,_,rfl,e,rfl⟩
 ·exact .inl rfl
theorem RepC.rowsV {w:World} {B:Nat} {X:Nat→Prop} {fr:Bool} {sz n n':Nat} {row row':Nat→List LV} {v:Value} (h:RepC w B X (.ro fr sz n row) v) (he:zd8 n n' row row'):RepC w B X (.ro fr sz n' row') v:=by
 obtain ⟨rfl,he⟩:=he
 cases h with
 | ro _ _ _ _ A ad cap cv hcap hA hlt hX hB hsz ho hc h =>
  exact .ro fr sz n row' A ad cap cv hcap hA hlt hX hB (fun i hi=>by rw [← he i hi];exact hsz i hi) (fun i hi=>by rw [← he i hi];exact ho i hi) hc fun i j lv hi hl=>h i j lv hi (by rw [he i hi];exact hl)
def vopA (P:Program) (o:Oper) (sl:Nat→Option LV) (blk:Nat→Option BC) (h:Hint):Option (LV×List Prop) :=
 match vop P o sl blk h with
 | some r=>some r
 | none => match vop2 P o sl blk with
   | some r=>some (reV h r)
   | none=>none
theorem zi3 (hs:Sat N w0 X0 σ E a w) {o:Oper} {h:Hint} {lv:LV} {p:List Prop} (hv:vopA P o σ.slot σ.blk h=some (lv,p)) (ha:All p):VOk P w0 X0 σ E a w o lv:=by
 unfold vopA at hv
 split at hv
 ·rename_i r hr;cases hv;exact zym hs hr ha
 ·split at hv
  ·rename_i r hr
   obtain ⟨lv0,p0⟩:=r
   rcases zzd h (lv0,p0) with e | ⟨i,n,row,fr,sz,n0,row0,_,e,e2⟩
   ·rw [e] at hv;cases hv;exact zqb hs hr ha
   ·rw [e2] at hv
    cases hv
    subst e
    obtain ⟨v,h1,h2,h3⟩:=zqb hs hr ha.1.1
    refine ⟨v,h1,?_,fun id hm=>by cases hm⟩
    cases h2 with
    | c _ _ h2=>exact .c _ _ (h2.rowsV ha.1.2)
  ·cases hv

def St.put (s:St) (d:Option Nat) (lv:LV):St :=
 match d with
 | some d=>{ s with slots:=(d,lv) :: s.slots }
 | none=>s
def okDst (N : Nat) : Option Nat → Bool
  | some d=>Nat.blt d N
  | none=>true
def zg4 (ops:List Oper) (sl:Nat→Option LV) (j:Nat) (want:Bool):Option Bool :=
 match ops[j]? with
 | some o => match o.dst with
   | some t => match sl t with
     | some (.bool b)=>some (bif want then b else !b)
     | some (.whn c (.bool b))=>some (c&&(bif want then b else !b))
     | _=>none
   | none=>none
 | none=>none

def zru (s:St) (D:MD):List (Nat×BC) :=
 (D.new ++ s.blks.map (·.1)).filterMap fun i => ((s.fs.upd D.K D.ub).blk i).map fun c => (i, c)

def op1 (P:Program) (N:Nat) (ops:List Oper) (s:St) (o:Oper) (h:Hint):Option (St×List Prop) :=
 match o.guard with
 | none => match vopA P o (look s.slots) (look s.blks) h with
   | some (lv,p)=>bif okDst N o.dst then some (s.put o.dst lv,p) else none
   | none => match mop P o (look s.slots) (look s.blks) h with
     | some D => bif D.new.all (fun i => !memU s.used i) then
         match o.dst,D.dst with
         | some d,some lv=>bif Nat.blt d N then some (⟨(d,lv) :: s.slots,zru s D,D.new++s.used⟩,D.vcs) else none
         | none,_=>some (⟨s.slots,zru s D,D.new++s.used⟩,D.vcs)
         | _,_=>none
       else none
     | none=>none
 | some (j, want) => match zg4 ops (look s.slots) j want with
   | some g => match vopA P o (look s.slots) (look s.blks) h with
     | some (lv,p)=>bif okDst N o.dst then some (s.put o.dst (.whn g lv),p.map fun t=>g=true→t) else none
     | none => match mop P o (look s.slots) (look s.blks) h with
       | some D => match o.dst, D.dst with
         | some d, some lv => bif Nat.blt d N && D.new.all (fun i => !memU s.used i) && s.blks.all (fun x => !D.K x.1 && (D.ub x.1).isNone) then
             match frz (s.fs.upd D.K D.ub).blk lv with
             | some (x,is)=>bif is.all (fun i=>mem D.new i) then some (⟨(d,.whn g x) :: s.slots,s.blks,D.new++s.used⟩,D.vcs.map fun t=>g=true→t) else none
             | none=>none
           else none
         | _,_=>none
       | none=>none
   | none=>none

theorem zrl {d j:Nat} {l:List BC} (h:resB d l j≠none):j∈(List.range l.length).map (resId d):=by
 obtain ⟨c,hc⟩:=Option.ne_none_iff_exists'.1 h
 obtain ⟨k,rfl,hk⟩:=zks hc
 obtain ⟨hlt,_⟩:=List.getElem?_eq_some_iff.1 hk
 exact List.mem_map.2 ⟨k,List.mem_range.2 (by simpa using hlt),rfl⟩
theorem zi7 {i j:Nat} {c:BC} (h:oneB i c j≠none):j=i:=by
 unfold oneB at h
 by_cases e:j=i
 ·exact e
 ·simp [e] at h

theorem zer {c:Bool} {α:Type} {x:Option α} {y:α} (h:(bif c then x else none)=some y):c=true∧x=some y:=by
 cases c with
 | true=>exact ⟨rfl,h⟩
 | false=>cases h
theorem zmx {m n:Nat} (h:Nat.blt m n=true):m<n:=by
 have:=Nat.le_of_ble_eq_true h
 omega

theorem zwl {blk:Nat→Option BC} {v x:LV} {is:List Nat} (h:frz blk v=some (x,is)):∀ k∈is,∃ sz n row,blk k=some (.arr sz n row):=by
 unfold frz at h
 split at h
 ·split at h
  ·rename_i sz n row hb
   cases h
   intro k hk
   rw [List.mem_singleton.1 hk]
   exact ⟨sz,n,row,hb⟩
  ·cases h
 all_goals (cases h;try (intro k hk;cases hk))

theorem zt5 {blk : Nat → Option BC} {g : Nat} {xs : List LV} {p : List Prop} {dst : Bool} {d : Nat} {ids : List Nat} {rbl : List (Nat × BC)} {r : LV} {D : MD} (h : callM P blk g xs p dst d ids rbl r = some D) :
    (∀ i,D.ub i≠none→i∈D.new∨blk i≠none)∧∀ i,D.K i=true→blk i≠none:=by
 unfold callM at h
 split at h
 ·rename_i bl fn hbl hfn
  obtain ⟨hc,rfl⟩:=zbw h
  simp only [Bool.and_eq_true,Bool.not_eq_true'] at hc
  obtain ⟨_,_,_,hkeys⟩:=hc
  obtain ⟨_,b2⟩:=zro hbl
  have hl:∀ i∈ids,blk i≠none:=fun i hi=>by
   obtain ⟨c,h1,_⟩:=b2 _ _ (zlc hi)
   rw [h1];simp
  refine ⟨fun i hi=>?_,fun i hi=>hl i (killL_mem.1 hi)⟩
  obtain ⟨c,hc⟩:=Option.ne_none_iff_exists'.1 hi
  obtain ⟨i0,c0,h1,h2,_⟩:=zj9 (outM ids d) (fun x=>renB (outM ids d) x.2) hc
  have hm:=zdf h2
  cases h9:Nat.ble 900000 i0 with
  | true =>
   right
   have h3:=zmx (List.all_eq_true.1 hkeys _ hm)
   have h4:=Nat.le_of_ble_eq_true h9
   simp only at h3
   have h5:outM ids d i0=ids[i0 - 900000]' om:=by
    unfold outM
    rw [h9]
    simp only [cond_true,List.getD_eq_getElem?_getD,List.getElem?_eq_getElem (show i0 - 900000<ids.length by omega),Option.getD_some]
   rw [← h1,h5]
   exact hl _ (List.getElem_mem _)
  | false =>
   left
   have h4:i0<900000:=by
    rcases Nat.lt_or_ge i0 900000 with h | h
    ·exact h
    ·rw [Nat.ble_eq_true_of_le h] at h9;cases h9
   have h5:outM ids d i0=resId d i0:=by unfold outM;rw [h9];rfl
   rw [← h1,h5]
   simp only [newM,List.mem_map,List.mem_filter]
   exact ⟨(i0,c0),⟨hm,Nat.ble_eq_true_of_le h4⟩,rfl⟩
 ·cases h

theorem zv7 {o:Oper} {sl:Nat→Option LV} {blk:Nat→Option BC} {h:Hint} {D:MD} (hm:mop0 P o sl blk h=some D):∀ i,D.ub i≠none→i∈D.new∨blk i≠none:=by
 unfold mop0 at hm
 intro i hi
 repeat' split at hm
 all_goals first
   | (cases hm;done)
   | exact (zt5 hm).1 i hi
   | (obtain ⟨_,hm⟩:=zbw hm;subst hm;exact absurd rfl hi)
   | (simp only [Option.map_eq_some_iff] at hm;obtain ⟨cs,hcs,rfl⟩:=hm;left;have e:=zi7 hi;subst e;exact List.mem_singleton.2 rfl)
   | (obtain ⟨_,hm⟩:=zbw hm;subst hm;left;have e:=zi7 hi;subst e;exact List.mem_singleton.2 rfl)
   | (obtain ⟨_,hm⟩:=zbw hm;subst hm;right;have e:=zi7 hi;subst e;intro h0;simp_all;done)
   | (obtain ⟨_,hm⟩:=zbw hm;subst hm;left;exact zrl hi)
   | (obtain ⟨_,hm⟩:=zer hm;obtain ⟨_,hm⟩:=zbw hm;subst hm;left;have e:=zi7 hi;subst e;exact List.mem_singleton.2 rfl)
   | (obtain ⟨_,hm⟩:=zbw hm;cases hm;left;have e:=zi7 hi;subst e;exact List.mem_singleton.2 rfl)

theorem zv6 {o:Oper} {sl:Nat→Option LV} {blk:Nat→Option BC} {h:Hint} {D:MD} (hm:mopN P o sl blk h=some D):(∀ i,D.ub i≠none→i∈D.new∨blk i≠none)∧∀ i,D.K i=true→blk i≠none:=by
 unfold mopN at hm
 repeat' split at hm
 all_goals first
   | (cases hm;done)
   | skip
 all_goals
   obtain ⟨_,hm⟩:=zbw hm
   subst hm
   exact ⟨fun i hi=>by left;have e:=zi7 hi;subst e;exact List.mem_singleton.2 rfl,fun i hi=>by cases hi⟩
theorem zzp {o:Oper} {sl:Nat→Option LV} {blk:Nat→Option BC} {h:Hint} {D:MD} (hm:mop P o sl blk h=some D):∀ i,D.ub i≠none→i∈D.new∨blk i≠none:=by
 rcases zit hm with hm | ⟨wk,id,n,row,D0,hi0,e,h0,h1⟩ | hm
 ·exact zv7 hm
 rotate_left
 ·exact (zv6 hm).1
 ·obtain ⟨_,_,_,_,rfl⟩:=zng h1
  intro i hi
  exact zv7 h0 i (z3a za5 hi)
theorem zep {α : Type} (f : Nat → Option α) : ∀ (l : List Nat) (j : Nat) (c : α), look (l.filterMap fun i => (f i).map fun c => (i, c)) j = some c → f j = some c
  | [],j,c,h=>by simp [look] at h
  | i :: l,j,c,h=>by
    cases hf:f i with
    | none=>simp only [List.filterMap_cons,hf,Option.map_none] at h;exact zep f l j c h
    | some x =>
      simp only [List.filterMap_cons,hf,Option.map_some,zc0] at h
      by_cases e:j=i
      · subst e;simp only [if_true] at h;rw [hf];exact h
      · simp only [e,if_false] at h;exact zep f l j c h

theorem mem_append {l r:List Nat} {i:Nat}:mem (l++r) i=(mem l i||mem r i):=by simp [mem]
theorem zj7 {l r:List Nat} {i:Nat}:memU (l++r) i=(mem l i||memU r i):=by simp [memU,mem_append,Bool.or_assoc]
theorem zl4 (s:St) (D:MD):∀ i c,look (zru s D) i=some c→(s.fs.upd D.K D.ub).blk i=some c:=fun i c h=>zep _ _ i c h

theorem zue {s:St} {o:Oper} {h:Hint} {D:MD} (hm:mop P o (look s.slots) (look s.blks) h=some D) (hs:Sat N w0 X0 s.fs E a w):∀ i,(s.fs.upd D.K D.ub).used i=true→memU (D.new++s.used) i=true:=by
 intro i hi
 simp only [FS.upd,Bool.or_eq_true,Option.isSome_iff_ne_none] at hi
 rw [zj7,Bool.or_eq_true]
 rcases hi with hi | hi
 ·rcases zzp hm i hi with h1 | h1
  ·exact .inl (mem_iff.2 h1)
  ·exact .inr (hs.live i h1)
 ·exact .inr hi

theorem zhm {ops : List Oper} {s : St} {o : Oper} {j : Nat} {want g : Bool} (hg : o.guard = some (j, want)) (h : zg4 ops (look s.slots) j want = some g) (hs : Sat N w0 X0 s.fs E a w) :
    Region.wanted o (yielded ops.toArray a.tmps)=g:=by
 unfold zg4 at h
 split at h
 ·rename_i o' ho
  split at h
  ·rename_i t ht
   have hget:∀ v,a.tmps.getD t undef=v→v≠undef→a.tmps[t]?=some v:=by
    intro v hv hne
    rw [Array.getD_eq_getD_getElem?] at hv
    cases h1:a.tmps[t]? with
    | none=>rw [h1] at hv;exact absurd hv.symm hne
    | some u=>rw [h1] at hv;simp at hv;rw [hv]
   have hyt:∀ b,a.tmps.getD t undef=.bool b→yielded ops.toArray a.tmps j=some b:=by
    intro b hb
    have:=hget _ hb (by simp [undef])
    simp [yielded,ho,ht,this]
   have hyf:a.tmps.getD t undef=undef→yielded ops.toArray a.tmps j=none:=by
    intro hb
    rw [Array.getD_eq_getD_getElem?] at hb
    cases h1:a.tmps[t]? with
    | none=>simp [yielded,ho,ht,h1]
    | some u =>
     rw [h1] at hb
     simp at hb
     simp [yielded,ho,ht,h1,hb,undef]
   split at h
   ·rename_i b hb
    cases h
    have:=(hs.slots t _ hb).bool_inv
    rw [Region.wanted,hg]
    simp only [hyt b this]
    cases b<;>cases want<;>rfl
   ·rename_i c b hb
    cases h
    have hr:=hs.slots t _ hb
    rw [Region.wanted,hg]
    cases c with
    | true =>
     have hb':a.tmps.getD t undef=.bool b:=by
      cases hr with
      | c _ _ h=>cases h
      | whn _ _ _ h1 _=>exact (h1 rfl).bool_inv
     simp only [hyt b hb']
     cases b<;>cases want<;>rfl
    | false =>
     have hb':a.tmps.getD t undef=undef:=by
      cases hr with
      | c _ _ h=>cases h
      | whn _ _ _ _ h2=>exact h2 rfl
     simp only [hyf hb']
     rfl
   ·cases h
  ·cases h
 ·cases h

theorem St.put_fs (s:St) (d:Nat) (lv:LV):(s.put (some d) lv).fs=s.fs.put d lv:=by
 simp only [St.fs,St.put,FS.put,zc0]

theorem zf3 {d:Nat} (h:okDst N (some d)=true):d<N:=zmx h

theorem zs3 {ops : List Oper} {s s' : St} {o : Oper} {h : Hint} {vcs : List Prop} (ho : op1 P N ops s o h = some (s', vcs)) (ha : All vcs) (hs : H N w0 X0 s a w)
    (K:Act→World→Prop) (Q:Exit→Act→World→Prop) (hk:∀ a' w',H N w0 X0 s' a' w'→K a' w') :
    if Region.wanted o (yielded ops.toArray a.tmps) then o.wp P a w K Q else K (a.put o.dst undef) w:=by
 obtain ⟨E,hs⟩:=hs
 unfold op1 at ho
 split at ho
 ·rename_i hg
  have hw:Region.wanted o (yielded ops.toArray a.tmps)=true:=by rw [Region.wanted,hg]
  rw [if_pos hw]
  split at ho
  ·rename_i lv p hv
   obtain ⟨hd,ho⟩:=zbw ho
   cases ho
   obtain ⟨v,h1,h2,h3⟩:=zi3 hs hv ha
   refine zd3 h1 (hk _ _ ⟨E,?_⟩)
   cases hdst:o.dst with
   | none=>exact hs
   | some d =>
    rw [hdst] at hd
    rw [St.put_fs]
    exact hs.put (zf3 hd) h2 h3
  ·split at ho
   ·rename_i D hm
    obtain ⟨hnew,ho⟩:=zer ho
    have hnew':∀ i∈D.new,s.fs.used i=false:=fun i hi=>by
     have:=List.all_eq_true.1 hnew i hi
     simpa [St.fs] using this
    split at ho
    ·rename_i d lv hd hlv
     obtain ⟨hlt,ho⟩:=zbw ho
     cases ho
     refine zis hs hm ha hnew' _ _ fun v w' E' g1 _ g3=>?_
     obtain ⟨k1,k2⟩:=g3 lv hlv
     refine hk _ _ ⟨E',?_⟩
     rw [hd]
     refine (g1.put (zmx hlt) k1 k2).weaken _ (fun t x hx=>?_) (zl4 s D) (zue hm hs)
     simp only [St.fs,zc0] at hx
     exact hx
    ·rename_i hd
     cases ho
     refine zis hs hm ha hnew' _ _ fun v w' E' g1 _ g3=>?_
     refine hk _ _ ⟨E',?_⟩
     rw [hd]
     exact g1.weaken _ (fun t x hx=>hx) (zl4 s D) (zue hm hs)
    ·cases ho
   ·cases ho
 ·rename_i j want hg
  split at ho
  ·rename_i g hgb
   have hw:=zhm hg hgb hs
   rw [hw]
   split at ho
   ·rename_i lv p hv
    obtain ⟨hd,ho⟩:=zbw ho
    cases ho
    cases g with
    | true =>
     obtain ⟨v,h1,h2,h3⟩:=zi3 hs hv (All.map_imp ha rfl)
     simp only [if_true]
     refine zd3 h1 (hk _ _ ⟨E,?_⟩)
     cases hdst:o.dst with
     | none=>exact hs
     | some d =>
      rw [hdst] at hd
      rw [St.put_fs]
      exact hs.put (zf3 hd) (.whn true lv v (fun _=>h2) fun h=>by cases h) fun id hm=>by cases hm with | whn _ _ _ _ hm=>exact h3 id hm
    | false =>
     simp only [Bool.false_eq_true,if_false]
     refine hk _ _ ⟨E,?_⟩
     cases hdst:o.dst with
     | none=>exact hs
     | some d =>
      rw [hdst] at hd
      rw [St.put_fs]
      exact hs.put (zf3 hd) (.whn false lv undef (fun h=>by cases h) fun _=>rfl) fun id hm=>by cases hm with | whn _ _ _ hb _=>cases hb
   ·split at ho
    ·rename_i D hm
     split at ho
     ·rename_i d lv hd hlv
      obtain ⟨hc,ho⟩:=zer ho
      simp only [Bool.and_eq_true] at hc
      obtain ⟨⟨hlt,hnew⟩,hkeep⟩:=hc
      have hnew':∀ i∈D.new,s.fs.used i=false:=fun i hi=>by
       have:=List.all_eq_true.1 hnew i hi
       simpa [St.fs] using this
      split at ho
      ·rename_i x is hfz
       obtain ⟨his,ho⟩:=zbw ho
       cases ho
       have hbk:∀ i c,look s.blks i=some c→(s.fs.upd D.K D.ub).blk i=some c:=by
        intro i c hi
        have hmem:∃ y∈s.blks,y.1=i:=by
         clear hkeep
         revert hi
         generalize s.blks=l
         intro hi
         induction l with
         | nil=>simp [look] at hi
         | cons y l ih =>
          by_cases e:y.1=i
          ·exact ⟨y,by simp,e⟩
          ·obtain ⟨z,hz,e'⟩:=ih (by rw [show (y :: l)=(y.1,y.2) :: l from rfl,zc0] at hi;simpa [Ne.symm e] using hi)
           exact ⟨z,by simp [hz],e'⟩
        obtain ⟨y,hy,e⟩:=hmem
        have:=List.all_eq_true.1 hkeep y hy
        rw [e] at this
        simp only [Bool.and_eq_true,Bool.not_eq_true',Option.isNone_iff_eq_none] at this
        simp only [FS.upd,this.2,this.1]
        exact hi
       cases g with
       | true =>
        simp only [if_true]
        refine zis hs hm (All.map_imp ha rfl) hnew' _ _ fun v w' E' g1 _ g3=>?_
        obtain ⟨k1,k2⟩:=g3 lv hlv
        refine hk _ _ ⟨E',?_⟩
        rw [hd]
        have hsub:∀ b,Own s.fs E' X0 b→Own (s.fs.upd D.K D.ub) E' X0 b:=Own.sub hbk
        have hx:RepC w' w0.heap.size (Own s.fs E' X0) x v:=by
         refine zr4 g1 hsub hfz (fun k hk b hb hown=>?_) k1
         have hkn:=mem_iff.1 (List.all_eq_true.1 his k hk)
         obtain ⟨sz,n,row,hkl⟩:=zwl hfz k hk
         rcases hown with h0 | ⟨i,hi⟩
         ·exact g1.xne h0 (by rw [hkl];simp) hb
         ·have:=g1.injA i k b (hi.sub hbk) (.inl ⟨by rw [hkl];simp,hb⟩)
          subst this
          have h4:=hnew' i hkn
          rw [hs.live i hi.ne] at h4
          cases h4
        have hq:=(g1.weaken (σ':=⟨look s.slots,look s.blks,memU (D.new++s.used)⟩) (fun t y hy=>hy) hbk (zue hm hs))
        have:=hq.put (zmx hlt) (lv:=.whn true x) (v:=v) (.whn true x v (fun _=>.c _ _ hx) fun h=>by cases h) fun id hmm=>by
         cases hmm with | whn _ _ _ _ hmm=>exact absurd hmm (hx.noMent id)
        refine this.weaken _ (fun t y hy=>?_) (fun i c hi=>hi) (fun i hi=>hi)
        simp only [St.fs,zc0] at hy
        exact hy
       | false =>
        simp only [Bool.false_eq_true,if_false]
        refine hk _ _ ⟨E,?_⟩
        rw [hd]
        have:=hs.put (zmx hlt) (lv:=.whn false x) (v:=undef) (.whn false x undef (fun h=>by cases h) fun _=>rfl) fun id hm=>by cases hm with | whn _ _ _ hb _=>cases hb
        refine this.weaken _ (fun t y hy=>?_) (fun i c hi=>hi) (fun i hi=>?_)
        ·simp only [St.fs,zc0] at hy
         exact hy
        ·show memU (D.new++s.used) i=true
         rw [zj7,Bool.or_eq_true];exact .inr hi
      ·cases ho
     ·cases ho
    ·cases ho
  ·cases ho

def op1G (P:Program) (N:Nat) (ops:List Oper) (s:St) (o:Oper) (h:Hint):Option (St×List Prop) :=
 match o.guard,h with
 | some (j, want), .gT h' => match zg4 ops (look s.slots) j want, op1 P N ops s { o with guard := none } h' with
   | some g,some (s',vcs)=>some (s',(g=true) :: vcs)
   | _,_=>none
 | some (j, want), .gF => match zg4 ops (look s.slots) j want with
   | some g=>bif okDst N o.dst then some (s.put o.dst (.whn false (.bool true)),[g=false]) else none
   | none=>none
 | _,_=>op1 P N ops s o h
theorem zxt {ops : List Oper} {s s' : St} {o : Oper} {h : Hint} {vcs : List Prop} (ho : op1G P N ops s o h = some (s', vcs)) (ha : All vcs) (hs : H N w0 X0 s a w)
    (K:Act→World→Prop) (Q:Exit→Act→World→Prop) (hk:∀ a' w',H N w0 X0 s' a' w'→K a' w') :
    if Region.wanted o (yielded ops.toArray a.tmps) then o.wp P a w K Q else K (a.put o.dst undef) w:=by
 unfold op1G at ho
 split at ho
 ·rename_i j want h' hg
  split at ho
  ·rename_i g s1 v1 h1 h2
   cases ho
   obtain ⟨ha1,ha2⟩:=ha
   obtain ⟨E,hs'⟩:=id hs
   have hw:=zhm hg h1 hs'
   rw [hw,ha1]
   simp only [if_true]
   have:=zs3 h2 ha2 hs K Q hk
   rw [if_pos za8] at this
   exact this
  ·cases ho
 ·rename_i j want hg
  split at ho
  ·rename_i g h1
   obtain ⟨hd,ho⟩:=zbw ho
   cases ho
   obtain ⟨ha1,_⟩:=ha
   obtain ⟨E,hs⟩:=hs
   have hw:=zhm hg h1 hs
   rw [hw,ha1]
   simp only [Bool.false_eq_true,if_false]
   refine hk _ _ ⟨E,?_⟩
   cases hdst:o.dst with
   | none=>exact hs
   | some d =>
    rw [hdst] at hd
    rw [St.put_fs]
    exact hs.put (zf3 hd) (.whn false (.bool true) undef (fun h=>by cases h) fun _=>rfl) fun id hm=>by cases hm with | whn _ _ _ hb _=>cases hb
  ·cases ho
 ·exact zs3 ho ha hs K Q hk

def zsx (P : Program) (N : Nat) (ops : List Oper) (hints : List (Nat × Hint)) : List Oper → Nat → St → Option (St × List Prop)
  | [],_,s=>some (s,[])
  | o :: r, i, s => match op1G P N ops s o ((look hints i).getD .no) with
    | some (s1, p) => match zsx P N ops hints r (i + 1) s1 with
      | some (s2,q)=>some (s2,p++q)
      | none=>none
    | none=>none

theorem zmk {ops : List Oper} {hints : List (Nat × Hint)} {Q : Exit → Act → World → Prop} : ∀ {l : List Oper} {i : Nat} {s s' : St} {vcs : List Prop} {a : Act} {w : World}, zsx P N ops hints l i s = some (s', vcs) → All vcs →
    H N w0 X0 s a w→(∀ a' w',H N w0 X0 s' a' w'→Q .normal a' w')→wpList P ops.toArray Q l a w
 | [],i,s,s',vcs,a,w,hr,ha,hs,hq=>by cases hr;exact hq a w hs
 | o :: l,i,s,s',vcs,a,w,hr,ha,hs,hq=>by
  simp only [zsx] at hr
  split at hr
  ·rename_i s1 p h1
   split at hr
   ·rename_i s2 q h2
    cases hr
    obtain ⟨hp,hq'⟩:=All.append.1 ha
    exact wpList_step fun K hK=>zxt h1 hp hs K Q fun a' w' hs'=>hK a' w' (zmk h2 hq' hs' hq)
   ·cases hr
  ·cases hr

end
end Go.Lite
