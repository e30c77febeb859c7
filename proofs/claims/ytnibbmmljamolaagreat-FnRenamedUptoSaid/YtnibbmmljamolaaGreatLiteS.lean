/- Rows that are exchanged, and the functions of package reflectlite that the model stands in for, at slices. Conditions: none; over any program. -/
import Derived.Test.YtnibbmmljamolaaGreatLiteZ
import Derived.Laws.Externs
import GoSem.Extern.ReflectliteSwapper
set_option linter.unusedVariables false
set_option linter.unusedSimpArgs false
namespace Go.Lite
open Go Go.RowKit

section
variable {P:Program} {w:World} {B:Nat} {X:Nat→Prop} {E:Env}
theorem zw0{id sz n b : Nat}{row : Nat → List LV}(h : BlkOk w B X E id (.arr sz n row))(hb : (E id).b = some b)(hX : X b){T : TypeId}(hz : szOf P T = some sz){i : Nat}(hi : i < n){y : Value}{xs : List LV}(hxs : xs.length = sz)(h1 : ∀x ∈ xs, isOne x = true)(hy : y.cells.size = sz)(hr : ∀(j : Nat) lv u, xs[j]? = some lv → y.cells[j]? = some u → RepC w B X lv u) : ∃news : Array Value, (storeVar T ⟨b, (E id).off + i * sz, none⟩ y).run P w = .ok () (w.setRow b news) ∧ BlkOk (w.setRow b news) B X E id (.arr sz n fun k => bif Nat.beq k i then xs else row k) := by
 obtain⟨hnn,hkk⟩:=h;rcases hkk with⟨k1,_⟩ | ⟨b',cap,us,T',k1,k2,k3,k4,k5,k6,k7,k8⟩
 ·grind
 rw[hb] at k1;cases k1;have hcells:∀u∈y.cells.toList,u.oneCell'=true:=fun u hu=>by obtain⟨j,hj,e⟩:=oZ hu;have hj':j<xs.length:=vdi;have hju:y.cells[j]?=some u:=vdi;exact zlw (hr j xs[j] u (ol hj') hju) (h1 _ (List.getElem_mem hj'))
 have hlen:y.cells.toList.length=sz:=by simp[hy]
 have hibd:(E id).off+i * sz+sz≤us.size:=vbH
 have hfit:(E id).off+i * sz+0+y.cells.toList.length≤us.size:=by simp_all
 have hst:=run_storeCells_at P b ((E id).off+i * sz) T' y.cells.toList 0 us w k4 hfit hcells;have hgetv:∀j:Nat,(us.toList.take ((E id).off+i * sz+0)++y.cells.toList++us.toList.drop ((E id).off+i * sz+0+y.cells.toList.length)).toArray[j]?=if(E id).off+i * sz≤j∧j<(E id).off+i * sz+sz then y.cells[j - ((E id).off+i * sz)]? else us[j]?:=fun j=>by simp only[List.getElem?_toArray,Nat.add_zero];rw[zgb _ _ _ _ vcM,hlen];split<;>simp
 have hszn:(us.toList.take ((E id).off+i * sz+0)++y.cells.toList++us.toList.drop ((E id).off+i * sz+0+y.cells.toList.length)).toArray.size=us.size:=vcM
 refine⟨_,by simp only[storeVar,oF,zcj hz,oA,hy,ne_eq,not_true_eq_false,if_false];exact hst,?_⟩;generalize(us.toList.take ((E id).off+i * sz+0)++y.cells.toList++us.toList.drop ((E id).off+i * sz+0+y.cells.toList.length)).toArray=news at hgetv hszn;have hkeep:∀b',b'<w.heap.size→¬X b'→(w.setRow b news).heap[b']?=w.heap[b']?:=fun b' _ hno=>setRow_other w b b' news (fun e=>hno (by rw[e];exact hX));refine⟨hnn,.inr ⟨b,cap,news,T',hb,k2,k3,setRow_heap w b us news T' (0,0) k4,k5,k6,by rw[hszn];exact k7,fun k hk=>?_⟩⟩;obtain⟨hl1,hl3,hl2⟩:=k8 k hk;show((bif Nat.beq k i then xs else row k).length=sz)∧(∀lv∈(bif Nat.beq k i then xs else row k),isOne lv=true)∧∀(j:Nat) lv v,(bif Nat.beq k i then xs else row k)[j]?=some lv→news[(E id).off+k * sz+j]?=some v→RepC (w.setRow b news) B X lv v;by_cases e:k=i
 ·subst e;have hbq : Nat.beq k k = true := vdj
  rw[hbq,oE];refine⟨hxs,h1,fun j lv u hj hu=>?_⟩;have hjs:j<sz:=by rw[←hxs];exact(oG.1 hj).1
  rw[hgetv,if_pos vdh,show(E id).off+k * sz+j - ((E id).off+k * sz)=j by omega] at hu;exact(hr j lv u hj hu).keep vdj hkeep (fun b' hb'=>.inl hb') (oz _)
 have hbq : Nat.beq k i = false := by
  cases h:Nat.beq k i with
  |false =>rfl
  |true =>exact absurd (oo h) e
 rw[hbq,oD];refine⟨hl1,hl3,fun j lv u hj hu=>?_⟩;have hjs:j<sz:=vcw
 have hfar : ¬((E id).off + i * sz ≤ (E id).off + k * sz + j ∧ (E id).off + k * sz + j < (E id).off + i * sz + sz) := by
  rcases Nat.lt_or_gt_of_ne e with h | h
  ·have h1 : k * sz + sz ≤ i * sz := (by rw [← Nat.succ_mul]; exact oW sz h);omega
  have h1:i * sz+sz≤k * sz:=by rw[←Nat.succ_mul];exact oW sz h
  omega
 rw[hgetv,if_neg hfar] at hu;exact(hl2 j lv u hj hu).keep vdj hkeep (fun b' hb'=>.inl hb') (oz _)
theorem z0q{id sz n b : Nat}{row : Nat → List LV}(h : BlkOk w B X E id (.arr sz n row))(hb : (E id).b = some b){T : TypeId}{ag : Bool}(ha : aggOf P T = some ag)(hz : szOf P T = some sz)(hag : ag = false → sz = 1){i : Nat}(hi : i < n) : ∃y, (loadVar T ⟨b, (E id).off + i * sz, none⟩).run P w = .ok y w ∧ (row i).length = sz ∧ (∀x ∈ row i, isOne x = true) ∧ y.cells.size = sz ∧ ∀(j : Nat) lv u, (row i)[j]? = some lv → y.cells[j]? = some u → RepC w B X lv u := by
 obtain⟨hnn,hkk⟩:=h;rcases hkk with⟨k1,_⟩ | ⟨b',cap,us,T',k1,k2,k3,k4,k5,k6,k7,k8⟩
 ·grind
 rw[hb] at k1;cases k1;obtain⟨hl1,hl3,hl2⟩:=k8 i hi;have hibd:(E id).off+i * sz+sz≤us.size:=vbH
 have hc:∀j,j<sz→w.cell? ((⟨b,(E id).off+i * sz,none⟩:Addr).add j)=some (us.getD ((E id).off+i * sz+j) undef):=fun j hj=>by rw[zbv];simp[World.cell?,k4,show(E id).off+i * sz+j<us.size by omega]
 have hg:∀j,j<sz→us[(E id).off+i * sz+j]?=some (us.getD ((E id).off+i * sz+j) undef):=fun j hj=>by simp[show(E id).off+i * sz+j<us.size by omega]
 cases ag with
 |true =>
  refine⟨.agg ((List.range sz).map fun j=>us.getD ((E id).off+i * sz+j) undef).toArray,?_,hl1,hl3,by simp[Value.cells],fun j lv u hj hu=>?_⟩
  ·simp only [loadVar, oF, zev ha, oA, if_true, zcj hz, oL];rw [run_loadCells w _ sz (fun j => us.getD ((E id).off + i * sz + j) undef) hc];rfl
  have hjs:j<sz:=vcw
  have hu':u=us.getD ((E id).off+i * sz+j) undef:=by simpa[Value.cells,hjs] using hu.symm
  exact hl2 j lv u hj (by rw[hu'];exact hg j hjs)
 |false =>
  have e1:=hag rfl;subst e1;have hlt:0<(row i).length:=vdh
  have hr0:=hl2 0 ((row i)[0]) (us.getD ((E id).off+i * 1+0) undef) (ol hlt) (hg 0 vdh);have hone:=(zn9 (E:=⟨fun _=>⟨none,0,none,0,0,0⟩,fun _ _=>False⟩) (hl3 _ (List.getElem_mem hlt)) (.c _ _ hr0)).2;refine⟨us.getD ((E id).off+i * 1+0) undef,?_,hl1,hl3,by rw[hone];rfl,fun j lv u hj hu=>?_⟩
  ·have := hc 0 vdh;rw [show (⟨b, (E id).off + i * 1, none⟩ : Addr).add 0 = ⟨b, (E id).off + i * 1, none⟩ by rw [zbv]; rfl] at this;simp only [loadVar, oF, zev ha, oA, oV, if_false, run_load, this]
  have hj0:j=0:=by have:=(oG.1 hj).1;omega
  grind
end

def gi{α:Type}[Inhabited α](l:List α)(i:Int):α:=l.getD i.toNat default
def swp{α:Type}[Inhabited α](l:List α)(i j:Int):List α:=(l.set i.toNat (gi l j)).set j.toNat (gi l i)
theorem za4{α:Type}[Inhabited α](l:List α)(i j:Int):(swp l i j).length=l.length:=by simp[swp]
theorem z4x{α:Type}[Inhabited α](c:α→List LV)(l:List α){i j:Nat}(hi:i<l.length)(hj:j<l.length)(k:Nat):rowOf c (swp l i j) k=bif Nat.beq k j then rowOf c l i else bif Nat.beq k i then rowOf c l j else rowOf c l k:=by unfold swp;simp only[Int.toNat_natCast];rw[zhw c _ j _ vcZ,zhw c _ i _ hi];rfl
theorem z42(b : Bool)(i j : Int)(a : Addr)(n c : Nat)(h : Value) : Go.Extern.ReflectliteSwapper.swap b #[.int .i64 i, .int .i64 j, .slice (some a) n c, h] = (do
    if b then
      if i<0||i ≥ n then boundsPanic .i64 i n .index
      if j<0||j ≥ n then boundsPanic .i64 j n .index
    else if i<0||i ≥ n||j<0||j ≥ n then Go.Extern.ReflectliteSwapper.outOfRange
    Go.Extern.ReflectliteSwapper.exchange (←Go.Extern.Rtype.ofHandle h) a i.toNat j.toNat):=rfl
theorem zdw(c:BC):preB [c] 900000=some c:=by unfold preB;rw[o3 (oz _),Nat.sub_self];rfl
theorem znl(c:BC):look [(900000,c)] 900000=some c:=by unfold look;rw[Nat.beq_refl];rfl
theorem zoy(c : BC){k : Nat}(h : ¬k = 900000) : look [(900000, c)] k = none := by
 unfold look
 rw [show Nat.beq (900000, c).1 k = false from by
   cases hb:Nat.beq (900000,c).1 k with
   |false=>rfl
   |true=>exact absurd (oo hb).symm h]
 rfl
theorem from9{k:Nat}(hb:Nat.ble 900000 k=true):∃d,k=900000+d:=by obtain⟨d,e⟩:=Nat.exists_eq_add_of_le (oU hb);exact⟨d,e⟩
theorem z46(c:BC){k:Nat}(hz:([c]:List BC)[k - 900000]?=none):preB [c] k=none:=by unfold preB;rw[hz];cases Nat.ble 900000 k<;>rfl
theorem ge_no(c:BC){k:Nat}(h:¬k=900000)(hb:Nat.ble 900000 k=true):([c]:List BC)[k - 900000]?=none:=by obtain⟨d,e⟩:=from9 hb;grind
theorem zrz(c : BC){k : Nat}(h : ¬k = 900000) : preB [c] k = none := by
 cases hb:Nat.ble 900000 k with
 |false =>unfold preB;rw[hb];rfl
 |true =>exact z46 c (ge_no c h hb)
theorem zgg{f : Nat → Option BC}{E : Env}{sz n : Nat}{row : Nat → List LV}(h1 : f 900000 = some (.arr sz n row))(h2 : ∀k, ¬k = 900000 → f k = none){k b : Nat} : OwnAt f E k b ↔ k = 900000 ∧ (E 900000).b = some b := by
 constructor
 ·intro h;have e : k = 900000 := Classical.byContradiction fun e => h.ne (h2 k e);subst e;rcases h with h | h
  ·grind
  rw[h1] at h;exact h.1.elim
 rintro⟨rfl,h⟩;exact .inl ⟨by rw[h1];simp,h⟩
section
variable {P:Program} {α:Type} [Inhabited α]
theorem FnX.swap {f : FuncId} {fn : Func} {b ag : Bool} {T : TypeId} {sz : Nat} {c : α → List LV} {l : List α} {i j : Int} (hf : P.funcs[f]? = some fn) (hname : (fn.name == "runtime.NumGoroutine") = false) (hb : fn.body.isNone = true) (hn : Extern.findNext fn = none)
    (he:Extern.find fn=some (Go.Extern.ReflectliteSwapper.swap b)) (hh:handleType P (typeHandle P T)=some T) (ha:aggOf P T=some ag) (hz:szOf P T=some sz) (hag:ag=false→sz=1) (hi:0≤i∧i<l.length) (hj:0≤j∧j<l.length) :
    FnX P f [.int .i64 i,.int .i64 j,.own 900000,.k P.globals.size T] [.arr sz l.length (rowOf c l)] (.tup []) [(900000,.arr sz (swp l i j).length (rowOf c (swp l i j)))]:=by
  intro w0 w xo vals E hgh hl hbel hxo hxg hargs hblk
  obtain⟨v0, v1, v2, v3, rfl⟩ : ∃v0 v1 v2 v3, vals = [v0, v1, v2, v3] := by
    match vals,hl with
    |[v0,v1,v2,v3],_=>exact⟨v0,v1,v2,v3,rfl⟩
  have e0:=(hargs 0 _ v0 rfl rfl).1.int_inv
  have e1:=(hargs 1 _ v1 rfl rfl).1.int_inv
  have e2:=(hargs 2 _ v2 rfl rfl).1.own_inv
  have e3:=(hargs 3 _ v3 rfl rfl).1.k_inv
  subst e0;subst e1;subst e3
  have hB:=hblk.ok 900000 _ (zdw _)
  have hB2:=hB
  obtain⟨hnn,hkk⟩:=hB2
  rcases hkk with⟨_,_,k3⟩ | ⟨bl,cap,us,T',k1,k2,k3,k4,k5,k6,k7,k8⟩
  · omega
  have hX:OwnB xo (preB [.arr sz l.length (rowOf c l)]) E bl:=.inr ⟨900000,(zgg (zdw _) (fun k h=>zrz _ h)).2 ⟨rfl,k1⟩⟩
  obtain⟨i',rfl⟩:∃i':Nat,i=i':=⟨i.toNat,vdh⟩
  obtain⟨j',rfl⟩:∃j':Nat,j=j':=⟨j.toNat,vdh⟩
  have hi':i'<l.length:=vdh
  have hj':j'<l.length:=vdh
  obtain⟨x,x1,x2,x3,x4,x5⟩:=z0q hB k1 ha hz hag hi'
  obtain⟨y,y1,y2,y3,y4,y5⟩:=z0q hB k1 ha hz hag hj'
  obtain⟨n1,s1,hB1⟩:=zw0 hB k1 hX hz hi' y2 y3 y4 y5
  have hkeep1:∀b',b'<w.heap.size→¬OwnB xo (preB [.arr sz l.length (rowOf c l)]) E b'→(w.setRow bl n1).heap[b']?=w.heap[b']?:=fun b' _ hno=>setRow_other w bl b' n1 (fun e=>hno (by rw[e];exact hX))
  obtain⟨n2,s2,hB2⟩:=zw0 hB1 k1 hX hz hj' x2 x3 x4 (fun k lv u h1 h2=>(x5 k lv u h1 h2).keep vdj hkeep1 (fun b' hb'=>.inl hb') (oz _))
  have hsw : ((fun k => bif Nat.beq k j' then rowOf c l i' else(fun k => bif Nat.beq k i' then rowOf c l j' else rowOf c l k) k) : Nat → List LV) = rowOf c (swp l (i' : Int) (j' : Int)) := by
    funext k;rw[z4x c l hi' hj']
  rw[hsw] at hB2
  have hown : ∀b', OwnB xo (look [(900000, BC.arr sz (swp l (i' : Int) (j' : Int)).length (rowOf c (swp l (i' : Int) (j' : Int))))]) E b' ↔ OwnB xo (preB [.arr sz l.length (rowOf c l)]) E b' := fun b' => by
    refine or_congr Iff.rfl (exists_congr fun k=>?_)
    rw[zgg (znl _) (fun k h=>zoy _ h),zgg (zdw _) (fun k h=>zrz _ h)]
  refine⟨.tuple #[],(w.setRow bl n1).setRow bl n2,?_,.tuple #[],E,rfl,zen (zen hbel k3) k3,vdj,fun b' _ hno=>?_,fun k hk hl=>⟨rfl,?_⟩,fun k b' hl=>.inr ⟨k,?_⟩,⟨.c _ _ (.tup [] #[] rfl fun k lv v h=>vdb),fun id hm=>by cases hm with | tup _ _ _ h=>cases h⟩,?_⟩
  · rw [run_callFunc_extern hf hname hb hn he,e2,k2]
    have h1:((i':Int)<0||(i':Int) ≥ (l.length:Int))=false:=vdi
    have h2:((j':Int)<0||(j':Int) ≥ (l.length:Int))=false:=vc8
    have h3:((i':Int)<0||(i':Int) ≥ (l.length:Int)||(j':Int)<0||(j':Int) ≥ (l.length:Int))=false:=vc8
    have hrun : (Go.Extern.ReflectliteSwapper.exchange T ⟨bl, (E 900000).off, none⟩ i' j').run P w = .ok (.tuple #[]) ((w.setRow bl n1).setRow bl n2) := by
      simp only[Go.Extern.ReflectliteSwapper.exchange,oF,zcj hz,oA,zbv,x1,y1,s1,s2,oL]
    show Result.andThen ((Go.Extern.ReflectliteSwapper.swap b #[.int .i64 (i':Int),.int .i64 (j':Int),.slice (some ⟨bl,(E 900000).off,none⟩) l.length cap,typeHandle P T]).run P w) _=_
    rw[z42]
    have ho:(Go.Extern.Rtype.ofHandle (typeHandle P T)).run P w=.ok T w:=by simp[Go.Extern.Rtype.ofHandle,hh,Result.andThen]
    cases b with
    |true =>
      simp only[if_true,h1,h2,oV,if_false,oF,oL,oA,ho,Int.toNat_natCast,hrun]
    |false =>
      simp only[oV,if_false,h3,oF,oL,oA,ho,Int.toNat_natCast,hrun]
  · have:b'≠bl:=fun e=>hno 900000 ((zgg (zdw _) (fun k h=>zrz _ h)).2 ⟨rfl,by rw [e];exact k1⟩)
    rw[setRow_other _ _ _ _ this,setRow_other _ _ _ _ this]
  · by_cases e:k=900000
    · rw [e,zdw];simp
    · exact absurd (zoy _ e) hl
  · rw [zgg (znl _) (fun k h=>zoy _ h)] at hl
    rw[zgg (zdw _) (fun k h=>zrz _ h)]
    exact hl
  · have hX3:OwnB xo (look [(900000,BC.arr sz (swp l (i':Int) (j':Int)).length (rowOf c (swp l (i':Int) (j':Int))))]) E=OwnB xo (preB [.arr sz l.length (rowOf c l)]) E:=funext fun b'=>propext (hown b')
    have only : ∀k c', look [(900000, BC.arr sz (swp l (i' : Int) (j' : Int)).length (rowOf c (swp l (i' : Int) (j' : Int))))] k = some c' → k = 900000 ∧ c' = BC.arr sz (swp l (i' : Int) (j' : Int)).length (rowOf c (swp l (i' : Int) (j' : Int))) := fun k c' h => by
      by_cases e:k=900000
      · rw [e,znl] at h;cases h;exact ⟨e,rfl⟩
      · rw [zoy _ e] at h;cases h
    refine⟨fun k c' hk=>?_,fun k m b' h1 h2=>?_,fun k cells lv id h _ _=>?_,fun k wd cl sz n rows h=>?_⟩
    · obtain ⟨rfl,rfl⟩:=only k c' hk
      rw[hX3,za4]
      exact hB2
    · rw [zgg (znl _) (fun k h=>zoy _ h)] at h1 h2
      rw[h1.1,h2.1]
    · have:=(only k _ h).2;cases this
    · have:=(only k _ h).2;cases this
end

section
open Go.Extern Go.Extern.Rtype
variable {P:Program} {t e:TypeId} {ti:TypeInfo}
theorem z34(hi:P.info? t=some ti)(w:World):(typeInfo t).run P w=.ok ti w:=by simp[typeInfo,hi,Result.andThen]
theorem zu1(hi:P.info? t=some ti)(hd:ti.desc=.slice e)(w:World):(under t).run P w=.ok (t,ti) w:=by simp[under,z34 hi,hd,Result.andThen]
theorem s_kind(hi:P.info? t=some ti)(hd:ti.desc=.slice e)(w:World):(kind t).run P w=.ok 23 w:=by simp[kind,zu1 hi hd,hd,Result.andThen]
theorem s_elem(hi:P.info? t=some ti)(hd:ti.desc=.slice e)(w:World):(elem? t).run P w=.ok (some e) w:=by simp[elem?,zu1 hi hd,hd,Result.andThen]
theorem ztb(hi:P.info? t=some ti)(hd:ti.desc=.slice e):P.underlying t=some (.slice e):=by obtain⟨d,_,_,_,_,_,_,_,_,_⟩:=ti;subst hd;simp[Program.underlying,hi]
theorem z2s(hi:P.info? t=some ti)(hd:ti.desc=.slice e)(p:Option Addr)(n c:Nat)(w:World):(ReflectliteValue.unpack (.iface t (.slice p n c))).run P w=.ok (.agg #[typeHandle P t,.pointer (some ⟨w.heap.size,0,none⟩),.int .u64 151]) (w.alloc (.cells #[.slice p n c] t)):=by simp[ReflectliteValue.unpack,ReflectliteValue.mk,newVar,newRow,handle,s_kind hi hd,Result.andThen,Value.cells,ReflectliteValue.flagIndir]
theorem z2t(h:Value)(a:Addr):ReflectliteValue.partsAny (.agg #[h,.pointer (some a),.int .u64 151])=(do pure (some (←ofHandle h,a,151))):=rfl
theorem zzs(z : Sem Value)(f : TypeId → Addr → Nat → Nat → Sem Value)(v : Value) :
    ReflectliteValue.method z f #[v]=(do match ←ReflectliteValue.parts v with | none=>z | some (t,a,fl)=>f t a fl (fl % 32)):=rfl
theorem z4z(a:Addr)(hpk:P.packed t=false)(hh:handleType P (typeHandle P t)=some t)(w:World):(ReflectliteValue.parts (.agg #[typeHandle P t,.pointer (some a),.int .u64 151])).run P w=.ok (some (t,a,151)) w:=by have hn:∀(what:String) (w:World),(noPack what t).run P w=.ok () w:=fun what w=>(by simp[noPack,hpk,Result.andThen]);unfold ReflectliteValue.parts;rw[z2t];simp[ofHandle,hh,hn,Result.andThen]
theorem s_len(hi : P.info? t = some ti)(hd : ti.desc = .slice e)(hpk : P.packed t = false)(hh : handleType P (typeHandle P t) = some t)(a : Addr)(p : Option Addr)(n c : Nat)(w : World)(ha : w.cell? a = some (.slice p n c)) :
    (ReflectliteValue.method (ReflectliteValue.valueError "reflectlite.Value.Len" 0) ReflectliteValue.len #[.agg #[typeHandle P t, .pointer (some a), .int .u64 151]]).run P w = .ok (.int .i64 n) w := by
  have hu:=ztb hi hd
  rw[zzs]
  simp only[oF,z4z a hpk hh w]
  simp[ReflectliteValue.len,zu1 hi hd,hd,loadVar,isAgg,underlying,hu,ha,Builtin.len_,goInt,Result.andThen]
def litK(n : Nat)(ie : TypeInfo)(ke : Nat) : Nat :=
  if n==0 then 1 else if n==1 then 2
  else if ie.hasPointers&&ie.bytes==8 then 3
  else if ie.hasPointers&&(ke==24) then 4
  else if ie.hasPointers then 9
  else match ie.bytes with | 8=>5 | 4=>6 | 2=>7 | 1=>8 | _=>9
theorem zyj(pkg : String)(ns : Nat → Sem Value)(s : Value) :
    ReflectliteSwapper.swapper pkg ns #[.iface t s] = (do
      let (.slice _ n _,some e):=(s,←elem? t) | ns (←kind t)
      let i ←typeInfo e
      let isString:=(←kind e)==24
      let k : Nat :=
        if n==0 then 1 else if n==1 then 2
        else if i.hasPointers&&i.bytes==8 then 3
        else if i.hasPointers&&isString then 4
        else if i.hasPointers then 9
        else match i.bytes with | 8=>5 | 4=>6 | 2=>7 | 1=>8 | _=>9
      let h ←handle e
      ReflectliteSwapper.literal pkg k (if k≤2 then #[] else #[s,h])):=rfl
theorem znw{ie : TypeInfo}(hi : P.info? t = some ti)(hd : ti.desc = .slice e)(hie : P.info? e = some ie){ke : Nat}(hke : ∀w, (kind e).run P w = .ok ke w)
    (p : Option Addr) (n c : Nat) {f : Nat} (hf : P.funcs.findIdx? (·.name == "internal/reflectlite" ++ ".Swapper$" ++ toString (litK n ie ke)) = some f) (w : World) :
    (ReflectliteSwapper.swapper "internal/reflectlite" (ReflectliteValue.valueError "Swapper") #[.iface t (.slice p n c)]).run P w
      = .ok (.func (.func f) #[] (if litK n ie ke≤2 then #[] else #[.slice p n c,typeHandle P e])) w:=by
  rw[zyj]
  simp only[oF,s_elem hi hd,Result.andThen,z34 hie,hke]
  change Sem.run P (ReflectliteSwapper.literal "internal/reflectlite" (litK n ie ke) (if litK n ie ke ≤ 2 then #[] else #[.slice p n c, typeHandle P e])) w = _
  simp at hf
  simp[ReflectliteSwapper.literal,hf,Result.andThen]

theorem FnX.keep{f:FuncId}{args:List LV}{bl:List BC}{r:LV}(hr:∀id,Ment r id→preB bl id≠none)(h:∀(w:World) (B:Nat) (X:Nat→Prop) (vals:List Value) (E:Env),vals.length=args.length→(∀(i:Nat) lv v,args[i]?=some lv→vals[i]?=some v→RepV w B X E lv v)→(∀i c,preB bl i=some c→BlkOk w B X E i c)→∃v,(callFunc f vals.toArray).run P w=.ok (.value v) w∧RepV w B X E r v):FnX P f args bl r (enumB bl 900000):=by intro w0 w xo vals E hgh hl hbel hxo hxg hargs hblk;have e9:look (enumB bl 900000)=preB bl:=funext (zfa bl);obtain⟨v,h1,h2⟩:=h w w0.heap.size (OwnB xo (preB bl) E) vals E hl (fun i lv v h1 h2=>(hargs i lv v h1 h2).1) hblk.ok;refine⟨v,w,h1,v,E,rfl,hbel,oz _,fun b _ _=>rfl,fun k hk hl=>⟨rfl,by rw[e9] at hl;exact hl⟩,fun k b' hl=>.inr ⟨k,by rw[e9] at hl;exact hl⟩,⟨by rw[e9];exact h2,fun id hm=>by rw[e9];exact hr id hm⟩,by rw[e9];exact hblk⟩
theorem zz6(c d:BC):preB [c,d] 900000=some c:=by unfold preB;rw[o3 (oz _),Nat.sub_self];rfl
theorem zz5(c d:BC):preB [c,d] 900001=some d:=by unfold preB;rw[o3 (Nat.le_succ _),show 900001 - 900000=1 from rfl];rfl
theorem FnX.valLen {f : FuncId} {fn : Func} {sz n : Nat} {row : Nat → List LV} (hf : P.funcs[f]? = some fn) (hname : (fn.name == "runtime.NumGoroutine") = false) (hb : fn.body.isNone = true) (hn : Extern.findNext fn = none)
    (he : Extern.find fn = some (ReflectliteValue.method (ReflectliteValue.valueError "reflectlite.Value.Len" 0) ReflectliteValue.len)) (hi : P.info? t = some ti) (hd : ti.desc = .slice e) (hpk : P.packed t = false) (hh : handleType P (typeHandle P t) = some t) :
    FnX P f [.agg [.k P.globals.size t,.vp 900001 0,.int .u64 151]] [.arr sz n row,.var [.own 900000]] (.int .i64 n) (enumB [.arr sz n row,.var [.own 900000]] 900000):=by
  refine FnX.keep (fun id h=>vdf) fun w B X vals E hl hargs hblk=>?_
  obtain⟨v0, rfl⟩ : ∃v0, vals = [v0] := by
    match vals,hl with
    |[v0],_=>exact⟨v0,rfl⟩
  obtain⟨vs,rfl,h1,h2⟩:=(hargs 0 _ v0 rfl rfl).agg_inv
  have hg:∀i,i<3→vs[i]?=some (vs.getD i undef):=fun i hi=>by simp[show i<vs.size by rw[h1];exact hi]
  have a0:=(h2 0 _ _ rfl (hg 0 vdh)).k_inv
  obtain⟨b,a1,a1'⟩:=(h2 1 _ _ rfl (hg 1 vdh)).vp_inv
  have a2:=(h2 2 _ _ rfl (hg 2 vdh)).int_inv
  have hvs : vs = #[typeHandle P t, .pointer (some ⟨b, 0, none⟩), .int .u64 151] := by
    apply Array.ext vcY
    intro i hi1 hi2
    have hi3:i<3:=vdi
    have:=hg i hi3
    rw[oN hi1] at this
    rw[Option.some.inj this]
    match i,hi3 with
    |0,_=>exact a0
    |1,_=>exact a1'
    |2,_=>exact a2
  obtain⟨b',us,T,k1,k2,k3,k4,k5⟩:=hblk 900001 _ (zz5 _ _)
  rw[a1] at k1;cases k1
  have hv:=(k5 0 (.own 900000) (us.getD 0 undef) rfl (by simp[show 0<us.size by rw[k4];simp])).own_inv
  have hn':=(hblk 900000 _ (zz6 _ _))
  have hval : (E 900000).val = .slice (E 900000).A n (E 900000).vc := by
    obtain⟨g1,g2⟩:=hn'
    rcases g2 with⟨_,g3,g4⟩ | ⟨_,_,_,_,_,g3,_⟩
    · unfold EI.val at g3 ⊢;injection g3 with q1 q2 q3;rw [q2,g4]
    · unfold EI.val at g3 ⊢;injection g3 with q1 q2 q3;rw [q2]
  have hcell:w.cell? ⟨b,0,none⟩=some (us.getD 0 undef):=by simp[World.cell?,k3,show 0<us.size by rw[k4];simp]
  rw[hv,hval] at hcell
  refine⟨_,?_,.c _ _ (.int .i64 n)⟩
  rw[run_callFunc_extern hf hname hb hn he,hvs,s_len hi hd hpk hh _ (E 900000).A n (E 900000).vc w hcell]
  rfl
theorem zu8{w : World}{B : Nat}{X : Nat → Prop}{E : Env}{id sz n : Nat}{row : Nat → List LV}(h : BlkOk w B X E id (.arr sz n row)) : (E id).val = .slice (E id).A n (E id).vc := by
 obtain⟨g1,g2⟩:=h;rcases g2 with⟨_,g3,g4⟩ | ⟨_,_,_,_,_,g3,_⟩
 ·unfold EI.val at g3 ⊢; injection g3 with q1 q2 q3; rw [q2, g4]
 unfold EI.val at g3 ⊢;injection g3 with q1 q2 q3;rw[q2]
theorem FnX.swapper {f g : FuncId} {fn : Func} {sz n : Nat} {row : Nat → List LV} {ie : TypeInfo} {ke : Nat} (h2 : 2 ≤ n) (hf : P.funcs[f]? = some fn) (hname : (fn.name == "runtime.NumGoroutine") = false) (hb : fn.body.isNone = true) (hn : Extern.findNext fn = none)
    (he : Extern.find fn = some (ReflectliteSwapper.swapper "internal/reflectlite" (ReflectliteValue.valueError "Swapper"))) (hi : P.info? t = some ti) (hd : ti.desc = .slice e) (hie : P.info? e = some ie) (hke : ∀ w, (kind e).run P w = .ok ke w)
    (hk : ∀ m, litK (m + 2) ie ke = litK 2 ie ke ∧ 3 ≤ litK 2 ie ke) (hg : P.funcs.findIdx? (·.name == "internal/reflectlite" ++ ".Swapper$" ++ toString (litK 2 ie ke)) = some g) :
    FnX P f [.ifc t (.own 900000)] [.arr sz n row] (.clo g [.own 900000,.k P.globals.size e]) (enumB [.arr sz n row] 900000):=by
  refine FnX.keep (fun id hm=>?_) fun w B X vals E hl hargs hblk=>?_
  · cases hm with
    |clo _ _ lv _ hlv hm =>
      simp only[oS,Oa,or_false] at hlv
      rcases hlv with rfl | rfl
      · cases hm;rw [zdw];simp
      · cases hm
  obtain⟨v0, rfl⟩ : ∃v0, vals = [v0] := by
    match vals,hl with
    |[v0],_=>exact⟨v0,rfl⟩
  obtain⟨u,rfl,hu⟩:=(hargs 0 _ v0 rfl rfl).ifc_inv
  have hu:=hu.own_inv
  have hval:=zu8 (hblk 900000 _ (zdw _))
  obtain⟨m,rfl⟩:∃m,n=m+2:=⟨n - 2,vdh⟩
  refine⟨.func (.func g) #[] #[(E 900000).val,typeHandle P e],?_,.clo _ _ _ rfl fun i lv v h1 h3=>?_⟩
  · rw [run_callFunc_extern hf hname hb hn he,hu,hval,znw hi hd hie hke (E 900000).A (m+2) (E 900000).vc (f:=g) (by rw [(hk m).1];exact hg) w,(hk m).1,if_neg (by have:=(hk m).2;omega)]
    rfl
  · match i with
    |0=>cases h1;cases h3;exact .own 900000
    |1=>cases h1;cases h3;exact .c _ _ (.k _ _)
    |_+2=>simp at h1
theorem FnX.swapper0 {f g0 g1 : FuncId} {fn : Func} {sz n : Nat} {row : Nat → List LV} {ie : TypeInfo} {ke : Nat} (h2 : n ≤ 1) (hf : P.funcs[f]? = some fn) (hname : (fn.name == "runtime.NumGoroutine") = false) (hb : fn.body.isNone = true) (hn : Extern.findNext fn = none)
    (he : Extern.find fn = some (ReflectliteSwapper.swapper "internal/reflectlite" (ReflectliteValue.valueError "Swapper"))) (hi : P.info? t = some ti) (hd : ti.desc = .slice e) (hie : P.info? e = some ie) (hke : ∀ w, (kind e).run P w = .ok ke w)
    (hg0 : P.funcs.findIdx? (·.name == "internal/reflectlite" ++ ".Swapper$" ++ toString 1) = some g0) (hg1 : P.funcs.findIdx? (·.name == "internal/reflectlite" ++ ".Swapper$" ++ toString 2) = some g1) :
    FnX P f [.ifc t (.own 900000)] [.arr sz n row] .fv (enumB [.arr sz n row] 900000):=by
  refine FnX.keep (fun id hm=>vdd) fun w B X vals E hl hargs hblk=>?_
  obtain⟨v0, rfl⟩ : ∃v0, vals = [v0] := by
    match vals,hl with
    |[v0],_=>exact⟨v0,rfl⟩
  obtain⟨u,rfl,hu⟩:=(hargs 0 _ v0 rfl rfl).ifc_inv
  have hu:=hu.own_inv
  have hval:=zu8 (hblk 900000 _ (zdw _))
  rcases(show n=0∨n=1 by omega) with rfl | rfl
  · refine ⟨.func (.func g0) #[] #[],?_,.c _ _ (.fv _ _)⟩
    rw[run_callFunc_extern hf hname hb hn he,hu,hval,znw hi hd hie hke (E 900000).A 0 (E 900000).vc (f:=g0) hg0 w]
    rfl
  · refine ⟨.func (.func g1) #[] #[],?_,.c _ _ (.fv _ _)⟩
    rw[run_callFunc_extern hf hname hb hn he,hu,hval,znw hi hd hie hke (E 900000).A 1 (E 900000).vc (f:=g1) hg1 w]
    rfl
theorem FnX.valueOf {f : FuncId} {fn : Func} {sz n : Nat} {row : Nat → List LV} (hf : P.funcs[f]? = some fn) (hname : (fn.name == "runtime.NumGoroutine") = false) (hb : fn.body.isNone = true) (hn : Extern.findNext fn = none)
    (he:Extern.find fn=some (fun args=>ReflectliteValue.unpack (args.getD 0 (.tuple #[])))) (hi:P.info? t=some ti) (hd:ti.desc=.slice e) :
    FnX P f [.ifc t (.own 900000)] [.arr sz n row] (.agg [.k P.globals.size t,.vp 0 0,.int .u64 151]) [(900000,.arr sz n row),(0,.var [.own 900000])]:=by
  intro w0 w xo vals E hgh hl hbel hxo hxg hargs hblk
  obtain⟨v0, rfl⟩ : ∃v0, vals = [v0] := by
    match vals,hl with
    |[v0],_=>exact⟨v0,rfl⟩
  obtain⟨u,rfl,hu⟩:=(hargs 0 _ v0 rfl rfl).1.ifc_inv
  have hu:=hu.own_inv
  have hB:=hblk.ok 900000 _ (zdw _)
  have hval:=zu8 hB
  let E':Env:=⟨fun i=>if i=0 then⟨some w.heap.size,0,none,0,0,0⟩ else E i,E.s⟩
  have e9:E' 900000=E 900000:=vdi
  have e00:E' 0=⟨some w.heap.size,0,none,0,0,0⟩:=vdi
  have look2 : ∀k c', look [(900000, BC.arr sz n row), (0, BC.var [.own 900000])] k = some c' → (k = 900000 ∧ c' = BC.arr sz n row) ∨ (k = 0 ∧ c' = .var [.own 900000]) := fun k c' h => by
    have:=zc0 h
    grind
  have l9 : look [(900000, BC.arr sz n row), (0, BC.var [.own 900000])] 900000 ≠ none := by
    unfold look;rw[Nat.beq_refl];simp
  have l0 : look [(900000, BC.arr sz n row), (0, BC.var [.own 900000])] 0 ≠ none := by
    intro h;cases h
  have main2 : ∀k b', OwnAt (look [(900000, BC.arr sz n row), (0, BC.var [.own 900000])]) E' k b' → (k = 900000 ∧ (E' 900000).b = some b') ∨ (k = 0 ∧ (E' 0).b = some b') := fun k b' hk => by
    obtain⟨c',hc⟩:=oP.1 hk.ne
    rcases look2 k c' hc with⟨rfl,rfl⟩ | ⟨rfl,rfl⟩
    · rcases hk with hk | hk
      · grind
      · rw [hc] at hk;exact hk.1.elim
    · rcases hk with hk | hk
      · exact .inr ⟨rfl,hk.2⟩
      · rw [hc] at hk;exact hk.1.elim
  have hown : ∀b', OwnB xo (look [(900000, BC.arr sz n row), (0, BC.var [.own 900000])]) E' b' → OwnB xo (preB [.arr sz n row]) E b' ∨ w.heap.size ≤ b' := fun b' hb' => by
    rcases hb' with hb' | ⟨k,hk⟩
    · exact .inl (.inl hb')
    · rcases main2 k b' hk with ⟨rfl,hkb⟩ | ⟨rfl,hkb⟩
      · rw [e9] at hkb
        exact .inl (.inr ⟨900000,.inl ⟨by rw[zdw];simp,hkb⟩⟩)
      · simp_all
  have hheap:∀b',b'<w.heap.size→(w.alloc (.cells #[.slice (E 900000).A n (E 900000).vc] t)).heap[b']?=w.heap[b']?:=fun b' hb'=>Below.heap_alloc _ _ _ hb'
  refine⟨_,w.alloc (.cells #[.slice (E 900000).A n (E 900000).vc] t),by rw[run_callFunc_extern hf hname hb hn he,hu,hval];show Result.andThen ((ReflectliteValue.unpack (.iface t (.slice (E 900000).A n (E 900000).vc))).run P w) _=_;rw[z2s hi hd];rfl,_,E',rfl,hbel.alloc hbel.size _,?_,fun b' hb' _=>hheap b' hb',fun k hk hl=>?_,fun k b' hl=>?_,⟨.agg _ _ rfl fun i lv v h1 h3=>?_,fun id hm=>?_⟩,?_⟩
  · simp
  · obtain ⟨c',hc⟩:=oP.1 hl
    rcases look2 k c' hc with⟨rfl,_⟩ | ⟨rfl,_⟩
    · exact ⟨e9,by rw [zdw];simp⟩
    · omega
  · rcases main2 k b' hl with ⟨rfl,hkb⟩ | ⟨rfl,hkb⟩
    · rw [e9] at hkb;exact .inr ⟨900000,.inl ⟨by rw [zdw];simp,hkb⟩⟩
    · grind
  · match i with
    |0=>cases h1;cases h3;exact .c _ _ (.k _ _)
    |1=>cases h1;cases h3;exact .vp 0 0 w.heap.size (by rw[e00])
    |2=>cases h1;cases h3;exact .c _ _ (.int _ _)
    |_+3=>simp at h1
  · cases hm with
    |agg _ lv _ hlv hm =>
      simp only[oS,Oa,or_false] at hlv
      rcases hlv with rfl | rfl | rfl
      · cases hm
      · cases hm;exact l0
      · cases hm
  · refine ⟨fun k c' hk=>?_,fun k m b' h1 h2=>?_,fun k cells lv id h hlv hm=>?_,fun k wd cl sz' n' rows h=>by rcases look2 k _ h with ⟨_,h⟩ | ⟨_,h⟩<;>cases h⟩
    · rcases look2 k c' hk with ⟨rfl,rfl⟩ | ⟨rfl,rfl⟩
      · have h1:=hB
        obtain⟨q1,q2⟩:=h1
        refine⟨by rw[e9];exact q1,?_⟩
        rw[e9]
        rcases q2 with q2 | ⟨b,cap,vs,T,k1,k2,k3,k4,k5,k6,k7,k8⟩
        · exact .inl q2
        · have hlt:=(oK.1 k4).1
          refine .inr ⟨b,cap,vs,T,k1,k2,k3,by rw[hheap b hlt];exact k4,k5,k6,k7,fun k hk=>⟨(k8 k hk).1,(k8 k hk).2.1,fun j lv v g1 g2=>((k8 k hk).2.2 j lv v g1 g2).keep vdj (fun b' hb' _=>hheap b' hb') (fun b' hb'=>?_) (oz _)⟩⟩
          exact hown b' hb'
      · refine ⟨w.heap.size,#[.slice (E 900000).A n (E 900000).vc],t,by rw [e00],hbel.size,heap_alloc_new w _,rfl,fun j lv v h1 h3=>?_⟩
        match j with
        |0 =>
          cases h1;cases h3
          have:=RepV.own (w:=w.alloc (.cells #[.slice (E 900000).A n (E 900000).vc] t)) (B:=w0.heap.size) (X:=OwnB xo (look [(900000,BC.arr sz n row),(0,BC.var [.own 900000])]) E') (E:=E') 900000
          rw[e9,hval] at this
          exact this
        |_+1=>simp at h1
    · have hl9:∀ b',(E 900000).b=some b'→b'<w.heap.size:=fun b' hb'=>hB.lt hb'
      rcases main2 k b' h1 with⟨rfl,g1⟩ | ⟨rfl,g1⟩<;>rcases main2 m b' h2 with⟨rfl,g2⟩ | ⟨rfl,g2⟩
      · rfl
      · rw [e9] at g1;rw [e00] at g2;cases g2;have:=hl9 _ g1;omega
      · rw [e9] at g2;rw [e00] at g1;cases g1;have:=hl9 _ g2;omega
      · rfl
    · rcases look2 k _ h with ⟨_,h⟩ | ⟨_,h⟩
      · cases h
      · cases h
        simp only[oT] at hlv
        subst hlv
        cases hm
        exact l9
end
def msL{α : Type}[Inhabited α](id : Nat)(c : α → List LV)(b : Nat)(N M : Int)(n : Nat)(x : α)(e : N.toNat = n) : Cl :=
  (.rowN id (List.replicate n x).length (rowOf c (List.replicate n x)), ⟨0 ≤ N ∧ N ≤ M ∧ (b : Int) * M ≤ 281474976710656 ∧ M ≤ 9223372036854775807, All [0 ≤ N ∧ N ≤ M ∧ (b : Int) * M ≤ 281474976710656 ∧ M ≤ 9223372036854775807] ∧ zc5 N.toNat (List.replicate n x).length (fun _ => c x) (rowOf c (List.replicate n x)),
    fun h=>⟨⟨h,trivial⟩,by rw[List.length_replicate];exact e,fun k hk=>(zkq c n x k vdh).symm⟩⟩)
theorem ztg(bl : List BC)(c : BC)(i : Nat) : preB (bl ++ [c]) i = if i = 900000 + bl.length then some c else preB bl i := by
 unfold preB;cases hb:Nat.ble 900000 i with
 |true =>have h:=oU hb;obtain⟨d,rfl⟩:=Nat.exists_eq_add_of_le h;grind
 |false =>simp only[oD];rw[if_neg];intro h2;have h3:Nat.ble 900000 i=true:=o3 (by rw[h2];exact Nat.le_add_right _ _);grind
theorem zw2(bl:List BC):preB bl (900000+bl.length)=none:=by unfold preB;rw[o3 (Nat.le_add_right _ _),oE,Nat.add_sub_cancel_left];exact o7 (oz _)
theorem BlkOk.env{w : World}{B : Nat}{X X' : Nat → Prop}{E E' : Env}{i : Nat}{c : BC}(h : BlkOk w B X E i c)(hx : ∀b, X' b → X b)(hE : E' i = E i)(hm : ∀cells lv id, c = .var cells → lv ∈ cells → Ment lv id → E' id = E id)(hS : E'.s i = E.s i)(ho : ∀wd cl sz n rows, c = .nest wd cl sz n rows → cl = true) : BlkOk w B X' E' i c := by
 have h:=h.sub hx;cases c with
 |var cells =>obtain⟨b,vs,T,h1,h2,h3,h4,h5⟩:=h;exact⟨b,vs,T,vcR,h2,h3,h4,fun j lv v k1 k2=>(h5 j lv v k1 k2).keep (oz _) (fun _ _ _=>rfl) (fun b hb=>.inl hb) fun id hid=>hm cells lv id rfl (oY k1) hid⟩
 |mp kd m =>obtain⟨b,es,ck,h1,h2⟩:=h;exact⟨b,es,ck,vcR,h2⟩
 |bld T e s =>obtain⟨b,v,p,h1,h2,h3⟩:=h;exact⟨b,v,p,vcR,h2,by rw[hS];exact h3⟩
 |arr sz n row =>simp only[BlkOk,hE];exact h
 |nest wd cl sz n rows =>exact h.move (ho wd cl sz n rows rfl) (oz _) (fun _ h=>h) hE fun b=>by rw[hS]
theorem FnM.nil{P : Program}{f : FuncId}{args : List LV}{bl : List BC}{sz : Nat}{row : Nat → List LV}{r : LV}{rbl : List (Nat × BC)}(k : Nat)(hk : args[k]? = some (.own (900000 + bl.length)))(hn : look rbl (900000 + bl.length) = none)(h : FnM P f args (bl ++ [.arr sz 0 row]) r rbl) : FnM P f (args.set k .nilS) bl r rbl := by
 intro w0 w xo vals E hgh hl hbel hxo hxg hargs hblk;let n9:=900000+bl.length;let E':Env:=⟨fun i=>if i=n9 then⟨none,0,none,0,0,0⟩ else E i,E.s⟩;have hE:∀i,i≠n9→E' i=E i:=fun i hi=>if_neg hi;have hE9:E' n9=⟨none,0,none,0,0,0⟩:=if_pos rfl;have hp:∀i,i≠n9→preB (bl++[.arr sz 0 row]) i=preB bl i:=fun i hi=>by rw[ztg,if_neg hi]
 have hp9:preB (bl++[.arr sz 0 row]) n9=some (.arr sz 0 row):=by rw[ztg,if_pos rfl]
 have hne : ∀i, preB bl i ≠ none → i ≠ n9 := fun i hi e => hi (by rw[e]; exact zw2 bl);have hat : ∀i b, OwnAt (preB (bl ++ [.arr sz 0 row])) E' i b ↔ OwnAt (preB bl) E i b := fun i b => by
  by_cases e:i=n9
  ·subst e;constructor
   ·rintro (⟨_, h2⟩ | ⟨h1, _⟩)
    ·grind
    rw[hp9] at h1;exact h1.elim
   intro h;exact absurd (zw2 bl) h.ne
  unfold OwnAt;grind
 have hX : ∀b, OwnB xo (preB (bl ++ [.arr sz 0 row])) E' b → OwnB xo (preB bl) E b := fun b hb => by
  rcases hb with hb | ⟨i,h1⟩
  ·exact .inl hb
  exact .inr ⟨i,(hat i b).1 h1⟩
 have hlen:vals.length=args.length:=vcX
 refine Calls.mono (h w0 w xo vals E' hgh hlen hbel (fun b hb=>⟨(hxo b hb).1,fun i hi=>(hxo b hb).2 i ((hat i b).1 hi)⟩) hxg (fun i lv v h1 h2=>?_) ⟨fun i c hc=>?_,fun i j b hi hj=>hblk.inj i j b ((hat i b).1 hi) ((hat j b).1 hj),fun i cells lv id h1 h2 h3=>?_,fun i wd cl sz' n' rows hi=>?_⟩) fun e w' hh=>?_
 ·by_cases e : i = k
  ·subst e;have e2 : lv = .own n9 := vdi;subst e2;have h3 := (hargs i .nilS v (by rw [List.getElem?_set_self (by exact (oG.1 hk).1)]) h2).1.nilS_inv;subst h3;refine ⟨?_, fun id hm => by cases hm; rw [hp9]; exact fun h => vdf⟩;have : (Value.slice none 0 0) = (E' n9).val := (by rw [hE9]; rfl);rw [this];exact .own n9
  obtain⟨h3,h4⟩:=hargs i lv v (by rw[List.getElem?_set_ne (fun h=>e h.symm)];exact h1) h2;exact⟨h3.keep (oz _) (fun _ _ _=>rfl) (fun b hb=>.inl (hX b hb)) fun id hm=>hE id (hne id (h4 id hm)),fun id hm=>by rw[hp id (hne id (h4 id hm))];exact h4 id hm⟩
 ·by_cases e : i = n9
  ·subst e;rw [hp9] at hc;injection hc with hc; subst hc;exact ⟨by rw [hE9], .inl ⟨by rw [hE9], by rw [hE9]; rfl, rfl⟩⟩
  rw[hp i e] at hc;exact(hblk.ok i c hc).env hX (hE i e) (fun cells lv id h1 h2 h3=>hE id (hne id (hblk.ment i cells lv id (by rw[hc,h1]) h2 h3))) rfl fun wd cl sz' n' rows hcc=>hblk.out i wd cl sz' n' rows (by rw[hc,hcc])
 ·by_cases e1 : i = n9
  ·grind
  rw[hp i e1] at h1;have:=hblk.ment i cells lv id h1 h2 h3;rw[hp id (hne id this)];exact this
 ·by_cases e1 : i = n9
  ·rw [e1, hp9] at hi; cases hi
  rw[hp i e1] at hi;exact hblk.out i wd cl sz' n' rows hi
 obtain⟨v,E2,c1,c2,c3,c4,c5,c6,c7,c8⟩:=hh;refine⟨v,E2,c1,c2,c3,fun b hb hi=>c4 b hb fun i h1=>hi i ((hat i b).1 h1),fun i h1 h2=>?_,fun i b h1=>?_,c7,c8⟩
 ·have e1 : i ≠ n9 := fun e => h2 (by rw [e]; exact hn);obtain ⟨k1, k2⟩ := c5 i h1 h2;rw [hE i e1] at k1; rw [hp i e1] at k2;exact ⟨k1, k2⟩
 rcases c6 i b h1 with k1 | ⟨j,k1⟩
 ·exact .inl k1
 exact .inr ⟨j,(hat j b).1 k1⟩
theorem ResOk.val{w':World}{B:Nat}{r:LV}{v:Value}(h:∀X,RepC w' B X r v)(hm:∀id,¬Ment r id):ResOk w' B r [] v:=⟨⟨fun _=>eiNil,fun _ _=>False⟩,.c _ _ (h _),fun i c hi=>by simp at hi,fun i j b hi=>by simpa using hi.ne,fun id h=>absurd h (hm id)⟩
end Go.Lite
