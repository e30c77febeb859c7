/- A writer of a text (strings.Builder) as a block of the layer: what WriteString and String make of it, and that all else stands. Conditions: the program bears the library's functions. -/
import Derived.Test.YtlinnkjieghmhaaGreatDoorLiteZ
import Derived.Test.YtlinnkjieghmhaaGreatDoorLiteS
import Derived.Shelf.Strings.Builder1
set_option linter.unusedVariables false
namespace Go.Lite
open Go Go.RowKit Go.Shelf Go.Proofs
section
variable {P:Program} {ρ:Ren}
theorem zye (m:List UInt8):Lib.strCells ⟨m.toArray⟩=zln m:=by simp [Lib.strCells,zln]
theorem zyf (l m:List UInt8):zln (l++m)=zln l++zln m:=by simp [zln]
theorem z01 (w : World) (base : Nat) (t u ty e : TypeId) (i : TypeInfo) (ht : P.underlying t = some (.slice e)) (hu : P.underlying u = some .string) (hi : P.info? e = some i) (hz : i.zero = some (.int .u8 0)) (hsize : i.size = 1) (hby : i.bytes = 1)
    (v:Value) (n:Nat) (xs:List Value) (hown:w.ownsRow base e 1 v n xs) (s:ByteArray) (h63:n+s.size≤maxLen) (hbytes:n+s.size≤140737488355328) (hbase:base≤w.heap.size) {v':Value} {w':World}
    (hr:(Builtin.append_ #[t,u] ty #[v,.string s]).run P w=.ok v' w'):∀ g,v'.ownBlock=some g→v.ownBlock=some g∨w.heap.size≤g:=by
 intro g hg
 rcases hown with ⟨hxl,⟨rfl,rfl⟩ | ⟨k,cap,cur,rfl,hbg,hk,hnc,hcm,hcs,htake⟩⟩
 ·-- nothing yet: the same at the end of memory
  obtain ⟨v2,w2,h1,h2,_,_⟩:=Lib.run_append_own_string (P:=P) w w.heap.size t u ty e i ht hu hi hz hsize hby (.slice none 0 0) 0 xs ⟨hxl,.inl ⟨rfl,rfl⟩⟩ s h63 hbytes (Nat.le_refl _)
  rw [hr] at h1
  cases h1
  exact .inr (h2.lt g hg).1
 ·by_cases hroom:n+s.size≤cap
  ·have h1:=Lib.run_append_room_string (P:=P) w t u ty e i ht hu hi hsize k n cap cur hk s hroom om
   rw [hr] at h1
   cases h1
   exact .inl hg
  ·have holds:∀ j u,xs[j]?=some u→w.cell? ((⟨k,0,none⟩:Addr).add j)=some u:=World.ownsRow.cells (e:=e) (base:=base) (size:=1) (v:=.slice (some ⟨k,0,none⟩) n cap) (n:=n) ⟨hxl,.inr ⟨k,cap,cur,rfl,hbg,hk,hnc,hcm,hcs,htake⟩⟩ (g:=k) rfl
   have h1:=Lib.run_append_grow_string (P:=P) w t u ty e i (.int .u8 0) ht hu hi hz ⟨k,0,none⟩ n cap xs (by rw [hsize];simpa using hxl) holds s om (by unfold maxLen at h63;omega) (by rw [hby];exact growslice_fits om om)
   rw [hr] at h1
   cases h1
   simp only [Value.ownBlock,Option.some.injEq] at hg
   exact .inr om
theorem zsm {ops : Array Oper} {rest : List Oper} {o : Oper} {a : Act} {w : World} {Q : Exit → Act → World → Prop} (hgd : o.guard = none) (sl x : Operand) (t u : TypeId) (ho : o.op = .call { callee := .builtin .append, args := #[sl, x], argTypes := #[t, u] })
    (base:Nat) (e:TypeId) (i:TypeInfo) (ht:P.underlying t=some (.slice e)) (hu:P.underlying u=some .string) (hi:P.info? e=some i) (hz:i.zero=some (.int .u8 0)) (hsize:i.size=1) (hby:i.bytes=1)
    (v:Value) (n:Nat) (xs:List Value) (hs:a.eval sl=v) (hown:w.ownsRow base e 1 v n xs) (s:ByteArray) (hx:a.eval x=.string s) (h63:n+s.size≤maxLen) (hbytes:n+s.size≤140737488355328) (hbase:base≤w.heap.size)
    (h:∀ v' w',w'.ownsRow base e 1 v' (n+s.size) (xs++Lib.strCells s)→w.grownBy w' v.ownBlock→(∀ g,v'.ownBlock=some g→v.ownBlock=some g∨w.heap.size≤g)→wpList P ops Q rest (a.put o.dst v') w'):wpList P ops Q (o :: rest) a w:=by
 refine wpList_plain hgd fun K hK=>?_
 obtain ⟨v',w',hr,h2,h3,_⟩:=Lib.run_append_own_string (P:=P) w base t u o.type e i ht hu hi hz hsize hby v n xs hown s h63 hbytes hbase
 have h4:=z01 w base t u o.type e i ht hu hi hz hsize hby v n xs hown s h63 hbytes hbase hr
 unfold Oper.wp execOp
 simp only [ho,resolve,invoke,builtin,Sem.run_bind,Sem.run_pure,Result.andThen_ok,List.map_toArray,List.map_cons,List.map_nil,hs,hx,hr]
 exact hK _ _ (h v' w' h2 h3 h4)
theorem z0w (L : Lays.n240 P ρ) (X : Builder.X72 P ρ) {B b : Nat} {v p : Value} {l : List UInt8} {w : World} (h : BufAt w B (ρ.t 72) (ρ.t 5) b v p l) :
    Calls P (ρ.f 240) #[.pointer (some ⟨b,0,none⟩)] w fun e w'=>e=.returned (.tuple #[])∧BufAt w' B (ρ.t 72) (ρ.t 5) b v (.pointer (some ⟨b,0,none⟩)) l∧Below B w w'∧w'.heap.size=w.heap.size∧∀ k,k≠b→w'.heap[k]?=w.heap[k]?:=by
 have hb:=h.2.1
 rcases h.2.2.1 with rfl | rfl
 ·refine (Any.Builder_copyCheck_fresh L X b w (by rw [Lib.cell_of_heap hb];rfl) (by simp [World.shape?,hb]) (Lib.frozen_of_heap hb 0)).mono ?_
  rintro e w' ⟨rfl,rfl⟩
  have hk:∀ k,k≠b→(w.setCell ⟨b,0,none⟩ (.pointer (some ⟨b,0,none⟩))).heap[k]?=w.heap[k]?:=fun k hk=>Below.heap_setCell _ _ _ _ (fun e=>hk (by first | exact e.symm | exact e))
  have hb':(w.setCell ⟨b,0,none⟩ (.pointer (some ⟨b,0,none⟩))).heap[b]?=some (.cells #[.pointer (some ⟨b,0,none⟩),v] (ρ.t 72) (0,0)):=by simp [World.setCell,Array.getElem?_modify,hb]
  refine ⟨rfl,⟨h.1,hb',.inr rfl,?_,h.2.2.2.2⟩,(Below.refl B w).setCell (p:=⟨b,0,none⟩) h.1 _,by simp [World.setCell],hk⟩
  obtain ⟨h4,h5⟩:=h.2.2.2.1
  refine ⟨h4,?_⟩
  rcases h5 with h5 | ⟨g,cap,cur,rfl,k1,k2,k3⟩
  ·exact .inl h5
  ·exact .inr ⟨g,cap,cur,rfl,k1,by rw [hk g (fun e=>h.2.2.2.2 (by rw [← e];rfl))];exact k2,k3⟩
 ·refine (Any.Builder_copyCheck_used L X b w (by rw [Lib.cell_of_heap hb];rfl)).mono ?_
  rintro e w' ⟨rfl,rfl⟩
  exact ⟨rfl,h,Below.refl B w',rfl,fun _ _=>rfl⟩
def Wrote (w w':World) (B:Nat) (T e:TypeId) (b:Nat) (v:Value) (l:List UInt8):Prop :=
 Below B w w'∧w.heap.size≤w'.heap.size∧(∀ k,k<w.heap.size→k≠b→v.ownBlock≠some k→w'.heap[k]?=w.heap[k]?)∧∃ v',BufAt w' B T e b v' (.pointer (some ⟨b,0,none⟩)) l∧∀ g,v'.ownBlock=some g→v.ownBlock=some g∨w.heap.size≤g
set_option maxHeartbeats 2000000 in
set_option maxRecDepth 100000 in
theorem z0v (L : Lays.n166 P ρ) (X : Builder.Extra P ρ) {B b : Nat} {v p : Value} {l m : List UInt8} {w : World} (h : BufAt w B (ρ.t 72) (ρ.t 5) b v p l) (hlen : l.length + m.length ≤ 140737488355328) (hBw : B ≤ w.heap.size) :
    Calls P (ρ.f 166) #[.pointer (some ⟨b,0,none⟩),.string ⟨m.toArray⟩] w fun e w'=>e=.returned (.tuple #[.int .i64 m.length,.nilIface])∧Wrote w w' B (ρ.t 72) (ρ.t 5) b v (l++m):=by
 obtain ⟨i0,hi,hz0,hz1,hz2⟩:=info_parts X.infoByte
 have mixed:=L.mixed
 have t72:=L.t72;have a72:=L.a72;have z72:=L.z72;have v72:=L.v72;have u72:=run_underlying L.t72
 have t70:=L.t70;have a70:=L.a70;have z70:=L.z70;have v70:=L.v70;have u70:=run_underlying L.t70
 have t37:=L.t37;have a37:=L.a37;have z37:=L.z37;have v37:=L.v37;have u37:=run_underlying L.t37
 have t3:=L.t3;have a3:=L.a3;have z3:=L.z3;have v3:=L.v3;have u3:=run_underlying L.t3
 have t9:=L.t9;have a9:=L.a9;have z9:=L.z9;have v9:=L.v9;have u9:=run_underlying L.t9
 have t5:=X.t5;have a5:=X.a5;have z5:=X.z5;have v5:=X.v5;have u5:=run_underlying X.t5
 have enter:∀ args w,(callFunc (ρ.f 240) args).run P w=.ok (.enter (ρ.f 240) args) w:=enters_of L.f240 (by kernel_rfl) rfl
 have hms:(⟨m.toArray⟩:ByteArray).size=m.length:=by show m.toArray.size=m.length;simp
 go_enter L.f166,Body.n166_ntmps ρ
 go_wp2_with (go_at_fn (ρ.f 240);refine (z0w { L with } X.toX72 h).mono ?_)
 rintro en w1 ⟨rfl,h1,hb1,hs1,hk1⟩
 have hbk:=h1.2.1
 have c0:w1.cell? ⟨b,0,none⟩=some (.pointer (some ⟨b,0,none⟩)):=by rw [Lib.cell_of_heap hbk];rfl
 have c1:w1.cell? ⟨b,1,none⟩=some v:=by rw [Lib.cell_of_heap hbk];rfl
 go_wp2_with (at_builtin;refine zsm rfl _ _ (ρ.t 37) (ρ.t 9) rfl B (ρ.t 5) i0 L.t37 L.t9 hi hz0 hz1 hz2 _ _ _ rfl h1.2.2.2.1 ⟨m.toArray⟩ rfl ?c3 ?c4 ?c5 ?_)
 case c3=>rw [hms];unfold maxLen;omega
 case c4=>rw [hms];omega
 case c5=>omega
 intro v' w2 hown' hgrow hwhere
 have hlt:b<w1.heap.size:=h1.lt
 have hb2:w2.heap[b]?=some (.cells #[.pointer (some ⟨b,0,none⟩),v] (ρ.t 72) (0,0)):=by
  rw [hgrow.block b hlt (fun e=>h1.2.2.2.2 e.symm)];exact hbk
 have d0:w2.cell? ⟨b,0,none⟩=some (.pointer (some ⟨b,0,none⟩)):=by rw [Lib.cell_of_heap hb2];rfl
 have d1:w2.cell? ⟨b,1,none⟩=some v:=by rw [Lib.cell_of_heap hb2];rfl
 have f1:w2.frozen? ⟨b,1,none⟩=false:=Lib.frozen_of_heap hb2 1
 have hne:=Lib.ownBlock_ne hown' hb2 X.neB5
 obtain ⟨ao,n',cap,rfl⟩:∃ ao n' cap,v'=.slice ao n' cap:=by
  rcases hown'.2 with ⟨hv,_⟩ | ⟨g,cap,cur,hv,_⟩
  ·exact ⟨_,_,_,hv⟩
  ·exact ⟨_,_,_,hv⟩
 go_wp2
 go_ret2
 have hset:∀ k,k≠b→(w2.setCell ⟨b,1,none⟩ (.slice ao n' cap)).heap[k]?=w2.heap[k]?:=fun k hk=>Below.heap_setCell _ _ _ _ (fun e=>hk (by first | exact e.symm | exact e))
 have hb3:(w2.setCell ⟨b,1,none⟩ (.slice ao n' cap)).heap[b]?=some (.cells #[.pointer (some ⟨b,0,none⟩),.slice ao n' cap] (ρ.t 72) (0,0)):=by simp [World.setCell,Array.getElem?_modify,hb2]
 refine ⟨by first | rfl | rw [hms],?_,?_,fun k hk hkb hkv=>?_,.slice ao n' cap,⟨h.1,hb3,.inr rfl,?_,hne⟩,fun g hg=>(hwhere g hg).imp id fun h=>by omega⟩
 ·exact (hb1.grown hgrow om (fun k hk=>(h1.2.2.2.1.lt k hk).1)).setCell (p:=⟨b,1,none⟩) h.1 _
 ·have:=hgrow.size
  simp only [World.setCell,Array.size_modify];omega
 ·rw [hset k hkb,hgrow.block k om (fun e=>hkv e.symm),hk1 k hkb]
 ·rw [zye,← zyf] at hown'
  rw [List.length_append]
  obtain ⟨h4,h5⟩:=hown'
  refine ⟨h4,?_⟩
  rcases h5 with h5 | ⟨g,cap',cur,hv,k1,k2,k3⟩
  ·exact .inl h5
  ·exact .inr ⟨g,cap',cur,hv,k1,by rw [hset g (fun e=>hne (by rw [hv,← e];rfl))];exact k2,k3⟩
def Told (w w':World) (B:Nat) (v:Value):Prop:=Below B w w'∧w.heap.size≤w'.heap.size∧∀ k,k<w.heap.size→v.ownBlock≠some k→w'.heap[k]?=w.heap[k]?
set_option maxHeartbeats 2000000 in
set_option maxRecDepth 100000 in
theorem zyg (L : Lays.n169 P ρ) (X : Builder.Extra P ρ) {B b : Nat} {v p : Value} {l : List UInt8} {w : World} (h : BufAt w B (ρ.t 72) (ρ.t 5) b v p l) (hBw : B ≤ w.heap.size) :
    Calls P (ρ.f 169) #[.pointer (some ⟨b,0,none⟩)] w fun e w'=>e=.returned (.string ⟨l.toArray⟩)∧Told w w' B v:=by
 have all:∀ w',Below w.heap.size w w'→Told w w' B v:=fun w' hb=>⟨hb.mono hBw,hb.size,fun k hk _=>hb.block k hk⟩
 obtain ⟨hB,hbk,hp,hown,hne⟩:=h
 by_cases h0:l=[]
 ·subst h0
  rcases hown.2 with ⟨rfl,_⟩ | ⟨g,cap,cur,rfl,hbg,hg,_,_,_,_⟩
  ·exact (Any.Builder_String_nil L X w.heap.size b p w hbk).mono fun e w' h=>⟨h.1,all w' h.2⟩
  ·by_cases hc0:cap=0
   ·subst hc0
    exact (Any.Builder_String_noroom L X w.heap.size b g p cur w (Nat.le_refl _) hbk hg).mono fun e w' h=>⟨h.1,all w' h.2⟩
   ·exact (Any.Builder_String_room L X w.heap.size b g cap p w hc0 hbk).mono fun e w' h=>⟨h.1,all w' h.2⟩
 ·have hl0:l.length≠0:=by simpa using h0
  obtain ⟨g,cap,cur,rfl,hbg,hg,hnc,hcm,hcs,htake⟩:∃ g cap cur,v=.slice (some ⟨g,0,none⟩) l.length cap∧B≤g∧w.heap[g]?=some (.cells cur (ρ.t 5) (0,0))∧l.length≤cap∧cap≤maxLen∧cur.size=cap * 1∧cur.toList.take (l.length * 1)=zln l:=by
   rcases hown.2 with ⟨_,hz⟩ | ⟨g,cap,cur,hv,r⟩
   ·exact absurd hz hl0
   ·exact ⟨g,cap,cur,hv,r⟩
  have hbd:w.drew.heap[b]?=some (.cells #[p,.slice (some ⟨g,0,none⟩) l.length cap] (ρ.t 72) (0,0)):=hbk
  have hgd:w.drew.heap[g]?=some (.cells cur (ρ.t 5) (0,0)):=hg
  have c1:w.drew.cell? ⟨b,1,none⟩=some (.slice (some ⟨g,0,none⟩) l.length cap):=by rw [Lib.cell_of_heap hbd];rfl
  have hSD:(Builtin.unsafeSliceData_ #[(ρ.t 37)] (ρ.t 127) #[.slice (some ⟨g,0,none⟩) l.length cap]).run P w.drew=.ok (.pointer (some ⟨g,0,none⟩)) w.drew:=Lib.run_unsafeSliceData_row _ _ _ _ _ _ om
  have hUS:(Builtin.unsafeString_ #[(ρ.t 127),(ρ.t 3)] (ρ.t 9) #[.pointer (some ⟨g,0,none⟩),.int .i64 l.length]).run P w.drew=.ok (.string ⟨l.toArray⟩) (w.drew.freeze ⟨g,0,none⟩ l.length) :=
   Lib.run_unsafeString_row w.drew (ρ.t 127) (ρ.t 3) (ρ.t 9) (ρ.t 5) L.t127 X.cellsByte g cur.size (by simp [World.shape?,hgd]) l h0 om (by unfold maxLen at hcm;omega) fun j x hx=>hown.cells (g:=g) rfl j (.int .u8 x.toNat) (by simp [zln,hx])
  have fin:Told w (w.drew.freeze ⟨g,0,none⟩ l.length) B (.slice (some ⟨g,0,none⟩) l.length cap):=by
   have hb2:=Lib.below_freeze (Below.drew (Below.refl B w)) (p:=⟨g,0,none⟩) hbg l.length
   refine ⟨hb2,hb2.size,fun k hk hkv=>?_⟩
   have hkg:g≠k:=fun e=>hkv (by rw [← e];rfl)
   have hd:w.drew.heap[k]?=w.heap[k]?:=rfl
   simp only [World.freeze]
   split
   ·exact hd
   ·rw [← hd];simp [Array.getElem?_modify,hkg]
  have mixed:=L.mixed
  have t72:=L.t72;have a72:=L.a72;have z72:=L.z72;have v72:=L.v72;have u72:=run_underlying L.t72
  have t70:=L.t70;have a70:=L.a70;have z70:=L.z70;have v70:=L.v70;have u70:=run_underlying L.t70
  have t37:=L.t37;have a37:=L.a37;have z37:=L.z37;have v37:=L.v37;have u37:=run_underlying L.t37
  have t127:=L.t127;have a127:=L.a127;have z127:=L.z127;have v127:=L.v127;have u127:=run_underlying L.t127
  have t3:=L.t3;have a3:=L.a3;have z3:=L.z3;have v3:=L.v3;have u3:=run_underlying L.t3
  have t9:=L.t9;have a9:=L.a9;have z9:=L.z9;have v9:=L.v9;have u9:=run_underlying L.t9
  have t5:=X.t5;have a5:=X.a5;have z5:=X.z5;have v5:=X.v5;have u5:=run_underlying X.t5
  go_enter L.f169,Body.n169_ntmps ρ
  go_wp2
  go_region_o
  all_goals (go_wp2;go_ret;exact ⟨rfl,fin⟩)
theorem z3o {w:World} {B:Nat} {X:Nat→Prop} {E:Env} {T e:TypeId} {s:List UInt8} (h:BlkOk w B X E 900000 (.bld T e s)):∃ b v p,(E 900000).b=some b∧BufAt w B T e b v p s∧∀ g,E.s 900000 g↔v.ownBlock=some g:=h
theorem FnM.bldWrite {f : FuncId} {T e : TypeId} {s0 s : List UInt8} (h : ∀ (w : World) (B b : Nat) (v p : Value), BufAt w B T e b v p s0 → B ≤ w.heap.size → Calls P f #[.pointer (some ⟨b, 0, none⟩), .string ⟨s.toArray⟩] w fun en w' => en = .returned (.tuple #[.int .i64 s.length, .nilIface]) ∧ Wrote w w' B T e b v (s0 ++ s)) :
    FnM P f [.vp 900000 0,.str s] [.bld T e s0] (.tup [.int .i64 s.length,.er false]) [(900000,.bld T e (s0++s))]:=by
 intro w0 w xo vals E hgh hl hbel hxo hxg hargs hblk
 obtain ⟨v0,v1,rfl⟩:∃ v0 v1,vals=[v0,v1]:=by
  match vals,hl with
  | [v0,v1],_=>exact ⟨v0,v1,rfl⟩
 obtain ⟨b,v,p,q1,q2,q3⟩:=z3o (hblk.ok 900000 _ (zdb _))
 obtain ⟨b',q4,rfl⟩:=(hargs 0 _ v0 rfl rfl).1.vp_inv
 rw [q1] at q4;cases q4
 have hv1:=(hargs 1 _ v1 rfl rfl).1.str_inv
 subst hv1
 refine Calls.mono (h w w0.heap.size b v p q2 hbel.size) fun en w' hh=>?_
 obtain ⟨rfl,k1,k2,k3,v',k4,k5⟩:=hh
 let E':Env:=⟨E.e,fun i g=>if i=900000 then v'.ownBlock=some g else E.s i g⟩
 have hs9:∀ g,E'.s 900000 g↔v'.ownBlock=some g:=fun g=>by
  show (if (900000:Nat)=900000 then v'.ownBlock=some g else E.s 900000 g)↔_
  rw [if_pos rfl]
 have hE:∀ i,E' i=E i:=fun i=>rfl
 have hpre:OwnAt (preB [.bld T e s0]) E 900000 b:=.inl ⟨by rw [zdb];simp,q1⟩
 have hpreg:∀ g,v.ownBlock=some g→OwnAt (preB [.bld T e s0]) E 900000 g:=fun g hg=>.inr ⟨by rw [zdb];trivial,(q3 g).2 hg⟩
 have hlook:∀ i c,look [(900000,BC.bld T e (s0++s))] i=some c→i=900000∧c=.bld T e (s0++s):=fun i c hi=>by
  have:=zdf hi
  simp only [List.mem_cons,Prod.mk.injEq,List.not_mem_nil,or_false] at this
  exact this
 have hat:∀ i g,OwnAt (look [(900000,BC.bld T e (s0++s))]) E' i g→i=900000∧(g=b∨v'.ownBlock=some g):=fun i g hg=>by
  obtain ⟨c,hc⟩:=Option.ne_none_iff_exists'.1 hg.ne
  obtain ⟨rfl,rfl⟩:=hlook i c hc
  refine ⟨rfl,?_⟩
  rcases hg with ⟨_,hg⟩ | ⟨_,hg⟩
  ·rw [hE,q1] at hg;exact .inl (Option.some.inj hg).symm
  ·exact .inr ((hs9 g).1 hg)
 refine ⟨_,E',rfl,hbel.trans k1,k2,fun k hk hno=>k3 k hk (fun e=>hno 900000 (by rw [e];exact hpre)) (fun e=>hno 900000 (hpreg k e)),fun i hi hne=>?_,fun i g hg=>?_,⟨.c _ _ (.tup _ _ rfl fun i lv u h1 h2=>?_),fun id hm=>?_⟩,⟨fun i c hi=>?_,fun i j g hi hj=>(hat i g hi).1.trans (hat j g hj).1.symm,fun i cells lv id hi=>?_,fun i wd cl sz n rows hi=>?_⟩⟩
 ·obtain ⟨c,hc⟩:=Option.ne_none_iff_exists'.1 hne
  obtain ⟨rfl,_⟩:=hlook i c hc
  exact ⟨rfl,by rw [zdb];simp⟩
 ·rcases (hat i g hg).2 with rfl | hg
  ·exact .inr ⟨900000,hpre⟩
  ·rcases k5 g hg with h1 | h1
   ·exact .inr ⟨900000,hpreg g h1⟩
   ·exact .inl h1
 ·match i with
  | 0=>cases h1;cases h2;exact .int _ _
  | 1=>cases h1;cases h2;exact .er false _ (fun _=>rfl) (fun h=>by cases h)
  | _+2=>simp at h1
 ·cases hm with
  | tup _ lv _ hlv hm =>
   simp only [List.mem_cons,List.not_mem_nil,or_false] at hlv
   rcases hlv with rfl | rfl<;>cases hm
 ·obtain ⟨rfl,rfl⟩:=hlook i c hi
  exact ⟨b,v',_,q1,k4,hs9⟩
 ·obtain ⟨_,h⟩:=hlook i _ hi;cases h
 ·obtain ⟨_,h⟩:=hlook i _ hi;cases h
theorem FnM.bldString {f : FuncId} {T e : TypeId} {s : List UInt8} (h : ∀ (w : World) (B b : Nat) (v p : Value), BufAt w B T e b v p s → B ≤ w.heap.size → Calls P f #[.pointer (some ⟨b, 0, none⟩)] w fun en w' => en = .returned (.string ⟨s.toArray⟩) ∧ Told w w' B v) :
    FnM P f [.vp 900000 0] [.bld T e s] (.str s) []:=by
 intro w0 w xo vals E hgh hl hbel hxo hxg hargs hblk
 obtain ⟨v0,rfl⟩:∃ v0,vals=[v0]:=by
  match vals,hl with
  | [v0],_=>exact ⟨v0,rfl⟩
 obtain ⟨b,v,p,q1,q2,q3⟩:=z3o (hblk.ok 900000 _ (zdb _))
 obtain ⟨b',q4,rfl⟩:=(hargs 0 _ v0 rfl rfl).1.vp_inv
 rw [q1] at q4;cases q4
 refine Calls.mono (h w w0.heap.size b v p q2 hbel.size) fun en w' hh=>?_
 obtain ⟨rfl,k1,k2,k3⟩:=hh
 have hno:∀ i c,look ([]:List (Nat×BC)) i≠some c:=fun i c h=>by cases h
 refine ⟨_,E,rfl,hbel.trans k1,k2,fun k hk hno=>k3 k hk (fun e=>hno 900000 (.inr ⟨by rw [zdb];trivial,(q3 k).2 e⟩)),fun i hi hne=>absurd rfl hne,fun i g hg=>absurd rfl hg.ne,⟨.c _ _ (.str s),fun id hm=>by cases hm⟩,⟨fun i c hi=>absurd hi (hno i c),fun i j g hi _=>absurd rfl hi.ne,fun i cells lv id hi=>absurd hi (hno i _),fun i wd cl sz n rows hi=>absurd hi (hno i _)⟩⟩
end
end Go.Lite
