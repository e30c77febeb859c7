/- Slices of slices that are exchanged, and the functions of package reflectlite that the model stands in for, at them. Conditions: none; over any program. -/
import Derived.Test.YtaageiiodlfeiaaLiteS
set_option linter.unusedVariables false
set_option linter.unusedSimpArgs false
namespace Go.Lite
open Go Go.RowKit

section
variable {P:Program} {w:World} {B:Nat} {X:Nat→Prop} {E:Env}
theorem zl8 {id sz n:Nat} {cl:Bool} {rows:Nat→NR} (h:BlkOk w B X E id (.nest cl sz n rows)):(E id).val=.slice (E id).A n (E id).vc:=by
 obtain ⟨_,_,g1,g2⟩:=h
 rcases g2 with ⟨_,g3,g4⟩ | ⟨_,_,_,_,_,g3,_⟩
 ·unfold EI.val at g3 ⊢;injection g3 with q1 q2 q3;rw [q2,g4]
 ·unfold EI.val at g3 ⊢;injection g3 with q1 q2 q3;rw [q2]
theorem zt9 {b p : Nat} {us : Array Value} {T' T : TypeId} {y : Value} (k4 : w.heap[b]? = some (.cells us T' (0, 0))) (hz : szOf P T = some 1) (hp : p < us.size) (hy : y.cells = #[y]) (h1 : y.oneCell' = true) :
    ∃ news:Array Value,(storeVar T ⟨b,p,none⟩ y).run P w=.ok () (w.setRow b news)∧news.size=us.size∧(∀ j,news.getD j undef=if j=p then y else us.getD j undef)∧(w.setRow b news).heap[b]?=some (.cells news T' (0,0)):=by
 have hfit:p+0+[y].length≤us.size:=by simp only [List.length_singleton];omega
 have hst:=run_storeCells_at P b p T' [y] 0 us w k4 hfit (fun u hu=>by rw [List.mem_singleton.1 hu];exact h1)
 have hgetv:∀ j:Nat,(us.toList.take (p+0)++[y]++us.toList.drop (p+0+[y].length)).toArray[j]?=if p≤j∧j<p+1 then [y][j - p]? else us[j]?:=fun j=>by
  simp only [List.getElem?_toArray,Nat.add_zero]
  rw [zeu _ _ _ _ (by simp at hfit ⊢;omega)]
  simp only [List.length_singleton,Array.getElem?_toList]
 have hszn:(us.toList.take (p+0)++[y]++us.toList.drop (p+0+[y].length)).toArray.size=us.size:=by
  simp at hfit ⊢;omega
 refine ⟨_,by simp only [storeVar,Sem.run_bind,zdb hz,Result.andThen_ok,hy,List.size_toArray,List.length_singleton,ne_eq,not_true_eq_false,if_false];exact hst,hszn,fun j=>?_,setRow_heap w b us _ T' (0,0) k4⟩
 rw [Array.getD_eq_getD_getElem?,hgetv,Array.getD_eq_getD_getElem?]
 by_cases e:j=p
 ·subst e
  rw [if_pos om,if_pos rfl,Nat.sub_self];rfl
 ·rw [if_neg om,if_neg e]
end
theorem zfa {f:Nat→Option BC} {E:Env} {sz n:Nat} {cl:Bool} {rows:Nat→NR} (h1:f 900000=some (.nest cl sz n rows)) (h2:∀ k,¬ k=900000→f k=none) {k b:Nat}:OwnAt f E k b↔k=900000∧((E 900000).b=some b∨E.s 900000 b):=by
 constructor
 ·intro h
  have e:k=900000:=Classical.byContradiction fun e=>h.ne (h2 k e)
  subst e
  rcases h with h | h
  ·exact ⟨rfl,.inl h.2⟩
  ·exact ⟨rfl,.inr h.2⟩
 ·rintro ⟨rfl,h | h⟩
  ·exact .inl ⟨by rw [h1];simp,h⟩
  ·exact .inr ⟨by rw [h1];trivial,h⟩
def tau (i j k:Nat):Nat:=if k=j then i else if k=i then j else k
theorem zsi (i j k:Nat):tau i j (tau i j k)=k:=by
 unfold tau
 by_cases h1:k=j
 ·subst h1
  rw [if_pos rfl]
  by_cases h2:i=k
  ·rw [if_pos h2,h2]
  ·rw [if_neg h2,if_pos rfl]
 ·rw [if_neg h1]
  by_cases h2:k=i
  ·subst h2
   rw [if_pos rfl,if_pos rfl]
  ·rw [if_neg h2,if_neg h1,if_neg h2]
theorem zol {i j k n:Nat} (hi:i<n) (hj:j<n) (hk:k<n):tau i j k<n:=by
 unfold tau
 split
 ·exact hi
 ·split
  ·exact hj
  ·exact hk
theorem z07 {α:Type} {l:List (List α)} {i j:Nat} (hi:i<l.length) (hj:j<l.length) (k:Nat):(swp l (i:Int) (j:Int)).getD k []=l.getD (tau i j k) []:=by
 unfold swp gi tau
 simp only [Int.toNat_natCast]
 rw [List.getD_eq_getElem?_getD,List.getElem?_set]
 by_cases h1:k=j
 ·subst h1
  rw [if_pos rfl,if_pos rfl,if_pos (by rw [List.length_set];exact hj)]
  rfl
 ·rw [if_neg (fun e=>h1 e.symm),if_neg h1,List.getElem?_set]
  by_cases h2:k=i
  ·subst h2
   rw [if_pos rfl,if_pos rfl,if_pos hi]
   rfl
  ·rw [if_neg (fun e=>h2 e.symm),if_neg h2,← List.getD_eq_getElem?_getD]
section
variable {P:Program} {α:Type} [Inhabited α]
theorem FnX.swapN {f : FuncId} {fn : Func} {b : Bool} {T : TypeId} {sz : Nat} {c : α → List LV} {l : List (List α)} {i j : Int} (hf : P.funcs[f]? = some fn) (hname : (fn.name == "runtime.NumGoroutine") = false) (hb : fn.body.isNone = true) (hn : Extern.findNext fn = none)
    (he:Extern.find fn=some (Go.Extern.ReflectliteSwapper.swap b)) (hh:handleType P (typeHandle P T)=some T) (ha:aggOf P T=some false) (hz:szOf P T=some 1) (hi:0≤i∧i<l.length) (hj:0≤j∧j<l.length) :
    FnX P f [.int .i64 i,.int .i64 j,.own 900000,.k P.globals.size T] [.nest true sz l.length (nrOf c l)] (.tup []) [(900000,.nest true sz (swp l i j).length (nrOf c (swp l i j)))]:=by
 intro w0 w xo vals E hgh hl hbel hxo hxg hargs hblk
 obtain ⟨v0,v1,v2,v3,rfl⟩:∃ v0 v1 v2 v3,vals=[v0,v1,v2,v3]:=by
  match vals,hl with
  | [v0,v1,v2,v3],_=>exact ⟨v0,v1,v2,v3,rfl⟩
 have e0:=(hargs 0 _ v0 rfl rfl).1.int_inv
 have e1:=(hargs 1 _ v1 rfl rfl).1.int_inv
 have e2:=(hargs 2 _ v2 rfl rfl).1.own_inv
 have e3:=(hargs 3 _ v3 rfl rfl).1.k_inv
 subst e0;subst e1;subst e3
 have hB:=hblk.ok 900000 _ (zc9 _)
 have hB2:=hB
 obtain ⟨ek,hsub,hnn,hkk⟩:=hB2
 rcases hkk with ⟨_,_,k3⟩ | ⟨bl,cap,us,T',k1,k2,k3,k4,k5,k6,k7,k8⟩
 ·omega
 have hX:OwnB xo (preB [.nest true sz l.length (nrOf c l)]) E bl:=.inr ⟨900000,(zfa (zc9 _) (fun k h=>zib _ h)).2 ⟨rfl,.inl k1⟩⟩
 obtain ⟨i',rfl⟩:∃ i':Nat,i=i':=⟨i.toNat,om⟩
 obtain ⟨j',rfl⟩:∃ j':Nat,j=j':=⟨j.toNat,om⟩
 have hi':i'<l.length:=by omega
 have hj':j'<l.length:=by omega
 have hv:∀ k,k<l.length→us.getD ((E 900000).off+k) undef=(ek k).val:=fun k hk=>(k8 k hk).1
 have hcell:∀ k,k<l.length→w.cell? ⟨bl,(E 900000).off+k * 1,none⟩=some (ek k).val:=fun k hk=>by
  rw [Nat.mul_one,← hv k hk]
  simp [World.cell?,k4,show (E 900000).off+k<us.size by omega]
 have hload:∀ k,k<l.length→(loadVar T ⟨bl,(E 900000).off+k * 1,none⟩).run P w=.ok (ek k).val w:=fun k hk=>by
  simp only [loadVar,Sem.run_bind,zfg ha,Result.andThen_ok,Bool.false_eq_true,if_false,run_load,hcell k hk]
 have x1:=hload i' hi'
 have y1:=hload j' hj'
 obtain ⟨n1,s1,g1,g2,g3⟩:=zt9 (w:=w) (y:=(ek j').val) k4 hz (p:=(E 900000).off+i' * 1) om rfl rfl
 obtain ⟨n2,s2,g4,g5,g6⟩:=zt9 (w:=w.setRow bl n1) (y:=(ek i').val) g3 hz (p:=(E 900000).off+j' * 1) om rfl rfl
 have hget:∀ k,k<l.length→n2.getD ((E 900000).off+k) undef=(ek (tau i' j' k)).val:=fun k hk=>by
  rw [g5,g2]
  unfold tau
  by_cases h1:k=j'
  ·rw [if_pos om,if_pos h1]
  ·rw [if_neg om,if_neg h1]
   by_cases h2:k=i'
   ·rw [if_pos om,if_pos h2]
   ·rw [if_neg om,if_neg h2];exact hv k hk
 have hown:∀ b',OwnB xo (look [(900000,BC.nest true sz (swp l (i':Int) (j':Int)).length (nrOf c (swp l (i':Int) (j':Int))))]) E b'↔OwnB xo (preB [.nest true sz l.length (nrOf c l)]) E b':=fun b'=>by
  refine or_congr Iff.rfl (exists_congr fun k=>?_)
  rw [zfa (zgo _) (fun k h=>zg3 _ h),zfa (zc9 _) (fun k h=>zib _ h)]
 have hoth:∀ b',b'≠bl→((w.setRow bl n1).setRow bl n2).heap[b']?=w.heap[b']?:=fun b' h=>by rw [setRow_other _ _ _ _ h,setRow_other _ _ _ _ h]
 refine ⟨.tuple #[],(w.setRow bl n1).setRow bl n2,?_,.tuple #[],E,rfl,zdt (zdt hbel k3) k3,by simp,fun b' _ hno=>?_,fun k hk hl=>⟨rfl,?_⟩,fun k b' hl=>.inr ⟨k,?_⟩,⟨.c _ _ (.tup [] #[] rfl fun k lv v h=>by simp at h),fun id hm=>by cases hm with | tup _ _ _ h=>cases h⟩,?_⟩
 ·rw [run_callFunc_extern hf hname hb hn he,e2,k2]
  have h1:((i':Int)<0||(i':Int) ≥ (l.length:Int))=false:=by simp;omega
  have h2:((j':Int)<0||(j':Int) ≥ (l.length:Int))=false:=by simp;omega
  have h3:((i':Int)<0||(i':Int) ≥ (l.length:Int)||(j':Int)<0||(j':Int) ≥ (l.length:Int))=false:=by simp;omega
  have hrun:(Go.Extern.ReflectliteSwapper.exchange T ⟨bl,(E 900000).off,none⟩ i' j').run P w=.ok (.tuple #[]) ((w.setRow bl n1).setRow bl n2):=by
   simp only [Go.Extern.ReflectliteSwapper.exchange,Sem.run_bind,zdb hz,Result.andThen_ok,zc4,x1,y1,s1,s2,Sem.run_pure]
  show Result.andThen ((Go.Extern.ReflectliteSwapper.swap b #[.int .i64 (i':Int),.int .i64 (j':Int),.slice (some ⟨bl,(E 900000).off,none⟩) l.length cap,typeHandle P T]).run P w) _=_
  rw [zwp]
  have ho:(Go.Extern.Rtype.ofHandle (typeHandle P T)).run P w=.ok T w:=by simp [Go.Extern.Rtype.ofHandle,hh,Result.andThen]
  cases b with
  | true =>
   simp only [if_true,h1,h2,Bool.false_eq_true,if_false,Sem.run_bind,Sem.run_pure,Result.andThen_ok,ho,Int.toNat_natCast,hrun]
  | false =>
   simp only [Bool.false_eq_true,if_false,h3,Sem.run_bind,Sem.run_pure,Result.andThen_ok,ho,Int.toNat_natCast,hrun]
 ·exact hoth b' fun e=>hno 900000 ((zfa (zc9 _) (fun k h=>zib _ h)).2 ⟨rfl,.inl (by rw [e];exact k1)⟩)
 ·by_cases e:k=900000
  ·rw [e,zc9];simp
  ·exact absurd (zg3 _ e) hl
 ·rw [zfa (zgo _) (fun k h=>zg3 _ h)] at hl
  rw [zfa (zc9 _) (fun k h=>zib _ h)]
  exact hl
 ·have hX3:OwnB xo (look [(900000,BC.nest true sz (swp l (i':Int) (j':Int)).length (nrOf c (swp l (i':Int) (j':Int))))]) E=OwnB xo (preB [.nest true sz l.length (nrOf c l)]) E:=funext fun b'=>propext (hown b')
  have only:∀ k c',look [(900000,BC.nest true sz (swp l (i':Int) (j':Int)).length (nrOf c (swp l (i':Int) (j':Int))))] k=some c'→k=900000∧c'=BC.nest true sz (swp l (i':Int) (j':Int)).length (nrOf c (swp l (i':Int) (j':Int))):=fun k c' h=>by
   by_cases e:k=900000
   ·rw [e,zgo] at h;cases h;exact ⟨e,rfl⟩
   ·rw [zg3 _ e] at h;cases h
  refine ⟨fun k c' hk=>?_,fun k m b' h1 h2=>?_,fun k cells lv id h _ _=>?_,fun k cl sz n rows h=>?_⟩
  ·obtain ⟨rfl,rfl⟩:=only k c' hk
   rw [hX3,zbs]
   refine ⟨fun k=>ek (tau i' j' k),⟨fun b'=>?_,fun k k' b' q1 q2 _ _ q5 q6=>?_,fun k b' q1 _ q3=>hsub.ne _ b' (zol hi' hj' q1) trivial q3,fun _ k id _ h=>by cases h⟩,hnn,.inr ⟨bl,cap,n2,T',k1,k2,k3,g6,k5,k6,om,fun k hk=>?_⟩⟩
   ·rw [hsub.iff b']
    constructor
    ·rintro ⟨k,q1,_,q3⟩;exact ⟨tau i' j' k,zol hi' hj' q1,trivial,by rw [zsi];exact q3⟩
    ·rintro ⟨k,q1,_,q3⟩;exact ⟨tau i' j' k,zol hi' hj' q1,trivial,q3⟩
   ·have:=hsub.inj _ _ b' (zol hi' hj' q1) (zol hi' hj' q2) trivial trivial q5 q6
    rw [← zsi i' j' k,this,zsi]
   ·have hk':=zol hi' hj' hk
    have h9:=(k8 _ hk').2
    refine ⟨hget k hk,?_⟩
    rw [z07 hi' hj']
    exact h9.keep zaz (fun b' hb'=>hoth b' fun e=>hsub.ne _ b' hk' trivial hb' (by rw [e];exact k1)) (fun b' _ hno=>hoth b' fun e=>hno (by rw [e];exact hX)) (fun b' hb'=>.inl hb') (Nat.le_refl _)
  ·rw [zfa (zgo _) (fun k h=>zg3 _ h)] at h1 h2
   rw [h1.1,h2.1]
  ·have:=(only k _ h).2;cases this
  ·have:=(only k _ h).2;cases this;rfl
end
section
open Go.Extern Go.Extern.Rtype
variable {P:Program} {t e:TypeId} {ti:TypeInfo}
theorem FnX.valLenN {f : FuncId} {fn : Func} {sz n : Nat} {rows : Nat → NR} (hf : P.funcs[f]? = some fn) (hname : (fn.name == "runtime.NumGoroutine") = false) (hb : fn.body.isNone = true) (hn : Extern.findNext fn = none)
    (he : Extern.find fn = some (ReflectliteValue.method (ReflectliteValue.valueError "reflectlite.Value.Len" 0) ReflectliteValue.len)) (hi : P.info? t = some ti) (hd : ti.desc = .slice e) (hpk : P.packed t = false) (hh : handleType P (typeHandle P t) = some t) :
    FnX P f [.agg [.k P.globals.size t,.vp 900001 0,.int .u64 151]] [.nest true sz n rows,.var [.own 900000]] (.int .i64 n) (enumB [.nest true sz n rows,.var [.own 900000]] 900000):=by
 refine FnX.keep (fun id h=>by cases h) fun w B X vals E hl hargs hblk=>?_
 obtain ⟨v0,rfl⟩:∃ v0,vals=[v0]:=by
  match vals,hl with
  | [v0],_=>exact ⟨v0,rfl⟩
 obtain ⟨vs,rfl,h1,h2⟩:=(hargs 0 _ v0 rfl rfl).agg_inv
 have hg:∀ i,i<3→vs[i]?=some (vs.getD i undef):=fun i hi=>by simp [show i<vs.size by rw [h1];exact hi]
 have a0:=(h2 0 _ _ rfl (hg 0 om)).k_inv
 obtain ⟨b,a1,a1'⟩:=(h2 1 _ _ rfl (hg 1 om)).vp_inv
 have a2:=(h2 2 _ _ rfl (hg 2 om)).int_inv
 have hvs:vs=#[typeHandle P t,.pointer (some ⟨b,0,none⟩),.int .u64 151]:=by
  apply Array.ext (by simpa using h1)
  intro i hi1 hi2
  have hi3:i<3:=by simpa using hi2
  have:=hg i hi3
  rw [Array.getElem?_eq_getElem hi1] at this
  rw [Option.some.inj this]
  match i,hi3 with
  | 0,_=>exact a0
  | 1,_=>exact a1'
  | 2,_=>exact a2
 obtain ⟨b',us,T,k1,k2,k3,k4,k5⟩:=hblk 900001 _ (zwr _ _)
 rw [a1] at k1;cases k1
 have hv:=(k5 0 (.own 900000) (us.getD 0 undef) rfl (by simp [show 0<us.size by rw [k4];simp])).own_inv
 have hn':=(hblk 900000 _ (zws _ _))
 have hval:=zl8 hn'
 have hcell:w.cell? ⟨b,0,none⟩=some (us.getD 0 undef):=by simp [World.cell?,k3,show 0<us.size by rw [k4];simp]
 rw [hv,hval] at hcell
 refine ⟨_,?_,.c _ _ (.int .i64 n)⟩
 rw [run_callFunc_extern hf hname hb hn he,hvs,s_len hi hd hpk hh _ (E 900000).A n (E 900000).vc w hcell]
 rfl
theorem FnX.swapperN {f g : FuncId} {fn : Func} {sz n : Nat} {rows : Nat → NR} {ie : TypeInfo} {ke : Nat} (h2 : 2 ≤ n) (hf : P.funcs[f]? = some fn) (hname : (fn.name == "runtime.NumGoroutine") = false) (hb : fn.body.isNone = true) (hn : Extern.findNext fn = none)
    (he : Extern.find fn = some (ReflectliteSwapper.swapper "internal/reflectlite" (ReflectliteValue.valueError "Swapper"))) (hi : P.info? t = some ti) (hd : ti.desc = .slice e) (hie : P.info? e = some ie) (hke : ∀ w, (kind e).run P w = .ok ke w)
    (hk : ∀ m, litK (m + 2) ie ke = litK 2 ie ke ∧ 3 ≤ litK 2 ie ke) (hg : P.funcs.findIdx? (·.name == "internal/reflectlite" ++ ".Swapper$" ++ toString (litK 2 ie ke)) = some g) :
    FnX P f [.ifc t (.own 900000)] [.nest true sz n rows] (.clo g [.own 900000,.k P.globals.size e]) (enumB [.nest true sz n rows] 900000):=by
 refine FnX.keep (fun id hm=>?_) fun w B X vals E hl hargs hblk=>?_
 ·cases hm with
  | clo _ _ lv _ hlv hm =>
   simp only [List.mem_cons,List.not_mem_nil,or_false] at hlv
   rcases hlv with rfl | rfl
   ·cases hm;rw [zc9];simp
   ·cases hm
 obtain ⟨v0,rfl⟩:∃ v0,vals=[v0]:=by
  match vals,hl with
  | [v0],_=>exact ⟨v0,rfl⟩
 obtain ⟨u,rfl,hu⟩:=(hargs 0 _ v0 rfl rfl).ifc_inv
 have hu:=hu.own_inv
 have hval:=zl8 (hblk 900000 _ (zc9 _))
 obtain ⟨m,rfl⟩:∃ m,n=m+2:=⟨n - 2,om⟩
 refine ⟨.func (.func g) #[] #[(E 900000).val,typeHandle P e],?_,.clo _ _ _ rfl fun i lv v h1 h3=>?_⟩
 ·rw [run_callFunc_extern hf hname hb hn he,hu,hval,zjx hi hd hie hke (E 900000).A (m+2) (E 900000).vc (f:=g) (by rw [(hk m).1];exact hg) w,(hk m).1,if_neg (by have:=(hk m).2;omega)]
  rfl
 ·match i with
  | 0=>cases h1;cases h3;exact .own 900000
  | 1=>cases h1;cases h3;exact .c _ _ (.k _ _)
  | _+2=>simp at h1
theorem FnX.swapper0N {f g0 g1 : FuncId} {fn : Func} {sz n : Nat} {rows : Nat → NR} {ie : TypeInfo} {ke : Nat} (h2 : n ≤ 1) (hf : P.funcs[f]? = some fn) (hname : (fn.name == "runtime.NumGoroutine") = false) (hb : fn.body.isNone = true) (hn : Extern.findNext fn = none)
    (he : Extern.find fn = some (ReflectliteSwapper.swapper "internal/reflectlite" (ReflectliteValue.valueError "Swapper"))) (hi : P.info? t = some ti) (hd : ti.desc = .slice e) (hie : P.info? e = some ie) (hke : ∀ w, (kind e).run P w = .ok ke w)
    (hg0 : P.funcs.findIdx? (·.name == "internal/reflectlite" ++ ".Swapper$" ++ toString 1) = some g0) (hg1 : P.funcs.findIdx? (·.name == "internal/reflectlite" ++ ".Swapper$" ++ toString 2) = some g1) :
    FnX P f [.ifc t (.own 900000)] [.nest true sz n rows] .fv (enumB [.nest true sz n rows] 900000):=by
 refine FnX.keep (fun id hm=>by cases hm) fun w B X vals E hl hargs hblk=>?_
 obtain ⟨v0,rfl⟩:∃ v0,vals=[v0]:=by
  match vals,hl with
  | [v0],_=>exact ⟨v0,rfl⟩
 obtain ⟨u,rfl,hu⟩:=(hargs 0 _ v0 rfl rfl).ifc_inv
 have hu:=hu.own_inv
 have hval:=zl8 (hblk 900000 _ (zc9 _))
 rcases (show n=0∨n=1 by omega) with rfl | rfl
 ·refine ⟨.func (.func g0) #[] #[],?_,.c _ _ (.fv _ _)⟩
  rw [run_callFunc_extern hf hname hb hn he,hu,hval,zjx hi hd hie hke (E 900000).A 0 (E 900000).vc (f:=g0) hg0 w]
  rfl
 ·refine ⟨.func (.func g1) #[] #[],?_,.c _ _ (.fv _ _)⟩
  rw [run_callFunc_extern hf hname hb hn he,hu,hval,zjx hi hd hie hke (E 900000).A 1 (E 900000).vc (f:=g1) hg1 w]
  rfl
theorem FnX.valueOfN {f : FuncId} {fn : Func} {sz n : Nat} {rows : Nat → NR} (hf : P.funcs[f]? = some fn) (hname : (fn.name == "runtime.NumGoroutine") = false) (hb : fn.body.isNone = true) (hn : Extern.findNext fn = none)
    (he:Extern.find fn=some (fun args=>ReflectliteValue.unpack (args.getD 0 (.tuple #[])))) (hi:P.info? t=some ti) (hd:ti.desc=.slice e) :
    FnX P f [.ifc t (.own 900000)] [.nest true sz n rows] (.agg [.k P.globals.size t,.vp 0 0,.int .u64 151]) [(900000,.nest true sz n rows),(0,.var [.own 900000])]:=by
 intro w0 w xo vals E hgh hl hbel hxo hxg hargs hblk
 obtain ⟨v0,rfl⟩:∃ v0,vals=[v0]:=by
  match vals,hl with
  | [v0],_=>exact ⟨v0,rfl⟩
 obtain ⟨u,rfl,hu⟩:=(hargs 0 _ v0 rfl rfl).1.ifc_inv
 have hu:=hu.own_inv
 have hB:=hblk.ok 900000 _ (zc9 _)
 have hval:=zl8 hB
 let E':Env:=⟨fun i=>if i=0 then ⟨some w.heap.size,0,none,0,0,0⟩ else E i,E.s⟩
 have e9:E' 900000=E 900000:=by
  show (if (900000:Nat)=0 then (⟨some w.heap.size,0,none,0,0,0⟩:EI) else E 900000)=E 900000
  exact if_neg om
 have e00:E' 0=⟨some w.heap.size,0,none,0,0,0⟩:=by
  show (if (0:Nat)=0 then (⟨some w.heap.size,0,none,0,0,0⟩:EI) else E 0)=_
  exact if_pos rfl
 have look2:∀ k c',look [(900000,BC.nest true sz n rows),(0,BC.var [.own 900000])] k=some c'→(k=900000∧c'=BC.nest true sz n rows)∨(k=0∧c'=.var [.own 900000]):=fun k c' h=>by
  have:=zdx h
  simp only [List.mem_cons,Prod.mk.injEq,List.not_mem_nil,or_false] at this
  exact this
 have l9:look [(900000,BC.nest true sz n rows),(0,BC.var [.own 900000])] 900000≠none:=by
  unfold look;rw [Nat.beq_refl];simp
 have l0:look [(900000,BC.nest true sz n rows),(0,BC.var [.own 900000])] 0≠none:=by
  intro h;cases h
 have main2:∀ k b',OwnAt (look [(900000,BC.nest true sz n rows),(0,BC.var [.own 900000])]) E' k b'→(k=900000∧OwnAt (preB [.nest true sz n rows]) E 900000 b')∨(k=0∧(E' 0).b=some b'):=fun k b' hk=>by
  obtain ⟨c',hc⟩:=Option.ne_none_iff_exists'.1 hk.ne
  rcases look2 k c' hc with ⟨rfl,rfl⟩ | ⟨rfl,rfl⟩
  ·rcases hk with hk | hk
   ·exact .inl ⟨rfl,.inl ⟨by rw [zc9];simp,by have:=hk.2;rw [e9] at this;exact this⟩⟩
   ·exact .inl ⟨rfl,.inr ⟨by rw [zc9];trivial,hk.2⟩⟩
  ·rcases hk with hk | hk
   ·exact .inr ⟨rfl,hk.2⟩
   ·rw [hc] at hk;exact hk.1.elim
 have hown:∀ b',OwnB xo (look [(900000,BC.nest true sz n rows),(0,BC.var [.own 900000])]) E' b'→OwnB xo (preB [.nest true sz n rows]) E b'∨w.heap.size≤b':=fun b' hb'=>by
  rcases hb' with hb' | ⟨k,hk⟩
  ·exact .inl (.inl hb')
  ·rcases main2 k b' hk with ⟨rfl,hkb⟩ | ⟨rfl,hkb⟩
   ·exact .inl (.inr ⟨900000,hkb⟩)
   ·rw [e00] at hkb;cases hkb;exact .inr (Nat.le_refl _)
 have hheap:∀ b',b'<w.heap.size→(w.alloc (.cells #[.slice (E 900000).A n (E 900000).vc] t)).heap[b']?=w.heap[b']?:=fun b' hb'=>Below.heap_alloc _ _ _ hb'
 refine ⟨_,w.alloc (.cells #[.slice (E 900000).A n (E 900000).vc] t),by rw [run_callFunc_extern hf hname hb hn he,hu,hval];show Result.andThen ((ReflectliteValue.unpack (.iface t (.slice (E 900000).A n (E 900000).vc))).run P w) _=_;rw [zy5 hi hd];rfl,_,E',rfl,hbel.alloc hbel.size _,?_,fun b' hb' _=>hheap b' hb',fun k hk hl=>?_,fun k b' hl=>?_,⟨.agg _ _ rfl fun i lv v h1 h3=>?_,fun id hm=>?_⟩,?_⟩
 ·simp
 ·obtain ⟨c',hc⟩:=Option.ne_none_iff_exists'.1 hl
  rcases look2 k c' hc with ⟨rfl,_⟩ | ⟨rfl,_⟩
  ·exact ⟨e9,by rw [zc9];simp⟩
  ·omega
 ·rcases main2 k b' hl with ⟨rfl,hkb⟩ | ⟨rfl,hkb⟩
  ·exact .inr ⟨900000,hkb⟩
  ·rw [e00] at hkb;cases hkb;exact .inl (Nat.le_refl _)
 ·match i with
  | 0=>cases h1;cases h3;exact .c _ _ (.k _ _)
  | 1=>cases h1;cases h3;exact .vp 0 0 w.heap.size (by rw [e00])
  | 2=>cases h1;cases h3;exact .c _ _ (.int _ _)
  | _+3=>simp at h1
 ·cases hm with
  | agg _ lv _ hlv hm =>
   simp only [List.mem_cons,List.not_mem_nil,or_false] at hlv
   rcases hlv with rfl | rfl | rfl
   ·cases hm
   ·cases hm;exact l0
   ·cases hm
 ·refine ⟨fun k c' hk=>?_,fun k m b' h1 h2=>?_,fun k cells lv id h hlv hm=>?_,fun k cl sz' n' rows' h=>by rcases look2 k _ h with ⟨_,h⟩ | ⟨_,h⟩<;>(cases h;try rfl)⟩
  ·rcases look2 k c' hk with ⟨rfl,rfl⟩ | ⟨rfl,rfl⟩
   ·have hB2:=hB
    obtain ⟨ek,hsub,q1,q2⟩:=hB2
    refine ⟨ek,?_⟩
    rw [e9]
    refine ⟨hsub,q1,?_⟩
    rcases q2 with q2 | ⟨b,cap,vs,T,k1,k2,k3,k4,k5,k6,k7,k8⟩
    ·exact .inl q2
    ·have hlt:=(Array.getElem?_eq_some_iff.1 k4).1
     refine .inr ⟨b,cap,vs,T,k1,k2,k3,by rw [hheap b hlt];exact k4,k5,k6,k7,fun k hk=>(k8 k hk).keep zaz (fun hr b' hb'=>hheap b' (hB.nestSub ((hsub.iff b').2 ⟨k,hk,hr,hb'⟩)).1) (fun b' hb' _=>hheap b' hb') (fun b' hb'=>hown b' hb') (Nat.le_refl _) fun id hid=>absurd hid (hsub.cl rfl k id hk)⟩
   ·refine ⟨w.heap.size,#[.slice (E 900000).A n (E 900000).vc],t,by rw [e00],hbel.size,heap_alloc_new w _,rfl,fun j lv v h1 h3=>?_⟩
    match j with
    | 0 =>
     cases h1;cases h3
     have:=RepV.own (w:=w.alloc (.cells #[.slice (E 900000).A n (E 900000).vc] t)) (B:=w0.heap.size) (X:=OwnB xo (look [(900000,BC.nest true sz n rows),(0,BC.var [.own 900000])]) E') (E:=E') 900000
     rw [e9,hval] at this
     exact this
    | _+1=>simp at h1
  ·have hl9:∀ b',OwnAt (preB [.nest true sz n rows]) E 900000 b'→b'<w.heap.size:=fun b' hb'=>by
    rcases hb' with ⟨_,hb'⟩ | ⟨_,hb'⟩
    ·exact hB.lt hb'
    ·exact (hB.nestSub hb').1
   rcases main2 k b' h1 with ⟨rfl,g1⟩ | ⟨rfl,g1⟩<;>rcases main2 m b' h2 with ⟨rfl,g2⟩ | ⟨rfl,g2⟩
   ·rfl
   ·rw [e00] at g2;cases g2;have:=hl9 _ g1;omega
   ·rw [e00] at g1;cases g1;have:=hl9 _ g2;omega
   ·rfl
  ·rcases look2 k _ h with ⟨_,h⟩ | ⟨_,h⟩
   ·cases h
   ·cases h
    simp only [List.mem_singleton] at hlv
    subst hlv
    cases hm
    exact l9
end
end Go.Lite
