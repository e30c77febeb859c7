import Derived.Test.YtepefimocflfkaaVS78
set_option maxHeartbeats 4000000
set_option linter.unusedSimpArgs false
set_option linter.unusedVariables false
namespace Go.Proofs.Ytepefimocflfkaa
open Go Go.Lite Go.Proofs
theorem rw_iff (x:SrtW) (u v:Event):RW x u v=true↔u.year<v.year∨(u.year=v.year∧u.kind<v.kind):=by
 unfold RW
 simp only [Bool.or_eq_true,Bool.and_eq_true,decide_eq_true_eq]
theorem rw_swo (x:SrtW):SWO (RW x):=by
 have hf:∀ u v,RW x u v=false↔¬ (u.year<v.year∨(u.year=v.year∧u.kind<v.kind)):=fun u v=>by rw [← rw_iff x];cases RW x u v<;>simp
 exact ⟨fun u=>(hf u u).2 (by omega),fun u v h=>(hf v u).2 (by have:=(rw_iff x u v).1 h;omega),fun u v w h1 h2=>(hf u w).2 (by have:=(hf u v).1 h1;have:=(hf v w).1 h2;omega)⟩
def evKey (e:Event):Int:=8 * e.year+e.kind
def KindOk (l:List Event):Prop:=∀ e∈l,1≤e.kind∧e.kind≤4
theorem rw_key (x:SrtW) {u v:Event} (hu:1≤u.kind∧u.kind≤4) (hv:1≤v.kind∧v.kind≤4):RW x u v=byKey evKey u v:=by
 apply Bool.eq_iff_iff.2
 rw [rw_iff]
 unfold byKey evKey
 rw [decide_eq_true_eq]
 omega
theorem rw_fin (x:SrtW) {l m:List Event} (hl:KindOk l) (hm:∀ e∈m,e∈l) (h1:SrtL (RW x) m) (h2:StEq (RW x) l m):m=(l11Order (l.map evKey)).map fun k=>l.getD k.toNat default:=by
 have hmk:KindOk m:=fun e he=>hl e (hm e he)
 refine stable_key evKey ?_ fun z=>?_
 ·refine List.Pairwise.imp_of_mem (fun {a b} ha hb h=>?_) h1
  rw [← rw_key x (hmk b hb) (hmk a ha)];exact h
 ·by_cases c:∃ y,y∈l∧eqc (byKey evKey) z y=true
  ·obtain ⟨y,hy,hc⟩:=c
   have hz:∀ e:Event,1≤e.kind∧e.kind≤4→eqc (byKey evKey) z e=eqc (RW x) y e:=fun e he=>by
    unfold eqc
    rw [rw_key x (hl y hy) he,rw_key x he (hl y hy)]
    unfold eqc byKey at hc
    simp only [Bool.and_eq_true,Bool.not_eq_true',decide_eq_false_iff_not] at hc
    have e1:evKey z=evKey y:=by omega
    unfold byKey
    rw [e1]
   rw [List.filter_congr (q:=eqc (RW x) y) (fun e he=>hz e (hmk e he)),List.filter_congr (q:=eqc (RW x) y) (fun e he=>hz e (hl e he))]
   exact h2 y
  ·have e1:l.filter (eqc (byKey evKey) z)=[]:=List.filter_eq_nil_iff.2 fun y hy hc=>c ⟨y,hy,hc⟩
   have e2:m.filter (eqc (byKey evKey) z)=[]:=List.filter_eq_nil_iff.2 fun y hy hc=>c ⟨y,hm y hy,hc⟩
   rw [e1,e2]
theorem ws_val {l:List Event} (hk:KindOk l) (h:l.length≤255):sliceW (SrtW.mk l) ()=(l11Order (l.map evKey)).map fun k=>l.getD k.toNat default:=by
 rw [sliceW_eq]
 obtain ⟨g1,g2⟩:=gStb_fin (rw_swo (SrtW.mk l)) h
 refine rw_fin (SrtW.mk l) hk (fun e he=>?_) g1 g2
 have h3:e∈(gStb (RW (SrtW.mk l)) l l.length).filter (eqc (RW (SrtW.mk l)) e):=List.mem_filter.2 ⟨he,eqc_self (rw_swo _) e⟩
 rw [g2 e] at h3
 exact (List.mem_filter.1 h3).1
theorem xs_val {l:List Event} (h:decide (2≤l.length)=false):sliceX (SrtX.mk l) ()=(l11Order (l.map evKey)).map fun k=>l.getD k.toNat default:=by
 rw [sliceX_eq]
 exact order_short evKey (l:=l) (by have:=of_decide_eq_false h;omega)
def evList (x:Family):List Event :=
 (((x.people.map fun p => Event.mk 1 p.born p.name p.sex p.father p.mother) ++ (x.unions.map fun u => Event.mk 2 u.from0 [] 0 u.man u.woman)) ++
   (((List.range x.unions.length).filter fun i=>decide (0≤(x.unions.getD i default).to)).map fun i=>Event.mk 3 (x.unions.getD i default).to [] 0 (x.unions.getD i default).man (x.unions.getD i default).woman)) ++
   (((List.range x.people.length).filter fun i=>decide (0≤(x.people.getD i default).died)).map fun i=>Event.mk 4 (x.people.getD i default).died [] 0 ((i:Nat):Int) 0)
theorem evList_kind (x:Family):KindOk (evList x):=by
 intro e he
 unfold evList at he
 rcases List.mem_append.1 he with he | he
 ·rcases List.mem_append.1 he with he | he
  ·rcases List.mem_append.1 he with he | he
   ·obtain ⟨p,_,rfl⟩:=List.mem_map.1 he;dsimp only;decide
   ·obtain ⟨p,_,rfl⟩:=List.mem_map.1 he;dsimp only;decide
  ·obtain ⟨p,_,rfl⟩:=List.mem_map.1 he;dsimp only;decide
 ·obtain ⟨p,_,rfl⟩:=List.mem_map.1 he;dsimp only;decide
theorem evList_len {x:Family} (hx:specIsFamily x=true):(evList x).length≤200:=by
 have h:=fam_n hx
 have h1:=List.length_filter_le (fun i=>decide (0≤(x.unions.getD i default).to)) (List.range x.unions.length)
 have h2:=List.length_filter_le (fun i=>decide (0≤(x.people.getD i default).died)) (List.range x.people.length)
 rw [List.length_range] at h1 h2
 unfold evList
 simp only [List.length_append,List.length_map]
 omega
theorem mapk_loop {α β γ:Type} [Inhabited α] (f:α→β) (l:List α) (k:List β→γ) (l0:List β):loopN (fun i (v:List β) next=>next (v++[f (l.getD i default)])) k l.length 0 l0=k (l0++l.map f):=by
 refine loopN_to (fun i (v:List β)=>v=l0++(l.take i).map f) (fun r=>r=k (l0++l.map f)) (by simp) (fun i v next hi hv hn=>hn _ ?_) (fun v hv=>by rw [hv,List.take_length])
 rw [take_snoc l default hi,List.map_append,← List.append_assoc,← hv];rfl
theorem filtk_loop {β γ:Type} (p:Nat→Bool) (g:Nat→β) (n:Nat) (k:List β→γ) (l0:List β):loopN (fun i (v:List β) next=>bif p i then next (v++[g i]) else next v) k n 0 l0=k (l0++((List.range n).filter p).map g):=by
 refine loopN_to (fun i (v:List β)=>v=l0++((List.range i).filter p).map g) (fun r=>r=k (l0++((List.range n).filter p).map g)) (by simp) (fun i v next hi hv hn=>?_) (fun v hv=>by rw [hv])
 cases c:p i<;>simp only [cond_true,cond_false]
 ·exact hn _ (by rw [hv,List.range_succ,List.filter_append,List.filter_cons,c];simp)
 ·exact hn _ (by rw [hv,List.range_succ,List.filter_append,List.filter_cons,c];simp)
theorem events_val (x:Family):l11Events x=(l11Order ((evList x).map evKey)).map fun k=>(evList x).getD k.toNat default:=by
 unfold l11Events
 rw [mapk_loop (fun p:Person=>Event.mk 1 p.born p.name p.sex p.father p.mother),mapk_loop (fun u:Union=>Event.mk 2 u.from0 ([]:List UInt8) 0 u.man u.woman),filtk_loop,filtk_loop,List.nil_append,mapk_loop (fun e:Event=>8 * e.year+e.kind),List.nil_append]
 exact mapk_loop (fun k:Int=>(evList x).getD k.toNat default) _ _ []
def C59 (R:(List Event)):LV×List (Nat×BC):=(.own 0,[(0,.arr 6 R.length (rowOf (cEvent true) R))])
def evts (x0:Family):(List Event):=loopN (fun i1 (v1:(List Event)) next=>next (v1++[(Event.mk 1 ((((chrono x0).people).getD i1 default).born) ((((chrono x0).people).getD i1 default).name) ((((chrono x0).people).getD i1 default).sex) ((((chrono x0).people).getD i1 default).father) ((((chrono x0).people).getD i1 default).mother))])) (fun (v1:(List Event))=>loopN (fun i2 (v2:(List Event)) next=>next (v2++[(Event.mk 2 ((((chrono x0).unions).getD i2 default).from0) ([]:List UInt8) 0 ((((chrono x0).unions).getD i2 default).man) ((((chrono x0).unions).getD i2 default).woman))])) (fun (v2:(List Event))=>loopN (fun i3 (v3:(List Event)) next=>bif (!decide (((((chrono x0).unions).getD i3 default).to)=(-1))) then (next (v3++[(Event.mk 3 ((((chrono x0).unions).getD i3 default).to) ([]:List UInt8) 0 ((((chrono x0).unions).getD i3 default).man) ((((chrono x0).unions).getD i3 default).woman))])) else (next v3)) (fun (v3:(List Event))=>loopN (fun i4 (v4:(List Event)) next=>bif (!decide (((((chrono x0).people).getD i4 default).died)=(-1))) then (next (v4++[(Event.mk 4 ((((chrono x0).people).getD i4 default).died) ([]:List UInt8) 0 ((i4:Nat):Int) 0)])) else (next v4)) (fun (v4:(List Event))=>bif (decide (2≤v4.length)) then (sliceW (SrtW.mk v4) ()) else (sliceX (SrtX.mk v4) ())) (((chrono x0).people).length) 0 v3) (((chrono x0).unions).length) 0 v2) (((chrono x0).unions).length) 0 v1) (((chrono x0).people).length) 0 ([]:List Event)
def D59b1 (x0:Family) (i1:Nat) (v1:(List Event)):Dl:=⟨[(17,.int .i64 ((i1:Nat):Int))],[(30300,.arr 6 v1.length (rowOf (cEvent true) v1)),(3,.var [.own 30300])]⟩
def D59b2 (x0:Family) (i1:Nat) (v1:(List Event)) (i2:Nat) (v2:(List Event)):Dl:=⟨[(39,.int .i64 ((i2:Nat):Int))],[(40300,.arr 6 v2.length (rowOf (cEvent true) v2)),(3,.var [.own 40300])]⟩
def D59b3 (x0:Family) (i1:Nat) (v1:(List Event)) (i2:Nat) (v2:(List Event)) (i3:Nat) (v3:(List Event)):Dl:=⟨[(57,.int .i64 ((i3:Nat):Int))],[(30300,.arr 6 v3.length (rowOf (cEvent true) v3)),(3,.var [.own 30300])]⟩
def D59b4 (x0:Family) (i1:Nat) (v1:(List Event)) (i2:Nat) (v2:(List Event)) (i3:Nat) (v3:(List Event)) (i4:Nat) (v4:(List Event)):Dl:=⟨[(78,.int .i64 ((i4:Nat):Int))],[(40300,.arr 6 v4.length (rowOf (cEvent true) v4)),(3,.var [.own 40300])]⟩
def A59b4 (x0:Family) (i1:Nat) (v1:(List Event)) (i2:Nat) (v2:(List Event)) (i3:Nat) (v3:(List Event)) (i4:Nat) (v4:(List Event)):Ann:=r0 1 [2,3,76,77,78,79] [3,1013,40300] (cn (decide (((i4:Nat):Int)<((((chrono x0).people).length:Nat):Int))) (r1 2 [2,3,10,11,76,77,78,85] [3,11,1013,40300] [pf (0≤(((i4:Nat):Int):Int)∧(((i4:Nat):Int):Int)<((((chrono x0).people).length:Nat):Int))] [0] (cn (!decide (((((chrono x0).people).getD i4 default).died)=(-1))) (.reg 1 [] [(5,bsC 91 (cEvent true) ([(Event.mk 4 ((((chrono x0).people).getD i4 default).died) ([]:List UInt8) 0 ((i4:Nat):Int) 0)]:List Event)),(6,ap1 92 (cEvent true) 56 v4 (Event.mk 4 ((((chrono x0).people).getD i4 default).died) ([]:List UInt8) 0 ((i4:Nat):Int) 0))] [2,3,76,77,78] [3,92,1013] [] [] [] [0,4] (r1 1 [2,3,76,77,78] [3,92,1013] [pf (inR .i64 (((i4:Nat):Int)+1))] [0] (.next 0 [(40300,some 92)] (D59b4 x0 i1 v1 i2 v2 i3 v3 (i4+1) (v4++[(Event.mk 4 ((((chrono x0).people).getD i4 default).died) ([]:List UInt8) 0 ((i4:Nat):Int) 0)]))))) (r1 1 [2,3,76,77,78] [3,1013,40300] [pf (inR .i64 (((i4:Nat):Int)+1))] [0] (.next 0 [(40300,some 40300)] (D59b4 x0 i1 v1 i2 v2 i3 v3 (i4+1) v4))))) (.split (decide (2≤v4.length)) (.reg 2 [] [(3,k112W 97 [40300,3] (SrtW.mk v4) ())] [2] [40300] [] [] [] [0] (rt [(0,some 40300)] (C59 (sliceW (SrtW.mk v4) ())))) (.reg 2 [] [(3,k112X 97 [40300,3] (SrtX.mk v4) ())] [2] [40300] [] [] [] [0] (rt [(0,some 40300)] (C59 (sliceX (SrtX.mk v4) ()))))))
def A59b3 (x0:Family) (i1:Nat) (v1:(List Event)) (i2:Nat) (v2:(List Event)) (i3:Nat) (v3:(List Event)):Ann:=r0 1 [1,2,3,55,56,57,58] [1,3,1013,2013,30300] (cn (decide (((i3:Nat):Int)<((((chrono x0).unions).length:Nat):Int))) (r1 2 [1,2,3,9,55,56,57,63] [1,3,9,1013,2013,30300] [pf (0≤(((i3:Nat):Int):Int)∧(((i3:Nat):Int):Int)<((((chrono x0).unions).length:Nat):Int))] [0] (cn (!decide (((((chrono x0).unions).getD i3 default).to)=(-1))) (.reg 1 [] [(8,bsC 72 (cEvent true) ([(Event.mk 3 ((((chrono x0).unions).getD i3 default).to) ([]:List UInt8) 0 ((((chrono x0).unions).getD i3 default).man) ((((chrono x0).unions).getD i3 default).woman))]:List Event)),(9,ap1 73 (cEvent true) 56 v3 (Event.mk 3 ((((chrono x0).unions).getD i3 default).to) ([]:List UInt8) 0 ((((chrono x0).unions).getD i3 default).man) ((((chrono x0).unions).getD i3 default).woman)))] [1,2,3,55,56,57] [1,3,73,1013,2013] [] [] [] [0,4] (r1 1 [1,2,3,55,56,57] [1,3,73,1013,2013] [pf (inR .i64 (((i3:Nat):Int)+1))] [0] (.next 0 [(30300,some 73)] (D59b3 x0 i1 v1 i2 v2 (i3+1) (v3++[(Event.mk 3 ((((chrono x0).unions).getD i3 default).to) ([]:List UInt8) 0 ((((chrono x0).unions).getD i3 default).man) ((((chrono x0).unions).getD i3 default).woman))]))))) (r1 1 [1,2,3,55,56,57] [1,3,1013,2013,30300] [pf (inR .i64 (((i3:Nat):Int)+1))] [0] (.next 0 [(30300,some 30300)] (D59b3 x0 i1 v1 i2 v2 (i3+1) v3))))) (r0 1 [2,3,76,77,78] [3,1013,30300] (lp (D59b4 x0 i1 v1 i2 v2 i3 v3) [] [30300] [(40300,some 30300)] (D59b4 x0 i1 v1 i2 v2 i3 v3 0 v3) (A59b4 x0 i1 v1 i2 v2 i3 v3))))
def A59b2 (x0:Family) (i1:Nat) (v1:(List Event)) (i2:Nat) (v2:(List Event)):Ann:=r0 1 [1,2,3,37,38,39,40] [1,3,1013,2013,40300] (cn (decide (((i2:Nat):Int)<((((chrono x0).unions).length:Nat):Int))) (r1 1 [1,2,3,7,37,38,39] [1,3,7,1013,2013,40300] [pf (0≤(((i2:Nat):Int):Int)∧(((i2:Nat):Int):Int)<((((chrono x0).unions).length:Nat):Int))] [0] (.reg 1 [] [(8,bsC 51 (cEvent true) ([(Event.mk 2 ((((chrono x0).unions).getD i2 default).from0) ([]:List UInt8) 0 ((((chrono x0).unions).getD i2 default).man) ((((chrono x0).unions).getD i2 default).woman))]:List Event)),(9,ap1 52 (cEvent true) 56 v2 (Event.mk 2 ((((chrono x0).unions).getD i2 default).from0) ([]:List UInt8) 0 ((((chrono x0).unions).getD i2 default).man) ((((chrono x0).unions).getD i2 default).woman)))] [1,2,3,37,38,39] [1,3,52,1013,2013] [] [] [] [0,4] (r1 1 [1,2,3,37,38,39] [1,3,52,1013,2013] [pf (inR .i64 (((i2:Nat):Int)+1))] [0] (.next 0 [(40300,some 52)] (D59b2 x0 i1 v1 (i2+1) (v2++[(Event.mk 2 ((((chrono x0).unions).getD i2 default).from0) ([]:List UInt8) 0 ((((chrono x0).unions).getD i2 default).man) ((((chrono x0).unions).getD i2 default).woman))])))))) (r0 1 [1,2,3,55,56,57] [1,3,1013,2013,40300] (lp (D59b3 x0 i1 v1 i2 v2) [] [40300] [(30300,some 40300)] (D59b3 x0 i1 v1 i2 v2 0 v2) (A59b3 x0 i1 v1 i2 v2))))
def A59b1 (x0:Family) (i1:Nat) (v1:(List Event)):Ann:=r0 1 [1,2,3,15,16,17,18] [1,3,1013,2013,30300] (cn (decide (((i1:Nat):Int)<((((chrono x0).people).length:Nat):Int))) (r1 1 [1,2,3,5,15,16,17] [1,3,5,1013,2013,30300] [pf (0≤(((i1:Nat):Int):Int)∧(((i1:Nat):Int):Int)<((((chrono x0).people).length:Nat):Int))] [0] (.reg 1 [] [(12,bsC 33 (cEvent true) ([(Event.mk 1 ((((chrono x0).people).getD i1 default).born) ((((chrono x0).people).getD i1 default).name) ((((chrono x0).people).getD i1 default).sex) ((((chrono x0).people).getD i1 default).father) ((((chrono x0).people).getD i1 default).mother))]:List Event)),(13,ap1 34 (cEvent true) 56 v1 (Event.mk 1 ((((chrono x0).people).getD i1 default).born) ((((chrono x0).people).getD i1 default).name) ((((chrono x0).people).getD i1 default).sex) ((((chrono x0).people).getD i1 default).father) ((((chrono x0).people).getD i1 default).mother)))] [1,2,3,15,16,17] [1,3,34,1013,2013] [] [] [] [0,4] (r1 1 [1,2,3,15,16,17] [1,3,34,1013,2013] [pf (inR .i64 (((i1:Nat):Int)+1))] [0] (.next 0 [(30300,some 34)] (D59b1 x0 (i1+1) (v1++[(Event.mk 1 ((((chrono x0).people).getD i1 default).born) ((((chrono x0).people).getD i1 default).name) ((((chrono x0).people).getD i1 default).sex) ((((chrono x0).people).getD i1 default).father) ((((chrono x0).people).getD i1 default).mother))])))))) (r0 1 [1,2,3,37,38,39] [1,3,1013,2013,30300] (lp (D59b2 x0 i1 v1) [] [30300] [(40300,some 30300)] (D59b2 x0 i1 v1 0 v1) (A59b2 x0 i1 v1))))
def A59 (x0:Family):Ann:=.reg 3 [] [(1001,k65 x0)] [1,2,3] [1,3,1013,2013] [] [] [] [0] (r0 1 [1,2,3,15,16,17] [1,3,1013,2013] (lp (D59b1 x0) [] [] [(30300,none)] (D59b1 x0 0 ([]:List Event)) (A59b1 x0)))
theorem ok_impl_eventsOf (x0:Family) (hx:x0.people.length≤1048576) (hu:x0.unions.length≤1048576) (hn:∀ p∈x0.people,p.name.length≤1048576) (hf:specIsFamily x0=true):FnT Try.prog 59 [.agg (cFamily false x0)] (C59 (evts x0)):=by
 have aux:∀ R,evts x0=R→slim (C59 R) (A59 x0) []:=by
  intro R hR
  refine rg ⟨⟨by with_reducible assumption,by with_reducible assumption,by with_reducible assumption,by with_reducible assumption⟩,trivial⟩ ?_
  refine rg trivial ?_
  revert hR;refine lN (fun i v=>EvI i v) (by (exact EvI.nil)) rfl fun i1 v1 F1 hn1 hI1 hR hK1=>?_
  refine rg trivial ?_
  refine ⟨fun hc1=>?_,fun hc1=>?_⟩
  ·have hii1:i1<((chrono x0).people).length:=by have:=of_decide_eq_true hc1;omega
   replace hR:=loopN_step hR hii1
   refine rg ⟨by (intros;omega),trivial⟩ ?_
   refine rg ⟨trivial,by (have h9:=fam_n (chrono_f hf);have h8:=hI1.len;(try simp only [inR]);omega),trivial⟩ ?_
   refine rg ⟨by (have h9:=fam_n (chrono_f hf);have h8:=hI1.len;(try simp only [inR]);omega),trivial⟩ ?_
   exact hK1 (v1++[(Event.mk 1 ((((chrono x0).people).getD i1 default).born) ((((chrono x0).people).getD i1 default).name) ((((chrono x0).people).getD i1 default).sex) ((((chrono x0).people).getD i1 default).father) ((((chrono x0).people).getD i1 default).mother))]) hii1 (by (exact hI1.snoc (by have h9:=fam_p (chrono_f hf) hii1;have h8:=h9.born;omega) (by decide))) hR
  ·obtain rfl:i1=((chrono x0).people).length:=by have:=of_decide_eq_false hc1;omega
   replace hR:=loopN_end hR (Nat.lt_irrefl _)
   refine rg trivial ?_
   revert hR;refine lN (fun i v=>EvI (40+i) v) (by (exact hI1.mono (by have h9:=fam_n (chrono_f hf);omega))) rfl fun i2 v2 F2 hn2 hI2 hR hK2=>?_
   refine rg trivial ?_
   refine ⟨fun hc2=>?_,fun hc2=>?_⟩
   ·have hii2:i2<((chrono x0).unions).length:=by have:=of_decide_eq_true hc2;omega
    replace hR:=loopN_step hR hii2
    refine rg ⟨by (intros;omega),trivial⟩ ?_
    refine rg ⟨trivial,by (have h9:=fam_n (chrono_f hf);have h8:=hI2.len;(try simp only [inR]);omega),trivial⟩ ?_
    refine rg ⟨by (have h9:=fam_n (chrono_f hf);have h8:=hI1.len;(try simp only [inR]);omega),trivial⟩ ?_
    exact hK2 (v2++[(Event.mk 2 ((((chrono x0).unions).getD i2 default).from0) ([]:List UInt8) 0 ((((chrono x0).unions).getD i2 default).man) ((((chrono x0).unions).getD i2 default).woman))]) hii2 (by (exact hI2.snoc (by have h9:=fam_p (chrono_f hf) (k:=(((chrono x0).unions.getD i2 default).man).toNat) (by have h7:=(fam_u (chrono_f hf) hii2).man;omega);have h8:=h9.born;have h6:=(fam_u (chrono_f hf) hii2).from0;omega) (by decide))) hR
   ·obtain rfl:i2=((chrono x0).unions).length:=by have:=of_decide_eq_false hc2;omega
    replace hR:=loopN_end hR (Nat.lt_irrefl _)
    refine rg trivial ?_
    revert hR;refine lN (fun i v=>EvI (100+i) v) (by (exact hI2.mono (by have h9:=fam_n (chrono_f hf);omega))) rfl fun i3 v3 F3 hn3 hI3 hR hK3=>?_
    refine rg trivial ?_
    refine ⟨fun hc3=>?_,fun hc3=>?_⟩
    ·have hii3:i3<((chrono x0).unions).length:=by have:=of_decide_eq_true hc3;omega
     replace hR:=loopN_step hR hii3
     refine rg ⟨by (intros;omega),trivial⟩ ?_
     revert hR;refine cd (fun hc4 hR=>?_) fun hc4 hR=>?_
     ·
       refine rg ⟨trivial,by (have h9:=fam_n (chrono_f hf);have h8:=hI3.len;(try simp only [inR]);omega),trivial⟩ ?_
       refine rg ⟨by (have h9:=fam_n (chrono_f hf);have h8:=hI1.len;(try simp only [inR]);omega),trivial⟩ ?_
       exact hK3 (v3++[(Event.mk 3 ((((chrono x0).unions).getD i3 default).to) ([]:List UInt8) 0 ((((chrono x0).unions).getD i3 default).man) ((((chrono x0).unions).getD i3 default).woman))]) hii3 (by (exact hI3.snoc (by have h6:=(fam_u (chrono_f hf) hii3).to;(try simp only [decide_eq_true_eq,Bool.not_eq_true',decide_eq_false_iff_not] at *);have h9:=fam_p (chrono_f hf) (k:=(((chrono x0).unions.getD i3 default).man).toNat) (by have h7:=(fam_u (chrono_f hf) hii3).man;omega);have h8:=h9.born;have h5:=(fam_u (chrono_f hf) hii3).from0;omega) (by decide))) hR
     ·
       refine rg ⟨by (have h9:=fam_n (chrono_f hf);have h8:=hI1.len;(try simp only [inR]);omega),trivial⟩ ?_
       exact hK3 v3 hii3 (by (exact hI3.mono (by have h9:=fam_n (chrono_f hf);omega))) hR
    ·obtain rfl:i3=((chrono x0).unions).length:=by have:=of_decide_eq_false hc3;omega
     replace hR:=loopN_end hR (Nat.lt_irrefl _)
     refine rg trivial ?_
     revert hR;refine lN (fun i v=>EvI (160+i) v) (by (exact hI3.mono (by have h9:=fam_n (chrono_f hf);omega))) rfl fun i4 v4 F4 hn4 hI4 hR hK4=>?_
     refine rg trivial ?_
     refine ⟨fun hc5=>?_,fun hc5=>?_⟩
     ·have hii4:i4<((chrono x0).people).length:=by have:=of_decide_eq_true hc5;omega
      replace hR:=loopN_step hR hii4
      refine rg ⟨by (intros;omega),trivial⟩ ?_
      revert hR;refine cd (fun hc6 hR=>?_) fun hc6 hR=>?_
      ·
        refine rg ⟨trivial,by (have h9:=fam_n (chrono_f hf);have h8:=hI4.len;(try dsimp only);omega),trivial⟩ ?_
        refine rg ⟨by (have h9:=fam_n (chrono_f hf);have h8:=hI1.len;(try simp only [inR]);omega),trivial⟩ ?_
        exact hK4 (v4++[(Event.mk 4 ((((chrono x0).people).getD i4 default).died) ([]:List UInt8) 0 ((i4:Nat):Int) 0)]) hii4 (by (exact hI4.snoc (by have h9:=fam_p (chrono_f hf) hii4;have h8:=h9.born;have h7:=h9.died;(try simp only [decide_eq_true_eq,Bool.not_eq_true',decide_eq_false_iff_not] at *);omega) (by decide))) hR
      ·
        refine rg ⟨by (have h9:=fam_n (chrono_f hf);have h8:=hI1.len;(try simp only [inR]);omega),trivial⟩ ?_
        exact hK4 v4 hii4 (by (exact hI4.mono (by have h9:=fam_n (chrono_f hf);omega))) hR
     ·obtain rfl:i4=((chrono x0).people).length:=by have:=of_decide_eq_false hc5;omega
      replace hR:=loopN_end hR (Nat.lt_irrefl _)
      revert hR;refine cd (fun hs7 hR=>?_) fun hs7 hR=>?_
      ·
        refine rg ⟨⟨by (have h9:=fam_n (chrono_f hf);have h8:=hI4.len;(try dsimp only);omega),by (exact ⟨trivial,rfl⟩),by (with_reducible exact of_decide_eq_true (by assumption))⟩,trivial⟩ ?_
        exact congrArg C59 hR
      ·
        refine rg ⟨by ((dsimp only;exact Nat.le_of_lt_succ (Nat.lt_of_not_le (of_decide_eq_false (by assumption))))),trivial⟩ ?_
        exact congrArg C59 hR
 exact Fn.go 99 Try.func59 (by kernel_rfl) (by kernel_rfl) (by simp [C59,Frs,FrsL,FrsB,rowOf,cInt,cBool,cStr,cSl,FrsL_app,cPerson,cUnion,cFamily,cEvent,cl01Cur]) (A59 x0) (by kernel_rfl) (aux _ rfl)
def k59 (x0:Family):Cl:=(hres (C59 (evts x0)),k4 (ok_impl_eventsOf x0))
def C22 (R:(List Event)):LV×List (Nat×BC):=(.own 0,[(0,.arr 6 R.length (rowOf (cEvent true) R))])
def implEvents (x0:Family):(List Event):=bif (!(implIsFamily x0)) then ([]:List Event) else (evts x0)
def A22 (x0:Family):Ann:=r0 1 [1,2] [1] (.reg 1 [] [(1,k50 x0)] [1,2,5] [1] [] [] [] [0] (cn (!(implIsFamily x0)) (r0 1 [1,2] [1] (rt [(0,none)] (C22 ([]:List Event)))) (.reg 1 [] [(1,k59 x0)] [2] [1007] [] [] [] [0] (rt [(0,some 1007)] (C22 (evts x0))))))
theorem ok_impl_EventsOf (x0:Family) (hx:x0.people.length≤1048576) (hu:x0.unions.length≤1048576) (hn:∀ p∈x0.people,p.name.length≤1048576):FnT Try.prog 22 [.agg (cFamily false x0)] (C22 (implEvents x0)):=by
 have aux:∀ R,implEvents x0=R→slim (C22 R) (A22 x0) []:=by
  intro R hR
  refine rg trivial ?_
  refine rg ⟨⟨by with_reducible assumption,by with_reducible assumption,by with_reducible assumption⟩,trivial⟩ ?_
  revert hR;refine cd (fun hc1 hR=>?_) fun hc1 hR=>?_
  ·
    refine rg trivial ?_
    exact congrArg C22 hR
  ·
    refine rg ⟨⟨by with_reducible assumption,by with_reducible assumption,by with_reducible assumption,by (rw [← isFamily_eq];simpa using hc1)⟩,trivial⟩ ?_
    exact congrArg C22 hR
 exact Fn.go 8 Try.func22 (by kernel_rfl) (by kernel_rfl) (by simp [C22,Frs,FrsL,FrsB,rowOf,cInt,cBool,cStr,cSl,FrsL_app,cPerson,cUnion,cFamily,cEvent,cl01Cur]) (A22 x0) (by kernel_rfl) (aux _ rfl)
def k22 (x0:Family):Cl:=(hres (C22 (implEvents x0)),k3 (ok_impl_EventsOf x0))
theorem evts_val {x:Family} (hx:specIsFamily x=true):evts x=l11Events (l11Sorted x):=by
 have hf:=(sorted_ok hx).1
 rw [events_val]
 unfold evts
 rw [chrono_eq hx]
 revert hf
 generalize l11Sorted x=z
 intro hf
 have e1:∀ i:Nat,i<z.unions.length→(!decide (((z.unions.getD i default).to)=(-1)))=decide (0≤(z.unions.getD i default).to):=fun i hi=>by
  have h:=fam_u hf hi
  have h1:=h.to
  have h2:=h.from0
  have h3:=(fam_p hf (k:=(z.unions.getD i default).man.toNat) (by have:=h.man;omega)).born
  by_cases c:(z.unions.getD i default).to=-1
  ·rw [decide_eq_true c,decide_eq_false (by omega)];rfl
  ·rw [decide_eq_false c,decide_eq_true (by omega)];rfl
 have e2:∀ i:Nat,i<z.people.length→(!decide (((z.people.getD i default).died)=(-1)))=decide (0≤(z.people.getD i default).died):=fun i hi=>by
  have h:=fam_p hf hi
  have h1:=h.died
  have h2:=h.born
  by_cases c:(z.people.getD i default).died=-1
  ·rw [decide_eq_true c,decide_eq_false (by omega)];rfl
  ·rw [decide_eq_false c,decide_eq_true (by omega)];rfl
 rw [mapk_loop (fun p:Person=>Event.mk 1 p.born p.name p.sex p.father p.mother),mapk_loop (fun u:Union=>Event.mk 2 u.from0 ([]:List UInt8) 0 u.man u.woman),List.nil_append,filtk_loop,filtk_loop]
 rw [List.filter_congr (q:=fun i=>decide (0≤(z.unions.getD i default).to)) (fun i hi=>e1 i (List.mem_range.1 hi)),List.filter_congr (q:=fun i=>decide (0≤(z.people.getD i default).died)) (fun i hi=>e2 i (List.mem_range.1 hi))]
 show (bif decide (2≤(evList z).length) then sliceW (SrtW.mk (evList z)) () else sliceX (SrtX.mk (evList z)) ())=_
 have hl:=evList_len hf
 cases c:decide (2≤(evList z).length)<;>simp only [cond_true,cond_false]
 ·exact xs_val c
 ·exact ws_val (evList_kind z) (by omega)
theorem events_eq (x:Family):implEvents x=specEvents x:=by
 unfold implEvents specEvents
 rw [isFamily_eq]
 cases c:specIsFamily x
 ·rfl
 ·simp only [Bool.not_true,cond_false];exact evts_val c
theorem kLt_unique {keys : List Int} : ∀ {l m : List Int}, l.Pairwise (kLt keys) → m.Pairwise (kLt keys) → l.Perm m → l = m
  | [],m,_,_,hp=>(List.Perm.nil_eq hp)
  | a :: l,[],_,_,hp=>absurd hp.length_eq (by simp)
  | a :: l,b :: m,hl,hm,hp=>by
    obtain ⟨hl1,hl2⟩:=List.pairwise_cons.1 hl
    obtain ⟨hm1,hm2⟩:=List.pairwise_cons.1 hm
    have h1:a∈b :: m:=hp.mem_iff.1 List.mem_cons_self
    have h2:b∈a :: l:=hp.mem_iff.2 List.mem_cons_self
    have hab:a=b:=by
      rcases List.mem_cons.1 h1 with e | e
      · exact e
      · rcases List.mem_cons.1 h2 with e2 | e2
        · exact e2.symm
        · have g1:=hm1 a e
          have g2:=hl1 b e2
          unfold kLt at g1 g2
          omega
    subst hab
    rw [kLt_unique hl2 hm2 (List.Perm.cons_inv hp)]
theorem order_id {α:Type} [Inhabited α] (f:α→Int) (l:List α) (hs:∀ i j:Nat,i≤j→j<l.length→f (l.getD i default)≤f (l.getD j default)):l11Order (l.map f)=upto l.length:=by
 have ho:=(order_ok (l.map f)).pw
 refine kLt_unique ho ?_ (order_map f l)
 refine List.Pairwise.imp_of_mem (fun {a b} ha hb h=>?_) (upto_lt l.length)
 have ha:=mem_upto.1 ha
 have hb:=mem_upto.1 hb
 unfold kLt
 rw [getD_map f (by omega),getD_map f (by omega)]
 have:=hs a.toNat b.toNat (by omega) (by omega)
 omega
theorem re_self {x:Family} (hx:specIsFamily x=true):reFamily x (upto x.people.length)=x:=by
 have h:=permOk (x:=x) (List.Perm.refl (upto x.people.length))
 have hp:∀ q:Int,0≤q→q<x.people.length→(l1Inverse (upto x.people.length) ((x.people.length:Nat):Int)).1.getD q.toNat default=q:=fun q h0 h1=>by
  obtain ⟨g1,g2⟩:=h.pos q h0 h1
  rw [upto_getD (by omega)] at g2
  omega
 obtain ⟨P,U⟩:=x
 unfold reFamily
 dsimp only at h hp ⊢
 congr 1
 ·refine ext_g (by rw [List.length_map,upto_len]) fun k hk=>?_
  rw [List.length_map,upto_len] at hk
  rw [getD_map (fun i:Int=>rePerson (l1Inverse (upto P.length) ((P.length:Nat):Int)).1 (P.getD i.toNat default)) (by rw [upto_len];exact hk),upto_getD hk,Int.toNat_natCast]
  have p:=fam_p hx (k:=k) hk
  have fa:=p.fa
  have mo:=p.mo
  dsimp only at fa mo
  unfold rePerson
  have e1:(bif decide (0≤(P.getD k default).father) then (l1Inverse (upto P.length) ((P.length:Nat):Int)).1.getD (P.getD k default).father.toNat default else (P.getD k default).father)=(P.getD k default).father:=by
   cases c:decide (0≤(P.getD k default).father)
   ·rfl
   ·have c:=of_decide_eq_true c;exact hp _ c (by omega)
  have e2:(bif decide (0≤(P.getD k default).mother) then (l1Inverse (upto P.length) ((P.length:Nat):Int)).1.getD (P.getD k default).mother.toNat default else (P.getD k default).mother)=(P.getD k default).mother:=by
   cases c:decide (0≤(P.getD k default).mother)
   ·rfl
   ·have c:=of_decide_eq_true c;exact hp _ c (by omega)
  rw [e1,e2]
 ·refine ext_g (by rw [List.length_map]) fun k hk=>?_
  rw [List.length_map] at hk
  rw [getD_map (reUnion (l1Inverse (upto P.length) ((P.length:Nat):Int)).1) hk]
  have u:=fam_u hx (k:=k) hk
  have hm:=u.man
  have hw:=u.woman
  dsimp only at hm hw
  unfold reUnion
  rw [hp _ hm.1 hm.2,hp _ hw.1 hw.2]
theorem sorted_self {x:Family} (hx:specIsFamily x=true) (hy:Years x):l11Sorted x=x:=by
 have e1:byBirth x=upto x.people.length:=order_id (fun p:Person=>p.born) x.people hy.p
 rw [sorted_val hx,e1,re_self hx]
 have e2:byFrom x=upto x.unions.length:=order_id (fun u:Union=>u.from0) x.unions hy.u
 rw [e2,upto_map]

def bEv (x:Family) (i:Nat):Event:=Event.mk 1 (x.people.getD i default).born (x.people.getD i default).name (x.people.getD i default).sex (x.people.getD i default).father (x.people.getD i default).mother
def uEv (x:Family) (i:Nat):Event:=Event.mk 2 (x.unions.getD i default).from0 [] 0 (x.unions.getD i default).man (x.unions.getD i default).woman
def pEv (x:Family) (i:Nat):Event:=Event.mk 3 (x.unions.getD i default).to [] 0 (x.unions.getD i default).man (x.unions.getD i default).woman
def dEv (x:Family) (i:Nat):Event:=Event.mk 4 (x.people.getD i default).died [] 0 ((i:Nat):Int) 0
theorem map_range {α β:Type} [Inhabited α] (f:α→β) (l:List α):l.map f=(List.range l.length).map fun i=>f (l.getD i default):=by
 apply List.ext_getElem (by simp)
 intro k h1 h2
 rw [List.length_map] at h1
 simp [List.getD_eq_getElem?_getD,List.getElem?_eq_getElem h1]
theorem evList_eq (x:Family):evList x=((((List.range x.people.length).map (bEv x))++((List.range x.unions.length).map (uEv x)))++(((List.range x.unions.length).filter fun i=>decide (0≤(x.unions.getD i default).to)).map (pEv x)))++(((List.range x.people.length).filter fun i=>decide (0≤(x.people.getD i default).died)).map (dEv x)):=by
 unfold evList
 rw [map_range (fun p:Person=>Event.mk 1 p.born p.name p.sex p.father p.mother),map_range (fun u:Union=>Event.mk 2 u.from0 ([]:List UInt8) 0 u.man u.woman)]
 rfl
theorem evList_mem {x:Family} {e:Event} (h:e∈evList x):(∃ i,i<x.people.length∧e=bEv x i)∨(∃ i,i<x.unions.length∧e=uEv x i)∨(∃ i,i<x.unions.length∧0≤(x.unions.getD i default).to∧e=pEv x i)∨∃ i,i<x.people.length∧0≤(x.people.getD i default).died∧e=dEv x i:=by
 rw [evList_eq] at h
 rcases List.mem_append.1 h with h | h
 ·rcases List.mem_append.1 h with h | h
  ·rcases List.mem_append.1 h with h | h
   ·obtain ⟨i,hi,rfl⟩:=List.mem_map.1 h;exact .inl ⟨i,List.mem_range.1 hi,rfl⟩
   ·obtain ⟨i,hi,rfl⟩:=List.mem_map.1 h;exact .inr (.inl ⟨i,List.mem_range.1 hi,rfl⟩)
  ·obtain ⟨i,hi,rfl⟩:=List.mem_map.1 h
   obtain ⟨h1,h2⟩:=List.mem_filter.1 hi
   exact .inr (.inr (.inl ⟨i,List.mem_range.1 h1,of_decide_eq_true h2,rfl⟩))
 ·obtain ⟨i,hi,rfl⟩:=List.mem_map.1 h
  obtain ⟨h1,h2⟩:=List.mem_filter.1 hi
  exact .inr (.inr (.inr ⟨i,List.mem_range.1 h1,of_decide_eq_true h2,rfl⟩))
theorem bEv_mem {x:Family} {i:Nat} (h:i<x.people.length):bEv x i∈evList x:=by
 rw [evList_eq]
 exact List.mem_append_left _ (List.mem_append_left _ (List.mem_append_left _ (List.mem_map.2 ⟨i,List.mem_range.2 h,rfl⟩)))
theorem uEv_mem {x:Family} {i:Nat} (h:i<x.unions.length):uEv x i∈evList x:=by
 rw [evList_eq]
 exact List.mem_append_left _ (List.mem_append_left _ (List.mem_append_right _ (List.mem_map.2 ⟨i,List.mem_range.2 h,rfl⟩)))
theorem pEv_mem {x:Family} {i:Nat} (h:i<x.unions.length) (h2:0≤(x.unions.getD i default).to):pEv x i∈evList x:=by
 rw [evList_eq]
 exact List.mem_append_left _ (List.mem_append_right _ (List.mem_map.2 ⟨i,List.mem_filter.2 ⟨List.mem_range.2 h,decide_eq_true h2⟩,rfl⟩))
theorem dEv_mem {x:Family} {i:Nat} (h:i<x.people.length) (h2:0≤(x.people.getD i default).died):dEv x i∈evList x:=by
 rw [evList_eq]
 exact List.mem_append_right _ (List.mem_map.2 ⟨i,List.mem_filter.2 ⟨List.mem_range.2 h,decide_eq_true h2⟩,rfl⟩)
theorem bEv_inj {x:Family} (hx:specIsFamily x=true) {i j:Nat} (hi:i<x.people.length) (hj:j<x.people.length) (h:bEv x i=bEv x j):i=j:=by
 have e:(x.people.getD i default).name=(x.people.getD j default).name:=congrArg Event.name h
 rcases Nat.lt_trichotomy i j with g | g | g
 ·exact absurd e ((fam_p hx hj).uniq i g)
 ·exact g
 ·exact absurd e.symm ((fam_p hx hi).uniq j g)
theorem un_inj {x:Family} (hx:specIsFamily x=true) {i j:Nat} (hi:i<x.unions.length) (hj:j<x.unions.length) (h1:(x.unions.getD i default).man=(x.unions.getD j default).man) (h2:(x.unions.getD i default).woman=(x.unions.getD j default).woman):i=j:=by
 rcases Nat.lt_trichotomy i j with g | g | g
 ·exact absurd h2 ((fam_u hx hj).uniq i g h1)
 ·exact g
 ·exact absurd h2.symm ((fam_u hx hi).uniq j g h1.symm)
theorem nodup_map {α β:Type} {f:α→β} {l:List α} (hn:l.Nodup) (h:∀ a∈l,∀ b∈l,f a=f b→a=b):(l.map f).Nodup:=by
 rw [List.nodup_iff_pairwise_ne,List.pairwise_map]
 exact List.Pairwise.imp_of_mem (fun {a b} ha hb hab e=>hab (h a ha b hb e)) (List.nodup_iff_pairwise_ne.1 hn)
theorem evList_nodup {x:Family} (hx:specIsFamily x=true):(evList x).Nodup:=by
 have hr:∀ n:Nat,(List.range n).Nodup:=fun n=>List.nodup_range
 rw [evList_eq]
 refine List.nodup_append.2 ⟨List.nodup_append.2 ⟨List.nodup_append.2 ⟨nodup_map (hr _) fun a ha b hb e => bEv_inj hx (List.mem_range.1 ha) (List.mem_range.1 hb) e, nodup_map (hr _) fun a ha b hb e => un_inj hx (List.mem_range.1 ha) (List.mem_range.1 hb) (congrArg Event.a e) (congrArg Event.b e), fun a ha b hb => ?_⟩,
   nodup_map ((hr _).filter _) fun a ha b hb e=>un_inj hx (List.mem_range.1 (List.mem_filter.1 ha).1) (List.mem_range.1 (List.mem_filter.1 hb).1) (congrArg Event.a e) (congrArg Event.b e),fun a ha b hb=>?_⟩,
   nodup_map ((hr _).filter _) fun a ha b hb e=>(by have h9:((a:Nat):Int)=((b:Nat):Int):=congrArg Event.a e;omega),fun a ha b hb=>?_⟩
 ·obtain ⟨i,_,rfl⟩:=List.mem_map.1 ha
  obtain ⟨j,_,rfl⟩:=List.mem_map.1 hb
  intro e;exact absurd (congrArg Event.kind e) (by decide:¬ (1:Int)=2)
 ·obtain ⟨j,_,rfl⟩:=List.mem_map.1 hb
  rcases List.mem_append.1 ha with ha | ha
  ·obtain ⟨i,_,rfl⟩:=List.mem_map.1 ha
   intro e;exact absurd (congrArg Event.kind e) (by decide:¬ (1:Int)=3)
  ·obtain ⟨i,_,rfl⟩:=List.mem_map.1 ha
   intro e;exact absurd (congrArg Event.kind e) (by decide:¬ (2:Int)=3)
 ·obtain ⟨j,_,rfl⟩:=List.mem_map.1 hb
  rcases List.mem_append.1 ha with ha | ha
  ·rcases List.mem_append.1 ha with ha | ha
   ·obtain ⟨i,_,rfl⟩:=List.mem_map.1 ha
    intro e;exact absurd (congrArg Event.kind e) (by decide:¬ (1:Int)=4)
   ·obtain ⟨i,_,rfl⟩:=List.mem_map.1 ha
    intro e;exact absurd (congrArg Event.kind e) (by decide:¬ (2:Int)=4)
  ·obtain ⟨i,_,rfl⟩:=List.mem_map.1 ha
   intro e;exact absurd (congrArg Event.kind e) (by decide:¬ (3:Int)=4)
theorem sortedEv_perm (x:Family):(l11Events x).Perm (evList x):=by
 rw [events_val]
 have h:=(order_map evKey (evList x)).map fun k:Int=>(evList x).getD k.toNat default
 rw [upto_map] at h
 exact h
theorem sortedEv_srt (x:Family):(l11Events x).Pairwise fun a b=>evKey a≤evKey b:=by
 rw [events_val]
 refine ((order_st evKey (evList x)).1).imp fun {a b} h=>?_
 unfold byKey at h
 have:=of_decide_eq_false h
 omega
theorem order_filter {α:Type} [Inhabited α] (f:α→Int) (l:List α) (q:α→Bool) (hs:(l.filter q).Pairwise fun a b=>f a≤f b):((l11Order (l.map f)).map fun k=>l.getD k.toNat default).filter q=l.filter q:=by
 have ho:=order_ok (l.map f)
 have hp:=order_map f l
 have e:l.filter q=((upto l.length).map fun k=>l.getD k.toNat default).filter q:=by rw [upto_map]
 rw [e,List.filter_map] at hs
 rw [e,List.filter_map,List.filter_map]
 congr 1
 refine kLt_unique (keys:=l.map f) (ho.pw.filter _) ?_ (hp.filter _)
 rw [List.pairwise_map] at hs
 refine List.Pairwise.imp_of_mem (R:=fun a b=>a<b∧f (l.getD a.toNat default)≤f (l.getD b.toNat default)) (fun {a b} ha hb h=>?_) (List.Pairwise.and ((upto_lt l.length).filter _) hs)
 have ha:=mem_upto.1 (List.mem_filter.1 ha).1
 have hb:=mem_upto.1 (List.mem_filter.1 hb).1
 unfold kLt
 rw [getD_map f (by omega),getD_map f (by omega)]
 omega
theorem filt_all {α β:Type} (f:α→β) (q:β→Bool) (l:List α) (h:∀ a,q (f a)=true):(l.map f).filter q=l.map f:=by
 rw [List.filter_eq_self]
 intro b hb
 obtain ⟨a,_,rfl⟩:=List.mem_map.1 hb
 exact h a
theorem filt_non {α β:Type} (f:α→β) (q:β→Bool) (l:List α) (h:∀ a,q (f a)=false):(l.map f).filter q=[]:=by
 rw [List.filter_eq_nil_iff]
 intro b hb
 obtain ⟨a,_,rfl⟩:=List.mem_map.1 hb
 rw [h a];simp
def isK (k:Int) (e:Event):Bool:=decide (e.kind=k)
theorem evList_b (x:Family):(evList x).filter (isK 1)=(List.range x.people.length).map (bEv x):=by
 rw [evList_eq,List.filter_append,List.filter_append,List.filter_append,filt_all (bEv x) _ _ (fun a=>rfl),filt_non (uEv x) _ _ (fun a=>rfl),filt_non (pEv x) _ _ (fun a=>rfl),filt_non (dEv x) _ _ (fun a=>rfl)]
 simp
theorem evList_u (x:Family):(evList x).filter (isK 2)=(List.range x.unions.length).map (uEv x):=by
 rw [evList_eq,List.filter_append,List.filter_append,List.filter_append,filt_non (bEv x) _ _ (fun a=>rfl),filt_all (uEv x) _ _ (fun a=>rfl),filt_non (pEv x) _ _ (fun a=>rfl),filt_non (dEv x) _ _ (fun a=>rfl)]
 simp
theorem range_pw {n:Nat} {β:Type} (f:Nat→β) (R:β→β→Prop) (h:∀ i j:Nat,i<j→j<n→R (f i) (f j)):((List.range n).map f).Pairwise R:=by
 rw [List.pairwise_map]
 exact List.Pairwise.imp_of_mem (fun {a b} ha hb hab=>h a b hab (List.mem_range.1 hb)) List.pairwise_lt_range
theorem sortedEv_b {x:Family} (hy:Years x):(l11Events x).filter (isK 1)=(List.range x.people.length).map (bEv x):=by
 rw [events_val,order_filter,evList_b]
 rw [evList_b]
 refine range_pw (bEv x) (fun a b=>evKey a≤evKey b) fun i j hij hj=>?_
 have h:(x.people.getD i default).born≤(x.people.getD j default).born:=hy.p i j (by omega) hj
 show 8 * (x.people.getD i default).born+1≤8 * (x.people.getD j default).born+1
 omega
theorem sortedEv_u {x:Family} (hy:Years x):(l11Events x).filter (isK 2)=(List.range x.unions.length).map (uEv x):=by
 rw [events_val,order_filter,evList_u]
 rw [evList_u]
 refine range_pw (uEv x) (fun a b=>evKey a≤evKey b) fun i j hij hj=>?_
 have h:(x.unions.getD i default).from0≤(x.unions.getD j default).from0:=hy.u i j (by omega) hj
 show 8 * (x.unions.getD i default).from0+2≤8 * (x.unions.getD j default).from0+2
 omega
end Go.Proofs.Ytepefimocflfkaa
