import Derived.Test.YtlinnkjieghmhaaGreatDoorVS77
set_option maxHeartbeats 4000000
set_option linter.unusedSimpArgs false
set_option linter.unusedVariables false
namespace Go.Proofs.YtlinnkjieghmhaaGreatDoor
open Go Go.Lite Go.Proofs
theorem zpo {x:yc} (hx:za9 x=true):zb8 x=zdv x:=by
 rw [zlv hx]
 have ho:=zoi hx (zgc (fun p:ya=>p.born) x.people)
 have ho2:zdc x (zb9 x)=zbo x (zb9 x):=ho
 have hu:(zbo x (zb9 x)).unions.length≤255:=by rw [← ho2];exact zzk hx
 unfold zb8
 cases c:decide (2≤(zdy ((x.people.length:Nat):Int)).length)<;>simp only [cond_true,cond_false]
 ·rw [zqg c,ho2]
  cases d:decide (2≤(zbo x (zb9 x)).unions.length)<;>simp only [cond_true,cond_false]
  ·rw [z25 d]
  ·rw [z26 hu]
 ·rw [zqh hx,ho2]
  cases d:decide (2≤(zbo x (zb9 x)).unions.length)<;>simp only [cond_true,cond_false]
  ·rw [z25 d]
  ·rw [z26 hu]
theorem z2s (x:yc):zct x=zn0 x:=by
 unfold zct zn0
 rw [zdk]
 cases c:za9 x
 ·rfl
 ·simp only [Bool.not_true,cond_false];exact zpo c
structure EvI (n:Nat) (l:List yd):Prop where
 len:l.length≤n
 rng:∀ e∈l,(0≤e.year∧e.year≤9999)∧1≤e.kind∧e.kind≤4
theorem EvI.nil:EvI 0 []:=⟨Nat.le_refl _,fun e he=>absurd he List.not_mem_nil⟩
theorem EvI.mono {n m:Nat} {l:List yd} (h:EvI n l) (hm:n≤m):EvI m l:=⟨Nat.le_trans h.len hm,h.rng⟩
theorem EvI.snoc {n:Nat} {l:List yd} (h:EvI n l) {k y s a b:Int} {nm:List UInt8} (hy:0≤y∧y≤9999) (hk:1≤k∧k≤4):EvI (n+1) (l++[yd.mk k y nm s a b]):=by
 refine ⟨by rw [List.length_append,List.length_singleton];have:=h.len;omega,fun e he=>?_⟩
 rcases List.mem_append.1 he with he | he
 ·exact h.rng e he
 ·rw [List.mem_singleton.1 he];exact ⟨hy,hk⟩
theorem EvI.at {n:Nat} {l:List yd} (h:EvI n l) {i:Nat} (hi:i<l.length):(0≤(l.getD i default).year∧(l.getD i default).year≤9999)∧1≤(l.getD i default).kind∧(l.getD i default).kind≤4:=h.rng _ (zd0 hi)
theorem zc4 {x:yc} (hx:za9 x=true):za9 (zb8 x)=true:=by rw [zpo hx];exact (zn2 hx).1
def zbm (x0:yc):(List yd):=loopN (fun i1 (v1:(List yd)) next=>next (v1++[(yd.mk 1 ((x0.people.getD i1 default).born) ((x0.people.getD i1 default).name) ((x0.people.getD i1 default).sex) ((x0.people.getD i1 default).father) ((x0.people.getD i1 default).mother))])) (fun (v1:(List yd))=>loopN (fun i2 (v2:(List yd)) next=>next (v2++[(yd.mk 2 ((x0.unions.getD i2 default).from0) ([]:List UInt8) 0 ((x0.unions.getD i2 default).man) ((x0.unions.getD i2 default).woman))])) (fun (v2:(List yd))=>loopN (fun i3 (v3:(List yd)) next=>bif (decide (0≤((x0.unions.getD i3 default).to))) then (next (v3++[(yd.mk 3 ((x0.unions.getD i3 default).to) ([]:List UInt8) 0 ((x0.unions.getD i3 default).man) ((x0.unions.getD i3 default).woman))])) else (next v3)) (fun (v3:(List yd))=>loopN (fun i4 (v4:(List yd)) next=>bif (decide (0≤((x0.people.getD i4 default).died))) then (next (v4++[(yd.mk 4 ((x0.people.getD i4 default).died) ([]:List UInt8) 0 ((i4:Nat):Int) 0)])) else (next v4)) (fun (v4:(List yd))=>loopN (fun i5 (v5:(List Int)) next=>next (v5++[(8 * ((v4.getD i5 default).year))+((v4.getD i5 default).kind)])) (fun (v5:(List Int))=>loopN (fun i6 (v6:(List yd)) next=>next (v6++[(v4.getD (((zb7 v5).getD i6 default).toNat) default)])) (fun (v6:(List yd))=>v6) ((zb7 v5).length) 0 ([]:List yd)) v4.length 0 ([]:List Int)) x0.people.length 0 v3) x0.unions.length 0 v2) x0.unions.length 0 v1) x0.people.length 0 ([]:List yd)
def zi4 (x0:yc):(List yd):=bif (!(za9 x0)) then ([]:List yd) else (zbm (zdv x0))
theorem zy6 (x:yj) (u v:yd):RW x u v=true↔u.year<v.year∨(u.year=v.year∧u.kind<v.kind):=by
 unfold RW
 simp only [Bool.or_eq_true,Bool.and_eq_true,decide_eq_true_eq]
theorem z28 (x:yj):SWO (RW x):=by
 have hf:∀ u v,RW x u v=false↔¬ (u.year<v.year∨(u.year=v.year∧u.kind<v.kind)):=fun u v=>by rw [← zy6 x];cases RW x u v<;>simp
 exact ⟨fun u=>(hf u u).2 om,fun u v h=>(hf v u).2 (by have:=(zy6 x u v).1 h;omega),fun u v w h1 h2=>(hf u w).2 (by have:=(hf u v).1 h1;have:=(hf v w).1 h2;omega)⟩
def evKey (e:yd):Int:=8 * e.year+e.kind
def zwy (l:List yd):Prop:=∀ e∈l,1≤e.kind∧e.kind≤4
theorem zy5 (x:yj) {u v:yd} (hu:1≤u.kind∧u.kind≤4) (hv:1≤v.kind∧v.kind≤4):RW x u v=byKey evKey u v:=by
 apply Bool.eq_iff_iff.2
 rw [zy6]
 unfold byKey evKey
 rw [decide_eq_true_eq]
 omega
theorem rw_fin (x:yj) {l m:List yd} (hl:zwy l) (hm:∀ e∈m,e∈l) (h1:SrtL (RW x) m) (h2:StEq (RW x) l m):m=(zb7 (l.map evKey)).map fun k=>l.getD k.toNat default:=by
 have hmk:zwy m:=fun e he=>hl e (hm e he)
 refine zlt evKey ?_ fun z=>?_
 ·refine List.Pairwise.imp_of_mem (fun {a b} ha hb h=>?_) h1
  rw [← zy5 x (hmk b hb) (hmk a ha)];exact h
 ·by_cases c:∃ y,y∈l∧eqc (byKey evKey) z y=true
  ·obtain ⟨y,hy,hc⟩:=c
   have hz:∀ e:yd,1≤e.kind∧e.kind≤4→eqc (byKey evKey) z e=eqc (RW x) y e:=fun e he=>by
    unfold eqc
    rw [zy5 x (hl y hy) he,zy5 x he (hl y hy)]
    unfold eqc byKey at hc
    simp only [Bool.and_eq_true,Bool.not_eq_true',decide_eq_false_iff_not] at hc
    have e1:evKey z=evKey y:=by omega
    unfold byKey
    rw [e1]
   rw [List.filter_congr (q:=eqc (RW x) y) (fun e he=>hz e (hmk e he)),List.filter_congr (q:=eqc (RW x) y) (fun e he=>hz e (hl e he))]
   exact h2 y
  ·have e1:l.filter (eqc (byKey evKey) z)=[]:=List.filter_eq_nil_iff.2 fun y hy hc=>c ⟨y,hy,hc⟩
   have e2:m.filter (eqc (byKey evKey) z)=[]:=List.filter_eq_nil_iff.2 fun y hy hc=>c ⟨y,hm y hy,hc⟩
   rw [e1,e2]
theorem ws_val {l:List yd} (hk:zwy l) (h:l.length≤255):zmh (yj.mk l) ()=(zb7 (l.map evKey)).map fun k=>l.getD k.toNat default:=by
 rw [zyy]
 obtain ⟨g1,g2⟩:=zwj (z28 (yj.mk l)) h
 refine rw_fin (yj.mk l) hk (fun e he=>?_) g1 g2
 have h3:e∈(gStb (RW (yj.mk l)) l l.length).filter (eqc (RW (yj.mk l)) e):=List.mem_filter.2 ⟨he,zjh (z28 _) e⟩
 rw [g2 e] at h3
 exact (List.mem_filter.1 h3).1
theorem xs_val {l:List yd} (h:decide (2≤l.length)=false):zmg (yk.mk l) ()=(zb7 (l.map evKey)).map fun k=>l.getD k.toNat default:=by
 rw [zyx]
 exact zj3 evKey (l:=l) (by have:=of_decide_eq_false h;omega)
def zda (x:yc):List yd :=
 (((x.people.map fun p => yd.mk 1 p.born p.name p.sex p.father p.mother) ++ (x.unions.map fun u => yd.mk 2 u.from0 [] 0 u.man u.woman)) ++
   (((List.range x.unions.length).filter fun i=>decide (0≤(x.unions.getD i default).to)).map fun i=>yd.mk 3 (x.unions.getD i default).to [] 0 (x.unions.getD i default).man (x.unions.getD i default).woman)) ++
   (((List.range x.people.length).filter fun i=>decide (0≤(x.people.getD i default).died)).map fun i=>yd.mk 4 (x.people.getD i default).died [] 0 ((i:Nat):Int) 0)
theorem zkf (x:yc):zwy (zda x):=by
 intro e he
 unfold zda at he
 rcases List.mem_append.1 he with he | he
 ·rcases List.mem_append.1 he with he | he
  ·rcases List.mem_append.1 he with he | he
   ·obtain ⟨p,_,rfl⟩:=List.mem_map.1 he;dsimp only;decide
   ·obtain ⟨p,_,rfl⟩:=List.mem_map.1 he;dsimp only;decide
  ·obtain ⟨p,_,rfl⟩:=List.mem_map.1 he;dsimp only;decide
 ·obtain ⟨p,_,rfl⟩:=List.mem_map.1 he;dsimp only;decide
theorem zjg {x:yc} (hx:za9 x=true):(zda x).length≤200:=by
 have h:=fam_n hx
 have h1:=List.length_filter_le (fun i=>decide (0≤(x.unions.getD i default).to)) (List.range x.unions.length)
 have h2:=List.length_filter_le (fun i=>decide (0≤(x.people.getD i default).died)) (List.range x.people.length)
 rw [List.length_range] at h1 h2
 unfold zda
 simp only [List.length_append,List.length_map]
 omega
theorem zg2 {α β γ:Type} [Inhabited α] (f:α→β) (l:List α) (k:List β→γ) (l0:List β):loopN (fun i (v:List β) next=>next (v++[f (l.getD i default)])) k l.length 0 l0=k (l0++l.map f):=by
 refine zbx (fun i (v:List β)=>v=l0++(l.take i).map f) (fun r=>r=k (l0++l.map f)) zas (fun i v next hi hv hn=>hn _ ?_) (fun v hv=>by rw [hv,List.take_length])
 rw [ze1 l default hi,List.map_append,← List.append_assoc,← hv];rfl
theorem zje {β γ:Type} (p:Nat→Bool) (g:Nat→β) (n:Nat) (k:List β→γ) (l0:List β):loopN (fun i (v:List β) next=>bif p i then next (v++[g i]) else next v) k n 0 l0=k (l0++((List.range n).filter p).map g):=by
 refine zbx (fun i (v:List β)=>v=l0++((List.range i).filter p).map g) (fun r=>r=k (l0++((List.range n).filter p).map g)) zas (fun i v next hi hv hn=>?_) (fun v hv=>by rw [hv])
 cases c:p i<;>simp only [cond_true,cond_false]
 ·exact hn _ (by rw [hv,List.range_succ,List.filter_append,List.filter_cons,c];simp)
 ·exact hn _ (by rw [hv,List.range_succ,List.filter_append,List.filter_cons,c];simp)
theorem zg6 (x:yc):zbm x=(zb7 ((zda x).map evKey)).map fun k=>(zda x).getD k.toNat default:=by
 unfold zbm
 rw [zg2 (fun p:ya=>yd.mk 1 p.born p.name p.sex p.father p.mother),zg2 (fun u:yb=>yd.mk 2 u.from0 ([]:List UInt8) 0 u.man u.woman),zje,zje,List.nil_append,zg2 (fun e:yd=>8 * e.year+e.kind),List.nil_append]
 exact zg2 (fun k:Int=>(zda x).getD k.toNat default) _ _ []
def C24 (R:(List yd)):LV×List (Nat×BC):=(.own 0,[(0,.arr 6 R.length (rowOf (zbt true) R))])
def evts (x0:yc):(List yd):=loopN (fun i1 (v1:(List yd)) next=>next (v1++[(yd.mk 1 ((((zb8 x0).people).getD i1 default).born) ((((zb8 x0).people).getD i1 default).name) ((((zb8 x0).people).getD i1 default).sex) ((((zb8 x0).people).getD i1 default).father) ((((zb8 x0).people).getD i1 default).mother))])) (fun (v1:(List yd))=>loopN (fun i2 (v2:(List yd)) next=>next (v2++[(yd.mk 2 ((((zb8 x0).unions).getD i2 default).from0) ([]:List UInt8) 0 ((((zb8 x0).unions).getD i2 default).man) ((((zb8 x0).unions).getD i2 default).woman))])) (fun (v2:(List yd))=>loopN (fun i3 (v3:(List yd)) next=>bif (!decide (((((zb8 x0).unions).getD i3 default).to)=(-1))) then (next (v3++[(yd.mk 3 ((((zb8 x0).unions).getD i3 default).to) ([]:List UInt8) 0 ((((zb8 x0).unions).getD i3 default).man) ((((zb8 x0).unions).getD i3 default).woman))])) else (next v3)) (fun (v3:(List yd))=>loopN (fun i4 (v4:(List yd)) next=>bif (!decide (((((zb8 x0).people).getD i4 default).died)=(-1))) then (next (v4++[(yd.mk 4 ((((zb8 x0).people).getD i4 default).died) ([]:List UInt8) 0 ((i4:Nat):Int) 0)])) else (next v4)) (fun (v4:(List yd))=>bif (decide (2≤v4.length)) then (zmh (yj.mk v4) ()) else (zmg (yk.mk v4) ())) (((zb8 x0).people).length) 0 v3) (((zb8 x0).unions).length) 0 v2) (((zb8 x0).unions).length) 0 v1) (((zb8 x0).people).length) 0 ([]:List yd)
def D24b1 (i1:Nat) (v1:(List yd)):Dl:=⟨[(17,.int .i64 ((i1:Nat):Int))],[(30300,.arr 6 v1.length (rowOf (zbt true) v1)),(3,.var [.own 30300])]⟩
def D24b2 (i2:Nat) (v2:(List yd)):Dl:=⟨[(39,.int .i64 ((i2:Nat):Int))],[(40300,.arr 6 v2.length (rowOf (zbt true) v2)),(3,.var [.own 40300])]⟩
def D24b3 (i3:Nat) (v3:(List yd)):Dl:=⟨[(57,.int .i64 ((i3:Nat):Int))],[(30300,.arr 6 v3.length (rowOf (zbt true) v3)),(3,.var [.own 30300])]⟩
def D24b4 (i4:Nat) (v4:(List yd)):Dl:=⟨[(78,.int .i64 ((i4:Nat):Int))],[(40300,.arr 6 v4.length (rowOf (zbt true) v4)),(3,.var [.own 40300])]⟩
def A24b4 (x0:yc) (i4:Nat) (v4:(List yd)):Ann:=let q2:=((i4:Nat):Int);let q3:=((((zb8 x0).people).length:Nat):Int);let q1:=(yd.mk 4 ((((zb8 x0).people).getD i4 default).died) ([]:List UInt8) 0 q2 0);r0 1 [2,3,76,77,78,79] [3,1013,40300] (cn (decide (q2<q3)) (r1 2 [2,3,10,11,76,77,78,85] [3,11,1013,40300] [pf (0≤(q2:Int)∧(q2:Int)<q3)] [0] (cn (!decide (((((zb8 x0).people).getD i4 default).died)=(-1))) (.reg 1 [] [(5,bsC 91 (zbt true) ([q1]:List yd)),(6,ap1 92 (zbt true) 56 v4 q1)] [2,3,76,77,78] [3,92,1013] [] [] [] [0,4] (r1 1 [2,3,76,77,78] [3,92,1013] [pf (inR .i64 (q2+1))] [0] (.next 0 [(40300,some 92)] (D24b4 (i4+1) (v4++[q1]))))) (r1 1 [2,3,76,77,78] [3,1013,40300] [pf (inR .i64 (q2+1))] [0] (.next 0 [(40300,some 40300)] (D24b4 (i4+1) v4))))) (.split (decide (2≤v4.length)) (.reg 2 [] [(3,k51W 97 [40300,3] (yj.mk v4) ())] [2] [40300] [] [] [] [0] (rt [(0,some 40300)] (C24 (zmh (yj.mk v4) ())))) (.reg 2 [] [(3,k51X 97 [40300,3] (yk.mk v4) ())] [2] [40300] [] [] [] [0] (rt [(0,some 40300)] (C24 (zmg (yk.mk v4) ()))))))
def A24b3 (x0:yc) (i3:Nat) (v3:(List yd)):Ann:=let q2:=((i3:Nat):Int);let q3:=((((zb8 x0).unions).length:Nat):Int);let q1:=(yd.mk 3 ((((zb8 x0).unions).getD i3 default).to) ([]:List UInt8) 0 ((((zb8 x0).unions).getD i3 default).man) ((((zb8 x0).unions).getD i3 default).woman));r0 1 [1,2,3,55,56,57,58] [1,3,1013,2013,30300] (cn (decide (q2<q3)) (r1 2 [1,2,3,9,55,56,57,63] [1,3,9,1013,2013,30300] [pf (0≤(q2:Int)∧(q2:Int)<q3)] [0] (cn (!decide (((((zb8 x0).unions).getD i3 default).to)=(-1))) (.reg 1 [] [(8,bsC 72 (zbt true) ([q1]:List yd)),(9,ap1 73 (zbt true) 56 v3 q1)] [1,2,3,55,56,57] [1,3,73,1013,2013] [] [] [] [0,4] (r1 1 [1,2,3,55,56,57] [1,3,73,1013,2013] [pf (inR .i64 (q2+1))] [0] (.next 0 [(30300,some 73)] (D24b3 (i3+1) (v3++[q1]))))) (r1 1 [1,2,3,55,56,57] [1,3,1013,2013,30300] [pf (inR .i64 (q2+1))] [0] (.next 0 [(30300,some 30300)] (D24b3 (i3+1) v3))))) (r0 1 [2,3,76,77,78] [3,1013,30300] (lp (D24b4) [] [30300] [(40300,some 30300)] (D24b4 0 v3) (A24b4 x0))))
def A24b2 (x0:yc) (i2:Nat) (v2:(List yd)):Ann:=let q2:=((i2:Nat):Int);let q3:=((((zb8 x0).unions).length:Nat):Int);let q1:=(yd.mk 2 ((((zb8 x0).unions).getD i2 default).from0) ([]:List UInt8) 0 ((((zb8 x0).unions).getD i2 default).man) ((((zb8 x0).unions).getD i2 default).woman));r0 1 [1,2,3,37,38,39,40] [1,3,1013,2013,40300] (cn (decide (q2<q3)) (r1 1 [1,2,3,7,37,38,39] [1,3,7,1013,2013,40300] [pf (0≤(q2:Int)∧(q2:Int)<q3)] [0] (.reg 1 [] [(8,bsC 51 (zbt true) ([q1]:List yd)),(9,ap1 52 (zbt true) 56 v2 q1)] [1,2,3,37,38,39] [1,3,52,1013,2013] [] [] [] [0,4] (r1 1 [1,2,3,37,38,39] [1,3,52,1013,2013] [pf (inR .i64 (q2+1))] [0] (.next 0 [(40300,some 52)] (D24b2 (i2+1) (v2++[q1])))))) (r0 1 [1,2,3,55,56,57] [1,3,1013,2013,40300] (lp (D24b3) [] [40300] [(30300,some 40300)] (D24b3 0 v2) (A24b3 x0))))
def A24b1 (x0:yc) (i1:Nat) (v1:(List yd)):Ann:=let q3:=((i1:Nat):Int);let q1:=((zb8 x0).people).getD i1 default;let q4:=((((zb8 x0).people).length:Nat):Int);let q2:=yd.mk 1 (q1.born) (q1.name) (q1.sex) (q1.father) (q1.mother);r0 1 [1,2,3,15,16,17,18] [1,3,1013,2013,30300] (cn (decide (q3<q4)) (r1 1 [1,2,3,5,15,16,17] [1,3,5,1013,2013,30300] [pf (0≤(q3:Int)∧(q3:Int)<q4)] [0] (.reg 1 [] [(12,bsC 33 (zbt true) ([q2]:List yd)),(13,ap1 34 (zbt true) 56 v1 q2)] [1,2,3,15,16,17] [1,3,34,1013,2013] [] [] [] [0,4] (r1 1 [1,2,3,15,16,17] [1,3,34,1013,2013] [pf (inR .i64 (q3+1))] [0] (.next 0 [(30300,some 34)] (D24b1 (i1+1) (v1++[q2])))))) (r0 1 [1,2,3,37,38,39] [1,3,1013,2013,30300] (lp (D24b2) [] [30300] [(40300,some 30300)] (D24b2 0 v1) (A24b2 x0))))
def A24 (x0:yc):Ann:=.reg 3 [] [(1001,k28 x0)] [1,2,3] [1,3,1013,2013] [] [] [] [0] (r0 1 [1,2,3,15,16,17] [1,3,1013,2013] (lp (D24b1) [] [] [(30300,none)] (D24b1 0 ([]:List yd)) (A24b1 x0)))
theorem znc (x0:yc) (hx:x0.people.length≤1048576) (hu:x0.unions.length≤1048576) (hn:∀ p∈x0.people,p.name.length≤1048576) (hf:za9 x0=true):FnT Tryz.prog 24 [.agg (zcf false x0)] (C24 (evts x0)):=by
 have aux:∀ R,evts x0=R→slim (C24 R) (A24 x0) []:=by
  intro R hR
  refine rg ⟨⟨by with_reducible assumption,by with_reducible assumption,by with_reducible assumption,by with_reducible assumption⟩,trivial⟩ ?_
  refine rg trivial ?_
  revert hR;refine lN (fun i v=>EvI i v) (by (exact EvI.nil)) rfl fun i1 v1 F1 hn1 hI1 hR hK1=>?_
  refine rg trivial ?_
  refine ⟨fun hc1=>?_,fun hc1=>?_⟩
  ·have hii1:i1<((zb8 x0).people).length:=by have:=of_decide_eq_true hc1;omega
   replace hR:=zbq hR hii1
   refine rg ⟨by (intros;omega),trivial⟩ ?_
   refine rg ⟨trivial,by (have h9:=fam_n (zc4 hf);have h8:=hI1.len;(try simp only [inR]);omega),trivial⟩ ?_
   refine rg ⟨by (have h9:=fam_n (zc4 hf);have h8:=hI1.len;(try simp only [inR]);omega),trivial⟩ ?_
   exact hK1 (v1++[(yd.mk 1 ((((zb8 x0).people).getD i1 default).born) ((((zb8 x0).people).getD i1 default).name) ((((zb8 x0).people).getD i1 default).sex) ((((zb8 x0).people).getD i1 default).father) ((((zb8 x0).people).getD i1 default).mother))]) hii1 (by (exact hI1.snoc (by have h9:=fam_p (zc4 hf) hii1;have h8:=h9.born;omega) za7)) hR
  ·obtain rfl:i1=((zb8 x0).people).length:=by have:=of_decide_eq_false hc1;omega
   replace hR:=zbu hR (Nat.lt_irrefl _)
   refine rg trivial ?_
   revert hR;refine lN (fun i v=>EvI (40+i) v) (by (exact hI1.mono zaw)) rfl fun i2 v2 F2 hn2 hI2 hR hK2=>?_
   refine rg trivial ?_
   refine ⟨fun hc2=>?_,fun hc2=>?_⟩
   ·have hii2:i2<((zb8 x0).unions).length:=by have:=of_decide_eq_true hc2;omega
    replace hR:=zbq hR hii2
    refine rg ⟨by (intros;omega),trivial⟩ ?_
    refine rg ⟨trivial,by (have h9:=fam_n (zc4 hf);have h8:=hI2.len;(try simp only [inR]);omega),trivial⟩ ?_
    refine rg ⟨by (have h9:=fam_n (zc4 hf);have h8:=hI1.len;(try simp only [inR]);omega),trivial⟩ ?_
    exact hK2 (v2++[(yd.mk 2 ((((zb8 x0).unions).getD i2 default).from0) ([]:List UInt8) 0 ((((zb8 x0).unions).getD i2 default).man) ((((zb8 x0).unions).getD i2 default).woman))]) hii2 (by (exact hI2.snoc (by have h9:=fam_p (zc4 hf) (k:=(((zb8 x0).unions.getD i2 default).man).toNat) (by have h7:=(fam_u (zc4 hf) hii2).man;omega);have h8:=h9.born;have h6:=(fam_u (zc4 hf) hii2).from0;omega) za7)) hR
   ·obtain rfl:i2=((zb8 x0).unions).length:=by have:=of_decide_eq_false hc2;omega
    replace hR:=zbu hR (Nat.lt_irrefl _)
    refine rg trivial ?_
    revert hR;refine lN (fun i v=>EvI (100+i) v) (by (exact hI2.mono zaw)) rfl fun i3 v3 F3 hn3 hI3 hR hK3=>?_
    refine rg trivial ?_
    refine ⟨fun hc3=>?_,fun hc3=>?_⟩
    ·have hii3:i3<((zb8 x0).unions).length:=by have:=of_decide_eq_true hc3;omega
     replace hR:=zbq hR hii3
     refine rg ⟨by (intros;omega),trivial⟩ ?_
     revert hR;refine cd (fun hc4 hR=>?_) fun hc4 hR=>?_
     ·
       refine rg ⟨trivial,by (have h9:=fam_n (zc4 hf);have h8:=hI3.len;(try simp only [inR]);omega),trivial⟩ ?_
       refine rg ⟨by (have h9:=fam_n (zc4 hf);have h8:=hI1.len;(try simp only [inR]);omega),trivial⟩ ?_
       exact hK3 (v3++[(yd.mk 3 ((((zb8 x0).unions).getD i3 default).to) ([]:List UInt8) 0 ((((zb8 x0).unions).getD i3 default).man) ((((zb8 x0).unions).getD i3 default).woman))]) hii3 (by (exact hI3.snoc (by have h6:=(fam_u (zc4 hf) hii3).to;(try simp only [decide_eq_true_eq,Bool.not_eq_true',decide_eq_false_iff_not] at *);have h9:=fam_p (zc4 hf) (k:=(((zb8 x0).unions.getD i3 default).man).toNat) (by have h7:=(fam_u (zc4 hf) hii3).man;omega);have h8:=h9.born;have h5:=(fam_u (zc4 hf) hii3).from0;omega) za7)) hR
     ·
       refine rg ⟨by (have h9:=fam_n (zc4 hf);have h8:=hI1.len;(try simp only [inR]);omega),trivial⟩ ?_
       exact hK3 v3 hii3 (by (exact hI3.mono zaw)) hR
    ·obtain rfl:i3=((zb8 x0).unions).length:=by have:=of_decide_eq_false hc3;omega
     replace hR:=zbu hR (Nat.lt_irrefl _)
     refine rg trivial ?_
     revert hR;refine lN (fun i v=>EvI (160+i) v) (by (exact hI3.mono zaw)) rfl fun i4 v4 F4 hn4 hI4 hR hK4=>?_
     refine rg trivial ?_
     refine ⟨fun hc5=>?_,fun hc5=>?_⟩
     ·have hii4:i4<((zb8 x0).people).length:=by have:=of_decide_eq_true hc5;omega
      replace hR:=zbq hR hii4
      refine rg ⟨by (intros;omega),trivial⟩ ?_
      revert hR;refine cd (fun hc6 hR=>?_) fun hc6 hR=>?_
      ·
        refine rg ⟨trivial,by (have h9:=fam_n (zc4 hf);have h8:=hI4.len;(try dsimp only);omega),trivial⟩ ?_
        refine rg ⟨by (have h9:=fam_n (zc4 hf);have h8:=hI1.len;(try simp only [inR]);omega),trivial⟩ ?_
        exact hK4 (v4++[(yd.mk 4 ((((zb8 x0).people).getD i4 default).died) ([]:List UInt8) 0 ((i4:Nat):Int) 0)]) hii4 (by (exact hI4.snoc (by have h9:=fam_p (zc4 hf) hii4;have h8:=h9.born;have h7:=h9.died;(try simp only [decide_eq_true_eq,Bool.not_eq_true',decide_eq_false_iff_not] at *);omega) za7)) hR
      ·
        refine rg ⟨by (have h9:=fam_n (zc4 hf);have h8:=hI1.len;(try simp only [inR]);omega),trivial⟩ ?_
        exact hK4 v4 hii4 (by (exact hI4.mono zaw)) hR
     ·obtain rfl:i4=((zb8 x0).people).length:=by have:=of_decide_eq_false hc5;omega
      replace hR:=zbu hR (Nat.lt_irrefl _)
      revert hR;refine cd (fun hs7 hR=>?_) fun hs7 hR=>?_
      ·
        refine rg ⟨⟨by (have h9:=fam_n (zc4 hf);have h8:=hI4.len;(try dsimp only);omega),by (exact ⟨trivial,rfl⟩),by (with_reducible exact of_decide_eq_true za5)⟩,trivial⟩ ?_
        exact congrArg C24 hR
      ·
        refine rg ⟨by ((dsimp only;exact Nat.le_of_lt_succ (Nat.lt_of_not_le (of_decide_eq_false za5)))),trivial⟩ ?_
        exact congrArg C24 hR
 exact Fn.go 99 Tryz.func24 (by kernel_rfl) (by kernel_rfl) (by simp [C24,Frs,FrsL,FrsB,rowOf,cInt,cBool,cStr,cSl,zdm,zbg,zbi,zcf,zbt,zft]) (A24 x0) (by kernel_rfl) (aux _ rfl)
def k24 (x0:yc):Cl:=(hres (C24 (evts x0)),Go.Lite.k4 (znc x0))
def C7 (R:(List yd)):LV×List (Nat×BC):=(.own 0,[(0,.arr 6 R.length (rowOf (zbt true) R))])
def zb3 (x0:yc):(List yd):=bif (!(zcb x0)) then ([]:List yd) else (evts x0)
def A7 (x0:yc):Ann:=r0 1 [1,2] [1] (.reg 1 [] [(1,k17 x0)] [1,2,5] [1] [] [] [] [0] (cn (!(zcb x0)) (r0 1 [1,2] [1] (rt [(0,none)] (C7 ([]:List yd)))) (.reg 1 [] [(1,k24 x0)] [2] [1007] [] [] [] [0] (rt [(0,some 1007)] (C7 (evts x0))))))
theorem zne (x0:yc) (hx:x0.people.length≤1048576) (hu:x0.unions.length≤1048576) (hn:∀ p∈x0.people,p.name.length≤1048576):FnT Tryz.prog 7 [.agg (zcf false x0)] (C7 (zb3 x0)):=by
 have aux:∀ R,zb3 x0=R→slim (C7 R) (A7 x0) []:=by
  intro R hR
  refine rg trivial ?_
  refine rg ⟨⟨by with_reducible assumption,by with_reducible assumption,by with_reducible assumption⟩,trivial⟩ ?_
  revert hR;refine cd (fun hc1 hR=>?_) fun hc1 hR=>?_
  ·
    refine rg trivial ?_
    exact congrArg C7 hR
  ·
    refine rg ⟨⟨by with_reducible assumption,by with_reducible assumption,by with_reducible assumption,by (rw [← zdk];simpa using hc1)⟩,trivial⟩ ?_
    exact congrArg C7 hR
 exact Fn.go 8 Tryz.func7 (by kernel_rfl) (by kernel_rfl) (by simp [C7,Frs,FrsL,FrsB,rowOf,cInt,cBool,cStr,cSl,zdm,zbg,zbi,zcf,zbt,zft]) (A7 x0) (by kernel_rfl) (aux _ rfl)
def k7 (x0:yc):Cl:=(hres (C7 (zb3 x0)),k3 (zne x0))
end Go.Proofs.YtlinnkjieghmhaaGreatDoor
