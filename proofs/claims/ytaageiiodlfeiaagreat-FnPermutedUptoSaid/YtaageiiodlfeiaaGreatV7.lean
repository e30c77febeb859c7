import Derived.Test.YtaageiiodlfeiaaGreatV6
set_option maxHeartbeats 4000000
set_option linter.unusedSimpArgs false
set_option linter.unusedVariables false
namespace Go.Proofs.YtaageiiodlfeiaaGreat
open Go Go.Lite Go.Proofs
theorem zx3 (s:List UInt8):zca s=zcc s:=by
 rw [Bool.eq_iff_iff]
 simp only [zca,zcc,zdo,zbd,zfb,l1In,Bool.and_eq_true,decide_eq_true_eq,decide_eq_false_iff_not,and_true]
 constructor
 ·rintro ⟨⟨h1,h2⟩,h3⟩;exact ⟨h3,om,om⟩
 ·rintro ⟨h3,h1,h2⟩;exact ⟨⟨om,om⟩,h3⟩
theorem zyg (x:Family) (hp:∀ (k:Nat),k<x.people.length→(x.people.getD k default).father<k∧(x.people.getD k default).mother<k):zgx x.people=zbi x:=by
 unfold zgx zbi
 refine zd1 (fun i (v u:List Int)=>u.length=i∧v.length=x.people.length∧(∀ k,k<i→v.getD k default=u.getD k default∧0≤u.getD k default)∧∀ k,i≤k→v.getD k default=0) Eq ⟨rfl,by simp,fun k hk=>absurd hk (Nat.not_lt_zero _),fun k _=>?_⟩ ?_ ?_
 ·rw [zfd];split<;>rfl
 ·rintro i v u n1 n2 hi ⟨h1,h2,h3,h4⟩ hn
  obtain ⟨p1,p2⟩:=hp i hi
  have h5:=h4 i (Nat.le_refl _)
  have key:∀ d:Int,0≤d→n1 (v.set i d)=n2 (u++[d]):=fun d hd=>by
   refine hn _ _ ⟨by simp [h1],by simp [h2],fun k hk=>?_,fun k hk=>?_⟩
   ·rw [zcf,zdu,h1]
    by_cases e:k=i
    ·subst e;simp [h2,hi,hd]
    ·rw [if_neg om,if_pos om];exact h3 k om
   ·rw [zcf,if_neg om];exact h4 k om
  have hv:v.set i 0=v:=by
   apply List.ext_getElem zaj
   intro k hk1 hk2
   rw [List.getElem_set]
   split
   ·rename_i e;subst e;rw [List.getD_eq_getElem?_getD,List.getElem?_eq_getElem hk2] at h5;simpa using h5.symm
   ·rfl
  simp only [loopN]
  have q0:∀ d:Int,[(x.people.getD i default).father,(x.people.getD i default).mother].getD 0 d=(x.people.getD i default).father:=fun _=>rfl
  have q1:∀ d:Int,[(x.people.getD i default).father,(x.people.getD i default).mother].getD (0+1) d=(x.people.getD i default).mother:=fun _=>rfl
  simp only [q0,q1]
  generalize (x.people.getD i default).father=a at p1 ⊢
  generalize (x.people.getD i default).mother=b at p2 ⊢
  have ge:∀ (d:Int) (j:Int),0≤j→j<i→(v.set i d).getD j.toNat default=u.getD j.toNat default∧0≤u.getD j.toNat default:=fun d j j0 j1=>by
   rw [zcf,if_neg om];exact h3 _ om
  have gi:∀ d:Int,(v.set i d).getD i default=d:=fun d=>by rw [zcf,if_pos ⟨rfl,om⟩]
  by_cases c1:0≤a<;>by_cases c2:0≤b
  ·obtain ⟨g1,g2⟩:=h3 a.toNat om
   obtain ⟨g3,g4⟩:=ge (max 0 (u.getD a.toNat default+1)) b c2 p2
   simp only [c1,c2,decide_true,cond_true,h5,g1,g3,gi,List.set_set]
   have:=key (max (u.getD a.toNat default+1) (u.getD b.toNat default+1)) om
   rw [show max (max 0 (u.getD a.toNat default+1)) (u.getD b.toNat default+1)=max (u.getD a.toNat default+1) (u.getD b.toNat default+1) by omega]
   exact this
  ·obtain ⟨g1,g2⟩:=h3 a.toNat om
   simp only [c1,c2,decide_true,decide_false,cond_true,cond_false,h5,g1]
   rw [show max 0 (u.getD a.toNat default+1)=u.getD a.toNat default+1 by omega]
   exact key _ om
  ·obtain ⟨g1,g2⟩:=h3 b.toNat om
   simp only [c1,c2,decide_true,decide_false,cond_true,cond_false,h5,g1]
   exact key _ om
  ·simp only [c1,c2,decide_false,cond_false]
   have:=key 0 om
   rw [hv] at this
   exact this
 ·rintro v u ⟨h1,h2,h3,h4⟩
  apply List.ext_getElem om
  intro k hk1 hk2
  have:=(h3 k om).1
  rw [List.getD_eq_getElem?_getD,List.getD_eq_getElem?_getD,List.getElem?_eq_getElem hk1,List.getElem?_eq_getElem hk2] at this
  simpa using this
theorem zkf {p:Nat→Prop}:(∀ j,j<2→p j)↔p 0∧p 1 :=
 ⟨fun h=>⟨h 0 om,h 1 om⟩,fun h j hj=>by
  match j,hj with
  | 0,_=>exact h.1
  | 1,_=>exact h.2⟩
theorem zr8 (x:Family) (k:Nat) (hv:∀ j:Nat,(x.people.getD j default).died=-1∨0≤(x.people.getD j default).died):zft x k=zfz x k:=by
 rw [Bool.eq_iff_iff]
 simp only [zft,zfz,zdo,zbd,zfb,l1In,Bool.and_eq_true,Bool.or_eq_true,za9,zba,zih,decide_eq_true_eq,decide_eq_false_iff_not,zkf,Int.toNat_natCast,Nat.zero_add,Nat.sub_zero,and_true]
 have q0:∀ {α:Type} (a b d:α),[a,b].getD 0 d=a:=fun _ _ _=>rfl
 have q1:∀ {α:Type} (a b d:α),[a,b].getD 1 d=b:=fun _ _ _=>rfl
 simp only [q0,q1]
 generalize (∀ j,j<k→(x.unions.getD j default).man=(x.unions.getD k default).man→¬(x.unions.getD j default).woman=(x.unions.getD k default).woman)=Z
 have h1:=hv (x.unions.getD k default).man.toNat
 have h2:=hv (x.unions.getD k default).woman.toNat
 generalize x.people.getD (x.unions.getD k default).man.toNat default=a at *
 generalize x.people.getD (x.unions.getD k default).woman.toNat default=b at *
 generalize x.unions.getD k default=u at *
 by_cases hz:Z<;>simp only [hz,and_true,and_false]
 omega
theorem zty (x:Family) (k:Nat) (h:zea x k=true):(x.people.getD k default).died=-1∨0≤(x.people.getD k default).died:=by
 obtain ⟨_,_,h1,h2,_⟩:=(zfx x k).1 h
 simp only [Int.toNat_natCast] at h1 h2
 omega
theorem zw1 {c d X:Bool} (h:c=false∧d=false):(bif c then false else bif d then false else X)=X:=by rw [h.1,h.2];rfl
theorem zgj (x:Family):zb7 x=za4 x:=by
 unfold zb7 za4
 generalize (decide (40<((x.people.length:Nat):Int))||decide (60<((x.unions.length:Nat):Int)))=c
 cases c
 ·simp only [cond_false]
  refine zd1 (fun i (m:KV→Option Bool) (_:Unit)=>(∀ s,(m (KV.s s)).getD false=true↔∃ j,j<i∧(x.people.getD j default).name=s)∧∀ j:Nat,j<i→zea x j=true) Eq ⟨fun s=>by simp,fun j hj=>absurd hj (Nat.not_lt_zero _)⟩ ?_ ?_
  ·rintro i m _ n1 n2 hi ⟨h1,h2⟩ hn
   have hp:=zfx x i
   simp only [Int.toNat_natCast] at hp
   have hnm:=h1 (x.people.getD i default).name
   simp only [zq6,zx3]
   have hdup:(m (KV.s (x.people.getD i default).name)).getD false=false↔∀ j,j<i→(x.people.getD j default).name≠(x.people.getD i default).name:=by
    rw [← Bool.not_eq_true,hnm]
    exact ⟨fun h j hj he=>h ⟨j,hj,he⟩,fun h ⟨j,hj,he⟩=>h j hj he⟩
   cases hq:zea x i
   ·simp only [Bool.not_false,cond_true]
    refine Bool.eq_false_iff.2 fun hh=>?_
    refine Bool.false_ne_true (hq.symm.trans (hp.2 ?_))
    simp only [zdo,zbd,za9,zba,zih,decide_eq_true_eq,decide_eq_false_iff_not,hdup] at hh
    obtain ⟨⟨⟨⟨⟨⟨g1,g2⟩,g3⟩,g4⟩,g5⟩,g6⟩,⟨g7,g8⟩,_⟩:=hh
    exact ⟨g1,om,om,om,g2,g7,g8⟩
   ·simp only [Bool.not_true,cond_false]
    obtain ⟨g1,g3,g4,g5,g2,g7,g8⟩:=hp.1 hq
    refine (zw1 ?_).trans (hn _ () ⟨fun s=>?_,fun j hj=>?_⟩)
    ·simp only [zbd,za9,zba,zih,decide_eq_true_eq,decide_eq_false_iff_not,hdup]
     exact ⟨⟨⟨⟨⟨⟨g1,g2⟩,om⟩,om⟩,om⟩,om⟩,g7,g8⟩
    ·simp only [mset]
     by_cases e:s=(x.people.getD i default).name
     ·subst e;simp only [if_true,Option.getD_some,true_iff];exact ⟨i,om,rfl⟩
     ·rw [if_neg (fun q=>e (by injection q)),h1 s]
      refine ⟨fun ⟨j,hj,he⟩=>⟨j,om,he⟩,fun ⟨j,hj,he⟩=>⟨j,?_,he⟩⟩
      by_cases e2:j=i
      ·subst e2;exact absurd he.symm e
      ·omega
    ·by_cases e:j=i
     ·rw [e];exact hq
     ·exact h2 j om
  ·rintro m _ ⟨h1,h2⟩
   have hpar:=fun k hk=>zib x k (h2 k hk)
   rw [zyg x hpar]
   have hu:∀ k:Nat,zft x k=zfz x k:=fun k=>zr8 x k fun j=>by
    rcases Nat.lt_or_ge j x.people.length with h | h
    ·exact zty x j (h2 j h)
    ·rw [List.getD_eq_getElem?_getD,List.getElem?_eq_none h];right;decide
   simp only [hu]
 ·rfl
def neg (l:List Int):Nat:=l.countP fun x=>decide (x<0)
theorem zt9 : ∀ (l : List Int) (i : Nat) (x : Int), i < l.length → l.getD i default < 0 → 0 ≤ x → neg (l.set i x) + 1 = neg l
  | [],i,x,h,_,_=>absurd h (Nat.not_lt_zero _)
  | a :: l,0,x,_,h,hx=>by
    have h:a<0:=h
    simp [neg,List.countP_cons,h,show ¬ x<0 by omega]
  | a :: l,i+1,x,hi,h,hx=>by
    have:=zt9 l i x (by simpa using hi) h hx
    simp only [neg,List.set_cons_succ,List.countP_cons] at this ⊢
    omega
structure StepsInv (x:Family) (o t:List Int):Prop where
 rg:Rg o x.people.length fun k v=>-1≤v∧v+k≤x.people.length
 wait:∀ j,j<t.length→0≤t.getD j default∧t.getD j default<x.people.length
 cnt:t.length+neg o≤x.people.length
theorem zs6 {o:List Int} {n i:Nat} (h:Rg o n fun k v=>k<i→v=-1):Rg (o.set i (-1)) n fun k v=>k<i+1→v=-1 :=
 ⟨by simp [h.len],fun k hk hk2=>by
  rw [zcf]
  split
  ·rfl
  ·rename_i e
   rw [h.len] at e
   exact h.get k hk om⟩
theorem z01 {l:List Int} (h:∀ k,k<l.length→l.getD k default=-1):neg l=l.length:=by
 unfold neg
 rw [List.countP_eq_length]
 intro a ha
 obtain ⟨k,hk,e⟩:=List.getElem_of_mem ha
 have:=h k hk
 rw [List.getD_eq_getElem?_getD,List.getElem?_eq_getElem hk] at this
 simp only [Option.getD_some] at this
 rw [← e,this];decide
theorem StepsInv.start {x:Family} {p:Int} (hp:0≤p∧p<x.people.length) {v:List Int} (hv:Rg v x.people.length fun k v=>k<x.people.length→v=-1):StepsInv x (v.set p.toNat 0) [p] where
 rg:=Rg.set (hv.mono fun k y hk hy=>by have:=hy hk;omega) (fun h=>by omega)
 wait:=fun j hj=>by
  simp at hj;subst hj;exact hp
 cnt:=by
  have h1:=z01 (l:=v) (fun k hk=>hv.get k (by rw [← hv.len];exact hk) (by rw [← hv.len];exact hk))
  have h2:=hv.get p.toNat om om
  have h3:=zt9 v p.toNat 0 (by rw [hv.len];omega) om om
  have:=hv.len
  simp only [List.length_singleton]
  omega
theorem StepsInv.pop {x:Family} {o t:List Int} (h:StepsInv x o t) (ht:0<t.length):StepsInv x o ((t.drop 1).take (t.length - 1))∧((t.drop 1).take (t.length - 1)).length+neg o+1=t.length+neg o:=by
 have hl:((t.drop 1).take (t.length - 1)).length=t.length - 1:=by simp
 refine ⟨⟨h.rg,fun j hj=>?_,by have:=h.cnt;omega⟩,om⟩
 have hj':j+1<t.length:=by omega
 have:=h.wait (j+1) hj'
 rw [List.getD_eq_getElem?_getD,List.getElem?_take,if_pos om,List.getElem?_drop,Nat.add_comm 1 j]
 rw [List.getD_eq_getElem?_getD] at this
 exact this
theorem StepsInv.push {x : Family} {o t : List Int} (h : StepsInv x o t) {a q : Int} (ha : 0 ≤ a ∧ a < x.people.length) (hq : 0 ≤ q ∧ q < a) (hn : o.getD q.toNat default < 0) :
    StepsInv x (o.set q.toNat (o.getD a.toNat default+1)) (t++[q])∧(t++[q]).length+neg (o.set q.toNat (o.getD a.toNat default+1))=t.length+neg o:=by
 have h1:=h.rg.get a.toNat om
 have h3:=zt9 o q.toNat (o.getD a.toNat default+1) (by rw [h.rg.len];omega) hn om
 have h4:(t++[q]).length=t.length+1:=by simp
 refine ⟨⟨Rg.set h.rg fun _=>by omega,fun j hj=>?_,by have:=h.cnt;omega⟩,om⟩
 rw [zdu]
 split
 ·exact h.wait j za3
 ·rw [if_pos om];omega
theorem zoa (x:Family) (l:List Int):zcm x l=true↔za4 x=true∧∀ j,j<l.length→0≤l.getD j default∧l.getD j default<x.people.length:=by
 simp only [zcm,zgj,zdo,zfb,za9,zbd,decide_eq_false_iff_not,Int.not_lt,Int.not_le,and_true]
theorem zdz (x:Family) (p q:Int):zcm x [p,q]=true↔za4 x=true∧(0≤p∧p<x.people.length)∧0≤q∧q<x.people.length:=by
 rw [zoa]
 exact and_congr_right' zkf
theorem ze2 (x:Family) (p:Int):zcm x [p]=true↔za4 x=true∧0≤p∧p<x.people.length:=by
 rw [zoa]
 refine and_congr_right' ⟨fun h=>h 0 zaj,fun h j hj=>?_⟩
 simp at hj;subst hj;exact h
def C51 (R:(List Int)):LV×List (Nat×BC):=(.own 0,[(0,.arr 1 R.length (rowOf (cInt .i64) R))])
def zbg (x0:Family) (x1:Int):(List Int):=loopN (fun i1 (v1:(List Int)) next=>next (v1.set i1 (-1))) (fun (v1:(List Int))=>loopW (fun (v2:(List Int)×(List Int)) nx2=>bif (decide (0<((v2.2.length:Nat):Int))) then (loopN (fun i3 (v3:(List Int)×(List Int)) next=>bif (decide ((v3.1.getD (((zbh x0 (v2.2.getD 0 default)).getD i3 default).toNat) default)<0)) then (next ((v3.1.set (((zbh x0 (v2.2.getD 0 default)).getD i3 default).toNat) ((v3.1.getD ((v2.2.getD 0 default).toNat) default)+1)),(v3.2++[((zbh x0 (v2.2.getD 0 default)).getD i3 default)]))) else (next (v3.1,v3.2))) (fun (v3:(List Int)×(List Int))=>nx2 (v3.1,v3.2)) ((zbh x0 (v2.2.getD 0 default)).length) 0 (v2.1,((v2.2.drop 1).take (v2.2.length - 1)))) else v2.1) ([x1].length+neg (v1.set x1.toNat 0)+1) ((v1.set x1.toNat 0),[x1])) x0.people.length 0 (List.replicate x0.people.length (default:Int))
def D51b1 (x0:Family) (x1:Int) (i1:Nat) (v1:(List Int)):Dl:=⟨[(17,.int .i64 ((i1:Nat):Int)),(5,.own 20005)],[(20005,.arr 1 x0.people.length (rowOf (cInt .i64) v1))]⟩
def D51b2 (x0:Family) (x1:Int) (i1:Nat) (v1:(List Int)) (v2:(List Int)×(List Int)):Dl:=⟨[(5,.own 30005),(7,.own 20007)],[(30005,.arr 1 x0.people.length (rowOf (cInt .i64) v2.1)),(20007,.arr 1 v2.2.length (rowOf (cInt .i64) v2.2))]⟩
def D51b3 (x0:Family) (x1:Int) (i1:Nat) (v1:(List Int)) (v2:(List Int)×(List Int)) (i3:Nat) (v3:(List Int)×(List Int)):Dl:=⟨[(41,.int .i64 ((i3:Nat):Int)),(5,.own 20005),(7,.own 20007)],[(20005,.arr 1 x0.people.length (rowOf (cInt .i64) v3.1)),(20007,.arr 1 v3.2.length (rowOf (cInt .i64) v3.2))]⟩
def A51b3 (x0:Family) (x1:Int) (i1:Nat) (v1:(List Int)) (v2:(List Int)×(List Int)) (i3:Nat) (v3:(List Int)×(List Int)):Ann:=r0 1 [2,4,5,7,8,39,40,41,42] [2,1039,20005,20007] (cn (decide (((i3:Nat):Int)<(((zbh x0 (v2.2.getD 0 default)).length:Nat):Int))) (r1 2 [2,4,5,7,8,10,39,40,41,49] [2,1039,20005,20007] [pf (0≤(((i3:Nat):Int):Int)∧(((i3:Nat):Int):Int)<(((zbh x0 (v2.2.getD 0 default)).length:Nat):Int)),pf (0≤(((zbh x0 (v2.2.getD 0 default)).getD i3 default):Int)∧(((zbh x0 (v2.2.getD 0 default)).getD i3 default):Int)<((x0.people.length:Nat):Int))] [0,4] (cn (decide ((v3.1.getD (((zbh x0 (v2.2.getD 0 default)).getD i3 default).toNat) default)<0)) (.reg 1 [] [(8,stC 20005 (cInt .i64) x0.people.length v3.1 (((zbh x0 (v2.2.getD 0 default)).getD i3 default).toNat) ((v3.1.getD ((v2.2.getD 0 default).toNat) default)+1))] [2,4,5,7,8,10,39,40,41] [2,1039,20005,20007] [] [pf (0≤((v2.2.getD 0 default):Int)∧((v2.2.getD 0 default):Int)<((x0.people.length:Nat):Int)),pf (inR .i64 ((v3.1.getD ((v2.2.getD 0 default).toNat) default)+1)),pf (0≤(((zbh x0 (v2.2.getD 0 default)).getD i3 default):Int)∧(((zbh x0 (v2.2.getD 0 default)).getD i3 default):Int)<((x0.people.length:Nat):Int))] [] [0,4,8,12] (.reg 1 [] [(2,bsC 60 (cInt .i64) ([((zbh x0 (v2.2.getD 0 default)).getD i3 default)]:List Int)),(3,ap1 61 (cInt .i64) 8 v3.2 ((zbh x0 (v2.2.getD 0 default)).getD i3 default))] [2,4,5,7,8,39,40,41] [2,61,1039,20005] [] [] [] [0,4] (r1 1 [2,4,5,7,8,39,40,41] [2,61,1039,20005] [pf (inR .i64 (((i3:Nat):Int)+1))] [0] (.next 0 [(20005,some 20005),(20007,some 61)] (D51b3 x0 x1 i1 v1 v2 (i3+1) ((v3.1.set (((zbh x0 (v2.2.getD 0 default)).getD i3 default).toNat) ((v3.1.getD ((v2.2.getD 0 default).toNat) default)+1)),(v3.2++[((zbh x0 (v2.2.getD 0 default)).getD i3 default)]))))))) (r1 1 [2,4,5,7,8,39,40,41] [2,1039,20005,20007] [pf (inR .i64 (((i3:Nat):Int)+1))] [0] (.next 0 [(20005,some 20005),(20007,some 20007)] (D51b3 x0 x1 i1 v1 v2 (i3+1) (v3.1,v3.2)))))) (.next 1 [(30005,some 20005),(20007,some 20007)] (D51b2 x0 x1 i1 v1 (v3.1,v3.2))))
def A51b2 (x0:Family) (x1:Int) (i1:Nat) (v1:(List Int)) (v2:(List Int)×(List Int)):Ann:=r0 1 [2,4,5,7,31] [2,20007,30005] (cn (decide (0<((v2.2.length:Nat):Int))) (.reg 3 [] [(1001,slC 36 (cInt .i64) v2.2.length (1) (((v2.2.length:Nat):Int)) 1 (v2.2.length - 1) v2.2 rfl rfl),(2002,k93 x0 (v2.2.getD 0 default))] [2,4,5,7,8,39,40,41] [2,36,1039,30005] [] [pf (0≤(0:Int)∧(0:Int)<((v2.2.length:Nat):Int))] [] [0,4,8] (lp (D51b3 x0 x1 i1 v1 v2) [] [30005,36] [(20005,some 30005),(20007,some 36)] (D51b3 x0 x1 i1 v1 v2 0 (v2.1,((v2.2.drop 1).take (v2.2.length - 1)))) (A51b3 x0 x1 i1 v1 v2))) (r0 1 [4] [30005] (.co false 30005 v2.1.length (rowOf (cInt .i64) v2.1) [lnP (rowOf (cInt .i64) v2.1) x0.people.length v2.1.length] [] 0 (rt [(0,some 30005)] (C51 v2.1)))))
def A51b1 (x0:Family) (x1:Int) (i1:Nat) (v1:(List Int)):Ann:=r0 1 [1,2,4,5,16,17,18] [2,20005] (cn (decide (((i1:Nat):Int)<((x0.people.length:Nat):Int))) (r0 1 [1,2,4,5,6,16,17] [2,20005] (.reg 1 [] [(3,stC 20005 (cInt .i64) x0.people.length v1 i1 (-1))] [1,2,4,5,16,17] [2,20005] [] [pf (0≤(((i1:Nat):Int):Int)∧(((i1:Nat):Int):Int)<((x0.people.length:Nat):Int))] [] [0,4] (r1 1 [1,2,4,5,16,17] [2,20005] [pf (inR .i64 (((i1:Nat):Int)+1))] [0] (.next 0 [(20005,some 20005)] (D51b1 x0 x1 (i1+1) (v1.set i1 (-1))))))) (.reg 2 [] [(3,stC 20005 (cInt .i64) x0.people.length v1 x1.toNat 0),(1001,bsC 28 (cInt .i64) ([x1]:List Int))] [2,4,5,7] [2,28,20005] [] [pf (0≤(x1:Int)∧(x1:Int)<((x0.people.length:Nat):Int))] [] [0,4,8] (.loop ((List Int)×(List Int)) (D51b2 x0 x1 i1 v1) [] [20005,28] [(30005,some 20005),(20007,some 28)] (D51b2 x0 x1 i1 v1 ((v1.set x1.toNat 0),[x1])) (A51b2 x0 x1 i1 v1))))
def A51 (x0:Family) (x1:Int):Ann:=.reg 2 [] [(1003,msC 14 (cInt .i64) 8 ((x0.people.length:Nat):Int) ((x0.people.length:Nat):Int) x0.people.length (default:Int) (rfl))] [1,2,4,5] [2,14] [] [] [] [0] (r0 1 [1,2,4,5,16,17] [2,14] (lp (D51b1 x0 x1) [] [14] [(20005,some 14)] (D51b1 x0 x1 0 (List.replicate x0.people.length (default:Int))) (A51b1 x0 x1)))
theorem znl (x0:Family) (x1:Int) (hx:x0.people.length≤1048576) (hi:0≤x1∧x1<x0.people.length) (hp:∀ (k:Nat),k<x0.people.length→(x0.people.getD k default).father<k∧(x0.people.getD k default).mother<k):FnT Tryz.prog 51 [.agg (zbx false x0),.int .i64 x1] (C51 (zbg x0 x1)):=by
 have aux:∀ R,zbg x0 x1=R→slim (C51 R) (A51 x0 x1) []:=by
  intro R hR
  refine rg ⟨by (intros;omega),trivial⟩ ?_
  refine rg trivial ?_
  revert hR;refine lN (fun i v=>Rg v x0.people.length (fun k v=>k<i→v=-1)) (by (exact Rg.rep (fun k hk h=>absurd h (Nat.not_lt_zero _)))) rfl fun i1 v1 F1 hn1 hI1 hR hK1=>?_
  refine rg trivial ?_
  refine ⟨fun hc1=>?_,fun hc1=>?_⟩
  ·have hii1:i1<x0.people.length:=by have:=of_decide_eq_true hc1;omega
   replace hR:=zbj hR hii1
   refine rg trivial ?_
   refine rg ⟨by (intros;omega),by (have:=hI1.len;omega),trivial⟩ ?_
   refine rg ⟨by ( intros;simp only [inR];omega),trivial⟩ ?_
   exact hK1 (v1.set i1 (-1)) hii1 (by (exact zs6 hI1)) hR
  ·obtain rfl:i1=x0.people.length:=by have:=of_decide_eq_false hc1;omega
   replace hR:=zbp hR (Nat.lt_irrefl _)
   refine rg ⟨by trivial,by (have:=hI1.len;omega),trivial,trivial⟩ ?_
   revert hR;refine lW (fun v=>StepsInv x0 v.1 v.2) (fun v=>v.2.length+neg v.1) (by (exact StepsInv.start hi hI1)) (Nat.lt_succ_self _) rfl fun m2 v2 F2 hI2 hM2 hR hK2=>?_
   refine rg trivial ?_
   revert hR;refine cd (fun hc2 hR=>?_) fun hc2 hR=>?_
   ·
     refine rg ⟨by ((try clear hR hK1 hK2);intros;(try simp only [decide_eq_true_eq,decide_eq_false_iff_not,Bool.or_eq_true,Bool.and_eq_true,zbd,za9,zba,Bool.not_eq_true',inR] at *);(repeat' apply And.intro)<;>(intros;omega)),by ((try clear hR hK1 hK2);intros;(try simp only [decide_eq_true_eq,decide_eq_false_iff_not,Bool.or_eq_true,Bool.and_eq_true,zbd,za9,zba,Bool.not_eq_true',inR] at *);(repeat' apply And.intro)<;>(first | (intros;omega) | (simp_all [inR];done))),⟨by trivial,by ((try clear hR hK1 hK2);intros;(try simp only [decide_eq_true_eq,decide_eq_false_iff_not,Bool.or_eq_true,Bool.and_eq_true,zbd,za9,zba,Bool.not_eq_true',inR] at *);(repeat' apply And.intro)<;>(have:=hI2.wait 0 om;omega))⟩,trivial⟩ ?_
     have hp1:=zc1 x0 (v2.2.getD 0 default)
     revert hR;refine lN (fun i v=>StepsInv x0 v.1 v.2∧v.2.length+neg v.1+1=v2.2.length+neg v2.1∧0<v2.2.length) (by ((try clear hR hK1 hK2);intros;(try simp only [decide_eq_true_eq,decide_eq_false_iff_not,Bool.or_eq_true,Bool.and_eq_true,zbd,za9,zba,Bool.not_eq_true',inR] at *);(repeat' apply And.intro)<;>(first | (intros;omega) | (have h9:=StepsInv.pop hI2 om;exact h9.1) | (have h9:=StepsInv.pop hI2 om;exact h9.2)))) rfl fun i3 v3 F3 hn3 hI3 hR hK3=>?_
     refine rg trivial ?_
     refine ⟨fun hc3=>?_,fun hc3=>?_⟩
     · have hii3:i3<(zbh x0 (v2.2.getD 0 default)).length:=by have:=of_decide_eq_true hc3;omega
       replace hR:=zbj hR hii3
       refine rg ⟨by (intros;omega),by (have h0:=hI2.wait 0 om;have h1:=(zc1 x0 (v2.2.getD 0 default)).2 i3 hii3;have h2:=hp (v2.2.getD 0 default).toNat om;have:=hI3.1.rg.len;omega),trivial⟩ ?_
       revert hR;refine cd (fun hc4 hR=>?_) fun hc4 hR=>?_
       ·
         refine rg ⟨by (have:=hI2.wait 0 om;omega),by ((try clear hR hK1 hK2 hK3);intros;(try simp only [decide_eq_true_eq,decide_eq_false_iff_not,Bool.or_eq_true,Bool.and_eq_true,zbd,za9,zba,Bool.not_eq_true',inR] at *);(repeat' apply And.intro)<;>(have h0:=hI2.wait 0 om;have h3:=hI3.1.rg.get (v2.2.getD 0 default).toNat om;have:=hI3.1.rg.len;omega)),by (have h0:=hI2.wait 0 om;have h1:=(zc1 x0 (v2.2.getD 0 default)).2 i3 hii3;have h2:=hp (v2.2.getD 0 default).toNat om;have:=hI3.1.rg.len;omega),by (have h0:=hI2.wait 0 om;have h1:=(zc1 x0 (v2.2.getD 0 default)).2 i3 hii3;have h2:=hp (v2.2.getD 0 default).toNat om;have:=hI3.1.rg.len;omega),trivial⟩ ?_
         refine rg ⟨trivial,by (have h1:=hI3.1.cnt;omega),trivial⟩ ?_
         refine rg ⟨by ( intros;simp only [inR];omega),trivial⟩ ?_
         exact hK3 ((v3.1.set (((zbh x0 (v2.2.getD 0 default)).getD i3 default).toNat) ((v3.1.getD ((v2.2.getD 0 default).toNat) default)+1)),(v3.2++[((zbh x0 (v2.2.getD 0 default)).getD i3 default)])) hii3 (by ((try clear hR hK1 hK2 hK3);intros;(try simp only [decide_eq_true_eq,decide_eq_false_iff_not,Bool.or_eq_true,Bool.and_eq_true,zbd,za9,zba,Bool.not_eq_true',inR] at *);(repeat' apply And.intro)<;>(first | (intros;omega) | (have h0:=hI2.wait 0 om;have h1:=(zc1 x0 (v2.2.getD 0 default)).2 i3 hii3;have h2:=hp (v2.2.getD 0 default).toNat om;have h4:=StepsInv.push hI3.1 h0 ⟨h1.1,om⟩ za3;exact h4.1) | (have h0:=hI2.wait 0 om;have h1:=(zc1 x0 (v2.2.getD 0 default)).2 i3 hii3;have h2:=hp (v2.2.getD 0 default).toNat om;have h4:=StepsInv.push hI3.1 h0 ⟨h1.1,om⟩ za3;have h5:=h4.2;omega)))) hR
       ·
         refine rg ⟨by ( intros;simp only [inR];omega),trivial⟩ ?_
         exact hK3 (v3.1,v3.2) hii3 zai hR
     · obtain rfl:i3=(zbh x0 (v2.2.getD 0 default)).length:=by have:=of_decide_eq_false hc3;omega
       replace hR:=zbp hR (Nat.lt_irrefl _)
       exact hK2 (v3.1,v3.2) (by ((try clear hR hK1 hK2 hK3);intros;(try simp only [decide_eq_true_eq,decide_eq_false_iff_not,Bool.or_eq_true,Bool.and_eq_true,zbd,za9,zba,Bool.not_eq_true',inR] at *);(repeat' apply And.intro)<;>(simp_all [inR];done))) (by ( intros;simp only [inR];omega)) hR
   ·
     refine rg trivial ?_
     refine og (by (have h9:=hI2.rg.len;omega)) ?_
     exact congrArg C51 hR
 exact Fn.go 64 Tryz.func51 zah zah (by simp [C51,Frs,FrsL,FrsB,rowOf,cInt,cBool,cStr,cSl,zce,zbq,zb4,zbx]) (A51 x0 x1) zah (aux _ rfl)
def k51 (x0:Family) (x1:Int):Cl:=(hres (C51 (zbg x0 x1)),k3 (znl x0 x1))
end Go.Proofs.YtaageiiodlfeiaaGreat
