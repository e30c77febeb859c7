import Derived.Test.YtlinnkjieghmhaaGreatDoorVP3
set_option maxHeartbeats 4000000
set_option linter.unusedSimpArgs false
set_option linter.unusedVariables false
namespace Go.Proofs.YtlinnkjieghmhaaGreatDoor
open Go Go.Lite Go.Proofs
def C8 (R:(List yd)×Bool):LV×List (Nat×BC):=(.tup [.own 0,.bool R.2],[(0,.arr 6 R.1.length (rowOf (zbt true) R.1))])
def zcs (x0:List UInt8):(List yd)×Bool:=bif ((!((zbp x0).2))||(decide (200<((((zbp x0).1).length:Nat):Int)))) then (([]:List yd),false) else (loopN (fun i1 (v1:(List yd)×(List ya)×(List yb)) next=>bif (!((zdj (yc.mk v1.2.1 v1.2.2) (((zbp x0).1).getD i1 default)).2.1)) then (([]:List yd),false) else (next ((v1.1++[((zdj (yc.mk v1.2.1 v1.2.2) (((zbp x0).1).getD i1 default)).1)]),(zdj (yc.mk v1.2.1 v1.2.2) (((zbp x0).1).getD i1 default)).2.2.1,(zdj (yc.mk v1.2.1 v1.2.2) (((zbp x0).1).getD i1 default)).2.2.2))) (fun (v1:(List yd)×(List ya)×(List yb))=>bif ((!((zbz v1.1).2))||(!((zcg v1.1)==x0))) then (([]:List yd),false) else (v1.1,true)) (((zbp x0).1).length) 0 (([]:List yd),([]:List ya),([]:List yb)))
def D8b1 (x0:List UInt8) (i1:Nat) (v1:(List yd)×(List ya)×(List yb)):Dl:=⟨[(28,.int .i64 ((i1:Nat):Int)),(7,.own 20007)],[(20007,.arr 6 v1.1.length (rowOf (zbt true) v1.1)),(30600,.arr 6 v1.2.1.length (rowOf (zbg true) v1.2.1)),(30601,.arr 4 v1.2.2.length (rowOf (zbi true) v1.2.2)),(6,.var [.own 30600,.own 30601])]⟩
def A8b1 (x0:List UInt8) (i1:Nat) (v1:(List yd)×(List ya)×(List yb)):Ann:=let q3:=((i1:Nat):Int);let q2:=(zbz v1.1).2;let q4:=((((zbp x0).1).length:Nat):Int);let q1:=zdj (yc.mk v1.2.1 v1.2.2) (((zbp x0).1).getD i1 default);r0 1 [0,2,3,6,7,26,27,28,29] [6,1016,20007,30600,30601] (cn (decide (q3<q4)) (.reg 2 [] [(1001,k25 34 [6,30600,30601] (yc.mk v1.2.1 v1.2.2) (((zbp x0).1).getD i1 default))] [0,2,3,6,7,10,11,26,27,28] [6,10,1016,1034,2034,20007] [] [pf (0≤(q3:Int)∧(q3:Int)<q4)] [] [0,4] (r0 1 [0,2,3,6,7,10,26,27,28,38] [6,10,1016,1034,2034,20007] (cn (!(q1.2.1)) (r0 1 [0,2,3,6,7,10,26,27,28] [6,10,1016,1034,2034,20007] (rt [(0,none)] (C8 (([]:List yd),false)))) (.reg 1 [] [(2,bsC 41 (zbt true) ([(q1.1)]:List yd)),(3,ap1 42 (zbt true) 56 v1.1 (q1.1))] [0,2,3,6,7,26,27,28] [6,42,1016,1034,2034] [] [] [] [0,4] (r1 1 [0,2,3,6,7,26,27,28] [6,42,1016,1034,2034] [pf (inR .i64 (q3+1))] [0] (.next 0 [(20007,some 42),(30600,some 1034),(30601,some 2034)] (D8b1 x0 (i1+1) ((v1.1++[(q1.1)]),q1.2.2.1,q1.2.2.2)))))))) (.reg 2 [] [(1,k10 v1.1),(1004,cg (!(!q2)) (k9 v1.1))] [2,3,7,56] [20007] [!(!q2),!q2] [] [] [0,1,4,1,1,6] (cn ((!q2)||(!((zcg v1.1)==x0))) (r0 1 [2,3,7] [20007] (rt [(0,none)] (C8 (([]:List yd),false)))) (r0 1 [2,3] [20007] (rt [(0,some 20007)] (C8 (v1.1,true)))))))
def A8 (x0:List UInt8):Ann:=let q1:=zbp x0;.reg 2 [] [(1001,k15 x0)] [0,2,3,4,5] [1016] [] [] [] [0] (.reg 1 [] [] [0,2,3,4,25] [1016] [!(!(q1.2)),!(q1.2)] [] [] [1,1,6] (cn ((!(q1.2))||(decide (200<(((q1.1).length:Nat):Int)))) (r0 1 [0,2,3,4] [1016] (rt [(0,none)] (C8 (([]:List yd),false)))) (r0 2 [0,2,3,4,6,7] [6,1016] (r0 1 [0,2,3,6,7,26,27,28] [6,1016] (lp (D8b1 x0) [] [] [(20007,none),(30600,none),(30601,none)] (D8b1 x0 0 (([]:List yd),([]:List ya),([]:List yb))) (A8b1 x0))))))
theorem zj5 (x0:List UInt8) (h:x0.length≤1048576):FnT Tryz.prog 8 [.str x0] (C8 (zcs x0)):=by
 have aux:∀ R,zcs x0=R→slim (C8 R) (A8 x0) []:=by
  intro R hR
  refine rg ⟨by with_reducible assumption,trivial⟩ ?_
  refine rg trivial ?_
  revert hR;refine cd (fun hc1 hR=>?_) fun hc1 hR=>?_
  ·
    refine rg trivial ?_
    exact congrArg C8 hR
  ·
    refine rg trivial ?_
    refine rg trivial ?_
    revert hR;refine lN (fun i v=>(v.2.1:List ya).length≤i∧(v.1:List yd).length≤i∧∀ e∈v.1,e.name.length≤1048576) (by (exact ⟨Nat.zero_le _,Nat.zero_le _,fun e he=>absurd he List.not_mem_nil⟩)) rfl fun i1 v1 F1 hn1 hI1 hR hK1=>?_
    refine rg trivial ?_
    refine ⟨fun hc2=>?_,fun hc2=>?_⟩
    · have hii1:i1<((zbp x0).1).length:=by have:=of_decide_eq_true hc2;omega
      replace hR:=zbq hR hii1
      refine rg ⟨by (intros;omega),⟨by ((try clear hR hK1);intros;(try simp only [decide_eq_true_eq,decide_eq_false_iff_not,Bool.or_eq_true,Bool.and_eq_true,zbd,zbb,zbc,Bool.not_eq_true',inR] at *);(repeat' apply And.intro)<;>(intros;omega)),by (have h9:=zhc x0;have h8:=ze0 x0 i1;omega)⟩,trivial⟩ ?_
      refine rg trivial ?_
      revert hR;refine cd (fun hc3 hR=>?_) fun hc3 hR=>?_
      ·
        refine rg trivial ?_
        exact congrArg C8 hR
      ·
        refine rg ⟨trivial,by (have h9:=zhc x0;have h8:=ze0 x0 i1;omega),trivial⟩ ?_
        refine rg ⟨by ((try clear hR hK1);intros;(try simp only [decide_eq_true_eq,decide_eq_false_iff_not,Bool.or_eq_true,Bool.and_eq_true,zbd,zbb,zbc,Bool.not_eq_true',inR] at *);(repeat' apply And.intro)<;>(intros;omega)),trivial⟩ ?_
        exact hK1 ((v1.1++[((zdj (yc.mk v1.2.1 v1.2.2) (((zbp x0).1).getD i1 default)).1)]),(zdj (yc.mk v1.2.1 v1.2.2) (((zbp x0).1).getD i1 default)).2.2.1,(zdj (yc.mk v1.2.1 v1.2.2) (((zbp x0).1).getD i1 default)).2.2.2) hii1 (by (dsimp only;refine ⟨Nat.le_trans (zxr _ _) (Nat.succ_le_succ hI1.1),(by simp only [List.length_append,List.length_cons,List.length_nil];omega),fun e he=>?_⟩;rcases List.mem_append.1 he with he | he;exact hI1.2.2 e he;rw [List.mem_singleton] at he;rw [he];exact Nat.le_trans (zuj _ _) (Nat.le_trans (ze0 x0 i1) h))) hR
    · obtain rfl:i1=((zbp x0).1).length:=by have:=of_decide_eq_false hc2;omega
      replace hR:=zbu hR (Nat.lt_irrefl _)
      refine rg ⟨⟨by ((try clear hR hK1);intros;(try simp only [decide_eq_true_eq,decide_eq_false_iff_not,Bool.or_eq_true,Bool.and_eq_true,zbd,zbb,zbc,Bool.not_eq_true',inR] at *);(repeat' apply And.intro)<;>(intros;omega)),by (exact hI1.2.2)⟩,fun hg0=>⟨by ((try clear hR hK1);intros;(try simp only [decide_eq_true_eq,decide_eq_false_iff_not,Bool.or_eq_true,Bool.and_eq_true,zbd,zbb,zbc,Bool.not_eq_true',inR] at *);(repeat' apply And.intro)<;>(intros;omega)),by (exact hI1.2.2)⟩,trivial⟩ ?_
      revert hR;refine cd (fun hc4 hR=>?_) fun hc4 hR=>?_
      ·
        refine rg trivial ?_
        exact congrArg C8 hR
      ·
        refine rg trivial ?_
        exact congrArg C8 hR
 exact Fn.go 58 Tryz.func8 (by kernel_rfl) (by kernel_rfl) (by simp [C8,Frs,FrsL,FrsB,rowOf,cInt,cBool,cStr,cSl,zdm,zbg,zbi,zcf,zbt,zft]) (A8 x0) (by kernel_rfl) (aux _ rfl)
def k8 (x0:List UInt8):Cl:=(hres (C8 (zcs x0)),k1 (zj5 x0))
theorem zzc (x:yc) (l:List UInt8):(zdj x l).2.2.2=x.unions:=by
 unfold zdj
 repeat' refine zbe (p:=fun (r:yd×Bool×List ya×List yb)=>r.2.2.2=x.unions) (fun _=>?_) (fun _=>?_)
 all_goals rfl
def runI : List (List UInt8) → List yd → List ya → Option (List yd)
  | [],o,_=>some o
  | l :: ls,o,p=>bif !((zdj (yc.mk p []) l).2.1) then none else runI ls (o++[(zdj (yc.mk p []) l).1]) (zdj (yc.mk p []) l).2.2.1
def fine (s:List UInt8) (o:List yd):Bool:=(zbh o).2&&(zfm o==s)
def fin (s : List UInt8) : Option (List yd) → List yd × Bool
  | none=>([],false)
  | some o=>bif fine s o then (o,true) else ([],false)
theorem z2n (s:List UInt8) (o:List yd):(bif ((!((zbh o).2))||(!((zfm o)==s))) then (([]:List yd),false) else (o,true))=fin s (some o):=by
 show _=bif fine s o then (o,true) else ([],false)
 unfold fine
 cases (zbh o).2<;>cases (zfm o==s)<;>rfl
theorem z0c {α:Type} {l:List α} {i:Nat} {d:α} (h:i<l.length):l.drop i=l.getD i d :: l.drop (i+1):=by
 rw [List.getD_eq_getElem?_getD,List.getElem?_eq_getElem h];exact List.drop_eq_getElem_cons h
theorem zr1 (s:List UInt8):zcs s=bif ((!((zbp s).2))||(decide (200<((((zbp s).1).length:Nat):Int)))) then (([]:List yd),false) else fin s (runI (zbp s).1 [] []):=by
 unfold zcs
 simp only [znt,zr7,z2n]
 generalize (zbp s).1=ls
 have go : ∀ (m i : Nat) (v : List yd × List ya × List yb), i + m = ls.length → v.2.2 = [] →
     loopN (fun i1 (v1:(List yd)×(List ya)×(List yb)) next=>bif (!((zdj (yc.mk v1.2.1 v1.2.2) (ls.getD i1 default)).2.1)) then (([]:List yd),false) else (next ((v1.1++[((zdj (yc.mk v1.2.1 v1.2.2) (ls.getD i1 default)).1)]),(zdj (yc.mk v1.2.1 v1.2.2) (ls.getD i1 default)).2.2.1,(zdj (yc.mk v1.2.1 v1.2.2) (ls.getD i1 default)).2.2.2))) (fun (v1:(List yd)×(List ya)×(List yb))=>fin s (some v1.1)) m i v=fin s (runI (ls.drop i) v.1 v.2.1):=by
  intro m
  induction m with
  | zero=>intro i v hi hv;rw [List.drop_of_length_le om];rfl
  | succ m ih =>
   intro i v hi hv
   obtain ⟨v1,v2,v3⟩:=v
   simp only at hv;subst hv
   rw [z0c (d:=default) om,runI]
   simp only [loopN]
   cases (zdj (yc.mk v2 []) (ls.getD i default)).2.1 with
   | false=>rfl
   | true=>simp only [Bool.not_true,cond_false];exact ih (i+1) _ om (zzc _ _)
 rw [go ls.length 0 _ om rfl];rfl
def zc8 (f:yc) (e:yd):List UInt8 :=
 bif decide (e.kind=1) then (bif decide (e.sex=2) then (((((((zca e.year)++[32,98,111,114,110,32])++e.name)++[32,119,111,109,97,110,32])++(zbl f e.a))++[32])++(zbl f e.b)) else (((((((zca e.year)++[32,98,111,114,110,32])++e.name)++[32,109,97,110,32])++(zbl f e.a))++[32])++(zbl f e.b)))
 else (bif decide (e.kind=2) then (((((zca e.year)++[32,117,110,105,111,110,32])++(zbl f e.a))++[32])++(zbl f e.b))
 else (bif decide (e.kind=3) then (((((zca e.year)++[32,112,97,114,116,101,100,32])++(zbl f e.a))++[32])++(zbl f e.b))
 else (((zca e.year)++[32,100,105,101,100,32])++(zbl f e.a))))
theorem ztt {x : List yd} (hb : (zbh x).2 = true) : zfm x = ((x.map (zc8 (zbh x).1)).map (· ++ [10])).flatten := by
 unfold zfm
 rw [hb]
 simp only [Bool.not_true,cond_false]
 refine zbx (fun i (v : List UInt8) => v = (((x.take i).map (zc8 (zbh x).1)).map (· ++ [10])).flatten) (fun r => r = ((x.map (zc8 (zbh x).1)).map (· ++ [10])).flatten) zas (fun i v next hi hv hn => ?_) (fun v hv => by rw [hv, List.take_of_length_le (Nat.le_refl _)])
 have key : ∀ v', v' = v ++ zc8 (zbh x).1 (x.getD i default) ++ [10] → next v' = ((x.map (zc8 (zbh x).1)).map (· ++ [10])).flatten := fun v' e => hn _ (by
   rw [e,hv]
   simp only [List.take_add_one,List.getElem?_eq_getElem hi,Option.toList_some,List.map_append,List.flatten_append,List.map_cons,List.map_nil,List.flatten_cons,List.flatten_nil,List.append_nil,List.getD_eq_getElem?_getD,Option.getD_some,List.append_assoc])
 have e : ∀ X, X = zc8 (zbh x).1 (x.getD i default) → next (v ++ X ++ [10]) = ((x.map (zc8 (zbh x).1)).map (· ++ [10])).flatten := fun X h => key _ (by rw [h])
 revert e
 unfold zc8
 generalize ((x.map _).map _).flatten=Z
 intro e
 cases h1:decide ((x.getD i default).kind=1) with
 | true=>cases h2:decide ((x.getD i default).sex=2)<;>exact e _ (by rw [h1,h2];rfl)
 | false => cases h2 : decide ((x.getD i default).kind = 2) with
   | true=>exact e _ (by rw [h1,h2];rfl)
   | false=>cases h3:decide ((x.getD i default).kind=3)<;>exact e _ (by rw [h1,h2,h3];rfl)
def Wd (s:List UInt8):Prop:=(10:UInt8) ∉ s∧(32:UInt8) ∉ s
theorem wd_of {s:List UInt8} (h:∀ b∈s,33≤b.toNat):Wd s:=⟨fun hm=>absurd (h _ hm) za7,fun hm=>absurd (h _ hm) za7⟩
theorem zyl {y:Int} (h:0≤y∧y≤9999):Wd (zca y):=by
 rw [ziq h.1]
 refine wd_of fun b hb=>?_
 have:=((ziz (y.toNat+1) y.toNat (Nat.lt_succ_self _)).2.1 b hb).1
 omega
theorem zre {s:List UInt8} (h:zcp s=true):Wd s:=by
 unfold zcp at h
 rw [zeo] at h
 simp only [zbd,decide_eq_false_iff_not] at h
 refine wd_of fun b hb=>?_
 obtain ⟨k,hk,e⟩:=zf2 (d:=0) hb
 have:=(h.1 k hk).1
 rw [e] at this;omega
theorem zf6 {f:yc} (hf:za9 f=true) (a:Int):Wd (zbl f a):=by
 unfold zbl
 refine zbe (p:=fun (r:List UInt8)=>Wd r) (fun _=>wd_of za7) (fun _=>?_)
 by_cases c:a.toNat<f.people.length
 ·exact zre (fam_p hf c).name
 ·rw [List.getD_eq_getElem?_getD,List.getElem?_eq_none om];exact ⟨List.not_mem_nil,List.not_mem_nil⟩
theorem zzw {x : List yd} (hb : (zbh x).2 = true) {e : yd} (he : e ∈ x) :
    (10:UInt8) ∉ zc8 (zbh x).1 e∧¬ ((zel (zc8 (zbh x).1 e) 32).length=6∧zeb ((zel (zc8 (zbh x).1 e) 32).getD 3 default)=0)∧0≤e.year∧¬ (e.kind=1∧e.sex=0):=by
 obtain ⟨hf,hk⟩:=zra x hb
 obtain ⟨i,hi,e1⟩:=zf2 (d:=default) he
 have hs:=zq9 hb hi
 have hk:=(hk i hi).2
 rw [e1] at hs hk
 have wn:e.kind=1→Wd e.name:=fun k=>by
  cases hk with
  | birth h j hj h1=>rw [← h1];exact zre (fam_p hf hj).name
  | union h=>omega
  | parting h=>omega
  | death h=>omega
 have w0:=zyl hs.year
 have wa:=zf6 hf e.a
 have wb:=zf6 hf e.b
 have sp:∀ t,zel t 32=zc2 32 t:=fun t=>zl9 t 32
 refine ⟨?_,?_,hs.year.1,fun h=>by have:=hs.sex h.1;omega⟩
 ·unfold zc8
  have w1:=wa.1;have w2:=wb.1;have w3:=w0.1
  refine zbe (p:=fun (r:List UInt8)=>(10:UInt8) ∉ r) (fun k=>?_) (fun _=>?_)
  ·have w4:=(wn (of_decide_eq_true k)).1
   exact zbe (p:=fun (r:List UInt8)=>(10:UInt8) ∉ r) (fun _=>by simp [w1,w2,w3,w4]) (fun _=>by simp [w1,w2,w3,w4])
  ·refine zbe (p:=fun (r:List UInt8)=>(10:UInt8) ∉ r) (fun _=>by simp [w1,w2,w3]) (fun _=>?_)
   exact zbe (p:=fun (r:List UInt8)=>(10:UInt8) ∉ r) (fun _=>by simp [w1,w2,w3]) (fun _=>by simp [w1,w3])
 ·unfold zc8
  have w1:=wa.2;have w2:=wb.2;have w3:=w0.2
  refine zbe (p:=fun (r:List UInt8)=>¬ ((zel r 32).length=6∧zeb ((zel r 32).getD 3 default)=0)) (fun k=>?_) (fun _=>?_)
  ·have w4:=(wn (of_decide_eq_true k)).2
   refine zbe (p:=fun (r:List UInt8)=>¬ ((zel r 32).length=6∧zeb ((zel r 32).getD 3 default)=0)) (fun _=>?_) (fun _=>?_)
   ·rw [show ((((((zca e.year ++ [32, 98, 111, 114, 110, 32]) ++ e.name) ++ [32, 119, 111, 109, 97, 110, 32]) ++ zbl (zbh x).1 e.a) ++ [32]) ++ zbl (zbh x).1 e.b) = zca e.year ++ 32 :: ([98, 111, 114, 110] ++ 32 :: (e.name ++ 32 :: ([119, 111, 109, 97, 110] ++ 32 :: (zbl (zbh x).1 e.a ++ 32 :: zbl (zbh x).1 e.b)))) by simp,
      sp,zbs w3,zbs za7,zbs w4,zbs za7,zbs w1,zcr w2]
    exact fun h=>absurd h.2 (show ¬ zeb [119,111,109,97,110]=0 by decide)
   ·rw [show ((((((zca e.year ++ [32, 98, 111, 114, 110, 32]) ++ e.name) ++ [32, 109, 97, 110, 32]) ++ zbl (zbh x).1 e.a) ++ [32]) ++ zbl (zbh x).1 e.b) = zca e.year ++ 32 :: ([98, 111, 114, 110] ++ 32 :: (e.name ++ 32 :: ([109, 97, 110] ++ 32 :: (zbl (zbh x).1 e.a ++ 32 :: zbl (zbh x).1 e.b)))) by simp,
      sp,zbs w3,zbs za7,zbs w4,zbs za7,zbs w1,zcr w2]
    exact fun h=>absurd h.2 (show ¬ zeb [109,97,110]=0 by decide)
  ·refine zbe (p:=fun (r:List UInt8)=>¬ ((zel r 32).length=6∧zeb ((zel r 32).getD 3 default)=0)) (fun _=>?_) (fun _=>?_)
   ·rw [show ((((zca e.year ++ [32, 117, 110, 105, 111, 110, 32]) ++ zbl (zbh x).1 e.a) ++ [32]) ++ zbl (zbh x).1 e.b) = zca e.year ++ 32 :: ([117, 110, 105, 111, 110] ++ 32 :: (zbl (zbh x).1 e.a ++ 32 :: zbl (zbh x).1 e.b)) by simp,
      sp,zbs w3,zbs za7,zbs w1,zcr w2]
    exact fun h=>absurd h.1 zas
   ·refine zbe (p:=fun (r:List UInt8)=>¬ ((zel r 32).length=6∧zeb ((zel r 32).getD 3 default)=0)) (fun _=>?_) (fun _=>?_)
    ·rw [show ((((zca e.year ++ [32, 112, 97, 114, 116, 101, 100, 32]) ++ zbl (zbh x).1 e.a) ++ [32]) ++ zbl (zbh x).1 e.b) = zca e.year ++ 32 :: ([112, 97, 114, 116, 101, 100] ++ 32 :: (zbl (zbh x).1 e.a ++ 32 :: zbl (zbh x).1 e.b)) by simp,
       sp,zbs w3,zbs za7,zbs w1,zcr w2]
     exact fun h=>absurd h.1 zas
    ·rw [show ((zca e.year ++ [32, 100, 105, 101, 100, 32]) ++ zbl (zbh x).1 e.a) = zca e.year ++ 32 :: ([100, 105, 101, 100] ++ 32 :: zbl (zbh x).1 e.a) by simp,
       sp,zbs w3,zbs za7,zcr w1]
     exact fun h=>absurd h.1 zas
theorem zml : ∀ (ls : List (List UInt8)), (∀ l ∈ ls, (10 : UInt8) ∉ l) → zc2 10 ((ls.map (· ++ [10])).flatten) = ls ++ [[]]
  | [],_=>rfl
  | l :: ls,h=>by
    rw [List.map_cons,List.flatten_cons,List.append_assoc,List.singleton_append,zbs (h l (List.mem_cons_self ..)),zml ls fun l' h'=>h l' (List.mem_cons_of_mem _ h')];rfl
theorem zti : ∀ (ls : List (List UInt8)), ls ≠ [] → ∃ t, (ls.map (· ++ [10])).flatten = t ++ [(10 : UInt8)]
  | [l],_=>⟨l,by simp⟩
  | l :: l2 :: ls,_=>by
    obtain ⟨t,h⟩:=zti (l2 :: ls) zas
    exact ⟨l++[10]++t,by rw [List.map_cons,List.flatten_cons,h];simp⟩
theorem zof (c : UInt8) : ∀ t : List UInt8, zc2 c (t ++ [c]) = zc2 c t ++ [[]]
  | []=>by simp [zc2]
  | b :: t=>by
    have ih:=zof c t
    have h1:=(zfd c t).1
    rw [List.cons_append,zc2,zc2,ih]
    by_cases e:b=c
    · rw [if_pos e,if_pos e];rfl
    · rw [if_neg e,if_neg e]
      cases hp:zc2 c t with
      | nil=>rw [hp] at h1;simp at h1
      | cons p q=>rfl
theorem zpd (t:List UInt8):zld (t++[10]) [10]=true:=by
 unfold zld slSuf
 have e:((((t++[(10:UInt8)]).length:Nat):Int) - (([(10:UInt8)].length:Nat):Int)).toNat=t.length:=by simp
 rw [e]
 simp;omega
theorem znw (ls : List (List UInt8)) : (zbp ((ls.map (· ++ [10])).flatten)).2 = true := by
 by_cases h:ls=[]
 ·subst h;rfl
 ·obtain ⟨t,e⟩:=zti ls h
  rw [e]
  unfold zbp
  refine zbe (p:=fun (r:List (List UInt8)×Bool)=>r.2=true) (fun _=>rfl) (fun _=>?_)
  rw [zpd];rfl
theorem znv (s:List UInt8) (h:(zbp s).2=true):zel s 10=(zbp s).1++[[]]:=by
 have sp:zel s 10=zc2 10 s:=zl9 s 10
 rw [sp]
 by_cases h0:s=[]
 ·subst h0;rfl
 ·have hs:∃ t,s=t++[10]:=by
   unfold zbp at h
   rw [show (s==([]:List UInt8))=false by simpa using h0] at h
   cases c:zld s [10] with
   | false=>rw [c] at h;cases h
   | true =>
    unfold zld slSuf at c
    simp only [Bool.and_eq_true,decide_eq_true_eq,beq_iff_eq] at c
    obtain ⟨c1,c2⟩:=c
    have e:(((s.length:Nat):Int) - (([(10:UInt8)].length:Nat):Int)).toNat=s.length - 1:=by simp only [List.length_singleton];omega
    rw [e] at c2
    rw [List.take_of_length_le (by rw [List.length_drop];exact Nat.le_refl _)] at c2
    exact ⟨s.take (s.length - 1),by rw [← c2,List.take_append_drop]⟩
  obtain ⟨t,rfl⟩:=hs
  rw [zof]
  unfold zbp
  rw [zpd,show ((t++[(10:UInt8)])==([]:List UInt8))=false by simp]
  simp only [Bool.not_true,cond_false]
  have e:List.take (((((t++[(10:UInt8)]).length:Nat):Int) - 1).toNat - 0) (List.drop 0 (t++[10]))=t:=by
   rw [show ((((t++[(10:UInt8)]).length:Nat):Int) - 1).toNat - 0=t.length by simp]
   simp
  rw [e];rfl
end Go.Proofs.YtlinnkjieghmhaaGreatDoor
