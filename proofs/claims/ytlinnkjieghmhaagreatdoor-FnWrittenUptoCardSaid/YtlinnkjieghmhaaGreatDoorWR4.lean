import Derived.Shelf.Strings.OnBuilder
import Derived.Test.YtlinnkjieghmhaaGreatDoorM253
set_option maxHeartbeats 4000000
set_option linter.unusedSimpArgs false
set_option linter.unusedVariables false
namespace Go.Proofs.YtlinnkjieghmhaaGreatDoor
open Go Go.Lite Go.Proofs
open Go.Shelf Go.RowKit Go.Sort Go.Lib
def Tryz.lays156_ren:Go.Shelf.Ren:=⟨fun | 156=>19 | 165=>50 | 166=>18 | 169=>23 | 240=>49 | 241=>67 | 276=>66 | 277=>81 | n=>n,fun | 31=>43 | 9=>9 | 3=>3 | 4=>4 | 0=>0 | 20=>20 | 72=>51 | 76=>56 | 70=>49 | 37=>22 | 75=>55 | 127=>91 | 164=>101 | 5=>5 | 80=>63 | n=>n,fun | n=>n⟩
theorem Tryz.lays156 : Go.Proofs.Lays.n156 Tryz.prog Tryz.lays156_ren := {
  mixed:=by kernel_rfl
  f156:=Tryz.func19.trans (congrArg some (by kernel_rfl))
  f165:=Tryz.func50.trans (congrArg some (by kernel_rfl))
  f166:=Tryz.func18.trans (congrArg some (by kernel_rfl))
  f169:=Tryz.func23.trans (congrArg some (by kernel_rfl))
  f240:=Tryz.func49.trans (congrArg some (by kernel_rfl))
  f241:=Tryz.func67.trans (congrArg some (by kernel_rfl))
  f276:=Tryz.func66.trans (congrArg some (by kernel_rfl))
  f277:=Tryz.func81.trans (congrArg some (by kernel_rfl))
  t0:=Tryz.underlying0
  a0:=Tryz.isAgg0
  z0:=Tryz.sizeOf0
  v0:=Tryz.zeroValue0
  t3:=Tryz.underlying3
  a3:=Tryz.isAgg3
  z3:=Tryz.sizeOf3
  v3:=Tryz.zeroValue3
  t4:=Tryz.underlying4
  a4:=Tryz.isAgg4
  z4:=Tryz.sizeOf4
  v4:=Tryz.zeroValue4
  t9:=Tryz.underlying9
  a9:=Tryz.isAgg9
  z9:=Tryz.sizeOf9
  v9:=Tryz.zeroValue9
  t20:=Tryz.underlying20
  a20:=Tryz.isAgg20
  z20:=Tryz.sizeOf20
  v20:=Tryz.zeroValue20
  t31:=Tryz.underlying43
  a31:=Tryz.isAgg43
  z31:=Tryz.sizeOf43
  v31:=Tryz.zeroValue43
  t37:=Tryz.underlying22
  a37:=Tryz.isAgg22
  z37:=Tryz.sizeOf22
  v37:=Tryz.zeroValue22
  t70:=Tryz.underlying49
  a70:=Tryz.isAgg49
  z70:=Tryz.sizeOf49
  v70:=Tryz.zeroValue49
  t72:=Tryz.underlying51
  a72:=Tryz.isAgg51
  z72:=Tryz.sizeOf51
  v72:=Tryz.zeroValue51
  t75:=Tryz.underlying55
  a75:=Tryz.isAgg55
  z75:=Tryz.sizeOf55
  v75:=Tryz.zeroValue55
  t76:=Tryz.underlying56
  a76:=Tryz.isAgg56
  z76:=Tryz.sizeOf56
  v76:=Tryz.zeroValue56
  t127:=Tryz.underlying91
  a127:=Tryz.isAgg91
  z127:=Tryz.sizeOf91
  v127:=Tryz.zeroValue91
  t164:=Tryz.underlying101
  a164:=Tryz.isAgg101
  z164:=Tryz.sizeOf101
  v164:=Tryz.zeroValue101 }
theorem Tryz.Builder_Extra_156 : Builder.Extra Tryz.prog Tryz.lays156_ren := {
  sizeBuilder:=by kernel_rfl
  liesBuilder:=by kernel_rfl
  t5:=Tryz.underlying5
  a5:=Tryz.isAgg5
  z5:=Tryz.sizeOf5
  v5:=Tryz.zeroValue5
  infoByte:=by kernel_rfl
  cellsByte:=by kernel_rfl
  sizeByte:=by kernel_rfl
  neB5:=by decide }
theorem Tryz.strings_Join (bk o c : Nat) (xs : List ByteArray) (sep : ByteArray) (w : World) (hcells : ∀ (j : Nat) x, xs[j]? = some x → w.cell? ⟨bk, o + j, none⟩ = some (.string x)) (hbk : bk < w.heap.size) (hN : xs.length ≤ 140737488355328) (hcap : xs.length ≤ c) (hlen : (Lib.join (xs.map (·.data.toList)) sep.data.toList).length ≤ 140737488355328) :
    Calls Tryz.prog 19 #[.slice (some ⟨bk, o, none⟩) xs.length c, .string sep] w fun e w' => e = .returned (.string ⟨(Lib.join (xs.map (·.data.toList)) sep.data.toList).toArray⟩) ∧ Below w.heap.size w w' := Any.strings_Join Tryz.lays156 Tryz.Builder_Extra_156 bk o c xs sep w hcells hbk hN hcap hlen
def C19 (R:(List UInt8)):LV×List (Nat×BC):=(.str R,[])
def joinS (x0:List (List UInt8)) (x1:List UInt8):List UInt8:=Lib.join x0 x1
open Go.RowKit in
theorem zx6 {P : Program} {ρ : Go.Shelf.Ren} {l : List (List UInt8)} {sep : List UInt8} (L : Go.Proofs.Lays.n156 P ρ) (X : Go.Proofs.Builder.Extra P ρ) (hn : l.length ≤ 1000) (hl : (Lib.join l sep).length ≤ 1048576) :
    Lite.Fn P (ρ.f 156) [.ro false 1 l.length (rowOf cStr l),.str sep] (.str (Lib.join l sep)) []:=by
 intro w vals hg hv h
 match vals,hv with
 | [v,u],_ =>
  have h1:=h 0 _ v rfl rfl 0
  have h2:=h 1 _ u rfl rfl 0
  cases h2
  have fin:∀ e w',e=Ending.returned (.string ⟨(Lib.join l sep).toArray⟩)∧Below w.heap.size w w'→∃ v,e=.returned v∧Below w.heap.size w w'∧ResOk w' w.heap.size (.str (Lib.join l sep)) [] v:=fun e w' ⟨he,hw⟩=>⟨_,he,hw,.val (fun _=>.str _) fun id hm=>by cases hm⟩
  cases h1 with
  | ro _ _ _ _ A ad cap cv hcap hA hlt hX hB hsz ho hc hr =>
   have e0 : ((l.map fun s => (⟨s.toArray⟩ : ByteArray)).map (·.data.toList)) = l := by simp [List.map_map, Function.comp_def]
   by_cases h0:l=[]
   ·subst h0
    exact (Go.Proofs.Any.strings_Join_none L X A cap ⟨sep.toArray⟩ w).mono fun e w' ⟨he,hw⟩=>fin e w' ⟨he,by rw [hw];exact .refl _ _⟩
   ·have hp:0<l.length:=List.length_pos_iff.2 h0
    cases hA hp
    have cell:∀ j x,l[j]?=some x→w.cell? (ad.add j)=some (.string ⟨x.toArray⟩):=fun j x hx=>by
     have hj:j<l.length:=by
      rcases Nat.lt_or_ge j l.length with h | h
      ·exact h
      ·rw [List.getElem?_eq_none h] at hx;cases hx
     have h3:=hc j 0 hj (Nat.lt_succ_self 0)
     have h4:=hr j 0 (.str x) hj (by simp [rowOf,cStr,List.getD_eq_getElem?_getD,hx])
     rw [Nat.mul_one,Nat.add_zero] at h3
     generalize cv j 0=q at h3 h4
     cases h4;exact h3
    obtain ⟨x,hx⟩:∃ x,l[0]?=some x:=⟨l[0],List.getElem?_eq_getElem hp⟩
    have hs:ad.spot=none:=by
     have:=cell 0 x hx
     rw [show ad.add 0=ad from rfl] at this
     unfold World.cell? at this
     split at this
     ·split at this
      ·cases this
      ·rename_i hh;simpa using hh
     ·cases this
    obtain ⟨bk,o,sp⟩:=ad
    simp only at hs
    subst hs
    have hm:(l.map fun s=>(⟨s.toArray⟩:ByteArray)).length=l.length:=List.length_map _
    have g:=Go.Proofs.Any.strings_Join L X bk o cap (l.map fun s=>(⟨s.toArray⟩:ByteArray)) ⟨sep.toArray⟩ w (fun j x hx=>by
     rw [List.getElem?_map] at hx
     cases hl':l[j]? with
     | none=>rw [hl'] at hx;cases hx
     | some y =>
      rw [hl'] at hx;cases hx
      have:=cell j y hl'
      unfold Addr.add at this
      split at this
      ·rename_i hh;subst hh;exact this
      ·exact this) (hlt hp) (by rw [hm];omega) (by rw [hm];exact hcap) (by rw [e0];show (Lib.join l sep.toArray.toList).length≤_;simp only [List.toList_toArray];omega)
    rw [hm,e0] at g
    exact g.mono fun e w' h'=>fin e w' (by simpa using h')
theorem zk6 (a b c d e f:List UInt8):(joinS [a,b,c,d,e,f] [32]).length=a.length+b.length+c.length+d.length+e.length+f.length+5:=by
 simp [joinS,Lib.join,List.intercalate];omega
theorem zk7 (a b c d e:List UInt8):(joinS [a,b,c,d,e] [32]).length=a.length+b.length+c.length+d.length+e.length+4:=by
 simp [joinS,Lib.join,List.intercalate];omega
theorem zok (x0:List (List UInt8)) (x1:List UInt8) (h:x0.length≤1000∧(joinS x0 x1).length≤1048576):FnT Tryz.prog 19 [.ro false 1 x0.length (rowOf (cStr) x0),.str x1] (C19 (joinS x0 x1)):=zx6 Tryz.lays156 Tryz.Builder_Extra_156 h.1 h.2
def k19 (x0:List (List UInt8)) (x1:List UInt8):Cl:=(hres (C19 (joinS x0 x1)),k1 (zok x0 x1))
def C22 (R:(List UInt8)):LV×List (Nat×BC):=(.str R,[])
def zb6 (x0:Int):(List UInt8):=bif (decide (x0=(-1))) then [45] else (itoa x0)
def A22 (x0:Int):Ann:=r0 1 [0,2] [] (r0 1 [0,2,4] [] (cn (decide (x0=(-1))) (r0 1 [0,2] [] (rt [] (C22 [45]))) (.reg 1 [] [(1,k26 x0)] [2] [] [] [] [] [0] (rt [] (C22 (itoa x0))))))
theorem zgg {x:Int} (h:x≤9999):(zb6 x).length≤4:=by
 unfold zb6
 exact zbe (p:=fun (r:List UInt8)=>r.length≤4) (fun _=>by simp) (fun _=>zk8 h)
theorem zm6 (x0:Int) (h:-1≤x0∧x0≤9999):FnT Tryz.prog 22 [.int .i64 x0] (C22 (zb6 x0)):=by
 have aux:∀ R,zb6 x0=R→slim (C22 R) (A22 x0) []:=by
  intro R hR
  refine rg trivial ?_
  refine rg trivial ?_
  revert hR;refine cd (fun hc1 hR=>?_) fun hc1 hR=>?_
  ·
    refine rg trivial ?_
    exact congrArg C22 hR
  ·
    refine rg ⟨by first | trivial | assumption | rfl | (intros;omega) | ( intros;simp only [inR];omega) | ((simp only [decide_eq_false_iff_not] at *;omega)) | ((try clear hR);intros;(try simp only [decide_eq_true_eq,decide_eq_false_iff_not,Bool.or_eq_true,Bool.and_eq_true,zbd,zbb,zbc,Bool.not_eq_true',inR] at *);(repeat' apply And.intro)<;>(first | (intros;omega) | ((simp only [decide_eq_false_iff_not] at *;omega)) | assumption | rfl | (simp_all [inR];done) | (simp_all [inR];omega))),trivial⟩ ?_
    exact congrArg C22 hR
 exact Fn.go 7 Tryz.func22 (by kernel_rfl) (by kernel_rfl) (by simp [C22,Frs,FrsL]) (A22 x0) (by kernel_rfl) (aux _ rfl)
def k22 (x0:Int):Cl:=(hres (C22 (zb6 x0)),k1 (zm6 x0))
theorem ziw {x:yc} (hf:za9 x=true) (a:Int):(zbr x a).length≤12:=by
 unfold zbr
 refine zbe (p:=fun (r:List UInt8)=>r.length≤12) (fun _=>by simp) (fun _=>?_)
 by_cases c:a.toNat<x.people.length
 ·exact znk (fam_p hf c).name
 ·rw [List.getD_eq_getElem?_getD,List.getElem?_eq_none om];exact Nat.zero_le _
theorem zfc {x : yc} (h : (!(zcb x)) = false) {i : Nat} (hi : i < x.people.length) : (zdi (x.people.getD i default).sex).length ≤ 5 ∧ (x.people.getD i default).name.length ≤ 12 ∧ (zbr x (x.people.getD i default).father).length ≤ 12 ∧ (zbr x (x.people.getD i default).mother).length ≤ 12 ∧ (zb6 (x.people.getD i default).born).length ≤ 4 ∧ (zb6 (x.people.getD i default).died).length ≤ 4 ∧
    (x.people.getD i default).father<x.people.length∧(x.people.getD i default).mother<x.people.length∧(-1≤(x.people.getD i default).born∧(x.people.getD i default).born≤9999)∧-1≤(x.people.getD i default).died∧(x.people.getD i default).died≤9999:=by
 have hf:za9 x=true:=by rw [← zdk];simpa using h
 have p:=fam_p hf hi
 have h1:=p.born;have h2:=p.died;have h3:=p.fa;have h4:=p.mo
 exact ⟨zn5 _,znk p.name,ziw hf _,ziw hf _,zgg om,zgg om,om,om,om,om,om⟩
theorem zfu {x : yc} (h : (!(zcb x)) = false) {i : Nat} (hi : i < x.unions.length) : (zbr x (x.unions.getD i default).man).length ≤ 12 ∧ (zbr x (x.unions.getD i default).woman).length ≤ 12 ∧ (zb6 (x.unions.getD i default).from0).length ≤ 4 ∧ (zb6 (x.unions.getD i default).to).length ≤ 4 ∧
    (x.unions.getD i default).man<x.people.length∧(x.unions.getD i default).woman<x.people.length∧(-1≤(x.unions.getD i default).from0∧(x.unions.getD i default).from0≤9999)∧-1≤(x.unions.getD i default).to∧(x.unions.getD i default).to≤9999:=by
 have hf:za9 x=true:=by rw [← zdk];simpa using h
 have u:=fam_u hf hi
 have h1:=u.man;have h2:=u.woman;have h3:=u.from0;have h4:=u.to
 have h5:=(fam_p hf (k:=(x.unions.getD i default).man.toNat) om).born
 exact ⟨ziw hf _,ziw hf _,zgg om,zgg om,om,om,om,om,om⟩
def C6 (R:(List UInt8)):LV×List (Nat×BC):=(.str R,[])
def zek (x0:yc):(List UInt8):=bif (!(zcb x0)) then ([]:List UInt8) else (loopN (fun i1 (v1:(List UInt8)) next=>next (v1++((joinS ([zdi ((x0.people.getD i1 default).sex),(x0.people.getD i1 default).name,zbr x0 ((x0.people.getD i1 default).father),zbr x0 ((x0.people.getD i1 default).mother),zb6 ((x0.people.getD i1 default).born),zb6 ((x0.people.getD i1 default).died)]:List (List UInt8)) [32])++[10]))) (fun (v1:(List UInt8))=>loopN (fun i2 (v2:(List UInt8)) next=>next (v2++((joinS ([[117,110,105,111,110],zbr x0 ((x0.unions.getD i2 default).man),zbr x0 ((x0.unions.getD i2 default).woman),zb6 ((x0.unions.getD i2 default).from0),zb6 ((x0.unions.getD i2 default).to)]:List (List UInt8)) [32])++[10]))) (fun (v2:(List UInt8))=>v2) x0.unions.length 0 v1) x0.people.length 0 ([]:List UInt8))
def D6b1 (i1:Nat) (v1:(List UInt8)):Dl:=⟨[(14,.int .i64 ((i1:Nat):Int))],[(3,.bld 51 5 v1)]⟩
def D6b2 (i2:Nat) (v2:(List UInt8)):Dl:=⟨[(45,.int .i64 ((i2:Nat):Int))],[(3,.bld 51 5 v2)]⟩
def A6b2 (x0:yc) (i2:Nat) (v2:(List UInt8)):Ann:=let q3:=((i2:Nat):Int);let q2:=x0.unions.getD i2 default;let q4:=((x0.unions.length:Nat):Int);let q1:=([[117,110,105,111,110],zbr x0 (q2.man),zbr x0 (q2.woman),zb6 (q2.from0),zb6 (q2.to)]:List (List UInt8));let q5:=joinS q1 [32];r0 1 [1,2,3,43,44,45,46] [1,3] (cn (decide (q3<q4)) (r1 1 [1,2,3,7,43,44,45] [1,3,7] [pf (0≤(q3:Int)∧(q3:Int)<q4)] [0] (.reg 1 [] [(3,k21 x0 (q2.man)),(7,k21 x0 (q2.woman)),(10,k22 (q2.from0)),(13,k22 (q2.to)),(14,bsC 63 (cStr) (q1:List (List UInt8))),(15,k19 q1 [32]),(17,kbw 66 [3] v2 (q5++[10]))] [1,2,3,43,44,45] [1,3] [] [pf (((q5.length+[10].length:Nat):Int)≤9223372036854775807)] [] [4,8,12,16,20,24,0,28] (r1 1 [1,2,3,43,44,45] [1,3] [pf (inR .i64 (q3+1))] [0] (.next 0 [] (D6b2 (i2+1) (v2++(q5++[10]))))))) (.reg 1 [] [(0,kbs 68 [3] v2)] [2] [] [] [] [] [0] (rt [] (C6 v2))))
def A6b1 (x0:yc) (i1:Nat) (v1:(List UInt8)):Ann:=let q3:=((i1:Nat):Int);let q2:=x0.people.getD i1 default;let q4:=((x0.people.length:Nat):Int);let q1:=([zdi (q2.sex),q2.name,zbr x0 (q2.father),zbr x0 (q2.mother),zb6 (q2.born),zb6 (q2.died)]:List (List UInt8));let q5:=joinS q1 [32];r0 1 [1,2,3,12,13,14,15] [1,3] (cn (decide (q3<q4)) (r1 1 [1,2,3,5,12,13,14] [1,3,5] [pf (0≤(q3:Int)∧(q3:Int)<q4)] [0] (.reg 1 [] [(2,k20 (q2.sex)),(8,k21 x0 (q2.father)),(12,k21 x0 (q2.mother)),(15,k22 (q2.born)),(18,k22 (q2.died)),(19,bsC 37 (cStr) (q1:List (List UInt8))),(20,k19 q1 [32]),(22,kbw 40 [3] v1 (q5++[10]))] [1,2,3,12,13,14] [1,3] [] [pf (((q5.length+[10].length:Nat):Int)≤9223372036854775807)] [] [4,8,12,16,20,24,28,0,32] (r1 1 [1,2,3,12,13,14] [1,3] [pf (inR .i64 (q3+1))] [0] (.next 0 [] (D6b1 (i1+1) (v1++(q5++[10]))))))) (r0 1 [1,2,3,43,44,45] [1,3] (lp (D6b2) [] [] [] (D6b2 0 v1) (A6b2 x0))))
def A6 (x0:yc):Ann:=r0 1 [1,2] [1] (.reg 1 [] [(1,k17 x0)] [1,2,10] [1] [] [] [] [0] (cn (!(zcb x0)) (r0 1 [1,2] [1] (rt [] (C6 ([]:List UInt8)))) (.reg 1 [(0,.nstM 5 0 (fun _=>.gone))] [] [1,2,3] [1,3] [] [] [] [] (r0 1 [1,2,3,12,13,14] [1,3] (lp (D6b1) [] [] [] (D6b1 0 ([]:List UInt8)) (A6b1 x0))))))
theorem zjn (x0:yc) (hx:x0.people.length≤1048576) (hu:x0.unions.length≤1048576) (hn:∀ p∈x0.people,p.name.length≤1048576):FnT Tryz.prog 6 [.agg (zcf false x0)] (C6 (zek x0)):=by
 have aux:∀ R,zek x0=R→slim (C6 R) (A6 x0) []:=by
  intro R hR
  refine rg trivial ?_
  refine rg ⟨⟨by with_reducible assumption,by with_reducible assumption,by with_reducible assumption⟩,trivial⟩ ?_
  revert hR;refine cd (fun hc1 hR=>?_) fun hc1 hR=>?_
  ·
    refine rg trivial ?_
    exact congrArg C6 hR
  ·
    refine rg trivial ?_
    refine rg trivial ?_
    revert hR;refine lN (fun i v=>(v:List UInt8).length≤100 * i) (by ((exact Nat.zero_le _))) rfl fun i1 v1 F1 hn1 hI1 hR hK1=>?_
    refine rg trivial ?_
    refine ⟨fun hc2=>?_,fun hc2=>?_⟩
    · have hii1:i1<x0.people.length:=by have:=of_decide_eq_true hc2;omega
      replace hR:=zbq hR hii1
      refine rg ⟨by (intros;omega),trivial⟩ ?_
      refine rg ⟨by (obtain ⟨h1,h2,h3,h4,h5,h6,h7,h8,h9,h10⟩:=zfc hc1 (i:=i1) om;(try simp only [zk6,List.length_append,List.length_cons,List.length_nil]);omega),trivial,by (obtain ⟨h1,h2,h3,h4,h5,h6,h7,h8,h9,h10⟩:=zfc hc1 (i:=i1) om;(try simp only [zk6,List.length_append,List.length_cons,List.length_nil]);omega),by (obtain ⟨h1,h2,h3,h4,h5,h6,h7,h8,h9,h10⟩:=zfc hc1 (i:=i1) om;(try simp only [zk6,List.length_append,List.length_cons,List.length_nil]);omega),by (obtain ⟨h1,h2,h3,h4,h5,h6,h7,h8,h9,h10⟩:=zfc hc1 (i:=i1) om;(try simp only [zk6,List.length_append,List.length_cons,List.length_nil]);omega),by (obtain ⟨h1,h2,h3,h4,h5,h6,h7,h8,h9,h10⟩:=zfc hc1 (i:=i1) om;(try simp only [zk6,List.length_append,List.length_cons,List.length_nil]);omega),trivial,by (obtain ⟨h1,h2,h3,h4,h5,h6,h7,h8,h9,h10⟩:=zfc hc1 (i:=i1) om;(try simp only [zk6,List.length_append,List.length_cons,List.length_nil]);omega),by (obtain ⟨h1,h2,h3,h4,h5,h6,h7,h8,h9,h10⟩:=zfc hc1 (i:=i1) om;(try simp only [zk6,List.length_append,List.length_cons,List.length_nil]);omega),trivial⟩ ?_
      refine rg ⟨by ( intros;simp only [inR];omega),trivial⟩ ?_
      exact hK1 (v1++((joinS ([zdi ((x0.people.getD i1 default).sex),(x0.people.getD i1 default).name,zbr x0 ((x0.people.getD i1 default).father),zbr x0 ((x0.people.getD i1 default).mother),zb6 ((x0.people.getD i1 default).born),zb6 ((x0.people.getD i1 default).died)]:List (List UInt8)) [32])++[10])) hii1 (by (obtain ⟨h1,h2,h3,h4,h5,h6,h7,h8,h9,h10⟩:=zfc hc1 (i:=i1) om;(try simp only [zk6,List.length_append,List.length_cons,List.length_nil]);omega)) hR
    · obtain rfl:i1=x0.people.length:=by have:=of_decide_eq_false hc2;omega
      replace hR:=zbu hR (Nat.lt_irrefl _)
      refine rg trivial ?_
      revert hR;refine lN (fun i v=>(v:List UInt8).length≤100 * x0.people.length+100 * i) zar rfl fun i2 v2 F2 hn2 hI2 hR hK2=>?_
      refine rg trivial ?_
      refine ⟨fun hc3=>?_,fun hc3=>?_⟩
      · have hii2:i2<x0.unions.length:=by have:=of_decide_eq_true hc3;omega
        replace hR:=zbq hR hii2
        refine rg ⟨by (intros;omega),trivial⟩ ?_
        refine rg ⟨by (obtain ⟨h1,h2,h3,h4,h5,h6,h7,h8⟩:=zfu hc1 (i:=i2) om;(try simp only [zk7,List.length_append,List.length_cons,List.length_nil]);omega),by (obtain ⟨h1,h2,h3,h4,h5,h6,h7,h8⟩:=zfu hc1 (i:=i2) om;(try simp only [zk7,List.length_append,List.length_cons,List.length_nil]);omega),by (obtain ⟨h1,h2,h3,h4,h5,h6,h7,h8⟩:=zfu hc1 (i:=i2) om;(try simp only [zk7,List.length_append,List.length_cons,List.length_nil]);omega),by (obtain ⟨h1,h2,h3,h4,h5,h6,h7,h8⟩:=zfu hc1 (i:=i2) om;(try simp only [zk7,List.length_append,List.length_cons,List.length_nil]);omega),by (obtain ⟨h1,h2,h3,h4,h5,h6,h7,h8⟩:=zfu hc1 (i:=i2) om;(try simp only [zk7,List.length_append,List.length_cons,List.length_nil]);omega),trivial,by (obtain ⟨h1,h2,h3,h4,h5,h6,h7,h8⟩:=zfu hc1 (i:=i2) om;(try simp only [zk7,List.length_append,List.length_cons,List.length_nil]);omega),by (obtain ⟨h1,h2,h3,h4,h5,h6,h7,h8⟩:=zfu hc1 (i:=i2) om;(try simp only [zk7,List.length_append,List.length_cons,List.length_nil]);omega),trivial⟩ ?_
        refine rg ⟨by ( intros;simp only [inR];omega),trivial⟩ ?_
        exact hK2 (v2++((joinS ([[117,110,105,111,110],zbr x0 ((x0.unions.getD i2 default).man),zbr x0 ((x0.unions.getD i2 default).woman),zb6 ((x0.unions.getD i2 default).from0),zb6 ((x0.unions.getD i2 default).to)]:List (List UInt8)) [32])++[10])) hii2 (by (obtain ⟨h1,h2,h3,h4,h5,h6,h7,h8⟩:=zfu hc1 (i:=i2) om;(try simp only [zk7,List.length_append,List.length_cons,List.length_nil]);omega)) hR
      · obtain rfl:i2=x0.unions.length:=by have:=of_decide_eq_false hc3;omega
        replace hR:=zbu hR (Nat.lt_irrefl _)
        refine rg ⟨trivial,trivial⟩ ?_
        exact congrArg C6 hR
 exact Fn.go 69 Tryz.func6 (by kernel_rfl) (by kernel_rfl) (by simp [C6,Frs,FrsL]) (A6 x0) (by kernel_rfl) (aux _ rfl)
def k6 (x0:yc):Cl:=(hres (C6 (zek x0)),k3 (zjn x0))
def C42 (R:Int×Bool):LV×List (Nat×BC):=(.tup [.int .i64 R.1,.bool R.2],[])
def zef (x0:List UInt8):Int×Bool:=bif (x0==[45]) then ((-1),true) else ((zci x0).1,(zci x0).2)
def A42 (x0:List UInt8):Ann:=r0 1 [0,2,3] [] (r0 1 [0,2,3,5] [] (cn (x0==[45]) (r0 1 [0,2,3] [] (rt [] (C42 ((-1),true)))) (.reg 1 [] [(1,k41 x0)] [2,3] [] [] [] [] [0] (rt [] (C42 ((zci x0).1,(zci x0).2))))))
theorem zm8 (x0:List UInt8):FnT Tryz.prog 42 [.str x0] (C42 (zef x0)):=by
 have aux:∀ R,zef x0=R→slim (C42 R) (A42 x0) []:=by
  intro R hR
  refine rg trivial ?_
  refine rg trivial ?_
  revert hR;refine cd (fun hc1 hR=>?_) fun hc1 hR=>?_
  ·
    refine rg trivial ?_
    exact congrArg C42 hR
  ·
    refine rg ⟨trivial,trivial⟩ ?_
    exact congrArg C42 hR
 exact Fn.go 10 Tryz.func42 (by kernel_rfl) (by kernel_rfl) (by simp [C42,Frs,FrsL]) (A42 x0) (by kernel_rfl) (aux _ rfl)
def k42 (x0:List UInt8):Cl:=(hres (C42 (zef x0)),k0 (zm8 x0))
def C16 (x0:yc) (x1:List UInt8) (R:Bool×(List ya)×(List yb)):LV×List (Nat×BC):=(.bool R.1,[(900000,.var [.own 0,.own 1]),(0,.arr 6 R.2.1.length (rowOf (zbg true) R.2.1)),(1,.arr 4 R.2.2.length (rowOf (zbi true) R.2.2))])
def zec (x0:yc) (x1:List UInt8):Bool×(List ya)×(List yb):=bif (((zb0 x1 [32]).getD 0 default)==[117,110,105,111,110]) then (bif (!decide ((((zb0 x1 [32]).length:Nat):Int)=5)) then (false,x0.people,x0.unions) else (((((findP x0 ((zb0 x1 [32]).getD 1 default)).2)&&((findP x0 ((zb0 x1 [32]).getD 2 default)).2))&&((zci ((zb0 x1 [32]).getD 3 default)).2))&&((zef ((zb0 x1 [32]).getD 4 default)).2),x0.people,(x0.unions++[(yb.mk ((findP x0 ((zb0 x1 [32]).getD 1 default)).1) ((findP x0 ((zb0 x1 [32]).getD 2 default)).1) ((zci ((zb0 x1 [32]).getD 3 default)).1) ((zef ((zb0 x1 [32]).getD 4 default)).1))]))) else (bif ((!decide ((((zb0 x1 [32]).length:Nat):Int)=6))||(decide ((zeb ((zb0 x1 [32]).getD 0 default))=0))) then (false,x0.people,x0.unions) else (((((zc7 x0 ((zb0 x1 [32]).getD 2 default)).2)&&((zc7 x0 ((zb0 x1 [32]).getD 3 default)).2))&&((zci ((zb0 x1 [32]).getD 4 default)).2))&&((zef ((zb0 x1 [32]).getD 5 default)).2),(x0.people++[(ya.mk ((zb0 x1 [32]).getD 1 default) (zeb ((zb0 x1 [32]).getD 0 default)) ((zc7 x0 ((zb0 x1 [32]).getD 2 default)).1) ((zc7 x0 ((zb0 x1 [32]).getD 3 default)).1) ((zci ((zb0 x1 [32]).getD 4 default)).1) ((zef ((zb0 x1 [32]).getD 5 default)).1))]),x0.unions))
def A16 (x0:yc) (x1:List UInt8):Ann:=let q1:=zb0 x1 [32];let q6:=q1.getD 2 default;let q7:=q1.getD 3 default;let q10:=q1.getD 4 default;let q11:=q1.getD 0 default;let q3:=((q1.length:Nat):Int);let q8:=findP x0 (q1.getD 1 default);let q18:=(findP x0 q6).2;let q12:=!decide (q3=6);let q9:=(0≤(0:Int)∧(0:Int)<q3);let q14:=(0≤(1:Int)∧(1:Int)<q3);let q15:=(0≤(2:Int)∧(2:Int)<q3);let q16:=(0≤(3:Int)∧(3:Int)<q3);let q17:=(0≤(4:Int)∧(4:Int)<q3);let q13:=((zc7 x0 q6).2)&&((zc7 x0 q7).2);let q5:=(r0 1 [0,4,5] [1023,900000,900001,900002] (rt [(900000,some 900000),(0,some 900001),(1,some 900002)] (C16 x0 x1 (false,x0.people,x0.unions))));let q4:=yb.mk (q8.1) ((findP x0 q6).1) ((zci q7).1) ((zef q10).1);let q2:=ya.mk (q1.getD 1 default) (zeb q11) ((zc7 x0 q6).1) ((zc7 x0 q7).1) ((zci q10).1) ((zef (q1.getD 5 default)).1);.reg 2 [] [(1001,k39 x1 [32])] [0,4,5] [1023,900000,900001,900002] [] [] [] [0] (r1 1 [0,4,5,27] [1023,900000,900001,900002] [pf q9] [0] (cn (q11==[117,110,105,111,110]) (r0 1 [0,4,5,30] [1023,900000,900001,900002] (cn (!decide (q3=5)) q5 (.reg 6 [] [(6,k40 x0 (q1.getD 1 default)),(1006,k40 x0 q6),(2003,k41 q7),(3003,k42 q10),(4010,bsC 75 (zbi true) ([q4]:List yb)),(4011,ap1 76 (zbi true) 32 x0.unions q4)] [0,4,5] [76,1023,900000,900001] [q8.2,(q8.2)&&q18,((q8.2)&&q18)&&((zci q7).2)] [pf q14,pf q15,pf q16,pf q17] [] [0,16,4,20,8,24,12,28,32,36,1,5,9] (rt [(900000,some 900000),(0,some 900001),(1,some 76)] (C16 x0 x1 ((((q8.2)&&q18)&&((zci q7).2))&&((zef q10).2),x0.people,(x0.unions++[q4]))))))) (.reg 1 [] [(7,cg (!q12) (k43 q11))] [0,4,5,98] [1023,900000,900001,900002] [!q12,!decide (q3=6)] [gt (!q12) (pf q9)] [] [1,0,1,1,4,1,6] (cn (q12||(decide ((zeb q11)=0))) q5 (.reg 6 [] [(6,k44 x0 q6),(1006,k44 x0 q7),(2003,k41 q10),(3003,k42 (q1.getD 5 default)),(4011,k43 q11),(4017,bsC 150 (zbg true) ([q2]:List ya)),(4018,ap1 151 (zbg true) 56 x0.people q2)] [4] [151,900000,900002] [(zc7 x0 q6).2,((zc7 x0 q6).2)&&((zc7 x0 q7).2),q13&&((zci q10).2)] [pf q15,pf q16,pf q17,pf (0≤(5:Int)∧(5:Int)<q3),pf q14,pf q9] [] [0,24,4,28,8,32,12,36,16,20,40,44,48,1,5,9] (rt [(900000,some 900000),(0,some 151),(1,some 900002)] (C16 x0 x1 ((q13&&((zci q10).2))&&((zef (q1.getD 5 default)).2),(x0.people++[q2]),x0.unions))))))))
theorem zxq (x:yc) (l:List UInt8):(zec x l).2.1.length≤x.people.length+1∧(zec x l).2.2.length≤x.unions.length+1∧((∀ q∈x.people,q.name.length≤1048576)→l.length≤1048576→∀ q∈(zec x l).2.1,q.name.length≤1048576):=by
 unfold zec
 repeat' refine zbe (p:=fun (r:Bool×List ya×List yb)=>r.2.1.length≤x.people.length+1∧r.2.2.length≤x.unions.length+1∧((∀ q∈x.people,q.name.length≤1048576)→l.length≤1048576→∀ q∈r.2.1,q.name.length≤1048576)) (fun _=>?_) (fun _=>?_)
 all_goals refine ⟨by simp,by simp,fun h1 h2=>?_⟩
 all_goals first | exact h1 | (intro q hq;rcases List.mem_append.1 hq with hq | hq;exact h1 q hq;rw [List.mem_singleton] at hq;rw [hq];exact Nat.le_trans (zlu l [32] 1) h2)
theorem zhw (x0:yc) (x1:List UInt8) (hx:x0.people.length≤1048575∧x0.unions.length≤1048575) (hl:x1.length≤1048576):FnMT Tryz.prog 16 [.vp 900000 0,.str x1] [.var [.own 900001,.own 900002],.arr 6 x0.people.length (rowOf (zbg true) x0.people),.arr 4 x0.unions.length (rowOf (zbi true) x0.unions)] (C16 x0 x1 (zec x0 x1)):=by
 have aux:∀ R,zec x0 x1=R→slim (C16 x0 x1 R) (A16 x0 x1) []:=by
  intro R hR
  refine rg ⟨by ((exact ⟨om,by decide⟩)),trivial⟩ ?_
  refine rg ⟨by (have h9:=(zfd 32 x1).1;(try simp only [zb0,List.getD_cons_zero] at *);omega),trivial⟩ ?_
  revert hR;refine cd (fun hc1 hR=>?_) fun hc1 hR=>?_
  ·
    refine rg trivial ?_
    revert hR;refine cd (fun hc2 hR=>?_) fun hc2 hR=>?_
    ·
      refine rg trivial ?_
      exact congrArg (C16 x0 x1) hR
    ·
      refine rg ⟨by ((try clear hR);intros;(try simp only [decide_eq_true_eq,decide_eq_false_iff_not,Bool.or_eq_true,Bool.and_eq_true,zbd,zbb,zbc,Bool.not_eq_true',inR] at *);(repeat' apply And.intro)<;>(intros;omega)),by ((try clear hR);intros;(try simp only [decide_eq_true_eq,decide_eq_false_iff_not,Bool.or_eq_true,Bool.and_eq_true,zbd,zbb,zbc,Bool.not_eq_true',inR] at *);(repeat' apply And.intro)<;>(intros;omega)),by ((try clear hR);intros;(try simp only [decide_eq_true_eq,decide_eq_false_iff_not,Bool.or_eq_true,Bool.and_eq_true,zbd,zbb,zbc,Bool.not_eq_true',inR] at *);(repeat' apply And.intro)<;>(intros;omega)),by ((try clear hR);intros;(try simp only [decide_eq_true_eq,decide_eq_false_iff_not,Bool.or_eq_true,Bool.and_eq_true,zbd,zbb,zbc,Bool.not_eq_true',inR] at *);(repeat' apply And.intro)<;>(intros;omega)),by (intros;omega),by (intros;omega),trivial,trivial,trivial,om,trivial⟩ ?_
      exact congrArg (C16 x0 x1) hR
  ·
    refine rg ⟨by (have h9:=(zfd 32 x1).1;(try simp only [zb0,List.getD_cons_zero] at *);omega),fun hg0=>trivial,trivial⟩ ?_
    revert hR;refine cd (fun hc3 hR=>?_) fun hc3 hR=>?_
    ·
      refine rg trivial ?_
      exact congrArg (C16 x0 x1) hR
    ·
      refine rg ⟨by ((try clear hR);intros;(try simp only [decide_eq_true_eq,decide_eq_false_iff_not,Bool.or_eq_true,Bool.and_eq_true,zbd,zbb,zbc,Bool.not_eq_true',inR] at *);(repeat' apply And.intro)<;>(intros;omega)),by ((try clear hR);intros;(try simp only [decide_eq_true_eq,decide_eq_false_iff_not,Bool.or_eq_true,Bool.and_eq_true,zbd,zbb,zbc,Bool.not_eq_true',inR] at *);(repeat' apply And.intro)<;>(intros;omega)),by ((try clear hR);intros;(try simp only [decide_eq_true_eq,decide_eq_false_iff_not,Bool.or_eq_true,Bool.and_eq_true,zbd,zbb,zbc,Bool.not_eq_true',inR] at *);(repeat' apply And.intro)<;>(intros;omega)),by ((try clear hR);intros;(try simp only [decide_eq_true_eq,decide_eq_false_iff_not,Bool.or_eq_true,Bool.and_eq_true,zbd,zbb,zbc,Bool.not_eq_true',inR] at *);(repeat' apply And.intro)<;>(intros;omega)),by ((try clear hR);intros;(try simp only [decide_eq_true_eq,decide_eq_false_iff_not,Bool.or_eq_true,Bool.and_eq_true,zbd,zbb,zbc,Bool.not_eq_true',inR] at *);(repeat' apply And.intro)<;>(intros;omega)),by (have h9:=(zfd 32 x1).1;(try simp only [zb0,List.getD_cons_zero] at *);omega),by (intros;omega),by (intros;omega),trivial,trivial,trivial,trivial,om,trivial⟩ ?_
      exact congrArg (C16 x0 x1) hR
 exact FnM.go 164 Tryz.func16 (by kernel_rfl) (by kernel_rfl) (A16 x0 x1) (by kernel_rfl) (aux _ rfl)
def k16 (d:Nat) (ids:List Nat) (x0:yc) (x1:List UInt8):Cl:=(hresM d ids (C16 x0 x1 (zec x0 x1)),k2 (zhw x0 x1))
def C5 (R:yc×Bool):LV×List (Nat×BC):=(.tup [.agg [.own 0,.own 1],.bool R.2],[(0,.arr 6 R.1.people.length (rowOf (zbg true) R.1.people)),(1,.arr 4 R.1.unions.length (rowOf (zbi true) R.1.unions))])
def zht (x0:List UInt8):yc×Bool:=bif ((!((zbp x0).2))||(decide (100<((((zbp x0).1).length:Nat):Int)))) then ((yc.mk ([]:List ya) ([]:List yb)),false) else (loopN (fun i1 (v1:(List ya)×(List yb)) next=>bif (!((zec (yc.mk v1.1 v1.2) (((zbp x0).1).getD i1 default)).1)) then ((yc.mk ([]:List ya) ([]:List yb)),false) else (next ((zec (yc.mk v1.1 v1.2) (((zbp x0).1).getD i1 default)).2.1,(zec (yc.mk v1.1 v1.2) (((zbp x0).1).getD i1 default)).2.2))) (fun (v1:(List ya)×(List yb))=>bif ((!(zcb (yc.mk v1.1 v1.2)))||(!((zek (yc.mk v1.1 v1.2))==x0))) then ((yc.mk ([]:List ya) ([]:List yb)),false) else ((yc.mk v1.1 v1.2),true)) (((zbp x0).1).length) 0 (([]:List ya),([]:List yb)))
def D5b1 (x0:List UInt8) (i1:Nat) (v1:(List ya)×(List yb)):Dl:=⟨[(24,.int .i64 ((i1:Nat):Int))],[(30600,.arr 6 v1.1.length (rowOf (zbg true) v1.1)),(30601,.arr 4 v1.2.length (rowOf (zbi true) v1.2)),(6,.var [.own 30600,.own 30601])]⟩
def A5b1 (x0:List UInt8) (i1:Nat) (v1:(List ya)×(List yb)):Ann:=let q3:=((i1:Nat):Int);let q1:=yc.mk v1.1 v1.2;let q2:=((zbp x0).1).getD i1 default;let q4:=zcb q1;let q5:=((((zbp x0).1).length:Nat):Int);let q6:=zec q1 q2;r0 1 [0,2,3,6,22,23,24,25] [2,6,1011,30600,30601] (cn (decide (q3<q5)) (.reg 2 [] [(1001,k16 29 [6,30600,30601] q1 q2)] [0,2,3,6,22,23,24,30] [2,6,1011,1029,2029] [] [pf (0≤(q3:Int)∧(q3:Int)<q5)] [] [0,4] (cn (!(q6.1)) (r0 1 [0,2,3,6,22,23,24] [2,6,1011,1029,2029] (rt [(0,none),(1,none)] (C5 ((yc.mk ([]:List ya) ([]:List yb)),false)))) (r1 1 [0,2,3,6,22,23,24] [2,6,1011,1029,2029] [pf (inR .i64 (q3+1))] [0] (.next 0 [(30600,some 1029),(30601,some 2029)] (D5b1 x0 (i1+1) (q6.2.1,q6.2.2)))))) (.reg 1 [] [(1,k17 q1),(5,cg (!(!q4)) (k6 q1))] [2,3,6,41] [2,6,30600,30601] [!(!q4),!q4] [] [] [0,1,4,1,1,6] (cn ((!q4)||(!((zek q1)==x0))) (r0 1 [2,3,6] [2,6,30600,30601] (rt [(0,none),(1,none)] (C5 ((yc.mk ([]:List ya) ([]:List yb)),false)))) (r0 1 [2,3] [2,30600,30601] (rt [(0,some 30600),(1,some 30601)] (C5 (q1,true)))))))
def A5 (x0:List UInt8):Ann:=let q1:=zbp x0;.reg 2 [] [(1001,k15 x0)] [0,2,3,4,5] [2,1011] [] [] [] [0] (.reg 1 [] [] [0,2,3,4,20] [2,1011] [!(!(q1.2)),!(q1.2)] [] [] [1,1,6] (cn ((!(q1.2))||(decide (100<(((q1.1).length:Nat):Int)))) (r0 1 [0,2,3,4] [2,1011] (rt [(0,none),(1,none)] (C5 ((yc.mk ([]:List ya) ([]:List yb)),false)))) (r0 1 [0,2,3,4,6] [2,6,1011] (r0 1 [0,2,3,6,22,23,24] [2,6,1011] (lp (D5b1 x0) [] [] [(30600,none),(30601,none)] (D5b1 x0 0 (([]:List ya),([]:List yb))) (A5b1 x0))))))
theorem zj4 (x0:List UInt8) (h:x0.length≤1048576):FnT Tryz.prog 5 [.str x0] (C5 (zht x0)):=by
 have aux:∀ R,zht x0=R→slim (C5 R) (A5 x0) []:=by
  intro R hR
  refine rg ⟨by with_reducible assumption,trivial⟩ ?_
  refine rg trivial ?_
  revert hR;refine cd (fun hc1 hR=>?_) fun hc1 hR=>?_
  ·
    refine rg trivial ?_
    exact congrArg C5 hR
  ·
    refine rg trivial ?_
    refine rg trivial ?_
    revert hR;refine lN (fun i v=>(v.1:List ya).length≤i∧(v.2:List yb).length≤i∧∀ q∈v.1,q.name.length≤1048576) (by (exact ⟨Nat.zero_le _,Nat.zero_le _,fun e he=>absurd he List.not_mem_nil⟩)) rfl fun i1 v1 F1 hn1 hI1 hR hK1=>?_
    refine rg trivial ?_
    refine ⟨fun hc2=>?_,fun hc2=>?_⟩
    · have hii1:i1<((zbp x0).1).length:=by have:=of_decide_eq_true hc2;omega
      replace hR:=zbq hR hii1
      refine rg ⟨by (intros;omega),⟨by ((try clear hR hK1);intros;(try simp only [decide_eq_true_eq,decide_eq_false_iff_not,Bool.or_eq_true,Bool.and_eq_true,zbd,zbb,zbc,Bool.not_eq_true',inR] at *);(repeat' apply And.intro)<;>(intros;omega)),by (have h9:=zhc x0;have h8:=ze0 x0 i1;omega)⟩,trivial⟩ ?_
      revert hR;refine cd (fun hc3 hR=>?_) fun hc3 hR=>?_
      ·
        refine rg trivial ?_
        exact congrArg C5 hR
      ·
        refine rg ⟨by ((try clear hR hK1);intros;(try simp only [decide_eq_true_eq,decide_eq_false_iff_not,Bool.or_eq_true,Bool.and_eq_true,zbd,zbb,zbc,Bool.not_eq_true',inR] at *);(repeat' apply And.intro)<;>(intros;omega)),trivial⟩ ?_
        exact hK1 ((zec (yc.mk v1.1 v1.2) (((zbp x0).1).getD i1 default)).2.1,(zec (yc.mk v1.1 v1.2) (((zbp x0).1).getD i1 default)).2.2) hii1 (by (dsimp only;have h9:=zxq (yc.mk v1.1 v1.2) ((zbp x0).1.getD i1 default);exact ⟨Nat.le_trans h9.1 (Nat.succ_le_succ hI1.1),Nat.le_trans h9.2.1 (Nat.succ_le_succ hI1.2.1),h9.2.2 hI1.2.2 (Nat.le_trans (ze0 x0 i1) h)⟩)) hR
    · obtain rfl:i1=((zbp x0).1).length:=by have:=of_decide_eq_false hc2;omega
      replace hR:=zbu hR (Nat.lt_irrefl _)
      refine rg ⟨⟨by ((try clear hR hK1);intros;(try simp only [decide_eq_true_eq,decide_eq_false_iff_not,Bool.or_eq_true,Bool.and_eq_true,zbd,zbb,zbc,Bool.not_eq_true',inR] at *);(repeat' apply And.intro)<;>(intros;omega)),by ((try clear hR hK1);intros;(try simp only [decide_eq_true_eq,decide_eq_false_iff_not,Bool.or_eq_true,Bool.and_eq_true,zbd,zbb,zbc,Bool.not_eq_true',inR] at *);(repeat' apply And.intro)<;>(intros;omega)),by (exact hI1.2.2)⟩,fun hg0=>⟨by ((try clear hR hK1);intros;(try simp only [decide_eq_true_eq,decide_eq_false_iff_not,Bool.or_eq_true,Bool.and_eq_true,zbd,zbb,zbc,Bool.not_eq_true',inR] at *);(repeat' apply And.intro)<;>(intros;omega)),by ((try clear hR hK1);intros;(try simp only [decide_eq_true_eq,decide_eq_false_iff_not,Bool.or_eq_true,Bool.and_eq_true,zbd,zbb,zbc,Bool.not_eq_true',inR] at *);(repeat' apply And.intro)<;>(intros;omega)),by (exact hI1.2.2)⟩,trivial⟩ ?_
      revert hR;refine cd (fun hc4 hR=>?_) fun hc4 hR=>?_
      ·
        refine rg trivial ?_
        exact congrArg C5 hR
      ·
        refine rg trivial ?_
        exact congrArg C5 hR
 exact Fn.go 44 Tryz.func5 (by kernel_rfl) (by kernel_rfl) (by simp [C5,Frs,FrsL,FrsB,rowOf,cInt,cBool,cStr,cSl,zdm,zbg,zbi,zcf,zbt,zft]) (A5 x0) (by kernel_rfl) (aux _ rfl)
def k5 (x0:List UInt8):Cl:=(hres (C5 (zht x0)),k1 (zj4 x0))
end Go.Proofs.YtlinnkjieghmhaaGreatDoor
