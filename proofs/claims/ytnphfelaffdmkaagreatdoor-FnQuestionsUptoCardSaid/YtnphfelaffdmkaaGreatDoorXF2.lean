import Derived.Test.YtnphfelaffdmkaaGreatDoorRN6
set_option maxHeartbeats 4000000
set_option linter.unusedSimpArgs false
set_option linter.unusedVariables false
namespace Go.Proofs.YtnphfelaffdmkaaGreatDoor
open Go Go.Lite Go.Proofs
open _root_.List renaming length_map→Yx, length_set→YF, getD_cons_zero→Yr, getD_cons_succ→YP
open _root_.Bool renaming not_true→Yg, not_false→Yi, and_eq_false_iff→Yb, or_eq_false_iff→yz, not_eq_false'→yQ, true_eq_false→YC, or_false→Y6
open _root_.Int renaming toNat_natCast→yZ
open _root_.Max renaming max→yP
open _root_.Inhabited renaming default→wl
def ze2(x0:ye):(List UInt8):=bif(!(zbh x0)) then([]:List UInt8) else(jn (fun K1=>bif(decide (x0.place=1)) then(K1 (((x0.name++[58,32])++(zeb x0.sex))++[94])) else(K1 ((x0.name++[58,32])++(zeb x0.sex)))) (fun (j1:(List UInt8))=>bif(decide (x0.place=2)) then((((j1++(zcx x0.from0))++[36])++[32,45,62,32])++(orDot (zcx x0.to))) else(((j1++(zcx x0.from0))++[32,45,62,32])++(orDot (zcx x0.to)))))
def zx5(j1:(List UInt8)):Dl:=⟨[(3,.str j1)],[]⟩
def A159j1(x0:ye)(j1:(List UInt8)):Ann:=let q2:=zcx x0.to;let q3:=orDot q2;let q1:=j1++(zcx x0.from0);.reg 1 [] [(3,k190 x0.from0)] [1,2,3] [1] [] [pf (((j1.length+(zcx x0.from0).length:Nat):Int)≤9223372036854775807)] [] [4,0] (r0 1 [1,2,3,26] [1] (cn (decide (x0.place=2)) (r1 1 [1,2,3] [1] [pf (((q1.length+[36].length:Nat):Int)≤9223372036854775807)] [0] (.reg 1 [] [(4,k190 x0.to),(5,k189 q2)] [2] [] [] [pf ((((q1++[36]).length+[32,45,62,32].length:Nat):Int)≤9223372036854775807),pf (((((q1++[36])++[32,45,62,32]).length+q3.length:Nat):Int)≤9223372036854775807)] [] [0,8,12,4] (rt [] (C57 (((q1++[36])++[32,45,62,32])++q3))))) (.reg 1 [] [(4,k190 x0.to),(5,k189 q2)] [2] [] [] [pf (((q1.length+[32,45,62,32].length:Nat):Int)≤9223372036854775807),pf ((((q1++[32,45,62,32]).length+q3.length:Nat):Int)≤9223372036854775807)] [] [0,8,12,4] (rt [] (C57 ((q1++[32,45,62,32])++q3))))))
def A159(x0:ye):Ann:=let q1:=zeb x0.sex;r0 1 [1,2] [1] (.reg 1 [] [(1,k147 x0)] [1,2,6] [1] [] [] [] [0] (cn (!(zbh x0)) (r0 1 [1,2] [1] (rt [] (C57 ([]:List UInt8)))) (.reg 1 [] [(5,k188 x0.sex)] [1,2,3] [1] [] [pf (((x0.name.length+[58,32].length:Nat):Int)≤9223372036854775807),pf ((((x0.name++[58,32]).length+q1.length:Nat):Int)≤9223372036854775807)] [] [0,8,4] (.join 0 (List UInt8) (zx5) [1,2,3] [1] (r0 1 [1,2,3,16] [1] (cn (decide (x0.place=1)) (r1 1 [1,2,3] [1] [pf (((((x0.name++[58,32])++q1).length+[94].length:Nat):Int)≤9223372036854775807)] [0] (.next 0 [] (zx5 (((x0.name++[58,32])++q1)++[94])))) (.next 0 [] (zx5 ((x0.name++[58,32])++q1))))) (A159j1 x0)))))
theorem zhi(x0 : ye)(hr : x0.name.length ≤ 1048576 ∧ x0.from0.length ≤ 1048576 ∧ x0.to.length ≤ 1048576) : FnT Tryz.prog 159 [.agg (cRule false x0)] (C57 (ze2 x0)) := by
 refine Fn.gp 36 Tryz.func159 (by kernel_rfl) (by kernel_rfl) vbz (A159 x0) (by kernel_rfl) fun R hR=>?_;refine rT ?_;refine rg ⟨vbo,trivial⟩ ?_;refine cd (fun hc1 hR=>?_) (fun hc1 hR=>?_) hR
 ·refine rT ?_;exact oe C57 hR
 refine rg ⟨vah,vah,vah,trivial⟩ ?_;refine jN (fun v=>(v:List UInt8).length≤200) (fun F101 hR hJ101=>?_) (fun j1 hR hJ1=>?_) hR
 ·refine rT ?_;refine cd (fun hc2 hR => ?_) (fun hc2 hR => ?_) hR
  ·refine rg ⟨vaf, trivial⟩ ?_;exact hJ101 _ hR vaf
  exact hJ101 _ hR vah
 refine rg ⟨vah,⟨vah,by(exact(zbu (r:=x0) vbf).2.2.2.1)⟩,trivial⟩ ?_;refine rT ?_;refine cd (fun hc3 hR=>?_) (fun hc3 hR=>?_) hR
 ·refine rg ⟨vaf, trivial⟩ ?_;refine rg ⟨vaf, vaf, ⟨vaf, by (exact (zbu (r := x0) vbc).2.2.2.2.1)⟩, trivial, trivial⟩ ?_;exact oe C57 hR
 refine rg ⟨vah,vah,⟨vah,by(exact(zbu (r:=x0) vbf).2.2.2.2.1)⟩,trivial,trivial⟩ ?_;exact oe C57 hR
def k159(x0:ye):Cl:=(hres (C57 (ze2 x0)),k1 (zhi x0))
def zdy(x0:List UInt8):ye×Bool:=bif((!((cutS x0 [58,32]).2.2))||(!((cutS ((cutS x0 [58,32]).2.1) [32,45,62,32]).2.2))) then((ye.mk ([]:List UInt8) 0 0 ([]:List ya) ([]:List ya)),false) else(jn (fun K1=>bif((cutP ((za3 ((cutS ((cutS x0 [58,32]).2.1) [32,45,62,32]).1)).2) [94]).2) then(K1 ((cutP ((za3 ((cutS ((cutS x0 [58,32]).2.1) [32,45,62,32]).1)).2) [94]).1,1)) else(K1 ((za3 ((cutS ((cutS x0 [58,32]).2.1) [32,45,62,32]).1)).2,0))) (fun (j1:(List UInt8)×Int)=>jn (fun K2=>bif((cutU j1.1 [36]).2) then(bif(decide (j1.2=1)) then((ye.mk ([]:List UInt8) 0 0 ([]:List ya) ([]:List ya)),false) else(K2 ((cutU j1.1 [36]).1,2))) else(K2 (j1.1,j1.2))) (fun (j2:(List UInt8)×Int)=>jn (fun K3=>bif(((cutS ((cutS x0 [58,32]).2.1) [32,45,62,32]).2.1)==[46]) then(K3 (true,([]:List ya))) else(K3 ((zch ((cutS ((cutS x0 [58,32]).2.1) [32,45,62,32]).2.1)).2,(zch ((cutS ((cutS x0 [58,32]).2.1) [32,45,62,32]).2.1)).1))) (fun (j3:Bool×(List ya))=>bif((((!((zch j2.1).2))||(!j3.1))||(!(zbh (ye.mk ((cutS x0 [58,32]).1) ((za3 ((cutS ((cutS x0 [58,32]).2.1) [32,45,62,32]).1)).1) j2.2 ((zch j2.1).1) j3.2))))||(!((ze2 (ye.mk ((cutS x0 [58,32]).1) ((za3 ((cutS ((cutS x0 [58,32]).2.1) [32,45,62,32]).1)).1) j2.2 ((zch j2.1).1) j3.2))==x0))) then((ye.mk ([]:List UInt8) 0 0 ([]:List ya) ([]:List ya)),false) else((ye.mk ((cutS x0 [58,32]).1) ((za3 ((cutS ((cutS x0 [58,32]).2.1) [32,45,62,32]).1)).1) j2.2 ((zch j2.1).1) j3.2),true)))))
def zyp(x0:List UInt8)(j1:(List UInt8)×Int):Dl:=⟨[(7,.str j1.1)],[(10,.var [.str ((cutS x0 [58,32]).1),.int .i64 ((za3 ((cutS ((cutS x0 [58,32]).2.1) [32,45,62,32]).1)).1),.int .i64 j1.2,.nilS,.nilS])]⟩
def zyo(x0:List UInt8)(j2:(List UInt8)×Int):Dl:=⟨[(7,.str j2.1)],[(10,.var [.str ((cutS x0 [58,32]).1),.int .i64 ((za3 ((cutS ((cutS x0 [58,32]).2.1) [32,45,62,32]).1)).1),.int .i64 j2.2,.nilS,.nilS])]⟩
def zyn(x0:List UInt8)(j2:(List UInt8)×Int)(j3:Bool×(List ya)):Dl:=⟨[(16,.bool j3.1)],[(31004,.arr 2 j3.2.length (rowOf (cStep true) j3.2)),(10,.var [.str ((cutS x0 [58,32]).1),.int .i64 ((za3 ((cutS ((cutS x0 [58,32]).2.1) [32,45,62,32]).1)).1),.int .i64 j2.2,.own 1066,.own 31004])]⟩
def A102j3(x0:List UInt8)(j2:(List UInt8)×Int)(j3:Bool×(List ya)):Ann:=let q4:=(zch j2.1).2;let q2:=(!q4)||(!j3.1);let q1:=(ye.mk ((cutS x0 [58,32]).1) ((za3 ((cutS ((cutS x0 [58,32]).2.1) [32,45,62,32]).1)).1) j2.2 ((zch j2.1).1) j3.2);let q3:=q2||(!(zbh q1));.reg 1 [] [(8,cg (!q2) (k147 q1)),(13,cg (!q3) (k159 q1))] [2,3,10,94] [2,10,1066,31004] [!(!q4),!q4,!q2,(!q4)||(!j3.1),!q3,q2||(!(zbh q1))] [] [] [1,6,9,0,9,14,17,4,17,17,22] (cn (q3||(!((ze2 q1)==x0))) (r0 1 [2,3,10] [2,10,1066,31004] (rt [(0,none),(1,none)] (C208 ((ye.mk ([]:List UInt8) 0 0 ([]:List ya) ([]:List ya)),false)))) (r0 1 [2,3] [2,1066,31004] (rt [(0,some 1066),(1,some 31004)] (C208 (q1,true)))))
def A102j2(x0:List UInt8)(j2:(List UInt8)×Int):Ann:=let q1:=((cutS ((cutS x0 [58,32]).2.1) [32,45,62,32]).2.1);.reg 2 [] [(1001,k127 j2.1)] [0,2,3,8,10,15] [2,10,1066] [] [] [] [0] (.join 0 (Bool×(List ya)) (zyn x0 j2) [0,2,3,10,15] [2,10,1066] (r0 1 [0,2,3,8,10,15,71] [2,10,1066] (cn (q1==[46]) (r0 1 [0,2,3,10,15,16] [2,10,1066] (.next 0 [(31004,none)] (zyn x0 j2 (true,([]:List ya))))) (.reg 1 [] [(1,k127 q1)] [0,2,3,10,15,16] [2,10,1066,1074] [] [] [] [0] (.next 0 [(31004,some 1074)] (zyn x0 j2 ((zch q1).2,(zch q1).1)))))) (A102j3 x0 j2))
def A102j1(x0:List UInt8)(j1:(List UInt8)×Int):Ann:=.join 0 ((List UInt8)×Int) (zyo x0) [0,2,3,7,8,10] [2,10] (.reg 2 [] [(1,k158 j1.1 [36])] [0,2,3,7,8,10,13,57] [2,10] [] [] [] [0] (cn ((cutU j1.1 [36]).2) (r0 1 [0,2,3,7,8,10,13,60] [2,10] (cn (decide (j1.2=1)) (r0 1 [0,2,3,7,8,10,13] [2,10] (rt [(0,none),(1,none)] (C208 ((ye.mk ([]:List UInt8) 0 0 ([]:List ya) ([]:List ya)),false)))) (r0 1 [0,2,3,7,8,10] [2,10] (.next 0 [] (zyo x0 ((cutU j1.1 [36]).1,2)))))) (.next 0 [] (zyo x0 (j1.1,j1.2))))) (A102j2 x0)
def A102(x0:List UInt8):Ann:=let q2:=(cutS x0 [58,32]);let q1:=(cutS (q2.2.1) [32,45,62,32]);let q3:=za3 (q1.1);.reg 3 [] [(1001,k103 x0 [58,32]),(2001,k103 (q2.2.1) [32,45,62,32])] [0,2,3,4,6,7,8,9] [2] [] [] [] [0,4] (.reg 1 [] [] [0,2,3,4,7,8,34] [2] [!(!(q2.2.2)),!(q2.2.2)] [] [] [1,6] (cn ((!(q2.2.2))||(!(q1.2.2))) (r0 1 [0,2,3,4,7,8] [2] (rt [(0,none),(1,none)] (C208 ((ye.mk ([]:List UInt8) 0 0 ([]:List ya) ([]:List ya)),false)))) (.reg 2 [] [(1001,k126 (q1.1))] [0,2,3,7,8,10] [2,10] [] [] [] [0] (.join 0 ((List UInt8)×Int) (zyp x0) [0,2,3,7,8,10] [2,10] (.reg 2 [] [(1,k157 (q3.2) [94])] [0,2,3,7,8,10,11,49] [2,10] [] [] [] [0] (cn ((cutP (q3.2) [94]).2) (r0 1 [0,2,3,7,8,10] [2,10] (.next 0 [] (zyp x0 ((cutP (q3.2) [94]).1,1)))) (.next 0 [] (zyp x0 (q3.2,0))))) (A102j1 x0)))))
theorem zic(x0 : List UInt8)(hx : x0.length ≤ 1048576) : FnT Tryz.prog 102 [.str x0] (C208 (zdy x0)) := by
 refine Fn.gp 97 Tryz.func102 (by kernel_rfl) (by kernel_rfl) vaF (A102 x0) (by kernel_rfl) fun R hR=>?_;refine rg ⟨vab,vab,trivial⟩ ?_;refine rT ?_;refine cd (fun hc1 hR=>?_) (fun hc1 hR=>?_) hR
 ·refine rT ?_;exact oe C208 hR
 refine rg ⟨vab,trivial⟩ ?_;refine jN (fun v=>(v.1:List UInt8).length≤1048576) (fun F101 hR hJ101=>?_) (fun j1 hR hJ1=>?_) hR
 ·refine rg ⟨vaa, trivial⟩ ?_;refine cd (fun hc2 hR => ?_) (fun hc2 hR => ?_) hR
  ·refine rT ?_;exact hJ101 _ hR vaa
  exact hJ101 _ hR vab
 refine jN (fun v=>(v.1:List UInt8).length≤1048576) (fun F102 hR hJ102=>?_) (fun j2 hR hJ2=>?_) hR
 ·refine rg ⟨vaa, trivial⟩ ?_;refine cd (fun hc3 hR => ?_) (fun hc3 hR => ?_) hR
  ·refine rT ?_;refine cd (fun hc4 hR => ?_) (fun hc4 hR => ?_) hR
   ·refine rT ?_;exact oe C208 hR
   refine rT ?_;exact hJ102 _ hR vab
  exact hJ102 _ hR vbo
 refine rg ⟨vbo,trivial⟩ ?_;refine jN (fun v=>(v.2:List ya).length≤1048576) (fun F103 hR hJ103=>?_) (fun j3 hR hJ3=>?_) hR
 ·refine rT ?_;refine cd (fun hc5 hR => ?_) (fun hc5 hR => ?_) hR
  ·refine rT ?_;exact hJ103 _ hR vaa
  refine rg ⟨vab,trivial⟩ ?_;exact hJ103 _ hR vab
 refine rg ⟨fun hg0=>by(have h9:=zdk x0 [58,32];have h8:=zdk (cutS x0 [58,32]).2.1 [32,45,62,32];have h7:=zdm (cutS (cutS x0 [58,32]).2.1 [32,45,62,32]).1;have h6:=zhw (za3 (cutS (cutS x0 [58,32]).2.1 [32,45,62,32]).1).2 [94];(try have h5:=zjh j1.1 [36]);(try have h4:=zb5 j2.1);(try have h3:=zb5 (cutS (cutS x0 [58,32]).2.1 [32,45,62,32]).2.1);(try dsimp only);(try simp only[inR,ot,oA]);omega),fun hg0=>by(have h9:=zdk x0 [58,32];have h8:=zdk (cutS x0 [58,32]).2.1 [32,45,62,32];have h7:=zdm (cutS (cutS x0 [58,32]).2.1 [32,45,62,32]).1;have h6:=zhw (za3 (cutS (cutS x0 [58,32]).2.1 [32,45,62,32]).1).2 [94];(try have h5:=zjh j1.1 [36]);(try have h4:=zb5 j2.1);(try have h3:=zb5 (cutS (cutS x0 [58,32]).2.1 [32,45,62,32]).2.1);(try dsimp only);(try simp only[inR,ot,oA]);omega),trivial⟩ ?_;refine cd (fun hc6 hR=>?_) (fun hc6 hR=>?_) hR
 ·refine rT ?_;exact oe C208 hR
 refine rT ?_;exact oe C208 hR
def za7(x0:List UInt8):yb×Bool:=bif(((za3 x0).2)==[46]) then((yb.mk ((za3 x0).1) ([]:List ya)),true) else(bif(((!((zch ((za3 x0).2)).2))||(decide (((((zch ((za3 x0).2)).1).length:Nat):Int)=0)))||(!(zak (yb.mk ((za3 x0).1) ((zch ((za3 x0).2)).1))))) then((yb.mk 0 ([]:List ya)),false) else((yb.mk ((za3 x0).1) ((zch ((za3 x0).2)).1)),true))
def A63(x0:List UInt8):Ann:=let q1:=zch ((za3 x0).2);let q3:=yb.mk ((za3 x0).1) (q1.1);let q2:=(decide ((((q1.1).length:Nat):Int)=0));let q4:=(!(q1.2))||q2;.reg 2 [] [(1001,k126 x0)] [2,3,4,5] [2] [] [] [] [0] (r0 1 [2,3,4,5,15] [2] (cn (((za3 x0).2)==[46]) (r0 1 [2,3,4,5] [2] (rt [(0,none)] (C144 ((yb.mk ((za3 x0).1) ([]:List ya)),true)))) (.reg 2 [] [(1,k127 ((za3 x0).2))] [2,3,6,7,8] [2,8,1020] [] [] [] [0] (.reg 1 [] [(9,cg (!q4) (k95 q3))] [2,3,8,37] [2,8,1020] [!(!(q1.2)),!(q1.2),!q4,(!(q1.2))||q2] [] [] [1,1,6,9,0,9,14] (cn (q4||(!(zak q3))) (r0 1 [2,3,8] [2,8,1020] (rt [(0,none)] (C144 ((yb.mk 0 ([]:List ya)),false)))) (r0 1 [2,3] [2,1020] (rt [(0,some 1020)] (C144 (q3,true)))))))))
theorem zer(x0 : List UInt8)(hx : x0.length ≤ 1048576) : FnT Tryz.prog 63 [.str x0] (C144 (za7 x0)) := by
 refine Fn.gp 40 Tryz.func63 (by kernel_rfl) (by kernel_rfl) vaE (A63 x0) (by kernel_rfl) fun R hR=>?_;refine rg ⟨vbo,trivial⟩ ?_;refine rT ?_;refine cd (fun hc1 hR=>?_) (fun hc1 hR=>?_) hR
 ·refine rT ?_;exact oe C144 hR
 refine rg ⟨by(have h9:=zdm x0;have h8:=zb5 (za3 x0).2;(try dsimp only);omega),trivial⟩ ?_;refine rg ⟨fun hg0=>by(have h9:=zdm x0;have h8:=zb5 (za3 x0).2;(try dsimp only);omega),trivial⟩ ?_;refine cd (fun hc2 hR=>?_) (fun hc2 hR=>?_) hR
 ·refine rT ?_;exact oe C144 hR
 refine rT ?_;exact oe C144 hR
def joinS(x0:List (List UInt8))(x1:List UInt8):List UInt8:=Lib.join x0 x1
open Go.RowKit in
theorem ztn{P : Program}{ρ : Go.Shelf.Ren}{l : List (List UInt8)}{sep : List UInt8}(L : Go.Proofs.Lays.n156 P ρ)(X : Go.Proofs.Builder.Extra P ρ)(hn : l.length ≤ 10001)(hl : (Lib.join l sep).length ≤ 1048576) : Lite.Fn P (ρ.f 156) [.ro false 1 l.length (rowOf cStr l), .str sep] (.str (Lib.join l sep)) [] := by
 intro w vals hg hv h;match vals,hv with
 |[v, u], _ =>
  have h1:=h 0 _ v rfl rfl 0;have h2:=h 1 _ u rfl rfl 0;cases h2;have fin:∀e w',e=Ending.returned (.string ⟨(Lib.join l sep).toArray⟩)∧Below w.heap.size w w'→∃v,e=.returned v∧Below w.heap.size w w'∧ResOk w' w.heap.size (.str (Lib.join l sep)) [] v:=fun e w' ⟨he,hw⟩=>⟨_,he,hw,.val (fun _=>.str _) fun id hm=>vbS⟩;cases h1 with
  |ro _ _ _ _ A ad cap cv hcap hA hlt hX hB hsz ho hc hr =>
   have e0 : ((l.map fun s => (⟨s.toArray⟩ : ByteArray)).map (·.data.toList)) = l := (by simp [List.map_map, Function.comp_def]);by_cases h0 : l = []
   ·subst h0;exact (Go.Proofs.Any.strings_Join_none L X A cap ⟨sep.toArray⟩ w).mono fun e w' ⟨he, hw⟩ => fin e w' ⟨he, by rw [hw]; exact .refl _ _⟩
   have hp : 0 < l.length := List.length_pos_iff.2 h0;cases hA hp;have cell : ∀j x, l[j]? = some x → w.cell? (ad.add j) = some (.string ⟨x.toArray⟩) := fun j x hx => by
    have hj : j < l.length := by
     rcases oY j l.length with h | h
     ·exact h
     rw[o5 h] at hx;cases hx
    have h3:=hc j 0 hj (oF 0);have h4:=hr j 0 (.str x) hj (by simp[rowOf,cStr,oh,hx]);rw[Nat.mul_one,Nat.add_zero] at h3;generalize cv j 0=q at h3 h4;cases h4;exact h3
   obtain⟨x, hx⟩ : ∃x, l[0]? = some x := ⟨l[0], oj hp⟩;have hs : ad.spot = none := by
    have:=cell 0 x hx;rw[show ad.add 0=ad from rfl] at this;unfold World.cell? at this;split at this
    ·split at this
     ·cases this
     rename_i hh;simpa using hh
    cases this
   obtain⟨bk,o,sp⟩:=ad;simp only at hs;subst hs;have hm:(l.map fun s=>(⟨s.toArray⟩:ByteArray)).length=l.length:=Yx _
   have g := Go.Proofs.Any.strings_Join L X bk o cap (l.map fun s => (⟨s.toArray⟩ : ByteArray)) ⟨sep.toArray⟩ w (fun j x hx => by
     rw[List.getElem?_map] at hx
     cases hl':l[j]? with
     |none=>rw[hl'] at hx;cases hx
     |some y =>
       rw[hl'] at hx;cases hx
       have:=cell j y hl'
       unfold Addr.add at this
       split at this
       · rename_i hh;subst hh;exact this
       · exact this) (hlt hp) (by rw [hm];omega) (by rw [hm];exact hcap) (by rw [e0];show (Lib.join l sep.toArray.toList).length≤_;simp only [List.toList_toArray];omega)
   rw[hm,e0] at g;exact g.mono fun e w' h'=>fin e w' (by simpa using h')
theorem zjy(x0:List (List UInt8))(x1:List UInt8)(h:x0.length≤10001∧(joinS x0 x1).length≤1048576):FnT Tryz.prog 113 [.ro false 1 x0.length (rowOf (cStr) x0),.str x1] (C57 (joinS x0 x1)):=ztn Tryz.lays156 Tryz.Builder_Extra_156 h.1 h.2
abbrev StI(n:Nat)(o:List Int):Prop:=o.length=n∧Al (fun (v:Int)=>-1≤v∧v+neg o≤40) o
theorem st_set{o:List Int}{k:Nat}{x:Int}(h:Al (fun (v:Int)=>-1≤v∧v+neg o≤40) o)(hk:k<o.length)(hn:o.getD k wl<0)(hx:0≤x∧x+neg o≤41):Al (fun (v:Int)=>-1≤v∧v+neg (o.set k x)≤40) (o.set k x):=by have e:=zpm o k x hk hn hx.1;exact Al.set (h.mono fun v hv=>⟨hv.1,vbX⟩) ⟨vbX,vbX⟩
theorem st_cnt{o t:List Int}{k m:Nat}{x q:Int}(h:t.length+neg o+1=m)(hk:k<o.length)(hn:o.getD k wl<0)(hx:0≤x):(t++[q]).length+neg (o.set k x)+1=m:=by have e:=zpm o k x hk hn hx;rw[og,oG];omega
theorem st_one{o:List Int}{k:Nat}(h:Al (fun (v:Int)=>-1≤v∧v≤0) o)(hl:o.length≤40):Al (fun (v:Int)=>-1≤v∧v+neg (o.set k 0)≤40) (o.set k 0):=by have e:=z0i (o.set k 0);rw[YF] at e;exact Al.set (h.mono fun v hv=>⟨hv.1,vbX⟩) ⟨vbX,vbX⟩
theorem st_n0{o:List Int}{k:Nat}{x:Int}(h:o.length≤40):[x].length+neg (o.set k 0)≤41:=by have e:=z0i (o.set k 0);rw[YF] at e;rw[oG];omega
theorem st_bd{o:List Int}(h:Al (fun (v:Int)=>-1≤v∧v+neg o≤40) o):Al (fun (v:Int)=>-1≤v∧v≤41) o:=h.mono fun v hv=>⟨hv.1,vbX⟩
def Imp(b:Bool)(p:Prop):Prop:=b=true→p
theorem Imp.mp{b:Bool}{p:Prop}(h:Imp b p)(hb:b=true):p:=h hb
theorem Imp.mk{b:Bool}{p:Prop}(h:b=true→p):Imp b p:=h
def mnL : List Int → Int
  |[]=>0
  |[a]=>a
  |a :: b :: l=>min a (mnL (b :: l))
def mxL : List Int → Int
  |[]=>0
  |[a]=>a
  |a :: b :: l=>max a (mxL (b :: l))
theorem z0k{x : Int} : ∀{l : List Int}, x ∈ l → mnL l ≤ x ∧ x ≤ mxL l
  |[a],h=>by simp only[oR] at h;simp only[mnL,mxL];omega
  |a :: b :: l, h => by
    simp only[mnL,mxL]
    rcases oQ.1 h with rfl | h
    · omega
    · have:=z0k h;omega
theorem xk{p : Prop}(h : p := by
  repeat' (first
    | (with_reducible refine zs ?_; first
      |with_reducible cases ‹_∧_›
      |with_reducible refine zr0 ?_
      |with_reducible refine zr1 ?_ ?_
      |with_reducible refine yd (fun hc=>?_) (fun hc=>?_)
      |with_reducible refine yF vbo vbX (fun hu=>?_)
      |with_reducible refine yE vbo vbX (fun hu=>?_)
      |with_reducible refine yE vbo (by simp only[ot,oA];omega) (fun hu=>?_)
      |with_reducible refine yO ?_
      |with_reducible refine yED vbo vbX (fun hu=>?_)
      |with_reducible refine yOD ?_
      |(with_reducible refine yC ?_ (fun r hp hf=>?_)<;>first|subst hp|(have:=mnOn;(try dsimp only at hp);try simp only[List.getD_cons_zero,Int.toNat_zero,mnL,mxL] at hp)|(have:=dsOn;dsimp only at hp)|skip)
      |((first|with_reducible refine yB ?_ (fun hp hf=>?_) (fun hp hf=>?_)|with_reducible refine y2 ?_ (fun r hp hf=>?_) (fun r hp hf=>?_)|with_reducible refine y3 ?_ (fun r s hp hf=>?_) (fun r s hp hf=>?_)|with_reducible refine yBt ?_ (fun hp hf=>?_) (fun hp hf=>?_)|with_reducible refine y2t ?_ (fun r hp hf=>?_) (fun r hp hf=>?_))<;>try simp only[eq_self,true_iff,false_iff,true_implies,Bool.not_true,Bool.not_false,Bool.and_true,Bool.and_false,oT,false_implies,zwb,z0x,and_true,Int.toNat_natCast] at hp)
      |with_reducible refine xg ?_ ?_
      |with_reducible refine yR ⟨_,?_,rfl⟩
      |((first|with_reducible refine xc (fun hc=>?_) (fun hc=>?_)|with_reducible refine xs (fun hc=>?_) (fun hc=>?_))<;>try simp only[oc,oi,od,Bool.and_eq_false_iff,Bool.or_eq_false_iff,Bool.not_eq_false',ob,oa,Bool.not_true,Bool.not_false,Bool.true_eq_false,oT,false_or,or_false,true_and,and_true,false_and,and_false,true_or,or_true,true_iff,false_iff,not_true_eq_false,not_false_eq_true,ne_eq,reduceCtorEq] at hc)
      |with_reducible refine yN ?_ (fun i v hi hI=>?_)
      |with_reducible refine yn0 ⟨_,?_,?_,rfl⟩
      |with_reducible refine yn1 ⟨_,?_,?_,rfl⟩
      |with_reducible refine yn0 ⟨_,?_,rfl⟩
      |with_reducible refine yn1 ⟨_,?_,rfl⟩
      |(with_reducible refine yJ ?_ (fun v hJ=>?_)<;>try subst hJ)
      |with_reducible refine yW ?_ (fun v hI=>?_)
      |with_reducible refine yGt ?_ (fun r hp hf=>?_)
      |with_reducible refine yGf (fun r=>?_)
      |with_reducible refine yBf ?_
      |with_reducible refine y2f (fun r=>?_)
      |(with_reducible refine yBg (fun hg=>?_) (fun hp hf=>?_) (fun hp hf=>?_)<;>first|simp only[oc,oi,od,Bool.and_eq_false_iff,Bool.or_eq_false_iff,Bool.not_eq_false',ob,oa,Bool.not_true,Bool.not_false,Bool.true_eq_false,oT,false_or,or_false,true_and,and_true,false_and,and_false,true_or,or_true,true_iff,false_iff,not_true_eq_false,not_false_eq_true,ne_eq,reduceCtorEq] at hg|simp only[eq_self,true_iff,false_iff,true_implies,Bool.not_true,Bool.not_false,Bool.and_true,Bool.and_false,oT,false_implies,zwb,z0x,and_true,Int.toNat_natCast,Bool.or_false,Bool.or_true,Bool.false_or,Bool.true_or,Bool.true_and,Bool.false_and,od,oc,ob,oa] at hp|skip)
      |(with_reducible refine yG (fun hg=>?_) (fun r hp hf=>?_)<;>try simp only[oc,oi,od,Bool.and_eq_false_iff,Bool.or_eq_false_iff,Bool.not_eq_false',ob,oa,Bool.not_true,Bool.not_false,Bool.true_eq_false,oT,false_or,or_false,true_and,and_true,false_and,and_false,true_or,or_true,true_iff,false_iff,not_true_eq_false,not_false_eq_true,ne_eq,reduceCtorEq] at hg)
      |with_reducible refine yn2 ⟨_,?_,?_,rfl⟩
      |with_reducible refine yn3 ⟨_,?_,?_,rfl⟩
      |with_reducible refine yn2 ⟨_,?_,rfl⟩
      |with_reducible refine yn3 ⟨_,?_,rfl⟩
      |with_reducible refine yn99 ?_
      |with_reducible refine xf ?_
      |with_reducible refine xo ?_ ?_
      |with_reducible refine xp ?_ ?_
      |with_reducible refine yc ?_ (fun hc=>?_) (fun hc=>?_)
      |with_reducible refine yr ?_ ⟨_,?_,rfl⟩)
    | (with_reducible refine zq ?_; first
      |with_reducible exact aZ
      |with_reducible refine aN ?_
      |with_reducible refine aQ ?_ ?_
      |((first|with_reducible refine ag (fun hg=>?_) ?_|with_reducible refine af (fun hg=>?_) ?_)<;>try simp only[oc,oi,od,Bool.and_eq_false_iff,Bool.or_eq_false_iff,Bool.not_eq_false',ob,oa,Bool.not_true,Bool.not_false,Bool.true_eq_false,oT,false_or,or_false,true_and,and_true,false_and,and_false,true_or,or_true,true_iff,false_iff,not_true_eq_false,not_false_eq_true,ne_eq,reduceCtorEq] at hg)
      |refine And.intro ?_ ?_)
    | (with_reducible refine zk ?_; first
      |with_reducible exact aW
      |with_reducible refine aC (by assumption) ?_
      |with_reducible refine aG (by assumption) ?_
      |with_reducible refine aG (by intro;assumption) ?_
      |with_reducible refine aG (by intro h;cases h) ?_
      |with_reducible refine aT (by assumption) ?_
      |with_reducible refine aD ?_ ?_)
    |with_reducible exact True.intro
    |with_reducible assumption
    |with_reducible exact Al.nil
    |with_reducible refine m1 vbo ?_
    |with_reducible refine m2 vbo ?_
    |with_reducible refine m3 vbo ?_
    |with_reducible refine m4 vbo ?_
    |with_reducible refine m5 vbo ?_
    |with_reducible refine m6 vbo ?_
    |with_reducible refine m7 vbo ?_
    |with_reducible refine m8 vbo ?_
    |with_reducible apply e1
    |with_reducible apply e2
    |with_reducible apply e3
    |with_reducible apply e4
    |with_reducible apply e5
    |with_reducible apply e6
    |with_reducible refine And.intro ?_ ?_
    |with_reducible refine Al.app ?_ ?_
    |with_reducible refine Al.one ?_
    |with_reducible refine Al.cons ?_ ?_
    |with_reducible refine Al.set ?_ ?_
    |with_reducible refine Al.rep ?_
    |with_reducible refine Al.take ?_
    |with_reducible refine Al.drop ?_
    |omega
    |(intro hg<;>try simp only[oc,oi,od,Bool.and_eq_false_iff,Bool.or_eq_false_iff,Bool.not_eq_false',ob,oa,Bool.not_true,Bool.not_false,Bool.true_eq_false,oT,false_or,or_false,true_and,and_true,false_and,and_false,true_or,or_true,true_iff,false_iff,not_true_eq_false,not_false_eq_true,ne_eq,reduceCtorEq] at hg)
    |simp only[gtQ,gfQ,pfQ]
    |(simp only[oc,oi,od,Bool.and_eq_false_iff,Bool.or_eq_false_iff,Bool.not_eq_false',ob,oa,Bool.not_true,Bool.not_false,Bool.true_eq_false,oT,false_or,or_false,true_and,and_true,false_and,and_false,true_or,or_true,true_iff,false_iff,not_true_eq_false,not_false_eq_true,ne_eq,reduceCtorEq] at hg;omega)
    |dsimp only
    |simp only[oc,oi,od,Bool.and_eq_false_iff,Bool.or_eq_false_iff,Bool.not_eq_false',ob,oa,Bool.not_true,Bool.not_false,Bool.true_eq_false,oT,false_or,or_false,true_and,and_true,false_and,and_false,true_or,or_true,true_iff,false_iff,not_true_eq_false,not_false_eq_true,ne_eq,reduceCtorEq]
    |simp only[bsC,bsW,ap1,apC,apN,nTk,nTg,nS0,nB0,nB1,nA0,nA1,wTk,wEl,wB0,wB1,wA0,wA1,nPb,wPb,msW,slC,lnP,msC,msL,stC,stL,stP,inR,og,ot,oA,List.length_set,List.length_replicate,List.length_take,List.length_drop,List.length_map,List.take_zero]
    |simp only[Int.default_eq_zero]
    |(simp only[*,Bool.not_false,Bool.not_true,Bool.and_self,Bool.or_self,Bool.or_false,Bool.or_true,Bool.and_true,Bool.and_false,Bool.true_and,Bool.false_and,Bool.true_or,Bool.false_or];done)
    |exact rfl
    |exact True.intro
    |(dsimp only at *;omega)
    |contradiction
    |(exfalso;simp_all only[reduceCtorEq,Bool.true_eq_false,oT,or_false,false_or];done))):p:=h
structure yh where
  name:List UInt8
  sex:Int
  father:Int
  mother:Int
  born:Int
  died:Int
  deriving Inhabited
def zab(fr:Bool)(x:yh):List LV:=cStr x.name++cInt .i64 x.sex++cInt .i64 x.father++cInt .i64 x.mother++cInt .i64 x.born++cInt .i64 x.died

structure yi where
  man:Int
  woman:Int
  from0:Int
  «to»:Int
  deriving Inhabited
def zac(fr:Bool)(x:yi):List LV:=cInt .i64 x.man++cInt .i64 x.woman++cInt .i64 x.from0++cInt .i64 x.to

structure yj where
  people:List yh
  unions:List yi
  deriving Inhabited
def zaf(fr:Bool)(x:yj):List LV:=cSl fr 6 (zab fr) x.people++cSl fr 4 (zac fr) x.unions

def y204(x0:yj)(x1:Int)(x2:Int):Bool→Cl:=cK Tryz.prog 204 [.agg (zaf false x0),.int .i64 x1,.int .i64 x2] C70
instance (x0:yj) (x1:Int) (x2:Int):Ct (y204 x0 x1 x2) ((0≤x1∧x1<x0.people.length)∧(0≤x2∧x2<x0.people.length)) (fun r=>True):=Ct.of 34 Tryz.func204 (let q1:=((x0.people.getD x1.toNat wl).born)<((x0.people.getD x2.toNat wl).born);let q2:=decide (((x0.people.getD x1.toNat wl).born)=((x0.people.getD x2.toNat wl).born));let q3:=decide q1;fe x0.people x1.toNat (fe x0.people x2.toNat (.reg 4 [] [] [] [] [!q3,(!q3)&&q2,decide q1] [ix x1 x0.people.length,ix x2 x0.people.length,gt (!q3) (gt q2 (pf (((!q3)&&q2)=true)))] [] [0,4,1,1,1,5,5,1,8,10] (rt [] (C70 (q3||(q2&&(decide (x1<x2))))))))) (fun h=>xk)
def C142(R:yj):LV×List (Nat×BC):=(.agg [.own 0,.own 1],[(0,.arr 6 R.people.length (rowOf (zab true) R.people)),(1,.arr 4 R.unions.length (rowOf (zac true) R.unions))])
def y142(x0:yj):yj→Cl:=cK Tryz.prog 142 [.agg (zaf false x0)] C142
instance (x0:yj):Ct (y142 x0) (x0.people.length≤1000∧x0.unions.length≤1000) (fun r=>r=x0):=Ct.of 18 Tryz.func142 (.reg 5 [] [(2004,apN 9 (zab true) 56 x0.people),(3004,apN 15 (zac true) 32 x0.unions)] [] [] [] [] [] [0,4] (rt [(0,some 9),(1,some 15)] (C142 x0))) (fun h=>xk) (fun r=>(by simp[C142,Frs,FrsL,FrsB,rowOf,cInt,cBool,cStr,cSl,zar,cStep,zag,cRule,zam,zah,zab,zac,zaf]))
theorem zmx{s:List UInt8}(h:zan s=true):1≤s.length∧s.length≤12:=by unfold zan at h;revert h;refine zcd (fun _ _=>True) (fun r=>r=true→1≤s.length∧s.length≤12) trivial (fun i v next hi hv hn=>zai (p:=fun r=>r=true→1≤s.length∧s.length≤12) (fun _ h=>nomatch h) (fun _=>hn _ trivial)) (fun v hv h=>?_);unfold l1In at h;simp only[oc,ob] at h;omega
abbrev ParP(l:List yh)(x:yh)(i q s d:Int):Prop:=q=-1∨(0≤q∧q<i)∧(l.getD q.toNat wl).sex=s∧(l.getD q.toNat wl).born<x.born∧((l.getD q.toNat wl).died=-1∨x.born≤(l.getD q.toNat wl).died+d)
abbrev PerX(l:List yh)(x:yh)(i:Int):Prop:=((1≤x.sex∧x.sex≤2)∧(0≤x.born∧x.born≤9999)∧(x.died=-1∨x.born≤x.died∧x.died≤9999))∧ParP l x i x.father 1 1∧ParP l x i x.mother 2 0
abbrev PP(l:List yh):Prop:=∀k:Nat,k<l.length→PerX l (l.getD k wl) k∧zan (l.getD k wl).name=true
def UQ(l:List yh):Prop:=∀j k:Nat,j<k→k<l.length→(l.getD j wl).name≠(l.getD k wl).name
def PotL(l:List yh)(d:List Int):Prop:=d.length=l.length∧∀k:Nat,k<l.length→0≤d.getD k wl∧((l.getD k wl).father=-1∨d.getD (l.getD k wl).father.toNat wl+1≤d.getD k wl)∧((l.getD k wl).mother=-1∨d.getD (l.getD k wl).mother.toNat wl+1≤d.getD k wl)
abbrev Pot(l:List yh)(d:List Int):Prop:=PotL l d∧d.length=l.length∧Al (fun (v:Int)=>0≤v∧v≤10) d
structure FamK(x : yj) : Prop where
  per:PP x.people
  uq:UQ x.people
  pot:∃d,Pot x.people d
abbrev UnB(x:yj)(u:yi)(q:Int):Prop:=(x.people.getD q.toNat wl).born≤u.from0∧((x.people.getD q.toNat wl).died=-1∨u.from0≤(x.people.getD q.toNat wl).died∧u.to≤(x.people.getD q.toNat wl).died)
abbrev UniX(x:yj)(u:yi):Prop:=((0≤u.man∧u.man<x.people.length)∧(0≤u.woman∧u.woman<x.people.length)∧(x.people.getD u.man.toNat wl).sex=1∧(x.people.getD u.woman.toNat wl).sex=2∧u.from0≤9999∧(u.to=-1∨u.from0≤u.to∧u.to≤9999))∧UnB x u u.man∧UnB x u u.woman
def UU(x:yj):Prop:=∀j k:Nat,j<k→k<x.unions.length→(x.unions.getD j wl).man=(x.unions.getD k wl).man→(x.unions.getD j wl).woman≠(x.unions.getD k wl).woman
abbrev UP(x:yj):Prop:=∀k:Nat,k<x.unions.length→UniX x (x.unions.getD k wl)
structure UV(x : yj) : Prop where
  up:UP x
  uu:UU x
noncomputable def uvN(x : yj) : Nat := by
  classical exact if UV x then 1 else 0
theorem uv_of{x:yj}(h:UV x):uvN x=1:=by unfold uvN;exact if_pos h
theorem of_uv{x : yj}(h : uvN x = 1) : UV x := by
 unfold uvN at h;split at h
 ·assumption
 cases h
theorem uv_up(x:yj):∀k:Nat,k<x.unions.length→uvN x=1→UniX x (x.unions.getD k wl):=fun k hk h=>(of_uv h).up k hk
structure FamV(x : yj) : Prop where
  len:x.people.length≤40∧x.unions.length≤60
  k:FamK x
  u:UV x
def DpI(l : List yh)(i : Nat)(o : List Int) : Prop := o.length = i ∧ ∀k : Nat, k < o.length → (0 ≤ o.getD k wl ∧ o.getD k wl ≤ k) ∧ ((l.getD k wl).father = -1 ∨ o.getD (l.getD k wl).father.toNat wl + 1 ≤ o.getD k wl) ∧ ((l.getD k wl).mother = -1 ∨ o.getD (l.getD k wl).mother.toNat wl + 1 ≤ o.getD k wl) ∧
  (o.getD k wl=0∨((l.getD k wl).father≠-1∧o.getD k wl=o.getD (l.getD k wl).father.toNat wl+1)∨((l.getD k wl).mother≠-1∧o.getD k wl=o.getD (l.getD k wl).mother.toNat wl+1))
theorem DpI.nil{l:List yh}:DpI l 0 []:=⟨rfl,fun k hk=>absurd hk (oO _)⟩
theorem DpI.bd{l:List yh}{i:Nat}{o:List Int}(h:DpI l i o):∀k:Nat,k<o.length→0≤o.getD k wl∧o.getD k wl≤k:=fun k hk=>(h.2 k hk).1
theorem DpI.snoc{l : List yh}(hp : PP l){i : Nat}{o : List Int}{v : Int}(h : DpI l i o)(hi : i < l.length)(hv : 0 ≤ v ∧ ((l.getD i wl).father = -1 ∨ o.getD (l.getD i wl).father.toNat wl + 1 ≤ v) ∧ ((l.getD i wl).mother = -1 ∨ o.getD (l.getD i wl).mother.toNat wl + 1 ≤ v) ∧ (v = 0 ∨ ((l.getD i wl).father ≠ -1 ∧ v = o.getD (l.getD i wl).father.toNat wl + 1) ∨ ((l.getD i wl).mother ≠ -1 ∧ v = o.getD (l.getD i wl).mother.toNat wl + 1))) : DpI l (i + 1) (o ++ [v]) := by
 obtain⟨rfl,h2⟩:=h;refine⟨vbZ,fun k hk=>?_⟩;have hk:k<o.length+1:=vbJ
 have hp1:=hp k vbX;have lo:∀q:Int,0≤q→q<k→(o++[v]).getD q.toNat wl=o.getD q.toNat wl:=fun q h0 h1=>zbq vbX;have hb:∀q:Int,0≤q→q<k→o.getD q.toNat wl≤q:=fun q h0 h1=>by have:=(h2 q.toNat vbX).1;omega
 have f1:=lo (l.getD k wl).father;have f2:=lo (l.getD k wl).mother;have f3:=hb (l.getD k wl).father;have f4:=hb (l.getD k wl).mother;by_cases e:k<o.length
 ·rw [zbq e]; have := h2 k e; omega
 have e:k=o.length:=vbX
 rw[zg9 e];rw[←e] at hv;omega
theorem DpI.le{l : List yh}(hp : PP l){i : Nat}{o d : List Int}(h : DpI l i o)(hi : i ≤ l.length)(hd : PotL l d) : ∀n k : Nat, k < n → k < i → o.getD k wl ≤ d.getD k wl
  |0,k,hn,_=>absurd hn (oO _)
  |n + 1, k, hn, hk => by
    have h1:=h.2 k (by rw[h.1];exact hk);have h2:=hd.2 k vbX;have h3:=hp k vbX
    have ih:∀q:Int,0≤q→q<k→o.getD q.toNat wl≤d.getD q.toNat wl:=fun q g0 g1=>h.le hp hi hd n q.toNat vbX vbX
    have f1:=ih (l.getD k wl).father;have f2:=ih (l.getD k wl).mother
    omega
theorem DpI.end'{l : List yh}(hp : PP l)(he : ∃d, Pot l d){i : Nat}{o : List Int}(h : DpI l i o)(hi : i ≤ l.length)(hi2 : l.length ≤ i) : Pot l o := by
 obtain⟨d,hd,_,ha⟩:=he;refine⟨⟨by rw[h.1];omega,fun k hk=>?_⟩,by rw[h.1];omega,fun v hv=>?_⟩
 ·have := h.2 k (by rw [h.1]; omega); omega
 obtain⟨k,hk,rfl⟩:=zbf (d:=wl) hv;have:=(h.2 k hk).1;have:=h.le hp hi hd _ k (oF _) (by rw[←h.1];exact hk);have:=ha _ (zat (d:=wl) (show k<d.length by rw[hd.1,←Nat.le_antisymm hi hi2,←h.1];exact hk));omega
abbrev DpN(l : List yh)(i j : Nat)(o : List Int) : Prop := o.length = l.length ∧ (∀k : Nat, k < o.length → 0 ≤ o.getD k wl ∧ o.getD k wl ≤ k) ∧ (∀k : Nat, k < i → ((l.getD k wl).father = -1 ∨ o.getD (l.getD k wl).father.toNat wl + 1 ≤ o.getD k wl) ∧ ((l.getD k wl).mother = -1 ∨ o.getD (l.getD k wl).mother.toNat wl + 1 ≤ o.getD k wl)) ∧
  ∀m:Nat,m<j→(([(l.getD i wl).father,(l.getD i wl).mother]:List Int).getD m wl=-1∨o.getD (([(l.getD i wl).father,(l.getD i wl).mother]:List Int).getD m wl).toNat wl+1≤o.getD i wl)
theorem DpN.nil{l:List yh}:DpN l 0 0 (List.replicate l.length 0):=⟨vbZ,fun k hk=>by rw[List.eq_of_mem_replicate (zat hk)];omega,fun k hk=>absurd hk (oO _),fun k hk=>absurd hk (oO _)⟩
theorem DpN.skip{l : List yh}(hp : PP l){i j : Nat}{o : List Int}(h : DpN l i j o)(hi : i < l.length)(hj : j < 2)(hq : ([(l.getD i wl).father, (l.getD i wl).mother] : List Int).getD j wl < 0) : DpN l i (j + 1) o := by
 refine⟨h.1,h.2.1,h.2.2.1,fun m hm=>?_⟩;by_cases e:m<j
 ·exact h.2.2.2 m e
 obtain rfl:m=j:=by omega
 have:=hp i hi;match m,hj with
 | 0,_ =>simp only[Yr] at hq ⊢;omega
 | 1,_ =>simp only[YP,Yr] at hq ⊢;omega
theorem DpN.set{l : List yh}(hp : PP l){i j : Nat}{o : List Int}{v : Int}(h : DpN l i j o)(hi : i < l.length)(hj : j < 2)(hv : o.getD i wl ≤ v ∧ o.getD (([(l.getD i wl).father, (l.getD i wl).mother] : List Int).getD j wl).toNat wl + 1 ≤ v ∧ v ≤ i) : DpN l i (j + 1) (o.set i v) := by
 obtain⟨h1,h2,h3,h4⟩:=h;have g:∀k:Nat,(o.set i v).getD k wl=if k=i∧i<o.length then v else o.getD k wl:=fun k=>zdj _ _ _ _ _;have low:∀q:Int,q<i→0≤q→(o.set i v).getD q.toNat wl=o.getD q.toNat wl:=fun q a b=>by rw[g,if_neg vbX]
 have hp1:=hp i hi;have h0:=h2 i vbX;refine⟨vbH,fun k hk=>?_,fun k hk=>?_,fun m hm=>?_⟩
 ·rw [g]; split
  ·omega
  exact h2 k vbJ
 ·have hk1 := hp k vbX; have := h3 k hk;have f1 := low (l.getD k wl).father; have f2 := low (l.getD k wl).mother;rw [g k, if_neg vbX]; omega
 have f1:=low (l.getD i wl).father;have f2:=low (l.getD i wl).mother;rw[g i,if_pos ⟨rfl,vbX⟩];by_cases e:m<j
 ·have := h4 m e;match m, Nat.lt_trans e hj with
  | 0,_ =>simp only[Yr] at this ⊢;omega
  | 1,_ =>simp only[YP,Yr] at this ⊢;omega
 obtain rfl:m=j:=by omega
 match m,hj with
 | 0,_ =>simp only[Yr] at hv ⊢;omega
 | 1,_ =>simp only[YP,Yr] at hv ⊢;omega
theorem DpN.next{l : List yh}{i j : Nat}{o : List Int}(h : ∀m : Nat, m < j → (([(l.getD i wl).father, (l.getD i wl).mother] : List Int).getD m wl = -1 ∨ o.getD (([(l.getD i wl).father, (l.getD i wl).mother] : List Int).getD m wl).toNat wl + 1 ≤ o.getD i wl))(h2 : 2 ≤ j ∧ DpN l i 0 o) : DpN l (i + 1) 0 o := ⟨h2.2.1, h2.2.2.1, fun k hk => by
  by_cases e:k<i
  · exact h2.2.2.2.1 k e
  · obtain rfl:k=i:=by omega
    exact⟨h 0 vbX,h 1 vbX⟩,fun m hm=>absurd hm (oO _)⟩
theorem DpN.z{l:List yh}{i:Nat}{o:List Int}:∀m:Nat,m<0→(([(l.getD i wl).father,(l.getD i wl).mother]:List Int).getD m wl=-1∨o.getD (([(l.getD i wl).father,(l.getD i wl).mother]:List Int).getD m wl).toNat wl+1≤o.getD i wl):=fun m hm=>absurd hm (oO _)
theorem DpN.end'{l:List yh}{i:Nat}{o:List Int}(h3:∀k:Nat,k<i→((l.getD k wl).father=-1∨o.getD (l.getD k wl).father.toNat wl+1≤o.getD k wl)∧((l.getD k wl).mother=-1∨o.getD (l.getD k wl).mother.toNat wl+1≤o.getD k wl))(h:(o.length=l.length∧∀k:Nat,k<o.length→0≤o.getD k wl∧o.getD k wl≤k)∧l.length≤i):PotL l o:=⟨h.1.1,fun k hk=>by have:=h.1.2 k (by rw[h.1.1];exact hk);have:=h3 k vbX;omega⟩
def NmI(l:List yh)(i:Nat)(m:KV→Option Bool):Prop:=∀j:Nat,j<i→(m (.s (l.getD j wl).name)).getD false=true
theorem NmI.nil{l:List yh}{m:KV→Option Bool}:NmI l 0 m:=fun j hj=>absurd hj (oO _)
theorem NmI.step{l : List yh}{i : Nat}{m : KV → Option Bool}(h : NmI l i m) : NmI l (i + 1) (mset m (.s (l.getD i wl).name) true) := fun j hj => by
  unfold mset
  by_cases e2:KV.s (l.getD j wl).name=KV.s (l.getD i wl).name
  · rw [if_pos e2];rfl
  · rw [if_neg e2]
    by_cases e:j=i
    · exact absurd (by rw [e]) e2
    · exact h j vbX
abbrev PQ(l:List yh)(i:Int):Prop:=∀k:Nat,k<l.length→(k:Int)<i→PerX l (l.getD k wl) k∧zan (l.getD k wl).name=true
theorem PQ.nil{l:List yh}:PQ l ((0:Nat):Int):=fun k _ h=>by omega
theorem PQ.step{l : List yh}{i : Nat}(h : PQ l ((i : Nat) : Int))(h2 : PerX l (l.getD i wl) ((i : Nat) : Int) ∧ zan (l.getD i wl).name = true) : PQ l ((i + 1 : Nat) : Int) := fun k hk hi => by
  by_cases e:k=i
  · subst e;exact h2
  · exact h k hk vbX
theorem PQ.end'{l:List yh}{i:Nat}(h:PQ l ((i:Nat):Int))(hi:l.length≤i):PP l:=fun k hk=>h k hk vbX
def UQn(l:List yh)(i:Nat):Prop:=∀j k:Nat,j<k→k<i→(l.getD j wl).name≠(l.getD k wl).name
theorem UQn.nil{l:List yh}:UQn l 0:=fun _ _ _ h=>absurd h (oO _)
theorem UQn.step{l : List yh}{i : Nat}{m : KV → Option Bool}(h : (m (.s (l.getD i wl).name)).getD false = false)(h2 : NmI l i m ∧ UQn l i) : UQn l (i + 1) := fun j k hj hk e => by
  by_cases e2:k=i
  · subst e2
    have:=h2.1 j hj
    rw[e,h] at this;cases this
  · exact h2.2 j k hj vbX e
def UPn(x:yj)(i:Nat):Prop:=∀k:Nat,k<i→UniX x (x.unions.getD k wl)∧∀j:Nat,j<k→(x.unions.getD j wl).man=(x.unions.getD k wl).man→(x.unions.getD j wl).woman≠(x.unions.getD k wl).woman
theorem UPn.nil{x:yj}:UPn x 0:=fun _ h=>absurd h (oO _)
def UUk(x:yj)(k:Nat)(i:Nat):Prop:=∀j:Nat,j<i→(x.unions.getD j wl).man=(x.unions.getD k wl).man→(x.unions.getD j wl).woman≠(x.unions.getD k wl).woman
theorem UPn.step{x : yj}{i : Nat}(h : UPn x i)(h2 : UniX x (x.unions.getD i wl) ∧ UUk x i i) : UPn x (i + 1) := fun k hk => by
  by_cases e:k=i
  · subst e;exact h2
  · exact h k vbX
def TkI(d:List Int)(i:Nat):Prop:=∀j:Nat,j<i→d.getD j wl≤10
theorem TkI.nil{d:List Int}:TkI d 0:=fun _ h=>absurd h (oO _)
theorem TkI.step{d : List Int}{i : Nat}(h : TkI d i)(h2 : d.getD i wl ≤ 10) : TkI d (i + 1) := fun j hj => by
  by_cases e:j=i
  · subst e;exact h2
  · exact h j vbX
theorem UQn.end'{l:List yh}{i:Nat}(h:UQn l i)(hi:l.length≤i):UQ l:=fun j k a b=>h j k a vbX
theorem fk_of{x : yj}{k : Nat}{d : List Int}(h : TkI d k)(h2 : d.length ≤ k ∧ PotL x.people d ∧ PP x.people ∧ UQ x.people) : FamK x :=
  ⟨h2.2.2.1, h2.2.2.2, d, h2.2.1, h2.2.1.1, fun v hv => by
    obtain⟨k,hk,rfl⟩:=zbf (d:=wl) hv
    exact⟨(h2.2.1.2 k (by rw[←h2.2.1.1];exact hk)).1,h k vbX⟩⟩
theorem fv_of{x:yj}{j:Nat}(h:UPn x j)(h2:FamK x∧x.unions.length≤j∧x.people.length≤40∧x.unions.length≤60):FamV x:=⟨h2.2.2,h2.1,⟨fun k hk=>(h k vbX).1,fun j k a b=>(h k vbX).2 j a⟩⟩
theorem uq_no{l:List yh}(h:UQ l){j k:Nat}(e:((l.getD j wl).name==(l.getD k wl).name)=true)(hj:j<k∧k<l.length):False:=h j k hj.1 hj.2 (eq_of_beq e)
theorem uu_no{x:yj}{j k:Nat}(e:(x.unions.getD j wl).man=(x.unions.getD k wl).man)(h:(x.unions.getD j wl).woman=(x.unions.getD k wl).woman∧uvN x=1∧j<k∧k<x.unions.length):False:=(of_uv h.2.1).uu j k h.2.2.1 h.2.2.2 e h.1
def TwI(u:yi)(a b:yh)(i:Nat):Prop:=∀j:Nat,j<i→(([a,b]:List yh).getD j wl).died=-1∨u.from0≤(([a,b]:List yh).getD j wl).died∧(u.to=-1∨u.to≤(([a,b]:List yh).getD j wl).died)
theorem TwI.nil{u:yi}{a b:yh}:TwI u a b 0:=fun _ h=>absurd h (oO _)
theorem TwI.step{u : yi}{a b : yh}{i : Nat}(h : TwI u a b i)(h2 : (([a, b] : List yh).getD i wl).died = -1 ∨ u.from0 ≤ (([a, b] : List yh).getD i wl).died ∧ (u.to = -1 ∨ u.to ≤ (([a, b] : List yh).getD i wl).died)) : TwI u a b (i + 1) := fun j hj => by
  by_cases e:j=i
  · subst e;exact h2
  · exact h j vbX
theorem TwI.fin{x:yj}{u:yi}{i:Nat}(h:TwI u (x.people.getD u.man.toNat wl) (x.people.getD u.woman.toNat wl) i)(h2:2≤i∧PP x.people∧((0≤u.man∧u.man<x.people.length)∧(0≤u.woman∧u.woman<x.people.length)∧(x.people.getD u.man.toNat wl).sex=1∧(x.people.getD u.woman.toNat wl).sex=2∧u.from0≤9999∧(u.to=-1∨u.from0≤u.to∧u.to≤9999))∧(x.people.getD u.man.toNat wl).born≤u.from0∧(x.people.getD u.woman.toNat wl).born≤u.from0):UniX x u:=by have a:=h 0 vbX;have b:=h 1 vbX;simp only[YP,Yr] at a b;have c:=(h2.2.1 u.man.toNat vbX).1.1;have d:=(h2.2.1 u.woman.toNat vbX).1.1;omega
theorem UUk.nil{x:yj}{k:Nat}:UUk x k 0:=fun _ h=>absurd h (oO _)
theorem UUk.step{x : yj}{k i : Nat}(h : UUk x k i)(h2 : ¬((x.unions.getD (0 + i) wl).man = (x.unions.getD k wl).man ∧ (x.unions.getD (0 + i) wl).woman = (x.unions.getD k wl).woman)) : UUk x k (i + 1) := fun j hj a b => by
  by_cases e:j=i
  · subst e;rw [Nat.zero_add] at h2;exact h2 ⟨a,b⟩
  · exact h j vbX a b
theorem UUk.fin{x:yj}{k i:Nat}(h:UUk x k i)(h2:k≤i):UUk x k k:=fun j hj=>h j vbX
theorem al_get{α:Type}{p:α→Prop}{l:List α}(h:Al p l){i:Nat}{d:α}(hi:i<l.length):p (l.getD i d):=h _ (zat hi)
def y70(x0:Int)(x1:Int)(x2:Int):Bool→Cl:=cK Tryz.prog 70 [.int .i64 x0,.int .i64 x1,.int .i64 x2] C70
instance (x0:Int) (x1:Int) (x2:Int):Ct (y70 x0 x1 x2) (True) (fun r=>r=true↔x1≤x0∧x0≤x2):=Ct.was (l1In x0 x1 x2) (fun _=>ziq x0 x1 x2) (fun _=>by unfold l1In;simp only[oc,ob])
def y72(x0:List UInt8):Bool→Cl:=cK Tryz.prog 72 [.str x0] C70
instance (x0:List UInt8):Ct (y72 x0) (zan x0=true) (fun r=>r=true):=Ct.was (zan x0) (fun h1=>zgg x0 (by have:=zmx h1;omega)) (fun h1=>h1)
def y132(x0:yj)(x1:Int)(x2:Int)(x3:Int)(x4:Int):Bool→Cl:=cK Tryz.prog 132 [.agg (zaf false x0),.int .i64 x1,.int .i64 x2,.int .i64 x3,.int .i64 x4] C70
instance (x0:yj) (x1:Int) (x2:Int) (x3:Int) (x4:Int):Ct (y132 x0 x1 x2 x3 x4) ((PP x0.people)∧(0≤x1∧x1<x0.people.length)∧(0≤x4∧x4≤1)∧(ParP x0.people (x0.people.getD x1.toNat wl) x1 x2 x3 x4)) (fun r=>r=true):=Ct.of 60 Tryz.func132 (let q2:=(x0.people.getD x2.toNat wl).died;let q3:=(decide (x2<0))||(decide (x1≤x2));let q4:=decide (q2=(-1));let q1:=((x0.people.getD x2.toNat wl).born)<((x0.people.getD x1.toNat wl).born);let q5:=decide q1;r0 1 [] [] (r0 1 [] [] (cn (decide (x2=(-1))) (r0 1 [] [] (rt [] (C70 true))) (fe x0.people x2.toNat (.reg 1 [] [] [] [] [!(decide (x2<0)),decide (x2<0),!q3,(decide (x2<0))||(decide (x1≤x2))] [gt (!q3) (ix x2 x0.people.length)] [] [1,1,6,9,9,9,0,9,9,9,9,14] (cn (q3||(!decide (((x0.people.getD x2.toNat wl).sex)=x3))) (r0 1 [] [] (rt [] (C70 false))) (fe x0.people x1.toNat (.reg 3 [] [] [] [] [decide q1,q5&&(!q4)] [ix x2 x0.people.length,ix x1 x0.people.length,gt (q5&&(!q4)) (iR (q2+x4)),gt q5 (gf q4 (pf ((q5&&(!q4))=true)))] [] [0,4,1,1,1,5,5,5,8,5,5,1,12,1] (rt [] (C70 (q5&&(q4||(decide (((x0.people.getD x1.toNat wl).born)≤(q2+x4))))))))))))))) (fun h=>xk)
def y67(x0:yj)(x1:Int):Bool→Cl:=cK Tryz.prog 67 [.agg (zaf false x0),.int .i64 x1] C70
def D67b1(i1:Nat)(v1:Unit):Dl:=⟨[(6,.int .i64 (i1:Int))],[]⟩
abbrev A67b1(x0:yj)(x1:Int)(i1:Nat)(v1:Unit):Ann:=let q1:=x0.people.getD x1.toNat wl;r0 1 [] [] (cn (decide ((i1:Int)<x1)) (fe x0.people i1 (r1 1 [] [] [ix i1 x0.people.length] [0] (cn (((x0.people.getD i1 wl).name)==(q1.name)) (r0 1 [] [] (rt [] (C70 false))) (r1 1 [] [] [iR ((i1:Int)+1)] [0] (.next 0 [] (D67b1 (i1+1) ())))))) (eb (y132 x0 x1 (q1.father) 1 1) fun a5 c5=>gb a5 (y132 x0 x1 (q1.mother) 2 0) fun a6 c6=>.reg 1 [] [(4,c5),(10,c6)] [] [] [a5] [] [] [0,1,1,1,1,4,1] (rt [] (C70 (a5&&a6)))))
instance (x0:yj) (x1:Int):Ct (y67 x0 x1) ((PP x0.people)∧(UQ x0.people)∧(x0.people.length≤1000)∧(0≤x1∧x1<x0.people.length)) (fun r=>r=true):=Ct.of 67 Tryz.func67 (let q1:=x0.people.getD x1.toNat wl;let q2:=!decide ((q1.died)=(-1));r1 2 [] [] [ix x1 x0.people.length] [0] (fe x0.people x1.toNat (eb (y72 (q1.name)) fun a1 c1=>gb (!(!a1)) (y70 (q1.sex) 1 2) fun a2 c2=>let q3:=(!a1)||(!a2);gb (!q3) (y70 (q1.born) 0 9999) fun a3 c3=>let q4:=q3||(!a3);gb ((!q4)&&q2) (y70 (q1.died) (q1.born) 9999) fun a4 c4=>.reg 1 [] [(2,c1),(7,c2),(13,c3),(25,c4)] [] [] [!(!a1),!a1,!q3,(!a1)||(!a2),!q4,(!q4)&&q2,q3||(!a3)] [gt (!q4) (gt q2 (pf (((!q4)&&q2)=true)))] [] [4,1,1,8,1,6,9,9,12,9,14,17,17,17,21,21,21,21,16,21,17,0,26] (cn (q4||(q2&&(!a4))) (r0 1 [] [] (rt [] (C70 false))) (r0 1 [1,2,4,5,6] [2,5] (lI x1.toNat (fun i (v:Unit)=>True) (D67b1) [] [] [] (D67b1 0 ()) (A67b1 x0 x1))))))) (fun h=>by have m1:=@uq_no x0.people h.2.1;exact xk)
def C68(R:(List Int)):LV×List (Nat×BC):=(.own 0,[(0,.arr 1 R.length (rowOf (cInt .i64) R))])
def y68(x0:yj):(List Int)→Cl:=cK Tryz.prog 68 [.agg (zaf false x0)] C68
def D68b1(i1:Nat)(v1:(List Int)):Dl:=⟨[(11,.int .i64 (i1:Int)),(3,.own 20003)],[(20003,.arr 1 v1.length (rowOf (cInt .i64) v1))]⟩
abbrev A68b1(x0:yj)(i1:Nat)(v1:(List Int)):Ann:=let q5:=((i1:Int)+1);let q1:=x0.people.getD i1 wl;let q4:=q1.mother;let q3:=v1.getD ((q1.father).toNat) wl;let q2:=(v1.getD (q4.toNat) wl)+1;let q6:=q3+1;r0 1 [] [] (cn (decide ((i1:Int)<(x0.people.length:Int))) (r1 2 [] [] [ix i1 x0.people.length] [0] (fe x0.people i1 (r0 1 [] [] (cn (decide (0≤(q1.father))) (fe v1 ((q1.father).toNat) (r1 1 [] [] [ix (q1.father) v1.length,iR q6] [0,4] (r0 1 [] [] (cn (decide (0≤q4)) (fe v1 (q4.toNat) (r1 1 [] [] [ix q4 v1.length,iR q2] [0,4] (.reg 1 [] [(2,bsC 37 (cInt .i64) ([yP q6 q2]:List Int)),(3,ap1 38 (cInt .i64) 8 v1 (yP q6 q2))] [] [] [] [] [] [0,4] (r1 1 [] [] [iR q5] [0] (.next 0 [(20003,some 38)] (D68b1 (i1+1) (v1++[yP q6 q2]))))))) (.reg 1 [] [(2,bsC 37 (cInt .i64) ([q3+1]:List Int)),(3,ap1 38 (cInt .i64) 8 v1 q6)] [] [] [] [] [] [0,4] (r1 1 [] [] [iR q5] [0] (.next 0 [(20003,some 38)] (D68b1 (i1+1) (v1++[q3+1]))))))))) (r0 1 [] [] (cn (decide (0≤q4)) (fe v1 (q4.toNat) (r1 1 [] [] [ix q4 v1.length,iR q2] [0,4] (.reg 1 [] [(2,bsC 37 (cInt .i64) ([yP 0 q2]:List Int)),(3,ap1 38 (cInt .i64) 8 v1 (yP 0 q2))] [] [] [] [] [] [0,4] (r1 1 [] [] [iR q5] [0] (.next 0 [(20003,some 38)] (D68b1 (i1+1) (v1++[yP 0 q2]))))))) (.reg 1 [] [(2,bsC 37 (cInt .i64) ([0]:List Int)),(3,ap1 38 (cInt .i64) 8 v1 0)] [] [] [] [] [] [0,4] (r1 1 [] [] [iR q5] [0] (.next 0 [(20003,some 38)] (D68b1 (i1+1) (v1++[0]))))))))))) (r0 1 [] [] (rt [(0,some 20003)] (C68 v1))))
instance (x0:yj):Ct (y68 x0) ((PP x0.people)∧(∃d,Pot x0.people d)∧(x0.people.length≤1000)) (fun r=>Pot x0.people r):=Ct.of 41 Tryz.func68 (.reg 2 [] [(1000,bsC 7 (cInt .i64) ([]:List Int))] [] [] [] [] [] [0] (r0 1 [2,3,9,10,11] [7] (lI x0.people.length (fun i (v:(List Int))=>DpI x0.people i v∧v.length=i∧∀k:Nat,k<v.length→0≤v.getD k wl∧v.getD k wl≤k) (D68b1) [] [7] [(20003,some 7)] (D68b1 0 ([]:List Int)) (A68b1 x0)))) (fun h=>by have e1:=@DpI.snoc _ h.1;have e2:=@DpI.end' _ h.1 h.2.1;have e3:=@DpI.bd x0.people;have e4:=@DpI.nil x0.people;exact xk) (fun r=>vaB)
end Go.Proofs.YtnphfelaffdmkaaGreatDoor
