import Derived.Test.YtnibbmmljamolaaGreatM136
set_option maxHeartbeats 4000000
set_option linter.unusedSimpArgs false
set_option linter.unusedVariables false
namespace Go.Proofs.YtnibbmmljamolaaGreat
open Go Go.Lite Go.Proofs
theorem zx3{b:List Int}(hb:∀y∈b,0≤y∧y≤255){i:Int}(hi:0≤i)(n:Int)(hn:0<n):0≤(at1 b i).tmod n∧(at1 b i).tmod n<n:=by rw[Int.tmod_eq_emod_of_nonneg (z1l hb hi).1];exact⟨Int.emod_nonneg _ vdh,Int.emod_lt_of_pos _ hn⟩
theorem zkm{b:List Int}(hb:∀y∈b,0≤y∧y≤255){i:Int}(hi:0≤i){x:yc}(hf:zad x=true)(hn:0<x.people.length):(0≤(at1 b i).tmod (x.people.length:Int)∧(at1 b i).tmod (x.people.length:Int)<(x.people.length:Int))∧(0≤(x.people.getD ((at1 b i).tmod (x.people.length:Int)).toNat default).born∧(x.people.getD ((at1 b i).tmod (x.people.length:Int)).toNat default).born≤9999)∧((x.people.getD ((at1 b i).tmod (x.people.length:Int)).toNat default).died≤9999):=by have h9:0≤(at1 b i).tmod (x.people.length:Int)∧(at1 b i).tmod (x.people.length:Int)<(x.people.length:Int):=zx3 hb hi _ vdh;have h7:=fam_p hf (k:=((at1 b i).tmod (x.people.length:Int)).toNat) vdh;have h6:=h7.born;have h5:=h7.died;exact⟨h9,h6,vdh⟩
theorem z3g{i : Nat}(h : i < 4) : 0 ≤ ([0, 1, 20, 45] : List Int).getD i default ∧ ([0, 1, 20, 45] : List Int).getD i default ≤ 45 := by
 match i,h with
 |0,_ =>decide
 |1,_ =>decide
 |2,_ =>decide
 |3,_ =>decide
def C7(R:Int):LV×List (Nat×BC):=(.int .i64 R,[])
def zmd(x0:List Int)(x1:Int)(x2:yc):Int:=bif((decide (0≤((x2.people.getD (((at1 x0 x1).tmod ((x2.people.length:Nat):Int)).toNat) default).died)))&&(decide (((at1 x0 (x1+1)).tmod 2)=0))) then((((x2.people.getD (((at1 x0 x1).tmod ((x2.people.length:Nat):Int)).toNat) default).died)+((at1 x0 (x1+2)).tmod 3)) - 1) else(((x2.people.getD (((at1 x0 x1).tmod ((x2.people.length:Nat):Int)).toNat) default).born)+([0,1,20,45].getD (((at1 x0 (x1+1)).tmod 4).toNat) default))
def A7(x0:List Int)(x1:Int)(x2:yc):Ann:=let q6:=x1+1;let q2:=((x2.people.length:Nat):Int);let q8:=((at1 x0 q6).tmod 4:Int);let q7:=((at1 x0 x1).tmod q2:Int);let q1:=x2.people.getD (((at1 x0 x1).tmod q2).toNat) default;let q5:=decide (0≤(q1.died));let q4:=(q1.died)+((at1 x0 (x1+2)).tmod 3);let q3:=((q1.born)+([0,1,20,45].getD (((at1 x0 q6).tmod 4).toNat) default));.reg 2 [] [(1004,k10 x0 x1)] [0,1,6,7] [7] [] [pf ((q2:Int)≠0),pf (0≤q7∧q7<q2)] [] [8,0,4] (.reg 1 [] [(7,cg q5 (k10 x0 q6))] [0,1,6,7,29] [7] [decide (0≤(q1.died))] [gt q5 (pf (inR .i64 q6)),gt q5 (pf ((2:Int)≠0))] [] [1,0,1,1,8,1,4,1,1] (cn (q5&&(decide (((at1 x0 q6).tmod 2)=0))) (.reg 1 [] [(5,k10 x0 (x1+2))] [0,1,6,7] [7] [] [pf (inR .i64 (x1+2)),pf ((3:Int)≠0),pf (inR .i64 q4),pf (inR .i64 (q4 - 1))] [] [0,16,4,8,12] (rt [] (C7 (q4 - 1)))) (.reg 1 [] [(2,bsC 41 (cInt .i64) ([0,1,20,45]:List Int)),(6,k10 x0 q6)] [6] [] [] [pf (inR .i64 q6),pf ((4:Int)≠0),pf (0≤q8∧q8<((4:Nat):Int)),pf (inR .i64 q3)] [] [16,0,20,4,8,12] (rt [] (C7 q3)))))
theorem ztn(x0 : List Int)(x1 : Int)(x2 : yc)(hx : x0.length ≤ 1048576)(hb : ∀y ∈ x0, 0 ≤ y ∧ y ≤ 255)(hi : 0 ≤ x1 ∧ x1 ≤ 900)(hf : zad x2 = true)(hn : 0 < x2.people.length) : FnT Tryz.prog 7 [.ro false 1 x0.length (rowOf (cInt .u8) x0), .int .i64 x1, .agg (zaw false x2)] (C7 (zmd x0 x1 x2)) := by
 have aux : ∀R, zmd x0 x1 x2 = R → slim (C7 R) (A7 x0 x1 x2) [] := by
  intro R hR;refine rg ⟨vc6,vb4,⟨vcA,vcA,vc6⟩,trivial⟩ ?_;refine rg ⟨vb4,vc6,fun hg0=>⟨vcA,vcA,vc6⟩,trivial⟩ ?_;refine cd (fun hc1 hR=>?_) (fun hc1 hR=>?_) hR
  ·refine rg ⟨by (have h9 := zkm hb hi.1 hf hn; (try simp only [inR]); omega), vc4, vaB, vaB, ⟨vcA, vcA, vc4⟩, trivial⟩ ?_;exact oe C7 hR
  refine rg ⟨vb4,vc6,by(have h9:=zkm hb hi.1 hf hn;have h8:=zx3 hb (i:=x1+1) vdh 4 vdh;(try simp only[inR,ow,oC]);omega),by(have h9:=zkm hb hi.1 hf hn;have h8:=zx3 hb (i:=x1+1) vdh 4 vdh;have h7:=z3g (i:=((at1 x0 (x1+1)).tmod 4).toNat) vdh;(try simp only[inR]);omega),trivial,⟨vcA,vcA,vc6⟩,trivial⟩ ?_;exact oe C7 hR
 exact Fn.go 50 Tryz.func7 zaa zaa (by simp[C7,Frs,FrsL]) (A7 x0 x1 x2) zaa (aux _ rfl)
def k7(x0:List Int)(x1:Int)(x2:yc):Cl:=(hres (C7 (zmd x0 x1 x2)),Go.Lite.k5 (ztn x0 x1 x2))
def C16(R:Bool):LV×List (Nat×BC):=(.bool R,[])
def zgk(x0:List Int)(x1:List Int):Bool:=bif(!decide (((x0.length:Nat):Int)=((x1.length:Nat):Int))) then false else(loopN (fun i1 (v1:Unit) next=>bif(!decide ((x0.getD i1 default)=(x1.getD i1 default))) then false else(next ())) (fun (v1:Unit)=>true) x0.length 0 ())
def D16b1(i1:Nat)(v1:Unit):Dl:=⟨[(13,.int .i64 ((i1:Nat):Int))],[]⟩
def A16b1(x0:List Int)(x1:List Int)(i1:Nat)(v1:Unit):Ann:=let q1:=((i1:Nat):Int);let q2:=((x0.length:Nat):Int);let q3:=(q1:Int);r0 1 [0,1,4,12,13,14] [] (cn (decide (q1<q2)) (r1 2 [0,1,4,12,13,24] [] [pf (0≤q3∧q3<q2),pf (0≤q3∧q3<((x1.length:Nat):Int))] [0,4] (cn (!decide ((x0.getD i1 default)=(x1.getD i1 default))) (r0 1 [0,1,4,12,13] [] (rt [] (C16 false))) (r1 1 [0,1,4,12,13] [] [pf (inR .i64 (q1+1))] [0] (.next 0 [] (D16b1 (i1+1) ()))))) (r0 1 [4] [] (rt [] (C16 true))))
def A16(x0:List Int)(x1:List Int):Ann:=r0 1 [0,1,4] [] (r0 1 [0,1,4,10] [] (cn (!decide (((x0.length:Nat):Int)=((x1.length:Nat):Int))) (r0 1 [0,1,4] [] (rt [] (C16 false))) (r0 1 [0,1,4,12,13] [] (lp (D16b1) [] [] [] (D16b1 0 ()) (A16b1 x0 x1)))))
theorem zto(x0 : List Int)(x1 : List Int)(hx : x0.length ≤ 1048576) : FnT Tryz.prog 16 [.ro false 1 x0.length (rowOf (cInt .i64) x0), .ro false 1 x1.length (rowOf (cInt .i64) x1)] (C16 (zgk x0 x1)) := by
 have aux : ∀R, zgk x0 x1 = R → slim (C16 R) (A16 x0 x1) [] := by
  intro R hR;refine rT ?_;refine rT ?_;refine cd (fun hc1 hR=>?_) (fun hc1 hR=>?_) hR
  ·refine rT ?_;exact oe C16 hR
  refine rT ?_;refine lN (fun i v=>True) vdg rfl (fun i1 v1 F1 hn1 hI1 hR hK1=>?_) hR;refine rT ?_;refine⟨fun hc2=>?_,fun hc2=>?_⟩
  ·have hii1 : i1 < x0.length := vcI;replace hR := zai hR hii1;refine rg ⟨vc4, va5, trivial⟩ ?_;refine cd (fun hc3 hR => ?_) (fun hc3 hR => ?_) hR
   ·refine rT ?_;exact oe C16 hR
   refine rg ⟨vcx,trivial⟩ ?_;exact hK1 () hii1 vdg hR
  obtain rfl:i1=x0.length:=by have:=oB hc2;omega
  replace hR:=zaq hR (oR _);refine rT ?_;exact oe C16 hR
 exact Fn.go 26 Tryz.func16 zaa zaa (by simp[C16,Frs,FrsL]) (A16 x0 x1) zaa (aux _ rfl)
def k16(x0:List Int)(x1:List Int):Cl:=(hres (C16 (zgk x0 x1)),k1 (zto x0 x1))
theorem zyy{a b:List Int}(h:a=b):zgk a b=true:=by subst h;unfold zgk;rw[oM rfl,Bool.not_true,oD,zdb];exact⟨fun j _=>by simp,rfl⟩
structure estate where
  f:yc
  p:Int
  year:Int
  takes:List Bool
  num:List Int
  den:List Int
  deriving Inhabited
def ze6(fr:Bool)(x:estate):List LV:=zaw fr x.f++cInt .i64 x.p++cInt .i64 x.year++cSl fr 1 (cBool) x.takes++cSl fr 1 (cInt .i64) x.num++cSl fr 1 (cInt .i64) x.den

def C86(R:Int):LV×List (Nat×BC):=(.int .i64 R,[])
def zbj(x0:Int)(x1:Int):Int:=loopW (fun (v1:Int×Int) next=>bif(!decide (v1.2=0)) then(next (v1.2,v1.1.tmod v1.2)) else v1.1) ((x1).toNat+1) (x0,x1)
def D86b1(v1:Int×Int):Dl:=⟨[(0,.int .i64 v1.1),(1,.int .i64 v1.2)],[]⟩
def A86b1(v1:Int×Int):Ann:=r0 1 [0,1,4,6] [] (cn (!decide (v1.2=0)) (r1 1 [0,1,4] [] [pf ((v1.2:Int)≠0)] [0] (.next 0 [] (D86b1 (v1.2,v1.1.tmod v1.2)))) (r0 1 [4] [] (rt [] (C86 v1.1))))
def A86(x0:Int)(x1:Int):Ann:=r0 1 [0,1,4] [] (.loop (Int×Int) (D86b1) [] [] [] (D86b1 (x0,x1)) (A86b1))
theorem zvf(x0 : Int)(x1 : Int)(h0 : 0 ≤ x0)(h1 : 0 ≤ x1) : FnT Tryz.prog 86 [.int .i64 x0, .int .i64 x1] (C86 (zbj x0 x1)) := by
 have aux : ∀R, zbj x0 x1 = R → slim (C86 R) (A86 x0 x1) [] := by
  intro R hR;refine rT ?_;refine lW (fun v=>0≤v.1∧0≤v.2) (fun v=>(v.2).toNat) vdg (oH _) rfl (fun m1 v1 F1 hI1 hM1 hR hK1=>?_) hR;refine rT ?_;refine cd (fun hc1 hR=>?_) (fun hc1 hR=>?_) hR
  ·refine rg ⟨vaV, trivial⟩ ?_;exact hK1 (v1.2, v1.1.tmod v1.2) vaV vaV hR
  refine rT ?_;exact oe C86 hR
 exact Fn.go 12 Tryz.func86 zaa zaa (by simp[C86,Frs,FrsL]) (A86 x0 x1) zaa (aux _ rfl)
def k86(x0:Int)(x1:Int):Cl:=(hres (C86 (zbj x0 x1)),k2 (zvf x0 x1))
def C45(x0:estate)(x1:List Int)(R:(List Int)×(List Bool)×(List Int)×(List Int)):LV×List (Nat×BC):=(.own 0,[(900000,.var [.ro false 6 x0.f.people.length (rowOf (zah false) x0.f.people),.ro false 4 x0.f.unions.length (rowOf (zas false) x0.f.unions),.int .i64 x0.p,.int .i64 x0.year,.own 1,.own 2,.own 3]),(900004,.arr 1 x1.length (rowOf (cInt .i64) x1)),(0,.arr 1 R.1.length (rowOf (cInt .i64) R.1)),(1,.arr 1 R.2.1.length (rowOf (cBool) R.2.1)),(2,.arr 1 R.2.2.1.length (rowOf (cInt .i64) R.2.2.1)),(3,.arr 1 R.2.2.2.length (rowOf (cInt .i64) R.2.2.2))])
def zba(x0:estate)(x1:List Int):(List Int)×(List Bool)×(List Int)×(List Int):=loopN (fun i1 (v1:(List Int)) next=>bif(x0.takes.getD ((x1.getD i1 default).toNat) default) then(next (v1++[(x1.getD i1 default)])) else(next v1)) (fun (v1:(List Int))=>(v1,x0.takes,x0.num,x0.den)) x1.length 0 ([]:List Int)
def D45b1(i1:Nat)(v1:(List Int)):Dl:=⟨[(10,.int .i64 ((i1:Nat):Int)),(5,.own 20005)],[(20005,.arr 1 v1.length (rowOf (cInt .i64) v1))]⟩
def A45b1(x0:estate)(x1:List Int)(i1:Nat)(v1:(List Int)):Ann:=let q2:=((i1:Nat):Int);let q1:=x1.getD i1 default;let q3:=((x1.length:Nat):Int);r0 1 [0,4,5,8,9,10,11] [20005,900000,900001,900002,900003,900004] (cn (decide (q2<q3)) (r1 2 [0,4,5,7,8,9,10,20] [20005,900000,900001,900002,900003,900004] [pf (0≤(q2:Int)∧(q2:Int)<q3),pf (0≤(q1:Int)∧(q1:Int)<((x0.takes.length:Nat):Int))] [0,4] (cn (x0.takes.getD (q1.toNat) default) (.reg 1 [] [(2,bsC 23 (cInt .i64) ([q1]:List Int)),(3,ap1 24 (cInt .i64) 8 v1 q1)] [0,4,5,8,9,10] [24,900000,900001,900002,900003,900004] [] [] [] [0,4] (r1 1 [0,4,5,8,9,10] [24,900000,900001,900002,900003,900004] [pf (inR .i64 (q2+1))] [0] (.next 0 [(20005,some 24)] (D45b1 (i1+1) (v1++[q1]))))) (r1 1 [0,4,5,8,9,10] [20005,900000,900001,900002,900003,900004] [pf (inR .i64 (q2+1))] [0] (.next 0 [(20005,some 20005)] (D45b1 (i1+1) v1))))) (r0 1 [4] [20005,900000,900001,900002,900003,900004] (rt [(900000,some 900000),(900004,some 900004),(0,some 20005),(1,some 900001),(2,some 900002),(3,some 900003)] (C45 x0 x1 (v1,x0.takes,x0.num,x0.den)))))
def A45(x0:estate)(x1:List Int):Ann:=r0 2 [0,1,4,5] [900000,900001,900002,900003,900004] (r0 1 [0,4,5,8,9,10] [900000,900001,900002,900003,900004] (lp (D45b1) [] [] [(20005,none)] (D45b1 0 ([]:List Int)) (A45b1 x0 x1)))
theorem zii(x0 : estate)(x1 : List Int)(ht : x0.takes.length ≤ 1048576)(hl : x1.length ≤ 1048576)(hr : ∀c ∈ x1, 0 ≤ c ∧ c < x0.takes.length) : FnMT Tryz.prog 45 [.vp 900000 0, .own 900004] [.var [.ro false 6 x0.f.people.length (rowOf (zah false) x0.f.people), .ro false 4 x0.f.unions.length (rowOf (zas false) x0.f.unions), .int .i64 x0.p, .int .i64 x0.year, .own 900001, .own 900002, .own 900003], .arr 1 x0.takes.length (rowOf (cBool) x0.takes), .arr 1 x0.num.length (rowOf (cInt .i64) x0.num), .arr 1 x0.den.length (rowOf (cInt .i64) x0.den), .arr 1 x1.length (rowOf (cInt .i64) x1)] (C45 x0 x1 (zba x0 x1)) := by
 have aux : ∀R, zba x0 x1 = R → slim (C45 x0 x1 R) (A45 x0 x1) [] := by
  intro R hR;refine rT ?_;refine rT ?_;refine lN (fun i v=>v.length≤i) vdg rfl (fun i1 v1 F1 hn1 hI1 hR hK1=>?_) hR;refine rT ?_;refine⟨fun hc1=>?_,fun hc1=>?_⟩
  ·have hii1 : i1 < x1.length := vcH;replace hR := zai hR hii1;refine rg ⟨vc4, vaZ, trivial⟩ ?_;refine cd (fun hc2 hR => ?_) (fun hc2 hR => ?_) hR
   ·refine rg ⟨trivial, vdh, trivial⟩ ?_;refine rg ⟨vcq, trivial⟩ ?_;exact hK1 (v1 ++ [(x1.getD i1 default)]) hii1 vaZ hR
   refine rg ⟨vcx,trivial⟩ ?_;exact hK1 v1 hii1 vc6 hR
  obtain rfl:i1=x1.length:=by have:=oB hc1;omega
  replace hR:=zaq hR (oR _);refine rT ?_;exact oe (C45 x0 x1) hR
 exact FnM.go 27 Tryz.func45 zaa zaa (A45 x0 x1) zaa (aux _ rfl)
def k45(d:Nat)(ids:List Nat)(x0:estate)(x1:List Int):Cl:=(hresM d ids (C45 x0 x1 (zba x0 x1)),k3 (zii x0 x1))
theorem zki(a b : Nat) : zbj (a : Int) (b : Int) = ((Nat.gcd a b : Nat) : Int) := by
 unfold zbj;refine za8 (fun (v:Int×Int)=>∃c d:Nat,v=((c:Int),(d:Int))∧Nat.gcd c d=Nat.gcd a b) (fun v=>v.2.toNat) (fun (r:Int)=>r=((Nat.gcd a b:Nat):Int)) (fun v next hv hn=>?_) _ _ (oH _) ⟨a,b,rfl,rfl⟩;obtain⟨c,d,rfl,hg⟩:=hv;refine zaj (p:=fun (r:Int)=>r=((Nat.gcd a b:Nat):Int)) (fun hc=>?_) (fun hc=>?_)
 ·have hc : ¬ (d : Int) = 0 := by simpa using hc
  have hd:0<d:=vdh
  have e:(c:Int).tmod (d:Int)=((c % d:Nat):Int):=by rw[Int.tmod_eq_emod_of_nonneg vdh];rfl
  refine hn _ ⟨d,c % d,by rw[e],?_⟩ ?_
  ·rw [← hg, Nat.gcd_comm c d, Nat.gcd_rec d c, Nat.gcd_comm]
  rw[e];have:=Nat.mod_lt c hd;show((c % d:Nat):Int).toNat<(d:Int).toNat;omega
 have hc:(d:Int)=0:=by simpa using hc
 have hd:d=0:=vdh
 subst hd;rw[Nat.gcd_zero_right] at hg;show(c:Int)=_;rw[hg]
theorem z1m{D S u den : Nat}(hD : 0 < D)(hd : 0 < den)(hu : u * den = D) : ((S / Nat.gcd S D) * den + D / Nat.gcd S D) / Nat.gcd ((S / Nat.gcd S D) * den + D / Nat.gcd S D) ((D / Nat.gcd S D) * den) = (S + u) / Nat.gcd (S + u) D ∧ ((D / Nat.gcd S D) * den) / Nat.gcd ((S / Nat.gcd S D) * den + D / Nat.gcd S D) ((D / Nat.gcd S D) * den) = D / Nat.gcd (S + u) D ∧ (S + u ≤ D → (S / Nat.gcd S D) * den + D / Nat.gcd S D ≤ (D / Nat.gcd S D) * den) := by
 have hg:0<Nat.gcd S D:=Nat.gcd_pos_of_pos_right _ hD;have h1:S / Nat.gcd S D * Nat.gcd S D=S:=Nat.div_mul_cancel (Nat.gcd_dvd_left S D);have h2:D / Nat.gcd S D * Nat.gcd S D=D:=Nat.div_mul_cancel (Nat.gcd_dvd_right S D);revert h1 h2 hg;generalize S / Nat.gcd S D=s;generalize D / Nat.gcd S D=d;generalize Nat.gcd S D=g;intro hg h1 h2;have e1:(s * den+d) * g=(S+u) * den:=by rw[Nat.add_mul,Nat.add_mul,hu,h2,Nat.mul_right_comm,h1]
 have e2:(d * den) * g=D * den:=by rw[Nat.mul_right_comm,h2]
 have e3:Nat.gcd (s * den+d) (d * den) * g=Nat.gcd (S+u) D * den:=by rw[←Nat.gcd_mul_right,e1,e2,Nat.gcd_mul_right]
 refine⟨?_,?_,fun h=>?_⟩
 ·rw [← Nat.mul_div_mul_right _ _ hg, e1, e3, Nat.mul_div_mul_right _ _ hd]
 ·rw [← Nat.mul_div_mul_right _ _ hg, e2, e3, Nat.mul_div_mul_right _ _ hd]
 have:(s * den+d) * g≤(d * den) * g:=by rw[e1,e2];exact oW _ h
 exact Nat.le_of_mul_le_mul_right this hg
theorem zqj(x : estate)(l : List Int) : zba x l = (l.filter (fun c => x.takes.getD c.toNat default), x.takes, x.num, x.den) := by
 unfold zba;refine za3 (fun i (v:List Int)=>v=(l.take i).filter (fun c=>x.takes.getD c.toNat default)) (fun (r:(List Int)×(List Bool)×(List Int)×(List Int))=>r=(l.filter (fun c=>x.takes.getD c.toNat default),x.takes,x.num,x.den)) vdj (fun i v next hi hv hn=>?_) (fun v hv=>by rw[hv,List.take_length]);refine zaj (p:=fun (r:(List Int)×(List Bool)×(List Int)×(List Int))=>r=(l.filter (fun c=>x.takes.getD c.toNat default),x.takes,x.num,x.den)) (fun c=>hn _ ?_) (fun c=>hn _ ?_)
 ·rw [zd7 _ default hi, zel, c, hv]; rfl
 rw[zd7 _ default hi,zel,c,hv];simp
def kidsT(f:yc)(tk:List Bool)(q:Int):List Int:=(zap f q).filter fun c=>tk.getD c.toNat default
theorem zfu{f:yc}(hf:zad f=true){tk:List Bool}{q c:Int}(hq:0≤q)(h:c∈kidsT f tk q):(q<c∧c<f.people.length)∧tk.getD c.toNat default=true∧c∈zap f q:=by have h1:=o9.1 h;exact⟨zt0 hf hq h1.1,h1.2,h1.1⟩
theorem zld{f:yc}(tk:List Bool)(q:Int):(kidsT f tk q).length≤f.people.length:=Nat.le_trans (List.length_filter_le _ _) (zg9 f q).2
inductive Ch (f : yc) (y : Int) (tk : List Bool) : Int → Nat → Prop
  |nil (q:Int):Ch f y tk q 1
  |cons {q c:Int} {r:Nat} (hd:zfb f q y=false) (hc:c∈kidsT f tk q) (h:Ch f y tk c r):Ch f y tk q ((kidsT f tk q).length * r)
structure RepS(D : Nat)(S : List Nat)(num den : List Int) : Prop where
  pos:0<D
  ln:num.length=S.length
  ld:den.length=S.length
  nm:∀k:Nat,k<S.length→num.getD k default=((S.getD k 0 / Nat.gcd (S.getD k 0) D:Nat):Int)
  dn:∀k:Nat,k<S.length→den.getD k default=((D / Nat.gcd (S.getD k 0) D:Nat):Int)
mutual
def gS(f : yc)(y : Int)(tk : List Bool) : Nat → Int → Nat → List Nat → List Nat
  |0,_,_,S=>S
  |m+1,q,u,S=>bif zfb f q y then S.set q.toNat (S.getD q.toNat 0+u) else dS f y tk m (kidsT f tk q) u S
def dS(f : yc)(y : Int)(tk : List Bool) : Nat → List Int → Nat → List Nat → List Nat
  |0,_,_,S=>S
  |m+1,l,u,S=>l.foldl (fun S c=>gS f y tk m c (u / l.length) S) S
end
def lmu(n:Nat)(l:List Int):Nat:=l.foldr (fun c a=>max (2 * ((n:Int) - c).toNat+1) a) 0
theorem lmu_le{n : Nat} : ∀{l : List Int} {k : Nat}, lmu n l ≤ k ↔ ∀c ∈ l, 2 * ((n : Int) - c).toNat + 1 ≤ k
  |[],k=>by simp[lmu]
  |c :: l, k => by
    have h:=lmu_le (n:=n) (l:=l) (k:=k)
    unfold lmu at h ⊢
    rw[List.foldr_cons]
    constructor
    · intro hh d hd
      rcases oS.1 hd with e | hd
      · subst e;omega
      · exact h.1 vdh d hd
    · intro hh
      have h1:=hh c vdj
      have h2:=h.2 fun d hd=>hh d (by simp[hd])
      omega
structure TkOk(f : yc)(y : Int)(tk : List Bool) : Prop where
  len:tk.length=f.people.length
  kid:∀q:Int,0≤q→tk.getD q.toNat default=true→zfb f q y=true∨kidsT f tk q≠[]
def Bdg(f:yc)(y:Int)(tk:List Bool)(D:Nat)(den:Nat)(q:Int):Prop:=∀r,Ch f y tk q r→den * r ∣ D∧den * r * D≤9223372036854775807
theorem Bdg.kid{f : yc}{y : Int}{tk : List Bool}{D den : Nat}{q c : Int}(h : Bdg f y tk D den q)(hd : zfb f q y = false)(hc : c ∈ kidsT f tk q) : Bdg f y tk D (den * (kidsT f tk q).length) c := fun r hr => by
  have:=h _ (.cons hd hc hr)
  rw[←Nat.mul_assoc] at this
  exact this
theorem RepS.add{D : Nat}{S : List Nat}{num den : List Int}(h : RepS D S num den){k u d : Nat}(hk : k < S.length)(hd : 0 < d)(hu : u * d = D) : RepS D (S.set k (S.getD k 0 + u)) (num.set k (((num.getD k default) * (d : Int) + 1 * (den.getD k default)).tdiv (zbj ((num.getD k default) * (d : Int) + 1 * (den.getD k default)) ((den.getD k default) * (d : Int))))) (den.set k (((den.getD k default) * (d : Int)).tdiv (zbj ((num.getD k default) * (d : Int) + 1 * (den.getD k default)) ((den.getD k default) * (d : Int))))) := by
 have e1:=h.nm k hk;have e2:=h.dn k hk;have hr:=z1m (S:=S.getD k 0) h.pos hd hu;rw[e1,e2];have a1:((S.getD k 0 / Nat.gcd (S.getD k 0) D:Nat):Int) * (d:Int)+1 * ((D / Nat.gcd (S.getD k 0) D:Nat):Int)=(((S.getD k 0 / Nat.gcd (S.getD k 0) D) * d+D / Nat.gcd (S.getD k 0) D:Nat):Int):=by rw[Int.one_mul];simp only[Int.natCast_add,Int.natCast_mul]
 have a2:((D / Nat.gcd (S.getD k 0) D:Nat):Int) * (d:Int)=(((D / Nat.gcd (S.getD k 0) D) * d:Nat):Int):=by rw[Int.natCast_mul]
 rw[a1,a2,zki,←Int.ofNat_tdiv,←Int.ofNat_tdiv,hr.1,hr.2.1];refine⟨h.pos,by simp[h.ln],by simp[h.ld],fun j hj=>?_,fun j hj=>?_⟩
 ·rw [Ob] at hj;have hj2 : j < num.length := by rw [h.ln]; exact hj
  rw[zbc,zbc];by_cases e:j=k
  ·subst e; rw [if_pos ⟨rfl, hj2⟩, if_pos ⟨rfl, hj⟩]
  rw[if_neg (fun x=>e x.1),if_neg (fun x=>e x.1)];exact h.nm j hj
 rw[Ob] at hj;have hj2:j<den.length:=by rw[h.ld];exact hj
 rw[zbc,zbc];by_cases e:j=k
 ·subst e; rw [if_pos ⟨rfl, hj2⟩, if_pos ⟨rfl, hj⟩]
 rw[if_neg (fun x=>e x.1),if_neg (fun x=>e x.1)];exact h.dn j hj
theorem zua(f : yc)(y : Int)(tk : List Bool) : ∀(m : Nat), (∀q u S, (gS f y tk m q u S).length = S.length) ∧ ∀l u S, (dS f y tk m l u S).length = S.length := by
 intro m;induction m with
 |zero =>exact⟨fun _ _ _=>rfl,fun _ _ _=>rfl⟩
 |succ m ih =>
  refine⟨fun q u S=>?_,fun l u S=>?_⟩
  ·rw [gS];exact zaj (p := fun (r : List Nat) => r.length = S.length) (fun _ => vdj) (fun _ => ih.2 _ _ _)
  rw[dS];have key : ∀(l : List Int) (v : Nat) (S : List Nat), (l.foldl (fun S c => gS f y tk m c v S) S).length = S.length := fun l v => by
   induction l with
   |nil =>intro S;rfl
   |cons c l ih2 =>intro S;rw[List.foldl_cons,ih2,ih.1]
  exact key _ _ _
theorem zzo : ∀(S : List Nat) (k v : Nat), k < S.length → (S.set k (S.getD k 0 + v)).sum = S.sum + v
  |[],k,v,h=>absurd h (oQ _)
  |a :: S,0,v,h=>by simp;omega
  |a :: S, k + 1, v, h => by
    have:=zzo S k v vc3
    simp only[List.set_cons_succ,List.getD_cons_succ,List.sum_cons]
    omega
theorem gS_sum{f : yc}(hf : zad f = true){y : Int}{tk : List Bool}(ht : TkOk f y tk) : ∀(m : Nat), (∀(q : Int) (u : Nat) (S : List Nat), S.length = f.people.length → (0 ≤ q ∧ q < f.people.length) → tk.getD q.toNat default = true → 2 * ((f.people.length : Int) - q).toNat < m → (∀r, Ch f y tk q r → r ∣ u) → (gS f y tk m q u S).sum = S.sum + u) ∧ (∀(l : List Int) (u : Nat) (S : List Nat), S.length = f.people.length → l ≠ [] → (∀c ∈ l, (0 ≤ c ∧ c < f.people.length) ∧ tk.getD c.toNat default = true) → lmu f.people.length l < m → (∀c ∈ l, ∀r, Ch f y tk c r → l.length * r ∣ u) → (dS f y tk m l u S).sum = S.sum + u) := by
 intro m;induction m with
 |zero =>exact⟨fun _ _ _ _ _ _ h=>absurd h (oQ _),fun _ _ _ _ _ _ h=>absurd h (oQ _)⟩
 |succ m ih =>
  refine⟨fun q u S hS hq hk hm hr=>?_,fun l u S hS hl hk hm hr=>?_⟩
  ·rw [gS];cases ha : zfb f q y with
   |true =>rw[oE];exact zzo S _ _ vdh
   |false =>
    rw[oD];have hne:=(ht.kid q hq.1 hk).resolve_left (by rw[ha];simp);refine ih.2 _ _ _ hS hne (fun c hc=>?_) ?_ (fun c hc r h=>hr _ (.cons ha hc h))
    ·have := zfu hf hq.1 hc; exact ⟨vdh, this.2.1⟩
    have h1:lmu f.people.length (kidsT f tk q)≤2 * ((f.people.length:Int) - q).toNat - 1:=lmu_le.2 fun c hc=>(by have:=(zfu hf hq.1 hc).1;omega);omega
  rw[dS];have h0:0<l.length:=List.length_pos_iff.2 hl;have hmu:=lmu_le.1 (Nat.le_of_lt_succ hm);have hd:l.length ∣ u:=by obtain⟨c,hc⟩:=List.exists_mem_of_ne_nil l hl;have:=hr c hc 1 (.nil c);rwa [Nat.mul_one] at this
  have hr2 : ∀c ∈ l, ∀r, Ch f y tk c r → r ∣ u / l.length := fun c hc r h => Nat.dvd_div_of_mul_dvd (hr c hc r h);have key : ∀(L : List Int), (∀c ∈ L, c ∈ l) → ∀S : List Nat, S.length = f.people.length → (L.foldl (fun S c => gS f y tk m c (u / l.length) S) S).sum = S.sum + L.length * (u / l.length) := fun L => by
   induction L with
   |nil =>intro _ S _;simp
   |cons c L ih2 =>intro hL S hS;have hc:=hL c vdj;rw[List.foldl_cons,ih2 (fun d hd=>hL d (by simp[hd])) _ (by rw[(zua f y tk m).1];exact hS),ih.1 c _ S hS (hk c hc).1 (hk c hc).2 (by have:=hmu c hc;omega) (hr2 c hc),ow,Nat.add_mul];omega
  rw[key l (fun _ h=>h) S hS,Nat.mul_div_cancel' hd]
theorem RepS.bd{D:Nat}{S:List Nat}{num den:List Int}(h:RepS D S num den){k:Nat}(hk:k<S.length):(0≤num.getD k default∧num.getD k default≤S.getD k 0)∧1≤den.getD k default∧den.getD k default≤D:=by rw[h.nm k hk,h.dn k hk];have hg:0<Nat.gcd (S.getD k 0) D:=Nat.gcd_pos_of_pos_right _ h.pos;have h1:=Nat.div_le_self (S.getD k 0) (Nat.gcd (S.getD k 0) D);have h2:=Nat.div_le_self D (Nat.gcd (S.getD k 0) D);have h3:0<D / Nat.gcd (S.getD k 0) D:=Nat.div_pos (Nat.le_of_dvd h.pos (Nat.gcd_dvd_right _ _)) hg;revert h1 h2 h3;generalize S.getD k 0 / Nat.gcd (S.getD k 0) D=a;generalize D / Nat.gcd (S.getD k 0) D=b;omega
theorem RepS.rng{D:Nat}{S:List Nat}{num den:List Int}(h:RepS D S num den){k u d:Nat}(hk:k<S.length)(hd:0<d)(hu:u * d=D)(hs:S.getD k 0+u≤D)(hb:d * D≤9223372036854775807):(0≤(num.getD k default) * (d:Int)∧(num.getD k default) * (d:Int)≤9223372036854775807)∧(0≤den.getD k default∧den.getD k default≤9223372036854775807)∧(0≤(num.getD k default) * (d:Int)+1 * (den.getD k default)∧(num.getD k default) * (d:Int)+1 * (den.getD k default)≤9223372036854775807)∧(0<(den.getD k default) * (d:Int)∧(den.getD k default) * (d:Int)≤9223372036854775807):=by have hg:0<Nat.gcd (S.getD k 0) D:=Nat.gcd_pos_of_pos_right _ h.pos;have h2:=Nat.div_le_self D (Nat.gcd (S.getD k 0) D);have h3:0<D / Nat.gcd (S.getD k 0) D:=Nat.div_pos (Nat.le_of_dvd h.pos (Nat.gcd_dvd_right _ _)) hg;have h4:=(z1m (S:=S.getD k 0) h.pos hd hu).2.2 hs;have h5:D / Nat.gcd (S.getD k 0) D * d≤d * D:=(by rw[Nat.mul_comm d D];exact oW _ h2);have h6:0<D / Nat.gcd (S.getD k 0) D * d:=Nat.mul_pos h3 hd;rw[h.nm k hk,h.dn k hk,Int.one_mul];revert h4 h5 h6 h3 h2;generalize D / Nat.gcd (S.getD k 0) D=a;generalize S.getD k 0 / Nat.gcd (S.getD k 0) D=b;intro h2 h3 h4 h5 h6;have h7:a≤a * d:=Nat.le_mul_of_pos_right a hd;rw[←Int.natCast_mul,←Int.natCast_mul];generalize a * d=e at *;generalize b * d=g at *;omega
def C44(x0:estate)(R:(List Bool)×(List Int)×(List Int)):LV×List (Nat×BC):=(.tup [],[(900000,.var [.ro false 6 x0.f.people.length (rowOf (zah false) x0.f.people),.ro false 4 x0.f.unions.length (rowOf (zas false) x0.f.unions),.int .i64 x0.p,.int .i64 x0.year,.own 0,.own 1,.own 2]),(0,.arr 1 R.1.length (rowOf (cBool) R.1)),(1,.arr 1 R.2.1.length (rowOf (cInt .i64) R.2.1)),(2,.arr 1 R.2.2.length (rowOf (cInt .i64) R.2.2))])
def zcv(x0:estate):(List Bool)×(List Int)×(List Int):=loopW (fun (v1:Int×(List Bool)) nx1=>bif(decide (0≤v1.1)) then(bif((decide (v1.1=x0.p))||(decide (x0.year<((x0.f.people.getD v1.1.toNat default).born)))) then(nx1 (v1.1 - 1,v1.2)) else(loopN (fun i2 (v2:(List Bool)) next=>next (v2.set v1.1.toNat ((v2.getD v1.1.toNat default)||(v2.getD (((zau x0.f v1.1).getD i2 default).toNat) default)))) (fun (v2:(List Bool))=>nx1 (v1.1 - 1,v2)) ((zau x0.f v1.1).length) 0 (v1.2.set v1.1.toNat (zb1 x0.f v1.1 x0.year)))) else(v1.2,x0.num,x0.den)) ((((x0.f.people.length:Nat):Int) - 1+1).toNat+1) (((x0.f.people.length:Nat):Int) - 1,(List.replicate x0.f.people.length (default:Bool)))
def D44b1(x0:estate)(v1:Int×(List Bool)):Dl:=⟨[(3,.int .i64 v1.1)],[(30004,.arr 1 x0.f.people.length (rowOf (cBool) v1.2)),(900000,.var [.ro false 6 x0.f.people.length (rowOf (zah false) x0.f.people),.ro false 4 x0.f.unions.length (rowOf (zas false) x0.f.unions),.int .i64 x0.p,.int .i64 x0.year,.own 30004,.own 900002,.own 900003])]⟩
def D44b2(x0:estate)(i2:Nat)(v2:(List Bool)):Dl:=⟨[(68,.int .i64 ((i2:Nat):Int))],[(40004,.arr 1 x0.f.people.length (rowOf (cBool) v2)),(900000,.var [.ro false 6 x0.f.people.length (rowOf (zah false) x0.f.people),.ro false 4 x0.f.unions.length (rowOf (zas false) x0.f.unions),.int .i64 x0.p,.int .i64 x0.year,.own 40004,.own 900002,.own 900003])]⟩
def A44b2(x0:estate)(v1:Int×(List Bool))(i2:Nat)(v2:(List Bool)):Ann:=let q3:=((i2:Nat):Int);let q2:=v2.getD v1.1.toNat default;let q6:=((x0.f.people.length:Nat):Int);let q1:=(zau x0.f v1.1).getD i2 default;let q4:=(((zau x0.f v1.1).length:Nat):Int);let q5:=q2||(v2.getD (q1.toNat) default);r0 1 [0,3,66,67,68,69] [1066,40004,900000,900001,900002,900003] (cn (decide (q3<q4)) (r1 1 [0,3,5,66,67,68] [1066,40004,900000,900001,900002,900003] [pf (0≤(q3:Int)∧(q3:Int)<q4)] [0] (.reg 1 [] [(22,stC 40004 (cBool) x0.f.people.length v2 v1.1.toNat q5)] [0,3,66,67,68] [1066,40004,900000,900001,900002,900003] [!q2,q2] [pf (0≤(v1.1:Int)∧(v1.1:Int)<q6),gt (!q2) (pf (0≤(q1:Int)∧(q1:Int)<q6))] [] [0,1,1,1,1,1,4,1,6,0,8] (r1 1 [0,3,66,67,68] [1066,40004,900000,900001,900002,900003] [pf (inR .i64 (q3+1))] [0] (.next 0 [(40004,some 40004)] (D44b2 x0 (i2+1) (v2.set v1.1.toNat q5)))))) (r1 1 [0,3] [40004,900000,900001,900002,900003] [pf (inR .i64 (v1.1 - 1))] [0] (.next 1 [(30004,some 40004)] (D44b1 x0 (v1.1 - 1,v2)))))
def A44b1(x0:estate)(v1:Int×(List Bool)):Ann:=let q2:=decide (v1.1=x0.p);let q3:=zb1 x0.f v1.1 x0.year;let q1:=(0≤(v1.1:Int)∧(v1.1:Int)<((x0.f.people.length:Nat):Int));r0 1 [0,3,20] [30004,900000,900001,900002,900003] (cn (decide (0≤v1.1)) (.reg 1 [] [] [0,3,44] [30004,900000,900001,900002,900003] [!q2,decide (v1.1=x0.p)] [gt (!q2) (pf q1)] [] [1,1,1,1,1,1,0,1,1,1,1,1,1,1,6] (cn (q2||(decide (x0.year<((x0.f.people.getD v1.1.toNat default).born)))) (r1 1 [0,3] [30004,900000,900001,900002,900003] [pf (inR .i64 (v1.1 - 1))] [0] (.next 0 [(30004,some 30004)] (D44b1 x0 (v1.1 - 1,v1.2)))) (.reg 2 [] [(14,k83 x0.f v1.1 x0.year),(16,stC 30004 (cBool) x0.f.people.length v1.2 v1.1.toNat q3),(1005,k46 x0.f v1.1)] [0,3,66,67,68] [1066,30004,900000,900001,900002,900003] [] [pf q1] [] [4,0,8,12] (lp (D44b2 x0) [] [30004] [(40004,some 30004)] (D44b2 x0 0 (v1.2.set v1.1.toNat q3)) (A44b2 x0 v1))))) (.co false 30004 v1.2.length (rowOf (cBool) v1.2) [lnP (rowOf (cBool) v1.2) x0.f.people.length v1.2.length] [] 0 (rt [(900000,some 900000),(0,some 30004),(1,some 900002),(2,some 900003)] (C44 x0 (v1.2,x0.num,x0.den)))))
def A44(x0:estate):Ann:=let q1:=((x0.f.people.length:Nat):Int);.reg 3 [] [(1002,msC 14 (cBool) 1 q1 q1 x0.f.people.length (default:Bool) (rfl))] [0,3] [14,900000,900001,900002,900003] [] [pf (inR .i64 (q1 - 1))] [] [4,0] (.loop (Int×(List Bool)) (D44b1 x0) [] [14] [(30004,some 14)] (D44b1 x0 (q1 - 1,(List.replicate x0.f.people.length (default:Bool)))) (A44b1 x0))
theorem zhj(x0 : estate)(hf : zad x0.f = true) : FnMT Tryz.prog 44 [.vp 900000 0] [.var [.ro false 6 x0.f.people.length (rowOf (zah false) x0.f.people), .ro false 4 x0.f.unions.length (rowOf (zas false) x0.f.unions), .int .i64 x0.p, .int .i64 x0.year, .own 900001, .own 900002, .own 900003], .arr 1 x0.takes.length (rowOf (cBool) x0.takes), .arr 1 x0.num.length (rowOf (cInt .i64) x0.num), .arr 1 x0.den.length (rowOf (cInt .i64) x0.den)] (C44 x0 (zcv x0)) := by
 have aux : ∀R, zcv x0 = R → slim (C44 x0 R) (A44 x0) [] := by
  intro R hR;refine rg ⟨vca,vca,trivial⟩ ?_;refine lW (fun v=>(-1≤v.1∧v.1<x0.f.people.length)∧v.2.length=x0.f.people.length) (fun v=>(v.1+1).toNat) (by(dsimp only;exact⟨vdh,vdj⟩)) (oH _) rfl (fun m1 v1 F1 hI1 hM1 hR hK1=>?_) hR;refine rT ?_;refine cd (fun hc1 hR=>?_) (fun hc1 hR=>?_) hR
  ·refine rg ⟨vbx, trivial⟩ ?_;refine cd (fun hc2 hR => ?_) (fun hc2 hR => ?_) hR
   ·refine rg ⟨by (have h9 := fam_n hf; (try simp only [inR]); omega), trivial⟩ ?_;exact hK1 (v1.1 - 1, v1.2) vbx vbx hR
   refine rg ⟨vbB,⟨vca,vbB⟩,vbB,by(with_reducible exact(fam_n hf).1),trivial⟩ ?_;refine lN (fun i v=>v.length=x0.f.people.length) (by(simp only[Ob];first|exact hI1.2|exact hI2)) rfl (fun i2 v2 F2 hn2 hI2 hR hK2=>?_) hR;refine rT ?_;refine⟨fun hc3=>?_,fun hc3=>?_⟩
   ·have hii2 : i2 < (zau x0.f v1.1).length := vcJ;replace hR := zai hR hii2;refine rg ⟨vc4, trivial⟩ ?_;refine rg ⟨vbx, by (have h9 := fam_n hf; have h8 := hI1.1; simp only [ob] at hc1; have h7 := (zcn x0.f v1.1 h9.1).1 _ (zbf (d := (default : Int)) hii2); intros; omega), vbx, trivial⟩ ?_;refine rg ⟨by (have h9 := zcn x0.f v1.1 (fam_n hf).1; have h8 := (fam_n hf).1; simp only [inR]; omega), trivial⟩ ?_;exact hK2 (v2.set v1.1.toNat ((v2.getD v1.1.toNat default) || (v2.getD (((zau x0.f v1.1).getD i2 default).toNat) default))) hii2 (by (simp only [Ob]; first | exact hI1.2 | exact hI2)) hR
   obtain rfl:i2=(zau x0.f v1.1).length:=(by have:=oB hc3;omega);replace hR:=zaq hR (oR _);refine rg ⟨vca,trivial⟩ ?_;exact hK1 (v1.1 - 1,v2) vbB vbB hR
  refine og vc6 ?_;exact oe (C44 x0) hR
 exact FnM.go 95 Tryz.func44 zaa zaa (A44 x0) zaa (aux _ rfl)
def k44(d:Nat)(ids:List Nat)(x0:estate):Cl:=(hresM d ids (C44 x0 (zcv x0)),k1 (zhj x0))
structure TkEq(f : yc)(p y : Int)(tk : List Bool) : Prop where
  len:tk.length=f.people.length
  eq:∀q:Nat,q<f.people.length→tk.getD q default=(!(decide ((q:Int)=p)||decide (y<(f.people.getD q default).born))&&(zfb f (q:Int) y||(zap f (q:Int)).any fun c=>tk.getD c.toNat default))
theorem zux(x : estate)(hf : zad x.f = true) : TkEq x.f x.p x.year (zcv x).1 ∧ (zcv x).2 = (x.num, x.den) := by
 have hn:=(fam_n hf).1;unfold zcv;refine za8 (fun (v:Int×(List Bool))=>(-1≤v.1∧v.1<x.f.people.length)∧v.2.length=x.f.people.length∧(∀q:Nat,(q:Int)≤v.1→v.2.getD q default=false)∧∀q:Nat,v.1<(q:Int)→q<x.f.people.length→v.2.getD q default=(!(decide ((q:Int)=x.p)||decide (x.year<(x.f.people.getD q default).born))&&(zfb x.f (q:Int) x.year||(zap x.f (q:Int)).any fun c=>v.2.getD c.toNat default))) (fun v=>(v.1+1).toNat) (fun (r:(List Bool)×(List Int)×(List Int))=>TkEq x.f x.p x.year r.1∧r.2=(x.num,x.den)) (fun v next hv hnx=>?_) _ _ (oH _) ⟨vcT,vdj,fun q _=>by rw[zd2];split<;>rfl,fun q h1 h2=>absurd h1 vcT⟩;obtain⟨h1,h2,h3,h4⟩:=hv;refine zaj (p:=fun (r:(List Bool)×(List Int)×(List Int))=>TkEq x.f x.p x.year r.1∧r.2=(x.num,x.den)) (fun hc=>?_) (fun hc=>?_)
 ·have hc := om hc;refine zaj (p := fun (r : (List Bool) × (List Int) × (List Int)) => TkEq x.f x.p x.year r.1 ∧ r.2 = (x.num, x.den)) (fun hd => ?_) (fun hd => ?_)
  ·refine hnx _ ⟨vcQ, h2, fun q hq => h3 q (by dsimp only at hq; omega), fun q g1 g2 => ?_⟩ vcQ;dsimp only at g1 ⊢;by_cases e : (q : Int) = v.1
   ·rw [h3 q vdh];rw [← e, Int.toNat_natCast] at hd;rw [hd]; rfl
   exact h4 q vdh g2
  rw[zh6 x.f v.1 hn];refine za3 (fun i (w:List Bool)=>w=v.2.set v.1.toNat (zfb x.f v.1 x.year||((zap x.f v.1).take i).any fun c=>v.2.getD c.toNat default)) (fun (r:(List Bool)×(List Int)×(List Int))=>TkEq x.f x.p x.year r.1∧r.2=(x.num,x.den)) (by simp;rfl) (fun i w next2 hi hw hn2=>?_) (fun w hw=>?_)
  ·have hk := zt0 hf hc (zbf (d := (default : Int)) hi);refine hn2 _ ?_;subst hw;rw [List.set_set, zbc, if_pos ⟨rfl, vdh⟩, zbc, if_neg (fun h => vdh), zd7 _ default hi, List.any_append, Bool.or_assoc];simp
  rw[List.take_length] at hw;have key:∀c∈zap x.f v.1,w.getD c.toNat default=v.2.getD c.toNat default:=fun c hc2=>by have hk:=zt0 hf hc hc2;rw[hw,zbc,if_neg (fun h=>vdh)]
  refine hnx _ ⟨vcT,by rw[hw];simp[h2],fun q hq=>?_,fun q g1 g2=>?_⟩ vcT
  ·dsimp only at hq ⊢;rw [hw, zbc, if_neg (fun h => vdh)]; exact h3 q vdh
  dsimp only at g1 ⊢;by_cases e:(q:Int)=v.1
  ·have e2 : w.getD q default = (zfb x.f v.1 x.year || (zap x.f v.1).any fun c => v.2.getD c.toNat default) := (by rw [hw, zbc, if_pos ⟨vdh, vdh⟩]);rw [← e, Int.toNat_natCast] at hd;rw [e2, hd, e, Bool.not_false, Bool.true_and];congr 1;rw [Bool.eq_iff_iff, List.any_eq_true, List.any_eq_true];constructor
   ·rintro ⟨c, k1, k2⟩; exact ⟨c, k1, by rw [key c k1]; exact k2⟩
   rintro⟨c,k1,k2⟩;exact⟨c,k1,by rw[key c k1] at k2;exact k2⟩
  have e2:w.getD q default=v.2.getD q default:=by rw[hw,zbc,if_neg (fun h=>vdh)]
  rw[e2,h4 q vdh g2];congr 2;rw[Bool.eq_iff_iff,List.any_eq_true,List.any_eq_true];have hk:∀c∈zap x.f (q:Int),w.getD c.toNat default=v.2.getD c.toNat default:=fun c hc2=>by have hk:=zt0 hf (p:=(q:Int)) vdh hc2;rw[hw,zbc,if_neg (fun h=>vdh)]
  constructor
  ·rintro ⟨c, k1, k2⟩; exact ⟨c, k1, by rw [hk c k1]; exact k2⟩
  rintro⟨c,k1,k2⟩;exact⟨c,k1,by rw[hk c k1] at k2;exact k2⟩
 have hc:=oB hc;exact⟨⟨h2,fun q hq=>h4 q vdh hq⟩,rfl⟩
theorem z3u{f : yc}{tk : List Bool}{q : Int} : ((zap f q).any fun c => tk.getD c.toNat default) = true ↔ kidsT f tk q ≠ [] := by
 unfold kidsT;rw[List.any_eq_true];constructor
 ·rintro ⟨c, h1, h2⟩ e;have : c ∈ (zap f q).filter fun c => tk.getD c.toNat default := o9.2 ⟨h1, h2⟩;rw [e] at this; cases this
 intro h;obtain⟨c,hc⟩:=List.exists_mem_of_ne_nil _ h;exact⟨c,(o9.1 hc).1,(o9.1 hc).2⟩
theorem TkEq.ok{f : yc}{p y : Int}{tk : List Bool}(h : TkEq f p y tk) : TkOk f y tk := ⟨h.len, fun q h0 hq => by
  have hl : q.toNat < f.people.length := by
    rcases o0 q.toNat f.people.length with c | c
    · exact c
    · rw [oi,o7 (by rw [h.len];exact c)] at hq;cases hq
  have h2:=h.eq q.toNat hl
  rw[hq,show((q.toNat:Nat):Int)=q by omega] at h2
  have h3:=(oc _ _ ▸ h2.symm:_=true∧_=true).2
  rw[oj,z3u] at h3
  exact h3⟩
theorem TkEq.self{f:yc}{p y:Int}{tk:List Bool}(h:TkEq f p y tk)(hp:0≤p∧p<f.people.length):tk.getD p.toNat default=false:=by rw[h.eq p.toNat vdh,show((p.toNat:Nat):Int)=p by omega,oM rfl];rfl
end Go.Proofs.YtnibbmmljamolaaGreat
