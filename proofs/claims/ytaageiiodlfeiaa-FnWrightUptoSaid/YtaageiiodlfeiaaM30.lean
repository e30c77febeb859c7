import Derived.Test.YtaageiiodlfeiaaM9
set_option maxHeartbeats 4000000
set_option linter.unusedSimpArgs false
set_option linter.unusedVariables false
namespace Go.Proofs.Ytaageiiodlfeiaa
open Go Go.Lite Go.Proofs
structure Dyad where
 num:Int
 exp:Int
 deriving Inhabited
def cDyad (fr:Bool) (x:Dyad):List LV:=cInt .i64 x.num++cInt .i64 x.exp

def C58 (R:Dyad):LV×List (Nat×BC):=(.agg [.int .i64 R.num,.int .i64 R.exp],[])
def zcd (x0:Int) (x1:Int):Dyad:=loopW (fun (v1:Int×Int) next=>bif ((decide (0<v1.2))&&(decide ((v1.1.tmod 2)=0))) then (next (v1.1.tdiv 2,v1.2 - 1)) else (Dyad.mk v1.1 v1.2)) (x1.toNat+1) (x0,x1)
def D58b1 (x0:Int) (x1:Int) (v1:Int×Int):Dl:=⟨[(0,.int .i64 v1.1),(1,.int .i64 v1.2)],[]⟩
def A58b1 (x0:Int) (x1:Int) (v1:Int×Int):Ann:=.reg 1 [] [] [0,1,4,11] [4] [decide (0<v1.2)] [gt (decide (0<v1.2)) (pf ((2:Int)≠0))] [] [1,0,1,1] (cn ((decide (0<v1.2))&&(decide ((v1.1.tmod 2)=0))) (r1 1 [0,1,4] [4] [pf ((2:Int)≠0),pf (inR .i64 (v1.1.tdiv 2))] [0,4] (r1 1 [0,1,4] [4] [pf (inR .i64 (v1.2 - 1))] [0] (.next 0 [] (D58b1 x0 x1 (v1.1.tdiv 2,v1.2 - 1))))) (r0 1 [4] [4] (rt [] (C58 (Dyad.mk v1.1 v1.2)))))
def A58 (x0:Int) (x1:Int):Ann:=r0 1 [0,1,4] [4] (.loop (Int×Int) (D58b1 x0 x1) [] [] [] (D58b1 x0 x1 (x0,x1)) (A58b1 x0 x1))
theorem zln (x0:Int) (x1:Int) (hn:0≤x0∧x0≤4398046511104) (he:0≤x1∧x1≤100):FnT Try.prog 58 [.int .i64 x0,.int .i64 x1] (C58 (zcd x0 x1)):=by
 have aux:∀ R,zcd x0 x1=R→slim (C58 R) (A58 x0 x1) []:=by
  intro R hR
  refine rg trivial ?_
  revert hR;refine lW (fun v=>(0≤v.1∧v.1≤4398046511104)∧0≤v.2∧v.2≤100) (fun v=>v.2.toNat) zay (Nat.lt_succ_self _) rfl fun m1 v1 F1 hI1 hM1 hR hK1=>?_
  refine rg ⟨by (intros;omega),trivial⟩ ?_
  revert hR;refine cd (fun hc1 hR=>?_) fun hc1 hR=>?_
  ·
    refine rg ⟨by trivial,by ((try clear hR hK1);intros;(try simp only [decide_eq_true_eq,decide_eq_false_iff_not,Bool.or_eq_true,Bool.and_eq_true,zbr,zbo,zbq,Bool.not_eq_true',inR] at *);(repeat' apply And.intro)<;>(have e:=Int.tdiv_eq_ediv_of_nonneg (a:=v1.1) (b:=2) om;omega)),trivial⟩ ?_
    refine rg ⟨by ( intros;simp only [inR];omega),trivial⟩ ?_
    exact hK1 (v1.1.tdiv 2,v1.2 - 1) (by ((try clear hR hK1);intros;(try simp only [decide_eq_true_eq,decide_eq_false_iff_not,Bool.or_eq_true,Bool.and_eq_true,zbr,zbo,zbq,Bool.not_eq_true',inR] at *);(repeat' apply And.intro)<;>(first | (intros;omega) | (have e:=Int.tdiv_eq_ediv_of_nonneg (a:=v1.1) (b:=2) om;omega)))) zal hR
  ·
    refine rg trivial ?_
    exact congrArg C58 hR
 exact Fn.go 19 Try.func58 zax zax (by simp [C58,Frs,FrsL]) (A58 x0 x1) zax (aux _ rfl)
def k58 (x0:Int) (x1:Int):Cl:=(hres (C58 (zcd x0 x1)),k2 (zln x0 x1))
def Dy (d:Dyad):Prop:=0≤d.num∧(0≤d.exp∧d.exp≤40)∧d.num * 2 ^ (40 - d.exp).toNat≤2199023255552
theorem zfj (k:Nat):(0:Int)<2 ^ k:=Int.pow_pos om
theorem Dy.le {d:Dyad} (h:Dy d):0≤d.num∧d.num≤2199023255552:=by
 refine ⟨h.1,Int.le_trans ?_ h.2.2⟩
 have h1:=Int.mul_le_mul_of_nonneg_left (show (1:Int)≤2 ^ (40 - d.exp).toNat from by have:=zfj (40 - d.exp).toNat;omega) h.1
 rwa [Int.mul_one] at h1
theorem Dy.dbl {n e:Int} (h:Dy ⟨n,e⟩) (he:e<40):Dy ⟨2 * n,e+1⟩:=by
 obtain ⟨h1,h2,h3⟩:=h
 refine ⟨by simp only at *;omega,by simp only at *;omega,?_⟩
 simp only at *
 have e1:(40 - e).toNat=(40 - (e+1)).toNat+1:=by omega
 rw [e1,Int.pow_succ] at h3
 rw [show 2 * n * 2 ^ (40 - (e+1)).toNat=n * (2 ^ (40 - (e+1)).toNat * 2) by rw [Int.mul_comm 2 n,Int.mul_assoc,Int.mul_comm 2]]
 exact h3
def C106 (R:Bool):LV×List (Nat×BC):=(.bool R,[])
def zh2 (x0:Dyad):Bool:=((((decide (0≤x0.num))&&(decide (x0.num≤1073741824)))&&(decide (0≤x0.exp)))&&(decide (x0.exp≤30)))&&((decide (x0.exp=0))||(decide ((x0.num.tmod 2)=1)))
def A106 (x0:Dyad):Ann:=.reg 2 [] [] [2] [] [decide (0≤x0.num),(decide (0≤x0.num))&&(decide (x0.num≤1073741824)),((decide (0≤x0.num))&&(decide (x0.num≤1073741824)))&&(decide (0≤x0.exp)),(((decide (0≤x0.num))&&(decide (x0.num≤1073741824)))&&(decide (0≤x0.exp)))&&(decide (x0.exp≤30)),((((decide (0≤x0.num))&&(decide (x0.num≤1073741824)))&&(decide (0≤x0.exp)))&&(decide (x0.exp≤30)))&&(!(decide (x0.exp=0)))] [gt (((((decide (0≤x0.num))&&(decide (x0.num≤1073741824)))&&(decide (0≤x0.exp)))&&(decide (x0.exp≤30)))&&(!(decide (x0.exp=0)))) (pf ((2:Int)≠0)),gt ((((decide (0≤x0.num))&&(decide (x0.num≤1073741824)))&&(decide (0≤x0.exp)))&&(decide (x0.exp≤30))) (gf (decide (x0.exp=0)) (pf ((((((decide (0≤x0.num))&&(decide (x0.num≤1073741824)))&&(decide (0≤x0.exp)))&&(decide (x0.exp≤30)))&&(!(decide (x0.exp=0))))=true)))] [] [1,1,1,5,5,5,9,9,9,13,13,13,17,17,0,17,13,4,13] (rt [] (C106 (((((decide (0≤x0.num))&&(decide (x0.num≤1073741824)))&&(decide (0≤x0.exp)))&&(decide (x0.exp≤30)))&&((decide (x0.exp=0))||(decide ((x0.num.tmod 2)=1))))))
theorem zoa (x0:Dyad):FnT Try.prog 106 [.agg (cDyad false x0)] (C106 (zh2 x0)):=by
 have aux:∀ R,zh2 x0=R→slim (C106 R) (A106 x0) []:=by
  intro R hR
  refine rg ⟨by (intros;omega),by ((try clear hR);intros;(try simp only [decide_eq_true_eq,decide_eq_false_iff_not,Bool.or_eq_true,Bool.and_eq_true,zbr,zbo,zbq,Bool.not_eq_true',inR] at *);(repeat' apply And.intro)<;>(intros;omega)),trivial⟩ ?_
  exact congrArg C106 hR
 exact Fn.go 32 Try.func106 zax zax (by simp [C106,Frs,FrsL]) (A106 x0) zax (aux _ rfl)
def k106 (x0:Dyad):Cl:=(hres (C106 (zh2 x0)),k0 (zoa x0))
def C51 (R:Dyad×Bool):LV×List (Nat×BC):=(.tup [.agg [.int .i64 R.1.num,.int .i64 R.1.exp],.bool R.2],[])
def zh3 (x0:Int) (x1:Int):Dyad×Bool:=loopW (fun (v1:Int×Int) next=>bif ((decide (0<v1.2))&&(decide ((v1.1.tmod 2)=0))) then (next (v1.1.tdiv 2,v1.2 - 1)) else ((Dyad.mk v1.1 v1.2),zh2 (Dyad.mk v1.1 v1.2))) (x1.toNat+1) (x0,x1)
def D51b1 (x0:Int) (x1:Int) (v1:Int×Int):Dl:=⟨[(0,.int .i64 v1.1),(1,.int .i64 v1.2)],[]⟩
def A51b1 (x0:Int) (x1:Int) (v1:Int×Int):Ann:=.reg 1 [] [] [0,1,4,5,13] [4] [decide (0<v1.2)] [gt (decide (0<v1.2)) (pf ((2:Int)≠0))] [] [1,0,1,1] (cn ((decide (0<v1.2))&&(decide ((v1.1.tmod 2)=0))) (r1 1 [0,1,4,5] [4] [pf ((2:Int)≠0),pf (inR .i64 (v1.1.tdiv 2))] [0,4] (r1 1 [0,1,4,5] [4] [pf (inR .i64 (v1.2 - 1))] [0] (.next 0 [] (D51b1 x0 x1 (v1.1.tdiv 2,v1.2 - 1))))) (.reg 2 [] [(1002,k106 (Dyad.mk v1.1 v1.2))] [4,5] [4] [] [] [] [0] (rt [] (C51 ((Dyad.mk v1.1 v1.2),zh2 (Dyad.mk v1.1 v1.2))))))
def A51 (x0:Int) (x1:Int):Ann:=r0 1 [0,1,4,5] [4] (.loop (Int×Int) (D51b1 x0 x1) [] [] [] (D51b1 x0 x1 (x0,x1)) (A51b1 x0 x1))
theorem zoc (x0:Int) (x1:Int) (hn:0≤x0∧x0≤4611686018427387904) (he:0≤x1∧x1≤100):FnT Try.prog 51 [.int .i64 x0,.int .i64 x1] (C51 (zh3 x0 x1)):=by
 have aux:∀ R,zh3 x0 x1=R→slim (C51 R) (A51 x0 x1) []:=by
  intro R hR
  refine rg trivial ?_
  revert hR;refine lW (fun v=>(0≤v.1∧v.1≤4611686018427387904)∧0≤v.2∧v.2≤100) (fun v=>v.2.toNat) zay (Nat.lt_succ_self _) rfl fun m1 v1 F1 hI1 hM1 hR hK1=>?_
  refine rg ⟨by (intros;omega),trivial⟩ ?_
  revert hR;refine cd (fun hc1 hR=>?_) fun hc1 hR=>?_
  ·
    refine rg ⟨by trivial,by ((try clear hR hK1);intros;(try simp only [decide_eq_true_eq,decide_eq_false_iff_not,Bool.or_eq_true,Bool.and_eq_true,zbr,zbo,zbq,Bool.not_eq_true',inR] at *);(repeat' apply And.intro)<;>(have e:=Int.tdiv_eq_ediv_of_nonneg (a:=v1.1) (b:=2) om;omega)),trivial⟩ ?_
    refine rg ⟨by ( intros;simp only [inR];omega),trivial⟩ ?_
    exact hK1 (v1.1.tdiv 2,v1.2 - 1) (by ((try clear hR hK1);intros;(try simp only [decide_eq_true_eq,decide_eq_false_iff_not,Bool.or_eq_true,Bool.and_eq_true,zbr,zbo,zbq,Bool.not_eq_true',inR] at *);(repeat' apply And.intro)<;>(first | (intros;omega) | (have e:=Int.tdiv_eq_ediv_of_nonneg (a:=v1.1) (b:=2) om;omega)))) zal hR
  ·
    refine rg ⟨trivial,trivial⟩ ?_
    exact congrArg C51 hR
 exact Fn.go 24 Try.func51 zax zax (by simp [C51,Frs,FrsL]) (A51 x0 x1) zax (aux _ rfl)
def k51 (x0:Int) (x1:Int):Cl:=(hres (C51 (zh3 x0 x1)),k2 (zoc x0 x1))
def C55 (R:Dyad):LV×List (Nat×BC):=(.agg [.int .i64 R.num,.int .i64 R.exp],[])
def l8Add (x0:Dyad) (x1:Dyad):Dyad:=loopW (fun (v1:Int×Int) next=>bif (decide (v1.2<x1.exp)) then (next (2 * v1.1,v1.2+1)) else (loopW (fun (v2:Int×Int) next=>bif (decide (v2.2<v1.2)) then (next (2 * v2.1,v2.2+1)) else (zcd (v1.1+v2.1) v1.2)) ((v1.2 - x1.exp).toNat+1) (x1.num,x1.exp))) ((x1.exp - x0.exp).toNat+1) (x0.num,x0.exp)
def D55b1 (x0:Dyad) (x1:Dyad) (v1:Int×Int):Dl:=⟨[],[(2,.var [.int .i64 v1.1,.int .i64 v1.2])]⟩
def D55b2 (x0:Dyad) (x1:Dyad) (v1:Int×Int) (v2:Int×Int):Dl:=⟨[],[(3,.var [.int .i64 v2.1,.int .i64 v2.2])]⟩
def A55b2 (x0:Dyad) (x1:Dyad) (v1:Int×Int) (v2:Int×Int):Ann:=r0 1 [2,3,4,21] [2,3,4] (cn (decide (v2.2<v1.2)) (r1 1 [2,3,4] [2,3,4] [pf (inR .i64 (2 * v2.1)),pf (inR .i64 (v2.2+1))] [0,4] (.next 0 [] (D55b2 x0 x1 v1 (2 * v2.1,v2.2+1)))) (.reg 1 [] [(7,k58 (v1.1+v2.1) v1.2)] [4] [4] [] [pf (inR .i64 (v1.1+v2.1))] [] [0,4] (rt [] (C55 (zcd (v1.1+v2.1) v1.2)))))
def A55b1 (x0:Dyad) (x1:Dyad) (v1:Int×Int):Ann:=r0 1 [2,3,4,9] [2,3,4] (cn (decide (v1.2<x1.exp)) (r1 1 [2,3,4] [2,3,4] [pf (inR .i64 (2 * v1.1)),pf (inR .i64 (v1.2+1))] [0,4] (.next 0 [] (D55b1 x0 x1 (2 * v1.1,v1.2+1)))) (.loop (Int×Int) (D55b2 x0 x1 v1) [9] [] [] (D55b2 x0 x1 v1 (x1.num,x1.exp)) (A55b2 x0 x1 v1)))
def A55 (x0:Dyad) (x1:Dyad):Ann:=r0 1 [2,3,4] [2,3,4] (.loop (Int×Int) (D55b1 x0 x1) [] [] [] (D55b1 x0 x1 (x0.num,x0.exp)) (A55b1 x0 x1))
theorem zpw (x0:Dyad) (x1:Dyad) (hd:Dy x0) (hd2:Dy x1):FnT Try.prog 55 [.agg (cDyad false x0),.agg (cDyad false x1)] (C55 (l8Add x0 x1)):=by
 have aux:∀ R,l8Add x0 x1=R→slim (C55 R) (A55 x0 x1) []:=by
  intro R hR
  refine rg trivial ?_
  revert hR;refine lW (fun v=>Dy ⟨v.1,v.2⟩) (fun v=>(x1.exp - v.2).toNat) zay (Nat.lt_succ_self _) rfl fun m1 v1 F1 hI1 hM1 hR hK1=>?_
  refine rg trivial ?_
  revert hR;refine cd (fun hc1 hR=>?_) fun hc1 hR=>?_
  ·
    refine rg ⟨by ((try clear hR hK1);intros;(try simp only [decide_eq_true_eq,decide_eq_false_iff_not,Bool.or_eq_true,Bool.and_eq_true,zbr,zbo,zbq,Bool.not_eq_true',inR] at *);(repeat' apply And.intro)<;>(have h8:=Dy.le hI1;have h7:=hI1.2.1;have h6:=hd2.2.1;simp only at *;omega)),by ((try clear hR hK1);intros;(try simp only [decide_eq_true_eq,decide_eq_false_iff_not,Bool.or_eq_true,Bool.and_eq_true,zbr,zbo,zbq,Bool.not_eq_true',inR] at *);(repeat' apply And.intro)<;>(have h8:=Dy.le hI1;have h7:=hI1.2.1;have h6:=hd2.2.1;simp only at *;omega)),trivial⟩ ?_
    exact hK1 (2 * v1.1,v1.2+1) (by (have h6:=hd2.2.1;have h5:=of_decide_eq_true hc1;exact Dy.dbl hI1 om)) zal hR
  ·
    revert hR;refine lW (fun v=>Dy ⟨v.1,v.2⟩) (fun v=>(v1.2 - v.2).toNat) zay (Nat.lt_succ_self _) rfl fun m2 v2 F2 hI2 hM2 hR hK2=>?_
    refine rg trivial ?_
    revert hR;refine cd (fun hc2 hR=>?_) fun hc2 hR=>?_
    ·
      refine rg ⟨by ((try clear hR hK1 hK2);intros;(try simp only [decide_eq_true_eq,decide_eq_false_iff_not,Bool.or_eq_true,Bool.and_eq_true,zbr,zbo,zbq,Bool.not_eq_true',inR] at *);(repeat' apply And.intro)<;>(have h8:=Dy.le hI2;have h7:=hI2.2.1;have h9:=Dy.le hI1;have h6:=hI1.2.1;simp only at *;omega)),by ((try clear hR hK1 hK2);intros;(try simp only [decide_eq_true_eq,decide_eq_false_iff_not,Bool.or_eq_true,Bool.and_eq_true,zbr,zbo,zbq,Bool.not_eq_true',inR] at *);(repeat' apply And.intro)<;>(first | (have h8:=Dy.le hI1;have h7:=hI1.2.1;have h6:=hd2.2.1;simp only at *;omega) | (have h8:=Dy.le hI2;have h7:=hI2.2.1;have h9:=Dy.le hI1;have h6:=hI1.2.1;simp only at *;omega))),trivial⟩ ?_
      exact hK2 (2 * v2.1,v2.2+1) (by (have h6:=hI1.2.1;have h5:=of_decide_eq_true hc2;simp only at *;exact Dy.dbl hI2 om)) (by ((try clear hR hK1 hK2);intros;(try simp only [decide_eq_true_eq,decide_eq_false_iff_not,Bool.or_eq_true,Bool.and_eq_true,zbr,zbo,zbq,Bool.not_eq_true',inR] at *);(repeat' apply And.intro)<;>(intros;omega))) hR
    ·
      refine rg ⟨by ((try clear hR hK1 hK2);intros;(try simp only [decide_eq_true_eq,decide_eq_false_iff_not,Bool.or_eq_true,Bool.and_eq_true,zbr,zbo,zbq,Bool.not_eq_true',inR] at *);(repeat' apply And.intro)<;>(have h8:=Dy.le hI2;have h7:=hI2.2.1;have h9:=Dy.le hI1;have h6:=hI1.2.1;simp only at *;omega)),⟨by (have h8:=Dy.le hI2;have h7:=hI2.2.1;have h9:=Dy.le hI1;have h6:=hI1.2.1;simp only at *;omega),by (have h8:=Dy.le hI1;have h7:=hI1.2.1;have h6:=hd2.2.1;simp only at *;omega)⟩,trivial⟩ ?_
      exact congrArg C55 hR
 exact Fn.go 37 Try.func55 zax zax (by simp [C55,Frs,FrsL]) (A55 x0 x1) zax (aux _ rfl)
def k55 (x0:Dyad) (x1:Dyad):Cl:=(hres (C55 (l8Add x0 x1)),k2 (zpw x0 x1))
def C59 (R:Dyad):LV×List (Nat×BC):=(.agg [.int .i64 R.num,.int .i64 R.exp],[])
def zf3 (x0:Int):Dyad:=((zh3 x0 40).1)
def A59 (x0:Int):Ann:=.reg 3 [] [(1001,k51 x0 40)] [2] [2] [] [] [] [0] (rt [] (C59 ((zh3 x0 40).1)))
theorem zkv (x0:Int) (hn:0≤x0∧x0≤4398046511104):FnT Try.prog 59 [.int .i64 x0] (C59 (zf3 x0)):=by
 have aux:∀ R,zf3 x0=R→slim (C59 R) (A59 x0) []:=by
  intro R hR
  refine rg ⟨⟨by (intros;omega),by trivial⟩,trivial⟩ ?_
  exact congrArg C59 hR
 exact Fn.go 11 Try.func59 zax zax (by simp [C59,Frs,FrsL]) (A59 x0) zax (aux _ rfl)
def k59 (x0:Int):Cl:=(hres (C59 (zf3 x0)),k1 (zkv x0))
def red : Int → Nat → Dyad
  | n,0=>⟨n,0⟩
  | n,e+1=>bif decide (n % 2=0) then red (n / 2) e else ⟨n,(e+1:Nat)⟩
theorem zq5 : ∀ (e : Nat) (n : Int) (m : Nat), 0 ≤ n → e < m → loopW (fun (v1 : Int × Int) next => bif ((decide (0 < v1.2)) && (decide ((v1.1.tmod 2) = 0))) then (next (v1.1.tdiv 2, v1.2 - 1)) else (Dyad.mk v1.1 v1.2)) m (n, (e : Int)) = red n e
  | 0,n,m+1,_,_=>rfl
  | e+1,n,m+1,hn,hm=>by
    simp only [loopW,red]
    rw [decide_eq_true (show (0:Int)<((e+1:Nat):Int) by omega),Bool.true_and,Int.tmod_eq_emod_of_nonneg hn,Int.tdiv_eq_ediv_of_nonneg hn]
    cases decide (n % 2=0)
    · rfl
    · simp only [cond_true]
      rw [show ((e+1:Nat):Int) - 1=(e:Int) by omega]
      exact zq5 e (n / 2) m om om
theorem zjs {n:Int} (hn:0≤n) (e:Nat):zcd n e=red n e:=by
 unfold zcd
 exact zq5 e n _ hn om
theorem zo8 : ∀ (e : Nat) (n : Int) (m : Nat), 0 ≤ n → e < m → (loopW (fun (v1 : Int × Int) next => bif ((decide (0 < v1.2)) && (decide ((v1.1.tmod 2) = 0))) then (next (v1.1.tdiv 2, v1.2 - 1)) else ((Dyad.mk v1.1 v1.2), zh2 (Dyad.mk v1.1 v1.2))) m (n, (e : Int))).1 = red n e
  | 0,n,m+1,_,_=>rfl
  | e+1,n,m+1,hn,hm=>by
    simp only [loopW,red]
    rw [decide_eq_true (show (0:Int)<((e+1:Nat):Int) by omega),Bool.true_and,Int.tmod_eq_emod_of_nonneg hn,Int.tdiv_eq_ediv_of_nonneg hn]
    cases decide (n % 2=0)
    · rfl
    · simp only [cond_true]
      rw [show ((e+1:Nat):Int) - 1=(e:Int) by omega]
      exact zo8 e (n / 2) m om om
def dy (n:Int):Dyad:=red n 40
theorem zqs {n:Int} (hn:0≤n):zf3 n=dy n:=by
 unfold zf3 zh3
 exact zo8 40 n _ hn (by decide)
theorem z1d (n:Int) (e:Nat):red (2 * n) (e+1)=red n e:=by
 simp only [red]
 rw [decide_eq_true (show 2 * n % 2=0 by omega),cond_true,show 2 * n / 2=n by omega]
theorem zks (n : Int) (e : Nat) : ∀ k : Nat, red (n * 2 ^ k) (e + k) = red n e
  | 0=>by simp
  | k+1=>by
    rw [show n * 2 ^ (k+1)=2 * (n * 2 ^ k) by rw [Int.pow_succ,← Int.mul_assoc,Int.mul_comm 2],show e+(k+1)=(e+k)+1 from rfl,z1d]
    exact zks n e k
theorem zjl : ∀ (e : Nat) (n : Int), 0 ≤ n → ∃ j k : Nat, (red n e).exp = j ∧ j + k = e ∧ (red n e).num * 2 ^ k = n ∧ 0 ≤ (red n e).num ∧ (j = 0 ∨ (red n e).num % 2 = 1)
  | 0,n,hn=>⟨0,0,rfl,rfl,by simp [red],hn,.inl rfl⟩
  | e+1,n,hn=>by
    by_cases c:n % 2=0
    · simp only [red,decide_eq_true c,cond_true]
      obtain ⟨j,k,h1,h2,h3,h4,h5⟩:=zjl e (n / 2) om
      refine ⟨j,k+1,h1,om,?_,h4,h5⟩
      rw [Int.pow_succ,← Int.mul_assoc,h3];omega
    · simp only [red,decide_eq_false c,cond_false]
      exact ⟨e+1,0,rfl,rfl,by simp,hn,.inr (by first | omega | (simp only;omega))⟩
theorem dy_Dy {n:Int} (h:0≤n∧n≤2199023255552):Dy (dy n):=by
 obtain ⟨j,k,h1,h2,h3,h4,h5⟩:=zjl 40 n h.1
 refine ⟨h4,by unfold dy;omega,?_⟩
 unfold dy
 rw [show (40 - (red n 40).exp).toNat=k by omega,h3];exact h.2
theorem z1u {n:Int} (hn:0≤n) (h2:n % 2=0):zcd (dy n).num ((dy n).exp+1)=dy (n / 2):=by
 obtain ⟨j,k,h1,h2',h3,h4,h5⟩:=zjl 40 n hn
 unfold dy
 rw [h1,show (j:Int)+1=((j+1:Nat):Int) by omega,zjs h4]
 cases k with
 | zero=>simp at h3;omega
 | succ k =>
  rw [← zks _ _ k,show j+1+k=40 by omega]
  congr 1
  rw [Int.pow_succ,← Int.mul_assoc] at h3
  omega
theorem raise (K : Int × Int → Dyad) (j : Int) : ∀ (k : Nat) (a i : Int) (m : Nat), k < m → (j - i).toNat = k → loopW (fun (v : Int × Int) next => bif (decide (v.2 < j)) then (next (2 * v.1, v.2 + 1)) else K v) m (a, i) = K (a * 2 ^ k, i + k)
  | 0,a,i,m+1,_,hk=>by
    simp only [loopW]
    rw [decide_eq_false om,cond_false];simp
  | k+1,a,i,m+1,hm,hk=>by
    simp only [loopW]
    rw [decide_eq_true om,cond_true,raise K j k (2 * a) (i+1) m om om]
    congr 2
    · rw [Int.pow_succ,Int.mul_comm (2 ^ k),← Int.mul_assoc,Int.mul_comm 2]
    · omega
theorem zzh (x y:Dyad):l8Add x y=zcd (x.num * 2 ^ (y.exp - x.exp).toNat+y.num * 2 ^ (x.exp+(y.exp - x.exp).toNat - y.exp).toNat) (x.exp+(y.exp - x.exp).toNat):=by
 unfold l8Add
 rw [raise (fun v1=>loopW (fun (v2:Int×Int) next=>bif (decide (v2.2<v1.2)) then (next (2 * v2.1,v2.2+1)) else (zcd (v1.1+v2.1) v1.2)) ((v1.2 - y.exp).toNat+1) (y.num,y.exp)) y.exp _ x.num x.exp _ (Nat.lt_succ_self _) rfl]
 exact raise (fun v2=>zcd (x.num * 2 ^ (y.exp - x.exp).toNat+v2.1) (x.exp+(y.exp - x.exp).toNat)) _ _ y.num y.exp _ (Nat.lt_succ_self _) rfl
theorem zu3 {n m:Int} (hn:0≤n) (hm:0≤m):l8Add (dy n) (dy m)=dy (n+m):=by
 obtain ⟨i,k,h1,h2,h3,h4,_⟩:=zjl 40 n hn
 obtain ⟨j,l,g1,g2,g3,g4,_⟩:=zjl 40 m hm
 rw [zzh]
 unfold dy
 rw [h1,g1]
 have hM:(i:Int)+(((j:Int) - i).toNat:Nat)=((i+(j - i):Nat):Int):=by omega
 rw [hM,show ((j:Int) - i).toNat=j - i by omega,show (((i+(j - i):Nat):Int) - j).toNat=i+(j - i) - j by omega]
 rw [zjs (Int.add_nonneg (Int.mul_nonneg h4 (Int.le_of_lt (zfj _))) (Int.mul_nonneg g4 (Int.le_of_lt (zfj _))))]
 rw [← zks _ _ (40 - (i+(j - i))),show i+(j - i)+(40 - (i+(j - i)))=40 by omega]
 congr 1
 rw [Int.add_mul,Int.mul_assoc,Int.mul_assoc,← Int.pow_add,← Int.pow_add,show j - i+(40 - (i+(j - i)))=k by omega,show i+(j - i) - j+(40 - (i+(j - i)))=l by omega,h3,g3]
theorem dy_zero:dy 0=⟨0,0⟩:=by rfl
theorem zu2:dy 549755813888=⟨1,1⟩:=by rfl
theorem z0q:dy 1099511627776=⟨1,0⟩:=by rfl
end Go.Proofs.Ytaageiiodlfeiaa
