import Derived.Test.YtikfeeaapenplabVS19
set_option maxHeartbeats 4000000
set_option linter.unusedSimpArgs false
set_option linter.unusedVariables false
namespace Go.Proofs.Ytikfeeaapenplab
open Go Go.Lite Go.Proofs
theorem year_idx {b : List Int} (hb : ∀ y ∈ b, 0 ≤ y ∧ y ≤ 255) {i : Int} (hi : 0 ≤ i) {x : Family} (hf : specIsFamily x = true) (hn : 0 < x.people.length) : (0 ≤ (at1 b i).tmod (x.people.length : Int) ∧ (at1 b i).tmod (x.people.length : Int) < (x.people.length : Int)) ∧ (0 ≤ (x.people.getD ((at1 b i).tmod (x.people.length : Int)).toNat default).born ∧ (x.people.getD ((at1 b i).tmod (x.people.length : Int)).toNat default).born ≤ 9999) ∧ ((x.people.getD ((at1 b i).tmod (x.people.length : Int)).toNat default).died ≤ 9999) := by
  have h9:0≤(at1 b i).tmod (x.people.length:Int)∧(at1 b i).tmod (x.people.length:Int)<(x.people.length:Int):=who_rng hb hi hn
  have h7:=fam_p hf (k:=((at1 b i).tmod (x.people.length:Int)).toNat) (by omega)
  have h6:=h7.born;have h5:=h7.died
  exact ⟨h9,h6,by omega⟩
theorem at_mod {b : List Int} (hb : ∀ y ∈ b, 0 ≤ y ∧ y ≤ 255) {i : Int} (hi : 0 ≤ i) (n : Int) (hn : 0 < n) : 0 ≤ (at1 b i).tmod n ∧ (at1 b i).tmod n < n := by
  rw [Int.tmod_eq_emod_of_nonneg (at1_rng hb hi).1]
  exact ⟨Int.emod_nonneg _ (by omega),Int.emod_lt_of_pos _ hn⟩
theorem four_rng {i : Nat} (h : i < 4) : 0 ≤ ([0, 1, 20, 45] : List Int).getD i default ∧ ([0, 1, 20, 45] : List Int).getD i default ≤ 45 := by
  match i,h with
  | 0,_=>decide
  | 1,_=>decide
  | 2,_=>decide
  | 3,_=>decide
def C17 (R:Int):LV×List (Nat×BC):=(.int .i64 R,[])
def lawYear (x0:List Int) (x1:Int) (x2:Family):Int:=bif ((decide (0≤((x2.people.getD (((at1 x0 x1).tmod ((x2.people.length:Nat):Int)).toNat) default).died))) && (decide (((at1 x0 (x1+1)).tmod 2)=0))) then ((((x2.people.getD (((at1 x0 x1).tmod ((x2.people.length:Nat):Int)).toNat) default).died)+((at1 x0 (x1+2)).tmod 3)) - 1) else (((x2.people.getD (((at1 x0 x1).tmod ((x2.people.length:Nat):Int)).toNat) default).born)+([0,1,20,45].getD (((at1 x0 (x1+1)).tmod 4).toNat) default))
def A17 (x0:List Int) (x1:Int) (x2:Family):Ann:=.reg 2 [] [(1004,k22 x0 x1)] [0,1,6,7] [7] [] [pf ((((x2.people.length:Nat):Int):Int) ≠ 0),pf (0≤((at1 x0 x1).tmod ((x2.people.length:Nat):Int):Int)∧((at1 x0 x1).tmod ((x2.people.length:Nat):Int):Int)<((x2.people.length:Nat):Int))] [] [8,0,4] (.reg 1 [] [(7,cg (decide (0≤((x2.people.getD (((at1 x0 x1).tmod ((x2.people.length:Nat):Int)).toNat) default).died))) (k22 x0 (x1+1)))] [0,1,6,7,29] [7] [decide (0≤((x2.people.getD (((at1 x0 x1).tmod ((x2.people.length:Nat):Int)).toNat) default).died))] [gt (decide (0≤((x2.people.getD (((at1 x0 x1).tmod ((x2.people.length:Nat):Int)).toNat) default).died))) (pf (inR .i64 (x1+1))),gt (decide (0≤((x2.people.getD (((at1 x0 x1).tmod ((x2.people.length:Nat):Int)).toNat) default).died))) (pf ((2:Int) ≠ 0))] [] [1,0,1,1,8,1,4,1,1] (cn ((decide (0≤((x2.people.getD (((at1 x0 x1).tmod ((x2.people.length:Nat):Int)).toNat) default).died))) && (decide (((at1 x0 (x1+1)).tmod 2)=0))) (.reg 1 [] [(5,k22 x0 (x1+2))] [0,1,6,7] [7] [] [pf (inR .i64 (x1+2)),pf ((3:Int) ≠ 0),pf (inR .i64 (((x2.people.getD (((at1 x0 x1).tmod ((x2.people.length:Nat):Int)).toNat) default).died)+((at1 x0 (x1+2)).tmod 3))),pf (inR .i64 ((((x2.people.getD (((at1 x0 x1).tmod ((x2.people.length:Nat):Int)).toNat) default).died)+((at1 x0 (x1+2)).tmod 3)) - 1))] [] [0,16,4,8,12] (rt [] (C17 ((((x2.people.getD (((at1 x0 x1).tmod ((x2.people.length:Nat):Int)).toNat) default).died)+((at1 x0 (x1+2)).tmod 3)) - 1)))) (.reg 1 [] [(2,bsC 41 (cInt .i64) ([0,1,20,45]:List Int)),(6,k22 x0 (x1+1))] [6] [] [] [pf (inR .i64 (x1+1)),pf ((4:Int) ≠ 0),pf (0≤((at1 x0 (x1+1)).tmod 4:Int)∧((at1 x0 (x1+1)).tmod 4:Int)<((4:Nat):Int)),pf (inR .i64 (((x2.people.getD (((at1 x0 x1).tmod ((x2.people.length:Nat):Int)).toNat) default).born)+([0,1,20,45].getD (((at1 x0 (x1+1)).tmod 4).toNat) default)))] [] [16,0,20,4,8,12] (rt [] (C17 (((x2.people.getD (((at1 x0 x1).tmod ((x2.people.length:Nat):Int)).toNat) default).born)+([0,1,20,45].getD (((at1 x0 (x1+1)).tmod 4).toNat) default)))))))
theorem ok_laws_year (x0 : List Int) (x1 : Int) (x2 : Family) (hx : x0.length ≤ 1048576) (hb : ∀ y ∈ x0, 0 ≤ y ∧ y ≤ 255) (hi : 0 ≤ x1 ∧ x1 ≤ 900) (hf : specIsFamily x2 = true) (hn : 0 < x2.people.length) : FnT Try.prog 17 [.ro false 1 x0.length (rowOf (cInt .u8) x0), .int .i64 x1, .agg (cFamily false x2)] (C17 (lawYear x0 x1 x2)) := by
  have aux : ∀ R, lawYear x0 x1 x2 = R → slim (C17 R) (A17 x0 x1 x2) [] := by
    intro R hR
    refine rg ⟨by (intros;omega),by (have h9:=year_idx hb hi.1 hf hn;(try simp only [inR]);omega),⟨by with_reducible assumption,by with_reducible assumption,by (intros;omega)⟩,trivial⟩ ?_
    refine rg ⟨by (have h9:=year_idx hb hi.1 hf hn;(try simp only [inR]);omega),by (intros;omega),fun hg0=>⟨by with_reducible assumption,by with_reducible assumption,by (intros;omega)⟩,trivial⟩ ?_
    revert hR;refine cd (fun hc1 hR=>?_) fun hc1 hR=>?_
    ·
      refine rg ⟨by (have h9:=year_idx hb hi.1 hf hn;(try simp only [inR]);omega),by (intros;omega),by ((try clear hR);intros;(try simp only [decide_eq_true_eq,decide_eq_false_iff_not,Bool.or_eq_true,Bool.and_eq_true,or_f_iff,not_f_iff,not_t_iff,Bool.not_eq_true',inR] at *);(repeat' apply And.intro) <;> (have h9:=year_idx hb hi.1 hf hn;have h8:=at_mod hb (i:=x1+2) (by omega) 3 (by omega);intros;(try simp only [inR,decide_eq_true_eq] at *);omega)),by ((try clear hR);intros;(try simp only [decide_eq_true_eq,decide_eq_false_iff_not,Bool.or_eq_true,Bool.and_eq_true,or_f_iff,not_f_iff,not_t_iff,Bool.not_eq_true',inR] at *);(repeat' apply And.intro) <;> (have h9:=year_idx hb hi.1 hf hn;have h8:=at_mod hb (i:=x1+2) (by omega) 3 (by omega);intros;(try simp only [inR,decide_eq_true_eq] at *);omega)),⟨by with_reducible assumption,by with_reducible assumption,by (intros;omega)⟩,trivial⟩ ?_
      exact congrArg C17 hR
    ·
      refine rg ⟨by (have h9:=year_idx hb hi.1 hf hn;(try simp only [inR]);omega),by (intros;omega),by (have h9:=year_idx hb hi.1 hf hn;have h8:=at_mod hb (i:=x1+1) (by omega) 4 (by omega);(try simp only [inR,List.length_cons,List.length_nil]);omega),by (have h9:=year_idx hb hi.1 hf hn;have h8:=at_mod hb (i:=x1+1) (by omega) 4 (by omega);have h7:=four_rng (i:=((at1 x0 (x1+1)).tmod 4).toNat) (by omega);(try simp only [inR]);omega),trivial,⟨by with_reducible assumption,by with_reducible assumption,by (intros;omega)⟩,trivial⟩ ?_
      exact congrArg C17 hR
  exact Fn.go 50 Try.func17 (by kernel_rfl) (by kernel_rfl) (by simp [C17,Frs,FrsL]) (A17 x0 x1 x2) (by kernel_rfl) (aux _ rfl)
def k17 (x0:List Int) (x1:Int) (x2:Family):Cl:=(hres (C17 (lawYear x0 x1 x2)),k5 (ok_laws_year x0 x1 x2))
def C20 (R:Bool):LV×List (Nat×BC):=(.bool R,[])
def specAlive (x0:Family) (x1:Int) (x2:Int):Bool:=(l1Has x0 x1) && (l1Alive x0 x1 x2)
def A20 (x0:Family) (x1:Int) (x2:Int):Ann:=.reg 2 [] [(1002,k41 x0 x1),(1007,cg (l1Has x0 x1) (k52 x0 x1 x2))] [6] [] [l1Has x0 x1] [] [] [0,1,1,1,4,1] (rt [] (C20 ((l1Has x0 x1) && (l1Alive x0 x1 x2))))
theorem ok_spec_IsAlive (x0 : Family) (x1 : Int) (x2 : Int) (hx : x0.people.length ≤ 1048576) (hu : x0.unions.length ≤ 1048576) (hn : ∀ p ∈ x0.people, p.name.length ≤ 1048576) : FnT Try.prog 20 [.agg (cFamily false x0), .int .i64 x1, .int .i64 x2] (C20 (specAlive x0 x1 x2)) := by
  have aux : ∀ R, specAlive x0 x1 x2 = R → slim (C20 R) (A20 x0 x1 x2) [] := by
    intro R hR
    refine rg ⟨⟨by trivial,by trivial,by trivial⟩,fun hg0=>⟨by trivial,by (have h9:=(l1Has_iff x0 x1).1 hg0;omega)⟩,trivial⟩ ?_
    exact congrArg C20 hR
  exact Fn.go 16 Try.func20 (by kernel_rfl) (by kernel_rfl) (by simp [C20,Frs,FrsL]) (A20 x0 x1 x2) (by kernel_rfl) (aux _ rfl)
def k20 (x0:Family) (x1:Int) (x2:Int):Cl:=(hres (C20 (specAlive x0 x1 x2)),k3 (ok_spec_IsAlive x0 x1 x2))
theorem par_kid {f : Family} {a q : Int} (ha : 0 ≤ a ∧ a < f.people.length) (h : q ∈ l1Parents f a) : a ∈ l1Children f q ∧ 0 ≤ q ∧ (q = (f.people.getD a.toNat default).father ∨ q = (f.people.getD a.toNat default).mother) := by
  obtain ⟨k,hk,e⟩:=mem_getD (d:=default) h
  have h1:=(l1Parents_rng f a).2 k hk
  rw [e] at h1
  refine ⟨(l1Children_mem f q a).2 ⟨a.toNat,by omega,by omega,?_⟩,h1.1,by omega⟩
  omega
theorem par_born_lt {f : Family} (hf : specIsFamily f = true) {a q : Int} (ha : 0 ≤ a ∧ a < f.people.length) (h : q ∈ l1Parents f a) : (f.people.getD q.toNat default).born < (f.people.getD a.toNat default).born := by
  have h1:=par_kid ha h
  have h2:=fam_p hf (k:=a.toNat) (by omega)
  have h3:=h2.fa;have h4:=h2.mo
  rcases h1.2.2 with e | e
  · rcases h3 with h3 | h3
    · omega
    · rw [e];omega
  · rcases h4 with h4 | h4
    · omega
    · rw [e];omega
theorem up_born {f : Family} (hf : specIsFamily f = true) {q : Int} (hq : 0 ≤ q ∧ q < f.people.length) {n : Nat} {a : Int} (h : Up f q n a) : (f.people.getD a.toNat default).born ≤ (f.people.getD q.toNat default).born := by
  induction h with
  | zero=>exact Int.le_refl _
  | step h hp ih =>
    have h1:=h.rng (isFamily_par f hf) hq
    have:=par_born_lt hf ⟨h1.1,h1.2.1⟩ hp
    omega
theorem desc_up {f : Family} (hf : specIsFamily f = true) {p : Int} (hp : 0 ≤ p ∧ p < f.people.length) {q : Int} (h : q ∈ specDescendants f p) : (0 ≤ q ∧ q < f.people.length) ∧ ∃ n, 0 < n ∧ Up f q n p := by
  unfold specDescendants at h
  rw [(l1Has_iff f p).2 ⟨hp,hf⟩,Bool.not_true,cond_false,fLoop_mem (f:=fun i=>((i:Nat):Int))] at h
  obtain ⟨i,h1,h2,rfl⟩:=h
  have h3:=l8Up_dist f (i:Int) (isFamily_par f hf) ⟨by omega,by omega⟩
  have h2:=of_decide_eq_true h2
  have h4:=(h3.yes p.toNat (by omega) (by omega)).1
  rw [show ((p.toNat:Nat):Int)=p by omega] at h4
  exact ⟨⟨by omega,by omega⟩,_,by omega,h4⟩
theorem specAlive_val {f : Family} (hf : specIsFamily f = true) {q : Int} (hq : 0 ≤ q ∧ q < f.people.length) (y : Int) : specAlive f q y = l1Alive f q y := by
  unfold specAlive
  rw [(l1Has_iff f q).2 ⟨hq,hf⟩,Bool.true_and]
structure estate where
  f:Family
  p:Int
  year:Int
  takes:List Bool
  num:List Int
  den:List Int
  deriving Inhabited
def cestate (fr:Bool) (x:estate):List LV:=cFamily fr x.f++cInt .i64 x.p++cInt .i64 x.year++cSl fr 1 (cBool) x.takes++cSl fr 1 (cInt .i64) x.num++cSl fr 1 (cInt .i64) x.den

def C89 (R:Int):LV×List (Nat×BC):=(.int .i64 R,[])
def implGcd (x0:Int) (x1:Int):Int:=loopW (fun (v1:Int×Int) next=>bif (!decide (v1.2=0)) then (next (v1.2,v1.1.tmod v1.2)) else v1.1) ((x1).toNat+1) (x0,x1)
def D89b1 (x0:Int) (x1:Int) (v1:Int×Int):Dl:=⟨[(0,.int .i64 v1.1),(1,.int .i64 v1.2)],[]⟩
def A89b1 (x0:Int) (x1:Int) (v1:Int×Int):Ann:=r0 1 [0,1,4,6] [] (cn (!decide (v1.2=0)) (r1 1 [0,1,4] [] [pf ((v1.2:Int) ≠ 0)] [0] (.next 0 [] (D89b1 x0 x1 (v1.2,v1.1.tmod v1.2)))) (r0 1 [4] [] (rt [] (C89 v1.1))))
def A89 (x0:Int) (x1:Int):Ann:=r0 1 [0,1,4] [] (.loop (Int×Int) (D89b1 x0 x1) [] [] [] (D89b1 x0 x1 (x0,x1)) (A89b1 x0 x1))
theorem ok_impl_gcd (x0 : Int) (x1 : Int) (h0 : 0 ≤ x0) (h1 : 0 ≤ x1) : FnT Try.prog 89 [.int .i64 x0, .int .i64 x1] (C89 (implGcd x0 x1)) := by
  have aux : ∀ R, implGcd x0 x1 = R → slim (C89 R) (A89 x0 x1) [] := by
    intro R hR
    refine rg trivial ?_
    revert hR;refine lW (fun v=>0≤v.1∧0≤v.2) (fun v=>(v.2).toNat) (by trivial) (Nat.lt_succ_self _) rfl fun m1 v1 F1 hI1 hM1 hR hK1=>?_
    refine rg trivial ?_
    revert hR;refine cd (fun hc1 hR=>?_) fun hc1 hR=>?_
    ·
      refine rg ⟨by (have h9:=Int.tmod_nonneg (a:=v1.1) v1.2 hI1.1;have h8:=Int.tmod_lt_of_pos v1.1 (b:=v1.2) (by simp only [decide_eq_true_eq,decide_eq_false_iff_not,Bool.not_eq_true',Bool.not_eq_false'] at *;omega);omega),trivial⟩ ?_
      exact hK1 (v1.2,v1.1.tmod v1.2) (by (have h9:=Int.tmod_nonneg (a:=v1.1) v1.2 hI1.1;have h8:=Int.tmod_lt_of_pos v1.1 (b:=v1.2) (by simp only [decide_eq_true_eq,decide_eq_false_iff_not,Bool.not_eq_true',Bool.not_eq_false'] at *;omega);omega)) (by (have h9:=Int.tmod_nonneg (a:=v1.1) v1.2 hI1.1;have h8:=Int.tmod_lt_of_pos v1.1 (b:=v1.2) (by simp only [decide_eq_true_eq,decide_eq_false_iff_not,Bool.not_eq_true',Bool.not_eq_false'] at *;omega);omega)) hR
    ·
      refine rg trivial ?_
      exact congrArg C89 hR
  exact Fn.go 12 Try.func89 (by kernel_rfl) (by kernel_rfl) (by simp [C89,Frs,FrsL]) (A89 x0 x1) (by kernel_rfl) (aux _ rfl)
def k89 (x0:Int) (x1:Int):Cl:=(hres (C89 (implGcd x0 x1)),k2 (ok_impl_gcd x0 x1))
def C47 (x0:estate) (x1:List Int) (R:(List Int)×(List Bool)×(List Int)×(List Int)):LV×List (Nat×BC):=(.own 0,[(900000,.var [.ro false 6 x0.f.people.length (rowOf (cPerson false) x0.f.people),.ro false 4 x0.f.unions.length (rowOf (cUnion false) x0.f.unions),.int .i64 x0.p,.int .i64 x0.year,.own 1,.own 2,.own 3]),(900004,.arr 1 x1.length (rowOf (cInt .i64) x1)),(0,.arr 1 R.1.length (rowOf (cInt .i64) R.1)),(1,.arr 1 R.2.1.length (rowOf (cBool) R.2.1)),(2,.arr 1 R.2.2.1.length (rowOf (cInt .i64) R.2.2.1)),(3,.arr 1 R.2.2.2.length (rowOf (cInt .i64) R.2.2.2))])
def taking (x0:estate) (x1:List Int):(List Int)×(List Bool)×(List Int)×(List Int):=loopN (fun i1 (v1:(List Int)) next=>bif (x0.takes.getD ((x1.getD i1 default).toNat) default) then (next (v1++[(x1.getD i1 default)])) else (next v1)) (fun (v1:(List Int))=>(v1,x0.takes,x0.num,x0.den)) x1.length 0 ([]:List Int)
def D47b1 (x0:estate) (x1:List Int) (i1:Nat) (v1:(List Int)):Dl:=⟨[(10,.int .i64 ((i1:Nat):Int)),(5,.own 20005)],[(20005,.arr 1 v1.length (rowOf (cInt .i64) v1))]⟩
def A47b1 (x0:estate) (x1:List Int) (i1:Nat) (v1:(List Int)):Ann:=r0 1 [0,4,5,8,9,10,11] [20005,900000,900001,900002,900003,900004] (cn (decide (((i1:Nat):Int)<((x1.length:Nat):Int))) (r1 2 [0,4,5,7,8,9,10,20] [20005,900000,900001,900002,900003,900004] [pf (0≤(((i1:Nat):Int):Int)∧(((i1:Nat):Int):Int)<((x1.length:Nat):Int)),pf (0≤((x1.getD i1 default):Int)∧((x1.getD i1 default):Int)<((x0.takes.length:Nat):Int))] [0,4] (cn (x0.takes.getD ((x1.getD i1 default).toNat) default) (.reg 1 [] [(2,bsC 23 (cInt .i64) ([(x1.getD i1 default)]:List Int)),(3,ap1 24 (cInt .i64) 8 v1 (x1.getD i1 default))] [0,4,5,8,9,10] [24,900000,900001,900002,900003,900004] [] [] [] [0,4] (r1 1 [0,4,5,8,9,10] [24,900000,900001,900002,900003,900004] [pf (inR .i64 (((i1:Nat):Int)+1))] [0] (.next 0 [(20005,some 24)] (D47b1 x0 x1 (i1+1) (v1++[(x1.getD i1 default)]))))) (r1 1 [0,4,5,8,9,10] [20005,900000,900001,900002,900003,900004] [pf (inR .i64 (((i1:Nat):Int)+1))] [0] (.next 0 [(20005,some 20005)] (D47b1 x0 x1 (i1+1) v1))))) (r0 1 [4] [20005,900000,900001,900002,900003,900004] (rt [(900000,some 900000),(900004,some 900004),(0,some 20005),(1,some 900001),(2,some 900002),(3,some 900003)] (C47 x0 x1 (v1,x0.takes,x0.num,x0.den)))))
def A47 (x0:estate) (x1:List Int):Ann:=r0 2 [0,1,4,5] [900000,900001,900002,900003,900004] (r0 1 [0,4,5,8,9,10] [900000,900001,900002,900003,900004] (lp (D47b1 x0 x1) [] [] [(20005,none)] (D47b1 x0 x1 0 ([]:List Int)) (A47b1 x0 x1)))
theorem ok_impl_estate__taking (x0 : estate) (x1 : List Int) (ht : x0.takes.length ≤ 1048576) (hl : x1.length ≤ 1048576) (hr : ∀ c ∈ x1, 0 ≤ c ∧ c < x0.takes.length) : FnMT Try.prog 47 [.vp 900000 0, .own 900004] [.var [.ro false 6 x0.f.people.length (rowOf (cPerson false) x0.f.people), .ro false 4 x0.f.unions.length (rowOf (cUnion false) x0.f.unions), .int .i64 x0.p, .int .i64 x0.year, .own 900001, .own 900002, .own 900003], .arr 1 x0.takes.length (rowOf (cBool) x0.takes), .arr 1 x0.num.length (rowOf (cInt .i64) x0.num), .arr 1 x0.den.length (rowOf (cInt .i64) x0.den), .arr 1 x1.length (rowOf (cInt .i64) x1)] (C47 x0 x1 (taking x0 x1)) := by
  have aux : ∀ R, taking x0 x1 = R → slim (C47 x0 x1 R) (A47 x0 x1) [] := by
    intro R hR
    refine rg trivial ?_
    refine rg trivial ?_
    revert hR;refine lN (fun i v=>v.length≤i) (by trivial) rfl fun i1 v1 F1 hn1 hI1 hR hK1=>?_
    refine rg trivial ?_
    refine ⟨fun hc1=>?_,fun hc1=>?_⟩
    · have hii1 : i1 < x1.length := by have := of_decide_eq_true hc1; omega
      replace hR:=loopN_step hR hii1
      refine rg ⟨by (intros;omega),by ((try clear hR hK1);intros;(try simp only [decide_eq_true_eq,decide_eq_false_iff_not,Bool.or_eq_true,Bool.and_eq_true,or_f_iff,not_f_iff,not_t_iff,Bool.not_eq_true',inR] at *);(repeat' apply And.intro) <;> (simp_all [inR];done)),trivial⟩ ?_
      revert hR;refine cd (fun hc2 hR=>?_) fun hc2 hR=>?_
      ·
        refine rg ⟨trivial,by omega,trivial⟩ ?_
        refine rg ⟨by ( intros;simp only [inR];omega),trivial⟩ ?_
        exact hK1 (v1++[(x1.getD i1 default)]) hii1 (by ((try clear hR hK1);intros;(try simp only [decide_eq_true_eq,decide_eq_false_iff_not,Bool.or_eq_true,Bool.and_eq_true,or_f_iff,not_f_iff,not_t_iff,Bool.not_eq_true',inR] at *);(repeat' apply And.intro) <;> (simp_all [inR];done))) hR
      ·
        refine rg ⟨by ( intros;simp only [inR];omega),trivial⟩ ?_
        exact hK1 v1 hii1 (by (intros;omega)) hR
    · obtain rfl : i1 = x1.length := by have := of_decide_eq_false hc1; omega
      replace hR:=loopN_end hR (Nat.lt_irrefl _)
      refine rg trivial ?_
      exact congrArg (C47 x0 x1) hR
  exact FnM.go 27 Try.func47 (by kernel_rfl) (by kernel_rfl) (A47 x0 x1) (by kernel_rfl) (aux _ rfl)
def k47 (d:Nat) (ids:List Nat) (x0:estate) (x1:List Int):Cl:=(hresM d ids (C47 x0 x1 (taking x0 x1)),k3 (ok_impl_estate__taking x0 x1))
end Go.Proofs.Ytikfeeaapenplab
