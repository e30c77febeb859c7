import Derived.Test.YtikfeeaapenplabM9
set_option maxHeartbeats 4000000
set_option linter.unusedSimpArgs false
set_option linter.unusedVariables false
namespace Go.Proofs.Ytikfeeaapenplab
open Go Go.Lite Go.Proofs
def C19 (R:(List Int)):LV×List (Nat×BC):=(.own 0,[(0,.arr 1 R.length (rowOf (cInt .i64) R))])
def specDescendants (x0:Family) (x1:Int):(List Int):=bif (!(l1Has x0 x1)) then ([]:List Int) else (loopN (fun i1 (v1:(List Int)) next=>bif (decide (0<((l8Up x0 ((i1:Nat):Int)).getD x1.toNat default))) then (next (v1++[((i1:Nat):Int)])) else (next v1)) (fun (v1:(List Int))=>v1) x0.people.length 0 ([]:List Int))
def D19b1 (x0:Family) (x1:Int) (i1:Nat) (v1:(List Int)):Dl:=⟨[(15,.int .i64 ((i1:Nat):Int)),(5,.own 20005)],[(20005,.arr 1 v1.length (rowOf (cInt .i64) v1))]⟩
def A19b1 (x0:Family) (x1:Int) (i1:Nat) (v1:(List Int)):Ann:=r0 1 [1,2,4,5,14,15,16] [2,20005] (cn (decide (((i1:Nat):Int)<((x0.people.length:Nat):Int))) (.reg 2 [] [(1002,k51 x0 ((i1:Nat):Int))] [1,2,4,5,6,14,15,24] [2,20005] [] [pf (0≤(x1:Int)∧(x1:Int)<(((l8Up x0 ((i1:Nat):Int)).length:Nat):Int))] [] [4,0] (cn (decide (0<((l8Up x0 ((i1:Nat):Int)).getD x1.toNat default))) (.reg 1 [] [(2,bsC 27 (cInt .i64) ([((i1:Nat):Int)]:List Int)),(3,ap1 28 (cInt .i64) 8 v1 ((i1:Nat):Int))] [1,2,4,5,14,15] [2,28] [] [] [] [0,4] (r1 1 [1,2,4,5,14,15] [2,28] [pf (inR .i64 (((i1:Nat):Int)+1))] [0] (.next 0 [(20005,some 28)] (D19b1 x0 x1 (i1+1) (v1++[((i1:Nat):Int)]))))) (r1 1 [1,2,4,5,14,15] [2,20005] [pf (inR .i64 (((i1:Nat):Int)+1))] [0] (.next 0 [(20005,some 20005)] (D19b1 x0 x1 (i1+1) v1))))) (r0 1 [4] [20005] (rt [(0,some 20005)] (C19 v1))))
def A19 (x0:Family) (x1:Int):Ann:=r0 1 [1,2,4] [2] (.reg 1 [] [(2,k41 x0 x1)] [1,2,4,10] [2] [] [] [] [0] (cn (!(l1Has x0 x1)) (r0 1 [1,2,4] [2] (rt [(0,none)] (C19 ([]:List Int)))) (.reg 1 [] [(0,bsC 11 (cInt .i64) ([]:List Int))] [1,2,4,5] [2,11] [] [] [] [0] (r0 1 [1,2,4,5,14,15] [2,11] (lp (D19b1 x0 x1) [] [11] [(20005,some 11)] (D19b1 x0 x1 0 ([]:List Int)) (A19b1 x0 x1))))))
theorem ok_spec_DescendantsOf (x0 : Family) (x1 : Int) (hx : x0.people.length ≤ 1048576) (hu : x0.unions.length ≤ 1048576) (hn : ∀ p ∈ x0.people, p.name.length ≤ 1048576) : FnT Try.prog 19 [.agg (cFamily false x0), .int .i64 x1] (C19 (specDescendants x0 x1)) := by
  have aux : ∀ R, specDescendants x0 x1 = R → slim (C19 R) (A19 x0 x1) [] := by
    intro R hR
    refine rg trivial ?_
    refine rg ⟨⟨by trivial,by trivial,by trivial⟩,trivial⟩ ?_
    revert hR;refine cd (fun hc1 hR=>?_) fun hc1 hR=>?_
    ·
      refine rg trivial ?_
      exact congrArg C19 hR
    ·
      refine rg ⟨trivial,trivial⟩ ?_
      refine rg trivial ?_
      revert hR;refine lN (fun i v=>v.length≤i) (by trivial) rfl fun i1 v1 F1 hn1 hI1 hR hK1=>?_
      refine rg trivial ?_
      refine ⟨fun hc2=>?_,fun hc2=>?_⟩
      · have hii1 : i1 < x0.people.length := by have := of_decide_eq_true hc2; omega
        replace hR:=loopN_step hR hii1
        refine rg ⟨by (have h9:=l8Up_len x0 (i1:Int);have h8:=(l1Has_iff x0 x1).1 (by simpa using hc1);omega),⟨by trivial,by (intros;omega),by (have h9:=(l1Has_iff x0 x1).1 (by simpa using hc1);exact isFamily_par _ h9.2)⟩,trivial⟩ ?_
        have hp1:=l8Up_len x0 ((i1:Nat):Int)
        revert hR;refine cd (fun hc3 hR=>?_) fun hc3 hR=>?_
        ·
          refine rg ⟨trivial,by omega,trivial⟩ ?_
          refine rg ⟨by ( intros;simp only [inR];omega),trivial⟩ ?_
          exact hK1 (v1++[((i1:Nat):Int)]) hii1 (by (simp;omega)) hR
        ·
          refine rg ⟨by ( intros;simp only [inR];omega),trivial⟩ ?_
          exact hK1 v1 hii1 (by (intros;omega)) hR
      · obtain rfl : i1 = x0.people.length := by have := of_decide_eq_false hc2; omega
        replace hR:=loopN_end hR (Nat.lt_irrefl _)
        refine rg trivial ?_
        exact congrArg C19 hR
  exact Fn.go 31 Try.func19 (by kernel_rfl) (by kernel_rfl) (by simp [C19,Frs,FrsL,FrsB,rowOf,cInt,cBool,cStr,cSl,FrsL_app,cPerson,cUnion,cFamily]) (A19 x0 x1) (by kernel_rfl) (aux _ rfl)
def k19 (x0:Family) (x1:Int):Cl:=(hres (C19 (specDescendants x0 x1)),k3 (ok_spec_DescendantsOf x0 x1))
theorem filterLoop_len {n : Nat} {p : Nat → Bool} {f : Nat → Int} : (loopN (fun i (v : List Int) next => bif p i then next (v ++ [f i]) else next v) (fun v => v) n 0 []).length ≤ n :=
  loopN_to (fun i (v:List Int)=>v.length≤i) (fun (r:List Int)=>r.length≤n) (by simp) (fun i v next hi hv hn=>cond_both (p:=fun (r:List Int)=>r.length≤n) (fun _=>hn _ (by simp;omega)) (fun _=>hn _ (by omega))) (fun v hv=>hv)
theorem specDescendants_len (x : Family) (p : Int) : (specDescendants x p).length ≤ x.people.length := by
  unfold specDescendants
  exact cond_both (p:=fun (r:List Int)=>r.length≤x.people.length) (fun _=>by simp) (fun _=>filterLoop_len)
structure Dyad where
  num:Int
  exp:Int
  deriving Inhabited
def cDyad (fr:Bool) (x:Dyad):List LV:=cInt .i64 x.num++cInt .i64 x.exp

def Dy (d:Dyad):Prop:=0≤d.num∧(0≤d.exp∧d.exp≤40)∧d.num * 2 ^ (40 - d.exp).toNat≤2199023255552
theorem pow_pos2 (k:Nat):(0:Int)<2 ^ k:=Int.pow_pos (by omega)
theorem Dy.le {d : Dyad} (h : Dy d) : 0 ≤ d.num ∧ d.num ≤ 2199023255552 := by
  refine ⟨h.1,Int.le_trans ?_ h.2.2⟩
  have h1:=Int.mul_le_mul_of_nonneg_left (show (1:Int)≤2 ^ (40 - d.exp).toNat from by have:=pow_pos2 (40 - d.exp).toNat;omega) h.1
  rwa [Int.mul_one] at h1
def red : Int → Nat → Dyad
  | n,0=>⟨n,0⟩
  | n,e+1=>bif decide (n % 2=0) then red (n / 2) e else ⟨n,(e+1:Nat)⟩
def dy (n:Int):Dyad:=red n 40
end Go.Proofs.Ytikfeeaapenplab
