import Derived.Test.YtkkijpibajigfaaV11
set_option maxHeartbeats 4000000
set_option linter.unusedSimpArgs false
set_option linter.unusedVariables false
namespace Go.Proofs.Ytkkijpibajigfaa
open Go Go.Lite Go.Proofs
def eqIntS (x0 : List Int) (x1 : List Int) : Bool := bif (!decide (((x0.length : Nat) : Int) = ((x1.length : Nat) : Int))) then false else (loopN (fun i1 (v1 : Unit) next => bif (!decide ((x0.getD i1 default) = (x1.getD i1 default))) then false else (next ())) (fun (v1 : Unit) => true) x0.length 0 ())
theorem eqIntS_self (x : List Int) : eqIntS x x = true := by
  unfold eqIntS
  refine cond_both (p := fun r => r = true) (fun c => by simp at c) (fun _ => ?_)
  exact loopN_inv (fun _ _ => True) (fun r => r = true) (fun i v next _ hn => cond_both (p := fun r => r = true) (fun c => by simp at c) (fun _ => hn _ trivial)) (fun _ _ _ => rfl) _ _ _ trivial
def markText (x0 : Int) : (List UInt8) := bif (decide (x0 ≤ 0)) then [109, 48] else (loopW (fun (v1 : Int × (List UInt8)) next => bif (decide (0 < v1.1)) then (next (v1.1.tdiv 10, (List.map Lite.byteOf ([IntKind.wrap .u8 (48 + (v1.1.tmod 10))] : List Int)) ++ v1.2)) else ([109] ++ v1.2)) (x0.toNat + 1) (x0, ([] : List UInt8)))
def markIntS (x0 : List Int) (x1 : Int) : Int × (List Int) := loopN (fun i1 (v1 : (List Int) × Int) next => next ((v1.1.set i1 v1.2), v1.2 + 1)) (fun (v1 : (List Int) × Int) => (v1.2, v1.1)) x0.length 0 (x0, x1)
def markPersonS (x0 : List Person) (x1 : Int) : Int × (List Person) := loopN (fun i1 (v1 : (List Person) × Int) next => next ((v1.1.set i1 (Person.mk (markText v1.2) (v1.2 + 1) ((v1.2 + 1) + 1) (((v1.2 + 1) + 1) + 1) ((((v1.2 + 1) + 1) + 1) + 1) (((((v1.2 + 1) + 1) + 1) + 1) + 1))), (((((v1.2 + 1) + 1) + 1) + 1) + 1) + 1)) (fun (v1 : (List Person) × Int) => (v1.2, v1.1)) x0.length 0 (x0, x1)
def markUnionS (x0 : List Union) (x1 : Int) : Int × (List Union) := loopN (fun i1 (v1 : (List Union) × Int) next => next ((v1.1.set i1 (Union.mk v1.2 (v1.2 + 1) ((v1.2 + 1) + 1) (((v1.2 + 1) + 1) + 1))), (((v1.2 + 1) + 1) + 1) + 1)) (fun (v1 : (List Union) × Int) => (v1.2, v1.1)) x0.length 0 (x0, x1)
def heldIntS (x0 : List Int) (x1 : Int) : Int := loopN (fun i1 (v1 : Int) next => bif (!decide ((x0.getD i1 default) = v1)) then (-1) else (next (v1 + 1))) (fun (v1 : Int) => v1) x0.length 0 x1
end Go.Proofs.Ytkkijpibajigfaa
