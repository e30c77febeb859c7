import Derived.Test.YtanfabaedopeiaaVR7
set_option maxHeartbeats 4000000
set_option linter.unusedSimpArgs false
set_option linter.unusedVariables false
namespace Go.Proofs.Ytanfabaedopeiaa
open Go Go.Lite Go.Proofs
theorem terms_eq (x : Terminology) : implTerms x = specTerms x := by
  unfold implTerms specTerms
  rw [are_eq]
  have e : (fun i1 (v1 : Unit) (nx1 : Unit → Bool) => bif (!((!(implIsName ((x.entries.getD i1 default).term))) || (!(implIsType ((x.entries.getD i1 default).type))))) then (bif (((!(implIsName ((x.entries.getD i1 default).term))) || (!(implIsType ((x.entries.getD i1 default).type)))) || (!(implEqT ((x.entries.getD i1 default).type) (implNormal x.rules ((x.entries.getD i1 default).type))))) then false else (loopN (fun i2 (v2 : Unit) next => bif (implEqT ((((x.entries.drop 0).take (i1 - 0)).getD i2 default).type) ((x.entries.getD i1 default).type)) then false else (next ())) (fun (v2 : Unit) => nx1 ()) (((x.entries.drop 0).take (i1 - 0)).length) 0 ())) else (bif (((!(implIsName ((x.entries.getD i1 default).term))) || (!(implIsType ((x.entries.getD i1 default).type)))) || true) then false else (loopN (fun i3 (v3 : Unit) next => bif (implEqT ((((x.entries.drop 0).take (i1 - 0)).getD i3 default).type) ((x.entries.getD i1 default).type)) then false else (next ())) (fun (v3 : Unit) => nx1 ()) (((x.entries.drop 0).take (i1 - 0)).length) 0 ()))) =
      fun i1 (v1 : Unit) nx1 => bif (!((!(implIsName ((x.entries.getD i1 default).term))) || (!(implIsType ((x.entries.getD i1 default).type))))) then (bif (((!(implIsName ((x.entries.getD i1 default).term))) || (!(implIsType ((x.entries.getD i1 default).type)))) || (!(implEqT ((x.entries.getD i1 default).type) (implNormal x.rules ((x.entries.getD i1 default).type))))) then false else (loopN (fun i2 (v2 : Unit) next => bif (implEqT ((((x.entries.drop 0).take (i1 - 0)).getD i2 default).type) ((x.entries.getD i1 default).type)) then false else (next ())) (fun (v2 : Unit) => nx1 ()) (((x.entries.drop 0).take (i1 - 0)).length) 0 ())) else false := by
    funext i v nx
    rw [Bool.or_true, cond_true]
  rw [e]
  clear e
  have e : (fun i1 (v1 : Unit) (nx1 : Unit → Bool) => bif (!((!(specIsName ((x.entries.getD i1 default).term))) || (!(specIsType ((x.entries.getD i1 default).type))))) then (bif (((!(specIsName ((x.entries.getD i1 default).term))) || (!(specIsType ((x.entries.getD i1 default).type)))) || (!(specEqT (l4Normal x.rules ((x.entries.getD i1 default).type)) ((x.entries.getD i1 default).type)))) then false else (loopN (fun i2 (v2 : Unit) next => bif (specEqT ((x.entries.getD i2 default).type) ((x.entries.getD i1 default).type)) then false else (next ())) (fun (v2 : Unit) => nx1 ()) i1 0 ())) else (bif (((!(specIsName ((x.entries.getD i1 default).term))) || (!(specIsType ((x.entries.getD i1 default).type)))) || true) then false else (loopN (fun i3 (v3 : Unit) next => bif (specEqT ((x.entries.getD i3 default).type) ((x.entries.getD i1 default).type)) then false else (next ())) (fun (v3 : Unit) => nx1 ()) i1 0 ()))) =
      fun i1 (v1 : Unit) nx1 => bif (!((!(specIsName ((x.entries.getD i1 default).term))) || (!(specIsType ((x.entries.getD i1 default).type))))) then (bif (((!(specIsName ((x.entries.getD i1 default).term))) || (!(specIsType ((x.entries.getD i1 default).type)))) || (!(specEqT (l4Normal x.rules ((x.entries.getD i1 default).type)) ((x.entries.getD i1 default).type)))) then false else (loopN (fun i2 (v2 : Unit) next => bif (specEqT ((x.entries.getD i2 default).type) ((x.entries.getD i1 default).type)) then false else (next ())) (fun (v2 : Unit) => nx1 ()) i1 0 ())) else false := by
    funext i v nx
    rw [Bool.or_true, cond_true]
  rw [e]
  clear e
  congr 1
  refine loopN_rel0 (fun _ _ _ => True) (fun a b => a = b) trivial (fun i s t n1 n2 hi _ hn => ?_) (fun _ _ _ => rfl)
  have hn := hn () () trivial
  rw [isName_eq, type_eq, eqT_eq, normal_eq, eqT_comm (x.entries.getD i default).type (l4Normal x.rules (x.entries.getD i default).type)]
  have hlen : ((x.entries.drop 0).take (i - 0)).length = i := by rw [List.length_take, List.length_drop]; omega
  have hget : ∀ j : Nat, j < i → ((x.entries.drop 0).take (i - 0)).getD j default = x.entries.getD j default := fun j hj => by
    rw [List.drop_zero, Nat.sub_zero, List.getD_eq_getElem?_getD, List.getElem?_take, if_pos hj, ← List.getD_eq_getElem?_getD]
  rw [hlen]
  have hloop : loopN (fun i2 (v2 : Unit) next => bif (implEqT ((((x.entries.drop 0).take (i - 0)).getD i2 default).type) ((x.entries.getD i default).type)) then false else (next ())) (fun (v2 : Unit) => n1 ()) i 0 () = loopN (fun i2 (v2 : Unit) next => bif (specEqT ((x.entries.getD i2 default).type) ((x.entries.getD i default).type)) then false else (next ())) (fun (v2 : Unit) => n2 ()) i 0 () := by
    refine loopN_rel0 (fun _ _ _ => True) (fun a b => a = b) trivial (fun j s t m1 m2 hj _ hm => ?_) (fun _ _ _ => hn)
    rw [hget j hj, eqT_eq, hm () () trivial]
  rw [hloop]
end Go.Proofs.Ytanfabaedopeiaa
