/- FnQuestions holds at all inputs: what is refused or only asks changes nothing, a register stays valid. Conditions: none. -/
import Derived.Test.YtnphfelaffdmkaaGreatDoorL164A
set_option maxHeartbeats 4000000
namespace Go.Proofs.YtnphfelaffdmkaaGreatDoor
open Go Go.Lite Go.Proofs Go.ChangeShapes Go.WideShapes Go.ChangeAt Go.RowKit
theorem plain (f : FuncId) (fn : Func) (hf : Tryz.pinned.checked.prog.funcNamed "loop.example/g03221/laws.FnQuestions" = some f) (hfn : Tryz.pinned.checked.prog.funcs[f]? = some fn) :
    true=Tryz.pinned.checked.prog.looks []∧∀(j:Nat) t,fn.params[j]?=some t→Tryz.pinned.checked.prog.wantsStandIn t=false:=by
  obtain rfl : f = 3 := Option.some.inj ((show Tryz.prog.funcNamed "loop.example/g03221/laws.FnQuestions" = some 3 by kernel_rfl).symm.trans hf) |>.symm
  obtain rfl:fn=Tryz.f3:=(Option.some.inj (Tryz.func3.symm.trans hfn)).symm
  refine⟨by kernel_rfl,fun j t ht=>?_⟩
  rw[Tryz.params3] at ht
  have hm:t∈[22]:=by simpa using Array.mem_of_getElem? ht
  have hall:([22].all fun u=>!Tryz.prog.wantsStandIn u)=true:=by kernel_rfl
  exact(show Tryz.prog.wantsStandIn t=false by simpa using o0.1 hall t hm)
theorem proved:Rows.FnQuestionsUptoCardSaid:=Claim7.holds_tied_plain_at .later [] _ _ _ _ said (fun _ h=>vbU) (by kernel_rfl) (fun _ h=>vbU) fnQuestionsUpto_row_tie rfl ⟨rfl,rfl⟩ (by kernel_rfl) rfl plain (by kernel_rfl)
end Go.Proofs.YtnphfelaffdmkaaGreatDoor
