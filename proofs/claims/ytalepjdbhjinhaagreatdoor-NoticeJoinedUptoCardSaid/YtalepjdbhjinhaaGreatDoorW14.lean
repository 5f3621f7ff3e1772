/- From the contract of the law to the row, part 4. No condition. -/
import Derived.Test.YtalepjdbhjinhaaGreatDoorW07
set_option linter.all false
namespace Go.Proofs.YtalepjdbhjinhaaGreatDoor.VJ
open Go.ChangeShapes Go.WideShapes Go.ChangeAt Go.RowKit Go.V
theorem plainLooks (f:FuncId) (fn:Func) (hf:Tryz.pinned.checked.prog.funcNamed Tryz.f4.name=some f) (hfn:Tryz.pinned.checked.prog.funcs[f]? =some fn):
  true=Tryz.pinned.checked.prog.looks []∧∀ (j:Nat) t,fn.params[j]? =some t→Tryz.pinned.checked.prog.wantsStandIn t=false:=by
 obtain rfl:f=4:=Option.some.inj ((show Tryz.prog.funcNamed Tryz.f4.name=some 4 by kernel_rfl).symm.trans hf) |>.symm;obtain rfl:fn=Tryz.f4:=(Option.some.inj (Tryz.func4.symm.trans hfn)).symm;refine⟨by kernel_rfl,fun j t ht=> ?_⟩;have hall:Tryz.f4.params.toList.all (fun t=> !Tryz.prog.wantsStandIn t)=true:=by kernel_rfl
 have:=List.all_eq_true.1 hall t (by rw[←Array.getElem?_toList] at ht;exact List.mem_of_getElem? ht);have h2:Tryz.prog.wantsStandIn t=false:=by simpa using this
 exact h2
end Go.Proofs.YtalepjdbhjinhaaGreatDoor.VJ
