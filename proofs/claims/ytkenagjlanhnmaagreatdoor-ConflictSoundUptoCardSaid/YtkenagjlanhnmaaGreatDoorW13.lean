/- From the contract of the law to the row, part 4. No condition. -/
import Derived.Test.YtkenagjlanhnmaaGreatDoorW06
set_option linter.all false
set_option maxHeartbeats 8000000
namespace Go.Proofs.YtkenagjlanhnmaaGreatDoor.VJ
open Go.ChangeShapes Go.WideShapes Go.ChangeAt Go.RowKit Go.V
theorem plainLooks(f:FuncId)(fn:Func)(hf:Tryz.pinned.checked.prog.funcNamed Tryz.f4.name=some f)(b:Tryz.pinned.checked.prog.funcs[f]? =some fn):
  true=Tryz.pinned.checked.prog.looks []/\∀(j:Nat) t,fn.params[j]? =some t->Tryz.pinned.checked.prog.wantsStandIn t=false:=by
 obtain rfl:f=4:=Option.some.inj ((show Tryz.prog.funcNamed Tryz.f4.name=some 4 by kernel_rfl).symm.trans hf) |>.symm;obtain rfl:fn=Tryz.f4:=(Option.some.inj (Tryz.func4.symm.trans b)).symm;refine⟨by kernel_rfl,λj t c=> ?_⟩;have a:Tryz.f4.params.toList.all (λt=> !Tryz.prog.wantsStandIn t)=true:=kr;have:=List.all_eq_true.1 a t (by rw[<-Array.getElem?_toList]at c;exact List.mem_of_getElem? c);have d:Tryz.prog.wantsStandIn t=false:=by simpa using this
 exact d
end Go.Proofs.YtkenagjlanhnmaaGreatDoor.VJ
