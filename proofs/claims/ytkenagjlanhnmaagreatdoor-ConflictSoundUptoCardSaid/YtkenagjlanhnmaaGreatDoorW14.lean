/- From the contract of the law to the row, part 5. No condition. -/
import Derived.Test.YtkenagjlanhnmaaGreatDoorW06
set_option linter.all false
set_option maxHeartbeats 8000000
namespace Go.Proofs.YtkenagjlanhnmaaGreatDoor.VJ
open Go.ChangeShapes Go.WideShapes Go.ChangeAt Go.RowKit Go.V
theorem goes_none{P:Go.Program}(h:P.funcs.toList.any Go.Func.goes=false)(f:Go.FuncId):P.goes f=false:=by
 have h1:∀fn∈P.funcs,Go.Func.goes fn=false:=λfn hf=>by
  have:=List.any_eq_false.1 h fn (Array.mem_def.1 hf);simpa using this
 have a:P.funcs.any Go.Func.goes=false:=Array.any_eq_false.2 λi b=>by simp[h1 _ (Array.getElem_mem b)]
 unfold Go.Program.goes;rw[a,Bool.and_false,Bool.or_false,List.any_eq_false];intro g _;cases e:P.funcs[g]? with
 |none=>simp
 |some fn=>simp[h1 fn (Array.mem_of_getElem? e)]
theorem goesAt_none{P:Go.Program}(h:P.funcs.toList.any Go.Func.goes=false)(st:Go.Start)(s:String):P.goesAt st s=false:=by
 have h1:=goes_none h;unfold Go.Program.goesAt Go.Program.goesFrom;have a:(P.funcNamed s).any P.goes=false:=by
  cases P.funcNamed s with
  |none=>rfl
  |some f=>exact h1 f
 rw[a,Bool.false_or];cases st with
 |entering=>rfl
 |_=>exact List.any_eq_false.2 λf _=>by simp[h1 f]
theorem goes:false=Rows.conflictSoundUptoRow.goesBy Tryz.pinned.checked.prog:=(goesAt_none kr _ _).symm
theorem wfText:Rows.conflictSoundUptoRow.wfByText (Rows.OpenSpec.upto Rows.conflictSoundSpec)=true:=kr
end Go.Proofs.YtkenagjlanhnmaaGreatDoor.VJ
