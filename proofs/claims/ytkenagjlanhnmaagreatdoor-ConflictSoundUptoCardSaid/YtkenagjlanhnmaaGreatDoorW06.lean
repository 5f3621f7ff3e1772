/- From the contract of the law to the row, part 1. No condition. -/
import Derived.Test.YtkenagjlanhnmaaGreatDoorW05
import Derived.Test.YtkenagjlanhnmaaGreatDoorCards
import Derived.Test.YtkenagjlanhnmaaGreatDoorTie
import Derived.WalkKit
import Derived.ProofKit
import Derived.OpenShut
import Derived.Deep.DeepHandedRow
set_option linter.all false
set_option maxHeartbeats 8000000
namespace Go.Proofs.YtkenagjlanhnmaaGreatDoor.VJ
open Go.ChangeShapes Go.WideShapes Go.ChangeAt Go.RowKit Go.V
theorem own:ownKnob Tryz.prog.godebug=none:=kr
theorem laidOut:laidOutB Tryz.prog=true:=kr
mutual
def cellsOfD:DataW Unit->List Value
 |.lit l=>match l with
  |.int k n=>[.int k n]
  |_=>[]
 |.agg ps=>cellsOfDs ps
 |_=>[]
def cellsOfDs:List (DataW Unit)->List Value
 | []=>[]
 |d::ds=>cellsOfD d++cellsOfDs ds
end
abbrev syntaxS:ByteArray:= { data:= #[105,110,118,97,108,105,100,32,115,121,110,116,97,120] }
abbrev rangeS:ByteArray:= { data:= #[118,97,108,117,101,32,111,117,116,32,111,102,32,114,97,110,103,101] }
noncomputable def low:Nat:=(World.holding Tryz.prog default ⟨#[],#[],[]⟩).heap.size
def putC(cs:List Value):Go.Obj->Go.Obj
 |.cells _ t frozen=>.cells cs.toArray t frozen
 |o=>o
noncomputable def laidWorld(os:Os):World:=
 let w0:=World.holding Tryz.prog os ⟨#[.cells #[.string syntaxS] 449,.cells #[.string rangeS] 449],#[],[]⟩
 { w0 with heap:=((((((w0.heap.modify 6 (putC (cellsOfD Rows.laid_math_bits_deBruijn32tab))).modify 7 (putC (cellsOfD Rows.laid_math_bits_deBruijn64tab))).modify 5 (putC (cellsOfD Rows.laid_internal_strconv_uint64pow10))).modify 2 (putC (cellsOfD Rows.laid_unicode_utf8_acceptRanges))).modify
  3 (putC [.iface 447 (.pointer (some ⟨low,0,none⟩))])).modify 4 (putC [.iface 447 (.pointer (some ⟨low+1,0,none⟩))])).modify 1 (putC (cellsOfD Rows.laid_unicode_utf8_first)) }
theorem length_le_bulk{H:Type} :∀ds:List (DataW H),ds.length<=Rows.uptoBulkAll ds
 | []=>Nat.zero_le _
 |d::ds=>by
  have:=length_le_bulk ds;have h1:1<=Rows.uptoBulk d:=by
   cases d with
   |lit l=>cases l<;>simp[Rows.uptoBulk]
   |_=>simp[Rows.uptoBulk]
  simp only[Rows.uptoBulkAll,List.length_cons];omega
mutual
theorem upto_smallB{H:Type} :∀d:DataW H,Rows.uptoBulk d<=1048576->smallB d=true
 |.lit l,h=>by
  cases l with
  |string s=>
   simp only[Rows.uptoBulk]at h;simp only[smallB,decide_eq_true_eq];omega
  |_=>rfl
 |.nil,_=>rfl
 |.ptr _,_=>rfl
 |.slice a spare,h=>by
  simp only[Rows.uptoBulk]at h;have:=length_le_bulk a;simp only[smallB,Bool.and_eq_true,decide_eq_true_eq];exact⟨by omega,upto_smallBAll a ow⟩
 |.agg parts,h=>by
  simp only[Rows.uptoBulk]at h;simp only[smallB];exact upto_smallBAll parts ow
 |.iface _ _,_=>rfl
 |.map _,_=>rfl
 |.held _,_=>rfl
theorem upto_smallBAll{H:Type} :∀ds:List (DataW H),Rows.uptoBulkAll ds<=1048576->sg ds=true
 | [],_=>rfl
 |d::ds,h=>by
  simp only[Rows.uptoBulkAll]at h;simp only[sg,Bool.and_eq_true];exact⟨upto_smallB d ow,upto_smallBAll ds ow⟩
end
theorem trodAll_length{H:Type}{enc:TypeId×Value->H}{W:World}{base:Nat}{held:Bool} :∀{a:List TypeId}{vs:List Value}{ds:List (DataW H)}{b:List MemPlace},DataW.TrodAll enc Tryz.prog W base (λ_=>true) held a vs ds b->ds.length=a.length
 | [],[],[],_,_=>rfl
 |_::_,_::_,_::_,_,⟨_,_,_,h,_⟩=>by rw[List.length_cons,List.length_cons,trodAll_length h]
 | [],[],_::_,_,h=>h.elim
 | [],_::_,_,_,h=>by simp[DataW.TrodAll]at h
 |_::_,[],_,_,h=>by simp[DataW.TrodAll]at h
 |_::_,_::_,[],_,h=>by simp[DataW.TrodAll]at h
theorem laid_met(a:Os)(args:Array Value):laidMet Tryz.prog Rows.conflictSoundUptoRow.laid ((laidWorld a).forCall (λ_ _=>0) ⟨#[],args,[]⟩).memory:=
 laidMet_of_run' 8 kr kr
end Go.Proofs.YtkenagjlanhnmaaGreatDoor.VJ
