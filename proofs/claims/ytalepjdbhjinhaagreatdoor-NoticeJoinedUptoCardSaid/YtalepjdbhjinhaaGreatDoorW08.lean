/- From the contract of the law to the row, part 2. No condition. -/
import Derived.Shelf.Vars
import Derived.Test.YtalepjdbhjinhaaGreatDoorW07
set_option linter.all false
namespace Go.Proofs.YtalepjdbhjinhaaGreatDoor.VJ
open Go.ChangeShapes Go.WideShapes Go.ChangeAt Go.RowKit Go.V
noncomputable def zeros:Array Value:=Tryz.f4.params.map fun t=>((Tryz.prog.info? t).bind (·.zero)).getD undef
def S:List TypeId:=[38,9,27,29,33,34,36,22,23,24,25,83,30,31,65,56,139,143,147,3,4,62,168,63,137,60,51,391]
theorem plain:zRT Tryz.prog S=true:=by kernel_rfl
theorem argsT:Tryz.f4.params.toList.all (fun t=>zeG Tryz.prog S t&&Tryz.prog.readableRec t&&decide (t<Tryz.prog.types.size))=true:=by kernel_rfl
theorem argT1:∀t∈Tryz.f4.params.toList,zeG Tryz.prog S t=true:=fun t ht=>by
 have:=List.all_eq_true.1 argsT t ht;simp only[Bool.and_eq_true,decide_eq_true_eq] at this;exact this.1.1
theorem argT2:∀t∈Tryz.f4.params.toList,Tryz.prog.readableRec t=true∧t<Tryz.prog.types.size:=fun t ht=>by
 have:=List.all_eq_true.1 argsT t ht;simp only[Bool.and_eq_true,decide_eq_true_eq] at this;exact⟨this.1.2,this.2⟩
theorem res:Tryz.f4.resultTypes= #[4]:=by kernel_rfl
def Goal:Prop:=∀das:List D,zOO Tryz.prog Tryz.f4.params.toList das→zA Tryz.prog 4 das Heap.emp fun d _=>d= .bool true
theorem fn_eq {H:Type} {ds:List (DataW H)} {W:World} {enc:TypeId×Value→H} {vs:List Value} {ps:List MemPlace} (h:DataW.TrodAll enc Tryz.prog W 0 (fun _=>true) true Tryz.f4.params.toList vs ds ps):
  Rows.noticeJoinedSpec.fn H ds= { results:=[.lit (.bool true)],args:=ds } :=by
 have hl:=trodAll_length h;rw[Tryz.params4] at hl
 match ds,hl with
 | [_,_],_=>rfl
theorem maxGood {W:World} (hsh:W.ShapedOpen Tryz.prog) (g:Nat) (hg:Tryz.prog.globalNamed zG3=some g):∃m,W.cell? ⟨g,0,none⟩ =some (.int .i64 m):=by
 rw[show Tryz.prog.globalNamed zG3=some 0 by kernel_rfl] at hg;cases hg;exact cell_of_shapedOpen_int (zero:= #[.int .i64 0]) (t:=3) hsh (of_decide_eq_true (by kernel_rfl)) (by kernel_rfl) rfl (by kernel_rfl) (by kernel_rfl) Tryz.underlying3
set_option maxRecDepth 100000 in
theorem contract (goal:Goal) (H:Type) (enc:TypeId×Value→H) (W:World) (base:Nat) (args:Array Value) (ds gs:List (DataW H)) (before:List MemPlace)
  (hval:∀ (j:Nat) t v,Tryz.f4.params[j]? =some t→args[j]? =some v→Value.okWide Tryz.prog W .any base t v)
  (hW:DataW.Whole enc Tryz.prog Tryz.f4.params.toList Rows.noticeJoinedSpec.vars false W args.toList ds gs before) (hc:Rows.uptoSmall H (ds++gs)=true) (hlaid:laidMetH Tryz.prog Rows.noticeJoinedUptoRow.laid W) (hsh:W.ShapedOpen Tryz.prog):
  Calls Tryz.prog 4 args W fun e W'=>∃v,e= .returned v∧Rows.noticeJoinedSpec.post enc Tryz.prog Tryz.f4 false true false false W args v W':=by
 obtain⟨p,q,h1,h2,_⟩:=id hW;obtain⟨rfl,rfl⟩:=trodVars_none h2;have hs:qr ds=true:=by
  rw[List.append_nil] at hc;exact upto_smallBAll ds (by simpa [Rows.uptoSmall] using hc)
 obtain⟨das,hda,hshp⟩:=zOP plain argT1 h1 hs;exact zLV laidOut argT2 rfl (fn_eq h1) res Tryz.underlying4 hval hW hda ⟨fun g hg=>zM7 hlaid (by kernel_rfl) (i:=2) (by kernel_rfl) (show Tryz.prog.globalNamed zAG=some 1 by kernel_rfl) (t:=304) (e:=263) (n:=20) (by kernel_rfl) (by kernel_rfl) (by kernel_rfl) (by kernel_rfl) (by kernel_rfl),fun g hg=>maxGood hsh g hg⟩ (goal das hshp)
set_option maxRecDepth 100000 in
theorem reads (os:Os) {H:Type} (enc:TypeId×Value→H):∃places,DataW.whole enc Tryz.prog ((laidWorld os).forCall (fun _ _=>0) ⟨#[],zeros,[]⟩).memory Tryz.f4.params.toList Rows.noticeJoinedSpec.vars false zeros.toList 8=some ([.agg [.agg [.nil, .nil, .nil, .nil], .nil, .agg [.nil, .nil], .nil, .lit (.string []), .agg [.nil, .nil, .nil, .nil]], .lit (.string [])],[],places):=
 ⟨[],by kernel_rfl⟩
set_option maxRecDepth 100000 in
theorem lifted (goal:Goal) (os:Os) (started:os.Started) (H:Type) (enc:TypeId×Value→H) (F:Stop.Interp):
  ReturnsInHanded {} Tryz.checked os 4 .any ((Rows.OpenSpec.upto Rows.noticeJoinedSpec).preRow enc Tryz.prog Tryz.f4 Rows.noticeJoinedUptoRow.domain false Rows.noticeJoinedUptoRow.laid) (((Rows.OpenSpec.upto Rows.noticeJoinedSpec).at F).post enc Tryz.prog Tryz.f4 false true false false):=by
 obtain⟨places,hx⟩:=reads os enc;refine returnsInHanded_of_row (C:=Tryz.checked) (s:=Rows.OpenSpec.upto Rows.noticeJoinedSpec) own started (by kernel_rfl) Tryz.func4
  (witness_row_at (enc:=enc) (C:=Tryz.checked) false (laidWorld os) zeros rfl (by kernel_rfl) (by kernel_rfl) (by kernel_rfl)
   (OpenSpec.preRow_of_cond 8 hx (by kernel_rfl) (fun k hk=>by cases hk;kernel_rfl) (by kernel_rfl) (laid_met os zeros))) ?_
 intro W base args ds gs before hval hW _ hc _ hlaid hsh _;exact contract goal H enc W base args ds gs before hval hW (hc _ rfl) hlaid hsh
end Go.Proofs.YtalepjdbhjinhaaGreatDoor.VJ
