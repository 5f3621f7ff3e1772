/- From the contract of the law to the row, part 2. No condition. -/
import Derived.Shelf.Vars
import Derived.Test.YtkenagjlanhnmaaGreatDoorW06
set_option linter.all false
set_option maxHeartbeats 8000000
namespace Go.Proofs.YtkenagjlanhnmaaGreatDoor.VJ
open Go.ChangeShapes Go.WideShapes Go.ChangeAt Go.RowKit Go.V
noncomputable def zeros:Array Value:=Tryz.f6.params.map λt=>((Tryz.prog.info? t).bind (·.zero)).getD undef
def S:List TypeId:=[27,29,22,23,24,25,57,117,122,126,130,3,9,4,55,45,30,53]
theorem plain:H6 Tryz.prog S=true:=kr
theorem argsT:Tryz.f6.params.toList.all (λt=>zJV Tryz.prog S t&&Tryz.prog.readableRec t&&decide (t<Tryz.prog.types.size))=true:=kr
theorem argT1:∀t∈Tryz.f6.params.toList,zJV Tryz.prog S t=true:=λt a=>by
 have:=List.all_eq_true.1 argsT t a;simp only[Bool.and_eq_true,decide_eq_true_eq]at this;exact this.1.1
theorem argT2:∀t∈Tryz.f6.params.toList,Tryz.prog.readableRec t=true/\t<Tryz.prog.types.size:=λt a=>by
 have:=List.all_eq_true.1 argsT t a;simp only[Bool.and_eq_true,decide_eq_true_eq]at this;exact⟨this.1.2,this.2⟩
theorem res:Tryz.f6.resultTypes= #[4]:=kr
def Goal:Prop:=∀das:List D,MZ Tryz.prog Tryz.f6.params.toList das->zE Tryz.prog 6 das Heap.emp λd _=>d=.bool true
theorem fn_eq{H:Type}{ds:List (DataW H)}{W:World}{enc:TypeId×Value->H}{vs:List Value}{b:List MemPlace}(h:DataW.TrodAll enc Tryz.prog W 0 (λ_=>true) true Tryz.f6.params.toList vs ds b):
  Rows.conflictPacksSpec.fn H ds= { results:=[.lit (.bool true)],args:=ds } :=by
 have a:=trodAll_length h;rw[Tryz.params6]at a
 match ds,a with
 | [_,_],_=>rfl
theorem maxGood{W:World}(a:W.ShapedOpen Tryz.prog)(g:Nat)(b:Tryz.prog.globalNamed WV=some g):∃m,W.cell? ⟨g,0,none⟩ =some (.int .i64 m):=by
 rw[show Tryz.prog.globalNamed WV=some 0 by kernel_rfl]at b;cases b;exact cell_of_shapedOpen_int (zero:= #[.int .i64 0]) (t:=3) a (of_decide_eq_true kr) kr rfl kr kr Tryz.underlying3
set_option maxRecDepth 100000 in
theorem contract(goal:Goal)(H:Type)(enc:TypeId×Value->H)(W:World)(base:Nat)(args:Array Value)(ds gs:List (DataW H))(a:List MemPlace)
  (d:∀(j:Nat) t v,Tryz.f6.params[j]? =some t->args[j]? =some v->Value.okWide Tryz.prog W .any base t v)
  (l:DataW.Whole enc Tryz.prog Tryz.f6.params.toList Rows.conflictPacksSpec.vars false W args.toList ds gs a) (m:Rows.uptoSmall H (ds++gs)=true) (b:laidMetH Tryz.prog Rows.conflictPacksUptoRow.laid W) (k:W.ShapedOpen Tryz.prog):
  Calls Tryz.prog 6 args W λe r=>∃v,e=.returned v/\Rows.conflictPacksSpec.post enc Tryz.prog Tryz.f6 false true false false W args v r:=by
 obtain⟨p,q,h1,s,_⟩:=id l;obtain⟨rfl,rfl⟩:=trodVars_none s;have u:rI ds=true:=by
  rw[List.append_nil]at m;exact upto_smallBAll ds (by simpa [Rows.uptoSmall]using m)
 obtain⟨f,h,c⟩:=Me plain argT1 h1 u;exact Qy laidOut argT2 rfl (fn_eq h1) res Tryz.underlying4 d l h ⟨λg o=>MN b kr (i:=2) kr (show Tryz.prog.globalNamed bW=some 5 by kernel_rfl) (t:=467) (e:=357) (n:=20) kr kr kr kr kr,λg o=>maxGood k g o⟩ (goal f c)
set_option maxRecDepth 100000 in
theorem reads(b:Os){H:Type}(enc:TypeId×Value->H):∃a,DataW.whole enc Tryz.prog ((laidWorld b).forCall (λ_ _=>0) ⟨#[],zeros,[]⟩).memory Tryz.f6.params.toList Rows.conflictPacksSpec.vars false zeros.toList 8=some ([.agg [.nil,.nil,.nil,.nil],.nil],[],a):=
 ⟨[],kr⟩
set_option maxRecDepth 100000 in
theorem lifted(goal:Goal)(e:Os)(a:e.Started)(H:Type)(enc:TypeId×Value->H)(F:Stop.Interp):
  ReturnsInHanded {} Tryz.checked e 6 .any ((Rows.OpenSpec.upto Rows.conflictPacksSpec).preRow enc Tryz.prog Tryz.f6 Rows.conflictPacksUptoRow.domain false Rows.conflictPacksUptoRow.laid) (((Rows.OpenSpec.upto Rows.conflictPacksSpec).at F).post enc Tryz.prog Tryz.f6 false true false false):=by
 obtain⟨f,l⟩:=reads e enc;refine returnsInHanded_of_row (C:=Tryz.checked) (s:=Rows.OpenSpec.upto Rows.conflictPacksSpec) own a kr Tryz.func6
  (witness_row_at (enc:=enc) (C:=Tryz.checked) false (laidWorld e) zeros rfl kr kr kr
   (OpenSpec.preRow_of_cond 8 l kr (λk j=>by cases j;kernel_rfl) kr (laid_met e zeros))) ?_
 intro W base args ds gs b d h _ i _ c g _;exact contract goal H enc W base args ds gs b d h (i _ rfl) c g
end Go.Proofs.YtkenagjlanhnmaaGreatDoor.VJ
