/- From the contract of the law to the row, part 2. No condition. -/
import Derived.Shelf.Vars
import Derived.Test.YtkenagjlanhnmaaGreatDoorW06
set_option linter.all false
set_option maxHeartbeats 8000000
namespace Go.Proofs.YtkenagjlanhnmaaGreatDoor.VJ
open Go.ChangeShapes Go.WideShapes Go.ChangeAt Go.RowKit Go.V
noncomputable def zeros:Array Value:=Tryz.f4.params.map λt=>((Tryz.prog.info? t).bind (·.zero)).getD undef
def S:List TypeId:=[27,29,35,22,23,24,25,57,30,32,33,117,122,126,130,3,9,4,55,45,139,47,53,137,44,195,197]
theorem plain:IG Tryz.prog S=true:=kr
theorem argsT:Tryz.f4.params.toList.all (λt=>zHw Tryz.prog S t&&Tryz.prog.readableRec t&&decide (t<Tryz.prog.types.size))=true:=kr
theorem argT1:∀t∈Tryz.f4.params.toList,zHw Tryz.prog S t=true:=λt a=>by
 have:=List.all_eq_true.1 argsT t a;simp only[Bool.and_eq_true,decide_eq_true_eq]at this;exact this.1.1
theorem argT2:∀t∈Tryz.f4.params.toList,Tryz.prog.readableRec t=true/\t<Tryz.prog.types.size:=λt a=>by
 have:=List.all_eq_true.1 argsT t a;simp only[Bool.and_eq_true,decide_eq_true_eq]at this;exact⟨this.1.2,this.2⟩
theorem res:Tryz.f4.resultTypes= #[4]:=kr
def Goal:Prop:=∀das:List D,NM Tryz.prog Tryz.f4.params.toList das->zD Tryz.prog 4 das Heap.emp λd _=>d=.bool true
theorem fn_eq{H:Type}{ds:List (DataW H)}{W:World}{enc:TypeId×Value->H}{vs:List Value}{b:List MemPlace}(h:DataW.TrodAll enc Tryz.prog W 0 (λ_=>true) true Tryz.f4.params.toList vs ds b):
  Rows.conflictSoundSpec.fn H ds= { results:=[.lit (.bool true)],args:=ds } :=by
 have a:=trodAll_length h;rw[Tryz.params4]at a
 match ds,a with
 | [_,_,_],_=>rfl
theorem maxGood{W:World}(a:W.ShapedOpen Tryz.prog)(g:Nat)(b:Tryz.prog.globalNamed Xh=some g):∃m,W.cell? ⟨g,0,none⟩ =some (.int .i64 m):=by
 rw[show Tryz.prog.globalNamed Xh=some 0 by kernel_rfl]at b;cases b;exact cell_of_shapedOpen_int (zero:= #[.int .i64 0]) (t:=3) a (of_decide_eq_true kr) kr rfl kr kr Tryz.underlying3
set_option maxRecDepth 100000 in
theorem contract(goal:Goal)(H:Type)(enc:TypeId×Value->H)(W:World)(base:Nat)(args:Array Value)(ds gs:List (DataW H))(a:List MemPlace)
  (d:∀(j:Nat) t v,Tryz.f4.params[j]? =some t->args[j]? =some v->Value.okWide Tryz.prog W .any base t v)
  (l:DataW.Whole enc Tryz.prog Tryz.f4.params.toList Rows.conflictSoundSpec.vars false W args.toList ds gs a) (m:Rows.uptoSmall H (ds++gs)=true) (b:laidMetH Tryz.prog Rows.conflictSoundUptoRow.laid W) (k:W.ShapedOpen Tryz.prog):
  Calls Tryz.prog 4 args W λe r=>∃v,e=.returned v/\Rows.conflictSoundSpec.post enc Tryz.prog Tryz.f4 false true false false W args v r:=by
 obtain⟨p,q,h1,s,_⟩:=id l;obtain⟨rfl,rfl⟩:=trodVars_none s;have u:sg ds=true:=by
  rw[List.append_nil]at m;exact upto_smallBAll ds (by simpa [Rows.uptoSmall]using m)
 obtain⟨f,h,c⟩:=NS plain argT1 h1 u;exact Ru laidOut argT2 rfl (fn_eq h1) res Tryz.underlying4 d l h ⟨λg o=>P4 b kr (i:=2) kr (show Tryz.prog.globalNamed cY=some 5 by kernel_rfl) (t:=467) (e:=357) (n:=20) kr kr kr kr kr,λg o=>maxGood k g o⟩ (goal f c)
set_option maxRecDepth 100000 in
theorem reads(b:Os){H:Type}(enc:TypeId×Value->H):∃a,DataW.whole enc Tryz.prog ((laidWorld b).forCall (λ_ _=>0) ⟨#[],zeros,[]⟩).memory Tryz.f4.params.toList Rows.conflictSoundSpec.vars false zeros.toList 8=some ([.agg [.nil,.nil,.nil,.nil],.nil,.agg [.nil,.nil,.nil]],[],a):=
 ⟨[],kr⟩
set_option maxRecDepth 100000 in
theorem lifted(goal:Goal)(e:Os)(a:e.Started)(H:Type)(enc:TypeId×Value->H)(F:Stop.Interp):
  ReturnsInHanded {} Tryz.checked e 4 .any ((Rows.OpenSpec.upto Rows.conflictSoundSpec).preRow enc Tryz.prog Tryz.f4 Rows.conflictSoundUptoRow.domain false Rows.conflictSoundUptoRow.laid) (((Rows.OpenSpec.upto Rows.conflictSoundSpec).at F).post enc Tryz.prog Tryz.f4 false true false false):=by
 obtain⟨f,l⟩:=reads e enc;refine returnsInHanded_of_row (C:=Tryz.checked) (s:=Rows.OpenSpec.upto Rows.conflictSoundSpec) own a kr Tryz.func4
  (witness_row_at (enc:=enc) (C:=Tryz.checked) false (laidWorld e) zeros rfl kr kr kr
   (OpenSpec.preRow_of_cond 8 l kr (λk j=>by cases j;kernel_rfl) kr (laid_met e zeros))) ?_
 intro W base args ds gs b d h _ i _ c g _;exact contract goal H enc W base args ds gs b d h (i _ rfl) c g
end Go.Proofs.YtkenagjlanhnmaaGreatDoor.VJ
