/- Everything in the notice of an output is there because of a duty for this output: the law returns true. Condition: the arguments hold together at most 1048576 values and letters. -/
import Derived.Test.YtalepjdbhjinhaaGreatDoorW16
import Derived.Test.YtalepjdbhjinhaaGreatDoorW40
set_option linter.all false
namespace Go.Proofs.YtalepjdbhjinhaaGreatDoor
open Go.V VJ
theorem goal:VJ.Goal:=by
 intro das h;rw[Tryz.params3] at h
 match das,h with
 | [d],h=>
  simp only[zMs,zZp] at h;obtain⟨⟨k1,c1,h1,rfl⟩,_⟩:=h;obtain⟨n,fs,y,l,out,ca,cb,ce,cp,x,ta,oa,ld,m1,m2,m3,m4,rfl,hc,hs,hx,hl,hok,hy,hys,hl2,hn,hlo⟩:=zSE h1;exact zJe hc hs hx hl hok hy hys hl2 hn hlo out Heap.emp
 | [],h=>exact h.elim
 |_::_::_,h=>exact h.2.elim
theorem notice_exact:Rows.NoticeExactUptoCardSaid:=VJ.card goal
#print axioms notice_exact
end Go.Proofs.YtalepjdbhjinhaaGreatDoor
