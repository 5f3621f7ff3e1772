/- A choice that complies has no duty that is forbidden and none for which something is lacking, and with a forbidden duty it has a violation: the law returns true. Condition: the arguments hold together at most 1048576 values and letters. -/
import Derived.Test.YtmhkjfajejaniaaGreatDoorW16
import Derived.Test.YtmhkjfajejaniaaGreatDoorW36
import Derived.Test.YtmhkjfajejaniaaGreatDoorW42
set_option linter.all false
namespace Go.Proofs.YtmhkjfajejaniaaGreatDoor
open Go.V VJ
theorem goal:VJ.Goal:=by
 intro das h;rw[Tryz.params7] at h
 match das,h with
 | [d,x,n],h=>
  simp only[zPQ,zdQ,zdR,zdS] at h;obtain⟨⟨k1,c1,h1,rfl⟩,⟨k2,c2,h2,e2⟩,⟨k3,c3,h3,e3⟩,_⟩:=h;obtain⟨c,hc,hs⟩:=zbY h1;obtain⟨x',fs,e,hx,hl,hok,hpl⟩:=zVD h2;rw[e2] at e;cases e;obtain⟨m,e,hm⟩:=zBY Tryz.underlying30 h3;rw[e3] at e;cases e;rw[wg] at hm;simp[IntKind.min,IntKind.max,IntKind.signed,IntKind.bits] at hm;obtain⟨n,rfl⟩:=Int.eq_ofNat_of_zero_le hm.1;exact zI4 hc hs hx hl hok (by omega) Heap.emp
 | [],h=>exact h.elim
 | [_],h=>exact h.2.elim
 | [_,_],h=>exact h.2.2.elim
 |_::_::_::_::_,h=>exact h.2.2.2.elim
theorem comply_duties:Rows.ComplyDutiesUptoCardSaid:=VJ.card goal
#print axioms comply_duties
end Go.Proofs.YtmhkjfajejaniaaGreatDoor
