/- A choice that complies with a case complies with each part of its facts: the law returns true. Condition: the arguments hold together at most 1048576 values and letters. -/
import Derived.Test.YtmhkjfajejaniaaGreatDoorW16
import Derived.Test.YtmhkjfajejaniaaGreatDoorW37
import Derived.Test.YtmhkjfajejaniaaGreatDoorW41
set_option linter.all false
namespace Go.Proofs.YtmhkjfajejaniaaGreatDoor
open Go.V VJ
theorem goal:VJ.Goal:=by
 intro das h;rw[Tryz.params6] at h
 match das,h with
 | [d,x,n,kp],h=>
  simp only[zPO,zc0,zc1,zc2] at h;obtain⟨⟨k1,c1,h1,rfl⟩,⟨k2,c2,h2,e2⟩,⟨k3,c3,h3,e3⟩,⟨k4,c4,h4,e4⟩,_⟩:=h;obtain⟨c,hc,hs⟩:=za5 h1;obtain⟨x',fs,e,hx,hl,hok,hpl⟩:=zUv h2;rw[e2] at e;cases e;obtain⟨m,e,hm⟩:=zA4 Tryz.underlying30 h3;rw[e3] at e;cases e;obtain⟨kp,e,_⟩:=zA4 Tryz.underlying30 h4;rw[e4] at e;cases e;rw[wq] at hm;simp[IntKind.min,IntKind.max,IntKind.signed,IntKind.bits] at hm;obtain⟨n,rfl⟩:=Int.eq_ofNat_of_zero_le hm.1;exact zGx hc hs (zDK _ _ _ h1).2.1 hx hl hok hpl (by omega) kp Heap.emp
 | [],h=>exact h.elim
 | [_],h=>exact h.2.elim
 | [_,_],h=>exact h.2.2.elim
 | [_,_,_],h=>exact h.2.2.2.elim
 |_::_::_::_::_::_,h=>exact h.2.2.2.2.elim
theorem comply_monotone:Rows.ComplyMonotoneUptoCardSaid:=VJ.card goal
#print axioms comply_monotone
end Go.Proofs.YtmhkjfajejaniaaGreatDoor
