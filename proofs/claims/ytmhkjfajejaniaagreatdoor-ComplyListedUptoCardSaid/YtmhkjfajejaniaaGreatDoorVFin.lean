/- Exactly what Violations lists is accepted by Check, a choice that is decided complies exactly if the list is empty, and the first one is the least: the law returns true. Condition: the arguments hold together at most 1048576 values and letters. -/
import Derived.Test.YtmhkjfajejaniaaGreatDoorW16
import Derived.Test.YtmhkjfajejaniaaGreatDoorW37
import Derived.Test.YtmhkjfajejaniaaGreatDoorW38
set_option linter.unusedSimpArgs false
set_option linter.unusedVariables false
set_option linter.constructorNameAsVariable false
set_option linter.deprecated false
namespace Go.Proofs.YtmhkjfajejaniaaGreatDoor
open Go.V VJ
theorem goal:VJ.Goal:=by
 intro das h
 rw[Tryz.params3] at h
 match das,h with
 | [d,x,n,v],h=>
  simp only[zOm,zcS,zcT,zcU,zcV] at h
  obtain⟨⟨k1,c1,h1,rfl⟩,⟨k2,c2,h2,e2⟩,⟨k3,c3,h3,e3⟩,⟨k4,c4,h4,rfl⟩,_⟩:=h
  obtain⟨c,hc,hs⟩:=zac h1
  obtain⟨x',fs,e,hx,hl,hok⟩:=zWo h2
  rw[e2] at e
  cases e
  obtain⟨m,e,hm⟩:=zAe Tryz.underlying30 h3
  rw[e3] at e
  cases e
  obtain⟨w,hw⟩:=zae h4
  rw[wV] at hm
  simp[IntKind.min,IntKind.max,IntKind.signed,IntKind.bits] at hm
  obtain⟨n,rfl⟩:=Int.eq_ofNat_of_zero_le hm.1
  exact zIk hc hs hx hl hok (by omega) hw Heap.emp
 | [],h=>exact h.elim
 | [_],h=>exact h.2.elim
 | [_,_],h=>exact h.2.2.elim
 | [_,_,_],h=>exact h.2.2.2.elim
 |_::_::_::_::_::_,h=>exact h.2.2.2.2.elim
theorem comply_listed:Rows.ComplyListedUptoCardSaid:=VJ.card goal
#print axioms comply_listed
end Go.Proofs.YtmhkjfajejaniaaGreatDoor
