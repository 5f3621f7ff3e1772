/- A violation of a partial choice is one of the choice that decides the rest: the law returns true. Condition: the arguments hold together at most 1048576 values and letters. -/
import Derived.Test.YtmhkjfajejaniaaGreatDoorW16
import Derived.Test.YtmhkjfajejaniaaGreatDoorW37
import Derived.Test.YtmhkjfajejaniaaGreatDoorW40
set_option linter.all false
namespace Go.V
open Go.Proofs
theorem shp_bools {k:Nat} {c:List D} (h:Shp Tryz.prog k 59 c):∃d l,c= [d]∧zX 1 (zRt l) d∧l.length≤1048576:=by
 obtain⟨d,xs,j,e,hj,hs,_,hl,hx⟩:=zE5 Tryz.underlying59 zcs h;obtain⟨l,rfl,hk⟩:=zBy (f:=fun s:Bool=>[D.bool s]) (p:=fun _=>True) fun y hy=>by
  obtain⟨b,e⟩:=zQD Tryz.underlying4 (hx y hy);exact⟨b,e,trivial⟩
 rw[List.length_map] at hl;exact⟨d,l,e,hs,hl⟩
end Go.V
namespace Go.Proofs.YtmhkjfajejaniaaGreatDoor
open Go.V VJ
theorem goal:VJ.Goal:=by
 intro das h;rw[Tryz.params4] at h
 match das,h with
 | [d,x,n,op],h=>
  simp only[zPJ,zct,zcu,zcv,zcw] at h;obtain⟨⟨k1,c1,h1,rfl⟩,⟨k2,c2,h2,e2⟩,⟨k3,c3,h3,e3⟩,⟨k4,c4,h4,e4⟩,_⟩:=h;obtain⟨c,hc,hs⟩:=za1 h1;have hp2:=(zB8 _ _ _ h2).2.1;obtain⟨x',fs,e,hx,hl,hok,hpl⟩:=zUw h2;rw[e] at hp2;rw[e2] at e;cases e;obtain⟨m,e,hm⟩:=zBR Tryz.underlying30 h3;rw[e3] at e;cases e;obtain⟨op',ol,e,ho,hol⟩:=shp_bools h4;rw[e4] at e;cases e;rw[wa] at hm;simp[IntKind.min,IntKind.max,IntKind.signed,IntKind.bits] at hm;obtain⟨n,rfl⟩:=Int.eq_ofNat_of_zero_le hm.1;exact zIm hc hs (zB8 _ _ _ h1).2.1 hx hp2.1 hl hok (by omega) ho hol Heap.emp
 | [],h=>exact h.elim
 | [_],h=>exact h.2.elim
 | [_,_],h=>exact h.2.2.elim
 | [_,_,_],h=>exact h.2.2.2.elim
 |_::_::_::_::_::_,h=>exact h.2.2.2.2.elim
theorem comply_decides:Rows.ComplyDecidesUptoCardSaid:=VJ.card goal
#print axioms comply_decides
end Go.Proofs.YtmhkjfajejaniaaGreatDoor
