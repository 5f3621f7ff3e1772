/- The notice of an output misses nothing, and without one of its licenses or changes, or with another text, it does: the law returns true. Condition: the arguments hold together at most 1048576 values and letters. -/
import Derived.Test.YtalepjdbhjinhaaGreatDoorW16
import Derived.Test.YtalepjdbhjinhaaGreatDoorW40
set_option linter.all false
namespace Go.Proofs.YtalepjdbhjinhaaGreatDoor
open Go.V VJ
theorem goal:VJ.Goal:=by
 intro das h;rw[Tryz.params5] at h
 match das,h with
 | [d,o],h=>
  simp only[zNJ,zaE,zdX] at h;obtain⟨⟨k1,c1,h1,rfl⟩,⟨k2,c2,h2,e2⟩,_⟩:=h;have hp:=(zD1 _ _ _ h1).2.1;obtain⟨n,fs,y,l,out,ca,cb,ce,cp,x,ta,oa,ld,m1,m2,m3,m4,rfl,hc,hs,hx,hl,hok,hy,hys,hl2,hn,hlo⟩:=zSf h1;obtain⟨m,e,hm⟩:=zAv Tryz.underlying5 h2;rw[e2] at e;cases e;rw[wE] at hm;simp[IntKind.min,IntKind.max,IntKind.signed,IntKind.bits] at hm;obtain⟨kk,rfl⟩:=Int.eq_ofNat_of_zero_le hm.1;exact zHU hc hs hx hl hok hy hys hl2 hn hlo out hp (by omega) Heap.emp
 | [],h=>exact h.elim
 | [_],h=>exact h.2.elim
 |_::_::_::_,h=>exact h.2.2.elim
theorem notice_fulfils:Rows.NoticeFulfilsUptoCardSaid:=VJ.card goal
#print axioms notice_fulfils
end Go.Proofs.YtalepjdbhjinhaaGreatDoor
