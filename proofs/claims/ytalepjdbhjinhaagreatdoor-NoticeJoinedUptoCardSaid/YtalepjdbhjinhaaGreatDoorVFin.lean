/- The merged notice of two outputs misses nothing of any of them: the law returns true. Condition: the arguments hold together at most 1048576 values and letters. -/
import Derived.Test.YtalepjdbhjinhaaGreatDoorW16
import Derived.Test.YtalepjdbhjinhaaGreatDoorW40
set_option linter.all false
namespace Go.Proofs.YtalepjdbhjinhaaGreatDoor
open Go.V VJ
theorem goal:VJ.Goal:=by
 intro das h;rw[Tryz.params4] at h
 match das,h with
 | [d,o],h=>
  simp only[zOO,zb8,zfQ] at h;obtain⟨⟨k1,c1,h1,rfl⟩,⟨k2,c2,h2,e2⟩,_⟩:=h;obtain⟨n,fs,y,l,out,ca,cb,ce,cp,x,ta,oa,ld,m1,m2,m3,m4,rfl,hc,hs,hx,hl,hok,hy,hys,hl2,hn,hlo⟩:=zT7 h1;obtain⟨m,e,hm⟩:=qf Tryz.underlying9 h2;rw[e2] at e;cases e;exact zIa hc hs hx hl hok hy hys hl2 hn hlo out m Heap.emp
 | [],h=>exact h.elim
 | [_],h=>exact h.2.elim
 |_::_::_::_,h=>exact h.2.2.elim
theorem notice_joined:Rows.NoticeJoinedUptoCardSaid:=VJ.card goal
#print axioms notice_joined
end Go.Proofs.YtalepjdbhjinhaaGreatDoor
