/- The conflict of the facts of a conflict are all of these, and further facts at the end of a case that is rejected do not change its conflict: the law returns true. Condition: the arguments hold together at most 1048576 values and letters. -/
import Derived.Test.YtkenagjlanhnmaaGreatDoorW15
import Derived.Test.YtkenagjlanhnmaaGreatDoorW45
set_option linter.all false
set_option maxHeartbeats 8000000
namespace Go.Proofs.YtkenagjlanhnmaaGreatDoor
open Go.V VJ
def goal:VJ.Goal:=by
 intro f h;rw[Tryz.params5]at h
 match f,h with
 | [d,x,y],h=>
  simp only[NI,zB8,zB9]at h;obtain⟨⟨k1,q,h1,rfl⟩,⟨k2,r,j,e2⟩,⟨k3,s,h3,e3⟩,_⟩:=h;obtain⟨c,k,n⟩:=zAg h1;obtain⟨t,fs,e,o,l,g,i⟩:=Ih j;rw[e2]at e;cases e;obtain⟨u,gs,e,p,m,a,b⟩:=Ih h3;rw[e3]at e;cases e;exact ck k n o l g i p m a b Heap.emp
 | [],h=>exact h.elim
 | [_],h=>exact h.2.elim
 | [_,_],h=>exact h.2.2.elim
 |_::_::_::_::_,h=>exact h.2.2.2.elim
def conflict_again:Rows.ConflictAgainUptoCardSaid:=VJ.card goal
#print axioms conflict_again
end Go.Proofs.YtkenagjlanhnmaaGreatDoor
