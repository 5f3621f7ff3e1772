/- A conflict has a shipping, and for each of its other facts one that it concerns: the law returns true. Condition: the arguments hold together at most 1048576 values and letters. -/
import Derived.Test.YtkenagjlanhnmaaGreatDoorW15
import Derived.Test.YtkenagjlanhnmaaGreatDoorW44
set_option linter.all false
set_option maxHeartbeats 8000000
namespace Go.Proofs.YtkenagjlanhnmaaGreatDoor
open Go.V VJ
def goal:VJ.Goal:=by
 intro a h;rw[Tryz.params7]at h
 match a,h with
 | [d,x],h=>
  simp only[NI,zB8,zB9]at h;obtain⟨⟨k1,m,h1,rfl⟩,⟨k2,n,g,e2⟩,_⟩:=h;obtain⟨c,i,k⟩:=zAg h1;obtain⟨o,fs,e,l,j,b,f⟩:=Ih g;rw[e2]at e;cases e;exact Yp i k l j b f Heap.emp
 | [],h=>exact h.elim
 | [_],h=>exact h.2.elim
 |_::_::_::_,h=>exact h.2.2.elim
def conflict_kinds:Rows.ConflictKindsUptoCardSaid:=VJ.card goal
#print axioms conflict_kinds
end Go.Proofs.YtkenagjlanhnmaaGreatDoor
