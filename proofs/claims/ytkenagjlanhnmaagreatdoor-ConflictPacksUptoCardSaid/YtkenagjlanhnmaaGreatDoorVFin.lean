/- The conflicts of a packing are right and disjoint, the case without all of their facts is accepted, and the first one is that of the case: the law returns true. Condition: the arguments hold together at most 1048576 values and letters. -/
import Derived.Test.YtkenagjlanhnmaaGreatDoorW15
import Derived.Test.YtkenagjlanhnmaaGreatDoorW42
set_option linter.all false
set_option maxHeartbeats 8000000
namespace Go.Proofs.YtkenagjlanhnmaaGreatDoor
open Go.V VJ
def goal:VJ.Goal:=by
 intro a h;rw[Tryz.params6]at h
 match a,h with
 | [d,x],h=>
  simp only[MZ,zDt,zDu]at h;obtain⟨⟨k1,o,h1,rfl⟩,⟨k2,p,i,e2⟩,_⟩:=h;obtain⟨c,k,m⟩:=zCM h1;obtain⟨q,fs,e,n,l,b,f⟩:=GS i;rw[e2]at e;cases e;obtain⟨_,j,_⟩:=rD _ _ _ h1;obtain⟨_,g,_⟩:=rD _ _ _ i;rw[e2]at g;exact Xf k m n l b f j g.1 Heap.emp
 | [],h=>exact h.elim
 | [_],h=>exact h.2.elim
 |_::_::_::_,h=>exact h.2.2.elim
def conflict_packs:Rows.ConflictPacksUptoCardSaid:=VJ.card goal
#print axioms conflict_packs
end Go.Proofs.YtkenagjlanhnmaaGreatDoor
