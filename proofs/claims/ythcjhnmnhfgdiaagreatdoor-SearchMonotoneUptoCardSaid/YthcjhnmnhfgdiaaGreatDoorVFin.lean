/- The law returns true. Condition: the arguments hold together at most 1048576 values and letters. -/
import Derived.Test.YthcjhnmnhfgdiaaGreatDoorW15
import Derived.Test.YthcjhnmnhfgdiaaGreatDoorW42
set_option linter.all false
set_option maxHeartbeats 8000000
namespace Go.Proofs.YthcjhnmnhfgdiaaGreatDoor
open Go.V VJ
def goal:VJ.Goal:=by
 intro a h;rw[Tryz.params6] at h
 match a,h with
 | [d,x,f],h=>
  simp only[UV,Bp,Bq,Bu] at h;obtain⟨⟨k1,m,h1,rfl⟩,⟨k2,n,g,e2⟩,⟨k3,o,h3,e3⟩,_⟩:=h;obtain⟨c,i,k⟩:=Di h1;obtain⟨p,fs,e,l,j,b,_⟩:=Lb g;rw[e2] at e;cases e;obtain⟨f,e,_⟩:=ss Tryz.underlying59 h3;rw[e3] at e;cases e;exact j8 i k l j b f Heap.emp
 | [],h=>exact h.elim
 | [_],h=>exact h.2.elim
 | [_,_],h=>exact h.2.2.elim
 |_::_::_::_::_,h=>exact h.2.2.2.elim
def search_monotone:Rows.SearchMonotoneUptoCardSaid:=VJ.card goal
#print axioms search_monotone
end Go.Proofs.YthcjhnmnhfgdiaaGreatDoor
