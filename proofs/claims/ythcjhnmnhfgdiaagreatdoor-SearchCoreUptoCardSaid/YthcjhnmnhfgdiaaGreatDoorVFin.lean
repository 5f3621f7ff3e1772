/- The law returns true. Condition: the arguments hold together at most 1048576 values and letters. -/
import Derived.Test.YthcjhnmnhfgdiaaGreatDoorW15
import Derived.Test.YthcjhnmnhfgdiaaGreatDoorW42
set_option linter.all false
set_option maxHeartbeats 8000000
namespace Go.Proofs.YthcjhnmnhfgdiaaGreatDoor
open Go.V VJ
def goal:VJ.Goal:=by
 intro a h;rw[Tryz.params5] at h
 match a,h with
 | [d,x],h=>
  simp only[Uq,AM,AN] at h;obtain⟨⟨k1,l,h1,rfl⟩,⟨k2,m,f,e2⟩,_⟩:=h;obtain⟨c,g,j⟩:=CF h1;obtain⟨n,fs,e,k,i,b,_⟩:=L9 f;rw[e2] at e;cases e;exact Wp g j k i b Heap.emp
 | [],h=>exact h.elim
 | [_],h=>exact h.2.elim
 |_::_::_::_,h=>exact h.2.2.elim
def search_core:Rows.SearchCoreUptoCardSaid:=VJ.card goal
#print axioms search_core
end Go.Proofs.YthcjhnmnhfgdiaaGreatDoor
