/- The law returns true. Condition: the arguments hold together at most 1048576 values and letters. -/
import Derived.Test.YthcjhnmnhfgdiaaGreatDoorW15
import Derived.Test.YthcjhnmnhfgdiaaGreatDoorW41
set_option linter.all false
set_option maxHeartbeats 8000000
namespace Go.Proofs.YthcjhnmnhfgdiaaGreatDoor
open Go.V VJ
def goal:VJ.Goal:=by
 intro a h;rw[Tryz.params7] at h
 match a,h with
 | [d,x],h=>
  simp only[Vx,BG,BH] at h;obtain⟨⟨k1,l,h1,rfl⟩,⟨k2,m,f,e2⟩,_⟩:=h;obtain⟨c,g,j⟩:=DA h1;obtain⟨n,fs,e,k,i,b,_⟩:=M4 f;rw[e2] at e;cases e;exact cI g j k i b Heap.emp
 | [],h=>exact h.elim
 | [_],h=>exact h.2.elim
 |_::_::_::_,h=>exact h.2.2.elim
def search_leaves:Rows.SearchLeavesUptoCardSaid:=VJ.card goal
#print axioms search_leaves
end Go.Proofs.YthcjhnmnhfgdiaaGreatDoor
