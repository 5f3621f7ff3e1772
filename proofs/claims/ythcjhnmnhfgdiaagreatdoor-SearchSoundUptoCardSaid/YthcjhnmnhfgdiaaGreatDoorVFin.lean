/- The law returns true. Condition: the arguments hold together at most 1048576 values and letters. -/
import Derived.Test.YthcjhnmnhfgdiaaGreatDoorW15
import Derived.Test.YthcjhnmnhfgdiaaGreatDoorW42
set_option linter.all false
set_option maxHeartbeats 8000000
namespace Go.Proofs.YthcjhnmnhfgdiaaGreatDoor
open Go.V VJ
def goal:VJ.Goal:=by
 intro f h;rw[Tryz.params4] at h
 match f,h with
 | [d,x,a],h=>
  simp only[Ub,AG,AH,AJ] at h;obtain⟨⟨k1,s,h1,rfl⟩,⟨k2,t,l,e2⟩,⟨k3,u,h3,rfl⟩,_⟩:=h;obtain⟨c,m,p⟩:=D8 h1;obtain⟨A,fs,e,q,o,i,_⟩:=L7 l;rw[e2] at e;cases e;obtain⟨b,y,v,z,w,rd,rfl,r,k,j,n,g⟩:=Ca h3;exact YC m p q o i r k j n g Heap.emp
 | [],h=>exact h.elim
 | [_],h=>exact h.2.elim
 | [_,_],h=>exact h.2.2.elim
 |_::_::_::_::_,h=>exact h.2.2.2.elim
def search_sound:Rows.SearchSoundUptoCardSaid:=VJ.card goal
#print axioms search_sound
end Go.Proofs.YthcjhnmnhfgdiaaGreatDoor
