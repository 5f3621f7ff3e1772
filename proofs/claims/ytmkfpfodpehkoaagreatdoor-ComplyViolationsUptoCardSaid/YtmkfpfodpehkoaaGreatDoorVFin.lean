/- The law returns true. Condition: the arguments hold together at most 1048576 values and letters. -/
import Derived.Test.YtmkfpfodpehkoaaGreatDoorW15
import Derived.Test.YtmkfpfodpehkoaaGreatDoorW46
set_option linter.all false
set_option maxHeartbeats 8000000
namespace Go.Proofs.YtmkfpfodpehkoaaGreatDoor
open Go.V VJ
def goal:VJ.Goal:=by
 intro a h;rw[Tryz.params3]at h
 match a,h with
 | [d,x,y],h=>
  simp only[Pf,Ai,Aj,Ak]at h;obtain⟨⟨k1,o,h1,rfl⟩,⟨k2,p,i,e2⟩,⟨k3,q,h3,rfl⟩,_⟩:=h;obtain⟨c,j,l⟩:=BA h1;obtain⟨t,fs,e,m,k,b⟩:=GG i;rw[e2]at e;cases e;obtain⟨y,s,r,rfl,n,g,f⟩:=BB h3;exact zK6 j l m k b n g f Heap.emp
 | [],h=>exact h.elim
 | [_],h=>exact h.2.elim
 | [_,_],h=>exact h.2.2.elim
 |_::_::_::_::_,h=>exact h.2.2.2.elim
def comply_violations:Rows.ComplyViolationsUptoCardSaid:=VJ.card goal
#print axioms comply_violations
end Go.Proofs.YtmkfpfodpehkoaaGreatDoor
