/- The law returns true. Condition: the arguments hold together at most 1048576 values and letters. -/
import Derived.Test.YtmkfpfodpehkoaaGreatDoorW15
import Derived.Test.YtmkfpfodpehkoaaGreatDoorW46
set_option linter.all false
set_option maxHeartbeats 8000000
namespace Go.Proofs.YtmkfpfodpehkoaaGreatDoor
open Go.V VJ
def goal:VJ.Goal:=by
 intro a h;rw[Tryz.params4]at h
 match a,h with
 | [d,x,y,v],h=>
  simp only[Pf,Ai,Aj,Ak,Al]at h;obtain⟨⟨k1,q,h1,rfl⟩,⟨k2,r,i,e2⟩,⟨k3,s,h3,rfl⟩,⟨k4,t,j,rfl⟩,_⟩:=h;obtain⟨c,k,m⟩:=BA h1;obtain⟨A,fs,e,o,l,b⟩:=GG i;rw[e2]at e;cases e;obtain⟨y,z,u,rfl,p,g,f⟩:=BB h3;obtain⟨w,n⟩:=BH j;exact X6 k m o l b p g f n Heap.emp
 | [],h=>exact h.elim
 | [_],h=>exact h.2.elim
 | [_,_],h=>exact h.2.2.elim
 | [_,_,_],h=>exact h.2.2.2.elim
 |_::_::_::_::_::_,h=>exact h.2.2.2.2.elim
def comply_checks:Rows.ComplyChecksUptoCardSaid:=VJ.card goal
#print axioms comply_checks
end Go.Proofs.YtmkfpfodpehkoaaGreatDoor
