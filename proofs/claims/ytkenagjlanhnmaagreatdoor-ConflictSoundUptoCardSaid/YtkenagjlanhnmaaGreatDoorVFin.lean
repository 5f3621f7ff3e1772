/- Nothing complies with the facts of a conflict that is accepted, and something complies without any one of them: the law returns true. Condition: the arguments hold together at most 1048576 values and letters. -/
import Derived.Test.YtkenagjlanhnmaaGreatDoorW15
import Derived.Test.YtkenagjlanhnmaaGreatDoorW43
set_option linter.all false
set_option maxHeartbeats 8000000
namespace Go.Proofs.YtkenagjlanhnmaaGreatDoor
open Go.V VJ
def goal:VJ.Goal:=by
 intro a h;rw[Tryz.params4]at h
 match a,h with
 | [d,x,k],h=>
  simp only[NM,zCF,zCG,zCH]at h;obtain⟨⟨k1,z,h1,rfl⟩,⟨k2,A,j,e2⟩,⟨k3,B,h3,rfl⟩,_⟩:=h;obtain⟨c,l,n⟩:=zAk h1;obtain⟨D,fs,e,o,m,b,g⟩:=Ia j;rw[e2]at e;cases e;obtain⟨_,i,_⟩:=pF _ _ _ h1;obtain⟨f,rd,wd,ks,C,ys,rfl,p,q,r,s,t,u,v,w,y⟩:=zAn h3;exact Yp l n o m b g i p q r s t u v w y Heap.emp
 | [],h=>exact h.elim
 | [_],h=>exact h.2.elim
 | [_,_],h=>exact h.2.2.elim
 |_::_::_::_::_,h=>exact h.2.2.2.elim
def conflict_sound:Rows.ConflictSoundUptoCardSaid:=VJ.card goal
#print axioms conflict_sound
end Go.Proofs.YtkenagjlanhnmaaGreatDoor
