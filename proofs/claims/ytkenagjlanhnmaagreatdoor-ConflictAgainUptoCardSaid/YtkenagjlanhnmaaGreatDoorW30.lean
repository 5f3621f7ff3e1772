/- Rules of the machine of abstract values, part 5. No condition. -/
import Derived.Test.YtkenagjlanhnmaaGreatDoorW29
import Derived.Lib.Join
import Derived.Lib.ItoaMem
set_option linter.all false
set_option maxHeartbeats 8000000
namespace Go.V
open Go.RowKit (Below)
def KU(d:D):Prop:=∃b,d=.bool b
def IsI(d:D):Prop:=∃n,d=.int .i64 n
def isI(n:Int):IsI (.int .i64 n):=⟨n,rfl⟩
def A0(b:Bool):KU (.bool b):=⟨b,rfl⟩
section
variable{P:Program}{g:Cfg}{n:Nat}{ro:Option Nat}{c:Code}{Q:Exit->Frm->Heap->Prop}{fr:Frm}{h:Heap}
def ZT(J:Nat->Frm->Heap->Prop)(len:Nat)(l:len<=1073741824)(d:J 1 fr h)
  (step:∀(i:Nat) fr h,i+1<len->decide (((i+1:Nat):Int)<(len:Int))=true->IntKind.i64.wrap (((i+1:Nat):Int)+1)=((i+1+1:Nat):Int)->IntKind.i64.wrap (((i+1:Nat):Int)-1)=(i:Int)->J (i+1) fr h->vwp P g n ro c (cW (J (i+1+1)) Q) fr h)
  (last:∀(i:Nat) fr h,decide ((i:Int)<(len:Int))=false->J i fr h->vwp P g n ro c (cW (λ_ _=>False) Q) fr h):vwp P g n ro (.loop c) Q fr h:=by
 refine qx (λk=>J (k+1)) (len-1) d λk fr h m j=> ?_;by_cases f:k+1<len
 ·refine rT c ?_ fr h (step k fr h f (zS ow) (qR (by unfold lim;omega)) (by rw[qU ow ow];omega) j);intro e b h' a;cases e with
  |normal=>exact⟨by omega,a⟩
  |_=>exact a
 ·refine rT c ?_ fr h (last (k+1) fr h (zP ow) j);intro e b h' a;cases e with
  |normal=>exact a.elim
  |_=>exact a
end
end Go.V
