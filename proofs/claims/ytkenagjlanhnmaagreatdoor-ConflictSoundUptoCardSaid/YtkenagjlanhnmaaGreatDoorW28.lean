/- Rules of the machine of abstract values, part 5. No condition. -/
import Derived.Test.YtkenagjlanhnmaaGreatDoorW27
import Derived.Lib.Join
import Derived.Lib.ItoaMem
set_option linter.all false
set_option maxHeartbeats 8000000
namespace Go.V
open Go.RowKit (Below)
def KO(d:D):Prop:=∃b,d=.bool b
def IsI(d:D):Prop:=∃n,d=.int .i64 n
def isI(n:Int):IsI (.int .i64 n):=⟨n,rfl⟩
def A3(b:Bool):KO (.bool b):=⟨b,rfl⟩
section
variable{P:Program}{g:Cfg}{n:Nat}{ro:Option Nat}{c:Code}{Q:Exit->Frm->Heap->Prop}{fr:Frm}{h:Heap}
def ZS(J:Nat->Frm->Heap->Prop)(len:Nat)(l:len<=1073741824)(d:J 1 fr h)
  (step:∀(i:Nat) fr h,i+1<len->decide (((i+1:Nat):Int)<(len:Int))=true->IntKind.i64.wrap (((i+1:Nat):Int)+1)=((i+1+1:Nat):Int)->IntKind.i64.wrap (((i+1:Nat):Int)-1)=(i:Int)->J (i+1) fr h->vwp P g n ro c (lr (J (i+1+1)) Q) fr h)
  (last:∀(i:Nat) fr h,decide ((i:Int)<(len:Int))=false->J i fr h->vwp P g n ro c (lr (λ_ _=>False) Q) fr h):vwp P g n ro (.loop c) Q fr h:=by
 refine qn (λk=>J (k+1)) (len-1) d λk fr h m j=> ?_;by_cases f:k+1<len
 .refine rH c ?_ fr h (step k fr h f (zR ow) (qH jL) (by rw[qP ow ow];omega) j)
  intro e b h' a;cases e with
  |normal=>exact⟨ow,a⟩
  |_=>exact a
 .refine rH c ?_ fr h (last (k+1) fr h (zN ow) j)
  intro e b h' a;cases e with
  |normal=>exact a.elim
  |_=>exact a
end
end Go.V
