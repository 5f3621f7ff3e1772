/- Rules of the machine of abstract values, part 5. No condition. -/
import Derived.Test.YtalepjdbhjinhaaGreatDoorW30
import Derived.Lib.Join
import Derived.Lib.ItoaMem
import Derived.Test.YtalepjdbhjinhaaGreatDoorW28
set_option linter.all false
namespace Go.V
open Go.RowKit (Below)
section
variable {h0 h h':Heap} {sz:Nat} {L:List (List (List D) ×D)}
end
section
variable {P:Program} {g:Cfg} {n:Nat} {ro:Option Nat} {Q:Exit→Frm→Heap→Prop} {fr:Frm} {h:Heap}
end
def zZN (d:D):Prop:=∃b,d= .bool b
def IsI (d:D):Prop:=∃n,d= .int .i64 n
theorem isI (n:Int):IsI (.int .i64 n):=⟨n,rfl⟩
theorem zZO (b:Bool):zZN (.bool b):=⟨b,rfl⟩
section
variable {P:Program} {g:Cfg} {n:Nat} {ro:Option Nat} {c:Code} {Q:Exit→Frm→Heap→Prop} {fr:Frm} {h:Heap}
theorem zIS (J:Nat→Frm→Heap→Prop) (len:Nat) (hlen:len≤1073741824) (hJ0:J 1 fr h)
  (step:∀ (i:Nat) fr h,i+1<len→decide (((i+1:Nat):Int)<(len:Int))=true→IntKind.i64.wrap (((i+1:Nat):Int)+1)=((i+1+1:Nat):Int)→IntKind.i64.wrap (((i+1:Nat):Int)-1)=(i:Int)→J (i+1) fr h→vwp P g n ro c (zDC (J (i+1+1)) Q) fr h)
  (last:∀ (i:Nat) fr h,decide ((i:Int)<(len:Int))=false→J i fr h→vwp P g n ro c (zDC (fun _ _=>False) Q) fr h):vwp P g n ro (.loop c) Q fr h:=by
 refine yM (fun k=>J (k+1)) (len-1) hJ0 fun k fr h hk hJ=> ?_;by_cases hlt:k+1<len
 ·refine qd c ?_ fr h (step k fr h hlt (decide_eq_true (by omega)) (ze (by unfold lim;omega)) (by rw[zw (by omega) (by omega)];omega) hJ);intro e fr' h' hq;cases e with
  |normal=>exact⟨by omega,hq⟩
  |_=>exact hq
 ·refine qd c ?_ fr h (last (k+1) fr h (decide_eq_false (by omega)) hJ);intro e fr' h' hq;cases e with
  |normal=>exact hq.elim
  |_=>exact hq
end
open Go.Proofs
set_option maxRecDepth 100000
theorem zBt {l:List (List UInt8)} {d e:D} (hd:zX 1 (zx l) d) (he:zX 1 (zx l) e) (hl:l.length≤1048576) (h:Heap):
  zA Tryz.prog 38 [d,e] h fun r h'=>h'=h∧r= .bool true:=by
 have hll:((zx l).length:Int)=l.length:=by rw[zH]
 refine zA.of_fn (g:=zXX) mix Tryz.func38 zgv rfl rfl ?_;simp only[Tryz.f38,gJ];have hne:((l.length:Int) !=l.length)=false:=by simp
 simp only[go_sem,Nat.reduceEqDiff,↓reduceIte,zQ hd Tryz.underlying31,zQ he Tryz.underlying31,hll,hne];refine yM (fun i fr h'=>fr 0=d∧fr 1=e∧fr 5= .int .i64 (i:Int)∧h'=h) l.length (by simp[go_sem]) ?_;rintro i fr h' hi ⟨f0,f1,f5,rfl⟩;simp only[go_sem,Nat.reduceEqDiff,↓reduceIte,f0,f1,f5,zQ hd Tryz.underlying31,hll];by_cases hlt:i<l.length
 ·have e1:decide ((i:Int)<l.length)=true:=decide_eq_true (by omega);have hsame:(l[i]==l[i])=true:=by simp
  simp only[go_sem,Nat.reduceEqDiff,↓reduceIte,f0,f1,f5,e1];refine zf (by kernel_rfl) ?_;simp only[go_sem,Nat.reduceEqDiff,↓reduceIte,f0,f1,f5,zG hd zm qF (qe hlt),zG he zm qF (qe hlt),zU,hsame,Bool.not_true,ze (show i<lim by unfold lim;omega)];exact⟨hlt,by rw[ze (by unfold lim;omega)]⟩
 ·have e1:decide ((i:Int)<l.length)=false:=decide_eq_false (by omega);simp only[go_sem,Nat.reduceEqDiff,↓reduceIte,f0,f1,f5,e1]
theorem zbz {n:Note} {x y:D} (hx:zC4 n x) (hy:zC4 n y) (hs:n.Sm) (h:Heap):
  zA Tryz.prog 9 [x,y] h fun r h'=>h'=h∧r= .bool true:=by
 obtain⟨a1,a2,a3,a4,rfl,ha1,ha2,ha3,ha4⟩:=hx;obtain⟨b1,b2,b3,b4,rfl,hb1,hb2,hb3,hb4⟩:=hy;refine zA.of_fn (g:=zdg) mix Tryz.func9 ok9 rfl rfl ?_;simp only[Tryz.f9,gJ];simp only[go_sem,Nat.reduceEqDiff,↓reduceIte,z6,Nat.reduceAdd,Nat.zero_add,zU,List.getElem?_cons_zero,List.getElem?_cons_succ];refine(zBt ha1 hb1 hs.ls.1 h).mono ?_;rintro r h ⟨rfl,rfl⟩;simp only[go_sem,Nat.reduceEqDiff,↓reduceIte,z6,Nat.reduceAdd,Nat.zero_add,zU,List.getElem?_cons_zero,List.getElem?_cons_succ];refine(zBt ha2 hb2 hs.ts.1 h).mono ?_;rintro r h ⟨rfl,rfl⟩
 simp only[go_sem,Nat.reduceEqDiff,↓reduceIte,z6,Nat.reduceAdd,Nat.zero_add,zU,List.getElem?_cons_zero,List.getElem?_cons_succ];refine(zBt ha3 hb3 hs.hs.1 h).mono ?_;rintro r h ⟨rfl,rfl⟩;simp only[go_sem,Nat.reduceEqDiff,↓reduceIte,z6,Nat.reduceAdd,Nat.zero_add,zU,List.getElem?_cons_zero,List.getElem?_cons_succ];refine(zBt ha4 hb4 hs.cs.1 h).mono ?_;rintro r h ⟨rfl,rfl⟩;simp only[go_sem,Nat.reduceEqDiff,↓reduceIte]
end Go.V
