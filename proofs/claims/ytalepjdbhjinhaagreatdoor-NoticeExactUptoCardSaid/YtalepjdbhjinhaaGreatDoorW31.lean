/- Rules of the machine of abstract values, part 5. No condition. -/
import Derived.Test.YtalepjdbhjinhaaGreatDoorW30
import Derived.Lib.Join
import Derived.Lib.ItoaMem
import Derived.Test.YtalepjdbhjinhaaGreatDoorW28
set_option linter.all false
namespace Go.V
open Go.RowKit (Below)
section
variable {h0 h h':Heap} {sz:Nat} {L:List (List (List D) ×D)}
end
section
variable {P:Program} {g:Cfg} {n:Nat} {ro:Option Nat} {Q:Exit→Frm→Heap→Prop} {fr:Frm} {h:Heap}
end
def zYz (d:D):Prop:=∃b,d= .bool b
def IsI (d:D):Prop:=∃n,d= .int .i64 n
theorem isI (n:Int):IsI (.int .i64 n):=⟨n,rfl⟩
theorem zY0 (b:Bool):zYz (.bool b):=⟨b,rfl⟩
section
variable {P:Program} {g:Cfg} {n:Nat} {ro:Option Nat} {c:Code} {Q:Exit→Frm→Heap→Prop} {fr:Frm} {h:Heap}
theorem zH5 (J:Nat→Frm→Heap→Prop) (len:Nat) (hlen:len≤1073741824) (hJ0:J 1 fr h)
  (step:∀ (i:Nat) fr h,i+1<len→decide (((i+1:Nat):Int)<(len:Int))=true→IntKind.i64.wrap (((i+1:Nat):Int)+1)=((i+1+1:Nat):Int)→IntKind.i64.wrap (((i+1:Nat):Int)-1)=(i:Int)→J (i+1) fr h→vwp P g n ro c (zC1 (J (i+1+1)) Q) fr h)
  (last:∀ (i:Nat) fr h,decide ((i:Int)<(len:Int))=false→J i fr h→vwp P g n ro c (zC1 (fun _ _=>False) Q) fr h):vwp P g n ro (.loop c) Q fr h:=by
 refine yJ (fun k=>J (k+1)) (len-1) hJ0 fun k fr h hk hJ=> ?_;by_cases hlt:k+1<len
 ·refine qX c ?_ fr h (step k fr h hlt (decide_eq_true (by omega)) (zh (by unfold lim;omega)) (by rw[zq (by omega) (by omega)];omega) hJ);intro e fr' h' hq;cases e with
  |normal=>exact⟨by omega,hq⟩
  |_=>exact hq
 ·refine qX c ?_ fr h (last (k+1) fr h (decide_eq_false (by omega)) hJ);intro e fr' h' hq;cases e with
  |normal=>exact hq.elim
  |_=>exact hq
end
open Go.Proofs
set_option maxRecDepth 100000
theorem zBl {l:List (List UInt8)} {d e:D} (hd:zV 1 (zy l) d) (he:zV 1 (zy l) e) (hl:l.length≤1048576) (h:Heap):
  zA Tryz.prog 38 [d,e] h fun r h'=>h'=h∧r= .bool true:=by
 have hll:((zy l).length:Int)=l.length:=by rw[zH]
 refine zA.of_fn (g:=zW8) mix Tryz.func38 zgZ rfl rfl ?_;simp only[Tryz.f38,gJ];have hne:((l.length:Int) !=l.length)=false:=by simp
 simp only[go_sem,Nat.reduceEqDiff,↓reduceIte,zP hd Tryz.underlying31,zP he Tryz.underlying31,hll,hne];refine yJ (fun i fr h'=>fr 0=d∧fr 1=e∧fr 5= .int .i64 (i:Int)∧h'=h) l.length (by simp[go_sem]) ?_;rintro i fr h' hi ⟨f0,f1,f5,rfl⟩;simp only[go_sem,Nat.reduceEqDiff,↓reduceIte,f0,f1,f5,zP hd Tryz.underlying31,hll];by_cases hlt:i<l.length
 ·have e1:decide ((i:Int)<l.length)=true:=decide_eq_true (by omega);have hsame:(l[i]==l[i])=true:=by simp
  simp only[go_sem,Nat.reduceEqDiff,↓reduceIte,f0,f1,f5,e1];refine zg (by kernel_rfl) ?_;simp only[go_sem,Nat.reduceEqDiff,↓reduceIte,f0,f1,f5,zF hd zi qH (qY hlt),zF he zi qH (qY hlt),zS,hsame,Bool.not_true,zh (show i<lim by unfold lim;omega)];exact⟨hlt,by rw[zh (by unfold lim;omega)]⟩
 ·have e1:decide ((i:Int)<l.length)=false:=decide_eq_false (by omega);simp only[go_sem,Nat.reduceEqDiff,↓reduceIte,f0,f1,f5,e1]
theorem zbb {n:Note} {x y:D} (hx:zH3 n x) (hy:zH3 n y) (hs:n.Sm) (h:Heap):
  zA Tryz.prog 9 [x,y] h fun r h'=>h'=h∧r= .bool true:=by
 obtain⟨a1,a2,a3,a4,rfl,ha1,ha2,ha3,ha4⟩:=hx;obtain⟨b1,b2,b3,b4,rfl,hb1,hb2,hb3,hb4⟩:=hy;refine zA.of_fn (g:=zdH) mix Tryz.func9 ok9 rfl rfl ?_;simp only[Tryz.f9,gJ];simp only[go_sem,Nat.reduceEqDiff,↓reduceIte,zx,Nat.reduceAdd,Nat.zero_add,zS,List.getElem?_cons_zero,List.getElem?_cons_succ];refine(zBl ha1 hb1 hs.ls.1 h).mono ?_;rintro r h ⟨rfl,rfl⟩;simp only[go_sem,Nat.reduceEqDiff,↓reduceIte,zx,Nat.reduceAdd,Nat.zero_add,zS,List.getElem?_cons_zero,List.getElem?_cons_succ];refine(zBl ha2 hb2 hs.ts.1 h).mono ?_;rintro r h ⟨rfl,rfl⟩
 simp only[go_sem,Nat.reduceEqDiff,↓reduceIte,zx,Nat.reduceAdd,Nat.zero_add,zS,List.getElem?_cons_zero,List.getElem?_cons_succ];refine(zBl ha3 hb3 hs.hs.1 h).mono ?_;rintro r h ⟨rfl,rfl⟩;simp only[go_sem,Nat.reduceEqDiff,↓reduceIte,zx,Nat.reduceAdd,Nat.zero_add,zS,List.getElem?_cons_zero,List.getElem?_cons_succ];refine(zBl ha4 hb4 hs.cs.1 h).mono ?_;rintro r h ⟨rfl,rfl⟩;simp only[go_sem,Nat.reduceEqDiff,↓reduceIte]
end Go.V
