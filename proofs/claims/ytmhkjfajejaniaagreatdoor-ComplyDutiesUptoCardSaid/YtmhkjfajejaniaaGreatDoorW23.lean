/- Rules of the machine of abstract values, part 5. No condition. -/
import Derived.Test.YtmhkjfajejaniaaGreatDoorW22
import Derived.Lib.Join
import Derived.Lib.ItoaMem
import Derived.Test.YtmhkjfajejaniaaGreatDoorW21
import Derived.Lib.SlicesCompact
import Derived.Lib.RowBridge
import Derived.Sort.Walk0
import Derived.Test.YtmhkjfajejaniaaGreatDoorW17
import Derived.Shelf.SlSortCmp.WholeK
import Derived.Ground.SlsfProg
import Derived.Test.YtmhkjfajejaniaaGreatDoorProg
import Derived.Shelf.SlSortCmp.Whole1
import Derived.Shelf.Strings.Builder1
import Derived.Shelf.Strconv.Atoi
import Derived.Shelf.Strings.Search1
import Derived.Shelf.Strings.Search2
import Derived.Shelf.Strings.Search3
import Derived.Shelf.Strings.Count
import Derived.Shelf.Sort.Plain
import Derived.Shelf.Strings.SlTrimAscii
set_option linter.all false
namespace Go.V
open Go.RowKit (Below)
section
variable {h0 h h':Heap} {sz:Nat} {L:List (List (List D) ×D)}
end
section
variable {P:Program} {g:Cfg} {n:Nat} {ro:Option Nat} {Q:Exit→Frm→Heap→Prop} {fr:Frm} {h:Heap}
end
open Go.Proofs
abbrev Str:=List UInt8
theorem zKw (a b:Str):zIi a b=decide (a<b):=bytesLess_eq a b
def zGL (s:List UInt8):List (List D):=s.map fun b=>[.int .u8 (b.toNat:Int)]
theorem zKx (s:List UInt8):(zGL s).length=s.length:=List.length_map ..
theorem zRU {s:List UInt8} {i:Nat} (h:i<s.length):(zGL s)[i]? =some [.int .u8 (s[i].toNat:Int)]:=by simp[zGL,h]
theorem zRV (s:List UInt8):we Tryz.prog 9 233 (.str s)=some (.sl 1 (zGL s) .no):=by
 simp only[we,Tryz.underlying9,Tryz.underlying233,Tryz.underlying5,zGL]
set_option maxRecDepth 100000
def yj (a b:Int):Int:=if a<b then -1 else if a>b then 1 else 0
def qh:List Int→List Int→Int
 | [],[]=>0
 | [],_::_=> -1
 |_::_,[]=>1
 |a::l,b::m=>if yj a b=0 then qh l m else yj a b
def orL:List Int→Int
 | []=>0
 |a::l=>if a=0 then orL l else a
theorem zUR {l m:List Int} :∀ {i:Nat},i<l.length→(hm:i<m.length)→qh (l.drop i) (m.drop i)=if yj (l.getD i 0) (m.getD i 0)=0 then qh (l.drop (i+1)) (m.drop (i+1)) else yj (l.getD i 0) (m.getD i 0):=by
 intro i hl hm;rw[List.drop_eq_getElem_cons hl,List.drop_eq_getElem_cons hm];simp[qh,List.getD_eq_getElem?_getD,hl,hm]
theorem zUS (a:Int) (h:Heap):zA Tryz.prog 144 [.int .i64 a] h fun r h'=>h'=h∧r= .bool false:=by
 refine zA.of_fn (g:=zTT) mix Tryz.func144 zdt rfl rfl ?_;simp only[Tryz.f144,gJ];simp only[go_sem,Nat.reduceEqDiff,↓reduceIte,bne_self_eq_false,and_self]
theorem zH5 (a b:Int) (h:Heap):zA Tryz.prog 95 [.int .i64 a, .int .i64 b] h fun r h'=>h'=h∧r= .int .i64 (yj a b):=by
 refine zA.of_fn (g:=zaF) mix Tryz.func95 zkY rfl rfl ?_;simp only[Tryz.f95,gJ];simp only[go_sem,Nat.reduceEqDiff,↓reduceIte];refine(zUS a h).mono ?_;rintro r h ⟨rfl,rfl⟩;simp only[go_sem,Nat.reduceEqDiff,↓reduceIte];refine(zUS b h).mono ?_;rintro r h ⟨rfl,rfl⟩;simp only[go_sem,Nat.reduceEqDiff,↓reduceIte];cases e1:decide (a<b) with
 |true=>
  simp only[go_sem,Nat.reduceEqDiff,↓reduceIte];simp[yj,of_decide_eq_true e1]
 |false=>
  simp only[go_sem,Nat.reduceEqDiff,↓reduceIte];cases e2:decide (a>b) with
  |true=>
   simp only[go_sem,Nat.reduceEqDiff,↓reduceIte];simp[yj,of_decide_eq_false e1,of_decide_eq_true e2]
  |false=>
   simp only[go_sem,Nat.reduceEqDiff,↓reduceIte];simp[yj,of_decide_eq_false e1,of_decide_eq_false e2]
theorem zfW {l:List Int} {d:D} (hd:zf 1 (wU l) d) (hl:l.length≤1048576) (h:Heap):zA Tryz.prog 94 [d] h fun r h'=>h'=h∧r= .int .i64 (orL l):=by
 refine zA.of_fn (g:=zZ9) mix Tryz.func94 zkQ rfl rfl ?_;simp only[Tryz.f94,gJ];have hll:((wU l).length:Int)=l.length:=by rw[yp]
 simp only[go_sem,Nat.reduceEqDiff,↓reduceIte,yo hd Tryz.underlying31,hll];refine zy (fun i fr h'=>fr 3= .int .i64 0∧fr 6=d∧fr 7= .int .i64 l.length∧fr 8= .int .i64 (i:Int)∧h'=h∧orL (l.drop i)=orL l) l.length ?_ ?_
 ·simp only[go_sem,Nat.reduceEqDiff,↓reduceIte,true_and,List.drop_zero]
  trivial
 rintro i fr h' hi ⟨f3,f6,f7,f8,rfl,ho⟩;simp only[go_sem,Nat.reduceEqDiff,↓reduceIte,f3,f6,f7,f8];by_cases hlt:i<l.length
 ·rw[decide_eq_true (by exact_mod_cast hlt)];rw[List.drop_eq_getElem_cons hlt] at ho;simp only[orL] at ho;simp only[go_sem,Nat.reduceEqDiff,↓reduceIte,f3,f6,f7,f8,zY hd yG wP (zQM hlt),zBU];by_cases h0:l[i]=0
  ·rw[show(l[i] !=0)=false by simp[h0]];simp only[go_sem,Nat.reduceEqDiff,↓reduceIte,f3,f6,f7,f8];rw[if_pos h0] at ho;exact⟨hlt,by rw[zh (by unfold lim;omega)],ho⟩
  ·rw[show(l[i] !=0)=true by simp[h0]];simp only[go_sem,Nat.reduceEqDiff,↓reduceIte];rw[if_neg h0] at ho;rw[ho]
 ·have hie:i=l.length:=by omega
  subst hie;rw[decide_eq_false (by omega)];simp only[go_sem,Nat.reduceEqDiff,↓reduceIte,f3];rw[List.drop_length] at ho;rw[←ho];trivial
def zOS (n:Nat):Bool:= !(decide (97≤n)&&decide (n≤122)||decide (48≤n)&&decide (n≤57)||decide (n=46)||decide (n=95)||decide (n=45))
theorem zOT (n:Nat) (h:Heap):zA Tryz.prog 230 [.int .i32 n] h fun r h'=>h'=h∧r= .bool (zOS n):=by
 refine zA.of_fn (g:=zTL) mix Tryz.func230 zdh rfl rfl ?_;simp only[Tryz.f230,gJ];have key:∀b1 b2 b3 b4 b5 b6 b7:Bool,decide ((n:Int)≥97)=b1→decide ((n:Int)≤122)=b2→decide ((n:Int)≥48)=b3→decide ((n:Int)≤57)=b4→((n:Int)==46)=b5→((n:Int)==95)=b6→((n:Int)==45)=b7→zOS n= !(b1&&b2||b3&&b4||b5||b6||b7):=by
  rintro _ _ _ _ _ _ _ rfl rfl rfl rfl rfl rfl rfl;have e5:((n:Int)==46)=decide (n=46):=by by_cases e:n=46<;>simp[e]<;>omega
  have e6:((n:Int)==95)=decide (n=95):=by by_cases e:n=95<;>simp[e]<;>omega
  have e7:((n:Int)==45)=decide (n=45):=by by_cases e:n=45<;>simp[e]<;>omega
  have e1:decide ((n:Int)≥97)=decide (97≤n):=by by_cases e:97≤n<;>simp[e]<;>omega
  have e2:decide ((n:Int)≤122)=decide (n≤122):=by by_cases e:n≤122<;>simp[e]<;>omega
  have e3:decide ((n:Int)≥48)=decide (48≤n):=by by_cases e:48≤n<;>simp[e]<;>omega
  have e4:decide ((n:Int)≤57)=decide (n≤57):=by by_cases e:n≤57<;>simp[e]<;>omega
  rw[e1,e2,e3,e4,e5,e6,e7];rfl
 cases h1:decide ((n:Int)≥97)<;>cases h2:decide ((n:Int)≤122)<;>cases h3:decide ((n:Int)≥48)<;>cases h4:decide ((n:Int)≤57)<;>cases h5:((n:Int)==46)<;>cases h6:((n:Int)==95)<;>cases h7:((n:Int)==45)<;>rw[key _ _ _ _ _ _ _ h1 h2 h3 h4 h5 h6 h7] <;>
  simp only[go_sem,Nat.reduceEqDiff,↓reduceIte,vun,h1,h2,h3,h4,h5,h6,h7]<;>rfl
def zKy (s:List UInt8):Bool:=match s with
 | []=>false
 |b::r=> !(decide ((b::r).length>32)||(b==46||(b==45||zAC zOS (b::r) ((b::r).length+1) 0)))
theorem zRW {s:List UInt8} (hl:s.length≤1048576) (h:Heap):zA Tryz.prog 167 [.str s] h fun r h'=>h'=h∧r= .bool (zKy s):=by
 refine zA.of_fn (g:=zTG) mix Tryz.func167 zdf rfl rfl ?_;simp only[Tryz.f167,gJ];cases s with
 |nil=>simp only[go_sem,Nat.reduceEqDiff,↓reduceIte,show(([]:List UInt8)== [])=true from rfl,zKy]
 |cons b r=>
  have h0:((b::r:List UInt8)== [])=false:=rfl;have hi:zBi Tryz.prog 9 (.str (b::r)) (.int .i64 0)=some (.int .u8 b.toNat):=zAa (n:=0) Tryz.underlying9 rfl;have e1:((b.toNat:Int)==46)=(b==46):=by
   by_cases e:b=46
   ·subst e;rfl
   ·rw[beq_eq_false_iff_ne.2 e,beq_eq_false_iff_ne.2 fun h=>e (UInt8.toNat_inj.1 (by rw[show(46:UInt8).toNat=46 from rfl];omega))]
  have e2:((b.toNat:Int)==45)=(b==45):=by
   by_cases e:b=45
   ·subst e;rfl
   ·rw[beq_eq_false_iff_ne.2 e,beq_eq_false_iff_ne.2 fun h=>e (UInt8.toNat_inj.1 (by rw[show(45:UInt8).toNat=45 from rfl];omega))]
  have e0:decide (((b::r).length:Int)>32)=decide ((b::r).length>32):=by
   by_cases e:(b::r).length>32
   ·rw[decide_eq_true e,decide_eq_true (by omega)]
   ·rw[decide_eq_false e,decide_eq_false (by omega)]
  cases h1:decide ((b::r).length>32) with
  |true=>
   simp only[go_sem,Nat.reduceEqDiff,↓reduceIte,h0,wC Tryz.underlying9,e0,h1];simp only[zKy,h1];rfl
  |false=>
  cases h2:(b==46) with
  |true=>
   simp only[go_sem,Nat.reduceEqDiff,↓reduceIte,h0,wC Tryz.underlying9,e0,h1,hi,e1,h2];simp only[zKy,h1,h2];rfl
  |false=>
  cases h3:(b==45) with
  |true=>
   simp only[go_sem,Nat.reduceEqDiff,↓reduceIte,h0,wC Tryz.underlying9,e0,h1,hi,e1,e2,h2,h3];simp only[zKy,h1,h2,h3];rfl
  |false=>
   simp only[go_sem,Nat.reduceEqDiff,↓reduceIte,h0,wC Tryz.underlying9,e0,h1,hi,e1,e2,h2,h3];refine(zH2 hl (fun n _ h=>zOT n h) _).mono ?_;rintro q h2' ⟨rfl,rfl⟩;simp only[vun,go_sem,Nat.reduceEqDiff,↓reduceIte,zKy,h1,h2,h3]
def zOU (s:List UInt8):Int:=if s.length>128∨(zj 47 s).length>8∨(zj 47 s).any (fun p=> !zKy p)=true then 2 else 0
theorem zJj {s:List UInt8} (hl:s.length≤1048576) (h:Heap):zA Tryz.prog 117 [.str s] h fun r h'=>h'=h∧r= .int .i64 (zOU s):=by
 refine zA.of_fn (g:=zTD) mix Tryz.func117 zdc rfl rfl ?_;simp only[Tryz.f117,gJ];simp only[go_sem,Nat.reduceEqDiff,↓reduceIte];refine(zUO hl 47 _).mono ?_;rintro r h2 ⟨rfl,rfl⟩;have hlen:=zE5 47 s;have e0:decide ((s.length:Int)>128)=decide (s.length>128):=by
  by_cases e:s.length>128
  ·rw[decide_eq_true e,decide_eq_true (by omega)]
  ·rw[decide_eq_false e,decide_eq_false (by omega)]
 have e1:decide (((yW (zj 47 s)).length:Int)>8)=decide ((zj 47 s).length>8):=by
  rw[z6];by_cases e:(zj 47 s).length>8
  ·rw[decide_eq_true e,decide_eq_true (by omega)]
  ·rw[decide_eq_false e,decide_eq_false (by omega)]
 cases h1:decide (s.length>128) with
 |true=>
  simp only[go_sem,Nat.reduceEqDiff,↓reduceIte,wC Tryz.underlying9,e0,h1];rw[zOU,if_pos (.inl (of_decide_eq_true h1))]
 |false=>
 have g1:=of_decide_eq_false h1;cases h3:decide ((zj 47 s).length>8) with
 |true=>
  simp only[go_sem,Nat.reduceEqDiff,↓reduceIte,wC Tryz.underlying9,yo (zf.mk .no) Tryz.underlying40,e0,e1,h1,h3];rw[zOU,if_pos (.inr (.inl (of_decide_eq_true h3)))]
 |false=>
 have g3:=of_decide_eq_false h3;simp only[go_sem,Nat.reduceEqDiff,↓reduceIte,wC Tryz.underlying9,yo (zf.mk .no) Tryz.underlying40,e0,e1,h1,h3];refine(zH1 (zf.mk .no) (by omega) (p:=fun p=> !zKy p) (fun p hp h=> ?_) _).mono ?_
 ·refine zA.of_fn (g:=zT9) mix Tryz.func166 ze1 rfl rfl ?_;simp only[Tryz.f166,gJ];have:=zD5 47 s p hp;simp only[go_sem,Nat.reduceEqDiff,↓reduceIte];refine(zRW (by omega) _).mono ?_;rintro r h2 ⟨rfl,rfl⟩;simp only[vun,go_sem,Nat.reduceEqDiff,↓reduceIte]
 ·rintro r h2 ⟨rfl,rfl⟩;cases h4:(zj 47 s).any (fun p=> !zKy p) with
  |true=>
   simp only[go_sem,Nat.reduceEqDiff,↓reduceIte];rw[zOU,if_pos (.inr (.inr h4))]
  |false=>
   simp only[go_sem,Nat.reduceEqDiff,↓reduceIte];rw[zOU,if_neg (fun h=>h.elim g1 fun h=>h.elim g3 fun h=>by rw[h4] at h;cases h)]
def zgw (d:D):Prop:=∃b,d= .bool b
def IsI (d:D):Prop:=∃n,d= .int .i64 n
theorem isI (n:Int):IsI (.int .i64 n):=⟨n,rfl⟩
theorem zgx (b:Bool):zgw (.bool b):=⟨b,rfl⟩
section
variable {P:Program} {g:Cfg} {n:Nat} {ro:Option Nat} {c:Code} {Q:Exit→Frm→Heap→Prop} {fr:Frm} {h:Heap}
theorem zJk (J:Nat→Frm→Heap→Prop) (len:Nat) (hlen:len≤1073741824) (hJ0:J 1 fr h)
  (step:∀ (i:Nat) fr h,i+1<len→decide (((i+1:Nat):Int)<(len:Int))=true→IntKind.i64.wrap (((i+1:Nat):Int)+1)=((i+1+1:Nat):Int)→IntKind.i64.wrap (((i+1:Nat):Int)-1)=(i:Int)→J (i+1) fr h→vwp P g n ro c (zEF (J (i+1+1)) Q) fr h)
  (last:∀ (i:Nat) fr h,decide ((i:Int)<(len:Int))=false→J i fr h→vwp P g n ro c (zEF (fun _ _=>False) Q) fr h):vwp P g n ro (.loop c) Q fr h:=by
 refine zy (fun k=>J (k+1)) (len-1) hJ0 fun k fr h hk hJ=> ?_;by_cases hlt:k+1<len
 ·refine wA c ?_ fr h (step k fr h hlt (decide_eq_true (by omega)) (zh (by unfold lim;omega)) (by rw[zZ (by omega) (by omega)];omega) hJ);intro e fr' h' hq;cases e with
  |normal=>exact⟨by omega,hq⟩
  |_=>exact hq
 ·refine wA c ?_ fr h (last (k+1) fr h (decide_eq_false (by omega)) hJ);intro e fr' h' hq;cases e with
  |normal=>exact hq.elim
  |_=>exact hq
end
end Go.V
namespace Go.Proofs
open Go.Shelf
def Tryz.sortLic_ren:Go.Shelf.Ren:=⟨fun|6=>173|15=>162|14=>232|28=>219|29=>220|20=>138|21=>276|22=>277|23=>278|24=>279|25=>280|26=>281|27=>282|46=>321|47=>268|48=>269|49=>322|50=>323|57=>342|n=>n,fun|22=>22|24=>124|25=>126|3=>3|39=>239|0=>0|53=>286|55=>288|4=>4|46=>279|45=>278|50=>220|5=>5|9=>9|66=>317|70=>321|76=>361|77=>181|n=>n,fun|n=>n⟩
theorem Tryz.sortLic:Go.Proofs.SlLaysF0.n6 Tryz.prog Tryz.sortLic_ren:= {
 mixed:=by kernel_rfl
 f6:=⟨Tryz.f173.name,by decide,Tryz.func173.trans (congrArg some (by kernel_rfl))⟩
 f14:=⟨Tryz.f232.name,by decide,Tryz.func232.trans (congrArg some (by kernel_rfl))⟩
 f15:=Tryz.func162.trans (congrArg some (by kernel_rfl))
 f20:=⟨Tryz.f138.name,by decide,Tryz.func138.trans (congrArg some (by kernel_rfl))⟩
 f21:=⟨Tryz.f276.name,by decide,Tryz.func276.trans (congrArg some (by kernel_rfl))⟩
 f22:=⟨Tryz.f277.name,by decide,Tryz.func277.trans (congrArg some (by kernel_rfl))⟩
 f23:=⟨Tryz.f278.name,by decide,Tryz.func278.trans (congrArg some (by kernel_rfl))⟩
 f24:=⟨Tryz.f279.name,by decide,Tryz.func279.trans (congrArg some (by kernel_rfl))⟩
 f25:=⟨Tryz.f280.name,by decide,Tryz.func280.trans (congrArg some (by kernel_rfl))⟩
 f26:=⟨Tryz.f281.name,by decide,Tryz.func281.trans (congrArg some (by kernel_rfl))⟩
 f27:=⟨Tryz.f282.name,by decide,Tryz.func282.trans (congrArg some (by kernel_rfl))⟩
 f28:=Tryz.func219.trans (congrArg some (by kernel_rfl))
 f29:=Tryz.func220.trans (congrArg some (by kernel_rfl))
 f46:=⟨Tryz.f321.name,by decide,Tryz.func321.trans (congrArg some (by kernel_rfl))⟩
 f47:=Tryz.func268.trans (congrArg some (by kernel_rfl))
 f48:=Tryz.func269.trans (congrArg some (by kernel_rfl))
 f49:=⟨Tryz.f322.name,by decide,Tryz.func322.trans (congrArg some (by kernel_rfl))⟩
 f50:=⟨Tryz.f323.name,by decide,Tryz.func323.trans (congrArg some (by kernel_rfl))⟩
 f57:=⟨Tryz.f342.name,by decide,Tryz.func342.trans (congrArg some (by kernel_rfl))⟩
 t0:=Tryz.underlying0
 a0:=Tryz.isAgg0
 z0:=Tryz.sizeOf0
 v0:=Tryz.zeroValue0
 t3:=Tryz.underlying3
 a3:=Tryz.isAgg3
 z3:=Tryz.sizeOf3
 v3:=Tryz.zeroValue3
 t4:=Tryz.underlying4
 a4:=Tryz.isAgg4
 z4:=Tryz.sizeOf4
 v4:=Tryz.zeroValue4
 t5:=Tryz.underlying5
 a5:=Tryz.isAgg5
 z5:=Tryz.sizeOf5
 v5:=Tryz.zeroValue5
 t9:=Tryz.underlying9
 a9:=Tryz.isAgg9
 z9:=Tryz.sizeOf9
 v9:=Tryz.zeroValue9
 t22:=Tryz.underlying22
 a22:=Tryz.isAgg22
 z22:=Tryz.sizeOf22
 v22:=Tryz.zeroValue22
 t25:=Tryz.underlying126
 a25:=Tryz.isAgg126
 z25:=Tryz.sizeOf126
 v25:=Tryz.zeroValue126
 t39:=Tryz.underlying239
 a39:=Tryz.isAgg239
 z39:=Tryz.sizeOf239
 v39:=Tryz.zeroValue239
 t45:=Tryz.underlying278
 a45:=Tryz.isAgg278
 z45:=Tryz.sizeOf278
 v45:=Tryz.zeroValue278
 t46:=Tryz.underlying279
 a46:=Tryz.isAgg279
 z46:=Tryz.sizeOf279
 v46:=Tryz.zeroValue279
 t50:=Tryz.underlying220
 a50:=Tryz.isAgg220
 z50:=Tryz.sizeOf220
 v50:=Tryz.zeroValue220
 t53:=Tryz.underlying286
 a53:=Tryz.isAgg286
 z53:=Tryz.sizeOf286
 v53:=Tryz.zeroValue286
 t55:=Tryz.underlying288
 a55:=Tryz.isAgg288
 z55:=Tryz.sizeOf288
 v55:=Tryz.zeroValue288
 t66:=Tryz.underlying317
 a66:=Tryz.isAgg317
 z66:=Tryz.sizeOf317
 v66:=Tryz.zeroValue317
 t70:=Tryz.underlying321
 a70:=Tryz.isAgg321
 z70:=Tryz.sizeOf321
 v70:=Tryz.zeroValue321
 t76:=Tryz.underlying361
 a76:=Tryz.isAgg361
 z76:=Tryz.sizeOf361
 v76:=Tryz.zeroValue361
 t77:=Tryz.underlying181
 a77:=Tryz.isAgg181
 z77:=Tryz.sizeOf181
 v77:=Tryz.zeroValue181 }
def Tryz.pdqTrm_ren:Go.Shelf.Ren:=⟨fun|14=>233|20=>283|21=>284|22=>285|23=>286|24=>287|25=>288|26=>289|27=>290|46=>324|47=>268|48=>269|49=>325|50=>326|15=>162|57=>343|28=>219|29=>220|n=>n,fun|24=>79|22=>61|3=>3|25=>244|4=>4|0=>0|46=>279|45=>278|50=>220|66=>317|39=>239|55=>288|70=>321|76=>361|77=>181|53=>286|5=>5|9=>9|n=>n,fun|n=>n⟩
theorem Tryz.pdqTrm:Go.Proofs.SlLaysF0.n14 Tryz.prog Tryz.pdqTrm_ren:= {
 mixed:=by kernel_rfl
 f14:=⟨Tryz.f233.name,by decide,Tryz.func233.trans (congrArg some (by kernel_rfl))⟩
 f15:=Tryz.func162.trans (congrArg some (by kernel_rfl))
 f20:=⟨Tryz.f283.name,by decide,Tryz.func283.trans (congrArg some (by kernel_rfl))⟩
 f21:=⟨Tryz.f284.name,by decide,Tryz.func284.trans (congrArg some (by kernel_rfl))⟩
 f22:=⟨Tryz.f285.name,by decide,Tryz.func285.trans (congrArg some (by kernel_rfl))⟩
 f23:=⟨Tryz.f286.name,by decide,Tryz.func286.trans (congrArg some (by kernel_rfl))⟩
 f24:=⟨Tryz.f287.name,by decide,Tryz.func287.trans (congrArg some (by kernel_rfl))⟩
 f25:=⟨Tryz.f288.name,by decide,Tryz.func288.trans (congrArg some (by kernel_rfl))⟩
 f26:=⟨Tryz.f289.name,by decide,Tryz.func289.trans (congrArg some (by kernel_rfl))⟩
 f27:=⟨Tryz.f290.name,by decide,Tryz.func290.trans (congrArg some (by kernel_rfl))⟩
 f28:=Tryz.func219.trans (congrArg some (by kernel_rfl))
 f29:=Tryz.func220.trans (congrArg some (by kernel_rfl))
 f46:=⟨Tryz.f324.name,by decide,Tryz.func324.trans (congrArg some (by kernel_rfl))⟩
 f47:=Tryz.func268.trans (congrArg some (by kernel_rfl))
 f48:=Tryz.func269.trans (congrArg some (by kernel_rfl))
 f49:=⟨Tryz.f325.name,by decide,Tryz.func325.trans (congrArg some (by kernel_rfl))⟩
 f50:=⟨Tryz.f326.name,by decide,Tryz.func326.trans (congrArg some (by kernel_rfl))⟩
 f57:=⟨Tryz.f343.name,by decide,Tryz.func343.trans (congrArg some (by kernel_rfl))⟩
 t0:=Tryz.underlying0
 a0:=Tryz.isAgg0
 z0:=Tryz.sizeOf0
 v0:=Tryz.zeroValue0
 t3:=Tryz.underlying3
 a3:=Tryz.isAgg3
 z3:=Tryz.sizeOf3
 v3:=Tryz.zeroValue3
 t4:=Tryz.underlying4
 a4:=Tryz.isAgg4
 z4:=Tryz.sizeOf4
 v4:=Tryz.zeroValue4
 t5:=Tryz.underlying5
 a5:=Tryz.isAgg5
 z5:=Tryz.sizeOf5
 v5:=Tryz.zeroValue5
 t9:=Tryz.underlying9
 a9:=Tryz.isAgg9
 z9:=Tryz.sizeOf9
 v9:=Tryz.zeroValue9
 t22:=Tryz.underlying61
 a22:=Tryz.isAgg61
 z22:=Tryz.sizeOf61
 v22:=Tryz.zeroValue61
 t25:=Tryz.underlying244
 a25:=Tryz.isAgg244
 z25:=Tryz.sizeOf244
 v25:=Tryz.zeroValue244
 t39:=Tryz.underlying239
 a39:=Tryz.isAgg239
 z39:=Tryz.sizeOf239
 v39:=Tryz.zeroValue239
 t45:=Tryz.underlying278
 a45:=Tryz.isAgg278
 z45:=Tryz.sizeOf278
 v45:=Tryz.zeroValue278
 t46:=Tryz.underlying279
 a46:=Tryz.isAgg279
 z46:=Tryz.sizeOf279
 v46:=Tryz.zeroValue279
 t50:=Tryz.underlying220
 a50:=Tryz.isAgg220
 z50:=Tryz.sizeOf220
 v50:=Tryz.zeroValue220
 t53:=Tryz.underlying286
 a53:=Tryz.isAgg286
 z53:=Tryz.sizeOf286
 v53:=Tryz.zeroValue286
 t55:=Tryz.underlying288
 a55:=Tryz.isAgg288
 z55:=Tryz.sizeOf288
 v55:=Tryz.zeroValue288
 t66:=Tryz.underlying317
 a66:=Tryz.isAgg317
 z66:=Tryz.sizeOf317
 v66:=Tryz.zeroValue317
 t70:=Tryz.underlying321
 a70:=Tryz.isAgg321
 z70:=Tryz.sizeOf321
 v70:=Tryz.zeroValue321
 t76:=Tryz.underlying361
 a76:=Tryz.isAgg361
 z76:=Tryz.sizeOf361
 v76:=Tryz.zeroValue361
 t77:=Tryz.underlying181
 a77:=Tryz.isAgg181
 z77:=Tryz.sizeOf181
 v77:=Tryz.zeroValue181 }
def Tryz.sortVio_ren:Go.Shelf.Ren:=⟨fun|6=>112|15=>162|14=>163|28=>219|29=>220|20=>221|21=>222|22=>223|23=>224|24=>225|25=>226|26=>227|27=>228|46=>272|47=>268|48=>269|49=>273|50=>274|57=>319|n=>n,fun|22=>45|24=>33|25=>155|3=>3|39=>239|0=>0|53=>286|55=>288|4=>4|46=>279|45=>278|50=>220|5=>5|9=>9|66=>317|70=>321|76=>361|77=>181|n=>n,fun|n=>n⟩
theorem Tryz.sortVio:Go.Proofs.SlLaysF0.n6 Tryz.prog Tryz.sortVio_ren:= {
 mixed:=by kernel_rfl
 f6:=⟨Tryz.f112.name,by decide,Tryz.func112.trans (congrArg some (by kernel_rfl))⟩
 f14:=⟨Tryz.f163.name,by decide,Tryz.func163.trans (congrArg some (by kernel_rfl))⟩
 f15:=Tryz.func162.trans (congrArg some (by kernel_rfl))
 f20:=⟨Tryz.f221.name,by decide,Tryz.func221.trans (congrArg some (by kernel_rfl))⟩
 f21:=⟨Tryz.f222.name,by decide,Tryz.func222.trans (congrArg some (by kernel_rfl))⟩
 f22:=⟨Tryz.f223.name,by decide,Tryz.func223.trans (congrArg some (by kernel_rfl))⟩
 f23:=⟨Tryz.f224.name,by decide,Tryz.func224.trans (congrArg some (by kernel_rfl))⟩
 f24:=⟨Tryz.f225.name,by decide,Tryz.func225.trans (congrArg some (by kernel_rfl))⟩
 f25:=⟨Tryz.f226.name,by decide,Tryz.func226.trans (congrArg some (by kernel_rfl))⟩
 f26:=⟨Tryz.f227.name,by decide,Tryz.func227.trans (congrArg some (by kernel_rfl))⟩
 f27:=⟨Tryz.f228.name,by decide,Tryz.func228.trans (congrArg some (by kernel_rfl))⟩
 f28:=Tryz.func219.trans (congrArg some (by kernel_rfl))
 f29:=Tryz.func220.trans (congrArg some (by kernel_rfl))
 f46:=⟨Tryz.f272.name,by decide,Tryz.func272.trans (congrArg some (by kernel_rfl))⟩
 f47:=Tryz.func268.trans (congrArg some (by kernel_rfl))
 f48:=Tryz.func269.trans (congrArg some (by kernel_rfl))
 f49:=⟨Tryz.f273.name,by decide,Tryz.func273.trans (congrArg some (by kernel_rfl))⟩
 f50:=⟨Tryz.f274.name,by decide,Tryz.func274.trans (congrArg some (by kernel_rfl))⟩
 f57:=⟨Tryz.f319.name,by decide,Tryz.func319.trans (congrArg some (by kernel_rfl))⟩
 t0:=Tryz.underlying0
 a0:=Tryz.isAgg0
 z0:=Tryz.sizeOf0
 v0:=Tryz.zeroValue0
 t3:=Tryz.underlying3
 a3:=Tryz.isAgg3
 z3:=Tryz.sizeOf3
 v3:=Tryz.zeroValue3
 t4:=Tryz.underlying4
 a4:=Tryz.isAgg4
 z4:=Tryz.sizeOf4
 v4:=Tryz.zeroValue4
 t5:=Tryz.underlying5
 a5:=Tryz.isAgg5
 z5:=Tryz.sizeOf5
 v5:=Tryz.zeroValue5
 t9:=Tryz.underlying9
 a9:=Tryz.isAgg9
 z9:=Tryz.sizeOf9
 v9:=Tryz.zeroValue9
 t22:=Tryz.underlying45
 a22:=Tryz.isAgg45
 z22:=Tryz.sizeOf45
 v22:=Tryz.zeroValue45
 t25:=Tryz.underlying155
 a25:=Tryz.isAgg155
 z25:=Tryz.sizeOf155
 v25:=Tryz.zeroValue155
 t39:=Tryz.underlying239
 a39:=Tryz.isAgg239
 z39:=Tryz.sizeOf239
 v39:=Tryz.zeroValue239
 t45:=Tryz.underlying278
 a45:=Tryz.isAgg278
 z45:=Tryz.sizeOf278
 v45:=Tryz.zeroValue278
 t46:=Tryz.underlying279
 a46:=Tryz.isAgg279
 z46:=Tryz.sizeOf279
 v46:=Tryz.zeroValue279
 t50:=Tryz.underlying220
 a50:=Tryz.isAgg220
 z50:=Tryz.sizeOf220
 v50:=Tryz.zeroValue220
 t53:=Tryz.underlying286
 a53:=Tryz.isAgg286
 z53:=Tryz.sizeOf286
 v53:=Tryz.zeroValue286
 t55:=Tryz.underlying288
 a55:=Tryz.isAgg288
 z55:=Tryz.sizeOf288
 v55:=Tryz.zeroValue288
 t66:=Tryz.underlying317
 a66:=Tryz.isAgg317
 z66:=Tryz.sizeOf317
 v66:=Tryz.zeroValue317
 t70:=Tryz.underlying321
 a70:=Tryz.isAgg321
 z70:=Tryz.sizeOf321
 v70:=Tryz.zeroValue321
 t76:=Tryz.underlying361
 a76:=Tryz.isAgg361
 z76:=Tryz.sizeOf361
 v76:=Tryz.zeroValue361
 t77:=Tryz.underlying181
 a77:=Tryz.isAgg181
 z77:=Tryz.sizeOf181
 v77:=Tryz.zeroValue181 }
def Tryz.sortAlt_ren:Go.Shelf.Ren:=⟨fun|6=>178|15=>162|14=>234|28=>219|29=>220|20=>291|21=>292|22=>293|23=>294|24=>295|25=>296|26=>297|27=>298|46=>327|47=>268|48=>269|49=>328|50=>329|57=>344|n=>n,fun|22=>39|24=>62|25=>246|3=>3|39=>239|0=>0|53=>286|55=>288|4=>4|46=>279|45=>278|50=>220|5=>5|9=>9|66=>317|70=>321|76=>361|77=>181|n=>n,fun|n=>n⟩
theorem Tryz.sortAlt:Go.Proofs.SlLaysF.n6 Tryz.prog Tryz.sortAlt_ren:= {
 mixed:=by kernel_rfl
 f6:=⟨Tryz.f178.name,by decide,Tryz.func178.trans (congrArg some (by kernel_rfl))⟩
 f14:=⟨Tryz.f234.name,by decide,Tryz.func234.trans (congrArg some (by kernel_rfl))⟩
 f15:=Tryz.func162.trans (congrArg some (by kernel_rfl))
 f20:=⟨Tryz.f291.name,by decide,Tryz.func291.trans (congrArg some (by kernel_rfl))⟩
 f21:=⟨Tryz.f292.name,by decide,Tryz.func292.trans (congrArg some (by kernel_rfl))⟩
 f22:=⟨Tryz.f293.name,by decide,Tryz.func293.trans (congrArg some (by kernel_rfl))⟩
 f23:=⟨Tryz.f294.name,by decide,Tryz.func294.trans (congrArg some (by kernel_rfl))⟩
 f24:=⟨Tryz.f295.name,by decide,Tryz.func295.trans (congrArg some (by kernel_rfl))⟩
 f25:=⟨Tryz.f296.name,by decide,Tryz.func296.trans (congrArg some (by kernel_rfl))⟩
 f26:=⟨Tryz.f297.name,by decide,Tryz.func297.trans (congrArg some (by kernel_rfl))⟩
 f27:=⟨Tryz.f298.name,by decide,Tryz.func298.trans (congrArg some (by kernel_rfl))⟩
 f28:=Tryz.func219.trans (congrArg some (by kernel_rfl))
 f29:=Tryz.func220.trans (congrArg some (by kernel_rfl))
 f46:=⟨Tryz.f327.name,by decide,Tryz.func327.trans (congrArg some (by kernel_rfl))⟩
 f47:=Tryz.func268.trans (congrArg some (by kernel_rfl))
 f48:=Tryz.func269.trans (congrArg some (by kernel_rfl))
 f49:=⟨Tryz.f328.name,by decide,Tryz.func328.trans (congrArg some (by kernel_rfl))⟩
 f50:=⟨Tryz.f329.name,by decide,Tryz.func329.trans (congrArg some (by kernel_rfl))⟩
 f57:=⟨Tryz.f344.name,by decide,Tryz.func344.trans (congrArg some (by kernel_rfl))⟩
 t0:=Tryz.underlying0
 a0:=Tryz.isAgg0
 z0:=Tryz.sizeOf0
 v0:=Tryz.zeroValue0
 t3:=Tryz.underlying3
 a3:=Tryz.isAgg3
 z3:=Tryz.sizeOf3
 v3:=Tryz.zeroValue3
 t4:=Tryz.underlying4
 a4:=Tryz.isAgg4
 z4:=Tryz.sizeOf4
 v4:=Tryz.zeroValue4
 t5:=Tryz.underlying5
 a5:=Tryz.isAgg5
 z5:=Tryz.sizeOf5
 v5:=Tryz.zeroValue5
 t9:=Tryz.underlying9
 a9:=Tryz.isAgg9
 z9:=Tryz.sizeOf9
 v9:=Tryz.zeroValue9
 t22:=Tryz.underlying39
 a22:=Tryz.isAgg39
 z22:=Tryz.sizeOf39
 v22:=Tryz.zeroValue39
 a24:=Tryz.isAgg62
 z24:=Tryz.sizeOf62
 t25:=Tryz.underlying246
 a25:=Tryz.isAgg246
 z25:=Tryz.sizeOf246
 v25:=Tryz.zeroValue246
 t39:=Tryz.underlying239
 a39:=Tryz.isAgg239
 z39:=Tryz.sizeOf239
 v39:=Tryz.zeroValue239
 t45:=Tryz.underlying278
 a45:=Tryz.isAgg278
 z45:=Tryz.sizeOf278
 v45:=Tryz.zeroValue278
 t46:=Tryz.underlying279
 a46:=Tryz.isAgg279
 z46:=Tryz.sizeOf279
 v46:=Tryz.zeroValue279
 t50:=Tryz.underlying220
 a50:=Tryz.isAgg220
 z50:=Tryz.sizeOf220
 v50:=Tryz.zeroValue220
 t53:=Tryz.underlying286
 a53:=Tryz.isAgg286
 z53:=Tryz.sizeOf286
 v53:=Tryz.zeroValue286
 t55:=Tryz.underlying288
 a55:=Tryz.isAgg288
 z55:=Tryz.sizeOf288
 v55:=Tryz.zeroValue288
 t66:=Tryz.underlying317
 a66:=Tryz.isAgg317
 z66:=Tryz.sizeOf317
 v66:=Tryz.zeroValue317
 t70:=Tryz.underlying321
 a70:=Tryz.isAgg321
 z70:=Tryz.sizeOf321
 v70:=Tryz.zeroValue321
 t76:=Tryz.underlying361
 a76:=Tryz.isAgg361
 z76:=Tryz.sizeOf361
 v76:=Tryz.zeroValue361
 t77:=Tryz.underlying181
 a77:=Tryz.isAgg181
 z77:=Tryz.sizeOf181
 v77:=Tryz.zeroValue181 }
def Tryz.lays189_ren:Go.Shelf.Ren:=⟨fun|189=>110|125=>162|257=>161|128=>219|129=>220|294=>210|295=>211|296=>212|297=>213|298=>214|299=>215|216=>216|300=>217|301=>218|328=>267|329=>268|330=>269|331=>270|332=>271|215=>144|343=>318|n=>n,fun|28=>31|3=>3|46=>239|0=>0|51=>286|53=>288|4=>4|183=>279|182=>278|131=>220|5=>5|9=>9|218=>317|222=>321|228=>361|229=>181|n=>n,fun|n=>n⟩
theorem Tryz.lays189:Go.Proofs.Lays.n189 Tryz.prog Tryz.lays189_ren:= {
 mixed:=by kernel_rfl
 f125:=Tryz.func162.trans (congrArg some (by kernel_rfl))
 f128:=Tryz.func219.trans (congrArg some (by kernel_rfl))
 f129:=Tryz.func220.trans (congrArg some (by kernel_rfl))
 f189:=Tryz.func110.trans (congrArg some (by kernel_rfl))
 f215:=Tryz.func144.trans (congrArg some (by kernel_rfl))
 f216:=Tryz.func216.trans (congrArg some (by kernel_rfl))
 f257:=Tryz.func161.trans (congrArg some (by kernel_rfl))
 f294:=Tryz.func210.trans (congrArg some (by kernel_rfl))
 f295:=Tryz.func211.trans (congrArg some (by kernel_rfl))
 f296:=Tryz.func212.trans (congrArg some (by kernel_rfl))
 f297:=Tryz.func213.trans (congrArg some (by kernel_rfl))
 f298:=Tryz.func214.trans (congrArg some (by kernel_rfl))
 f299:=Tryz.func215.trans (congrArg some (by kernel_rfl))
 f300:=Tryz.func217.trans (congrArg some (by kernel_rfl))
 f301:=Tryz.func218.trans (congrArg some (by kernel_rfl))
 f328:=Tryz.func267.trans (congrArg some (by kernel_rfl))
 f329:=Tryz.func268.trans (congrArg some (by kernel_rfl))
 f330:=Tryz.func269.trans (congrArg some (by kernel_rfl))
 f331:=Tryz.func270.trans (congrArg some (by kernel_rfl))
 f332:=Tryz.func271.trans (congrArg some (by kernel_rfl))
 f343:=Tryz.func318.trans (congrArg some (by kernel_rfl))
 t0:=Tryz.underlying0
 a0:=Tryz.isAgg0
 z0:=Tryz.sizeOf0
 v0:=Tryz.zeroValue0
 t3:=Tryz.underlying3
 a3:=Tryz.isAgg3
 z3:=Tryz.sizeOf3
 v3:=Tryz.zeroValue3
 t4:=Tryz.underlying4
 a4:=Tryz.isAgg4
 z4:=Tryz.sizeOf4
 v4:=Tryz.zeroValue4
 t5:=Tryz.underlying5
 a5:=Tryz.isAgg5
 z5:=Tryz.sizeOf5
 v5:=Tryz.zeroValue5
 t9:=Tryz.underlying9
 a9:=Tryz.isAgg9
 z9:=Tryz.sizeOf9
 v9:=Tryz.zeroValue9
 t28:=Tryz.underlying31
 a28:=Tryz.isAgg31
 z28:=Tryz.sizeOf31
 v28:=Tryz.zeroValue31
 t46:=Tryz.underlying239
 a46:=Tryz.isAgg239
 z46:=Tryz.sizeOf239
 v46:=Tryz.zeroValue239
 t51:=Tryz.underlying286
 a51:=Tryz.isAgg286
 z51:=Tryz.sizeOf286
 v51:=Tryz.zeroValue286
 t53:=Tryz.underlying288
 a53:=Tryz.isAgg288
 z53:=Tryz.sizeOf288
 v53:=Tryz.zeroValue288
 t131:=Tryz.underlying220
 a131:=Tryz.isAgg220
 z131:=Tryz.sizeOf220
 v131:=Tryz.zeroValue220
 t182:=Tryz.underlying278
 a182:=Tryz.isAgg278
 z182:=Tryz.sizeOf278
 v182:=Tryz.zeroValue278
 t183:=Tryz.underlying279
 a183:=Tryz.isAgg279
 z183:=Tryz.sizeOf279
 v183:=Tryz.zeroValue279
 t218:=Tryz.underlying317
 a218:=Tryz.isAgg317
 z218:=Tryz.sizeOf317
 v218:=Tryz.zeroValue317
 t222:=Tryz.underlying321
 a222:=Tryz.isAgg321
 z222:=Tryz.sizeOf321
 v222:=Tryz.zeroValue321
 t228:=Tryz.underlying361
 a228:=Tryz.isAgg361
 z228:=Tryz.sizeOf361
 v228:=Tryz.zeroValue361
 t229:=Tryz.underlying181
 a229:=Tryz.isAgg181
 z229:=Tryz.sizeOf181
 v229:=Tryz.zeroValue181 }
open Go.Sort Go.RowKit in
theorem Tryz.slices_Sort_int (blk off cap:Nat) (zs:List Int) (w:World) (hH:Holds (Value.int .i64) w blk off zs.toArray) (hblk:blk<w.heap.size) (hsz:zs.length<4611686018427387904):
  Calls Tryz.prog 110 #[.slice (some ⟨blk,off,none⟩) zs.length cap] w fun e w'=>
   e= .returned (.tuple #[])∧∃n os,w'=grow (putRow (Value.int .i64) (Sort.ahead w n) blk off (zs.mergeSort fun x y=>decide (x≤y)).toArray) os:=Any.slices_Sort_int Tryz.lays189 blk off cap zs w hH hblk hsz
end Go.Proofs
