/- Rules of the machine of abstract values, part 3. No condition. -/
import Derived.Test.YthcjhnmnhfgdiaaGreatDoorW19
import Derived.Sort.Grow
import Derived.Lib.TrimU
import Derived.Lib.IndexLaws
import Derived.Test.YthcjhnmnhfgdiaaGreatDoorW17
set_option linter.all false
set_option maxHeartbeats 8000000
namespace Go.V
open Go.RowKit (Below)
attribute [go_sem] Option.map_none Option.map_some
section
variable {P:Program} {t e:TypeId} {s:List UInt8} {h:Heap}
variable {n:Nat}
def ZW (a:cd P t=none) (c:P.underlying t=some .string) {k:IntKind} (b:n<=s.length):yi P t (.str s) none (some (.int k (n:Int))) none h=some (.str (s.take n)):=by
 simp[yi,a,pk,c,wR,cj,YD,b]
def lC (a:cd P t=none) (c:P.underlying t=some .string) {k:IntKind} (b:n<=s.length):yi P t (.str s) (some (.int k (n:Int))) none none h=some (.str (s.drop n)):=by
 simp[yi,a,pk,c,wR,cj,YD,b]
def tN (a:cd P t=none) (b:qQ P t=some e) {id sz len n:Nat} (d:szT P e=sz) {k:IntKind} (c:n<=len):yi P t (.rs id sz 0 len) none (some (.int k (n:Int))) none h=some (.rs id sz 0 n):=by
 simp[yi,a,pk,b,d,wR,cj,YD,c]
def qj (a:P.underlying t=some .string):sD P t (.str s) h=some (.int .i64 s.length):=by simp[sD,a]
def wO (c:P.underlying t=some .string) {k:IntKind} {b:UInt8} (a:s[n]? =some b):tJ P t (.str s) (.int k (n:Int))=some (.int .u8 b.toNat):=by
 simp[tJ,c,a]
end
variable {I:List Nat}{M:Imm}{ρ:Ren}{h:Heap}{w:World}{n i:Nat}{s:List UInt8}{α:Type}{d:D}
def Sim.grow {w0:Base} (b:Sim w0 I M ρ h w) (c:Array Go.Obj):Sim w0 I M ρ h (Go.Sort.grow w c):=
 b.world ⟨⟨rfl,rfl,rfl,by simp[Go.Sort.grow],λk a=>by simp[Go.Sort.grow,Array.getElem?_append_left a]⟩,Nat.le_refl _⟩
def uZ (p:Nat->Bool) (s:List UInt8):Nat->Nat->Bool
 |0,_=>false
 |k+1,pos=>if pos<s.length then p (wX s pos).1||uZ p s k (pos+(wX s pos).2) else false
def sd {p:Nat->Bool} {pos:Nat} (h:s.length<=pos):∀k,uZ p s k pos=false
 |0=>rfl
 |k+1=>by simp[uZ];omega
theorem jR {p:Nat->Bool} :∀ {j k pos:Nat},s.length+1<=pos+j->s.length+1<=pos+k->uZ p s j pos=uZ p s k pos
 |0,k,pos,a,_=>by rw[sd ow,sd ow]
 |j+1,0,pos,_,b=>by rw[sd ow,sd ow]
 |j+1,k+1,pos,a,b=>by
  simp only[uZ];by_cases h:pos<s.length
  ·have:=Go.Lib.width_pos ⟨s.toArray⟩ pos;rw[ip h,ip h,jR (j:=j) (k:=k) (by unfold wX;omega) (by unfold wX;omega)]
  ·rw[iq h,iq h]
def VO (s:List UInt8) (pos:Nat):IntKind.i32.wrap ((wX s pos).1:Int)=((wX s pos).1:Int):=by
 have:=Go.Lib.rune_le ⟨s.toArray⟩ pos;unfold wX IntKind.wrap;simp[IntKind.signed,IntKind.bits];split<;>omega
def VP (s:List UInt8) (pos:Nat):1<=(wX s pos).2:=Go.Lib.width_pos _ _
def QD {pos id:Nat} (a:h.at' id=some (.siter s pos)) (b:s.length<=lim) (c:pos<s.length):cH (.ptr id 0) true h=some (.tuple [.bool true, .int .i64 (pos:Int), .int .i32 ((wX s pos).1:Int)],h.set id (.siter s (pos+(wX s pos).2))):=by
 simp[cH,a,c,b,VO]
def Mv {pos id:Nat} (a:h.at' id=some (.siter s pos)) (b:¬pos<s.length):cH (.ptr id 0) true h=some (.tuple [.bool false],h):=by
 simp[cH,a,b]
def IL (n:Nat) (d:D):so n [d]=List.replicate n d:=by
 induction n with
 |zero=>rfl
 |succ n a=>simp only[so,List.replicate_succ,List.flatten_cons] at a⊢;rw[a];rfl
open Go.Proofs.Tryz
open Go.Proofs
def E8 (g:s.length<=1048576) (c:UInt8) (h:Heap):zA prog 174 [.str s, .str [c]] h λr h'=>h'=h/\r= .int .i64 (Lib.countByte s c:Nat):=by
 have f:Lib.countByte s c<=s.length:=List.count_le_length;refine(fS kr (λs c w=>Tryz.strings_Count_one s c w) (args:=[.str s, .str [c]]) (d:= .int .i64 (Lib.countByte s c:Nat)) ?_ h).mono λa b e=>⟨e.2,e.1⟩;simp only[hZ,C8];rw[zj ow ow];simp
def E9 (i:s.length<=1048576) (c:UInt8) (h:Heap):zA prog 175 [.str s, .str [c]] h λr h'=>h'=h/\r= .int .i64 (Lib.indexByte s c):=by
 have h1:=Lib.indexByte_ge s c;have g:Lib.indexByte s c<=s.length:=by
  by_cases h0:Lib.indexByte s c= -1
  ·omega
  ·obtain⟨m,f⟩:=Int.eq_ofNat_of_zero_le (show 0<=Lib.indexByte s c by omega);have:=(List.getElem?_eq_some_iff.1 (Lib.indexByte_some f).1).1;omega
 refine(nn kr (λs c w=>Tryz.strings_Index_one s c w) (args:=[.str s, .str [c]]) (d:= .int .i64 (Lib.indexByte s c)) ?_ h).mono λa b e=>⟨e.2,e.1⟩;simp only[mr,C8];rw[zj ow ow];simp
theorem pJ (p:α->Bool):∀l:List α,(l.dropWhile p).length<=l.length
 | []=>Nat.le_refl _
 |a::l=>by
  simp only[List.dropWhile];split
  ·have:=pJ p l;simp;omega
  ·exact Nat.le_refl _
def Mw (s c:List UInt8):(Lib.trimS s c).length<=s.length:=by
 unfold Lib.trimS Lib.trimLeftS Lib.trimRightS;refine Nat.le_trans (pJ _ _) ?_;rw[List.length_reverse];refine Nat.le_trans (pJ _ _) ?_;rw[List.length_reverse];exact Nat.le_refl _
def G5 (j:s.length<=1048576) {c:List UInt8} (g:c.all (λb=>decide (b.toNat<128))=true) (i:c.length<4294967281) (h:Heap) (h0:Nat.ble 2 c.length=true:=by decide):zA prog 249 [.str s, .str c] h λr h'=>h'=h/\r= .str (Lib.trimS s c):=by
 refine(bZ kr (λs c w h0 h1 f h3=>Tm Tryz.lays160 kr s c w h0 h1 f h3) (args:=[.str s, .str c]) (d:= .str (Lib.trimS s c)) ?_ h).mono λa b e=>⟨e.2,e.1⟩;have h1:=Mw s c;have f:Nat.blt c.length 4294967281=true:=by rw[Nat.blt_eq];exact i
 simp only[ZV,h0,g,f,Bool.and_self,if_true,zC7];rw[ip (decide_eq_true (by unfold lim;omega))]
def zu (c:UInt8):List UInt8->List (List UInt8)
 | []=>[[]]
 |b::s=>if b=c then []::zu c s else match zu c s with
  | []=>[[b]]
  |p::ps=>(b::p)::ps
def fh (c:UInt8):∀s,zu c s≠[]
 | []=>by simp[zu]
 |b::s=>by
  simp only[zu];split
  ·simp
  ·split<;>simp
theorem tz (c:UInt8):∀s:List UInt8,(zu c s).length=s.count c+1
 | []=>rfl
 |b::s=>by
  have a:=tz c s;simp only[zu];by_cases h:b=c
  ·subst h;simp[a]
  ·rw[iq h,List.count_cons_of_ne h];split
   ·rename_i h0;rw[h0] at a;simp at a
   ·rename_i p d h0;rw[h0] at a;simpa using a
theorem np {c:UInt8} :∀ {s:List UInt8},c∉s->zu c s= [s]
 | [],_=>rfl
 |b::s,h=>by
  simp only[List.mem_cons,not_or] at h;rw[zu,iq (λe=>h.1 e.symm),np h.2]
theorem XK {c:UInt8} :∀ {m:Nat} {s:List UInt8},s[m]? =some c->(∀k,k<m->s[k]? ≠some c)->zu c s=s.take m::zu c (s.drop (m+1))
 |m,[],h,_=>by simp at h
 |0,b::s,h,_=>by
  simp only[List.getElem?_cons_zero,Option.some.injEq] at h;rw[zu,ip h];simp
 |m+1,b::s,h,a=>by
  simp only[List.getElem?_cons_succ] at h;have d:b≠c:=λe=>a 0 ow (by simp[e]);rw[zu,iq d,XK h λk f=>by simpa using a (k+1) ow];simp
def VQ (s:List UInt8) (c:UInt8):(Lib.indexByte s c= -1/\zu c s= [s])\/∃m:Nat,Lib.indexByte s c=(m:Int)/\m<s.length/\zu c s=s.take m::zu c (s.drop (m+1)):=by
 have h1:=Lib.indexByte_ge s c;by_cases h:Lib.indexByte s c= -1
 ·refine .inl ⟨h,np λe=> ?_⟩;obtain⟨k,f⟩:=List.mem_iff_getElem?.1 e;exact Lib.indexByte_none h k f
 ·obtain⟨m,b⟩:=Int.eq_ofNat_of_zero_le (show 0<=Lib.indexByte s c by omega);obtain⟨a,d⟩:=Lib.indexByte_some b;exact .inr ⟨m,b,(List.getElem?_eq_some_iff.1 a).1,XK a d⟩
def lD (c:UInt8) (s:List UInt8):(zu c s).length<=s.length+1:=by
 rw[tz];have:=List.count_le_length (a:=c) (l:=s);omega
theorem nR (c:UInt8):∀ (s:List UInt8),∀p∈zu c s,p.length<=s.length
 | [],p,h=>by simp[zu] at h;subst h;simp
 |b::s,p,h=>by
  have a:=nR c s;simp only[zu] at h;split at h
  ·rcases List.mem_cons.1 h with rfl|h
   ·simp
   ·have:=a p h;simp;omega
  ·split at h
   ·rename_i h0;exact absurd h0 (fh c s)
   ·rename_i q d h0;rcases List.mem_cons.1 h with rfl|h
    ·have:=a q (by rw[h0];simp);simp;omega
    ·have:=a p (by rw[h0];simp[h]);simp;omega
def yS (l:List (List UInt8)):List (List D):=l.map λs=>[.str s]
def zz (l:List (List UInt8)):(yS l).length=l.length:=List.length_map ..
def gA {l:List (List UInt8)} (h:i<l.length):(yS l)[i]? =some [.str l[i]]:=by simp[yS,h]
def qT {l:List (List UInt8)} :∀x∈yS l,yh x:=λx a=>by
 obtain⟨s,_,rfl⟩:=List.mem_map.1 a;exact⟨rfl,⟨trivial,trivial⟩,rfl⟩
def ZX {l:List (List UInt8)} :∀x∈yS l,x.length=1:=λx a=>by
 obtain⟨s,_,rfl⟩:=List.mem_map.1 a;rfl
def sdd (s:List UInt8):D:= .str s
def Mx (l:List (List UInt8)):(yS l).flatten=l.map sdd:=by
 induction l with
 |nil=>rfl
 |cons x l a=>simp[yS,sdd] at a⊢;exact a
open List hiding max min map and or get le lt range extract
open Nat(zero_le le_refl le_trans lt_irrefl le_of_lt lt_of_lt_of_le lt_of_le_of_lt lt_succ_iff_lt_or_eq le_of_lt_succ)
set_option maxRecDepth 100000
def IM {l:List (List UInt8)} (u:zd 1 (yS l) d) (z:l.length<=1048576) (s:List UInt8) (h:Heap):
  zA prog 92 [d, .str s] h λr h'=>h'=h/\r= .int .i64 (match l.findIdx? (· ==s) with|some i=>(i:Int)|none=> -1):=by
 refine xO mix func92 zH1 rfl rfl ?_;simp only[f92,gJ];have w:((yS l).length:Int)=l.length:=by rw[zz]
 simp only[go_sem,Nat.reduceEqDiff,↓reduceIte,ye u underlying31,w];refine yF (λi fr h'=>fr 0=d/\fr 1= .str s/\fr 7= .int .i64 l.length/\fr 8= .int .i64 (i:Int)/\h'=h/\∀j (m:j<l.length),j<i->(l[j]==s)=false) l.length (by simp[go_sem]) ?_;rintro i fr h' y ⟨o,p,q,t,rfl,m⟩;simp only[go_sem,Nat.reduceEqDiff,↓reduceIte,o,p,q,t];by_cases b:i<l.length
 ·rw[decide_eq_true (by exact_mod_cast b)];have f:(s==l[i])=(l[i]==s):=by
   by_cases e:s=l[i]
   ·rw[e]
   ·rw[beq_eq_false_iff_ne.2 e,beq_eq_false_iff_ne.2 (Ne.symm e)]
  cases k:(l[i]==s) with
  |true=>
   simp only[go_sem,Nat.reduceEqDiff,↓reduceIte,o,p,q,t,zW u yv uW (gA b),sW,f,k]
   have:l.findIdx? (· ==s)=some i:=by
    rw[findIdx?_eq_some_iff_getElem];exact⟨b,k,λj a=>by rw[m j ow a];exact Bool.false_ne_true⟩
   rw[this]
  |false=>
   simp only[go_sem,Nat.reduceEqDiff,↓reduceIte,o,p,q,t,zW u yv uW (gA b),sW,f,k];refine⟨b,by rw[zq (by unfold lim;omega)],λj c a=> ?_⟩;rcases Nat.lt_succ_iff_lt_or_eq.1 a with a|rfl
   ·exact m j c a
   ·exact k
 ·have v:i=l.length:=ow;subst v;rw[decide_eq_false ow];simp only[go_sem,Nat.reduceEqDiff,↓reduceIte]
  have:l.findIdx? (· ==s)=none:=by
   rw[findIdx?_eq_none_iff];intro n x;obtain⟨j,c,rfl⟩:=mem_iff_getElem.1 x;exact m j c c
  rw[this]
def kR {l:List α} {p:α->Bool} :decide ((match l.findIdx? p with|some i=>(i:Int)|none=> -1)>=0)=l.any p:=by
 cases a:l.findIdx? p with
 |none=>
  have:l.any p=false:=by
   rw[findIdx?_eq_none_iff] at a;rw[any_eq_false];intro n c;rw[a n c];exact Bool.false_ne_true
  rw[this];rfl
 |some i=>
  have:l.any p=true:=by
   rw[findIdx?_eq_some_iff_getElem] at a;obtain⟨b,d,_⟩:=a;exact any_eq_true.2 ⟨_,getElem_mem b,d⟩
  rw[this];simp
def pK {l:List (List UInt8)} (a:zd 1 (yS l) d) (b:l.length<=1048576) (s:List UInt8) (h:Heap):
  zA prog 45 [d, .str s] h λr h'=>h'=h/\r= .bool (l.any (· ==s)):=by
 refine xO mix func45 zHR rfl rfl ?_;simp only[f45,gJ];simp only[go_sem,Nat.reduceEqDiff,↓reduceIte];refine(IM a b s _).mono ?_;rintro r c ⟨rfl,rfl⟩;simp only[go_sem,Nat.reduceEqDiff,↓reduceIte,kR]
def XL {l:List (List UInt8)} (u:zd 1 (yS l) d) (A:l.length<=1048576) {g:FuncId} {fst cap:List D} {p:List UInt8->Bool} (x:∀s∈l,∀h,zA prog g (fst++ [.str s]++cap) h λr h'=>h'=h/\r= .bool (p s)) (h:Heap):
  zA prog 176 [d, .fn (.func g) fst cap] h λr h'=>h'=h/\r= .int .i64 (match l.findIdx? p with|some i=>(i:Int)|none=> -1):=by
 refine xO mix func176 zAH rfl rfl ?_;simp only[f176,gJ];have k:((yS l).length:Int)=l.length:=by rw[zz]
 simp only[go_sem,Nat.reduceEqDiff,↓reduceIte,ye u underlying31,k];refine yF (λi fr h'=>fr 0=d/\fr 1= .fn (.func g) fst cap/\fr 7= .int .i64 l.length/\fr 8= .int .i64 (i:Int)/\h'=h/\∀j (e:j<l.length),j<i->p l[j]=false) l.length (by simp[go_sem]) ?_;rintro i fr h' z ⟨m,o,q,t,rfl,e⟩;simp only[go_sem,Nat.reduceEqDiff,↓reduceIte,m,o,q,t];by_cases b:i<l.length
 ·rw[decide_eq_true (by exact_mod_cast b)];simp only[go_sem,Nat.reduceEqDiff,↓reduceIte,m,o,q,t,zW u yv uW (gA b),sW];refine(x _ (getElem_mem b) _).mono ?_;rintro r y ⟨rfl,rfl⟩;cases v:p l[i] with
  |true=>
   simp only[go_sem,Nat.reduceEqDiff,↓reduceIte]
   have:l.findIdx? p=some i:=by
    rw[findIdx?_eq_some_iff_getElem];exact⟨b,v,λj a=>by rw[e j ow a];exact Bool.false_ne_true⟩
   rw[this]
  |false=>
   simp only[go_sem,Nat.reduceEqDiff,↓reduceIte];refine⟨b,by rw[zq (by unfold lim;omega)],λj c a=> ?_⟩;rcases Nat.lt_succ_iff_lt_or_eq.1 a with a|rfl
   ·exact e j c a
   ·exact v
 ·have f:i=l.length:=ow;subst f;rw[decide_eq_false ow];simp only[go_sem,Nat.reduceEqDiff,↓reduceIte]
  have:l.findIdx? p=none:=by
   rw[findIdx?_eq_none_iff];intro n w;obtain⟨j,c,rfl⟩:=mem_iff_getElem.1 w;exact e j c c
  rw[this]
def fi {l:List (List UInt8)} (a:zd 1 (yS l) d) (b:l.length<=1048576) {g:FuncId} {fst cap:List D} {p:List UInt8->Bool} (c:∀s∈l,∀h,zA prog g (fst++ [.str s]++cap) h λr h'=>h'=h/\r= .bool (p s)) (h:Heap):
  zA prog 224 [d, .fn (.func g) fst cap] h λr h'=>h'=h/\r= .bool (l.any p):=by
 refine xO mix func224 A0 rfl rfl ?_;simp only[f224,gJ];simp only[go_sem,Nat.reduceEqDiff,↓reduceIte];refine(XL a b c _).mono ?_;rintro r e ⟨rfl,rfl⟩;simp only[go_sem,Nat.reduceEqDiff,↓reduceIte,kR]
def XM (y:s.length<=1048576) {g:FuncId} {p:Nat->Bool} (v:∀n:Nat,n<=1114111->∀h,zA prog g [.int .i32 n] h λr h'=>h'=h/\r= .bool (p n)) (h:Heap):
  zA prog 392 [.str s, .fn (.func g) [] [], .bool true] h λr h'=>h'=h/\∃n:Int,r= .int .i64 n/\decide (n>=0)=uZ p s (s.length+1) 0:=by
 refine xU kr λu=> ?_;refine xO mix func392 zAS rfl rfl ?_;simp only[f392,gJ];have hr:∀h:Heap,jA prog h.next 9 (.str s) h=some (.ptr h.next 0,h.new h.next (.siter s 0)):=λh=>by simp[jA,underlying9]
 simp only[go_sem,Nat.reduceEqDiff,↓reduceIte,hr];refine Ue (λk fr h'=>∃pos:Nat,k=s.length-pos/\fr 1= .fn (.func g) [] []/\fr 2= .bool true/\fr 10= .ptr h.next 0/\h'.at' h.next=some (.siter s pos)/\Ext h h'/\uZ p s (s.length+1) 0=uZ p s (s.length+1-pos) pos) s.length ?_ ?_
 ·refine⟨0,rfl,?_⟩;simp only[go_sem,Nat.reduceEqDiff,↓reduceIte,Nat.sub_zero,true_and];exact(Ext.refl h).new (le_refl _) _
 rintro k fr h' ⟨pos,rfl,l,m,e,hit,d,a⟩;by_cases f:pos<s.length
 ·have q:=QD hit (by unfold lim;omega) f;have o:(wX s pos).1<=1114111:=Go.Lib.rune_le _ _;have w:=VP s pos;simp only[go_sem,Nat.reduceEqDiff,↓reduceIte,l,m,e,q,ss];refine(v _ o _).mono ?_;rintro r x ⟨rfl,rfl⟩;have i:∀b c,pj prog .eql 4 c (.bool b) (.bool true)=some (.bool b):=λb c=>by cases b<;>simp[pj,Ha,tI,veq,underlying4]
  have j:s.length+1-pos=(s.length-pos)+1:=ow;cases t:p (wX s pos).1 with
  |true=>
   simp only[go_sem,Nat.reduceEqDiff,↓reduceIte,i,l,m,e];refine⟨d.set (le_refl _) _,trivial,(pos:Int),rfl,?_⟩;rw[a,j,uZ,ip f,t,decide_eq_true ow];rfl
  |false=>
   simp only[go_sem,Nat.reduceEqDiff,↓reduceIte,i,l,m,e];refine⟨s.length- (pos+(wX s pos).2),by omega,pos+(wX s pos).2,rfl,rfl,d.set (le_refl _) _,?_⟩;rw[a,j,uZ,ip f,t,Bool.false_or];exact jR ow ow
 ·have q:=Mv hit f;simp only[go_sem,Nat.reduceEqDiff,↓reduceIte,l,m,e,q,ss];refine⟨d,trivial,-1,rfl,?_⟩;rw[a,sd ow];rfl
def fj (c:s.length<=1048576) {g:FuncId} {p:Nat->Bool} (d:∀n:Nat,n<=1114111->∀h,zA prog g [.int .i32 n] h λr h'=>h'=h/\r= .bool (p n)) (h:Heap):
  zA prog 292 [.str s, .fn (.func g) [] []] h λr h'=>h'=h/\r= .bool (uZ p s (s.length+1) 0):=by
 refine xO mix func292 A6 rfl rfl ?_;simp only[f292,gJ];simp only[go_sem,Nat.reduceEqDiff,↓reduceIte];refine zA.mono (Q:=λr h'=>h'=h/\∃n:Int,r= .int .i64 n/\decide (n>=0)=uZ p s (s.length+1) 0) ?_ ?_
 ·refine xO mix func348 Aj rfl rfl ?_;simp only[f348,gJ];simp only[go_sem,Nat.reduceEqDiff,↓reduceIte];refine(XM c d _).mono ?_;rintro r b ⟨rfl,n,rfl,a⟩;simp only[go_sem,Nat.reduceEqDiff,↓reduceIte];exact⟨n,rfl,a⟩
 ·rintro r b ⟨rfl,n,rfl,a⟩;simp only[go_sem,Nat.reduceEqDiff,↓reduceIte,a]
theorem My (U:s.length<=1048576) (c:UInt8) (h:Heap):
  zA prog 48 [.str s, .str [c]] h λr h'=>h'=h/\r= .sl 1 (yS (zu c s)) .no:=by
 refine xO mix func48 zHm rfl rfl ?_;simp only[f48,gJ];simp only[go_sem,Nat.reduceEqDiff,↓reduceIte];refine zA.mono (Q:=λr h'=>h'=h/\r= .sl 1 (yS (zu c s)) .no) ?_ ?_
 rotate_left
 ·rintro r Y ⟨rfl,rfl⟩;simp only[go_sem,Nat.reduceEqDiff,↓reduceIte]
 have P:=lD c s;have G:=tz c s;refine xU kr λW=>zA.freezeD ?_;refine xO mix func94 zHe rfl rfl ?_;simp only[f94,gJ];have I:([c]==([]:List UInt8))=false:=rfl;simp only[go_sem,Nat.reduceEqDiff,↓reduceIte,I,show((-1:Int)==0)=false from rfl,show decide ((-1:Int)<0)=true from rfl]
 refine(E8 U c _).mono ?_;rintro r h ⟨rfl,rfl⟩;have J:IntKind.i64.wrap ((Lib.countByte s c:Nat)+1:Int)=(((zu c s).length:Nat):Int):=by
  rw[G,show Lib.countByte s c=s.count c from rfl]
  exact zq (by have:=count_le_length (a:=c) (l:=s);unfold lim;omega)
 have K:IntKind.i64.wrap ((s.length:Int)+1)=((s.length+1:Nat):Int):=zq (by unfold lim;omega);have w:Qy (.int .i64 (((zu c s).length:Nat):Int)) (.int .i64 ((s.length+1:Nat):Int))=some (.int .i64 (((zu c s).length:Nat):Int)):=by
  simp only[Qy,if_true];rw[iq ow]
 have H:∀h:Heap,qR prog true h.next 31 (.int .i64 (((zu c s).length:Nat):Int)) (.int .i64 (((zu c s).length:Nat):Int)) h=some (.rs h.next 1 0 (zu c s).length,h.new h.next (.row (so (zu c s).length [.str []]))):=λh=>by
  simp only[qR,yv,nj,uW,tF];rw[ip (by simp[XH,Mr];unfold lim;omega)];simp;rfl
 have L:IntKind.i64.wrap ((((zu c s).length:Nat):Int)-1)=((((zu c s).length-1:Nat)):Int):=by
  have:=fh c s;have h1:0<(zu c s).length:=length_pos_iff.2 this;rw[zj ow ow];omega
 simp only[go_sem,Nat.reduceEqDiff,↓reduceIte,J,K,L,w,H,zIZ,contains_cons,Nat.reduceBEq,qj underlying9];have S:0<(zu c s).length:=length_pos_iff.2 (fh c s);refine yF (λi fr h'=>∃ (f:List (List UInt8)) (r:List UInt8),f.length=i/\zu c s=f++zu c r/\r.length<=s.length/\fr 0= .str r/\fr 1= .str [c]/\fr 2= .int .i64 0/\fr 3= .int .i64 (((zu c s).length-1:Nat):Int)/\fr 9= .rs h.next 1 0 (zu c s).length/\fr 10= .int .i64 (i:Int)/\
   h'.at' h.next=some (.row (f.map sdd++List.replicate ((zu c s).length-i) (.str [])))/\Ext h h') ((zu c s).length-1) ?_ ?_
 ·refine⟨[],s,rfl,rfl,le_refl _,?_⟩;simp only[go_sem,Nat.reduceEqDiff,↓reduceIte,true_and,Nat.sub_zero];refine⟨rfl,?_,(Ext.refl h).new (le_refl _) _⟩;rw[IL]
 rintro i fr h' Z ⟨f,r,b,d,X,z,A,B,C,E,j,o,k⟩;simp only[go_sem,Nat.reduceEqDiff,↓reduceIte,z,A,B,C,E,j];have n:∀x:List UInt8,i<(zu c s).length->(f.map sdd++List.replicate ((zu c s).length-i) (D.str [])).set i (D.str x)=(f++ [x]).map sdd++List.replicate ((zu c s).length- (i+1)) (D.str []):=λx t=>by
  rw[set_append_right _ _ (by simp[b]),length_map,b,Nat.sub_self,show(zu c s).length-i=((zu c s).length- (i+1))+1 by omega,replicate_succ,set_cons_zero];simp[sdd]
 by_cases t:i<(zu c s).length-1
 ·rw[decide_eq_true (by exact_mod_cast t)];simp only[go_sem,Nat.reduceEqDiff,↓reduceIte,z,A,B,C,E,j];refine(E9 ow c _).mono ?_;rintro q h' ⟨rfl,rfl⟩;rcases VQ r c with⟨R,u⟩ | ⟨m,R,V,u⟩
  ·exfalso;rw[u] at d;have:=congrArg List.length d;simp[b] at this;omega
  ·have y:decide (((m:Nat):Int)<0)=false:=decide_eq_false ow;have M:IntKind.i64.wrap ((m:Int)+0)=((m:Nat):Int):=by rw[Int.add_zero,zj ow ow]
   have N:IntKind.i64.wrap ((m:Int)+1)=((m+1:Nat):Int):=zq (by unfold lim;omega);have F:([c].length:Int)=1:=rfl;have e:zQ prog 9 (.ptr h.next (i*1)) (.str (r.take m)) h'=some (h'.set h.next (.row ((f++ [r.take m]).map sdd++List.replicate ((zu c s).length- (i+1)) (.str [])))):=by
    rw[Nat.mul_one,zR o uW (by simp[b];omega) rfl rfl,n _ ow]
   simp only[go_sem,Nat.reduceEqDiff,↓reduceIte,z,A,B,C,E,j,R,y,M,N,F,qj underlying9,ZW Uf underlying9 (show m<=r.length by omega),lC Uf underlying9 (show m+1<=r.length by omega),z6 yv uW (show i<(zu c s).length by omega),e];refine⟨t,f++ [r.take m],r.drop (m+1),by simp[b],by rw[d,u];simp,by simp;omega,rfl,?_,rfl,k.set (le_refl _) _⟩;rw[zq (by unfold lim;omega)]
 ·have T:i=(zu c s).length-1:=ow;rw[decide_eq_false ow];have p:zu c r= [r]:=by
   have h1:=congrArg List.length d;rw[length_append,b,tz c r] at h1;exact np (count_eq_zero.1 ow)
  have O:IntKind.i64.wrap ((i:Int)+1)=(((zu c s).length:Nat):Int):=by rw[zq (by unfold lim;omega)];omega
  have e:zQ prog 9 (.ptr h.next (i*1)) (.str r) h'=some (h'.set h.next (.row ((f++ [r]).map sdd++List.replicate ((zu c s).length- (i+1)) (.str [])))):=by
   rw[Nat.mul_one,zR o uW (by simp[b];omega) rfl rfl,n _ ow]
  simp only[go_sem,Nat.reduceEqDiff,↓reduceIte,z,A,B,C,E,j,O,z6 yv uW (show i<(zu c s).length by omega),e,tN Fo yv uW (le_refl (zu c s).length)];have v:(f++ [r]).map sdd++List.replicate ((zu c s).length- (i+1)) (.str [])=(yS (zu c s)).flatten:=by
   rw[show(zu c s).length- (i+1)=0 by omega,replicate_zero,append_nil,Mx,d,p]
  refine⟨h.next,_,zD _ _ _,(k.set (le_refl _) _).del (le_refl _),?_⟩;rw[XJ ZX (zz _) v];exact⟨z7 (zero_le _) _ (yG (sz:=1) qT .no).2,rfl⟩
def kS:List UInt8:=[97,98,99,100,101,102,103,104,105,106,107,108,109,110,111,112,113,114,115,116,117,118,119,120,121,122,48,49,50,51,52,53,54,55,56,57,45,46]
def tX (s:List UInt8):Bool:=match s with
 | []=>false
 |b::r=> !(decide ((b::r).length>32)||decide ((b.toNat:Int)<97)||decide ((b.toNat:Int)>122)||((b::r:List UInt8)== [97,110,100])||((b::r:List UInt8)== [111,114])||((b::r:List UInt8)== [119,105,116,104]))&&(Lib.trimS (b::r) kS== [])
def bh (s:List UInt8):List (List UInt8):=if s= [] then [] else zu 10 s
def pL (b:UInt8):Bool:=((b.toNat:Int) !=10)&&(decide ((b.toNat:Int)<32)||decide ((b.toNat:Int)>126))
end Go.V
