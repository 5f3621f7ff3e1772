/- Rules of the machine of abstract values, part 3. No condition. -/
import Derived.Test.YthcjhnmnhfgdiaaGreatDoorW19
import Derived.Sort.Grow
import Derived.Lib.TrimU
import Derived.Lib.IndexLaws
import Derived.Test.YthcjhnmnhfgdiaaGreatDoorW17
set_option linter.all false
set_option maxHeartbeats 8000000
namespace Go.V
open Go.RowKit (Below)
attribute [go_sem] Option.map_none Option.map_some
section
variable {P:Program} {t e:TypeId} {s:List UInt8} {h:Heap}
variable {n:Nat}
def ZC (a:cJ P t=none) (c:P.underlying t=some .string) {k:IntKind} (b:n<=s.length):yh P t (.str s) none (some (.int k (n:Int))) none h=some (.str (s.take n)):=by
 simp[yh,a,pc,c,wM,cK,Zo,b]
def md (a:cJ P t=none) (c:P.underlying t=some .string) {k:IntKind} (b:n<=s.length):yh P t (.str s) (some (.int k (n:Int))) none none h=some (.str (s.drop n)):=by
 simp[yh,a,pc,c,wM,cK,Zo,b]
def tJ (a:cJ P t=none) (b:qO P t=some e) {id sz len n:Nat} (d:szT P e=sz) {k:IntKind} (c:n<=len):yh P t (.rs id sz 0 len) none (some (.int k (n:Int))) none h=some (.rs id sz 0 n):=by
 simp[yh,a,pc,b,d,wM,cK,Zo,c]
def qh (a:P.underlying t=some .string):tU P t (.str s) h=some (.int .i64 s.length):=by simp[tU,a]
def wJ (c:P.underlying t=some .string) {k:IntKind} {b:UInt8} (a:s[n]? =some b):tF P t (.str s) (.int k (n:Int))=some (.int .u8 b.toNat):=by
 simp[tF,c,a]
end
variable {I:List Nat}{M:Imm}{ρ:Ren}{h:Heap}{w:World}{n i:Nat}{s:List UInt8}{α:Type}{d:D}
def Sim.grow {w0:Base} (b:Sim w0 I M ρ h w) (c:Array Go.Obj):Sim w0 I M ρ h (Go.Sort.grow w c):=
 b.world ⟨⟨rfl,rfl,rfl,by simp[Go.Sort.grow],λk a=>by simp[Go.Sort.grow,Array.getElem?_append_left a]⟩,Nat.le_refl _⟩
def uQ (p:Nat->Bool) (s:List UInt8):Nat->Nat->Bool
 |0,_=>false
 |k+1,pos=>if pos<s.length then p (wQ s pos).1||uQ p s k (pos+(wQ s pos).2) else false
def sX {p:Nat->Bool} {pos:Nat} (h:s.length<=pos):∀k,uQ p s k pos=false
 |0=>rfl
 |k+1=>by simp[uQ];omega
theorem jA {p:Nat->Bool} :∀ {j k pos:Nat},s.length+1<=pos+j->s.length+1<=pos+k->uQ p s j pos=uQ p s k pos
 |0,k,pos,a,_=>by rw[sX ow,sX ow]
 |j+1,0,pos,_,b=>by rw[sX ow,sX ow]
 |j+1,k+1,pos,a,b=>by
  simp only[uQ];by_cases h:pos<s.length
  ·have:=Go.Lib.width_pos ⟨s.toArray⟩ pos;rw[ip h,ip h,jA (j:=j) (k:=k) (by unfold wQ;omega) (by unfold wQ;omega)]
  ·rw[iq h,iq h]
def Wp (s:List UInt8) (pos:Nat):IntKind.i32.wrap ((wQ s pos).1:Int)=((wQ s pos).1:Int):=by
 have:=Go.Lib.rune_le ⟨s.toArray⟩ pos;unfold wQ IntKind.wrap;simp[IntKind.signed,IntKind.bits];split<;>omega
def Wq (s:List UInt8) (pos:Nat):1<=(wQ s pos).2:=Go.Lib.width_pos _ _
def RS {pos id:Nat} (a:h.at' id=some (.siter s pos)) (b:s.length<=lim) (c:pos<s.length):df (.ptr id 0) true h=some (.tuple [.bool true, .int .i64 (pos:Int), .int .i32 ((wQ s pos).1:Int)],h.set id (.siter s (pos+(wQ s pos).2))):=by
 simp[df,a,c,b,Wp]
def N3 {pos id:Nat} (a:h.at' id=some (.siter s pos)) (b:¬pos<s.length):df (.ptr id 0) true h=some (.tuple [.bool false],h):=by
 simp[df,a,b]
def JN (n:Nat) (d:D):si n [d]=List.replicate n d:=by
 induction n with
 |zero=>rfl
 |succ n a=>simp only[si,List.replicate_succ,List.flatten_cons] at a⊢;rw[a];rfl
open Go.Proofs.Tryz
open Go.Proofs
def F7 (g:s.length<=1048576) (c:UInt8) (h:Heap):zA prog 174 [.str s, .str [c]] h λr h'=>h'=h/\r= .int .i64 (Lib.countByte s c:Nat):=by
 have f:Lib.countByte s c<=s.length:=List.count_le_length;refine(fD kr (λs c w=>Tryz.strings_Count_one s c w) (args:=[.str s, .str [c]]) (d:= .int .i64 (Lib.countByte s c:Nat)) ?_ h).mono λa b e=>⟨e.2,e.1⟩;simp only[jq,D9];rw[zd ow ow];simp
def F8 (i:s.length<=1048576) (c:UInt8) (h:Heap):zA prog 175 [.str s, .str [c]] h λr h'=>h'=h/\r= .int .i64 (Lib.indexByte s c):=by
 have h1:=Lib.indexByte_ge s c;have g:Lib.indexByte s c<=s.length:=by
  by_cases h0:Lib.indexByte s c= -1
  ·omega
  ·obtain⟨m,f⟩:=Int.eq_ofNat_of_zero_le (show 0<=Lib.indexByte s c by omega);have:=(List.getElem?_eq_some_iff.1 (Lib.indexByte_some f).1).1;omega
 refine(nT kr (λs c w=>Tryz.strings_Index_one s c w) (args:=[.str s, .str [c]]) (d:= .int .i64 (Lib.indexByte s c)) ?_ h).mono λa b e=>⟨e.2,e.1⟩;simp only[mY,D9];rw[zd ow ow];simp
theorem pE (p:α->Bool):∀l:List α,(l.dropWhile p).length<=l.length
 | []=>Nat.le_refl _
 |a::l=>by
  simp only[List.dropWhile];split
  ·have:=pE p l;simp;omega
  ·exact Nat.le_refl _
def N4 (s c:List UInt8):(Lib.trimS s c).length<=s.length:=by
 unfold Lib.trimS Lib.trimLeftS Lib.trimRightS;refine Nat.le_trans (pE _ _) ?_;rw[List.length_reverse];refine Nat.le_trans (pE _ _) ?_;rw[List.length_reverse];exact Nat.le_refl _
def H7 (j:s.length<=1048576) {c:List UInt8} (g:c.all (λb=>decide (b.toNat<128))=true) (i:c.length<4294967281) (h:Heap) (h0:Nat.ble 2 c.length=true:=by decide):zA prog 249 [.str s, .str c] h λr h'=>h'=h/\r= .str (Lib.trimS s c):=by
 refine(bF kr (λs c w h0 h1 f h3=>U4 Tryz.lays160 kr s c w h0 h1 f h3) (args:=[.str s, .str c]) (d:= .str (Lib.trimS s c)) ?_ h).mono λa b e=>⟨e.2,e.1⟩;have h1:=N4 s c;have f:Nat.blt c.length 4294967281=true:=by rw[Nat.blt_eq];exact i
 simp only[ZB,h0,g,f,Bool.and_self,if_true,zBy];rw[ip (decide_eq_true (by unfold lim;omega))]
def zy (c:UInt8):List UInt8->List (List UInt8)
 | []=>[[]]
 |b::s=>if b=c then []::zy c s else match zy c s with
  | []=>[[b]]
  |p::ps=>(b::p)::ps
def fN (c:UInt8):∀s,zy c s≠[]
 | []=>by simp[zy]
 |b::s=>by
  simp only[zy];split
  ·simp
  ·split<;>simp
theorem tt (c:UInt8):∀s:List UInt8,(zy c s).length=s.count c+1
 | []=>rfl
 |b::s=>by
  have a:=tt c s;simp only[zy];by_cases h:b=c
  ·subst h;simp[a]
  ·rw[iq h,List.count_cons_of_ne h];split
   ·rename_i h0;rw[h0] at a;simp at a
   ·rename_i p d h0;rw[h0] at a;simpa using a
theorem nV {c:UInt8} :∀ {s:List UInt8},c∉s->zy c s= [s]
 | [],_=>rfl
 |b::s,h=>by
  simp only[List.mem_cons,not_or] at h;rw[zy,iq (λe=>h.1 e.symm),nV h.2]
theorem Yr {c:UInt8} :∀ {m:Nat} {s:List UInt8},s[m]? =some c->(∀k,k<m->s[k]? ≠some c)->zy c s=s.take m::zy c (s.drop (m+1))
 |m,[],h,_=>by simp at h
 |0,b::s,h,_=>by
  simp only[List.getElem?_cons_zero,Option.some.injEq] at h;rw[zy,ip h];simp
 |m+1,b::s,h,a=>by
  simp only[List.getElem?_cons_succ] at h;have d:b≠c:=λe=>a 0 ow (by simp[e]);rw[zy,iq d,Yr h λk f=>by simpa using a (k+1) ow];simp
def Wr (s:List UInt8) (c:UInt8):(Lib.indexByte s c= -1/\zy c s= [s])\/∃m:Nat,Lib.indexByte s c=(m:Int)/\m<s.length/\zy c s=s.take m::zy c (s.drop (m+1)):=by
 have h1:=Lib.indexByte_ge s c;by_cases h:Lib.indexByte s c= -1
 ·refine .inl ⟨h,nV λe=> ?_⟩;obtain⟨k,f⟩:=List.mem_iff_getElem?.1 e;exact Lib.indexByte_none h k f
 ·obtain⟨m,b⟩:=Int.eq_ofNat_of_zero_le (show 0<=Lib.indexByte s c by omega);obtain⟨a,d⟩:=Lib.indexByte_some b;exact .inr ⟨m,b,(List.getElem?_eq_some_iff.1 a).1,Yr a d⟩
def me (c:UInt8) (s:List UInt8):(zy c s).length<=s.length+1:=by
 rw[tt];have:=List.count_le_length (a:=c) (l:=s);omega
theorem nE (c:UInt8):∀ (s:List UInt8),∀p∈zy c s,p.length<=s.length
 | [],p,h=>by simp[zy] at h;subst h;simp
 |b::s,p,h=>by
  have a:=nE c s;simp only[zy] at h;split at h
  ·rcases List.mem_cons.1 h with rfl|h
   ·simp
   ·have:=a p h;simp;omega
  ·split at h
   ·rename_i h0;exact absurd h0 (fN c s)
   ·rename_i q d h0;rcases List.mem_cons.1 h with rfl|h
    ·have:=a q (by rw[h0];simp);simp;omega
    ·have:=a p (by rw[h0];simp[h]);simp;omega
def yR (l:List (List UInt8)):List (List D):=l.map λs=>[.str s]
def z7 (l:List (List UInt8)):(yR l).length=l.length:=List.length_map ..
def jr {l:List (List UInt8)} (h:i<l.length):(yR l)[i]? =some [.str l[i]]:=by simp[yR,h]
def qF {l:List (List UInt8)} :∀x∈yR l,yf x:=λx a=>by
 obtain⟨s,_,rfl⟩:=List.mem_map.1 a;exact⟨rfl,⟨trivial,trivial⟩,rfl⟩
def ZD {l:List (List UInt8)} :∀x∈yR l,x.length=1:=λx a=>by
 obtain⟨s,_,rfl⟩:=List.mem_map.1 a;rfl
def sdd (s:List UInt8):D:= .str s
def N5 (l:List (List UInt8)):(yR l).flatten=l.map sdd:=by
 induction l with
 |nil=>rfl
 |cons x l a=>simp[yR,sdd] at a⊢;exact a
open List hiding max min map and or get le lt range extract
open Nat(zero_le le_refl le_trans lt_irrefl le_of_lt lt_of_lt_of_le lt_of_le_of_lt lt_succ_iff_lt_or_eq le_of_lt_succ)
set_option maxRecDepth 100000
def JO {l:List (List UInt8)} (u:zZ 1 (yR l) d) (z:l.length<=1048576) (s:List UInt8) (h:Heap):
  zA prog 92 [d, .str s] h λr h'=>h'=h/\r= .int .i64 (match l.findIdx? (· ==s) with|some i=>(i:Int)|none=> -1):=by
 refine xO mix func92 zGt rfl rfl ?_;simp only[f92,gJ];have w:((yR l).length:Int)=l.length:=by rw[z7]
 simp only[go_sem,Nat.reduceEqDiff,↓reduceIte,yc u underlying31,w];refine yF (λi fr h'=>fr 0=d/\fr 1= .str s/\fr 7= .int .i64 l.length/\fr 8= .int .i64 (i:Int)/\h'=h/\∀j (m:j<l.length),j<i->(l[j]==s)=false) l.length (by simp[go_sem]) ?_;rintro i fr h' y ⟨o,p,q,t,rfl,m⟩;simp only[go_sem,Nat.reduceEqDiff,↓reduceIte,o,p,q,t];by_cases b:i<l.length
 ·rw[decide_eq_true (by exact_mod_cast b)];have f:(s==l[i])=(l[i]==s):=by
   by_cases e:s=l[i]
   ·rw[e]
   ·rw[beq_eq_false_iff_ne.2 e,beq_eq_false_iff_ne.2 (Ne.symm e)]
  cases k:(l[i]==s) with
  |true=>
   simp only[go_sem,Nat.reduceEqDiff,↓reduceIte,o,p,q,t,zb u yq uY (jr b),sT,f,k]
   have:l.findIdx? (· ==s)=some i:=by
    rw[findIdx?_eq_some_iff_getElem];exact⟨b,k,λj a=>by rw[m j ow a];exact Bool.false_ne_true⟩
   rw[this]
  |false=>
   simp only[go_sem,Nat.reduceEqDiff,↓reduceIte,o,p,q,t,zb u yq uY (jr b),sT,f,k];refine⟨b,by rw[zw (by unfold lim;omega)],λj c a=> ?_⟩;rcases Nat.lt_succ_iff_lt_or_eq.1 a with a|rfl
   ·exact m j c a
   ·exact k
 ·have v:i=l.length:=ow;subst v;rw[decide_eq_false ow];simp only[go_sem,Nat.reduceEqDiff,↓reduceIte]
  have:l.findIdx? (· ==s)=none:=by
   rw[findIdx?_eq_none_iff];intro n x;obtain⟨j,c,rfl⟩:=mem_iff_getElem.1 x;exact m j c c
  rw[this]
def l9 {l:List α} {p:α->Bool} :decide ((match l.findIdx? p with|some i=>(i:Int)|none=> -1)>=0)=l.any p:=by
 cases a:l.findIdx? p with
 |none=>
  have:l.any p=false:=by
   rw[findIdx?_eq_none_iff] at a;rw[any_eq_false];intro n c;rw[a n c];exact Bool.false_ne_true
  rw[this];rfl
 |some i=>
  have:l.any p=true:=by
   rw[findIdx?_eq_some_iff_getElem] at a;obtain⟨b,d,_⟩:=a;exact any_eq_true.2 ⟨_,getElem_mem b,d⟩
  rw[this];simp
def pF {l:List (List UInt8)} (a:zZ 1 (yR l) d) (b:l.length<=1048576) (s:List UInt8) (h:Heap):
  zA prog 45 [d, .str s] h λr h'=>h'=h/\r= .bool (l.any (· ==s)):=by
 refine xO mix func45 zGM rfl rfl ?_;simp only[f45,gJ];simp only[go_sem,Nat.reduceEqDiff,↓reduceIte];refine(JO a b s _).mono ?_;rintro r c ⟨rfl,rfl⟩;simp only[go_sem,Nat.reduceEqDiff,↓reduceIte,l9]
def Ys {l:List (List UInt8)} (u:zZ 1 (yR l) d) (A:l.length<=1048576) {g:FuncId} {fst cap:List D} {p:List UInt8->Bool} (x:∀s∈l,∀h,zA prog g (fst++ [.str s]++cap) h λr h'=>h'=h/\r= .bool (p s)) (h:Heap):
  zA prog 176 [d, .fn (.func g) fst cap] h λr h'=>h'=h/\r= .int .i64 (match l.findIdx? p with|some i=>(i:Int)|none=> -1):=by
 refine xO mix func176 AF rfl rfl ?_;simp only[f176,gJ];have k:((yR l).length:Int)=l.length:=by rw[z7]
 simp only[go_sem,Nat.reduceEqDiff,↓reduceIte,yc u underlying31,k];refine yF (λi fr h'=>fr 0=d/\fr 1= .fn (.func g) fst cap/\fr 7= .int .i64 l.length/\fr 8= .int .i64 (i:Int)/\h'=h/\∀j (e:j<l.length),j<i->p l[j]=false) l.length (by simp[go_sem]) ?_;rintro i fr h' z ⟨m,o,q,t,rfl,e⟩;simp only[go_sem,Nat.reduceEqDiff,↓reduceIte,m,o,q,t];by_cases b:i<l.length
 ·rw[decide_eq_true (by exact_mod_cast b)];simp only[go_sem,Nat.reduceEqDiff,↓reduceIte,m,o,q,t,zb u yq uY (jr b),sT];refine(x _ (getElem_mem b) _).mono ?_;rintro r y ⟨rfl,rfl⟩;cases v:p l[i] with
  |true=>
   simp only[go_sem,Nat.reduceEqDiff,↓reduceIte]
   have:l.findIdx? p=some i:=by
    rw[findIdx?_eq_some_iff_getElem];exact⟨b,v,λj a=>by rw[e j ow a];exact Bool.false_ne_true⟩
   rw[this]
  |false=>
   simp only[go_sem,Nat.reduceEqDiff,↓reduceIte];refine⟨b,by rw[zw (by unfold lim;omega)],λj c a=> ?_⟩;rcases Nat.lt_succ_iff_lt_or_eq.1 a with a|rfl
   ·exact e j c a
   ·exact v
 ·have f:i=l.length:=ow;subst f;rw[decide_eq_false ow];simp only[go_sem,Nat.reduceEqDiff,↓reduceIte]
  have:l.findIdx? p=none:=by
   rw[findIdx?_eq_none_iff];intro n w;obtain⟨j,c,rfl⟩:=mem_iff_getElem.1 w;exact e j c c
  rw[this]
def fO {l:List (List UInt8)} (a:zZ 1 (yR l) d) (b:l.length<=1048576) {g:FuncId} {fst cap:List D} {p:List UInt8->Bool} (c:∀s∈l,∀h,zA prog g (fst++ [.str s]++cap) h λr h'=>h'=h/\r= .bool (p s)) (h:Heap):
  zA prog 224 [d, .fn (.func g) fst cap] h λr h'=>h'=h/\r= .bool (l.any p):=by
 refine xO mix func224 Bw rfl rfl ?_;simp only[f224,gJ];simp only[go_sem,Nat.reduceEqDiff,↓reduceIte];refine(Ys a b c _).mono ?_;rintro r e ⟨rfl,rfl⟩;simp only[go_sem,Nat.reduceEqDiff,↓reduceIte,l9]
def Yt (y:s.length<=1048576) {g:FuncId} {p:Nat->Bool} (v:∀n:Nat,n<=1114111->∀h,zA prog g [.int .i32 n] h λr h'=>h'=h/\r= .bool (p n)) (h:Heap):
  zA prog 392 [.str s, .fn (.func g) [] [], .bool true] h λr h'=>h'=h/\∃n:Int,r= .int .i64 n/\decide (n>=0)=uQ p s (s.length+1) 0:=by
 refine xU kr λu=> ?_;refine xO mix func392 AP rfl rfl ?_;simp only[f392,gJ];have hr:∀h:Heap,kR prog h.next 9 (.str s) h=some (.ptr h.next 0,h.new h.next (.siter s 0)):=λh=>by simp[kR,underlying9]
 simp only[go_sem,Nat.reduceEqDiff,↓reduceIte,hr];refine V1 (λk fr h'=>∃pos:Nat,k=s.length-pos/\fr 1= .fn (.func g) [] []/\fr 2= .bool true/\fr 10= .ptr h.next 0/\h'.at' h.next=some (.siter s pos)/\Ext h h'/\uQ p s (s.length+1) 0=uQ p s (s.length+1-pos) pos) s.length ?_ ?_
 ·refine⟨0,rfl,?_⟩;simp only[go_sem,Nat.reduceEqDiff,↓reduceIte,Nat.sub_zero,true_and];exact(Ext.refl h).new (le_refl _) _
 rintro k fr h' ⟨pos,rfl,l,m,e,hit,d,a⟩;by_cases f:pos<s.length
 ·have q:=RS hit (by unfold lim;omega) f;have o:(wQ s pos).1<=1114111:=Go.Lib.rune_le _ _;have w:=Wq s pos;simp only[go_sem,Nat.reduceEqDiff,↓reduceIte,l,m,e,q,so];refine(v _ o _).mono ?_;rintro r x ⟨rfl,rfl⟩;have i:∀b c,pb prog .eql 4 c (.bool b) (.bool true)=some (.bool b):=λb c=>by cases b<;>simp[pb,IZ,tE,veq,underlying4]
  have j:s.length+1-pos=(s.length-pos)+1:=ow;cases t:p (wQ s pos).1 with
  |true=>
   simp only[go_sem,Nat.reduceEqDiff,↓reduceIte,i,l,m,e];refine⟨d.set (le_refl _) _,trivial,(pos:Int),rfl,?_⟩;rw[a,j,uQ,ip f,t,decide_eq_true ow];rfl
  |false=>
   simp only[go_sem,Nat.reduceEqDiff,↓reduceIte,i,l,m,e];refine⟨s.length- (pos+(wQ s pos).2),by omega,pos+(wQ s pos).2,rfl,rfl,d.set (le_refl _) _,?_⟩;rw[a,j,uQ,ip f,t,Bool.false_or];exact jA ow ow
 ·have q:=N3 hit f;simp only[go_sem,Nat.reduceEqDiff,↓reduceIte,l,m,e,q,so];refine⟨d,trivial,-1,rfl,?_⟩;rw[a,sX ow];rfl
def fP (c:s.length<=1048576) {g:FuncId} {p:Nat->Bool} (d:∀n:Nat,n<=1114111->∀h,zA prog g [.int .i32 n] h λr h'=>h'=h/\r= .bool (p n)) (h:Heap):
  zA prog 292 [.str s, .fn (.func g) [] []] h λr h'=>h'=h/\r= .bool (uQ p s (s.length+1) 0):=by
 refine xO mix func292 B3 rfl rfl ?_;simp only[f292,gJ];simp only[go_sem,Nat.reduceEqDiff,↓reduceIte];refine zA.mono (Q:=λr h'=>h'=h/\∃n:Int,r= .int .i64 n/\decide (n>=0)=uQ p s (s.length+1) 0) ?_ ?_
 ·refine xO mix func348 Bg rfl rfl ?_;simp only[f348,gJ];simp only[go_sem,Nat.reduceEqDiff,↓reduceIte];refine(Yt c d _).mono ?_;rintro r b ⟨rfl,n,rfl,a⟩;simp only[go_sem,Nat.reduceEqDiff,↓reduceIte];exact⟨n,rfl,a⟩
 ·rintro r b ⟨rfl,n,rfl,a⟩;simp only[go_sem,Nat.reduceEqDiff,↓reduceIte,a]
theorem N6 (U:s.length<=1048576) (c:UInt8) (h:Heap):
  zA prog 48 [.str s, .str [c]] h λr h'=>h'=h/\r= .sl 1 (yR (zy c s)) .no:=by
 refine xO mix func48 zGf rfl rfl ?_;simp only[f48,gJ];simp only[go_sem,Nat.reduceEqDiff,↓reduceIte];refine zA.mono (Q:=λr h'=>h'=h/\r= .sl 1 (yR (zy c s)) .no) ?_ ?_
 rotate_left
 ·rintro r Y ⟨rfl,rfl⟩;simp only[go_sem,Nat.reduceEqDiff,↓reduceIte]
 have P:=me c s;have G:=tt c s;refine xU kr λW=>zA.freezeD ?_;refine xO mix func94 zGY rfl rfl ?_;simp only[f94,gJ];have I:([c]==([]:List UInt8))=false:=rfl;simp only[go_sem,Nat.reduceEqDiff,↓reduceIte,I,show((-1:Int)==0)=false from rfl,show decide ((-1:Int)<0)=true from rfl]
 refine(F7 U c _).mono ?_;rintro r h ⟨rfl,rfl⟩;have J:IntKind.i64.wrap ((Lib.countByte s c:Nat)+1:Int)=(((zy c s).length:Nat):Int):=by
  rw[G,show Lib.countByte s c=s.count c from rfl]
  exact zw (by have:=count_le_length (a:=c) (l:=s);unfold lim;omega)
 have K:IntKind.i64.wrap ((s.length:Int)+1)=((s.length+1:Nat):Int):=zw (by unfold lim;omega);have w:R8 (.int .i64 (((zy c s).length:Nat):Int)) (.int .i64 ((s.length+1:Nat):Int))=some (.int .i64 (((zy c s).length:Nat):Int)):=by
  simp only[R8,if_true];rw[iq ow]
 have H:∀h:Heap,qP prog true h.next 31 (.int .i64 (((zy c s).length:Nat):Int)) (.int .i64 (((zy c s).length:Nat):Int)) h=some (.rs h.next 1 0 (zy c s).length,h.new h.next (.row (si (zy c s).length [.str []]))):=λh=>by
  simp only[qP,yq,nR,uY,tB];rw[ip (by simp[Yo,Nx];unfold lim;omega)];simp;rfl
 have L:IntKind.i64.wrap ((((zy c s).length:Nat):Int)-1)=((((zy c s).length-1:Nat)):Int):=by
  have:=fN c s;have h1:0<(zy c s).length:=length_pos_iff.2 this;rw[zd ow ow];omega
 simp only[go_sem,Nat.reduceEqDiff,↓reduceIte,J,K,L,w,H,zHR,contains_cons,Nat.reduceBEq,qh underlying9];have S:0<(zy c s).length:=length_pos_iff.2 (fN c s);refine yF (λi fr h'=>∃ (f:List (List UInt8)) (r:List UInt8),f.length=i/\zy c s=f++zy c r/\r.length<=s.length/\fr 0= .str r/\fr 1= .str [c]/\fr 2= .int .i64 0/\fr 3= .int .i64 (((zy c s).length-1:Nat):Int)/\fr 9= .rs h.next 1 0 (zy c s).length/\fr 10= .int .i64 (i:Int)/\
   h'.at' h.next=some (.row (f.map sdd++List.replicate ((zy c s).length-i) (.str [])))/\Ext h h') ((zy c s).length-1) ?_ ?_
 ·refine⟨[],s,rfl,rfl,le_refl _,?_⟩;simp only[go_sem,Nat.reduceEqDiff,↓reduceIte,true_and,Nat.sub_zero];refine⟨rfl,?_,(Ext.refl h).new (le_refl _) _⟩;rw[JN]
 rintro i fr h' Z ⟨f,r,b,d,X,z,A,B,C,E,j,o,k⟩;simp only[go_sem,Nat.reduceEqDiff,↓reduceIte,z,A,B,C,E,j];have n:∀x:List UInt8,i<(zy c s).length->(f.map sdd++List.replicate ((zy c s).length-i) (D.str [])).set i (D.str x)=(f++ [x]).map sdd++List.replicate ((zy c s).length- (i+1)) (D.str []):=λx t=>by
  rw[set_append_right _ _ (by simp[b]),length_map,b,Nat.sub_self,show(zy c s).length-i=((zy c s).length- (i+1))+1 by omega,replicate_succ,set_cons_zero];simp[sdd]
 by_cases t:i<(zy c s).length-1
 ·rw[decide_eq_true (by exact_mod_cast t)];simp only[go_sem,Nat.reduceEqDiff,↓reduceIte,z,A,B,C,E,j];refine(F8 ow c _).mono ?_;rintro q h' ⟨rfl,rfl⟩;rcases Wr r c with⟨R,u⟩ | ⟨m,R,V,u⟩
  ·exfalso;rw[u] at d;have:=congrArg List.length d;simp[b] at this;omega
  ·have y:decide (((m:Nat):Int)<0)=false:=decide_eq_false ow;have M:IntKind.i64.wrap ((m:Int)+0)=((m:Nat):Int):=by rw[Int.add_zero,zd ow ow]
   have N:IntKind.i64.wrap ((m:Int)+1)=((m+1:Nat):Int):=zw (by unfold lim;omega);have F:([c].length:Int)=1:=rfl;have e:zP prog 9 (.ptr h.next (i*1)) (.str (r.take m)) h'=some (h'.set h.next (.row ((f++ [r.take m]).map sdd++List.replicate ((zy c s).length- (i+1)) (.str [])))):=by
    rw[Nat.mul_one,zS o uY (by simp[b];omega) rfl rfl,n _ ow]
   simp only[go_sem,Nat.reduceEqDiff,↓reduceIte,z,A,B,C,E,j,R,y,M,N,F,qh underlying9,ZC V2 underlying9 (show m<=r.length by omega),md V2 underlying9 (show m+1<=r.length by omega),z8 yq uY (show i<(zy c s).length by omega),e];refine⟨t,f++ [r.take m],r.drop (m+1),by simp[b],by rw[d,u];simp,by simp;omega,rfl,?_,rfl,k.set (le_refl _) _⟩;rw[zw (by unfold lim;omega)]
 ·have T:i=(zy c s).length-1:=ow;rw[decide_eq_false ow];have p:zy c r= [r]:=by
   have h1:=congrArg List.length d;rw[length_append,b,tt c r] at h1;exact nV (count_eq_zero.1 ow)
  have O:IntKind.i64.wrap ((i:Int)+1)=(((zy c s).length:Nat):Int):=by rw[zw (by unfold lim;omega)];omega
  have e:zP prog 9 (.ptr h.next (i*1)) (.str r) h'=some (h'.set h.next (.row ((f++ [r]).map sdd++List.replicate ((zy c s).length- (i+1)) (.str [])))):=by
   rw[Nat.mul_one,zS o uY (by simp[b];omega) rfl rfl,n _ ow]
  simp only[go_sem,Nat.reduceEqDiff,↓reduceIte,z,A,B,C,E,j,O,z8 yq uY (show i<(zy c s).length by omega),e,tJ Gn yq uY (le_refl (zy c s).length)];have v:(f++ [r]).map sdd++List.replicate ((zy c s).length- (i+1)) (.str [])=(yR (zy c s)).flatten:=by
   rw[show(zy c s).length- (i+1)=0 by omega,replicate_zero,append_nil,N5,d,p]
  refine⟨h.next,_,zC _ _ _,(k.set (le_refl _) _).del (le_refl _),?_⟩;rw[bK ZD (z7 _) v];exact⟨zx (zero_le _) _ (yB (sz:=1) qF .no).2,rfl⟩
def kA:List UInt8:=[97,98,99,100,101,102,103,104,105,106,107,108,109,110,111,112,113,114,115,116,117,118,119,120,121,122,48,49,50,51,52,53,54,55,56,57,45,46]
def tR (s:List UInt8):Bool:=match s with
 | []=>false
 |b::r=> !(decide ((b::r).length>32)||decide ((b.toNat:Int)<97)||decide ((b.toNat:Int)>122)||((b::r:List UInt8)== [97,110,100])||((b::r:List UInt8)== [111,114])||((b::r:List UInt8)== [119,105,116,104]))&&(Lib.trimS (b::r) kA== [])
def bL (s:List UInt8):List (List UInt8):=if s= [] then [] else zy 10 s
def pG (b:UInt8):Bool:=((b.toNat:Int) !=10)&&(decide ((b.toNat:Int)<32)||decide ((b.toNat:Int)>126))
end Go.V
