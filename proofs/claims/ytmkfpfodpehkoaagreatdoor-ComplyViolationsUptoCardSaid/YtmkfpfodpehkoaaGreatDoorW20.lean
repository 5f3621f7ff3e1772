/- Rules of the machine of abstract values, part 3. No condition. -/
import Derived.Test.YtmkfpfodpehkoaaGreatDoorW19
import Derived.Sort.Grow
import Derived.Lib.TrimU
import Derived.Lib.IndexLaws
set_option linter.all false
set_option maxHeartbeats 8000000
namespace Go.V
open Go.RowKit (Below)
attribute [go_sem] Option.map_none Option.map_some
section
variable{P:Program}{t e:TypeId}{s:List UInt8}{h:Heap}
variable{n:Nat}
def Uo(a:X5 P t=none)(c:P.underlying t=some .string){k:IntKind}(b:n<=s.length):wi P t (.str s) none (some (.int k (n:Int))) none h=some (.str (s.take n)):=by
 simp[wi,a,mj,c,to,Zo,Xy,b]
def bf(a:X5 P t=none)(c:P.underlying t=some .string){k:IntKind}(b:n<=s.length):wi P t (.str s) (some (.int k (n:Int))) none none h=some (.str (s.drop n)):=by
 simp[wi,a,mj,c,to,Zo,Xy,b]
def nB(a:X5 P t=none)(b:tQ P t=some e){id sz len n:Nat}(d:szT P e=sz){k:IntKind}(c:n<=len):wi P t (.rs id sz 0 len) none (some (.int k (n:Int))) none h=some (.rs id sz 0 n):=by
 simp[wi,a,mj,b,d,to,Zo,Xy,c]
def pN(a:P.underlying t=some .string):js P t (.str s) h=some (.int .i64 s.length):=by simp[js,a]
def mA(c:P.underlying t=some .string){k:IntKind}{b:UInt8}(a:s[n]? =some b):kV P t (.str s) (.int k (n:Int))=some (.int .u8 b.toNat):=by
 simp[kV,c,a]
end
variable{I:List Nat}{M:Imm}{ρ:Ren}{h:Heap}{w:World}{n i:Nat}{s:List UInt8}{α:Type}{d:D}
def Sim.grow{w0:Base}(b:Sim w0 I M ρ h w)(os:Array Go.Obj):Sim w0 I M ρ h (Go.Sort.grow w os):=
 b.world ⟨⟨rfl,rfl,rfl,by simp[Go.Sort.grow],λk a=>by simp[Go.Sort.grow,tm a]⟩,zD _⟩
def rN(p:Nat->Bool)(s:List UInt8):Nat->Nat->Bool
 |0,_=>false
 |k+1,pos=>if pos<s.length then p (sL s pos).1||rN p s k (pos+(sL s pos).2)else false
def oE{p:Nat->Bool}{pos:Nat}(h:s.length<=pos):∀k,rN p s k pos=false
 |0=>rfl
 |k+1=>by simp[rN];omega
theorem aq{p:Nat->Bool} :∀{j k pos:Nat},s.length+1<=pos+j->s.length+1<=pos+k->rN p s j pos=rN p s k pos
 |0,k,pos,a,_=>by rw[oE ow,oE ow]
 |j+1,0,pos,_,b=>by rw[oE ow,oE ow]
 |j+1,k+1,pos,a,b=>by
  simp only[rN];by_cases h:pos<s.length
  ·have:=Go.Lib.width_pos ⟨s.toArray⟩ pos;rw[ip h,ip h,aq (j:=j) (k:=k) (by unfold sL;omega) (by unfold sL;omega)]
  ·rw[iq h,iq h]
def PI(s:List UInt8)(pos:Nat):IntKind.i32.wrap ((sL s pos).1:Int)=((sL s pos).1:Int):=by
 have:=Go.Lib.rune_le ⟨s.toArray⟩ pos;unfold sL IntKind.wrap;simp[IntKind.signed,IntKind.bits];split<;>omega
def PH(s:List UInt8)(pos:Nat):1<=(sL s pos).2:=Go.Lib.width_pos _ _
def LO{pos id:Nat}(a:h.at' id=some (.siter s pos))(b:s.length<=lim)(c:pos<s.length):WQ (.ptr id 0) true h=some (.tuple [.bool true,.int .i64 (pos:Int),.int .i32 ((sL s pos).1:Int)],h.set id (.siter s (pos+(sL s pos).2))):=by
 simp[WQ,a,c,b,PI]
def IC{pos id:Nat}(a:h.at' id=some (.siter s pos))(b:¬pos<s.length):WQ (.ptr id 0) true h=some (.tuple [.bool false],h):=by
 simp[WQ,a,b]
def GA(n:Nat)(d:D):nz n [d]=List.replicate n d:=by
 induction n with
 |zero=>rfl
 |succ n a=>simp only[nz,wJ,yc]at a⊢;rw[a];rfl
open Go.Proofs.Tryz
open Go.Proofs
def Cl(g:s.length<=1048576)(c:UInt8)(h:Heap):zB prog 119 [.str s,.str [c]] h λr h'=>h'=h/\r=.int .i64 (Lib.countByte s c:Nat):=by
 have f:Lib.countByte s c<=s.length:=nP;refine(Y4 kr (λs c w=>Tryz.strings_Count_one s c w) (args:=[.str s,.str [c]]) (d:=.int .i64 (Lib.countByte s c:Nat)) ?_ h).mono λa b e=>⟨e.2,e.1⟩;simp only[Zt,B0];rw[qE ow ow];simp
def Cm(i:s.length<=1048576)(c:UInt8)(h:Heap):zB prog 120 [.str s,.str [c]] h λr h'=>h'=h/\r=.int .i64 (Lib.indexByte s c):=by
 have h1:=Lib.indexByte_ge s c;have g:Lib.indexByte s c<=s.length:=by
  by_cases h0:Lib.indexByte s c= -1
  ·omega
  ·obtain⟨m,f⟩:=kb (show 0<=Lib.indexByte s c by omega);have:=(zR.1 (Lib.indexByte_some f).1).1;omega
 refine(dx kr (λs c w=>Tryz.strings_Index_one s c w) (args:=[.str s,.str [c]]) (d:=.int .i64 (Lib.indexByte s c)) ?_ h).mono λa b e=>⟨e.2,e.1⟩;simp only[ct,B0];rw[qE ow ow];simp
theorem jD(p:α->Bool):∀l:List α,(l.dropWhile p).length<=l.length
 | []=>zD _
 |a::l=>by
  simp only[List.dropWhile];split
  ·have:=jD p l;simp;omega
  ·exact zD _
def Jz(s c:List UInt8):(Lib.trimS s c).length<=s.length:=by
 unfold Lib.trimS Lib.trimLeftS Lib.trimRightS;refine za (jD _ _) ?_;rw[dV];refine za (jD _ _) ?_;rw[dV];exact zD _
def Eb(j:s.length<=1048576){c:List UInt8}(g:c.all (λb=>decide (b.toNat<128))=true)(i:c.length<4294967281)(h:Heap)(h0:Nat.ble 2 c.length=true:=by decide):zB prog 171 [.str s,.str c] h λr h'=>h'=h/\r=.str (Lib.trimS s c):=by
 refine(Wk kr (λs c w h0 h1 f h3=>Nu Tryz.lays160 kr s c w h0 h1 f h3) (args:=[.str s,.str c]) (d:=.str (Lib.trimS s c)) ?_ h).mono λa b e=>⟨e.2,e.1⟩;have h1:=Jz s c;have f:Nat.blt c.length 4294967281=true:=by rw[bn];exact i
 simp only[Vy,h0,g,f,yr,qG,zFQ];rw[ip (zN (by unfold lim;omega))]
def qC(c:UInt8):List UInt8->List (List UInt8)
 | []=>[[]]
 |b::s=>if b=c then []::qC c s else match qC c s with
  | []=>[[b]]
  |p::ps=>(b::p)::ps
def Xe(c:UInt8):∀s,qC c s≠[]
 | []=>by simp[qC]
 |b::s=>by
  simp only[qC];split
  ·simp
  ·split<;>simp
theorem ni(c:UInt8):∀s:List UInt8,(qC c s).length=s.count c+1
 | []=>rfl
 |b::s=>by
  have a:=ni c s;simp only[qC];by_cases h:b=c
  ·subst h;simp[a]
  ·rw[iq h,List.count_cons_of_ne h];split
   ·rename_i h0;rw[h0]at a;simp at a
   ·rename_i p d h0;rw[h0]at a;simpa using a
theorem jT{c:UInt8} :∀{s:List UInt8},c∉s->qC c s= [s]
 | [],_=>rfl
 |b::s,h=>by
  simp only[zt,ZE]at h;rw[qC,iq (λe=>h.1 e.symm),jT h.2]
theorem Xd{c:UInt8} :∀{m:Nat}{s:List UInt8},s[m]? =some c->(∀k,k<m->s[k]? ≠some c)->qC c s=s.take m::qC c (s.drop (m+1))
 |m,[],h,_=>by simp at h
 |0,b::s,h,_=>by
  simp only[wb,wt]at h;rw[qC,ip h];simp
 |m+1,b::s,h,a=>by
  simp only[tC]at h;have d:b≠c:=λe=>a 0 ow (by simp[e]);rw[qC,iq d,Xd h λk f=>by simpa using a (k+1) ow];simp
def Qr(s:List UInt8)(c:UInt8):(Lib.indexByte s c= -1/\qC c s= [s])\/∃m:Nat,Lib.indexByte s c=(m:Int)/\m<s.length/\qC c s=s.take m::qC c (s.drop (m+1)):=by
 have h1:=Lib.indexByte_ge s c;by_cases h:Lib.indexByte s c= -1
 ·refine .inl ⟨h,jT λe=> ?_⟩;obtain⟨k,f⟩:=yY.1 e;exact Lib.indexByte_none h k f
 ·obtain⟨m,b⟩:=kb (show 0<=Lib.indexByte s c by omega);obtain⟨a,d⟩:=Lib.indexByte_some b;exact .inr ⟨m,b,(zR.1 a).1,Xd a d⟩
def jS(c:UInt8)(s:List UInt8):(qC c s).length<=s.length+1:=by
 rw[ni];have:=nP (a:=c) (l:=s);omega
theorem lu(c:UInt8):∀(s:List UInt8),∀p∈qC c s,p.length<=s.length
 | [],p,h=>by simp[qC]at h;subst h;simp
 |b::s,p,h=>by
  have a:=lu c s;simp only[qC]at h;split at h
  ·rcases zt.1 h with rfl|h
   ·simp
   ·have:=a p h;simp;omega
  ·split at h
   ·rename_i h0;exact absurd h0 (Xe c s)
   ·rename_i q d h0;rcases zt.1 h with rfl|h
    ·have:=a q (by rw[h0];simp);simp;omega
    ·have:=a p (by rw[h0];simp[h]);simp;omega
def uH(l:List (List UInt8)):List (List D):=l.map λs=>[.str s]
def wK(l:List (List UInt8)):(uH l).length=l.length:=zI ..
def Z6{l:List (List UInt8)}(h:i<l.length):(uH l)[i]? =some [.str l[i]]:=by simp[uH,h]
theorem sw{l:List (List UInt8)} :∀x∈uH l,sH x:=λx a=>by
 obtain⟨s,_,rfl⟩:=zT.1 a;exact⟨rfl,⟨trivial,trivial⟩,rfl⟩
def UX{l:List (List UInt8)} :∀x∈uH l,x.length=1:=λx a=>by
 obtain⟨s,_,rfl⟩:=zT.1 a;rfl
def sdd(s:List UInt8):D:=.str s
def Ju(l:List (List UInt8)):(uH l).flatten=l.map sdd:=by
 induction l with
 |nil=>rfl
 |cons x l a=>simp[uH,sdd]at a⊢;exact a
set_option maxRecDepth 100000
def I6{l:List (List UInt8)}(t:ye 1 (uH l) d)(y:l.length<=1048576)(s:List UInt8)(h:Heap):
  zB prog 99 [d,.str s] h λr h'=>h'=h/\r=.int .i64 (match l.findIdx? (· ==s)with|some i=>(i:Int)|none=> -1):=by
 refine z5 zJc ?_;simp only[f99,zA];have v:((uH l).length:Int)=l.length:=by rw[wK]
 simp only[go_sem,Nat.reduceEqDiff,↓reduceIte,uV t underlying31,v];refine qx (λi fr h'=>fr 0=d/\fr 1=.str s/\fr 7=.int .i64 l.length/\fr 8=.int .i64 (i:Int)/\h'=h/\∀j (k:j<l.length),j<i->(l[j]==s)=false) l.length (by simp[go_sem]) ?_;rintro i fr h' x ⟨m,o,p,q,rfl,k⟩;simp only[go_sem,Nat.reduceEqDiff,↓reduceIte,m,o,p,q];by_cases b:i<l.length
 ·rw[zN (by exact_mod_cast b)];have f:(s==l[i])=(l[i]==s):=by
   by_cases e:s=l[i]
   ·rw[e]
   ·rw[qv.2 e,qv.2 (j7 e)]
  cases g:(l[i]==s)with
  |true=>
   simp only[go_sem,Nat.reduceEqDiff,↓reduceIte,m,o,p,q,qA t t5 md (Z6 b),mh,f,g]
   have:l.findIdx? (· ==s)=some i:=by
    rw[ql];exact⟨b,g,λj a=>by rw[k j ow a];exact zf⟩
   rw[this]
  |false=>
   simp only[go_sem,Nat.reduceEqDiff,↓reduceIte,m,o,p,q,qA t t5 md (Z6 b),mh,f,g];refine⟨b,by rw[qT (by unfold lim;omega)],λj c a=> ?_⟩;rcases zo.1 a with a|rfl
   ·exact k j c a
   ·exact g
 ·have u:i=l.length:=ow;subst u;rw[zO ow];simp only[go_sem,Nat.reduceEqDiff,↓reduceIte]
  have:l.findIdx? (· ==s)=none:=by
   rw[uY];intro n w;obtain⟨j,c,rfl⟩:=yH.1 w;exact k j c c
  rw[this]
def bz{l:List α}{p:α->Bool} :decide ((match l.findIdx? p with|some i=>(i:Int)|none=> -1)>=0)=l.any p:=by
 cases a:l.findIdx? p with
 |none=>
  have:l.any p=false:=by
   rw[uY]at a;rw[rZ];intro n c;rw[a n c];exact zf
  rw[this];rfl
 |some i=>
  have:l.any p=true:=by
   rw[ql]at a;obtain⟨b,d,_⟩:=a;exact yZ.2 ⟨_,zG b,d⟩
  rw[this];simp
def kx{l:List (List UInt8)}(a:ye 1 (uH l) d)(b:l.length<=1048576)(s:List UInt8)(h:Heap):
  zB prog 55 [d,.str s] h λr h'=>h'=h/\r=.bool (l.any (· ==s)):=by
 refine z5 zJK ?_;simp only[f55,zA];simp only[go_sem,Nat.reduceEqDiff,↓reduceIte];refine(I6 a b s _).mono ?_;rintro r c ⟨rfl,rfl⟩;simp only[go_sem,Nat.reduceEqDiff,↓reduceIte,bz]
def TG{l:List (List UInt8)}(u:ye 1 (uH l) d)(A:l.length<=1048576){g:FuncId}{fst cap:List D}{p:List UInt8->Bool}(x:∀s∈l,∀h,zB prog g (fst++ [.str s]++cap) h λr h'=>h'=h/\r=.bool (p s))(h:Heap):
  zB prog 121 [d,.fn (.func g) fst cap] h λr h'=>h'=h/\r=.int .i64 (match l.findIdx? p with|some i=>(i:Int)|none=> -1):=by
 refine z5 zC2 ?_;simp only[f121,zA];have k:((uH l).length:Int)=l.length:=by rw[wK]
 simp only[go_sem,Nat.reduceEqDiff,↓reduceIte,uV u underlying31,k];refine qx (λi fr h'=>fr 0=d/\fr 1=.fn (.func g) fst cap/\fr 7=.int .i64 l.length/\fr 8=.int .i64 (i:Int)/\h'=h/\∀j (e:j<l.length),j<i->p l[j]=false) l.length (by simp[go_sem]) ?_;rintro i fr h' z ⟨m,o,q,t,rfl,e⟩;simp only[go_sem,Nat.reduceEqDiff,↓reduceIte,m,o,q,t];by_cases b:i<l.length
 ·rw[zN (by exact_mod_cast b)];simp only[go_sem,Nat.reduceEqDiff,↓reduceIte,m,o,q,t,qA u t5 md (Z6 b),mh];refine(x _ (zG b) _).mono ?_;rintro r y ⟨rfl,rfl⟩;cases v:p l[i]with
  |true=>
   simp only[go_sem,Nat.reduceEqDiff,↓reduceIte]
   have:l.findIdx? p=some i:=by
    rw[ql];exact⟨b,v,λj a=>by rw[e j ow a];exact zf⟩
   rw[this]
  |false=>
   simp only[go_sem,Nat.reduceEqDiff,↓reduceIte];refine⟨b,by rw[qT (by unfold lim;omega)],λj c a=> ?_⟩;rcases zo.1 a with a|rfl
   ·exact e j c a
   ·exact v
 ·have f:i=l.length:=ow;subst f;rw[zO ow];simp only[go_sem,Nat.reduceEqDiff,↓reduceIte]
  have:l.findIdx? p=none:=by
   rw[uY];intro n w;obtain⟨j,c,rfl⟩:=yH.1 w;exact e j c c
  rw[this]
def YO{l:List (List UInt8)}(a:ye 1 (uH l) d)(b:l.length<=1048576){g:FuncId}{fst cap:List D}{p:List UInt8->Bool}(c:∀s∈l,∀h,zB prog g (fst++ [.str s]++cap) h λr h'=>h'=h/\r=.bool (p s))(h:Heap):
  zB prog 257 [d,.fn (.func g) fst cap] h λr h'=>h'=h/\r=.bool (l.any p):=by
 refine z5 zDa ?_;simp only[f257,zA];simp only[go_sem,Nat.reduceEqDiff,↓reduceIte];refine(TG a b c _).mono ?_;rintro r e ⟨rfl,rfl⟩;simp only[go_sem,Nat.reduceEqDiff,↓reduceIte,bz]
def TQ(y:s.length<=1048576){g:FuncId}{p:Nat->Bool}(v:∀n:Nat,n<=1114111->∀h,zB prog g [.int .i32 n] h λr h'=>h'=h/\r=.bool (p n))(h:Heap):
  zB prog 371 [.str s,.fn (.func g) [] [],.bool true] h λr h'=>h'=h/\∃n:Int,r=.int .i64 n/\decide (n>=0)=rN p s (s.length+1) 0:=by
 refine xU kr λu=> ?_;refine z5 zDw ?_;simp only[f371,zA];have hr:∀h:Heap,ZP prog h.next 9 (.str s) h=some (.ptr h.next 0,h.new h.next (.siter s 0)):=λh=>by simp[ZP,underlying9]
 simp only[go_sem,Nat.reduceEqDiff,↓reduceIte,hr];refine N5 (λk fr h'=>∃pos:Nat,k=s.length-pos/\fr 1=.fn (.func g) [] []/\fr 2=.bool true/\fr 10=.ptr h.next 0/\h'.at' h.next=some (.siter s pos)/\Ext h h'/\rN p s (s.length+1) 0=rN p s (s.length+1-pos) pos) s.length ?_ ?_
 ·refine⟨0,rfl,?_⟩;simp only[go_sem,Nat.reduceEqDiff,↓reduceIte,tv,zQ];exact(Ext.refl h).new (zD _) _
 rintro k fr h' ⟨pos,rfl,l,m,e,hit,d,a⟩;by_cases f:pos<s.length
 ·have q:=LO hit (by unfold lim;omega) f;have o:(sL s pos).1<=1114111:=Go.Lib.rune_le _ _;have w:=PH s pos;simp only[go_sem,Nat.reduceEqDiff,↓reduceIte,l,m,e,q,lO];refine(v _ o _).mono ?_;rintro r x ⟨rfl,rfl⟩;have i:∀b c,fV prog .eql 4 c (.bool b) (.bool true)=some (.bool b):=λb c=>by cases b<;>simp[fV,GU,oA,veq,underlying4]
  have j:s.length+1-pos=(s.length-pos)+1:=ow;cases t:p (sL s pos).1 with
  |true=>
   simp only[go_sem,Nat.reduceEqDiff,↓reduceIte,i,l,m,e];refine⟨d.set (zD _) _,trivial,(pos:Int),rfl,?_⟩;rw[a,j,rN,ip f,t,zN ow];rfl
  |false=>
   simp only[go_sem,Nat.reduceEqDiff,↓reduceIte,i,l,m,e];refine⟨s.length- (pos+(sL s pos).2),by omega,pos+(sL s pos).2,rfl,rfl,d.set (zD _) _,?_⟩;rw[a,j,rN,ip f,t,qe];exact aq ow ow
 ·have q:=IC hit f;simp only[go_sem,Nat.reduceEqDiff,↓reduceIte,l,m,e,q,lO];refine⟨d,trivial,-1,rfl,?_⟩;rw[a,oE ow];rfl
def YT(c:s.length<=1048576){g:FuncId}{p:Nat->Bool}(d:∀n:Nat,n<=1114111->∀h,zB prog g [.int .i32 n] h λr h'=>h'=h/\r=.bool (p n))(h:Heap):
  zB prog 314 [.str s,.fn (.func g) [] []] h λr h'=>h'=h/\r=.bool (rN p s (s.length+1) 0):=by
 refine z5 zDp ?_;simp only[f314,zA];simp only[go_sem,Nat.reduceEqDiff,↓reduceIte];refine zB.mono (Q:=λr h'=>h'=h/\∃n:Int,r=.int .i64 n/\decide (n>=0)=rN p s (s.length+1) 0) ?_ ?_
 ·refine z5 zDu ?_;simp only[f339,zA];simp only[go_sem,Nat.reduceEqDiff,↓reduceIte];refine(TQ c d _).mono ?_;rintro r b ⟨rfl,n,rfl,a⟩;simp only[go_sem,Nat.reduceEqDiff,↓reduceIte];exact⟨n,rfl,a⟩
 ·rintro r b ⟨rfl,n,rfl,a⟩;simp only[go_sem,Nat.reduceEqDiff,↓reduceIte,a]
theorem KE(T:s.length<=1048576)(c:UInt8)(h:Heap):
  zB prog 31 [.str s,.str [c]] h λr h'=>h'=h/\r=.sl 1 (uH (qC c s)) .no:=by
 refine z5 zJB ?_;simp only[f31,zA];simp only[go_sem,Nat.reduceEqDiff,↓reduceIte];refine zB.mono (Q:=λr h'=>h'=h/\r=.sl 1 (uH (qC c s)) .no) ?_ ?_
 rotate_left
 ·rintro r X ⟨rfl,rfl⟩;simp only[go_sem,Nat.reduceEqDiff,↓reduceIte]
 have O:=jS c s;have F:=ni c s;refine xU kr λV=>zB.freezeD ?_;refine z5 zJP ?_;simp only[f70,zA];have H:([c]==([]:List UInt8))=false:=rfl;simp only[go_sem,Nat.reduceEqDiff,↓reduceIte,H,show((-1:Int)==0)=false from rfl,show decide ((-1:Int)<0)=true from rfl]
 refine(Cl T c _).mono ?_;rintro r h ⟨rfl,rfl⟩;have I:IntKind.i64.wrap ((Lib.countByte s c:Nat)+1:Int)=(((qC c s).length:Nat):Int):=by
  rw[F,show Lib.countByte s c=s.count c from rfl]
  exact qT (by have:=nP (a:=c) (l:=s);unfold lim;omega)
 have J:IntKind.i64.wrap ((s.length:Int)+1)=((s.length+1:Nat):Int):=qT (by unfold lim;omega);have v:LZ (.int .i64 (((qC c s).length:Nat):Int)) (.int .i64 ((s.length+1:Nat):Int))=some (.int .i64 (((qC c s).length:Nat):Int)):=by
  simp only[LZ,qG];rw[iq ow]
 have G:∀h:Heap,sM prog true h.next 31 (.int .i64 (((qC c s).length:Nat):Int)) (.int .i64 (((qC c s).length:Nat):Int)) h=some (.rs h.next 1 0 (qC c s).length,h.new h.next (.row (nz (qC c s).length [.str []]))):=λh=>by
  simp only[sM,t5,Xx,md,kw];rw[ip (by simp[T8,KF];unfold lim;omega)];simp;rfl
 have K:IntKind.i64.wrap ((((qC c s).length:Nat):Int)-1)=((((qC c s).length-1:Nat)):Int):=by
  have:=Xe c s;have h1:0<(qC c s).length:=yF.2 this;rw[qE ow ow];omega
 simp only[go_sem,Nat.reduceEqDiff,↓reduceIte,I,J,K,v,G,List.contains_cons,Nat.reduceBEq,pN underlying9];have R:0<(qC c s).length:=yF.2 (Xe c s);refine qx (λi fr h'=>∃ (f:List (List UInt8)) (r:List UInt8),f.length=i/\qC c s=f++qC c r/\r.length<=s.length/\fr 0=.str r/\fr 1=.str [c]/\fr 2=.int .i64 0/\fr 3=.int .i64 (((qC c s).length-1:Nat):Int)/\fr 9=.rs h.next 1 0 (qC c s).length/\fr 10=.int .i64 (i:Int)/\
   h'.at' h.next=some (.row (f.map sdd++List.replicate ((qC c s).length-i) (.str [])))/\Ext h h') ((qC c s).length-1) ?_ ?_
 ·refine⟨[],s,rfl,rfl,zD _,?_⟩;simp only[go_sem,Nat.reduceEqDiff,↓reduceIte,zQ,tv];refine⟨rfl,?_,(Ext.refl h).new (zD _) _⟩;rw[GA]
 rintro i fr h' Y ⟨f,r,b,d,W,y,z,A,B,C,g,n,j⟩;simp only[go_sem,Nat.reduceEqDiff,↓reduceIte,y,z,A,B,C,g];have k:∀x:List UInt8,i<(qC c s).length->(f.map sdd++List.replicate ((qC c s).length-i) (D.str [])).set i (D.str x)=(f++ [x]).map sdd++List.replicate ((qC c s).length- (i+1)) (D.str []):=λx p=>by
  rw[oo _ _ (by simp[b]),zI,b,an,show(qC c s).length-i=((qC c s).length- (i+1))+1 by omega,wJ,mw];simp[sdd]
 by_cases p:i<(qC c s).length-1
 ·rw[zN (by exact_mod_cast p)];simp only[go_sem,Nat.reduceEqDiff,↓reduceIte,y,z,A,B,C,g];refine(Cm ow c _).mono ?_;rintro q h' ⟨rfl,rfl⟩;rcases Qr r c with⟨P,t⟩ | ⟨m,P,U,t⟩
  ·exfalso;rw[t]at d;have:=congrArg List.length d;simp[b]at this;omega
  ·have w:decide (((m:Nat):Int)<0)=false:=zO ow;have L:IntKind.i64.wrap ((m:Int)+0)=((m:Nat):Int):=by rw[Int.add_zero,qE ow ow]
   have M:IntKind.i64.wrap ((m:Int)+1)=((m+1:Nat):Int):=qT (by unfold lim;omega);have E:([c].length:Int)=1:=rfl;have e:qP prog 9 (.ptr h.next (i*1)) (.str (r.take m)) h'=some (h'.set h.next (.row ((f++ [r.take m]).map sdd++List.replicate ((qC c s).length- (i+1)) (.str [])))):=by
    rw[uz,qO n md (by simp[b];omega) rfl rfl,k _ ow]
   simp only[go_sem,Nat.reduceEqDiff,↓reduceIte,y,z,A,B,C,g,P,w,L,M,E,pN underlying9,Uo Pm underlying9 (show m<=r.length by omega),bf Pm underlying9 (show m+1<=r.length by omega),wE t5 md (show i<(qC c s).length by omega),e];refine⟨p,f++ [r.take m],r.drop (m+1),by simp[b],by rw[d,t];simp,by simp;omega,rfl,?_,rfl,j.set (zD _) _⟩;rw[qT (by unfold lim;omega)]
 ·have S:i=(qC c s).length-1:=ow;rw[zO ow];have o:qC c r= [r]:=by
   have h1:=congrArg List.length d;rw[zM,b,ni c r]at h1;exact jT (List.count_eq_zero.1 ow)
  have N:IntKind.i64.wrap ((i:Int)+1)=(((qC c s).length:Nat):Int):=by rw[qT (by unfold lim;omega)];omega
  have e:qP prog 9 (.ptr h.next (i*1)) (.str r) h'=some (h'.set h.next (.row ((f++ [r]).map sdd++List.replicate ((qC c s).length- (i+1)) (.str [])))):=by
   rw[uz,qO n md (by simp[b];omega) rfl rfl,k _ ow]
  simp only[go_sem,Nat.reduceEqDiff,↓reduceIte,y,z,A,B,C,g,N,wE t5 md (show i<(qC c s).length by omega),e,nB DC t5 md (zD (qC c s).length)];have u:(f++ [r]).map sdd++List.replicate ((qC c s).length- (i+1)) (.str [])=(uH (qC c s)).flatten:=by
   rw[show(qC c s).length- (i+1)=0 by omega,dW,zp,Ju,d,o]
  refine⟨h.next,_,zi _ _ _,(j.set (zD _) _).del (zD _),?_⟩;rw[zCR UX (wK _) u];exact⟨qw (yg _) _ (qg (sz:=1) sw .no).2,rfl⟩
def jL:List UInt8:=[97,98,99,100,101,102,103,104,105,106,107,108,109,110,111,112,113,114,115,116,117,118,119,120,121,122,48,49,50,51,52,53,54,55,56,57,45,46]
def ww(s:List UInt8):Bool:=match s with
 | []=>false
 |b::r=> !(decide ((b::r).length>32)||decide ((b.toNat:Int)<97)||decide ((b.toNat:Int)>122)||((b::r:List UInt8)== [97,110,100])||((b::r:List UInt8)== [111,114])||((b::r:List UInt8)== [119,105,116,104]))&&(Lib.trimS (b::r) jL== [])
def jm(s:List UInt8):List (List UInt8):=if s= []then []else qC 10 s
def rG(b:UInt8):Bool:=((b.toNat:Int) !=10)&&(decide ((b.toNat:Int)<32)||decide ((b.toNat:Int)>126))
end Go.V
