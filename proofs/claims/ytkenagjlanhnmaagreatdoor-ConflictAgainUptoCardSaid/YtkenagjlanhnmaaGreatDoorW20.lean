/- Rules of the machine of abstract values, part 2. No condition. -/
import Derived.Test.YtkenagjlanhnmaaGreatDoorW19
import Derived.Sort.Grow
import Derived.Lib.TrimU
import Derived.Lib.IndexLaws
set_option linter.all false
set_option maxHeartbeats 8000000
namespace Go.V
open Go.RowKit (Below)
attribute [go_sem] Option.map_none Option.map_some
section
variable{P:Program}{t e:TypeId}{s:List UInt8}{h:Heap}
variable{n:Nat}
def TW(a:Wt P t=none)(c:P.underlying t=some .string){k:IntKind}(b:n<=s.length):uZ P t (.str s) none (some (.int k (n:Int))) none h=some (.str (s.take n)):=by
 simp[uZ,a,fR,c,rR,VA,Td,b]
def aP(a:Wt P t=none)(c:P.underlying t=some .string){k:IntKind}(b:n<=s.length):uZ P t (.str s) (some (.int k (n:Int))) none none h=some (.str (s.drop n)):=by
 simp[uZ,a,fR,c,rR,VA,Td,b]
def np(a:Wt P t=none)(b:tG P t=some e){id sz len n:Nat}(d:szT P e=sz){k:IntKind}(c:n<=len):uZ P t (.rs id sz 0 len) none (some (.int k (n:Int))) none h=some (.rs id sz 0 n):=by
 simp[uZ,a,fR,b,d,rR,VA,Td,c]
def sJ(a:P.underlying t=some .string):mC P t (.str s) h=some (.int .i64 s.length):=by simp[mC,a]
def rK(c:P.underlying t=some .string){k:IntKind}{b:UInt8}(a:s[n]? =some b):nn P t (.str s) (.int k (n:Int))=some (.int .u8 b.toNat):=by
 simp[nn,c,a]
end
variable{M:Imm}{ρ:Ren}{h:Heap}{w:World}{n i:Nat}{s:List UInt8}{α:Type}{d:D}
def Sim.grow{w0:Base}{G:List Nat}(b:Sim w0 G M ρ h w)(c:Array Go.Obj):Sim w0 G M ρ h (Go.Sort.grow w c):=
 b.world ⟨⟨rfl,rfl,rfl,by simp[Go.Sort.grow],λk a=>by simp[Go.Sort.grow,tr a]⟩,zD _⟩
def oN(p:Nat->Bool)(s:List UInt8):Nat->Nat->Bool
 |0,_=>false
 |k+1,pos=>if pos<s.length then p (rn s pos).1||oN p s k (pos+(rn s pos).2)else false
def ml{p:Nat->Bool}{pos:Nat}(h:s.length<=pos):∀k,oN p s k pos=false
 |0=>rfl
 |k+1=>by simp[oN];omega
theorem Zc{p:Nat->Bool} :∀{j k pos:Nat},s.length+1<=pos+j->s.length+1<=pos+k->oN p s j pos=oN p s k pos
 |0,k,pos,a,_=>by rw[ml ow,ml ow]
 |j+1,0,pos,_,b=>by rw[ml ow,ml ow]
 |j+1,k+1,pos,a,b=>by
  simp only[oN];by_cases h:pos<s.length
  ·have:=Go.Lib.width_pos ⟨s.toArray⟩ pos;rw[ip h,ip h,Zc (j:=j) (k:=k) (by unfold rn;omega) (by unfold rn;omega)]
  ·rw[iq h,iq h]
def Pn(s:List UInt8)(pos:Nat):IntKind.i32.wrap ((rn s pos).1:Int)=((rn s pos).1:Int):=by
 have:=Go.Lib.rune_le ⟨s.toArray⟩ pos;unfold rn IntKind.wrap;simp[IntKind.signed,IntKind.bits];split<;>omega
def Pm(s:List UInt8)(pos:Nat):1<=(rn s pos).2:=Go.Lib.width_pos _ _
def KG{pos id:Nat}(a:h.at' id=some (.siter s pos))(b:s.length<=lim)(c:pos<s.length):Wk (.ptr id 0) true h=some (.tuple [.bool true,.int .i64 (pos:Int),.int .i32 ((rn s pos).1:Int)],h.set id (.siter s (pos+(rn s pos).2))):=by
 simp[Wk,a,c,b,Pn]
def HL{pos id:Nat}(a:h.at' id=some (.siter s pos))(b:¬pos<s.length):Wk (.ptr id 0) true h=some (.tuple [.bool false],h):=by
 simp[Wk,a,b]
def FF(n:Nat)(d:D):lV n [d]=List.replicate n d:=by
 induction n with
 |zero=>rfl
 |succ n a=>simp only[lV,tX,yS]at a⊢;rw[a];rfl
open Go.Proofs.Tryz
open Go.Proofs
def A1(g:s.length<=1048576)(c:UInt8)(h:Heap):zE prog 158 [.str s,.str [c]] h λr h'=>h'=h/\r=.int .i64 (Lib.countByte s c:Nat):=by
 have f:Lib.countByte s c<=s.length:=mD;refine(XY kr (λs c w=>Tryz.strings_Count_one s c w) (args:=[.str s,.str [c]]) (d:=.int .i64 (Lib.countByte s c:Nat)) ?_ h).mono λa b e=>⟨e.2,e.1⟩;simp only[YR,zBR];rw[qU ow ow];simp
def A2(i:s.length<=1048576)(c:UInt8)(h:Heap):zE prog 159 [.str s,.str [c]] h λr h'=>h'=h/\r=.int .i64 (Lib.indexByte s c):=by
 have h1:=Lib.indexByte_ge s c;have g:Lib.indexByte s c<=s.length:=by
  by_cases h0:Lib.indexByte s c= -1
  ·omega
  ·obtain⟨m,f⟩:=tM (show 0<=Lib.indexByte s c by omega);have:=(zK.1 (Lib.indexByte_some f).1).1;omega
 refine(cN kr (λs c w=>Tryz.strings_Index_one s c w) (args:=[.str s,.str [c]]) (d:=.int .i64 (Lib.indexByte s c)) ?_ h).mono λa b e=>⟨e.2,e.1⟩;simp only[bU,zBR];rw[qU ow ow];simp
theorem jU(p:α->Bool):∀l:List α,(l.dropWhile p).length<=l.length
 | []=>zD _
 |a::l=>by
  simp only[List.dropWhile];split
  ·have:=jU p l;simp;omega
  ·exact zD _
def I7(s c:List UInt8):(Lib.trimS s c).length<=s.length:=by
 unfold Lib.trimS Lib.trimLeftS Lib.trimRightS;refine zf (jU _ _) ?_;rw[dz];refine zf (jU _ _) ?_;rw[dz];exact zD _
def Cw(j:s.length<=1048576){c:List UInt8}(g:c.all (λb=>decide (b.toNat<128))=true)(i:c.length<4294967281)(h:Heap)(h0:Nat.ble 2 c.length=true:=by decide):zE prog 214 [.str s,.str c] h λr h'=>h'=h/\r=.str (Lib.trimS s c):=by
 refine(VF kr (λs c w h0 h1 f h3=>Mj Tryz.lays160 kr s c w h0 h1 f h3) (args:=[.str s,.str c]) (d:=.str (Lib.trimS s c)) ?_ h).mono λa b e=>⟨e.2,e.1⟩;have h1:=I7 s c;have f:Nat.blt c.length 4294967281=true:=by rw[kW];exact i
 simp only[UZ,h0,g,f,wu,qS,zHw];rw[ip (zS (by unfold lim;omega))]
def qo(c:UInt8):List UInt8->List (List UInt8)
 | []=>[[]]
 |b::s=>if b=c then []::qo c s else match qo c s with
  | []=>[[b]]
  |p::ps=>(b::p)::ps
def WB(c:UInt8):∀s,qo c s≠[]
 | []=>by simp[qo]
 |b::s=>by
  simp only[qo];split
  ·simp
  ·split<;>simp
theorem mP(c:UInt8):∀s:List UInt8,(qo c s).length=s.count c+1
 | []=>rfl
 |b::s=>by
  have a:=mP c s;simp only[qo];by_cases h:b=c
  ·subst h;simp[a]
  ·rw[iq h,List.count_cons_of_ne h];split
   ·rename_i h0;rw[h0]at a;simp at a
   ·rename_i p d h0;rw[h0]at a;simpa using a
theorem cU{c:UInt8} :∀{s:List UInt8},c∉s->qo c s= [s]
 | [],_=>rfl
 |b::s,h=>by
  simp only[zw,Xk]at h;rw[qo,iq (λe=>h.1 e.symm),cU h.2]
theorem QL{c:UInt8} :∀{m:Nat}{s:List UInt8},s[m]? =some c->(∀k,k<m->s[k]? ≠some c)->qo c s=s.take m::qo c (s.drop (m+1))
 |m,[],h,_=>by simp at h
 |0,b::s,h,_=>by
  simp only[wK,uD]at h;rw[qo,ip h];simp
 |m+1,b::s,h,a=>by
  simp only[we]at h;have d:b≠c:=λe=>a 0 ow (by simp[e]);rw[qo,iq d,QL h λk f=>by simpa using a (k+1) ow];simp
def PQ(s:List UInt8)(c:UInt8):(Lib.indexByte s c= -1/\qo c s= [s])\/∃m:Nat,Lib.indexByte s c=(m:Int)/\m<s.length/\qo c s=s.take m::qo c (s.drop (m+1)):=by
 have h1:=Lib.indexByte_ge s c;by_cases h:Lib.indexByte s c= -1
 ·refine .inl ⟨h,cU λe=> ?_⟩;obtain⟨k,f⟩:=yw.1 e;exact Lib.indexByte_none h k f
 ·obtain⟨m,b⟩:=tM (show 0<=Lib.indexByte s c by omega);obtain⟨a,d⟩:=Lib.indexByte_some b;exact .inr ⟨m,b,(zK.1 a).1,QL a d⟩
def bv(c:UInt8)(s:List UInt8):(qo c s).length<=s.length+1:=by
 rw[mP];have:=mD (a:=c) (l:=s);omega
theorem dh(c:UInt8):∀(s:List UInt8),∀p∈qo c s,p.length<=s.length
 | [],p,h=>by simp[qo]at h;subst h;simp
 |b::s,p,h=>by
  have a:=dh c s;simp only[qo]at h;split at h
  ·rcases zw.1 h with rfl|h
   ·simp
   ·have:=a p h;simp;omega
  ·split at h
   ·rename_i h0;exact absurd h0 (WB c s)
   ·rename_i q d h0;rcases zw.1 h with rfl|h
    ·have:=a q (by rw[h0];simp);simp;omega
    ·have:=a p (by rw[h0];simp[h]);simp;omega
def wn(l:List (List UInt8)):List (List D):=l.map λs=>[.str s]
def qw(l:List (List UInt8)):(wn l).length=l.length:=zG ..
def Yc{l:List (List UInt8)}(h:i<l.length):(wn l)[i]? =some [.str l[i]]:=by simp[wn,h]
def uo{l:List (List UInt8)} :∀x∈wn l,wr x:=λx a=>by
 obtain⟨s,_,rfl⟩:=zM.1 a;exact⟨rfl,⟨trivial,trivial⟩,rfl⟩
def TD{l:List (List UInt8)} :∀x∈wn l,x.length=1:=λx a=>by
 obtain⟨s,_,rfl⟩:=zM.1 a;rfl
def sdd(s:List UInt8):D:=.str s
def I1(l:List (List UInt8)):(wn l).flatten=l.map sdd:=by
 induction l with
 |nil=>rfl
 |cons x l a=>simp[wn,sdd]at a⊢;exact a
set_option maxRecDepth 100000
def GH{l:List (List UInt8)}(t:yi 1 (wn l) d)(y:l.length<=1048576)(s:List UInt8)(h:Heap):
  zE prog 163 [d,.str s] h λr h'=>h'=h/\r=.int .i64 (match l.findIdx? (· ==s)with|some i=>(i:Int)|none=> -1):=by
 refine zu zFJ ?_;simp only[f163,zA];have v:((wn l).length:Int)=l.length:=by rw[qw]
 simp only[go_sem,Nat.reduceEqDiff,↓reduceIte,wa t underlying45,v];refine qx (λi fr h'=>fr 0=d/\fr 1=.str s/\fr 7=.int .i64 l.length/\fr 8=.int .i64 (i:Int)/\h'=h/\∀j (k:j<l.length),j<i->(l[j]==s)=false) l.length (by simp[go_sem]) ?_;rintro i fr h' x ⟨m,o,p,q,rfl,k⟩;simp only[go_sem,Nat.reduceEqDiff,↓reduceIte,m,o,p,q];by_cases b:i<l.length
 ·rw[zS (by exact_mod_cast b)];have f:(s==l[i])=(l[i]==s):=by
   by_cases e:s=l[i]
   ·rw[e]
   ·rw[yr.2 e,yr.2 (jO e)]
  cases g:(l[i]==s)with
  |true=>
   simp only[go_sem,Nat.reduceEqDiff,↓reduceIte,m,o,p,q,yn t uK pz (Yc b),wO,f,g]
   have:l.findIdx? (· ==s)=some i:=by
    rw[qi];exact⟨b,g,λj a=>by rw[k j ow a];exact zZ⟩
   rw[this]
  |false=>
   simp only[go_sem,Nat.reduceEqDiff,↓reduceIte,m,o,p,q,yn t uK pz (Yc b),wO,f,g];refine⟨b,by rw[qR (by unfold lim;omega)],λj c a=> ?_⟩;rcases z7.1 a with a|rfl
   ·exact k j c a
   ·exact g
 ·have u:i=l.length:=ow;subst u;rw[zP ow];simp only[go_sem,Nat.reduceEqDiff,↓reduceIte]
  have:l.findIdx? (· ==s)=none:=by
   rw[wq];intro n w;obtain⟨j,c,rfl⟩:=yD.1 w;exact k j c c
  rw[this]
def ae{l:List α}{p:α->Bool} :decide ((match l.findIdx? p with|some i=>(i:Int)|none=> -1)>=0)=l.any p:=by
 cases a:l.findIdx? p with
 |none=>
  have:l.any p=false:=by
   rw[wq]at a;rw[pC];intro n c;rw[a n c];exact zZ
  rw[this];rfl
 |some i=>
  have:l.any p=true:=by
   rw[qi]at a;obtain⟨b,d,_⟩:=a;exact yu.2 ⟨_,zH b,d⟩
  rw[this];simp
def jQ{l:List (List UInt8)}(a:yi 1 (wn l) d)(b:l.length<=1048576)(s:List UInt8)(h:Heap):
  zE prog 129 [d,.str s] h λr h'=>h'=h/\r=.bool (l.any (· ==s)):=by
 refine zu zFA ?_;simp only[f129,zA];simp only[go_sem,Nat.reduceEqDiff,↓reduceIte];refine(GH a b s _).mono ?_;rintro r c ⟨rfl,rfl⟩;simp only[go_sem,Nat.reduceEqDiff,↓reduceIte,ae]
def T7{l:List (List UInt8)}(u:yi 1 (wn l) d)(A:l.length<=1048576){g:FuncId}{fst cap:List D}{p:List UInt8->Bool}(x:∀s∈l,∀h,zE prog g (fst++ [.str s]++cap) h λr h'=>h'=h/\r=.bool (p s))(h:Heap):
  zE prog 160 [d,.fn (.func g) fst cap] h λr h'=>h'=h/\r=.int .i64 (match l.findIdx? p with|some i=>(i:Int)|none=> -1):=by
 refine zu zFI ?_;simp only[f160,zA];have k:((wn l).length:Int)=l.length:=by rw[qw]
 simp only[go_sem,Nat.reduceEqDiff,↓reduceIte,wa u underlying45,k];refine qx (λi fr h'=>fr 0=d/\fr 1=.fn (.func g) fst cap/\fr 7=.int .i64 l.length/\fr 8=.int .i64 (i:Int)/\h'=h/\∀j (e:j<l.length),j<i->p l[j]=false) l.length (by simp[go_sem]) ?_;rintro i fr h' z ⟨m,o,q,t,rfl,e⟩;simp only[go_sem,Nat.reduceEqDiff,↓reduceIte,m,o,q,t];by_cases b:i<l.length
 ·rw[zS (by exact_mod_cast b)];simp only[go_sem,Nat.reduceEqDiff,↓reduceIte,m,o,q,t,yn u uK pz (Yc b),wO];refine(x _ (zH b) _).mono ?_;rintro r y ⟨rfl,rfl⟩;cases v:p l[i]with
  |true=>
   simp only[go_sem,Nat.reduceEqDiff,↓reduceIte]
   have:l.findIdx? p=some i:=by
    rw[qi];exact⟨b,v,λj a=>by rw[e j ow a];exact zZ⟩
   rw[this]
  |false=>
   simp only[go_sem,Nat.reduceEqDiff,↓reduceIte];refine⟨b,by rw[qR (by unfold lim;omega)],λj c a=> ?_⟩;rcases z7.1 a with a|rfl
   ·exact e j c a
   ·exact v
 ·have f:i=l.length:=ow;subst f;rw[zP ow];simp only[go_sem,Nat.reduceEqDiff,↓reduceIte]
  have:l.findIdx? p=none:=by
   rw[wq];intro n w;obtain⟨j,c,rfl⟩:=yD.1 w;exact e j c c
  rw[this]
def Yw{l:List (List UInt8)}(a:yi 1 (wn l) d)(b:l.length<=1048576){g:FuncId}{fst cap:List D}{p:List UInt8->Bool}(c:∀s∈l,∀h,zE prog g (fst++ [.str s]++cap) h λr h'=>h'=h/\r=.bool (p s))(h:Heap):
  zE prog 318 [d,.fn (.func g) fst cap] h λr h'=>h'=h/\r=.bool (l.any p):=by
 refine zu zF0 ?_;simp only[f318,zA];simp only[go_sem,Nat.reduceEqDiff,↓reduceIte];refine(T7 a b c _).mono ?_;rintro r e ⟨rfl,rfl⟩;simp only[go_sem,Nat.reduceEqDiff,↓reduceIte,ae]
def RH(y:s.length<=1048576){g:FuncId}{p:Nat->Bool}(v:∀n:Nat,n<=1114111->∀h,zE prog g [.int .i32 n] h λr h'=>h'=h/\r=.bool (p n))(h:Heap):
  zE prog 431 [.str s,.fn (.func g) [] [],.bool true] h λr h'=>h'=h/\∃n:Int,r=.int .i64 n/\decide (n>=0)=oN p s (s.length+1) 0:=by
 refine xU kr λu=> ?_;refine zu zGL ?_;simp only[f431,zA];have hr:∀h:Heap,Z1 prog h.next 9 (.str s) h=some (.ptr h.next 0,h.new h.next (.siter s 0)):=λh=>by simp[Z1,underlying9]
 simp only[go_sem,Nat.reduceEqDiff,↓reduceIte,hr];refine Ms (λk fr h'=>∃pos:Nat,k=s.length-pos/\fr 1=.fn (.func g) [] []/\fr 2=.bool true/\fr 10=.ptr h.next 0/\h'.at' h.next=some (.siter s pos)/\Ext h h'/\oN p s (s.length+1) 0=oN p s (s.length+1-pos) pos) s.length ?_ ?_
 ·refine⟨0,rfl,?_⟩;simp only[go_sem,Nat.reduceEqDiff,↓reduceIte,sY,zT];exact(Ext.refl h).new (zD _) _
 rintro k fr h' ⟨pos,rfl,l,m,e,hit,d,a⟩;by_cases f:pos<s.length
 ·have q:=KG hit (by unfold lim;omega) f;have o:(rn s pos).1<=1114111:=Go.Lib.rune_le _ _;have w:=Pm s pos;simp only[go_sem,Nat.reduceEqDiff,↓reduceIte,l,m,e,q,l9];refine(v _ o _).mono ?_;rintro r x ⟨rfl,rfl⟩;have i:∀b c,jI prog .eql 4 c (.bool b) (.bool true)=some (.bool b):=λb c=>by cases b<;>simp[jI,FZ,oe,veq,underlying4]
  have j:s.length+1-pos=(s.length-pos)+1:=ow;cases t:p (rn s pos).1 with
  |true=>
   simp only[go_sem,Nat.reduceEqDiff,↓reduceIte,i,l,m,e];refine⟨d.set (zD _) _,trivial,(pos:Int),rfl,?_⟩;rw[a,j,oN,ip f,t,zS ow];rfl
  |false=>
   simp only[go_sem,Nat.reduceEqDiff,↓reduceIte,i,l,m,e];refine⟨s.length- (pos+(rn s pos).2),by omega,pos+(rn s pos).2,rfl,rfl,d.set (zD _) _,?_⟩;rw[a,j,oN,ip f,t,ry];exact Zc ow ow
 ·have q:=HL hit f;simp only[go_sem,Nat.reduceEqDiff,↓reduceIte,l,m,e,q,l9];refine⟨d,trivial,-1,rfl,?_⟩;rw[a,ml ow];rfl
def Y2(c:s.length<=1048576){g:FuncId}{p:Nat->Bool}(d:∀n:Nat,n<=1114111->∀h,zE prog g [.int .i32 n] h λr h'=>h'=h/\r=.bool (p n))(h:Heap):
  zE prog 375 [.str s,.fn (.func g) [] []] h λr h'=>h'=h/\r=.bool (oN p s (s.length+1) 0):=by
 refine zu zGF ?_;simp only[f375,zA];simp only[go_sem,Nat.reduceEqDiff,↓reduceIte];refine zE.mono (Q:=λr h'=>h'=h/\∃n:Int,r=.int .i64 n/\decide (n>=0)=oN p s (s.length+1) 0) ?_ ?_
 ·refine zu zGJ ?_;simp only[f399,zA];simp only[go_sem,Nat.reduceEqDiff,↓reduceIte];refine(RH c d _).mono ?_;rintro r b ⟨rfl,n,rfl,a⟩;simp only[go_sem,Nat.reduceEqDiff,↓reduceIte];exact⟨n,rfl,a⟩
 ·rintro r b ⟨rfl,n,rfl,a⟩;simp only[go_sem,Nat.reduceEqDiff,↓reduceIte,a]
theorem JD(T:s.length<=1048576)(c:UInt8)(h:Heap):
  zE prog 58 [.str s,.str [c]] h λr h'=>h'=h/\r=.sl 1 (wn (qo c s)) .no:=by
 refine zu zM0 ?_;simp only[f58,zA];simp only[go_sem,Nat.reduceEqDiff,↓reduceIte];refine zE.mono (Q:=λr h'=>h'=h/\r=.sl 1 (wn (qo c s)) .no) ?_ ?_
 rotate_left
 ·rintro r X ⟨rfl,rfl⟩;simp only[go_sem,Nat.reduceEqDiff,↓reduceIte]
 have O:=bv c s;have F:=mP c s;refine xU kr λV=>zE.freezeD ?_;refine zu zEy ?_;simp only[f101,zA];have H:([c]==([]:List UInt8))=false:=rfl;simp only[go_sem,Nat.reduceEqDiff,↓reduceIte,H,show((-1:Int)==0)=false from rfl,show decide ((-1:Int)<0)=true from rfl]
 refine(A1 T c _).mono ?_;rintro r h ⟨rfl,rfl⟩;have I:IntKind.i64.wrap ((Lib.countByte s c:Nat)+1:Int)=(((qo c s).length:Nat):Int):=by
  rw[F,show Lib.countByte s c=s.count c from rfl]
  exact qR (by have:=mD (a:=c) (l:=s);unfold lim;omega)
 have J:IntKind.i64.wrap ((s.length:Int)+1)=((s.length+1:Nat):Int):=qR (by unfold lim;omega);have v:KS (.int .i64 (((qo c s).length:Nat):Int)) (.int .i64 ((s.length+1:Nat):Int))=some (.int .i64 (((qo c s).length:Nat):Int)):=by
  simp only[KS,qS];rw[iq ow]
 have G:∀h:Heap,tW prog true h.next 45 (.int .i64 (((qo c s).length:Nat):Int)) (.int .i64 (((qo c s).length:Nat):Int)) h=some (.rs h.next 1 0 (qo c s).length,h.new h.next (.row (lV (qo c s).length [.str []]))):=λh=>by
  simp only[tW,uK,fV,pz,oP];rw[ip (by simp[R3,JG];unfold lim;omega)];simp;rfl
 have K:IntKind.i64.wrap ((((qo c s).length:Nat):Int)-1)=((((qo c s).length-1:Nat)):Int):=by
  have:=WB c s;have h1:0<(qo c s).length:=yA.2 this;rw[qU ow ow];omega
 simp only[go_sem,Nat.reduceEqDiff,↓reduceIte,I,J,K,v,G,u9,Nat.reduceBEq,sJ underlying9];have R:0<(qo c s).length:=yA.2 (WB c s);refine qx (λi fr h'=>∃ (f:List (List UInt8)) (r:List UInt8),f.length=i/\qo c s=f++qo c r/\r.length<=s.length/\fr 0=.str r/\fr 1=.str [c]/\fr 2=.int .i64 0/\fr 3=.int .i64 (((qo c s).length-1:Nat):Int)/\fr 9=.rs h.next 1 0 (qo c s).length/\fr 10=.int .i64 (i:Int)/\
   h'.at' h.next=some (.row (f.map sdd++List.replicate ((qo c s).length-i) (.str [])))/\Ext h h') ((qo c s).length-1) ?_ ?_
 ·refine⟨[],s,rfl,rfl,zD _,?_⟩;simp only[go_sem,Nat.reduceEqDiff,↓reduceIte,zT,sY];refine⟨rfl,?_,(Ext.refl h).new (zD _) _⟩;rw[FF]
 rintro i fr h' Y ⟨f,r,b,d,W,y,z,A,B,C,g,n,j⟩;simp only[go_sem,Nat.reduceEqDiff,↓reduceIte,y,z,A,B,C,g];have k:∀x:List UInt8,i<(qo c s).length->(f.map sdd++List.replicate ((qo c s).length-i) (D.str [])).set i (D.str x)=(f++ [x]).map sdd++List.replicate ((qo c s).length- (i+1)) (D.str []):=λx p=>by
  rw[nU _ _ (by simp[b]),zG,b,ln,show(qo c s).length-i=((qo c s).length- (i+1))+1 by omega,tX,t9];simp[sdd]
 by_cases p:i<(qo c s).length-1
 ·rw[zS (by exact_mod_cast p)];simp only[go_sem,Nat.reduceEqDiff,↓reduceIte,y,z,A,B,C,g];refine(A2 ow c _).mono ?_;rintro q h' ⟨rfl,rfl⟩;rcases PQ r c with⟨P,t⟩ | ⟨m,P,U,t⟩
  ·exfalso;rw[t]at d;have:=congrArg List.length d;simp[b]at this;omega
  ·have w:decide (((m:Nat):Int)<0)=false:=zP ow;have L:IntKind.i64.wrap ((m:Int)+0)=((m:Nat):Int):=by rw[Int.add_zero,qU ow ow]
   have M:IntKind.i64.wrap ((m:Int)+1)=((m+1:Nat):Int):=qR (by unfold lim;omega);have E:([c].length:Int)=1:=rfl;have e:yX prog 9 (.ptr h.next (i*1)) (.str (r.take m)) h'=some (h'.set h.next (.row ((f++ [r.take m]).map sdd++List.replicate ((qo c s).length- (i+1)) (.str [])))):=by
    rw[ww,yU n pz (by simp[b];omega) rfl rfl,k _ ow]
   simp only[go_sem,Nat.reduceEqDiff,↓reduceIte,y,z,A,B,C,g,P,w,L,M,E,sJ underlying9,TW NO underlying9 (show m<=r.length by omega),aP NO underlying9 (show m+1<=r.length by omega),qj uK pz (show i<(qo c s).length by omega),e];refine⟨p,f++ [r.take m],r.drop (m+1),by simp[b],by rw[d,t];simp,by simp;omega,rfl,?_,rfl,j.set (zD _) _⟩;rw[qR (by unfold lim;omega)]
 ·have S:i=(qo c s).length-1:=ow;rw[zP ow];have o:qo c r= [r]:=by
   have h1:=congrArg List.length d;rw[zR,b,mP c r]at h1;exact cU (List.count_eq_zero.1 ow)
  have N:IntKind.i64.wrap ((i:Int)+1)=(((qo c s).length:Nat):Int):=by rw[qR (by unfold lim;omega)];omega
  have e:yX prog 9 (.ptr h.next (i*1)) (.str r) h'=some (h'.set h.next (.row ((f++ [r]).map sdd++List.replicate ((qo c s).length- (i+1)) (.str [])))):=by
   rw[ww,yU n pz (by simp[b];omega) rfl rfl,k _ ow]
  simp only[go_sem,Nat.reduceEqDiff,↓reduceIte,y,z,A,B,C,g,N,qj uK pz (show i<(qo c s).length by omega),e,np BU uK pz (zD (qo c s).length)];have u:(f++ [r]).map sdd++List.replicate ((qo c s).length- (i+1)) (.str [])=(wn (qo c s)).flatten:=by
   rw[show(qo c s).length- (i+1)=0 by omega,List.replicate_zero,yL,I1,d,o]
  refine⟨h.next,_,zW _ _ _,(j.set (zD _) _).del (zD _),?_⟩;rw[XM TD (qw _) u];exact⟨qF (yC _) _ (yj (sz:=1) uo .no).2,rfl⟩
def av:List UInt8:=[97,98,99,100,101,102,103,104,105,106,107,108,109,110,111,112,113,114,115,116,117,118,119,120,121,122,48,49,50,51,52,53,54,55,56,57,45,46]
def nC(s:List UInt8):Bool:=match s with
 | []=>false
 |b::r=> !(decide ((b::r).length>32)||decide ((b.toNat:Int)<97)||decide ((b.toNat:Int)>122)||((b::r:List UInt8)== [97,110,100])||((b::r:List UInt8)== [111,114])||((b::r:List UInt8)== [119,105,116,104]))&&(Lib.trimS (b::r) av== [])
def VH(s:List UInt8):List (List UInt8):=if s= []then []else qo 10 s
def jt(b:UInt8):Bool:=((b.toNat:Int) !=10)&&(decide ((b.toNat:Int)<32)||decide ((b.toNat:Int)>126))
end Go.V
