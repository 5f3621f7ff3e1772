/- Rules of the machine of abstract values, part 3. No condition. -/
import Derived.Test.YtkenagjlanhnmaaGreatDoorW18
import Derived.Sort.Grow
import Derived.Lib.TrimU
import Derived.Lib.IndexLaws
set_option linter.all false
set_option maxHeartbeats 8000000
namespace Go.V
open Go.RowKit (Below)
attribute [go_sem] Option.map_none Option.map_some
section
variable{P:Program}{t e:TypeId}{s:List UInt8}{h:Heap}
variable{n:Nat}
def Rb(a:Vt P t=none)(c:P.underlying t=some .string){k:IntKind}(b:n<=s.length):ww P t (.str s) none (some (.int k (n:Int))) none h=some (.str (s.take n)):=by
 simp[ww,a,dC,c,rT,V8,Ri,b]
def ZM(a:Vt P t=none)(c:P.underlying t=some .string){k:IntKind}(b:n<=s.length):ww P t (.str s) (some (.int k (n:Int))) none none h=some (.str (s.drop n)):=by
 simp[ww,a,dC,c,rT,V8,Ri,b]
def oN(a:Vt P t=none)(b:ur P t=some e){id sz len n:Nat}(d:szT P e=sz){k:IntKind}(c:n<=len):ww P t (.rs id sz 0 len) none (some (.int k (n:Int))) none h=some (.rs id sz 0 n):=by
 simp[ww,a,dC,b,d,rT,V8,Ri,c]
def sL(a:P.underlying t=some .string):o5 P t (.str s) h=some (.int .i64 s.length):=by simp[o5,a]
def rP(c:P.underlying t=some .string){k:IntKind}{b:UInt8}(a:s[n]? =some b):mG P t (.str s) (.int k (n:Int))=some (.int .u8 b.toNat):=by
 simp[mG,c,a]
end
variable{M:Imm}{ρ:Ren}{h H h0:Heap}{w:World}{n i nid sz:Nat}{s:List UInt8}{α:Type}{d z x y:D}{P:Program}{t:TypeId}{fr:Frm}{args:List D}
def Sim.grow{w0:Base}{G:List Nat}(b:Sim w0 G M ρ h w)(c:Array Go.Obj):Sim w0 G M ρ h (Go.Sort.grow w c):=
 b.world ⟨⟨rfl,rfl,rfl,by simp[Go.Sort.grow],λk a=>by simp[Go.Sort.grow,tu a]⟩,zD _⟩
def oZ(p:Nat->Bool)(s:List UInt8):Nat->Nat->Bool
 |0,_=>false
 |k+1,pos=>if pos<s.length then p (rx s pos).1||oZ p s k (pos+(rx s pos).2)else false
def lC{p:Nat->Bool}{pos:Nat}(h:s.length<=pos):∀k,oZ p s k pos=false
 |0=>rfl
 |k+1=>by simp[oZ];omega
theorem YM{p:Nat->Bool} :∀{j k pos:Nat},s.length+1<=pos+j->s.length+1<=pos+k->oZ p s j pos=oZ p s k pos
 |0,k,pos,a,_=>by rw[lC ow,lC ow]
 |j+1,0,pos,_,b=>by rw[lC ow,lC ow]
 |j+1,k+1,pos,a,b=>by
  simp only[oZ];by_cases h:pos<s.length
  .have:=Go.Lib.width_pos ⟨s.toArray⟩ pos
   rw[ip h,ip h,YM (j:=j) (k:=k) (by unfold rx;omega) (by unfold rx;omega)]
  .rw[iq h,iq h]
def MB(s:List UInt8)(pos:Nat):IntKind.i32.wrap ((rx s pos).1:Int)=((rx s pos).1:Int):=by
 have:=Go.Lib.rune_le ⟨s.toArray⟩ pos;unfold rx IntKind.wrap;simp[IntKind.signed,IntKind.bits];split<;>omega
def MA(s:List UInt8)(pos:Nat):1<=(rx s pos).2:=Go.Lib.width_pos _ _
def Jn{pos id:Nat}(a:h.at' id=some (.siter s pos))(b:s.length<=lim)(c:pos<s.length):Vl (.ptr id 0) true h=some (.tuple [.bool true,.int .i64 (pos:Int),.int .i32 ((rx s pos).1:Int)],h.set id (.siter s (pos+(rx s pos).2))):=by
 simp[Vl,a,c,b,MB]
def G7{pos id:Nat}(a:h.at' id=some (.siter s pos))(b:¬pos<s.length):Vl (.ptr id 0) true h=some (.tuple [.bool false],h):=by
 simp[Vl,a,b]
def DI(n:Nat)(d:D):ma n [d]=List.replicate n d:=by
 induction n with
 |zero=>rfl
 |succ n a=>simp only[ma,tY,yH]at a⊢;rw[a];rfl
open Go.Proofs.Tryz
open Go.Proofs
def zBh(g:s.length<=1048576)(c:UInt8)(h:Heap):zE prog 158 [.str s,.str [c]] h λr h'=>h'=h/\r=.int .i64 (Lib.countByte s c:Nat):=by
 have f:Lib.countByte s c<=s.length:=mO;refine(WO kr (λs c w=>Tryz.strings_Count_one s c w) (args:=[.str s,.str [c]]) (d:=.int .i64 (Lib.countByte s c:Nat)) ?_ h).mono λa b e=>⟨e.2,e.1⟩;simp only[XE,zC6];rw[qJ ow ow];simp
def zBi(i:s.length<=1048576)(c:UInt8)(h:Heap):zE prog 159 [.str s,.str [c]] h λr h'=>h'=h/\r=.int .i64 (Lib.indexByte s c):=by
 have h1:=Lib.indexByte_ge s c;have g:Lib.indexByte s c<=s.length:=by
  by_cases h0:Lib.indexByte s c= -1
  .omega
  .obtain⟨m,f⟩:=tI (show 0<=Lib.indexByte s c by omega)
   have:=(zK.1 (Lib.indexByte_some f).1).1;omega
 refine(bI kr (λs c w=>Tryz.strings_Index_one s c w) (args:=[.str s,.str [c]]) (d:=.int .i64 (Lib.indexByte s c)) ?_ h).mono λa b e=>⟨e.2,e.1⟩;simp only[aP,zC6];rw[qJ ow ow];simp
theorem jm(p:α->Bool):∀l:List α,(l.dropWhile p).length<=l.length
 | []=>zD _
 |a::l=>by
  simp only[List.dropWhile];split
  .have:=jm p l
   simp;omega
  .exact zD _
def Gr(s c:List UInt8):(Lib.trimS s c).length<=s.length:=by
 unfold Lib.trimS Lib.trimLeftS Lib.trimRightS;refine zY (jm _ _) ?_;rw[cy];refine zY (jm _ _) ?_;rw[cy];exact zD _
def Al(j:s.length<=1048576){c:List UInt8}(g:c.all (λb=>decide (b.toNat<128))=true)(i:c.length<4294967281)(h:Heap)(h0:Nat.ble 2 c.length=true:=by decide):zE prog 214 [.str s,.str c] h λr h'=>h'=h/\r=.str (Lib.trimS s c):=by
 refine(UE kr (λs c w h0 h1 f h3=>KH Tryz.lays160 kr s c w h0 h1 f h3) (args:=[.str s,.str c]) (d:=.str (Lib.trimS s c)) ?_ h).mono λa b e=>⟨e.2,e.1⟩;have h1:=Gr s c;have f:Nat.blt c.length 4294967281=true:=by rw[kp];exact i
 simp only[Td,h0,g,f,wt,qK,zJ7];rw[ip (zR (by unfold lim;omega))]
def qr(c:UInt8):List UInt8->List (List UInt8)
 | []=>[[]]
 |b::s=>if b=c then []::qr c s else match qr c s with
  | []=>[[b]]
  |p::ps=>(b::p)::ps
def W3(c:UInt8):∀s,qr c s≠[]
 | []=>by simp[qr]
 |b::s=>by
  simp only[qr];split
  .simp
  .split<;>simp
theorem mc(c:UInt8):∀s:List UInt8,(qr c s).length=s.count c+1
 | []=>rfl
 |b::s=>by
  have a:=mc c s;simp only[qr];by_cases h:b=c
  .subst h;simp[a]
  .rw[iq h,List.count_cons_of_ne h]
   split
   .rename_i h0;rw[h0]at a;simp at a
   .rename_i p d h0;rw[h0]at a;simpa using a
theorem bU{c:UInt8} :∀{s:List UInt8},c∉s->qr c s= [s]
 | [],_=>rfl
 |b::s,h=>by
  simp only[yE,Wd]at h;rw[qr,iq (λe=>h.1 e.symm),bU h.2]
theorem Pb{c:UInt8} :∀{m:Nat}{s:List UInt8},s[m]? =some c->(∀k,k<m->s[k]? ≠some c)->qr c s=s.take m::qr c (s.drop (m+1))
 |m,[],h,_=>by simp at h
 |0,b::s,h,_=>by
  simp only[wJ,uB]at h;rw[qr,ip h];simp
 |m+1,b::s,h,a=>by
  simp only[wb]at h;have d:b≠c:=λe=>a 0 ow (by simp[e]);rw[qr,iq d,Pb h λk f=>by simpa using a (k+1) ow];simp
def Nk(s:List UInt8)(c:UInt8):(Lib.indexByte s c= -1/\qr c s= [s])\/∃m:Nat,Lib.indexByte s c=(m:Int)/\m<s.length/\qr c s=s.take m::qr c (s.drop (m+1)):=by
 have h1:=Lib.indexByte_ge s c;by_cases h:Lib.indexByte s c= -1
 .refine .inl ⟨h,bU λe=> ?_⟩
  obtain⟨k,f⟩:=yy.1 e;exact Lib.indexByte_none h k f
 .obtain⟨m,b⟩:=tI (show 0<=Lib.indexByte s c by omega)
  obtain⟨a,d⟩:=Lib.indexByte_some b;exact .inr ⟨m,b,(zK.1 a).1,Pb a d⟩
def ao(c:UInt8)(s:List UInt8):(qr c s).length<=s.length+1:=by
 rw[mc];have:=mO (a:=c) (l:=s);omega
theorem cX(c:UInt8):∀(s:List UInt8),∀p∈qr c s,p.length<=s.length
 | [],p,h=>by simp[qr]at h;subst h;simp
 |b::s,p,h=>by
  have a:=cX c s;simp only[qr]at h;split at h
  .rcases yE.1 h with rfl|h
   .simp
   .have:=a p h;simp;omega
  .split at h
   .rename_i h0;exact absurd h0 (W3 c s)
   .rename_i q d h0
    rcases yE.1 h with rfl|h
    .have:=a q (by rw[h0];simp);simp;omega
    .have:=a p (by rw[h0];simp[h]);simp;omega
def wh(l:List (List UInt8)):List (List D):=l.map λs=>[.str s]
def qv(l:List (List UInt8)):(wh l).length=l.length:=zH ..
def XO{l:List (List UInt8)}(h:i<l.length):(wh l)[i]? =some [.str l[i]]:=by simp[wh,h]
def uh{l:List (List UInt8)} :∀x∈wh l,wl x:=λx a=>by
 obtain⟨s,_,rfl⟩:=zN.1 a;exact⟨rfl,⟨trivial,trivial⟩,rfl⟩
def RL{l:List (List UInt8)} :∀x∈wh l,x.length=1:=λx a=>by
 obtain⟨s,_,rfl⟩:=zN.1 a;rfl
def sdd(s:List UInt8):D:=.str s
def Gj(l:List (List UInt8)):(wh l).flatten=l.map sdd:=by
 induction l with
 |nil=>rfl
 |cons x l a=>simp[wh,sdd]at a⊢;exact a
set_option maxRecDepth 100000
def EB{l:List (List UInt8)}(m:yg 1 (wh l) d)(w:l.length<=1048576)(s:List UInt8)(h:Heap):
  zE prog 163 [d,.str s] h λr h'=>h'=h/\r=.int .i64 (match l.findIdx? (· ==s)with|some i=>(i:Int)|none=> -1):=by
 refine zo zHA ?_;simp only[f163,zA];have p:((wh l).length:Int)=l.length:=by rw[qv]
 simp only[go_sem,Nat.reduceEqDiff,↓reduceIte,wL m underlying45,p];refine ql (λi fr h'=>fr 0=d/\fr 1=.str s/\fr 7=.int .i64 l.length/\fr 8=.int .i64 (i:Int)/\h'=h/\∀j (t:j<l.length),j<i->(l[j]==s)=false) l.length (by simp[go_sem]) ?_;rintro i fr h' v ⟨e,f,g,k,rfl,t⟩;simp only[go_sem,Nat.reduceEqDiff,↓reduceIte,e,f,g,k];by_cases b:i<l.length
 .rw[zR (by exact_mod_cast b)]
  have a:(s==l[i])=(l[i]==s):=by grind
  cases q:(l[i]==s)with
  |true=>
   simp only[go_sem,Nat.reduceEqDiff,↓reduceIte,e,f,g,k,yW m uI p9 (XO b),wM,a,q]
   have:l.findIdx? (· ==s)=some i:=by
    rw[qi]
    grind
   rw[this]
  |false=>
   simp only[go_sem,Nat.reduceEqDiff,↓reduceIte,e,f,g,k,yW m uI p9 (XO b),wM,a,q]
   grind [qR,lim]
 .have o:i=l.length:=ow
  subst o;rw[zO ow];simp only[go_sem,Nat.reduceEqDiff,↓reduceIte]
  have:l.findIdx? (· ==s)=none:=by
   rw[wq];intro n u;obtain⟨j,c,rfl⟩:=zy.1 u;exact t j c c
  rw[this]
def Zi{l:List α}{p:α->Bool} :decide ((match l.findIdx? p with|some i=>(i:Int)|none=> -1)>=0)=l.any p:=by grind
def jb{l:List (List UInt8)}(a:yg 1 (wh l) d)(b:l.length<=1048576)(s:List UInt8)(h:Heap):
  zE prog 129 [d,.str s] h λr h'=>h'=h/\r=.bool (l.any (· ==s)):=by
 refine zo zG1 ?_;simp only[f129,zA];refine(EB a b s _).mono ?_;rintro r c ⟨rfl,rfl⟩;simp only[go_sem,Nat.reduceEqDiff,↓reduceIte,Zi]
def R8{l:List (List UInt8)}(q:yg 1 (wh l) d)(z:l.length<=1048576){g:FuncId}{fst cap:List D}{p:List UInt8->Bool}(v:∀s∈l,∀h,zE prog g (fst++ [.str s]++cap) h λr h'=>h'=h/\r=.bool (p s))(h:Heap):
  zE prog 160 [d,.fn (.func g) fst cap] h λr h'=>h'=h/\r=.int .i64 (match l.findIdx? p with|some i=>(i:Int)|none=> -1):=by
 refine zo zG9 ?_;simp only[f160,zA];have e:((wh l).length:Int)=l.length:=by rw[qv]
 simp only[go_sem,Nat.reduceEqDiff,↓reduceIte,wL q underlying45,e];refine ql (λi fr h'=>fr 0=d/\fr 1=.fn (.func g) fst cap/\fr 7=.int .i64 l.length/\fr 8=.int .i64 (i:Int)/\h'=h/\∀j (t:j<l.length),j<i->p l[j]=false) l.length (by simp[go_sem]) ?_;rintro i fr h' y ⟨f,k,m,o,rfl,t⟩;simp only[go_sem,Nat.reduceEqDiff,↓reduceIte,f,k,m,o];by_cases a:i<l.length
 .rw[zR (by exact_mod_cast a)]
  simp only[go_sem,Nat.reduceEqDiff,↓reduceIte,f,k,m,o,yW q uI p9 (XO a),wM];refine(v _ (zI a) _).mono ?_;rintro r w ⟨rfl,rfl⟩;cases x:p l[i]with
  |true=>
   simp only[go_sem,Nat.reduceEqDiff,↓reduceIte]
   have:l.findIdx? p=some i:=by
    rw[qi]
    grind
   rw[this]
  |false=>
   simp only[go_sem,Nat.reduceEqDiff,↓reduceIte]
   grind [qR,lim]
 .have c:i=l.length:=ow
  subst c;rw[zO ow];simp only[go_sem,Nat.reduceEqDiff,↓reduceIte]
  have:l.findIdx? p=none:=by
   rw[wq];intro n u;obtain⟨j,b,rfl⟩:=zy.1 u;exact t j b b
  rw[this]
def Xl{l:List (List UInt8)}(a:yg 1 (wh l) d)(b:l.length<=1048576){g:FuncId}{fst cap:List D}{p:List UInt8->Bool}(c:∀s∈l,∀h,zE prog g (fst++ [.str s]++cap) h λr h'=>h'=h/\r=.bool (p s))(h:Heap):
  zE prog 318 [d,.fn (.func g) fst cap] h λr h'=>h'=h/\r=.bool (l.any p):=by
 refine zo zHw ?_;simp only[f318,zA];refine(R8 a b c _).mono ?_;rintro r e ⟨rfl,rfl⟩;simp only[go_sem,Nat.reduceEqDiff,↓reduceIte,Zi]
def QJ(y:s.length<=1048576){g:FuncId}{p:Nat->Bool}(t:∀n:Nat,n<=1114111->∀h,zE prog g [.int .i32 n] h λr h'=>h'=h/\r=.bool (p n))(h:Heap):
  zE prog 431 [.str s,.fn (.func g) [] [],.bool true] h λr h'=>h'=h/\∃n:Int,r=.int .i64 n/\decide (n>=0)=oZ p s (s.length+1) 0:=by
 refine xU kr λq=> ?_;refine zo zIH ?_;simp only[f431,zA];have hr:∀h:Heap,VE prog h.next 9 (.str s) h=some (.ptr h.next 0,h.new h.next (.siter s 0)):=by simp_all [VE]
 refine KS (λk fr h'=>∃pos:Nat,k=s.length-pos/\fr 1=.fn (.func g) [] []/\fr 2=.bool true/\fr 10=.ptr h.next 0/\h'.at' h.next=some (.siter s pos)/\Ext h h'/\oZ p s (s.length+1) 0=oZ p s (s.length+1-pos) pos) s.length ?_ ?_
 .refine⟨0,rfl,?_⟩
  simp only[go_sem,Nat.reduceEqDiff,↓reduceIte,tO,zQ];exact(Ext.refl h).new (zD _) _
 rintro k fr h' ⟨pos,rfl,i,j,d,hit,a,e⟩;by_cases f:pos<s.length
 .have o:=Jn hit jL f
  have m:(rx s pos).1<=1114111:=Go.Lib.rune_le _ _;have v:=MA s pos;simp only[go_sem,Nat.reduceEqDiff,↓reduceIte,i,j,d,o,kE];refine(t _ m _).mono ?_;rintro r w ⟨rfl,rfl⟩;have l:∀b c,jR prog .eql 4 c (.bool b) (.bool true)=some (.bool b):=by simp_all [jR,Da,nD,veq]
  have u:s.length+1-pos=(s.length-pos)+1:=ow;cases x:p (rx s pos).1 with
  |true=>
   refine⟨a.set (zD _) _,trivial,(pos:Int),rfl,?_⟩
   grind [oZ]
  |false=>
   simp only[go_sem,Nat.reduceEqDiff,↓reduceIte,l,i,j,d];refine⟨s.length- (pos+(rx s pos).2),ow,pos+(rx s pos).2,rfl,rfl,a.set (zD _) _,?_⟩
   grind [oZ,YM]
 .have o:=G7 hit f
  simp only[go_sem,Nat.reduceEqDiff,↓reduceIte,i,j,d,o,kE];refine⟨a,trivial,-1,rfl,?_⟩;rw[e,lC ow];rfl
def Xr(c:s.length<=1048576){g:FuncId}{p:Nat->Bool}(d:∀n:Nat,n<=1114111->∀h,zE prog g [.int .i32 n] h λr h'=>h'=h/\r=.bool (p n))(h:Heap):
  zE prog 375 [.str s,.fn (.func g) [] []] h λr h'=>h'=h/\r=.bool (oZ p s (s.length+1) 0):=by
 refine zo zIB ?_;simp only[f375,zA];refine zE.mono (Q:=λr h'=>h'=h/\∃n:Int,r=.int .i64 n/\decide (n>=0)=oZ p s (s.length+1) 0) ?_ ?_
 .refine zo zIF ?_
  simp only[f399,zA];simp only[go_sem,Nat.reduceEqDiff,↓reduceIte]
  simp_all [QJ,Nat.reduceEqDiff]
 .rintro r b ⟨rfl,n,rfl,a⟩
  simp only[go_sem,Nat.reduceEqDiff,↓reduceIte,a]
theorem Io(T:s.length<=1048576)(c:UInt8)(h:Heap):
  zE prog 58 [.str s,.str [c]] h λr h'=>h'=h/\r=.sl 1 (wh (qr c s)) .no:=by
 refine zo zPO ?_;simp only[f58,zA];simp only[go_sem,Nat.reduceEqDiff,↓reduceIte];refine zE.mono (Q:=λr h'=>h'=h/\r=.sl 1 (wh (qr c s)) .no) ?_ ?_
 rotate_left
 .rintro r X ⟨rfl,rfl⟩
  simp only[go_sem,Nat.reduceEqDiff,↓reduceIte]
 have O:=ao c s;have F:=mc c s;refine xU kr λV=>zE.freezeD ?_;refine zo zGn ?_;simp only[f101,zA];have H:([c]==([]:List UInt8))=false:=rfl;simp only[go_sem,Nat.reduceEqDiff,↓reduceIte,H,show((-1:Int)==0)=false from rfl,show decide ((-1:Int)<0)=true from rfl]
 refine(zBh T c _).mono ?_;rintro r h ⟨rfl,rfl⟩;have I:IntKind.i64.wrap ((Lib.countByte s c:Nat)+1:Int)=(((qr c s).length:Nat):Int):=by
  rw[F,show Lib.countByte s c=s.count c from rfl]
  exact qR (by have:=mO (a:=c) (l:=s);unfold lim;omega)
 have J:IntKind.i64.wrap ((s.length:Int)+1)=((s.length+1:Nat):Int):=qR jL;have v:Jy (.int .i64 (((qr c s).length:Nat):Int)) (.int .i64 ((s.length+1:Nat):Int))=some (.int .i64 (((qr c s).length:Nat):Int)):=by
  simp only[Jy,qK];rw[iq ow]
 have G:∀h:Heap,uk prog true h.next 45 (.int .i64 (((qr c s).length:Nat):Int)) (.int .i64 (((qr c s).length:Nat):Int)) h=some (.rs h.next 1 0 (qr c s).length,h.new h.next (.row (ma (qr c s).length [.str []]))):=λh=>by
  simp only[uk,uI,dG,p9,oo];rw[ip (by simp[PB,Ir];unfold lim;omega)];simp;rfl
 have K:IntKind.i64.wrap ((((qr c s).length:Nat):Int)-1)=((((qr c s).length-1:Nat)):Int):=by
  have:=W3 c s;have h1:0<(qr c s).length:=z7.2 this;rw[qJ ow ow];omega
 simp only[go_sem,Nat.reduceEqDiff,↓reduceIte,I,J,K,v,G,uP,Nat.reduceBEq,sL underlying9];have R:0<(qr c s).length:=z7.2 (W3 c s);refine ql (λi fr h'=>∃ (f:List (List UInt8)) (r:List UInt8),f.length=i/\qr c s=f++qr c r/\r.length<=s.length/\fr 0=.str r/\fr 1=.str [c]/\fr 2=.int .i64 0/\fr 3=.int .i64 (((qr c s).length-1:Nat):Int)/\fr 9=.rs h.next 1 0 (qr c s).length/\fr 10=.int .i64 (i:Int)/\
   h'.at' h.next=some (.row (f.map sdd++List.replicate ((qr c s).length-i) (.str [])))/\Ext h h') ((qr c s).length-1) ?_ ?_
 .refine⟨[],s,rfl,rfl,zD _,?_⟩
  simp only[go_sem,Nat.reduceEqDiff,↓reduceIte,zQ,tO];refine⟨rfl,?_,(Ext.refl h).new (zD _) _⟩;rw[DI]
 rintro i fr h' Y ⟨f,r,b,d,W,y,z,A,B,C,g,n,j⟩;simp only[go_sem,Nat.reduceEqDiff,↓reduceIte,y,z,A,B,C,g];have k:∀x:List UInt8,i<(qr c s).length->(f.map sdd++List.replicate ((qr c s).length-i) (D.str [])).set i (D.str x)=(f++ [x]).map sdd++List.replicate ((qr c s).length- (i+1)) (D.str []):=λx p=>by
  rw[gh _ _ (by simp[b]),zH,b,lv,show(qr c s).length-i=((qr c s).length- (i+1))+1 by omega,tY,sD];simp[sdd]
 by_cases p:i<(qr c s).length-1
 .rw[zR (by exact_mod_cast p)]
  simp only[go_sem,Nat.reduceEqDiff,↓reduceIte,y,z,A,B,C,g];refine(zBi ow c _).mono ?_;rintro q h' ⟨rfl,rfl⟩;rcases Nk r c with⟨P,t⟩ | ⟨m,P,U,t⟩
  .exfalso
   rw[t]at d;have:=congrArg List.length d;simp[b]at this;omega
  .have w:decide (((m:Nat):Int)<0)=false:=zO ow
   have L:IntKind.i64.wrap ((m:Int)+0)=((m:Nat):Int):=by rw[Int.add_zero,qJ ow ow]
   have M:IntKind.i64.wrap ((m:Int)+1)=((m+1:Nat):Int):=qR jL;have E:([c].length:Int)=1:=rfl;have e:yR prog 9 (.ptr h.next (i*1)) (.str (r.take m)) h'=some (h'.set h.next (.row ((f++ [r.take m]).map sdd++List.replicate ((qr c s).length- (i+1)) (.str [])))):=by
    rw[wF,yM n p9 (by simp[b];omega) rfl rfl,k _ ow]
   simp only[go_sem,Nat.reduceEqDiff,↓reduceIte,y,z,A,B,C,g,P,w,L,M,E,sL underlying9,Rb Mf underlying9 (show m<=r.length by omega),ZM Mf underlying9 (show m+1<=r.length by omega),qG uI p9 (show i<(qr c s).length by omega),e];refine⟨p,f++ [r.take m],r.drop (m+1),by simp[b],by rw[d,t];simp,jO,rfl,?_,rfl,j.set (zD _) _⟩;rw[qR jL]
 .have S:i=(qr c s).length-1:=ow
  rw[zO ow];have o:qr c r= [r]:=by
   have h1:=congrArg List.length d;rw[zS,b,mc c r]at h1;exact bU (List.count_eq_zero.1 ow)
  have N:IntKind.i64.wrap ((i:Int)+1)=(((qr c s).length:Nat):Int):=by rw[qR jL];omega
  have e:yR prog 9 (.ptr h.next (i*1)) (.str r) h'=some (h'.set h.next (.row ((f++ [r]).map sdd++List.replicate ((qr c s).length- (i+1)) (.str [])))):=by
   rw[wF,yM n p9 (by simp[b];omega) rfl rfl,k _ ow]
  simp only[go_sem,Nat.reduceEqDiff,↓reduceIte,y,z,A,B,C,g,N,qG uI p9 (show i<(qr c s).length by omega),e,oN zAI uI p9 (zD (qr c s).length)];have u:(f++ [r]).map sdd++List.replicate ((qr c s).length- (i+1)) (.str [])=(wh (qr c s)).flatten:=by
   rw[show(qr c s).length- (i+1)=0 by omega,List.replicate_zero,yC,Gj,d,o]
  refine⟨h.next,_,zU _ _ _,(j.set (zD _) _).del (zD _),?_⟩;rw[Yb RL (qv _) u];exact⟨yw (yD _) _ (yh (sz:=1) uh .no).2,rfl⟩
def Zq:List UInt8:=[97,98,99,100,101,102,103,104,105,106,107,108,109,110,111,112,113,114,115,116,117,118,119,120,121,122,48,49,50,51,52,53,54,55,56,57,45,46]
def nP(s:List UInt8):Bool:=match s with
 | []=>false
 |b::r=> !(decide ((b::r).length>32)||decide ((b.toNat:Int)<97)||decide ((b.toNat:Int)>122)||((b::r:List UInt8)== [97,110,100])||((b::r:List UInt8)== [111,114])||((b::r:List UInt8)== [119,105,116,104]))&&(Lib.trimS (b::r) Zq== [])
def UG(s:List UInt8):List (List UInt8):=if s= []then []else qr 10 s
def j9(b:UInt8):Bool:=((b.toNat:Int) !=10)&&(decide ((b.toNat:Int)<32)||decide ((b.toNat:Int)>126))
def wC(l:List Int):List (List D):=l.map λn=>[.int .i64 n]
def wG(l:List Int):(wC l).length=l.length:=zH ..
def dY{l:List Int}(h:i<l.length):(wC l)[i]? =some [.int .i64 l[i]]:=by simp[wC,h]
def zBo(o o2:Obj):((H.new H.next o).new (H.new H.next o).next o2).at' H.next=some o:=by
 rw[zg (by rw[za];omega),z5]
variable{P:Program}{h:Heap}
def MW{c x:D}{o2:Obj}(d:szT P t=1)(b:x.cells= [x])(hf:x.flat=true):
  yR P t (.ptr H.next 0) x ((H.new H.next (.row [c])).new (H.new H.next (.row [c])).next o2)=some ((H.new H.next (.row [x])).new (H.new H.next (.row [x])).next o2):=by
 rw[yM (zBo _ _) d jS b hf];congr 1;simp only[Heap.set,Heap.new,Heap.mk.injEq,zQ]
 funext j
 by_cases a:j=H.next
 .subst a;simp
 .simp[a]
def PI{a b c b':List D}(d:b'.length=b.length):wg (a++b++c) b' a.length=a++b'++c:=by
 simp[wg,d]
def VB{t e:TypeId}(q:ur P t=some e)(s:uw P e=some z)(r:szT P e=sz)(n:z.notTuple=true)(d:z.cells.length=sz)(h0:0<sz)(o:sz<=1048576)
  (l:x.notTuple=true) (f:x.cells.length=sz) (m:y.notTuple=true) (i:y.cells.length=sz):yA P false nid t 2 [(0,x),(1,y)] h=some (.sl sz [x.cells,y.cells] .full,h):=by
 simp only[yA,q,s,r];have g:ma 2 z.cells=z.cells++z.cells:=by simp[ma]
 have j:wg (z.cells++z.cells) x.cells (0*sz)=x.cells++z.cells:=by
  have:=PI (a:=[]) (b:=z.cells) (c:=z.cells) (b':=x.cells) (by rw[f,d]);simpa using this
 have k:wg (x.cells++z.cells) y.cells (1*sz)=x.cells++y.cells:=by
  have:=PI (a:=x.cells) (b:=z.cells) (c:=[]) (b':=y.cells) (by rw[i,d]);rw[nJ,<-f];simpa using this
 rw[ip (by simp[n,d,h0];omega)];simp only[uc,g];rw[ip (by simp[l,f,d])];simp only[uc,j];rw[ip (by simp[m,i,f,d])];simp only[uc,k];have p:wP sz 2 (x.cells++y.cells)= [x.cells,y.cells]:=by
  simp only[wP];rw[qm ow,yO ow,mH ow,wo ow,yL,yO ow]
 simp[p]
open Go.Shelf Go.Proofs
section
variable{P:Program}{m:Bool}{nid:Nat}{h:Heap}{fr:Frm}{k:D->Heap->Prop}
def zJW(P:Program)(t:TypeId)(d:D):Option D:=
 match d with
 |.nilsl=>match P.underlying t with
  |some (.slice _)=>some (.int .i64 0)
  |_=>none
 |_=>none
@[go_sem ↓] def zQY(t:TypeId)(x:Operand):rK P m nid (.call ⟨.builtin .cap,#[x],#[t]⟩) (qz fr) h k=onS (zJW P t (qz fr x)) (k · h):=by
 refine mU rfl ?_;simp only[vop,mf,zJW,qV,oE];cases qz fr x<;>try rfl
 simp only[];cases P.underlying t with
 |none=>rfl
 |some y=>cases y<;>rfl
@[go_sem ↓] def zNS(t:TypeId)(x:Operand):rK P m nid (.call ⟨.builtin .clear,#[x],#[t]⟩) (qz fr) h k=onH (lW P t (qz fr x) h) (k rJ ·):=G8 rfl rfl
def EZ{t e:TypeId}(a:P.underlying t=some (.slice e)):zJW P t .nilsl=some (.int .i64 0):=by simp[zJW,a]
end
abbrev KV:=List (List UInt8×List UInt8)
def kvD(m:KV):List (D×D):=m.map λp=>(.str p.1,.str p.2)
def pV(k:List UInt8):KV->Option (List UInt8)
 | []=>none
 |(k',v)::m=>if k==k' then some v else pV k m
def bF(k v:List UInt8):KV->KV
 | []=>[(k,v)]
 |(k',v')::m=>if k==k' then(k,v)::m else(k',v')::bF k v m
def XC(p:List UInt8×List UInt8)(m:KV):kvD (p::m)=(.str p.1,.str p.2)::kvD m:=rfl
def fH(k k':List UInt8):eqK [.s] (D.str k).cells (D.str k').cells=some (k==k'):=by
 show(eqK [] [] []).map (k==k'&& ·)=_;simp[eqK]
theorem To(k:List UInt8):∀m:KV,kQ [.s] (.str k) (kvD m)=some ((pV k m).map .str)
 | []=>rfl
 |(k',v)::m=>by
  have a:=To k m;rw[XC,kQ,fH];cases h:(k==k')with
  |true=>simp[pV,h]
  |false=>simp only[pV,h,a];rfl
theorem Hj(k v:List UInt8):∀m:KV,LY [.s] (.str k) (.str v) (kvD m)=some (kvD (bF k v m))
 | []=>rfl
 |(k',b)::m=>by
  have a:=Hj k v m;rw[XC,LY,fH];cases h:(k==k')with
  |true=>simp[bF,h,XC]
  |false=>simp[bF,h,XC,a]
def Qu(m:KV):(kvD m).all (λx=>yz false x.1)=true:=by
 rw[zb];intro x a;obtain⟨p,_,rfl⟩:=zN.1 a;rfl
theorem Qv(k k' v:List UInt8):∀m:KV,pV k (bF k' v m)=if k==k' then some v else pV k m
 | []=>by simp[bF,pV]
 |(k2,c)::m=>by
  have b:=Qv k k' v m;simp only[bF];by_cases h:k'=k2
  .subst h
   simp only[po,qK,pV];by_cases g:k=k'
   .subst g;simp
   .simp[g]
  .have a:(k'==k2)=false:=by simp[h]
   simp only[a,zf,yr,pV,b];by_cases g:k=k2
   .subst g
    have:(k==k')=false:=by simp;exact λe=>h e.symm
    simp[this]
   .simp[g]
section
variable{P:Program}{t kt e:TypeId}{id:Nat}{h:Heap}{m:KV}
def Jm(a:h.at' id=some (.map (kvD m)))(c:No P t=some (kt,e))(b:LH P kt=some (false,[.s]))(d:uw P e=some (.str []))(k:List UInt8)(ok:Bool):
  uW P t (.map id) (.str k) ok h=some (gO ok (.str []) ((pV k m).map .str)):=by
 simp only[uW,c,b,d,VZ,a,fw,Qu,fH,To,show yz false (.str k)=true from rfl,sF,wt,qK]
def RY(a:h.at' id=some (.map (kvD m)))(c:No P t=some (kt,e))(b:LH P kt=some (false,[.s]))(k v:List UInt8):
  uH P t (.map id) (.str k) (.str v) h=some (h.set id (.map (kvD (bF k v m)))):=by
 simp only[uH,c,b,a,Qu,fH,To,Hj,show yz false (.str k)=true from rfl,sF,wt,qK]
def Jg{a b:TypeId}{c:List (D×D)}(d:h.at' id=some (.map c))(e:P.underlying t=some (.map a b)):lW P t (.map id) h=some (h.set id (.map [])):=by
 simp only[lW,e,d]
end
def zJ2(P:Program)(h0:Heap)(f:D)(args:List D)(k:D->Prop):Prop:=∃d,(∀h',HLe h0 h'->YL P f args h' λd' h''=>d'=d/\h''=h')/\k d
variable{P:Program}{h:Heap}{t:TypeId}{nid:Nat}{fr:Frm}
@[congr] theorem zDC{f f':D}{args args':List D}{k:D->Prop}(hf:f=f')(ha:args=args'):zJ2 P h0 f args k=zJ2 P h0 f' args' k:=by rw[hf,ha]
@[go_sem ↓] def zCZ(f:Operand)(args:List Operand)(ats:Array TypeId)(k:D->Prop):W4 P h0 (.call ⟨.value f,args.toArray,ats⟩) (qz fr) k=zJ2 P h0 (qz fr f) (args.map (qz fr)) k:=(rfl)
def zJ1(P:Program)(h0:Heap)(f:D)(args:List D)(k:D->Prop):Prop:=∃S:D->Prop,(∃e,S e)/\(∀h',HLe h0 h'->YL P f args h' λd' h''=>S d'/\h''=h')/\∀d,S d->k d
@[congr] theorem zDB{f f':D}{args args':List D}{k:D->Prop}(hf:f=f')(ha:args=args'):zJ1 P h0 f args k=zJ1 P h0 f' args' k:=by rw[hf,ha]
@[go_sem ↓] def zCX(f:Operand)(args:List Operand)(ats:Array TypeId)(k:D->Prop):Ge P h0 (.call ⟨.value f,args.toArray,ats⟩) (qz fr) k=zJ1 P h0 (qz fr f) (args.map (qz fr)) k:=propext ⟨λh=>h.2,λh=>⟨rfl,h⟩⟩
def zB1{g:FuncId}{k:D->Prop}(S:D->Prop)(f:∀h',zE P g args h' λr a=>a=h'/\S r)(b:∃e,S e)(c:∀d,S d->k d):zJ1 P h0 (.fn (.func g) [] []) args k:=
 ⟨S,b,λh' _=>by
  rw[J0,yL,yC];exact(f h').mono λ_ _ e=>⟨e.2,e.1⟩,c⟩
def kS{g:FuncId}{k:D->Prop}(d:D)(c:∀h',zE P g args h' λr a=>a=h'/\r=d)(b:k d):zJ2 P h0 (.fn (.func g) [] []) args k:=
 ⟨d,λh' _=>by
  rw[J0,yL,yC];exact(c h').mono λ_ _ e=>⟨e.2,e.1⟩,b⟩
end Go.V
