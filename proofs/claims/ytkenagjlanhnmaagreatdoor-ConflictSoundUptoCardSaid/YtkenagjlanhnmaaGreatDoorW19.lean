/- Rules of the machine of abstract values, part 3. No condition. -/
import Derived.Test.YtkenagjlanhnmaaGreatDoorW18
import Derived.Sort.Grow
import Derived.Lib.TrimU
import Derived.Lib.IndexLaws
set_option linter.all false
set_option maxHeartbeats 8000000
namespace Go.V
open Go.RowKit (Below)
attribute [go_sem] Option.map_none Option.map_some
section
variable{P:Program}{t e:TypeId}{s:List UInt8}{h:Heap}
variable{n:Nat}
def TZ(a:Wu P t=none)(c:P.underlying t=some .string){k:IntKind}(b:n<=s.length):uN P t (.str s) none (some (.int k (n:Int))) none h=some (.str (s.take n)):=by
 simp[uN,a,fG,c,s8,VA,Te,b]
def aN(a:Wu P t=none)(c:P.underlying t=some .string){k:IntKind}(b:n<=s.length):uN P t (.str s) (some (.int k (n:Int))) none none h=some (.str (s.drop n)):=by
 simp[uN,a,fG,c,s8,VA,Te,b]
def nT(a:Wu P t=none)(b:uu P t=some e){id sz len n:Nat}(d:szT P e=sz){k:IntKind}(c:n<=len):uN P t (.rs id sz 0 len) none (some (.int k (n:Int))) none h=some (.rs id sz 0 n):=by
 simp[uN,a,fG,b,d,s8,VA,Te,c]
def tm(a:P.underlying t=some .string):o9 P t (.str s) h=some (.int .i64 s.length):=by simp[o9,a]
def ss(c:P.underlying t=some .string){k:IntKind}{b:UInt8}(a:s[n]? =some b):nS P t (.str s) (.int k (n:Int))=some (.int .u8 b.toNat):=by
 simp[nS,c,a]
end
variable{M:Imm}{ρ:Ren}{h H h0:Heap}{w:World}{n i nid sz:Nat}{s:List UInt8}{α:Type}{d z x y:D}{P:Program}{t:TypeId}{fr:Frm}{args:List D}
def Sim.grow{w0:Base}{G:List Nat}(b:Sim w0 G M ρ h w)(c:Array Go.Obj):Sim w0 G M ρ h (Go.Sort.grow w c):=
 b.world ⟨⟨rfl,rfl,rfl,by simp[Go.Sort.grow],λk a=>by simp[Go.Sort.grow,tP a]⟩,zC _⟩
def p0(p:Nat->Bool)(s:List UInt8):Nat->Nat->Bool
 |0,_=>false
 |k+1,pos=>if pos<s.length then p (rY s pos).1||p0 p s k (pos+(rY s pos).2)else false
def mR{p:Nat->Bool}{pos:Nat}(h:s.length<=pos):∀k,p0 p s k pos=false
 |0=>rfl
 |k+1=>by simp[p0];omega
theorem ZZ{p:Nat->Bool} :∀{j k pos:Nat},s.length+1<=pos+j->s.length+1<=pos+k->p0 p s j pos=p0 p s k pos
 |0,k,pos,a,_=>by rw[mR ow,mR ow]
 |j+1,0,pos,_,b=>by rw[mR ow,mR ow]
 |j+1,k+1,pos,a,b=>by
  simp only[p0];by_cases h:pos<s.length
  .have:=Go.Lib.width_pos ⟨s.toArray⟩ pos
   rw[ip h,ip h,ZZ (j:=j) (k:=k) (by unfold rY;omega) (by unfold rY;omega)]
  .rw[iq h,iq h]
def Ps(s:List UInt8)(pos:Nat):IntKind.i32.wrap ((rY s pos).1:Int)=((rY s pos).1:Int):=by
 have:=Go.Lib.rune_le ⟨s.toArray⟩ pos;unfold rY IntKind.wrap;simp[IntKind.signed,IntKind.bits];split<;>omega
def Pr(s:List UInt8)(pos:Nat):1<=(rY s pos).2:=Go.Lib.width_pos _ _
def KG{pos id:Nat}(a:h.at' id=some (.siter s pos))(b:s.length<=lim)(c:pos<s.length):Wn (.ptr id 0) true h=some (.tuple [.bool true,.int .i64 (pos:Int),.int .i32 ((rY s pos).1:Int)],h.set id (.siter s (pos+(rY s pos).2))):=by
 simp[Wn,a,c,b,Ps]
def HH{pos id:Nat}(a:h.at' id=some (.siter s pos))(b:¬pos<s.length):Wn (.ptr id 0) true h=some (.tuple [.bool false],h):=by
 simp[Wn,a,b]
def FP(n:Nat)(d:D):mw n [d]=List.replicate n d:=by
 induction n with
 |zero=>rfl
 |succ n a=>simp only[mw,tH,yT]at a⊢;rw[a];rfl
open Go.Proofs.Tryz
open Go.Proofs
def A5(g:s.length<=1048576)(c:UInt8)(h:Heap):zD prog 158 [.str s,.str [c]] h λr h'=>h'=h/\r=.int .i64 (Lib.countByte s c:Nat):=by
 have f:Lib.countByte s c<=s.length:=nZ;refine(Xb kr (λs c w=>Tryz.strings_Count_one s c w) (args:=[.str s,.str [c]]) (d:=.int .i64 (Lib.countByte s c:Nat)) ?_ h).mono λa b e=>⟨e.2,e.1⟩;simp only[YO,zBW];rw[qP ow ow];simp
def A6(i:s.length<=1048576)(c:UInt8)(h:Heap):zD prog 159 [.str s,.str [c]] h λr h'=>h'=h/\r=.int .i64 (Lib.indexByte s c):=by
 have h1:=Lib.indexByte_ge s c;have g:Lib.indexByte s c<=s.length:=by
  by_cases h0:Lib.indexByte s c= -1
  .omega
  .obtain⟨m,f⟩:=uy (show 0<=Lib.indexByte s c by omega)
   have:=(zK.1 (Lib.indexByte_some f).1).1;omega
 refine(cM kr (λs c w=>Tryz.strings_Index_one s c w) (args:=[.str s,.str [c]]) (d:=.int .i64 (Lib.indexByte s c)) ?_ h).mono λa b e=>⟨e.2,e.1⟩;simp only[bX,zBW];rw[qP ow ow];simp
theorem jB(p:α->Bool):∀l:List α,(l.dropWhile p).length<=l.length
 | []=>zC _
 |a::l=>by
  simp only[List.dropWhile];split
  .have:=jB p l
   simp;omega
  .exact zC _
def I4(s c:List UInt8):(Lib.trimS s c).length<=s.length:=by
 unfold Lib.trimS Lib.trimLeftS Lib.trimRightS;refine zb (jB _ _) ?_;rw[cC];refine zb (jB _ _) ?_;rw[cC];exact zC _
def C6(j:s.length<=1048576){c:List UInt8}(g:c.all (λb=>decide (b.toNat<128))=true)(i:c.length<4294967281)(h:Heap)(h0:Nat.ble 2 c.length=true:=by decide):zD prog 214 [.str s,.str c] h λr h'=>h'=h/\r=.str (Lib.trimS s c):=by
 refine(VF kr (λs c w h0 h1 f h3=>Mh Tryz.lays160 kr s c w h0 h1 f h3) (args:=[.str s,.str c]) (d:=.str (Lib.trimS s c)) ?_ h).mono λa b e=>⟨e.2,e.1⟩;have h1:=I4 s c;have f:Nat.blt c.length 4294967281=true:=by rw[l8];exact i
 simp only[Uf,h0,g,f,wU,qF,zIV];rw[ip (zR (by unfold lim;omega))]
def qj(c:UInt8):List UInt8->List (List UInt8)
 | []=>[[]]
 |b::s=>if b=c then []::qj c s else match qj c s with
  | []=>[[b]]
  |p::ps=>(b::p)::ps
def WC(c:UInt8):∀s,qj c s≠[]
 | []=>by simp[qj]
 |b::s=>by
  simp only[qj];split
  .simp
  .split<;>simp
theorem nw(c:UInt8):∀s:List UInt8,(qj c s).length=s.count c+1
 | []=>rfl
 |b::s=>by
  have a:=nw c s;simp only[qj];by_cases h:b=c
  .subst h;simp[a]
  .rw[iq h,List.count_cons_of_ne h]
   split
   .rename_i h0;rw[h0]at a;simp at a
   .rename_i p d h0;rw[h0]at a;simpa using a
theorem cW{c:UInt8} :∀{s:List UInt8},c∉s->qj c s= [s]
 | [],_=>rfl
 |b::s,h=>by
  simp only[z7,bg]at h;rw[qj,iq (λe=>h.1 e.symm),cW h.2]
theorem QU{c:UInt8} :∀{m:Nat}{s:List UInt8},s[m]? =some c->(∀k,k<m->s[k]? ≠some c)->qj c s=s.take m::qj c (s.drop (m+1))
 |m,[],h,_=>by simp at h
 |0,b::s,h,_=>by
  simp only[wW,wX]at h;rw[qj,ip h];simp
 |m+1,b::s,h,a=>by
  simp only[uz]at h;have d:b≠c:=λe=>a 0 ow (by simp[e]);rw[qj,iq d,QU h λk f=>by simpa using a (k+1) ow];simp
def PU(s:List UInt8)(c:UInt8):(Lib.indexByte s c= -1/\qj c s= [s])\/∃m:Nat,Lib.indexByte s c=(m:Int)/\m<s.length/\qj c s=s.take m::qj c (s.drop (m+1)):=by
 have h1:=Lib.indexByte_ge s c;by_cases h:Lib.indexByte s c= -1
 .refine .inl ⟨h,cW λe=> ?_⟩
  obtain⟨k,f⟩:=yh.1 e;exact Lib.indexByte_none h k f
 .obtain⟨m,b⟩:=uy (show 0<=Lib.indexByte s c by omega)
  obtain⟨a,d⟩:=Lib.indexByte_some b;exact .inr ⟨m,b,(zK.1 a).1,QU a d⟩
def bw(c:UInt8)(s:List UInt8):(qj c s).length<=s.length+1:=by
 rw[nw];have:=nZ (a:=c) (l:=s);omega
theorem dj(c:UInt8):∀(s:List UInt8),∀p∈qj c s,p.length<=s.length
 | [],p,h=>by simp[qj]at h;subst h;simp
 |b::s,p,h=>by
  have a:=dj c s;simp only[qj]at h;split at h
  .rcases z7.1 h with rfl|h
   .simp
   .have:=a p h;simp;omega
  .split at h
   .rename_i h0;exact absurd h0 (WC c s)
   .rename_i q d h0
    rcases z7.1 h with rfl|h
    .have:=a q (by rw[h0];simp);simp;omega
    .have:=a p (by rw[h0];simp[h]);simp;omega
def wg(l:List (List UInt8)):List (List D):=l.map λs=>[.str s]
def qm(l:List (List UInt8)):(wg l).length=l.length:=zI ..
def YY{l:List (List UInt8)}(h:i<l.length):(wg l)[i]? =some [.str l[i]]:=by simp[wg,h]
def uj{l:List (List UInt8)} :∀x∈wg l,uA x:=λx a=>by
 obtain⟨s,_,rfl⟩:=zS.1 a;exact⟨rfl,⟨trivial,trivial⟩,rfl⟩
def TH{l:List (List UInt8)} :∀x∈wg l,x.length=1:=λx a=>by
 obtain⟨s,_,rfl⟩:=zS.1 a;rfl
def sdd(s:List UInt8):D:=.str s
def Iw(l:List (List UInt8)):(wg l).flatten=l.map sdd:=by
 induction l with
 |nil=>rfl
 |cons x l a=>simp[wg,sdd]at a⊢;exact a
set_option maxRecDepth 100000
def GN{l:List (List UInt8)}(m:yZ 1 (wg l) d)(w:l.length<=1048576)(s:List UInt8)(h:Heap):
  zD prog 163 [d,.str s] h λr h'=>h'=h/\r=.int .i64 (match l.findIdx? (· ==s)with|some i=>(i:Int)|none=> -1):=by
 refine zj zFU ?_;simp only[f163,zA];have p:((wg l).length:Int)=l.length:=by rw[qm]
 simp only[go_sem,Nat.reduceEqDiff,↓reduceIte,wL m underlying45,p];refine qn (λi fr h'=>fr 0=d/\fr 1=.str s/\fr 7=.int .i64 l.length/\fr 8=.int .i64 (i:Int)/\h'=h/\∀j (t:j<l.length),j<i->(l[j]==s)=false) l.length (by simp[go_sem]) ?_;rintro i fr h' v ⟨e,f,g,k,rfl,t⟩;simp only[go_sem,Nat.reduceEqDiff,↓reduceIte,e,f,g,k];by_cases b:i<l.length
 .rw[zR (by exact_mod_cast b)]
  have a:(s==l[i])=(l[i]==s):=by grind
  cases q:(l[i]==s)with
  |true=>
   simp only[go_sem,Nat.reduceEqDiff,↓reduceIte,e,f,g,k,yR m ww pK (YY b),wI,a,q]
   have:l.findIdx? (· ==s)=some i:=by
    rw[qw]
    grind
   rw[this]
  |false=>
   simp only[go_sem,Nat.reduceEqDiff,↓reduceIte,e,f,g,k,yR m ww pK (YY b),wI,a,q]
   grind [qH,lim]
 .have o:i=l.length:=ow
  subst o;rw[zN ow];simp only[go_sem,Nat.reduceEqDiff,↓reduceIte]
  have:l.findIdx? (· ==s)=none:=by
   rw[uV];intro n u;obtain⟨j,c,rfl⟩:=zz.1 u;exact t j c c
  rw[this]
def ah{l:List α}{p:α->Bool} :decide ((match l.findIdx? p with|some i=>(i:Int)|none=> -1)>=0)=l.any p:=by grind
def kn{l:List (List UInt8)}(a:yZ 1 (wg l) d)(b:l.length<=1048576)(s:List UInt8)(h:Heap):
  zD prog 129 [d,.str s] h λr h'=>h'=h/\r=.bool (l.any (· ==s)):=by
 refine zj zFL ?_;simp only[f129,zA];refine(GN a b s _).mono ?_;rintro r c ⟨rfl,rfl⟩;simp only[go_sem,Nat.reduceEqDiff,↓reduceIte,ah]
def T9{l:List (List UInt8)}(q:yZ 1 (wg l) d)(z:l.length<=1048576){g:FuncId}{fst cap:List D}{p:List UInt8->Bool}(v:∀s∈l,∀h,zD prog g (fst++ [.str s]++cap) h λr h'=>h'=h/\r=.bool (p s))(h:Heap):
  zD prog 160 [d,.fn (.func g) fst cap] h λr h'=>h'=h/\r=.int .i64 (match l.findIdx? p with|some i=>(i:Int)|none=> -1):=by
 refine zj zFT ?_;simp only[f160,zA];have e:((wg l).length:Int)=l.length:=by rw[qm]
 simp only[go_sem,Nat.reduceEqDiff,↓reduceIte,wL q underlying45,e];refine qn (λi fr h'=>fr 0=d/\fr 1=.fn (.func g) fst cap/\fr 7=.int .i64 l.length/\fr 8=.int .i64 (i:Int)/\h'=h/\∀j (t:j<l.length),j<i->p l[j]=false) l.length (by simp[go_sem]) ?_;rintro i fr h' y ⟨f,k,m,o,rfl,t⟩;simp only[go_sem,Nat.reduceEqDiff,↓reduceIte,f,k,m,o];by_cases a:i<l.length
 .rw[zR (by exact_mod_cast a)]
  simp only[go_sem,Nat.reduceEqDiff,↓reduceIte,f,k,m,o,yR q ww pK (YY a),wI];refine(v _ (zH a) _).mono ?_;rintro r w ⟨rfl,rfl⟩;cases x:p l[i]with
  |true=>
   simp only[go_sem,Nat.reduceEqDiff,↓reduceIte]
   have:l.findIdx? p=some i:=by
    rw[qw]
    grind
   rw[this]
  |false=>
   simp only[go_sem,Nat.reduceEqDiff,↓reduceIte]
   grind [qH,lim]
 .have c:i=l.length:=ow
  subst c;rw[zN ow];simp only[go_sem,Nat.reduceEqDiff,↓reduceIte]
  have:l.findIdx? p=none:=by
   rw[uV];intro n u;obtain⟨j,b,rfl⟩:=zz.1 u;exact t j b b
  rw[this]
def Yv{l:List (List UInt8)}(a:yZ 1 (wg l) d)(b:l.length<=1048576){g:FuncId}{fst cap:List D}{p:List UInt8->Bool}(c:∀s∈l,∀h,zD prog g (fst++ [.str s]++cap) h λr h'=>h'=h/\r=.bool (p s))(h:Heap):
  zD prog 318 [d,.fn (.func g) fst cap] h λr h'=>h'=h/\r=.bool (l.any p):=by
 refine zj zGG ?_;simp only[f318,zA];refine(T9 a b c _).mono ?_;rintro r e ⟨rfl,rfl⟩;simp only[go_sem,Nat.reduceEqDiff,↓reduceIte,ah]
def RJ(y:s.length<=1048576){g:FuncId}{p:Nat->Bool}(t:∀n:Nat,n<=1114111->∀h,zD prog g [.int .i32 n] h λr h'=>h'=h/\r=.bool (p n))(h:Heap):
  zD prog 431 [.str s,.fn (.func g) [] [],.bool true] h λr h'=>h'=h/\∃n:Int,r=.int .i64 n/\decide (n>=0)=p0 p s (s.length+1) 0:=by
 refine xU kr λq=> ?_;refine zj zGb ?_;simp only[f431,zA];have hr:∀h:Heap,WO prog h.next 9 (.str s) h=some (.ptr h.next 0,h.new h.next (.siter s 0)):=by simp_all [WO]
 refine Mp (λk fr h'=>∃pos:Nat,k=s.length-pos/\fr 1=.fn (.func g) [] []/\fr 2=.bool true/\fr 10=.ptr h.next 0/\h'.at' h.next=some (.siter s pos)/\Ext h h'/\p0 p s (s.length+1) 0=p0 p s (s.length+1-pos) pos) s.length ?_ ?_
 .refine⟨0,rfl,?_⟩
  simp only[go_sem,Nat.reduceEqDiff,↓reduceIte,tD,zM];exact(Ext.refl h).new (zC _) _
 rintro k fr h' ⟨pos,rfl,i,j,d,hit,a,e⟩;by_cases f:pos<s.length
 .have o:=KG hit jL f
  have m:(rY s pos).1<=1114111:=Go.Lib.rune_le _ _;have v:=Pr s pos;simp only[go_sem,Nat.reduceEqDiff,↓reduceIte,i,j,d,o,lO];refine(t _ m _).mono ?_;rintro r w ⟨rfl,rfl⟩;have l:∀b c,kW prog .eql 4 c (.bool b) (.bool true)=some (.bool b):=by simp_all [kW,Fi,oH,veq]
  have u:s.length+1-pos=(s.length-pos)+1:=ow;cases x:p (rY s pos).1 with
  |true=>
   refine⟨a.set (zC _) _,trivial,(pos:Int),rfl,?_⟩
   grind [p0]
  |false=>
   simp only[go_sem,Nat.reduceEqDiff,↓reduceIte,l,i,j,d];refine⟨s.length- (pos+(rY s pos).2),ow,pos+(rY s pos).2,rfl,rfl,a.set (zC _) _,?_⟩
   grind [p0,ZZ]
 .have o:=HH hit f
  simp only[go_sem,Nat.reduceEqDiff,↓reduceIte,i,j,d,o,lO];refine⟨a,trivial,-1,rfl,?_⟩;rw[e,mR ow];rfl
def Y2(c:s.length<=1048576){g:FuncId}{p:Nat->Bool}(d:∀n:Nat,n<=1114111->∀h,zD prog g [.int .i32 n] h λr h'=>h'=h/\r=.bool (p n))(h:Heap):
  zD prog 375 [.str s,.fn (.func g) [] []] h λr h'=>h'=h/\r=.bool (p0 p s (s.length+1) 0):=by
 refine zj zGV ?_;simp only[f375,zA];refine zD.mono (Q:=λr h'=>h'=h/\∃n:Int,r=.int .i64 n/\decide (n>=0)=p0 p s (s.length+1) 0) ?_ ?_
 .refine zj zGZ ?_
  simp only[f399,zA];simp only[go_sem,Nat.reduceEqDiff,↓reduceIte]
  simp_all [RJ,Nat.reduceEqDiff]
 .rintro r b ⟨rfl,n,rfl,a⟩
  simp only[go_sem,Nat.reduceEqDiff,↓reduceIte,a]
theorem JC(T:s.length<=1048576)(c:UInt8)(h:Heap):
  zD prog 58 [.str s,.str [c]] h λr h'=>h'=h/\r=.sl 1 (wg (qj c s)) .no:=by
 refine zj zNj ?_;simp only[f58,zA];simp only[go_sem,Nat.reduceEqDiff,↓reduceIte];refine zD.mono (Q:=λr h'=>h'=h/\r=.sl 1 (wg (qj c s)) .no) ?_ ?_
 rotate_left
 .rintro r X ⟨rfl,rfl⟩
  simp only[go_sem,Nat.reduceEqDiff,↓reduceIte]
 have O:=bw c s;have F:=nw c s;refine xU kr λV=>zD.freezeD ?_;refine zj zE7 ?_;simp only[f101,zA];have H:([c]==([]:List UInt8))=false:=rfl;simp only[go_sem,Nat.reduceEqDiff,↓reduceIte,H,show((-1:Int)==0)=false from rfl,show decide ((-1:Int)<0)=true from rfl]
 refine(A5 T c _).mono ?_;rintro r h ⟨rfl,rfl⟩;have I:IntKind.i64.wrap ((Lib.countByte s c:Nat)+1:Int)=(((qj c s).length:Nat):Int):=by
  rw[F,show Lib.countByte s c=s.count c from rfl]
  exact qH (by have:=nZ (a:=c) (l:=s);unfold lim;omega)
 have J:IntKind.i64.wrap ((s.length:Int)+1)=((s.length+1:Nat):Int):=qH jL;have v:KR (.int .i64 (((qj c s).length:Nat):Int)) (.int .i64 ((s.length+1:Nat):Int))=some (.int .i64 (((qj c s).length:Nat):Int)):=by
  simp only[KR,qF];rw[iq ow]
 have G:∀h:Heap,tG prog true h.next 45 (.int .i64 (((qj c s).length:Nat):Int)) (.int .i64 (((qj c s).length:Nat):Int)) h=some (.rs h.next 1 0 (qj c s).length,h.new h.next (.row (mw (qj c s).length [.str []]))):=λh=>by
  simp only[tG,ww,fM,pK,p6];rw[ip (by simp[R9,JF];unfold lim;omega)];simp;rfl
 have K:IntKind.i64.wrap ((((qj c s).length:Nat):Int)-1)=((((qj c s).length-1:Nat)):Int):=by
  have:=WC c s;have h1:0<(qj c s).length:=zy.2 this;rw[qP ow ow];omega
 simp only[go_sem,Nat.reduceEqDiff,↓reduceIte,I,J,K,v,G,uc,Nat.reduceBEq,tm underlying9];have R:0<(qj c s).length:=zy.2 (WC c s);refine qn (λi fr h'=>∃ (f:List (List UInt8)) (r:List UInt8),f.length=i/\qj c s=f++qj c r/\r.length<=s.length/\fr 0=.str r/\fr 1=.str [c]/\fr 2=.int .i64 0/\fr 3=.int .i64 (((qj c s).length-1:Nat):Int)/\fr 9=.rs h.next 1 0 (qj c s).length/\fr 10=.int .i64 (i:Int)/\
   h'.at' h.next=some (.row (f.map sdd++List.replicate ((qj c s).length-i) (.str [])))/\Ext h h') ((qj c s).length-1) ?_ ?_
 .refine⟨[],s,rfl,rfl,zC _,?_⟩
  simp only[go_sem,Nat.reduceEqDiff,↓reduceIte,zM,tD];refine⟨rfl,?_,(Ext.refl h).new (zC _) _⟩;rw[FP]
 rintro i fr h' Y ⟨f,r,b,d,W,y,z,A,B,C,g,n,j⟩;simp only[go_sem,Nat.reduceEqDiff,↓reduceIte,y,z,A,B,C,g];have k:∀x:List UInt8,i<(qj c s).length->(f.map sdd++List.replicate ((qj c s).length-i) (D.str [])).set i (D.str x)=(f++ [x]).map sdd++List.replicate ((qj c s).length- (i+1)) (D.str []):=λx p=>by
  rw[j9 _ _ (by simp[b]),zI,b,ZX,show(qj c s).length-i=((qj c s).length- (i+1))+1 by omega,tH,tY];simp[sdd]
 by_cases p:i<(qj c s).length-1
 .rw[zR (by exact_mod_cast p)]
  simp only[go_sem,Nat.reduceEqDiff,↓reduceIte,y,z,A,B,C,g];refine(A6 ow c _).mono ?_;rintro q h' ⟨rfl,rfl⟩;rcases PU r c with⟨P,t⟩ | ⟨m,P,U,t⟩
  .exfalso
   rw[t]at d;have:=congrArg List.length d;simp[b]at this;omega
  .have w:decide (((m:Nat):Int)<0)=false:=zN ow
   have L:IntKind.i64.wrap ((m:Int)+0)=((m:Nat):Int):=by rw[Int.add_zero,qP ow ow]
   have M:IntKind.i64.wrap ((m:Int)+1)=((m+1:Nat):Int):=qH jL;have E:([c].length:Int)=1:=rfl;have e:yW prog 9 (.ptr h.next (i*1)) (.str (r.take m)) h'=some (h'.set h.next (.row ((f++ [r.take m]).map sdd++List.replicate ((qj c s).length- (i+1)) (.str [])))):=by
    rw[wn,yN n pK (by simp[b];omega) rfl rfl,k _ ow]
   simp only[go_sem,Nat.reduceEqDiff,↓reduceIte,y,z,A,B,C,g,P,w,L,M,E,tm underlying9,TZ NT underlying9 (show m<=r.length by omega),aN NT underlying9 (show m+1<=r.length by omega),qX ww pK (show i<(qj c s).length by omega),e];refine⟨p,f++ [r.take m],r.drop (m+1),by simp[b],by rw[d,t];simp,jO,rfl,?_,rfl,j.set (zC _) _⟩;rw[qH jL]
 .have S:i=(qj c s).length-1:=ow
  rw[zN ow];have o:qj c r= [r]:=by
   have h1:=congrArg List.length d;rw[zQ,b,nw c r]at h1;exact cW (List.count_eq_zero.1 ow)
  have N:IntKind.i64.wrap ((i:Int)+1)=(((qj c s).length:Nat):Int):=by rw[qH jL];omega
  have e:yW prog 9 (.ptr h.next (i*1)) (.str r) h'=some (h'.set h.next (.row ((f++ [r]).map sdd++List.replicate ((qj c s).length- (i+1)) (.str [])))):=by
   rw[wn,yN n pK (by simp[b];omega) rfl rfl,k _ ow]
  simp only[go_sem,Nat.reduceEqDiff,↓reduceIte,y,z,A,B,C,g,N,qX ww pK (show i<(qj c s).length by omega),e,nT BZ ww pK (zC (qj c s).length)];have u:(f++ [r]).map sdd++List.replicate ((qj c s).length- (i+1)) (.str [])=(wg (qj c s)).flatten:=by
   rw[show(qj c s).length- (i+1)=0 by omega,List.replicate_zero,yK,Iw,d,o]
  refine⟨h.next,_,zW _ _ _,(j.set (zC _) _).del (zC _),?_⟩;rw[XM TH (qm _) u];exact⟨qQ (yM _) _ (qY (sz:=1) uj .no).2,rfl⟩
def ay:List UInt8:=[97,98,99,100,101,102,103,104,105,106,107,108,109,110,111,112,113,114,115,116,117,118,119,120,121,122,48,49,50,51,52,53,54,55,56,57,45,46]
def oY(s:List UInt8):Bool:=match s with
 | []=>false
 |b::r=> !(decide ((b::r).length>32)||decide ((b.toNat:Int)<97)||decide ((b.toNat:Int)>122)||((b::r:List UInt8)== [97,110,100])||((b::r:List UInt8)== [111,114])||((b::r:List UInt8)== [119,105,116,104]))&&(Lib.trimS (b::r) ay== [])
def VH(s:List UInt8):List (List UInt8):=if s= []then []else qj 10 s
def jX(b:UInt8):Bool:=((b.toNat:Int) !=10)&&(decide ((b.toNat:Int)<32)||decide ((b.toNat:Int)>126))
def wt(l:List Int):List (List D):=l.map λn=>[.int .i64 n]
def wE(l:List Int):(wt l).length=l.length:=zI ..
def fY{l:List Int}(h:i<l.length):(wt l)[i]? =some [.int .i64 l[i]]:=by simp[wt,h]
def zAB(o o2:Obj):((H.new H.next o).new (H.new H.next o).next o2).at' H.next=some o:=by
 rw[zf (by rw[za];omega),z5]
variable{P:Program}{h:Heap}
def NI{c x:D}{o2:Obj}(d:szT P t=1)(b:x.cells= [x])(hf:x.flat=true):
  yW P t (.ptr H.next 0) x ((H.new H.next (.row [c])).new (H.new H.next (.row [c])).next o2)=some ((H.new H.next (.row [x])).new (H.new H.next (.row [x])).next o2):=by
 rw[yN (zAB _ _) d jS b hf];congr 1;simp only[Heap.set,Heap.new,Heap.mk.injEq,zM]
 funext j
 by_cases a:j=H.next
 .subst a;simp
 .simp[a]
def QG{a b c b':List D}(d:b'.length=b.length):wS (a++b++c) b' a.length=a++b'++c:=by
 simp[wS,d]
def WJ{t e:TypeId}(q:uu P t=some e)(s:uo P e=some z)(r:szT P e=sz)(n:z.notTuple=true)(d:z.cells.length=sz)(h0:0<sz)(o:sz<=1048576)
  (l:x.notTuple=true) (f:x.cells.length=sz) (m:y.notTuple=true) (i:y.cells.length=sz):yD P false nid t 2 [(0,x),(1,y)] h=some (.sl sz [x.cells,y.cells] .full,h):=by
 simp only[yD,q,s,r];have g:mw 2 z.cells=z.cells++z.cells:=by simp[mw]
 have j:wS (z.cells++z.cells) x.cells (0*sz)=x.cells++z.cells:=by
  have:=QG (a:=[]) (b:=z.cells) (c:=z.cells) (b':=x.cells) (by rw[f,d]);simpa using this
 have k:wS (x.cells++z.cells) y.cells (1*sz)=x.cells++y.cells:=by
  have:=QG (a:=x.cells) (b:=z.cells) (c:=[]) (b':=y.cells) (by rw[i,d]);rw[pU,<-f];simpa using this
 rw[ip (by simp[n,d,h0];omega)];simp only[ua,g];rw[ip (by simp[l,f,d])];simp only[ua,j];rw[ip (by simp[m,i,f,d])];simp only[ua,k];have p:wK sz 2 (x.cells++y.cells)= [x.cells,y.cells]:=by
  simp only[wK];rw[qt ow,yP ow,nV ow,tL ow,yU,yP ow]
 simp[p]
open Go.Shelf Go.Proofs
section
variable{P:Program}{m:Bool}{nid:Nat}{h:Heap}{fr:Frm}{k:D->Heap->Prop}
def zHx(P:Program)(t:TypeId)(d:D):Option D:=
 match d with
 |.nilsl=>match P.underlying t with
  |some (.slice _)=>some (.int .i64 0)
  |_=>none
 |_=>none
@[go_sem ↓] def zO0(t:TypeId)(x:Operand):su P m nid (.call ⟨.builtin .cap,#[x],#[t]⟩) (qy fr) h k=onS (zHx P t (qy fr x)) (k · h):=by
 refine ni rfl ?_;simp only[vop,n7,zHx,qe,nF];cases qy fr x<;>try rfl
 simp only[];cases P.underlying t with
 |none=>rfl
 |some y=>cases y<;>rfl
@[go_sem ↓] def zLp(t:TypeId)(x:Operand):su P m nid (.call ⟨.builtin .clear,#[x],#[t]⟩) (qy fr) h k=onH (dq P t (qy fr x) h) (k si ·):=HI rfl rfl
def Gi{t e:TypeId}(a:P.underlying t=some (.slice e)):zHx P t .nilsl=some (.int .i64 0):=by simp[zHx,a]
end
abbrev KV:=List (List UInt8×List UInt8)
def kvD(m:KV):List (D×D):=m.map λp=>(.str p.1,.str p.2)
def p8(k:List UInt8):KV->Option (List UInt8)
 | []=>none
 |(k',v)::m=>if k==k' then some v else p8 k m
def cJ(k v:List UInt8):KV->KV
 | []=>[(k,v)]
 |(k',v')::m=>if k==k' then(k,v)::m else(k',v')::cJ k v m
def YL(p:List UInt8×List UInt8)(m:KV):kvD (p::m)=(.str p.1,.str p.2)::kvD m:=rfl
def gN(k k':List UInt8):eqK [.s] (D.str k).cells (D.str k').cells=some (k==k'):=by
 show(eqK [] [] []).map (k==k'&& ·)=_;simp[eqK]
theorem Up(k:List UInt8):∀m:KV,lg [.s] (.str k) (kvD m)=some ((p8 k m).map .str)
 | []=>rfl
 |(k',v)::m=>by
  have a:=Up k m;rw[YL,lg,gN];cases h:(k==k')with
  |true=>simp[p8,h]
  |false=>simp only[p8,h,a];rfl
theorem J2(k v:List UInt8):∀m:KV,MG [.s] (.str k) (.str v) (kvD m)=some (kvD (cJ k v m))
 | []=>rfl
 |(k',b)::m=>by
  have a:=J2 k v m;rw[YL,MG,gN];cases h:(k==k')with
  |true=>simp[cJ,h,YL]
  |false=>simp[cJ,h,YL,a]
def Rq(m:KV):(kvD m).all (λx=>yo false x.1)=true:=by
 rw[zT];intro x a;obtain⟨p,_,rfl⟩:=zS.1 a;rfl
theorem Rr(k k' v:List UInt8):∀m:KV,p8 k (cJ k' v m)=if k==k' then some v else p8 k m
 | []=>by simp[cJ,p8]
 |(k2,c)::m=>by
  have b:=Rr k k' v m;simp only[cJ];by_cases h:k'=k2
  .subst h
   simp only[pN,qF,p8];by_cases g:k=k'
   .subst g;simp
   .simp[g]
  .have a:(k'==k2)=false:=by simp[h]
   simp only[a,zg,yp,p8,b];by_cases g:k=k2
   .subst g
    have:(k==k')=false:=by simp;exact λe=>h e.symm
    simp[this]
   .simp[g]
section
variable{P:Program}{t kt e:TypeId}{id:Nat}{h:Heap}{m:KV}
def KF(a:h.at' id=some (.map (kvD m)))(c:MA P t=some (kt,e))(b:N5 P kt=some (false,[.s]))(d:uo P e=some (.str []))(k:List UInt8)(ok:Bool):
  uM P t (.map id) (.str k) ok h=some (dx ok (.str []) ((p8 k m).map .str)):=by
 simp only[uM,c,b,d,Wc,a,fC,Rq,gN,Up,show yo false (.str k)=true from rfl,tc,wU,qF]
def TW(a:h.at' id=some (.map (kvD m)))(c:MA P t=some (kt,e))(b:N5 P kt=some (false,[.s]))(k v:List UInt8):
  wv P t (.map id) (.str k) (.str v) h=some (h.set id (.map (kvD (cJ k v m)))):=by
 simp only[wv,c,b,a,Rq,gN,Up,J2,show yo false (.str k)=true from rfl,tc,wU,qF]
end
def zIR(P:Program)(h0:Heap)(f:D)(args:List D)(k:D->Prop):Prop:=∃d,(∀h',HLe h0 h'->ZY P f args h' λd' h''=>d'=d/\h''=h')/\k d
variable{P:Program}{h:Heap}{t:TypeId}{nid:Nat}{fr:Frm}
@[congr] theorem zBc{f f':D}{args args':List D}{k:D->Prop}(hf:f=f')(ha:args=args'):zIR P h0 f args k=zIR P h0 f' args' k:=by rw[hf,ha]
@[go_sem ↓] def zA2(f:Operand)(args:List Operand)(ats:Array TypeId)(k:D->Prop):WD P h0 (.call ⟨.value f,args.toArray,ats⟩) (qy fr) k=zIR P h0 (qy fr f) (args.map (qy fr)) k:=(rfl)
def zIQ(P:Program)(h0:Heap)(f:D)(args:List D)(k:D->Prop):Prop:=∃S:D->Prop,(∃e,S e)/\(∀h',HLe h0 h'->ZY P f args h' λd' h''=>S d'/\h''=h')/\∀d,S d->k d
@[congr] theorem zBb{f f':D}{args args':List D}{k:D->Prop}(hf:f=f')(ha:args=args'):zIQ P h0 f args k=zIQ P h0 f' args' k:=by rw[hf,ha]
@[go_sem ↓] def zA0(f:Operand)(args:List Operand)(ats:Array TypeId)(k:D->Prop):Iq P h0 (.call ⟨.value f,args.toArray,ats⟩) (qy fr) k=zIQ P h0 (qy fr f) (args.map (qy fr)) k:=propext ⟨λh=>h.2,λh=>⟨rfl,h⟩⟩
def zAP{g:FuncId}{k:D->Prop}(S:D->Prop)(f:∀h',zD P g args h' λr a=>a=h'/\S r)(b:∃e,S e)(c:∀d,S d->k d):zIQ P h0 (.fn (.func g) [] []) args k:=
 ⟨S,b,λh' _=>by
  rw[KW,yU,yK];exact(f h').mono λ_ _ e=>⟨e.2,e.1⟩,c⟩
def Pc{g:FuncId}{k:D->Prop}(d:D)(c:∀h',zD P g args h' λr a=>a=h'/\r=d)(b:k d):zIR P h0 (.fn (.func g) [] []) args k:=
 ⟨d,λh' _=>by
  rw[KW,yU,yK];exact(c h').mono λ_ _ e=>⟨e.2,e.1⟩,b⟩
end Go.V
