/- Contracts of functions that the law reaches, part 2. No condition. -/
import Derived.Test.YtmkfpfodpehkoaaGreatDoorW32
set_option linter.all false
set_option maxHeartbeats 8000000
namespace Go.V
open Go.Proofs.Tryz
open Go.Proofs
set_option maxRecDepth 100000
structure Trm where
 a:List UInt8
 b:List UInt8
def Trm.cells(l:Trm):List D:=[.str l.a,.str l.b]
def wW(l:List Trm):List (List D):=l.map Trm.cells
def uU(l:List Trm):(wW l).length=l.length:=zI ..
variable{i k id sz n:Nat}{d x:D}{f:FuncId}{cap:List D}{β:Type}{g:Heap}{xs:List (List D)}
def Z7{l:List Trm}(h:i<l.length):(wW l)[i]? =some l[i].cells:=by simp[wW,h]
def wT{l:List Trm}(a:ye 2 (wW l) d)(h:Heap):js prog 108 d h=some (.int .i64 l.length):=by rw[uV a underlying108,uU]
def rA{l:List Trm}{d:D}(a:ye 2 (wW l) d){i:Nat}(b:i<l.length):yP prog 108 d (.int .i64 (i:Int))=some (.iptr l[i].cells 0):=qA a uO uo (Z7 b)
def yI(a b:Trm):Int:=orL [nv a.a b.a,nv a.b b.b]
def dH(a b:Trm)(g:Heap):zB prog 269 [.agg a.cells,.agg b.cells] g λr h'=>h'=g/\r=.int .i64 (yI a b):=by
 have h1:=U8 a.a b.a;have f:=U8 a.b b.b;have h3:=A0 (l:=[nv a.a b.a,nv a.b b.b]) (ye.mk .full) (by simp);have hr:=λnid=>zH7 (nv a.a b.a) (nv a.b b.b) nid;have c:orL [nv a.a b.a,nv a.b b.b]=yI a b:=rfl;rw[c]at h3;have d:∀h:Heap,HLe Heap.emp h:=λh i j e=>by cases e
 refine z5 zHe ?_;simp only[f269,zA];simp only[Trm.cells]
 repeat' first|simp only[go_sem, *]|apply bc<;>intro c
 refine qD Heap.emp [(0,.no,true),(1,.no,true),(2,.no,true),(3,.no,true),(5,.no,true),(6,.st,true),(7,.no,true),(8,.st,true),(4,.no,true),(9,.no,true),(10,.no,true),(11,.no,true),(12,.no,true)] kr kr (λi j e=>by cases e) ?_
 repeat' first|simp only[go_sem, *]|apply bc<;>intro c|refine zB.use (h1 _) ?_|refine zB.use (f _) ?_|refine zB.use (h3 _) ?_
def Rj(x y:Trm)(c:Bool):fV prog .eql 112 c (.agg [.str x.a,.str x.b]) (.agg [.str y.a,.str y.b])=some (.bool (x.a==y.a&&x.b==y.b)):=by
 have d:eqT prog 112=some [.s,.s]:=kr;simp only[fV,d,LD,eqK,qo,qd,oA]
def I7{l:List Trm}(q:ye 2 (wW l) d)(D:l.length<=1048576)(n:Trm)(g:Heap):
  zB prog 364 [d,.agg [.str n.a,.str n.b]] g λr h'=>h'=g/\r=.int .i64 (cK (λx:Trm=>n.a==x.a&&n.b==x.b) l):=by
 have s:=wT q;have heq:=Rj n;obtain⟨p,t⟩:∃p:Trm->Bool,(λx:Trm=>n.a==x.a&&n.b==x.b)=p:=⟨_,rfl⟩;have m:∀x,(n.a==x.a&&n.b==x.b)=p x:=λx=>by rw[<-t]
 rw[t];refine z5 zH3 ?_;simp only[f364,zA];simp only[go_sem, *];refine zV (λi fr h=>fr 0=d/\fr 3=.iptr [.str n.a,.str n.b] 0/\fr 7=.int .i64 (l.length:Int)/\fr 8=.int .i64 (i:Int)/\h=g/\∀j (e:j<l.length),j<i->p l[j]=false) l.length ow ?_ ?_ ?_
 ·simp only[go_sem,zQ,zS,zF];exact λj e h0=>absurd h0 (zj _)
 ·rintro i fr h c e1 C ⟨v,w,y,z,rfl,e⟩;have u:=rA q c;simp only[Trm.cells]at u;have o:=heq l[i];rw[m]at o;cases k:p l[i]with
  |true=>
   have B:=lX (p:=p) c e k;rw[k]at o;simp only[go_sem, *];refine zd kr ?_;simp only[go_sem, *]
  |false=>
   have A:=qp (p:=p) c e k;rw[k]at o;simp only[go_sem, *];refine zd kr ?_;simp only[go_sem, *];exact A
 ·rintro fr h e1 ⟨v,w,y,z,rfl,e⟩;have B:=lY (p:=p) λj f=>e j f f;exact au
def QN{l:List Trm}(e:ye 2 (wW l) d)(h:l.length<=1048576)(n:Trm)(g:Heap):
  zB prog 323 [d,.agg [.str n.a,.str n.b]] g λr h'=>h'=g/\r=.bool (l.any λx:Trm=>n.a==x.a&&n.b==x.b):=by
 have c:=I7 e h n;have f:=jE (l:=l) (p:=λx:Trm=>n.a==x.a&&n.b==x.b);refine z5 zHx ?_;simp only[f323,zA]
 repeat' first|simp only[go_sem, *]|apply bc<;>intro i|refine zB.use (c _) ?_
def TH{l:List Trm}(n:ye 2 (wW l) d)(C:l.length<=1048576){p:Trm->Bool}(z:∀s∈l,∀h,zB prog f ([]++ [.agg s.cells]++cap) h λr h'=>h'=h/\r=.bool (p s))(g:Heap):
  zB prog 363 [d,.fn (.func f) [] cap] g λr h'=>h'=g/\r=.int .i64 (cK p l):=by
 have o:=wT n;refine z5 zH2 ?_;simp only[f363,zA]
 repeat' first|simp only[go_sem, *]|apply bc<;>intro m
 refine zV (λi fr h=>fr 1=.fn (.func f) [] cap/\fr 0=d/\fr 6=d/\fr 7=.int .i64 (l.length:Int)/\fr 8=.int .i64 (i:Int)/\h=g/\∀j (b:j<l.length),j<i->p l[j]=false) l.length ow ?_ ?_ ?_
 ·simp only[go_sem,zQ,zS,zF];exact λj b h0=>by omega
 ·rintro i fr h a e1 B ⟨u,t,v,w,x,rfl,b⟩;have q:=rA n a;have e:=z _ (zG a);simp only[yT,z9,Trm.cells]at e;simp only[Trm.cells]at q;cases k:p l[i]with
  |true=>
   have A:=lX a b k;rw[k]at e
   repeat' first|simp only[go_sem, *]|apply bc<;>intro m|refine zB.use (e _) ?_
  |false=>
   have y:=qp (p:=p) a b k;rw[k]at e
   repeat' first|simp only[go_sem, *]|apply bc<;>intro m|refine zB.use (e _) ?_
   exact y
 ·rintro fr h e1 ⟨u,t,v,w,x,rfl,b⟩;have A:=lY (p:=p) λj c=>b j c c;exact au
def YP{l:List Trm}(b:ye 2 (wW l) d)(e:l.length<=1048576){p:Trm->Bool}(i:∀s∈l,∀h,zB prog f ([]++ [.agg s.cells]++cap) h λr h'=>h'=h/\r=.bool (p s))(g:Heap):
  zB prog 321 [d,.fn (.func f) [] cap] g λr h'=>h'=g/\r=.bool (l.any p):=by
 have a:=TH b e i;have c:=jE (l:=l) (p:=p);refine z5 zHv ?_;simp only[f321,zA]
 repeat' first|simp only[go_sem, *]|apply bc<;>intro j|refine zB.use (a _) ?_
def Eo(x:Trm)(h:Heap)(id:Nat):qP prog 112 (.ptr id 0) (.agg [.str x.a,.str x.b]) (h.new id (.row [.str [],.str []]))=some (h.new id (.row [.str x.a,.str x.b])):=qk uo ow rfl rfl rfl
def pC:List Trm->List Trm->Int
 | [],[]=>0
 | [],_::_=> -1
 |_::_,[]=>1
 |x::xs,y::ys=>if(!(yI x y==0))=true then yI x y else pC xs ys
theorem Ya:∀{a b:List Trm}{i:Nat}(f:i<a.length)(g:i<b.length),(∀j (h1:j<a.length)(d:j<b.length),j<i->yI a[j] b[j]=0)->yI a[i] b[i]≠0->pC a b=yI a[i] b[i]
 |x::xs,y::ys,0,_,_,_,h0=>by
  have c:yI x y≠0:=h0;simp[pC,c]
 |x::xs,y::ys,i+1,f,g,h,h0=>by
  have e:yI x y=0:=h 0 (by simp) (by simp) ow;have:=Ya (a:=xs) (b:=ys) (i:=i) (by simpa using f) (by simpa using g) (λj h1 d h3=>h (j+1) (nF h1) (nF d) ow) (by simpa using h0);simp only[pC,e,p8];simpa using this
theorem cU:∀{a b:List Trm},(∀j (h1:j<a.length)(c:j<b.length),yI a[j] b[j]=0)->pC a b=if b.length<a.length then 1 else if a.length<b.length then -1 else 0
 | [],[],_=>rfl
 | [],y::ys,_=>by simp[pC]
 |x::xs,[],_=>by simp[pC]
 |x::xs,y::ys,d=>by
  have e:yI x y=0:=d 0 (by simp) (by simp);have:=cU (a:=xs) (b:=ys) (λj h1 c=>d (j+1) (nF h1) (nF c));simp only[pC,e,zm];simpa using this
def X8{a b:List Trm}(G:ye 2 (wW a) d)(H:ye 2 (wW b) x)(X:a.length<=1048576)(Y:b.length<=1048576)(g:Heap):
  zB prog 320 [d,x,.fn (.func 269) [] []] g λr h'=>h'=g/\r=.int .i64 (pC a b):=by
 refine xU kr λhh=> ?_;have I:∀k:Int,below g.next (.int .i64 k):=λk=>by simp[below,qZ]
 have l:=λp q h=>dH p q h;simp only[Trm.cells]at l;have V:=wT G;have W:=wT H;have z:=Ext.refl g;obtain⟨R,s⟩:∃R,pC a b=R:=⟨_,rfl⟩;rw[s];refine z5 zHu ?_;simp only[f320,zA]
 repeat' first|simp only[go_sem, *]|apply bc<;>intro B
 refine zV (λk fr h=>fr 0=d/\fr 1=x/\fr 2=.fn (.func 269) [] []/\fr 11=d/\fr 12=.int .i64 (a.length:Int)/\fr 13=.int .i64 (k:Int)/\Ext g h/\k<=b.length/\∀j (h1:j<a.length)(f:j<b.length),j<k->yI a[j] b[j]=0) a.length ow ?_ ?_ ?_
 ·simp only[go_sem,zQ,zS,zF];exact⟨z,yg _,λj h1 f m=>absurd m (zj _)⟩
 ·rintro k fr h o Q ew ⟨S,T,U,u,v,w,y,D,m⟩;have O:=rA G o;have F:=Eo a[k] h h.next;have e:=y.new y.1 (.row a[k].cells);simp only[Trm.cells]at O e;by_cases C:k<b.length
  ·have P:=rA H C;have t:decide ((k:Int)>=(b.length:Int))=false:=by simp only[yy];omega
   obtain⟨c,i⟩:∃c,h.new h.next (.row [.str a[k].a,.str a[k].b])=c:=⟨_,rfl⟩;rw[i]at F e;have N:=yQ h h.next (.row [.str a[k].a,.str a[k].b]);rw[i]at N;have L:=Eo b[k] c c.next;have A:=e.new e.1 (.row b[k].cells);simp only[Trm.cells]at P A;have n2:=yQ c c.next (.row [.str b[k].a,.str b[k].b]);have K:h.next<c.next:=by rw[<-i,yA];omega
   have n3:(c.new c.next (.row [.str b[k].a,.str b[k].b])).at' h.next=some (.row [.str a[k].a,.str a[k].b]):=by rw[zz ow];exact N
   cases M:(yI a[k] b[k]==0)with
   |true=>
    have Z:∀j (h1:j<a.length)(f:j<b.length),j<k+1->yI a[j] b[j]=0:=λj h1 f h3=>by
     rcases zo.1 h3 with q|rfl
     ·exact m j h1 f q
     ·simpa using M
    have J:k+1<=b.length:=C
    repeat' first|simp only[go_sem, *]|apply bc<;>intro B|(refine zB.mono (l _ _ _) ?_;rintro r h ⟨E,rfl⟩)
    exact Z
   |false=>
    have n:=Ya o C m (by simpa using M);rw[s]at n
    repeat' first|simp only[go_sem, *]|apply bc<;>intro B|(refine zB.mono (l _ _ _) ?_;rintro r h ⟨E,rfl⟩)
  ·have t:decide ((k:Int)>=(b.length:Int))=true:=by simp only[zP];omega
   have n:=cU (a:=a) (b:=b) (λj h1 f=>m j h1 f ow);rw[ip ow,s]at n;exact au
 ·rintro fr h Q ⟨S,T,U,u,v,w,y,D,m⟩;have n:=cU (a:=a) (b:=b) (λj h1 f=>m j h1 f h1);rw[iq ow,s]at n;cases t:decide ((a.length:Int)<(b.length:Int))with
  |true=>
   rw[ip (by have:=zg t;omega)]at n
   repeat' first|simp only[go_sem, *]|apply bc<;>intro B
  |false=>
   rw[iq (by have:=zq t;omega)]at n;exact au
def ui(a b:List Trm):Int:=orL [wm a.length b.length,pC a b]
def U5{a b:List Trm}(f:ye 2 (wW a) d)(h:ye 2 (wW b) x)(c:a.length<=1048576)(e:b.length<=1048576)(g:Heap):
  zB prog 272 [d,x] g λr h'=>h'=g/\r=.int .i64 (ui a b):=by
 have k:=wT f;have m:=wT h;have h1:=YK a.length b.length;have j:=X8 f h c e;have h3:=A0 (l:=[wm a.length b.length,pC a b]) (ye.mk .full) (by simp);have hr:=λnid=>zH7 (wm a.length b.length) (pC a b) nid;have i:orL [wm a.length b.length,pC a b]=ui a b:=rfl;rw[i]at h3;refine z5 zHg ?_;simp only[f272,zA]
 repeat' first|simp only[go_sem, *]|apply bc<;>intro i|refine zB.use (h1 _) ?_|refine zB.use (j _) ?_|refine zB.use (h3 _) ?_
def LY(l:List Trm)(n:Trm):Bool:=l.any λx:Trm=>n.a==x.a&&n.b==x.b
def DI{l:List Trm}(e:ye 2 (wW l) d)(f:l.length<=1048576)(n:Trm)(g:Heap):
  zB prog 322 [.agg n.cells,.iptr [d] 0] g λr h'=>h'=g/\r=.bool (!(LY l n)):=by
 have c:=QN e f n;have h:(l.any λx:Trm=>n.a==x.a&&n.b==x.b)=LY l n:=rfl;rw[h]at c;refine z5 zHw ?_;simp only[f322,zA];simp only[Trm.cells]
 repeat' first|simp only[go_sem, *]|apply bc<;>intro c|refine zB.use (c _) ?_
def tj(a b:List Trm):Bool:= !(b.any λn=> !(LY a n))
def VY{a b:List Trm}(j:ye 2 (wW a) d)(k:ye 2 (wW b) x)(e:a.length<=1048576)(i:b.length<=1048576)(g:Heap):
  zB prog 274 [d,x] g λr h'=>h'=g/\r=.bool (tj a b):=by
 have c:=YP k i (f:=322) (cap:=[.iptr [d] 0]) λn _ h=>DI j e n h;have l:(b.any λn=> !(LY a n))= !(tj a b):=by simp[tj]
 rw[l]at c;refine z5 zHi ?_;simp only[f274,zA];rcases j with⟨rfl,_⟩ | ⟨_,rfl⟩
 ·repeat' first|simp only[go_sem, *]|apply bc<;>intro c|refine zB.use (c _) ?_
 ·repeat' first|simp only[go_sem, *]|apply bc<;>intro c|refine zB.use (c _) ?_
structure QC{β:Type}(c:β->β->Int):Prop where
 anti:∀x y,c x y<0↔0<c y x
 trans:∀x y z,c x y<=0->c y z<=0->c x z<=0
def QC.refl{c:β->β->Int}(h:QC c)(x:β):c x x=0:=by
 have:=h.anti x x;omega
def QC.eq0{c:β->β->Int}(h:QC c){x y:β}(e:c x y=0):c y x=0:=by
 have h1:=h.anti x y;have a:=h.anti y x;omega
def QC.ltle{c:β->β->Int}(h:QC c){x y z:β}(h1:c x y<0)(d:c y z<=0):c x z<0:=by
 have a:=h.trans x y z ow d;rcases Int.lt_or_eq_of_le a with q|q
 ·exact q
 ·have b:=h.trans y z x d (by rw[h.eq0 q];exact ke _);have:=(h.anti x y).1 h1;omega
def QC.lelt{c:β->β->Int}(h:QC c){x y z:β}(h1:c x y<=0)(d:c y z<0):c x z<0:=by
 have a:=h.trans x y z h1 ow;rcases Int.lt_or_eq_of_le a with q|q
 ·exact q
 ·have b:=h.trans z x y (by rw[h.eq0 q];exact ke _) h1;have:=(h.anti y z).1 d;omega
def QC.key{β γ:Type}{c:β->β->Int}(h:QC c)(f:γ->β):QC λx y=>c (f x) (f y):=⟨λ_ _=>h.anti _ _,λ_ _ _=>h.trans _ _ _⟩
def Vw(a b:Int):Int:=if a=0 then b else a
def QC.lex{c d:β->β->Int}(h:QC c)(k:QC d):QC λx y=>Vw (c x y) (d x y) where
 anti x y:=by
  have h1:=h.anti x y;have h2:=h.anti y x;have h3:=k.anti x y;simp only[Vw];split<;>split<;>omega
 trans x y z h1 h2:=by
  simp only[Vw]at *
  by_cases e1:c x y=0
  ·by_cases e2:c y z=0
   ·rw[ip e1]at h1;rw[ip e2]at h2;have e3:c x z=0:=by
     have a:=h.trans x y z ow ow;have b:=h.trans z y x (by rw[h.eq0 e2];omega) (by rw[h.eq0 e1];omega);have:=h.anti z x;have:=h.anti x z;omega
    rw[ip e3];exact k.trans x y z h1 h2
   ·rw[iq e2]at h2;have:=h.lelt (x:=x) (y:=y) (z:=z) ow ow;rw[iq ow];omega
  ·rw[iq e1]at h1;by_cases e2:c y z=0
   ·have:=h.ltle (x:=x) (y:=y) (z:=z) ow ow;rw[iq ow];omega
   ·rw[iq e2]at h2;have:=h.ltle (x:=x) (y:=y) (z:=z) ow ow;rw[iq ow];omega
def ZB{β:Type}(c:β->β->Int):List β->List β->Int
 | [],[]=>0
 | [],_::_=> -1
 |_::_,[]=>1
 |x::xs,y::ys=>Vw (c x y) (ZB c xs ys)
theorem Tx{c:β->β->Int}(h:QC c):∀x y,ZB c x y<0↔0<ZB c y x
 | [],[]=>by simp[ZB]
 | [],_::_=>by simp[ZB]
 |_::_,[]=>by simp[ZB]
 |a::x,b::y=>by
  have h1:=h.anti a b;have d:=h.anti b a;have h3:=Tx h x y;simp only[ZB,Vw];split<;>split<;>omega
theorem Wj{c:β->β->Int}(h:QC c):∀x y z,ZB c x y<=0->ZB c y z<=0->ZB c x z<=0
 | [],_,[],_,_=>by simp[ZB]
 | [],_,_::_,_,_=>by simp[ZB]
 |_::_,[],_,h1,_=>by simp[ZB]at h1
 |_::_,_::_,[],_,e=>by simp[ZB]at e
 |a::x,b::y,d::z,h1,e=>by
  have f:=Wj h x y z;simp only[ZB,Vw]at *
  by_cases e1:c a b=0
  ·by_cases e2:c b d=0
   ·rw[ip e1]at h1;rw[ip e2]at e;have e3:c a d=0:=by
     have p:=h.trans a b d ow ow;have q:=h.trans d b a (by rw[h.eq0 e2];omega) (by rw[h.eq0 e1];omega);have:=h.anti d a;have:=h.anti a d;omega
    rw[ip e3];exact f h1 e
   ·rw[iq e2]at e;have:=h.lelt (x:=a) (y:=b) (z:=d) ow ow;rw[iq ow];omega
  ·rw[iq e1]at h1;by_cases e2:c b d=0
   ·have:=h.ltle (x:=a) (y:=b) (z:=d) ow ow;rw[iq ow];omega
   ·rw[iq e2]at e;have:=h.ltle (x:=a) (y:=b) (z:=d) ow ow;rw[iq ow];omega
def QC.list{c:β->β->Int}(h:QC c):QC (ZB c):=⟨Tx h,Wj h⟩
theorem Vx{c:β->β->Int}(h:∀x y,c x y=0->x=y):∀x y,ZB c x y=0->x=y
 | [],[],_=>rfl
 | [],_::_,e=>by simp[ZB]at e
 |_::_,[],e=>by simp[ZB]at e
 |a::x,b::y,e=>by
  simp only[ZB,Vw]at e;split at e
  ·rename_i q;rw[h _ _ q,Vx h x y e]
  ·exact absurd e (by assumption)
section
variable{β:Type}{c:β->β->Int}
def srt(c:β->β->Int)(l:List β):List β:=l.mergeSort λa b=> !(decide (c b a<0))
def tF(l:List β):(srt c l).Perm l:=List.mergeSort_perm _ _
def lv{l:List β}{x:β} :x∈srt c l↔x∈l:=(tF l).mem_iff
def pc(h:QC c)(l:List β):(srt c l).Pairwise λa b=>¬c b a<0:=by
 have:=List.pairwise_mergeSort (le:=λa b=> !(decide (c b a<0))) (λx y z h1 i=>by
  simp only[qF,yy]at *
  have e:=h.anti y x;have f:=h.anti z y;have g:=h.anti z x;have:=h.trans x y z ow ow;omega) (λx y=>by
  have:=h.anti x y;simp only[yS,qF,yy];omega) l
 exact this.imp λd=>by simpa using d
theorem bQ(h:QC c)(i:∀x y,c x y=0->x=y):∀{l m:List β},l.Perm m->l.Pairwise (λa b=>¬c b a<0)->m.Pairwise (λa b=>¬c b a<0)->l=m
 | [],m,d,_,_=>(cL.1 d).symm
 |x::l,[],d,_,_=>by cases List.perm_nil.1 d
 |x::l,y::m,d,h1,g=>by
  have j:x∈y::m:=d.mem_iff.1 (by simp);have k:y∈x::l:=d.mem_iff.2 (by simp);have e:x=y:=by
   rcases zt.1 j with q|q
   ·exact q
   ·rcases zt.1 k with f|f
    ·exact f.symm
    ·have n:=(qQ.1 h1).1 y f;have o:=(qQ.1 g).1 x q;have p:=h.anti x y;exact i _ _ (by have:=h.anti y x;omega)
  subst e;rw[bQ h i (List.perm_cons x |>.1 d) (qQ.1 h1).2 (qQ.1 g).2]
def Rb(h:QC c)(d:∀x y,c x y=0->x=y){l m:List β}(e:m.Perm l)(f:m.Pairwise λa b=>¬c b a<0):m=srt c l:=bQ h d (e.trans (tF l).symm) f (pc h l)
def Jp(h:QC c)(a:∀x y,c x y=0->x=y){l m:List β}(b:m.Perm l):srt c m=srt c l:=Rb h a ((tF m).trans b) (pc h m)
def uv(c:β->β->Int)(l:List β):Nat->List β
 |0=>[]
 |n+1=>match l[n]? with
  |none=>uv c l n
  |some x=>match n with
   |0=>[x]
   |k+1=>match l[k]? with
    |none=>uv c l (k+1)
    |some y=>if(c x y==0)=true then uv c l (k+1)else uv c l (k+1)++ [x]
def cpt(c:β->β->Int)(l:List β):List β:=uv c l l.length
def fH{l:List β}(h:0<l.length):uv c l 1= [l[0]]:=by simp[uv,h]
def pv{l:List β}(h:k+1<l.length):uv c l (k+2)=if(c l[k+1] l[k]==0)=true then uv c l (k+1)else uv c l (k+1)++ [l[k+1]]:=by
 have h1:l[k+1]? =some l[k+1]:=zE h;have a:l[k]? =some l[k]:=zE ow;rw[uv];simp only[h1,a]
def Qe{l:List β}{x y:β}(h1:l[k+1]? =some x)(a:l[k]? =some y):uv c l (k+2)=if(c x y==0)=true then uv c l (k+1)else uv c l (k+1)++ [x]:=by
 rw[uv];simp only[h1,a]
theorem lD{l:List β} :∀n,(uv c l n).length<=n
 |0=>zD _
 |1=>by
  rw[uv];split
  ·simp[uv]
  ·simp
 |k+2=>by
  have a:=lD (l:=l) (k+1);rw[uv];split
  ·omega
  ·simp only;split
   ·omega
   ·split
    ·omega
    ·rw[zM];simp only[zm,yw];omega
theorem Vg{l:List β}(h:0<l.length):∀n,n<=l.length->0<n->0<(uv c l n).length
 |1,_,_=>by rw[fH h];simp
 |k+2,a,_=>by
  rw[pv ow];have:=Vg h (k+1) ow ow;split
  ·exact this
  ·rw[zM];omega
theorem fI{l:List β} :∀n,∀x∈uv c l n,x∈l
 |0,x,h=>by cases h
 |n+1,x,h=>by
  rw[uv]at h;split at h
  ·exact fI n x h
  ·rename_i y e1;split at h
   ·cases zY.1 h;exact zh e1
   ·split at h
    ·exact fI _ x h
    ·split at h
     ·exact fI _ x h
     ·rcases yD.1 h with h|h
      ·exact fI _ x h
      ·cases zY.1 h;exact zh e1
theorem Ve(a:∀x y,c x y=0->x=y){l:List β} :∀n,n<=l.length->∀x,x∈l.take n->x∈uv c l n
 |0,_,x,h=>by simp at h
 |1,b,x,h=>by rw[fH ow];rw[km]at h;simp[s9,show 0<l.length by omega]at h;simp[h]
 |k+2,b,x,h=>by
  rw[pv ow];rw[zH ow]at h;rcases yD.1 h with h|h
  ·have:=Ve a (k+1) ow x h;split
   ·exact this
   ·exact qV _ this
  ·cases zY.1 h;split
   ·rename_i q;have d:c l[k+1] l[k]=0:=by simpa using q
    rw[a _ _ d];exact Ve a (k+1) ow _ (pB.2 ⟨k,by omega,rfl⟩)
   ·simp
def Qg(a:∀x y,c x y=0->x=y){l:List β}{x:β} :x∈cpt c l↔x∈l:=
 ⟨fI _ _,λh=>Ve a _ (zD _) x (by rw[zb];exact h)⟩
theorem P7(h:QC c){l:List β}(m:l.Pairwise λa b=>¬c b a<0):∀n,n<=l.length->(uv c l n).Pairwise (λa b=>c a b<0)/\(∀x∈uv c l n,∀k (s:k<n)(g:k<l.length),k+1=n->c x l[k]<=0)
 |0,_=>⟨List.Pairwise.nil,λx h=>by cases h⟩
 |1,u=>by
  rw[fH ow];refine⟨tD _ _,λx d k s g e=> ?_⟩;cases zY.1 d
  have:k=0:=ow;subst this;rw[h.refl];exact ke _
 |k+2,u=>by
  obtain⟨o,w⟩:=P7 h m (k+1) ow;have i:=λx d=>w x d k ow ow rfl;have t:¬c l[k+1] l[k]<0:=ua.1 m k (k+1) ow ow ow;have z:=h.anti l[k] l[k+1];have A:=h.anti l[k+1] l[k];rw[pv ow];split
  ·rename_i q;have p:c l[k+1] l[k]=0:=by simpa using q
   refine⟨o,λx d j r g e=> ?_⟩
   have:j=k+1:=ow;subst this;exact h.trans _ _ _ (i x d) (by rw[h.eq0 p];exact ke _)
  ·rename_i q;have p:c l[k+1] l[k]≠0:=by simpa using q
   have f:c l[k] l[k+1]<0:=ow;refine⟨wg.2 ⟨o,tD _ _,λx d y v=> ?_⟩,λx d j r g e=> ?_⟩
   ·cases zY.1 v;exact h.lelt (i x d) f
   ·have:j=k+1:=ow;subst this;rcases yD.1 d with d|d
    ·exact Int.le_of_lt (h.lelt (i x d) f)
    ·cases zY.1 d;rw[h.refl];exact ke _
def Qf(h:QC c){l:List β}(d:l.Pairwise λa b=>¬c b a<0):(cpt c l).Pairwise λa b=>c a b<0:=(P7 h d _ (zD _)).1
theorem mR(h:QC c):∀{l m:List β},l.Pairwise (λa b=>c a b<0)->m.Pairwise (λa b=>c a b<0)->(∀x,x∈l↔x∈m)->l=m
 | [],[],_,_,_=>rfl
 | [],y::m,_,_,d=>by have:=(d y).2 (by simp);cases this
 |x::l,[],_,_,d=>by have:=(d x).1 (by simp);cases this
 |x::l,y::m,h1,n,d=>by
  obtain⟨i,k⟩:=qQ.1 h1;obtain⟨j,b2⟩:=qQ.1 n;have e:x=y:=by
   rcases zt.1 ((d x).1 (by simp))with q|q
   ·exact q
   ·rcases zt.1 ((d y).2 (by simp))with g|g
    ·exact g.symm
    ·have:=i y g;have:=j x q;have:=h.anti x y;omega
  subst e;rw[mR h k b2 λz=>⟨λf=> ?_,λf=> ?_⟩]
  ·rcases zt.1 ((d z).1 (qI _ f))with q|q
   ·subst q;have:=i z f;rw[h.refl]at this;omega
   ·exact q
  ·rcases zt.1 ((d z).2 (qI _ f))with q|q
   ·subst q;have:=j z f;rw[h.refl]at this;omega
   ·exact q
end
def p5(l:List Trm):∀x∈wW l,x.length=2:=λx a=>by
 obtain⟨y,_,rfl⟩:=zT.1 a;rfl
def P6(a b:List UInt8):(nv a b==0)=(a==b):=by
 unfold nv;split
 ·rename_i h
  have:a≠b:=λe=>by subst e;rw[lg,zP]at h;exact absurd h (lP _)
  simp[this]
 ·split
  ·rename_i h;simp[h]
  ·rename_i h;simp[h]
def kI(x y:Trm):(yI x y==0)=(x.a==y.a&&x.b==y.b):=by
 unfold yI orL;have h1:=P6 x.a y.a;have c:=P6 x.b y.b;split
 ·rename_i h;rw[h]at h1;rw[<-h1,<-c];simp only[orL];split
  ·rename_i q;rw[q];rfl
  ·simp
 ·rename_i h;rw[<-h1];simp[h]
def Hc(l m:List Trm):(wW (l++m)).flatten=(wW l).flatten++(wW m).flatten:=by simp[wW]
theorem MI{l:List Trm}(h0:l≠[])(hl:l.length<=1048576)(L:g.at' id=some (.row (wW l).flatten)):
  zB prog 270 [.rs id 2 0 l.length] g λr h'=>r=.rs id 2 0 (cpt yI l).length/\∃rest,h'=g.set id (.row ((wW (cpt yI l)).flatten++rest)):=by
 have a8:=λ(h:Heap)=>lz (P:=prog) (t:=108) (sz:=2) (id:=id) (off:=0) (len:=l.length) (h:=h) underlying108;have A:0<l.length:=yF.2 h0;have a4:∀x:Trm,([.str x.a,.str x.b]:List D).all D.flat=true:=λx=>rfl;have f:∀n,n<=l.length->(∀i (h:i+1<l.length),i+1<n->(yI l[i+1] l[i]==0)=false)->uv yI l n=l.take n:=λn hn hh=>by
  induction n with
  |zero=>rfl
  |succ n ih=>
   cases n with
   |zero=>rw[fH A,km];simp[s9,A]
   |succ k=>
    rw[pv ow,iq (by rw[hh k ow ow];exact zf),ih ow λi h1 N=>hh i h1 ow];exact(zH ow).symm
 refine xP λQ W=> ?_;have d:(∀i (h:i+1<l.length),i+1<l.length->(yI l[i+1] l[i]==0)=false)->Q (.rs id 2 0 l.length) g:=λhh=>W _ _ (by
  have e:cpt yI l=l:=by
   have:=f l.length (zD _) hh;rw[zb]at this;exact this
  rw[e];exact⟨rfl,[],by rw[zp,nh L]⟩)
 refine z5 zHf ?_;simp only[f270,zA];cases q1:decide ((l.length:Int)<2)with
 |true=>
  have hd:=d λi h1 N=>by have:=zg q1;omega
  clear d W;simp only[go_sem, *]
 |false=>
 simp only[go_sem, *];refine qx (λi fr h=>fr 0=.rs id 2 0 l.length/\fr 3=.int .i64 ((i+1:Nat):Int)/\h=g/\i+1<=l.length/\∀j (h:j+1<l.length),j+1<i+1->(yI l[j+1] l[j]==0)=false) l.length ?_ ?_
 ·simp only[go_sem,zQ,zS,zF];exact⟨rfl,A,λj h1 N=>by omega⟩
 rintro i fr h hi ⟨f0,f3,rfl,ab,U⟩;by_cases I:i+1<l.length
 ·have e1:decide (((i+1:Nat):Int)<(l.length:Int))=true:=zN ow;have ew:IntKind.i64.wrap (((i+1:Nat):Int)+1)=((i+2:Nat):Int):=qT (by unfold lim;omega);have V:IntKind.i64.wrap (((i+1:Nat):Int)-1)=((i:Nat):Int):=by rw[qE ow ow];omega
  have a1:=wE (P:=prog) (sz:=2) (id:=id) uO uo (k:=.i64) I;have a2:=wE (P:=prog) (sz:=2) (id:=id) uO uo (k:=.i64) (show i<l.length by omega);have p1:=mB (p5 l) ow (Z7 I);have p2:=mB (p5 l) ow (Z7 (show i<l.length by omega));have T:=Rj l[i+1] l[i];have w:=kI l[i+1] l[i];rw[<-w]at T;clear w;simp only[Trm.cells]at p1 p2;cases v:(yI l[i+1] l[i]==0)with
  |false=>
   rw[v]at T;have hn:∀j (h:j+1<l.length),j+1<i+2->(yI l[j+1] l[j]==0)=false:=λj h1 N=>by
    by_cases e:j=i
    ·subst e;exact v
    ·exact U j h1 ow
   clear U d f q1 h0 v;simp only[go_sem, *];refine zd kr ?_;simp only[go_sem, *];exact⟨by omega,I,hn⟩
  |true=>
   rw[v]at T;have G:uv yI l (i+2)=l.take (i+1):=by
    rw[pv I,ip v,f (i+1) ow λj h1 N=>U j h1 N]
   have ak:=ph (P:=prog) (t:=108) (sz:=2) (id:=id) (h:=h) cN uO uo (k:=.i64) ab;clear U d f q1 h0 v;simp only[go_sem, *];refine zd kr ?_;simp only[go_sem, *];refine qx (λm fr h'=>fr 0=.rs id 2 0 l.length/\fr 4=.rs id 2 ((i+1)*2) (l.length- (i+1))/\fr 5=.int .i64 ((m+1:Nat):Int)/\i+1+(m+1)<=l.length/\∃ys:List Trm,ys.length=l.length/\h'=h.set id (.row (wW ys).flatten)/\
    (uv yI l (i+2+m)).length<=i+1+m/\fr 3=.int .i64 (((uv yI l (i+2+m)).length:Nat):Int)/\ys.take (uv yI l (i+2+m)).length=uv yI l (i+2+m)/\ys.drop (i+1+m)=l.drop (i+1+m)) l.length ?_ ?_
   ·have E:(uv yI l (i+2)).length=i+1:=by rw[G,z7];omega
    have F:uv yI l (i+2+0)=uv yI l (i+2):=rfl;have B:i+1+(0+1)<=l.length/\∃ys:List Trm,ys.length=l.length/\h=h.set id (.row (wW ys).flatten)/\
     (uv yI l (i+2+0)).length<=i+1+0/\D.int .i64 ((i+1:Nat):Int)=.int .i64 (((uv yI l (i+2+0)).length:Nat):Int)/\ys.take (uv yI l (i+2+0)).length=uv yI l (i+2+0)/\ys.drop (i+1+0)=l.drop (i+1+0):=
     ⟨by omega,l,rfl,(nh L).symm,by rw[F,E];omega,by rw[F,E],by rw[F,E,G],rfl⟩
    clear E F G;simp only[go_sem,zQ,zS,zF];obtain⟨r0,ys,r1,r2,r3,r4,r5,r6⟩:=B;exact⟨f0,rfl,r0,ys,r1,r2,r3,f3.trans r4,r5,r6⟩
   clear G ak T p1 p2 a1 a2 f0 f3 e1 ew V;rintro m ba N hm ⟨f0,f4,f5,bb,ys,J,rfl,S,f3,q,p⟩;have C:(h.set id (.row (wW ys).flatten)).at' id=some (.row (wW ys).flatten):=zi _ _ _;have a5:=λ(H:Heap)=>lz (P:=prog) (t:=108) (sz:=2) (id:=id) (off:=(i+1)*2) (len:=l.length- (i+1)) (h:=H) underlying108;by_cases ad:m+1<l.length- (i+1)
   ·have e1:decide (((m+1:Nat):Int)<((l.length- (i+1):Nat):Int))=true:=zN ow;have ew:IntKind.i64.wrap (((m+1:Nat):Int)+1)=((m+2:Nat):Int):=qT (by unfold lim;omega);have V:IntKind.i64.wrap (((m+1:Nat):Int)-1)=((m:Nat):Int):=by rw[qE ow ow];omega
    have a1:=sy (P:=prog) (sz:=2) (id:=id) (off:=(i+1)*2) uO uo (k:=.i64) ad;have a2:=sy (P:=prog) (sz:=2) (id:=id) (off:=(i+1)*2) uO uo (k:=.i64) (show m<l.length- (i+1) by omega);obtain⟨x,hx⟩:∃x,l[i+1+m+1]? =some x:=⟨_,zE ow⟩;obtain⟨y,hy⟩:∃y,l[i+1+m]? =some y:=⟨_,zE ow⟩;have g1:ys[i+1+(m+1)]? =some x:=by
     have:=congrArg (λz=>z[1]?) p;simp only[yh]at this;rw[show i+1+(m+1)=i+1+m+1 by omega,this,hx]
    have g2:ys[i+1+m]? =some y:=by
     have:=congrArg (λz=>z[0]?) p;simp only[yh,wl]at this;rw[this,hy]
    have cg:∀(k:Nat)(x:Trm),ys[k]? =some x->(wW ys)[k]? =some x.cells:=λk x e=>by simp[wW,e]
    have p1:=jY (p5 ys) ow (cg _ _ g1);have p2:=jY (p5 ys) ow (cg _ _ g2);have o:uv yI l (i+2+(m+1))=if(yI x y==0)=true then uv yI l (i+2+m)else uv yI l (i+2+m)++ [x]:=by
     have:=Qe (c:=yI) hx hy;rw[show i+2+(m+1)=i+1+m+2 by omega,this,show i+2+m=i+1+m+1 by omega]
    have u:∀zs:List Trm,zs.drop (i+1+m)=l.drop (i+1+m)->zs.drop (i+1+(m+1))=l.drop (i+1+(m+1)):=λzs e=>by
     have:=congrArg (List.drop 1) e;simpa [tI,wB]using this
    generalize hR:uv yI l (i+2+m)=R at *
    have T:=Rj x y;have w:=kI x y;rw[<-w]at T;have ai:∀c,fV prog .neq 112 c (.agg [.str x.a,.str x.b]) (.agg [.str y.a,.str y.b])=some (.bool (!(yI x y==0))):=λc=>by
     have he:eqT prog 112=some [.s,.s]:=kr;rw[w];simp only[fV,he,LD,eqK,qo,qd,oA]
    clear w T;simp only[Trm.cells]at p1 p2;cases v:(yI x y==0)with
    |true=>
     rw[v]at ai;rw[ip v]at o;have B:m<l.length/\i+1+(m+1+1)<=l.length/\∃zs:List Trm,zs.length=l.length/\h.set id (.row (wW ys).flatten)=h.set id (.row (wW zs).flatten)/\
      (uv yI l (i+2+(m+1))).length<=i+1+(m+1)/\D.int .i64 ((R.length:Nat):Int)=.int .i64 (((uv yI l (i+2+(m+1))).length:Nat):Int)/\zs.take (uv yI l (i+2+(m+1))).length=uv yI l (i+2+(m+1))/\zs.drop (i+1+(m+1))=l.drop (i+1+(m+1)):=
      ⟨by omega,by omega,ys,J,rfl,by rw[o];omega,by rw[o],by rw[o];exact q,u _ p⟩
     clear q p u o g1 g2 cg hx hy hR S v;simp only[go_sem, *];refine zd kr ?_;simp only[go_sem, *]
    |false=>
     rw[v]at ai;rw[iq (by rw[v];exact zf)]at o;have X:R.length<l.length:=ow;have a3:=wE (P:=prog) (sz:=2) (id:=id) uO uo (k:=.i64) X;have a6:=Xs (P:=prog) (t:=112) C (p5 ys) ow uo (i:=R.length) (by rw[uU,J];exact X) (x:=[.str x.a,.str x.b]) rfl rfl;have M:(wW ys).set R.length [.str x.a,.str x.b]=wW (ys.set R.length x):=by
      have:([.str x.a,.str x.b]:List D)=x.cells:=rfl;rw[this,wW,wW,mr]
     rw[M,jP]at a6;have a9:IntKind.i64.wrap (((R.length:Nat):Int)+1)=((R.length+1:Nat):Int):=qT (by unfold lim;omega);have B:m<l.length/\i+1+(m+1+1)<=l.length/\∃zs:List Trm,zs.length=l.length/\h.set id (.row (wW (ys.set R.length x)).flatten)=h.set id (.row (wW zs).flatten)/\
      (uv yI l (i+2+(m+1))).length<=i+1+(m+1)/\D.int .i64 ((R.length+1:Nat):Int)=.int .i64 (((uv yI l (i+2+(m+1))).length:Nat):Int)/\zs.take (uv yI l (i+2+(m+1))).length=uv yI l (i+2+(m+1))/\zs.drop (i+1+(m+1))=l.drop (i+1+(m+1)):=by
      have O:(R++ [x]).length=R.length+1:=by simp
      refine⟨by omega,by omega,ys.set R.length x,by simpa using J,rfl,by rw[o,O];omega,by rw[o,O],?_,?_⟩
      ·rw[o,O,zH (by rw[rK];omega),om,mG (zD _),q]
      ·rw[mF ow];exact u _ p
     clear q p u o g1 g2 cg hx hy hR S v M;simp only[go_sem, *];refine zd kr ?_;exact au
   ·have e1:decide (((m+1:Nat):Int)<((l.length- (i+1):Nat):Int))=false:=zO ow;have ag:i+2+m=l.length:=ow;have Y:uv yI l (i+2+m)=cpt yI l:=by rw[ag];rfl
    rw[Y]at q f3 S;have K:(cpt yI l).length<=l.length:=lD _;have ak:=λ(H:Heap)=>ph (P:=prog) (t:=108) (sz:=2) (id:=id) (h:=H) cN uO uo (k:=.i64) K;have bd:=λ(H:Heap)=>nB (P:=prog) (t:=108) (h:=H) cN uO (id:=id) (sz:=2) uo (k:=.i64) K;obtain⟨rest,Z⟩:=Xo (P:=prog) (sz:=2) (t:=108) uO so rfl rfl C (p5 ys) (n:=(cpt yI l).length) (by rw[uU];omega);have a0:(wW ys).take (cpt yI l).length=wW (cpt yI l):=by rw[wW,<-nW,q];rfl
    rw[a0,jP,uU,J]at Z;have a7:=W (.rs id 2 0 (cpt yI l).length) (h.set id (.row ((wW (cpt yI l)).flatten++rest))) ⟨rfl,rest,rfl⟩;clear q p ag Y a0 W;exact au
 ·have e1:decide (((i+1:Nat):Int)<(l.length:Int))=false:=zO ow;have hd:=d λj h1 N=>U j h1 ow;clear U d f q1 h0 W;exact au
def It(l:List Trm)(n:Nat):below n (.sl 2 (wW l) .no):=qw (yg _) _ (qg (sz:=2) (xs:=wW l) (λx a=>by
 obtain⟨y,_,rfl⟩:=zT.1 a;exact⟨rfl,by simp[Trm.cells,qZ,below],rfl⟩) .no).2
def aB{cs rest:List D}(a:∀x∈xs,x.length=sz)(c:xs.length=n)(b:cs=xs.flatten++rest):frz id cs (.rs id sz 0 n)=.sl sz xs .no:=by
 subst b c;simp only[frz];rw[ip ⟨trivial,by rw[zM,tE a];omega⟩,uX,uy (by rw[tE a];omega),yj (by rw[tE a];omega),mL a]
def Qj(h:Heap)(i:Nat)(o:Obj):(h.set i o).del i=h.del i:=by
 unfold Heap.set Heap.del;simp only[Heap.mk.injEq,zQ]
 funext j
 by_cases e:j=i<;>simp[e]
def QI{l:List Trm}(h0:l≠[])(b:l.length<=1048576)(a:g.at' id=some (.row (wW l).flatten)):
  zB prog 270 [.rs id 2 0 l.length] g λr h'=>h'=g.del id/\r=.sl 2 (wW (cpt yI l)) .no:=
 zB.freezeD ((MI h0 b a).mono (by
  rintro r h' ⟨rfl,rest,rfl⟩;exact⟨id,_,zi _ _ _,by rw[Qj],aB (p5 _) (uU _) rfl⟩))
def Ln{l:List Trm}(c:ye 2 (wW l) d)(h0:l≠[])(i:l.length<=1048576)(h:Heap):
  zB prog 91 [d] h λr h'=>r=.rs h.next 2 0 l.length/\h'=h.new h.next (.row (wW l).flatten):=by
 rcases c with⟨rfl,f⟩ | ⟨tk,rfl⟩
 ·exact absurd (qU.1 f) h0
 have b:0<l.length:=yF.2 h0;have e:fV prog .eql 108 true (.sl 2 (wW l) tk) .nilsl=some (.bool false):=by rw[jV (ye.mk tk) underlying108];rfl
 have g:=λnid h=>nN (P:=prog) (nid:=nid) (h:=h) uO so uo rfl rfl (by omega:0<2);have a:qh prog true h.next 108 (.sl 2 [] .full) (.sl 2 (wW l) tk) h=some (.rs h.next 2 0 l.length,h.new h.next (.row (wW l).flatten)):=by
  rw[bV uO Us uo ow (p5 l) (by rw[fE,uU];unfold lim;omega) (by rw[uU];unfold lim;omega),uU,iq ow,ng underlying112]
 refine z5 zJX ?_;simp only[f91,zA];simp only[sY,go_sem,e,g,a]
def JV:QC nv where
 anti x y:=by
  unfold nv;rw[lg,lg];rcases Std.lt_trichotomy x y with h|h|h
  ·have:=List.lt_asymm h;have n:¬x=y:=λe=>by subst e;exact this h
   simp[h,this,n,j7 n]
  ·subst h;simp[lP]
  ·have:=List.lt_asymm h;have n:¬x=y:=λe=>by subst e;exact this h
   simp[h,this,n,j7 n]
 trans x y z h1 h2:=by
  unfold nv at *
  rw[lg]at *
  have le1:x<y\/x=y:=by
   split at h1
   ·rename_i q;exact .inl (by simpa using q)
   ·split at h1
    ·rename_i q;exact .inr (by simpa using q)
    ·omega
  have le2:y<z\/y=z:=by
   split at h2
   ·rename_i q;exact .inl (by simpa using q)
   ·split at h2
    ·rename_i q;exact .inr (by simpa using q)
    ·omega
  have le3:x<z\/x=z:=by
   rcases le1 with a|rfl
   ·rcases le2 with b|rfl
    ·exact .inl (List.lt_trans a b)
    ·exact .inl a
   ·exact le2
  rcases le3 with a|rfl
  ·simp[a]
  ·simp[lP]
def kJ(x y:Trm):yI x y=Vw (nv x.a y.a) (nv x.b y.b):=by
 unfold yI Vw;simp only[orL];split
 ·split
  ·rename_i q;exact q.symm
  ·rfl
 ·rfl
def sI:QC yI:=by
 have:=(JV.key Trm.a).lex (JV.key Trm.b);exact⟨λx y=>by rw[kJ,kJ];exact this.anti x y,λx y z=>by rw[kJ,kJ,kJ];exact this.trans x y z⟩
def mO(x y:Trm)(h:yI x y=0):x=y:=by
 have:=kI x y;rw[h]at this
 have:(x.a==y.a&&x.b==y.b)=true:=this.symm;cases x;cases y;simp only[zC,yU]at this;obtain⟨rfl,rfl⟩:=this;rfl
end Go.V
