/- Contracts of functions that the law reaches, part 1. No condition. -/
import Derived.Test.YtmkfpfodpehkoaaGreatDoorW30
set_option linter.all false
set_option maxHeartbeats 8000000
namespace Go.V
open Go.Proofs.Tryz
open Go.Proofs
set_option maxRecDepth 100000
inductive Ex where
 |mk:Int->List UInt8->List UInt8->List Ex->D->Ex
def Ex.kind:Ex->Int
 |.mk k _ _ _ _=>k
def Ex.name:Ex->List UInt8
 |.mk _ n _ _ _=>n
def Ex.exc:Ex->List UInt8
 |.mk _ _ x _ _=>x
def Ex.kids:Ex->List Ex
 |.mk _ _ _ l _=>l
def Ex.d:Ex->D
 |.mk _ _ _ _ d=>d
def Ex.cells(e:Ex):List D:=[.int .i64 e.kind,.str e.name,.str e.exc,e.d]
def exs(l:List Ex):List (List D):=l.map Ex.cells
def Mc(l:List Ex):(exs l).length=l.length:=zI ..
variable{i j id:Nat}{d x:D}{S:Nat->Prop}{g:Heap}{s:List UInt8}{c:Cat}
def D2{l:List Ex}(h:i<l.length):(exs l)[i]? =some l[i].cells:=by simp[exs,h]
mutual
def Ex.size:Ex->Nat
 |.mk _ _ _ l _=>yt l+1
def yt:List Ex->Nat
 | []=>0
 |e::l=>e.size+yt l
end
mutual
def Ex.depth:Ex->Nat
 |.mk _ _ _ l _=>sO l+1
def sO:List Ex->Nat
 | []=>0
 |e::l=>max e.depth (sO l)
end
mutual
def Ex.Ok:Ex->Prop
 |.mk _ n x l d=>ye 4 (exs l) d/\l.length<=1048576/\n.length<=1048576/\x.length<=1048576/\okL l
def okL:List Ex->Prop
 | []=>True
 |e::l=>e.Ok/\okL l
end
theorem pS:∀{l:List Ex},okL l->∀e∈l,e.Ok
 |e::l,h,x,a=>by
  simp only[okL]at h;rcases zt.1 a with rfl|a
  ·exact h.1
  ·exact pS h.2 x a
theorem uP:∀{l:List Ex}{e:Ex},e∈l->e.size<=yt l
 |x::l,e,h=>by
  simp only[yt];rcases zt.1 h with rfl|h
  ·omega
  ·have:=uP h;omega
def P8:∀n:Nat,(∀e:Ex,e.size<=n->e.depth<=e.size)/\∀l:List Ex,yt l<=n->sO l<=yt l:=by
 intro n
 induction n with
 |zero=>
  refine⟨λe h=> ?_,λl h=> ?_⟩
  ·cases e;simp only[Ex.size]at h;omega
  ·cases l with
   |nil=>simp[sO]
   |cons e l=>cases e;simp only[yt,Ex.size]at h;omega
 |succ n b=>
  have key:∀e:Ex,e.size<=n+1->e.depth<=e.size:=λe h=>by
   obtain⟨_,_,_,l,_⟩:=e;simp only[Ex.size,Ex.depth]at h⊢;have:=b.2 l ow;omega
  refine⟨key,λl h=> ?_⟩
  induction l with
  |nil=>simp[sO]
  |cons e l a=>
   simp only[yt,sO]at h⊢;have h1:=key e ow;have c:=a ow;omega
theorem dh(e:Ex):∀l:List Ex,sO (l++ [e])=max (sO l) e.depth
 | []=>by simp[sO]
 |x::l=>by
  have:=dh e l;simp only[z9,sO,this];omega
def pR{l:List Ex}(a:ye 4 (exs l) d)(h:Heap):js prog 52 d h=some (.int .i64 l.length):=by rw[uV a underlying52,Mc]
def kG{l:List Ex}(a:ye 4 (exs l) d)(b:i<l.length):yP prog 52 d (.int .i64 (i:Int))=some (.iptr l[i].cells 0):=qA a HX Jx (D2 b)
def zEl(a b:Nat):GW (.int .i64 (a:Int)) (.int .i64 (b:Int))=some (.int .i64 ((max a b:Nat):Int)):=by
 simp only[GW,qG];by_cases q:(b:Int)>a
 ·rw[ip q,Nat.max_eq_right ow]
 ·rw[iq q,Nat.max_eq_left ow]
abbrev zEx:List D:=[.int .i64 0,.str [],.str [],.nilsl]
def Jq(x:Ex)(hf:x.d.flat=true)(h:Heap)(id:Nat):qP prog 54 (.ptr id 0) (.agg [.int .i64 x.kind,.str x.name,.str x.exc,x.d]) (h.new id (.row zEx))=some (h.new id (.row [.int .i64 x.kind,.str x.name,.str x.exc,x.d])):=qk Jx ow rfl rfl (by show(true&&(true&&(true&&(x.d.flat&&true))))=true;rw[hf];rfl)
def Ex.flat{x:Ex}(h:x.Ok):x.d.flat=true:=by
 cases x;simp only[Ex.Ok]at h;exact nH h.1
def DJ:∀(n:Nat){e:Ex},e.size<=n->e.Ok->e.size<=1048576->∀g:Heap,zB prog 261 [.agg e.cells] g λr h'=>h'=g/\r=.int .i64 (e.depth:Int):=by
 intro n
 induction n with
 |zero=>intro e h;cases e;simp only[Ex.size]at h;omega
 |succ n J=>
 intro e H c p g;refine xU kr λM=> ?_;obtain⟨k,K,x,l,d⟩:=e;simp only[Ex.size,Ex.Ok]at H c p;obtain⟨u,N,_,_,b⟩:=c;have v:=pR u;have G:=(P8 (yt l)).2 l (zD _);have t:∀k:Int,below g.next (.int .i64 k):=λk=>trivial;have m:=Ext.refl g;have E:(Ex.mk k K x l d).depth=sO l+1:=by simp only[Ex.depth]
 rw[E];refine z5 zDe ?_;simp only[f261,zA];simp only[Ex.cells,Ex.kind,Ex.name,Ex.exc,Ex.d]
 repeat' first|simp only[go_sem, *]|apply bc<;>intro F
 refine zV (λi fr h=>fr 7=d/\fr 8=.int .i64 (l.length:Int)/\fr 9=.int .i64 (i:Int)/\fr 3=.int .i64 ((sO (l.take i):Nat):Int)/\Ext g h) l.length ow ?_ ?_ ?_
 ·simp only[go_sem,zQ,zS,zF];exact⟨rfl,m⟩
 ·rintro i fr h a z L ⟨A,B,C,s,j⟩;have y:=kG u a;have f:l[i]∈l:=zG a;have w:=J (e:=l[i]) (by have:=uP f;omega) (pS b _ f) (by have:=uP f;omega);have I:=Jq l[i] (Ex.flat (pS b _ f)) h h.next;have D:=j.new j.1 (.row [.int .i64 l[i].kind,.str l[i].name,.str l[i].exc,l[i].d]);have o:=zEl (sO (l.take i)) l[i].depth;have q:sO (l.take (i+1))=max (sO (l.take i)) l[i].depth:=by rw[zH a,dh]
  rw[<-q]at o;simp only[Ex.cells]at y w
  repeat' first|simp only[go_sem,yQ, *]|apply bc<;>intro F|refine zB.use (w _) ?_
 ·rintro fr h z ⟨A,B,C,s,j⟩;rw[zb]at s;have O:IntKind.i64.wrap ((sO l:Int)+1)=((sO l+1:Nat):Int):=qT (by unfold lim;omega);exact au
mutual
def Ex.pre:Ex->List Ex
 |.mk k n x l d=>.mk k n x l d::ju l
def ju:List Ex->List Ex
 | []=>[]
 |e::l=>e.pre++ju l
end
def zH5:∀n:Nat,(∀e:Ex,e.size<=n->e.pre.length=e.size)/\∀l:List Ex,yt l<=n->(ju l).length=yt l:=by
 intro n
 induction n with
 |zero=>
  refine⟨λe h=> ?_,λl h=> ?_⟩
  ·cases e;simp only[Ex.size]at h;omega
  ·cases l with
   |nil=>simp[ju,yt]
   |cons e l=>cases e;simp only[yt,Ex.size]at h;omega
 |succ n b=>
  have key:∀e:Ex,e.size<=n+1->e.pre.length=e.size:=λe h=>by
   obtain⟨_,_,_,l,_⟩:=e;simp only[Ex.size,Ex.pre,zm]at h⊢;rw[b.2 l ow]
  refine⟨key,λl h=> ?_⟩
  induction l with
  |nil=>simp[ju,yt]
  |cons e l a=>
   simp only[yt,ju,zM]at h⊢;rw[key e ow,a ow]
def Ex.pre_len(e:Ex):e.pre.length=e.size:=(V.zH5 e.size).1 e (zD _)
def Nc(l:List Ex):(ju l).length=yt l:=(V.zH5 (yt l)).2 l (zD _)
theorem Z0:∀l m:List Ex,ju (l++m)=ju l++ju m
 | [],m=>by simp[ju]
 |e::l,m=>by simp[ju,Z0 l m]
theorem gh:∀l m:List Ex,yt (l++m)=yt l+yt m
 | [],m=>by simp[yt]
 |e::l,m=>by simp[yt,gh l m];omega
def JR{l:List Ex}(c:i<l.length){x:Ex}(a:l[i].pre[j]? =some x):(ju l)[yt (l.take i)+j]? =some x:=by
 have h1:l=l.take i++(l[i]::l.drop (i+1)):=by rw[<-z6 c,yp]
 have d:j<l[i].pre.length:=(zR.1 a).1;have b:ju l=ju (l.take i)++(l[i].pre++ju (l.drop (i+1))):=by
  have:=congrArg ju h1;rw[Z0]at this;exact this
 rw[b,yf (by rw[Nc];omega),Nc,show yt (l.take i)+j-yt (l.take i)=j by omega,yk d,a]
def W6{l:List Ex}(a:i<l.length):yt (l.take (i+1))=yt (l.take i)+l[i].size:=by
 rw[zH a,gh];simp[yt]
def zEw(Y:Nat->(Nat->Prop)->Heap->Prop)(Z:(Nat->Prop)->Heap->Prop)(S:Nat->Prop)(g:Heap)(k:Nat)(r:D)(h':Heap):Prop:=
 ∃S',(∀i,S' i->S i\/g.next<=i)/\But S g h'/\((r=.bool true/\Y k S' h')\/(r=.bool false/\Z S' h'))
abbrev oU(v:Nat):D:=.fn (.func 263) [] [.ptr v 0]
def Dq{id len:Nat}{el:Nat->List D}{Y:Nat->(Nat->Prop)->Heap->Prop}{Z:(Nat->Prop)->Heap->Prop}(y:Yld prog id len el Y Z):∀(n:Nat){e:Ex},e.size<=n->e.Ok->∀{k:Nat}{S:Nat->Prop}{g:Heap}{v:Nat},k+e.size<=len->(∀j x,e.pre[j]? =some x->el (k+j)= [.agg x.cells])->
  Y k S g->v<g.next->¬S v->g.at' v=some (.row [oU v])->
  zB prog 263 [.agg e.cells,.yld id,.ptr v 0] g (zEw Y Z S g (k+e.size)):=by
 intro n
 induction n with
 |zero=>intro e h;cases e;simp only[Ex.size]at h;omega
 |succ n ih=>
 intro e hn f k S g v hk J hY hv F L;have t:=J 0 e (by cases e;simp[Ex.pre]);rw[wl]at t;obtain⟨kd,nm,x,l,d⟩:=e;simp only[Ex.size,Ex.Ok]at hn f hk;obtain⟨hd,hl,_,_,ab⟩:=f;have K:∀j x,(ju l)[j]? =some x->el (k+1+j)= [.agg x.cells]:=λj x hx=>by
  have:=J (j+1) x (by simp only[Ex.pre,tC];exact hx);rw[<-this];congr 1;omega
 have ak:=pR hd;have ag:(Ex.mk kd nm x l d).size=yt l+1:=by simp only[Ex.size]
 rw[ag];have B:=y.go k S g ow hY;rw[t]at B;simp only[Ex.cells,Ex.kind,Ex.name,Ex.exc,Ex.d]at B;refine z5 zDg ?_;simp only[f263,zA];simp only[Ex.cells,Ex.kind,Ex.name,Ex.exc,Ex.d];simp only[go_sem, *];refine B.mono ?_;rintro r h ⟨S1,m,p,hr⟩;rcases hr with⟨rfl,A⟩ | ⟨rfl,V⟩
 rotate_left
 ·have u:zEw Y Z S g (k+(yt l+1)) (.bool false) h:=⟨S1,m,p,.inr ⟨rfl,V⟩⟩;exact au
 simp only[go_sem, *];refine zV (λi fr h'=>fr 1=.yld id/\fr 2=.ptr v 0/\fr 13=d/\fr 14=.int .i64 (l.length:Int)/\fr 15=.int .i64 (i:Int)/\∃S',(∀j,S' j->S j\/g.next<=j)/\But S g h'/\Y (k+1+yt (l.take i)) S' h') l.length ow ?_ ?_ ?_
 ·simp only[go_sem,zQ,zS,zF];exact⟨S1,m,p,A⟩
 ·clear m p A;rintro i fr h s ec ew ⟨f1,f2,O,P,Q,M,b,a,o⟩;have a1:=kG hd s;have hm:l[i]∈l:=zG s;have f:=pS ab _ hm;have a2:=uP hm;have C:h.at' v=some (.row [oU v]):=by rw[a.2 v hv F];exact L
  have a3:v<h.next:=zy hv a.1;have ad:=Jq l[i] (Ex.flat f) h h.next;obtain⟨H,hH,z,r1,r2,a0⟩:∃H,h.new h.next (.row [.int .i64 l[i].kind,.str l[i].name,.str l[i].exc,l[i].d])=H/\Ext h H/\H.at' h.next=some (.row [.int .i64 l[i].kind,.str l[i].name,.str l[i].exc,l[i].d])/\H.at' v=some (.row [oU v])/\h.next<H.next:=⟨_,rfl,(Ext.refl h).new (zD _) _,yQ _ _ _,by rw[zz ow];exact C,by rw[yA];omega⟩;rw[hH]at ad;have E:=W6 s;have ai:yt (l.take i)+l[i].size<=yt l:=by
   have h1:l=l.take (i+1)++l.drop (i+1):=(yp _ _).symm;have h2:=congrArg yt h1;rw[gh,E]at h2;omega
  have G:¬M v:=λq=>(b v q).elim F ow;have c:=ih (e:=l[i]) ow f (k:=k+1+yt (l.take i)) (S:=M) (g:=H) (v:=v) ow (λj x hx=>by
   have:=K _ x (JR s hx);rw[<-this];congr 1;omega) (y.ext o z) ow G r2
  simp only[Ex.cells]at a1 c;simp only[go_sem, *];refine c.mono ?_;rintro r h3 ⟨N,R,X,hr⟩;have w:∀j,N j->S j\/g.next<=j:=λj hj=>by
   rcases R j hj with q|q
   ·exact b j q
   ·exact .inr (by have:=a.1;have:=z.1;omega)
  have I:But S g h3:=(a.trans (z.but S) λi hi=>.inl hi).trans X b;rcases hr with⟨rfl,T⟩ | ⟨rfl,W⟩
  ·have U:Y (k+1+yt (l.take (i+1))) N h3:=by rw[E,<-wB];exact T
   simp only[go_sem, *];rw[<-E];exact⟨N,w,U⟩
  ·have u:zEw Y Z S g (k+(yt l+1)) (.bool false) h3:=⟨N,w,I,.inr ⟨rfl,W⟩⟩;exact au
 ·clear m p A;rintro fr h ec ⟨f1,f2,O,P,Q,M,b,a,o⟩;rw[zb]at o;have u:zEw Y Z S g (k+(yt l+1)) (.bool true) h:=⟨M,b,a,.inl ⟨rfl,by rw[show k+(yt l+1)=k+1+yt l by omega];exact o⟩⟩;exact au
abbrev Cu(v:Nat)(e:Ex):D:=.fn (.func 264) [] [.ptr v 0,.iptr e.cells 0]
def QO(e:Ex)(g:Heap):zB prog 187 [.agg e.cells] g λr h'=>r=Cu g.next e/\h'=g.new g.next (.row [oU g.next]):=by
 have a:∀(t:TypeId)(nid:Nat)(h:Heap),YC t nid h (some .nilfn)=some (.ptr nid 0,h.new nid (.row [.nilfn])):=λ_ _ _=>rfl;have b:qP prog 298 (.ptr g.next 0) (oU g.next) (g.new g.next (.row [.nilfn]))=some (g.new g.next (.row [oU g.next])):=qk BT ow rfl rfl rfl;refine z5 zDP ?_;simp only[f187,zA];simp only[Ex.cells];simp only[go_sem, *];rfl
variable{e:Ex}
def Vc{el:Nat->List D}{Y:Nat->(Nat->Prop)->Heap->Prop}{Z:(Nat->Prop)->Heap->Prop}(y:Yld prog id e.size el Y Z)(f:e.Ok){v:Nat}(d:∀j x,e.pre[j]? =some x->el j= [.agg x.cells])
  (n:Y 0 S g) (o:v<g.next) (c:¬S v) (b:g.at' v=some (.row [oU v])):
  zB prog 264 [.yld id,.ptr v 0,.iptr e.cells 0] g λ_ h'=>∃S',(∀i,S' i->S i\/g.next<=i)/\But S g h'/\(Y e.size S' h'\/Z S' h'):=by
 have a:=Dq y e.size (zD _) f (k:=0) ow (λj x p=>by rw[yo];exact d j x p) n o c b;refine z5 zDh ?_;simp only[f264,zA];simp only[Ex.cells]at a⊢;simp only[go_sem, *];refine a.mono ?_;rintro r h ⟨S',h1,l,h3⟩;rw[yo]at h3;have m:∃S',(∀i,S' i->S i\/g.next<=i)/\But S g h/\(Y e.size S' h\/Z S' h):=⟨S',h1,l,h3.imp And.right And.right⟩;clear h1 l h3 a;exact au
def Ah(c id:Nat)(L:LRec)(k:Nat)(S:Nat->Prop)(h:Heap):Prop:=
 (∀j,S j↔j=c\/j=id)/\c<id/\id<h.next/\h.at' c=some (.row [.int .i64 (k:Int)])/\h.at' id=some (.loop L)
def zAB(A:e.Ok)(V:e.size<=1048576)(g:Heap):zB prog 260 [.agg e.cells] g λr h'=>h'=g/\r=.int .i64 (e.size:Int):=by
 refine xU kr λhh=> ?_;have F:∀k:Int,below g.next (.int .i64 k):=λk=>trivial;have K:qP prog 3 (.ptr g.next 0) (.int .i64 0) (g.new g.next (.row [.int .i64 0]))=some (g.new g.next (.row [.int .i64 0])):=qk pj ow rfl rfl rfl;have m:=λh=>QO e h;refine z5 zDd ?_;simp only[f260,zA];simp only[Ex.cells]at m⊢;simp only[go_sem, *];refine(m _).mono ?_;rintro r h2 ⟨rfl,rfl⟩;simp only[go_sem, *];have e1:(g.new g.next (.row [.int .i64 0])).next=g.next+1:=yA _ _;rw[e1]
 obtain⟨G,R,t,m1,m2,Y⟩:∃G,(g.new g.next (.row [.int .i64 0])).new (g.next+1) (.row [oU (g.next+1)])=G/\G.next=g.next+2/\G.at' g.next=some (.row [.int .i64 ((0:Nat):Int)])/\G.at' (g.next+1)=some (.row [oU (g.next+1)])/\Ext g G:=
  ⟨_,rfl,qW _ ow _,by rw[zz ow];exact yQ _ _ _,yQ _ _ _,((Ext.refl g).new (zD _) _).new ow _⟩
 rw[R,t];generalize o:LRec.mk _ _ _ _ _ _ _=L;have y:Yld prog (g.next+2) e.size (λi=>[.agg (e.pre.getD i e).cells]) (Ah g.next (g.next+2) L) (λ_ _=>False):=by
  refine⟨λk S h y i p=> ?_,λk S h h' y T I=> ?_,λS h C=>C.elim,λS h h' C=>C.elim,λi S h3 p X=> ?_⟩
  ·obtain⟨c,n,D,f,l⟩:=y;rcases(c i).1 p with rfl|rfl<;>omega
  ·obtain⟨c,n,D,f,l⟩:=y;exact⟨c,n,by omega,by rw[I _ ((c _).2 (.inl rfl))];exact f,by rw[I _ ((c _).2 (.inr rfl))];exact l⟩
  ·obtain⟨c,n,D,f,l⟩:=X;have d:=l;rw[<-o]at d;refine uN.round (g:=KL) mix d rfl kr kr kr ?_;simp only[go_sem];refine⟨d,?_⟩;generalize Q:LRec.mk .busy _ _ _ _ _ _=B;have s:({ B with st:=.ready,pending:=none } :LRec)=L:=by rw[<-Q,<-o]
   generalize a:Heap.set h3 (g.next+2) (.loop B)=h5;have N:h5.at' g.next=some (.row [.int .i64 (i:Int)]):=by rw[<-a,zx ow];exact f
   have O:h5.at' (g.next+2)=some (.loop B):=by rw[<-a];simp[Heap.set]
   have a4:h5.next=h3.next:=by rw[<-a,qS]
   have ew:IntKind.i64.wrap ((i:Int)+1)=((i+1:Nat):Int):=qT (by unfold lim;omega);have U:qP prog 3 (.ptr g.next 0) (.int .i64 ((i+1:Nat):Int)) h5=some (h5.set g.next (.row [.int .i64 ((i+1:Nat):Int)])):=by
    rw[qO N pj (by simp) rfl rfl];rfl
   simp only[go_sem, *];have P:(h5.set g.next (.row [.int .i64 ((i+1:Nat):Int)])).at' (g.next+2)=some (.loop B):=by rw[zx ow];exact O
   refine sV P ⟨λj=>j=g.next\/j=g.next+2,λj H=>.inl H,⟨by simp only[qS];omega,λj H E=> ?_⟩,.inl ⟨rfl,λj=>Iff.rfl,n,by simp only[qS];omega,?_,?_⟩⟩
   ·have Z:j≠g.next:=λe=>E ((c j).2 (.inl e));have M:j≠g.next+2:=λe=>E ((c j).2 (.inr e));rw[zx M,zx Z,<-a,zx M]
   ·rw[zx ow,zi]
   ·rw[zi,s]
 have z:Ah g.next (g.next+2) L 0 (λj=>j=g.next\/j=g.next+2) (G.new (g.next+2) (.loop L)):=
  ⟨λj=>Iff.rfl,by omega,by rw[qW _ ow];omega,by rw[zz ow];exact m1,yQ _ _ _⟩
 have b:=Vc y A (λj x W=>by
  have:e.pre.getD j e=x:=by rw[zK,W];rfl
  rw[this]) z (v:=g.next+1) (by rw[qW _ ow];omega) ow (by rw[zz ow];exact m2)
 refine b.mono ?_;rintro r h ⟨S',s1,s2,s3⟩;obtain⟨c,n,D,f,l⟩:=s3.resolve_right (λq=>q);have w:L.st≠ .busy:=by rw[<-o];intro q;cases q
 have u:L.pending=none:=by rw[<-o]
 refine⟨L,l,w,?_⟩;rw[u,nw];have J:(h.del (g.next+2)).at' g.next=some (.row [.int .i64 (e.size:Int)]):=by rw[uK ow];exact f
 have hE:Ext g (h.del (g.next+2)):=by
  have T:(G.new (g.next+2) (.loop L)).next=g.next+3:=qW _ ow _;have ab:=s2.1;refine Ext.del ⟨by omega,λi p=> ?_⟩ ow;rw[s2.2 i ow ow,zz ow,Y.2 i p]
 exact au
def WX(d:s.length<=1048576)(g:Heap):zB prog 316 [.str s] g λr h'=>h'=g/\r=.bool (ww s):=by
 have e:∀h,zB prog 171 [.str s,.str [97,98,99,100,101,102,103,104,105,106,107,108,109,110,111,112,113,114,115,116,117,118,119,120,121,122,48,49,50,51,52,53,54,55,56,57,45,46]] h λr h'=>h'=h/\r=.str (Lib.trimS s jL):=λh=>Eb d (c:=jL) (by decide) (by decide) h;refine z5 zDr ?_;simp only[f316,zA];cases s with
 |nil=>
  have e1:decide ((([]:List UInt8).length:Int)<1)=true:=rfl
  repeat' first|simp only[go_sem, *]|apply bc<;>intro a
  rfl
 |cons b r=>
  have e1:decide (((b::r).length:Int)<1)=false:=zO (by simp only[zm];omega);have f:kV prog 9 (.str (b::r)) (.int .i64 0)=some (.int .u8 b.toNat):=mA (n:=0) underlying9 rfl;have i:=dn b r;generalize j:b::r=s at *
  repeat' first|simp only[go_sem, *]|apply bc<;>intro a|refine zB.use (e _) ?_
def nJ(kind:Int)(name exc:List UInt8)(kids:Int):Int:=
 if((kind==0)||(kind==1))=true then
  (if(decide (kids>0)||((kind==1)&& !(exc== [])))=true then 1
  else if(!ww name||(!(exc== [])&& !ww exc))=true then 2 else 0)
 else if((kind==2)||(kind==3))=true then
  (if(decide (kids<2)|| !(name== [])|| !(exc== []))=true then 1 else 0)
 else 1
def Ex.err(e:Ex):Int:=nJ e.kind e.name e.exc e.kids.length
def QF(a:e.Ok)(g:Heap):zB prog 262 [.agg e.cells] g λr h'=>h'=g/\r=.int .i64 e.err:=by
 obtain⟨h,i,x,l,d⟩:=e;simp only[Ex.Ok]at a;obtain⟨k,n,o1,o2,_⟩:=a;have f:=pR k;have b:=WX o1;have c:=WX o2;have j:(Ex.mk h i x l d).err=nJ h i x l.length:=rfl;rw[j];unfold nJ;refine z5 zDf ?_;simp only[f262,zA];simp only[Ex.cells,Ex.kind,Ex.name,Ex.exc,Ex.d]
 repeat' first|simp only[go_sem, *]|apply bc<;>intro m|refine zB.use (b _) ?_|refine zB.use (c _) ?_
def Ex.errAt(e:Ex)(i:Nat):Int:=(e.pre.getD i e).err
def pP(e:Ex):Int:=
 if decide ((e.size:Int)>64)=true then 10
 else if decide ((e.depth:Int)>24)=true then 11
 else ml e.errAt e.size
def zEF:∀n:Nat,(∀e:Ex,e.size<=n->e.Ok->∀x∈e.pre,x.Ok)/\∀l:List Ex,yt l<=n->okL l->∀x∈ju l,x.Ok:=by
 intro n
 induction n with
 |zero=>
  refine⟨λe h=> ?_,λl h=> ?_⟩
  ·cases e;simp only[Ex.size]at h;omega
  ·cases l with
   |nil=>intro _ x f;simp[ju]at f
   |cons e l=>cases e;simp only[yt,Ex.size]at h;omega
 |succ n j=>
  have key:∀e:Ex,e.size<=n+1->e.Ok->∀x∈e.pre,x.Ok:=λe h g x f=>by
   obtain⟨a,b,c,l,d⟩:=e;simp only[Ex.size,Ex.pre]at h f;rcases zt.1 f with rfl|f
   ·exact g
   ·simp only[Ex.Ok]at g;exact j.2 l ow g.2.2.2.2 x f
  refine⟨key,λl h=> ?_⟩
  induction l with
  |nil=>intro _ x f;simp[ju]at f
  |cons e l i=>
   intro g x f;simp only[yt,ju,okL]at h f g;rcases yD.1 f with f|f
   ·exact key e ow g.1 x f
   ·exact i ow g.2 x f
def Ex.pre_okAt(h:e.Ok)(i:Nat):(e.pre.getD i e).Ok:=by
 rw[zK];cases a:e.pre[i]? with
 |none=>exact h
 |some x=>exact(zEF e.size).1 e (zD _) h x (zh a)
def Af(e:Ex)(c id:Nat)(L:LRec)(k:Nat)(S:Nat->Prop)(h:Heap):Prop:=
 (∀j,S j↔j=c\/j=id)/\c<id/\id<h.next/\h.at' c=some (.row [.int .i64 0])/\h.at' id=some (.loop L)/\∀j,j<k->e.errAt j=0
def zFl(e:Ex)(c id:Nat)(L:LRec)(S:Nat->Prop)(h:Heap):Prop:=
 (∀j,S j↔j=c\/j=id)/\c<id/\id<h.next/\∃v,v=ml e.errAt e.size/\h.at' c=some (.row [.int .i64 v])/\h.at' id=some (.loop { L with st:=.done,pending:=some .ret })
theorem QE(u:e.Ok)(P:e.size<=1048576)(g:Heap):zB prog 186 [.agg e.cells] g λr h'=>h'=g/\r=.int .i64 (pP e):=by
 refine xU kr λhh=> ?_;have a0:∀k:Int,below g.next (.int .i64 k):=λk=>trivial;have U:=zAB u P;have X:=DJ e.size (zD _) u P;have K:=λh=>QO e h;obtain⟨W,a8,r0,E0,n0⟩:∃G,g.new g.next (.row [.int .i64 0])=G/\G.at' g.next=some (.row [.int .i64 0])/\Ext g G/\G.next=g.next+1:=⟨_,rfl,yQ _ _ _,(Ext.refl g).new (zD _) _,yA _ _⟩;have N:∀v:Int,qP prog 37 (.ptr g.next 0) (.int .i64 v) W=some (W.set g.next (.row [.int .i64 v])):=λv=>by rw[qO r0 VD (by simp) rfl rfl];rfl
 have a7:∀v:Int,Ext g (W.set g.next (.row [.int .i64 v])):=λv=>E0.set (zD _) _;obtain⟨R,b⟩:∃R,pP e=R:=⟨_,rfl⟩;rw[b];unfold pP at b;refine z5 zDO ?_;simp only[f186,zA];simp only[Ex.cells]at U X K⊢;cases q1:decide ((e.size:Int)>64)with
 |true=>
  rw[ip q1]at b;subst b
  repeat' first|simp only[go_sem,zi, *]|apply bc<;>intro F|refine zB.use (U _) ?_
 |false=>
 rw[iq (by rw[q1];exact zf)]at b;cases q2:decide ((e.depth:Int)>24)with
 |true=>
  rw[ip q2]at b;subst b
  repeat' first|simp only[go_sem,zi, *]|apply bc<;>intro F|refine zB.use (U _) ?_|refine zB.use (X _) ?_
 |false=>
 rw[iq (by rw[q2];exact zf)]at b
 repeat' first|simp only[go_sem, *]|apply bc<;>intro F|refine zB.use (U _) ?_|refine zB.use (X _) ?_
 rename Heap=>G1
 refine(K _).mono ?_;rintro r h2 ⟨rfl,rfl⟩
 repeat' first|simp only[go_sem, *]|apply bc<;>intro F
 obtain⟨G,hG,ab,m1,m2,mE⟩:∃G,G1.new (g.next+1) (.row [oU (g.next+1)])=G/\G.next=g.next+2/\G.at' g.next=some (.row [.int .i64 0])/\G.at' (g.next+1)=some (.row [oU (g.next+1)])/\Ext g G:=
  ⟨_,rfl,qW _ ow _,by rw[zz ow];exact r0,yQ _ _ _,E0.new ow _⟩
 rw[hG,ab];generalize E:LRec.mk _ _ _ _ _ _ _=L;have y:Yld prog (g.next+2) e.size (λi=>[.agg (e.pre.getD i e).cells]) (Af e g.next (g.next+2) L) (zFl e g.next (g.next+2) L):=by
  refine⟨λk S h y i D=> ?_,λk S h h' y z J=> ?_,λS h y i D=> ?_,λS h h' y z J=> ?_,λi S h3 D hy=> ?_⟩
  ·obtain⟨a,o,C,m,n⟩:=y;rcases(a i).1 D with rfl|rfl<;>omega
  ·obtain⟨a,o,C,m,n,p⟩:=y;exact⟨a,o,by omega,by rw[J _ ((a _).2 (.inl rfl))];exact m,by rw[J _ ((a _).2 (.inr rfl))];exact n,p⟩
  ·obtain⟨a,o,C,m⟩:=y;rcases(a i).1 D with rfl|rfl<;>omega
  ·obtain⟨a,o,C,v,m,n,p⟩:=y;exact⟨a,o,by omega,v,m,by rw[J _ ((a _).2 (.inl rfl))];exact n,by rw[J _ ((a _).2 (.inr rfl))];exact p⟩
  ·obtain⟨a,o,C,m,n,p⟩:=hy;have T:=n;rw[<-E]at T;have M:=Ex.pre_okAt u i;have s:=λh=>QF M h;have I:(e.pre.getD i e).err=e.errAt i:=rfl;rw[I]at s;generalize e.pre.getD i e=x at *
   have O:=Jq x (Ex.flat M) h3 h3.next;simp only[Ex.cells]at s⊢;refine uN.round (g:=KK) mix T rfl kr kr kr ?_;simp only[go_sem,O];obtain⟨w,ak,z4,zL,zr,zn,zk⟩:∃w,h3.new h3.next (.row [.int .i64 x.kind,.str x.name,.str x.exc,x.d])=w/\w.at' g.next=some (.row [.int .i64 0])/\w.at' (g.next+2)=some (.loop L)/\w.at' h3.next=some (.row [.int .i64 x.kind,.str x.name,.str x.exc,x.d])/\w.next=h3.next+1/\∀j,j<h3.next->w.at' j=h3.at' j:=
    ⟨_,rfl,by rw[zz ow];exact m,by rw[zz ow];exact n,yQ _ _ _,yA _ _,λj c=>by rw[zz ow]⟩
   rw[ak];refine⟨by rw[E];exact zL,?_⟩;generalize hB:LRec.mk .busy _ _ _ _ _ _=B;have Z:({ B with st:=.ready,pending:=none } :LRec)=L:=by rw[<-hB,<-E]
   have Y:({ B with st:=.done,pending:=some .ret } :LRec)= { L with st:=.done,pending:=some .ret } :=by rw[<-hB,<-E]
   generalize l:Heap.set w (g.next+2) (.loop B)=h5;have a1:h5.at' g.next=some (.row [.int .i64 0]):=by rw[<-l,zx ow];exact z4
   have a2:h5.at' h3.next=some (.row [.int .i64 x.kind,.str x.name,.str x.exc,x.d]):=by rw[<-l,zx ow];exact zr
   have a3:h5.at' (g.next+2)=some (.loop B):=by rw[<-l];simp[Heap.set]
   have a4:h5.next=h3.next+1:=by rw[<-l,qS,zn]
   have a5:∀j,j<h3.next->j≠g.next+2->h5.at' j=h3.at' j:=λj c z=>by rw[<-l,zx z,zk j c]
   have N:∀v:Int,qP prog 37 (.ptr g.next 0) (.int .i64 v) h5=some (h5.set g.next (.row [.int .i64 v])):=λv=>by rw[qO a1 VD (by simp) rfl rfl];rfl
   cases hv:(e.errAt i==0)with
   |true=>
    have z:=um (f:=e.errAt) p (by simpa using hv)
    repeat' first|simp only[go_sem, *]|apply bc<;>intro F|refine zB.use (s _) ?_
    rename Heap=>h5
    refine sV a3 ⟨λj=>j=g.next\/j=g.next+2,λj c=>.inl (by simpa using c),⟨by simp only[qS];omega,λj c V=> ?_⟩,.inl ⟨rfl,λj=>Iff.rfl,o,by simp only[qS];omega,?_,?_,z⟩⟩
    ·have Q:j≠g.next+2:=λe=>V (by first|exact(a j).2 (.inr e)|exact .inr e)
     rw[zx Q,a5 j c Q]
    ·rw[zx ow];exact a1
    ·rw[zi,Z]
   |false=>
    have z:ml e.errAt e.size=e.errAt i:=pQ D p (by simpa using hv)
    repeat' first|simp only[go_sem, *]|apply bc<;>intro F|refine zB.use (s _) ?_
    rename Heap=>h5
    refine aR (L:=B) (by rw[zx ow];exact a3) ⟨λj=>j=g.next\/j=g.next+2,λj c=>.inl (by simpa using c),⟨by simp only[qS];omega,λj c V=> ?_⟩,.inr ⟨rfl,λj=>Iff.rfl,o,by simp only[qS];omega,_,z.symm,?_,?_⟩⟩
    ·have n1:j≠g.next:=λe=>V (by first|exact(a j).2 (.inl e)|exact .inl e)
     have Q:j≠g.next+2:=λe=>V (by first|exact(a j).2 (.inr e)|exact .inr e)
     rw[zx Q,zx n1,a5 j c Q]
    ·rw[zx ow,zi]
    ·rw[zi,Y]
 have ai:Af e g.next (g.next+2) L 0 (λj=>j=g.next\/j=g.next+2) (G.new (g.next+2) (.loop L)):=
  ⟨λj=>Iff.rfl,by omega,by rw[qW _ ow];omega,by rw[zz ow];exact m1,yQ _ _ _,λj c=>absurd c (zj _)⟩
 have t:=Vc y u (λj x hx=>by
  have:e.pre.getD j e=x:=by rw[zK,hx];rfl
  rw[this]) ai (v:=g.next+1) (by rw[qW _ ow];omega) ow (by rw[zz ow];exact m2)
 refine t.mono ?_;rintro r h ⟨S',s1,s2,s3⟩;have H:∀(_:g.next+2<h.next)(_:∀j,S' j↔j=g.next\/j=g.next+2),Ext g (h.del (g.next+2)):=λz _=>by
  have a9:(G.new (g.next+2) (.loop L)).next=g.next+3:=qW _ ow _;refine Ext.del ⟨by omega,λi D=> ?_⟩ ow;rw[s2.2 i ow ow,zz ow,mE.2 i D]
 rcases s3 with⟨a,o,C,m,n,p⟩ | ⟨a,o,C,v,m,n,p⟩
 ·have ag:L.st≠ .busy:=by rw[<-E];intro q;cases q
  have ad:L.pending=none:=by rw[<-E]
  refine⟨L,n,ag,?_⟩;rw[ad,nw];have A:(h.del (g.next+2)).at' g.next=some (.row [.int .i64 0]):=by rw[uK ow];exact m
  have hE:=H C a;have N:qP prog 37 (.ptr g.next 0) (.int .i64 0) (h.del (g.next+2))=some ((h.del (g.next+2)).set g.next (.row [.int .i64 0])):=by rw[qO A VD (by simp) rfl rfl];rfl
  have a6:=hE.set (id:=g.next) (zD _) (.row [.int .i64 0]);rw[u9 p]at b;subst b
  repeat' first|simp only[go_sem,zi, *]|apply bc<;>intro F
 ·refine⟨_,p,?_,?_⟩
  ·intro q;cases q
  simp only[XL];have A:(h.del (g.next+2)).at' g.next=some (.row [.int .i64 v]):=by rw[uK ow];exact n
  have hE:=H C a;rw[<-m]at b;subst b;exact au
def Xl(c:Cat)(x:Ex):Int:=if(!(x.name== [])&& !nZ c x.name x.exc)=true then 7 else 0
def Ex.unk(c:Cat)(e:Ex)(i:Nat):Int:=Xl c (e.pre.getD i e)
def tT(c:Cat)(e:Ex):Int:=
 if(!(qz c==0))=true then 1
 else if(!(pP e==0))=true then pP e
 else ml (Ex.unk c e) e.size
def Ag(f:Nat->Int)(N c id:Nat)(L:LRec)(k:Nat)(S:Nat->Prop)(h:Heap):Prop:=
 (∀j,S j↔j=c\/j=id)/\c<id/\id<h.next/\h.at' c=some (.row [.int .i64 0])/\h.at' id=some (.loop L)/\∀j,j<k->f j=0
def zFm(f:Nat->Int)(N c id:Nat)(L:LRec)(S:Nat->Prop)(h:Heap):Prop:=
 (∀j,S j↔j=c\/j=id)/\c<id/\id<h.next/\∃v,v=ml f N/\h.at' c=some (.row [.int .i64 v])/\h.at' id=some (.loop { L with st:=.done,pending:=some .ret })
theorem YR(o:uM c d)(hs:c.Sm)(K:e.Ok)(a9:e.size<=1048576)(g:Heap):zB prog 147 [d,.agg e.cells] g λr h'=>h'=g/\r=.int .i64 (tT c e):=by
 refine xU kr λhh=> ?_;have bb:∀k:Int,below g.next (.int .i64 k):=λk=>trivial;have c1:=fF o hs;have c2:=QE K a9;have a7:=λba ab h=>DR o hs ba ab h;obtain⟨ca,cb,ce,cp,rfl,_,_,_,_⟩:=o;have bx:∀u v:List UInt8,wO prog 112 [(0,.str u),(1,.str v)]=some (.agg [.str u,.str v]):=λu v=>by simp[wO,oM,so,tp,D.notTuple,D.cells,uG]
 have T:=λh=>QO e h;obtain⟨X,bs,r0,E0,n0⟩:∃G,g.new g.next (.row [.int .i64 0])=G/\G.at' g.next=some (.row [.int .i64 0])/\Ext g G/\G.next=g.next+1:=⟨_,rfl,yQ _ _ _,(Ext.refl g).new (zD _) _,yA _ _⟩;have U:∀v:Int,qP prog 37 (.ptr g.next 0) (.int .i64 v) X=some (X.set g.next (.row [.int .i64 v])):=λv=>by rw[qO r0 VD (by simp) rfl rfl];rfl
 have bk:∀v:Int,Ext g (X.set g.next (.row [.int .i64 v])):=λv=>E0.set (zD _) _;obtain⟨R,m⟩:∃R,tT c e=R:=⟨_,rfl⟩;rw[m];unfold tT at m;refine z5 zDB ?_;simp only[f147,zA];simp only[Ex.cells]at c2 T⊢;cases q1:(qz c==0)with
 |false=>
  rw[ip (by rw[q1];rfl)]at m;subst m
  repeat' first|simp only[go_sem,zi, *]|apply bc<;>intro o|refine zB.use (c1 _) ?_
 |true=>
 rw[iq (by rw[q1];decide)]at m;cases q2:(pP e==0)with
 |false=>
  rw[ip (by rw[q2];rfl)]at m;subst m
  repeat' first|simp only[go_sem,zi, *]|apply bc<;>intro o|refine zB.use (c1 _) ?_|refine zB.use (c2 _) ?_
 |true=>
 rw[iq (by rw[q2];decide)]at m
 repeat' first|simp only[go_sem, *]|apply bc<;>intro o|refine zB.use (c1 _) ?_|refine zB.use (c2 _) ?_
 rename Heap=>G1
 refine(T _).mono ?_;rintro r h2 ⟨rfl,rfl⟩
 repeat' first|simp only[go_sem, *]|apply bc<;>intro o
 obtain⟨G,hG,ag,m1,m2,mE⟩:∃G,G1.new (g.next+1) (.row [oU (g.next+1)])=G/\G.next=g.next+2/\G.at' g.next=some (.row [.int .i64 0])/\G.at' (g.next+1)=some (.row [oU (g.next+1)])/\Ext g G:=
  ⟨_,rfl,qW _ ow _,by rw[zz ow];exact r0,yQ _ _ _,E0.new ow _⟩
 rw[hG,ag];generalize M:LRec.mk _ _ _ _ _ _ _=L;have y:Yld prog (g.next+2) e.size (λi=>[.agg (e.pre.getD i e).cells]) (Ag (Ex.unk c e) e.size g.next (g.next+2) L) (zFm (Ex.unk c e) e.size g.next (g.next+2) L):=by
  refine⟨λk S h y i J=> ?_,λk S h h' y z Q=> ?_,λS h y i J=> ?_,λS h h' y z Q=> ?_,λi S h3 J hy=> ?_⟩
  ·obtain⟨a,p,I,s,t⟩:=y;rcases(a i).1 J with rfl|rfl<;>omega
  ·obtain⟨a,p,I,s,t,w⟩:=y;exact⟨a,p,by omega,by rw[Q _ ((a _).2 (.inl rfl))];exact s,by rw[Q _ ((a _).2 (.inr rfl))];exact t,w⟩
  ·obtain⟨a,p,I,s⟩:=y;rcases(a i).1 J with rfl|rfl<;>omega
  ·obtain⟨a,p,I,v,s,t,w⟩:=y;exact⟨a,p,by omega,v,s,by rw[Q _ ((a _).2 (.inl rfl))];exact t,by rw[Q _ ((a _).2 (.inr rfl))];exact w⟩
  ·obtain⟨a,p,I,s,t,w⟩:=hy;have W:=t;rw[<-M]at W;have a8:=Ex.pre_okAt K i;have l:Xl c (e.pre.getD i e)=Ex.unk c e i:=rfl;unfold Xl at l;generalize e.pre.getD i e=x at *
   have V:=Jq x (Ex.flat a8) h3 h3.next;simp only[Ex.cells];refine uN.round (g:=KG) mix W rfl kr kr kr ?_;simp only[go_sem,V];obtain⟨E,a6,z4,zL,zr,zn,zk⟩:∃E,h3.new h3.next (.row [.int .i64 x.kind,.str x.name,.str x.exc,x.d])=E/\E.at' g.next=some (.row [.int .i64 0])/\E.at' (g.next+2)=some (.loop L)/\E.at' h3.next=some (.row [.int .i64 x.kind,.str x.name,.str x.exc,x.d])/\E.next=h3.next+1/\∀j,j<h3.next->E.at' j=h3.at' j:=
    ⟨_,rfl,by rw[zz ow];exact s,by rw[zz ow];exact t,yQ _ _ _,yA _ _,λj b=>by rw[zz ow]⟩
   rw[a6];refine⟨by rw[M];exact zL,?_⟩;generalize hB:LRec.mk .busy _ _ _ _ _ _=B;have O:({ B with st:=.ready,pending:=none } :LRec)=L:=by rw[<-hB,<-M]
   have ad:({ B with st:=.done,pending:=some .ret } :LRec)= { L with st:=.done,pending:=some .ret } :=by rw[<-hB,<-M]
   generalize n:Heap.set E (g.next+2) (.loop B)=h5;have Y:h5.at' g.next=some (.row [.int .i64 0]):=by rw[<-n,zx ow];exact z4
   have a2:h5.at' h3.next=some (.row [.int .i64 x.kind,.str x.name,.str x.exc,x.d]):=by rw[<-n,zx ow];exact zr
   have Z:h5.at' (g.next+2)=some (.loop B):=by rw[<-n];simp[Heap.set]
   have a4:h5.next=h3.next+1:=by rw[<-n,qS,zn]
   have a5:∀j,j<h3.next->j≠g.next+2->h5.at' j=h3.at' j:=λj b z=>by rw[<-n,zx z,zk j b]
   have U:∀v:Int,qP prog 37 (.ptr g.next 0) (.int .i64 v) h5=some (h5.set g.next (.row [.int .i64 v])):=λv=>by rw[qO Y VD (by simp) rfl rfl];rfl
   have A:=a7 x.name x.exc;cases b1:(x.name== [])with
   |true=>
    have z:=um (f:=Ex.unk c e) w (by rw[<-l,iq (by rw[b1];exact zf)])
    repeat' first|simp only[go_sem, *]|apply bc<;>intro o
    refine sV Z ⟨λj=>j=g.next\/j=g.next+2,λj b=>.inl (by simpa using b),⟨by simp only[qS];omega,λj b N=> ?_⟩,.inl ⟨rfl,λj=>Iff.rfl,p,by simp only[qS];omega,?_,?_,z⟩⟩
    ·have H:j≠g.next+2:=λe=>N (by first|exact(a j).2 (.inr e)|exact .inr e)
     rw[zx H,a5 j b H]
    ·rw[zx ow];exact Y
    ·rw[zi,O]
   |false=>
   cases b2:nZ c x.name x.exc with
   |true=>
    have z:=um (f:=Ex.unk c e) w (by rw[<-l,iq (by rw[b1,b2];decide)]);rw[b2]at A
    repeat' first|simp only[go_sem, *]|apply bc<;>intro o|refine zB.use (A _) ?_
    rename Heap=>h5
    refine sV Z ⟨λj=>j=g.next\/j=g.next+2,λj b=>.inl (by simpa using b),⟨by simp only[qS];omega,λj b N=> ?_⟩,.inl ⟨rfl,λj=>Iff.rfl,p,by simp only[qS];omega,?_,?_,z⟩⟩
    ·have H:j≠g.next+2:=λe=>N (by first|exact(a j).2 (.inr e)|exact .inr e)
     rw[zx H,a5 j b H]
    ·rw[zx ow];exact Y
    ·rw[zi,O]
   |false=>
    have hw:Ex.unk c e i=7:=by rw[<-l,ip (by rw[b1,b2];rfl)]
    have z:ml (Ex.unk c e) e.size=7:=by rw[pQ J w (by rw[hw];decide),hw]
    rw[b2]at A
    repeat' first|simp only[go_sem, *]|apply bc<;>intro o|refine zB.use (A _) ?_
    rename Heap=>h5
    refine aR (L:=B) (by rw[zx ow];exact Z) ⟨λj=>j=g.next\/j=g.next+2,λj b=>.inl (by simpa using b),⟨by simp only[qS];omega,λj b N=> ?_⟩,.inr ⟨rfl,λj=>Iff.rfl,p,by simp only[qS];omega,_,z.symm,?_,?_⟩⟩
    ·have n1:j≠g.next:=λe=>N (by first|exact(a j).2 (.inl e)|exact .inl e)
     have H:j≠g.next+2:=λe=>N (by first|exact(a j).2 (.inr e)|exact .inr e)
     rw[zx H,zx n1,a5 j b H]
    ·rw[zx ow,zi]
    ·rw[zi,ad]
 have a0:Ag (Ex.unk c e) e.size g.next (g.next+2) L 0 (λj=>j=g.next\/j=g.next+2) (G.new (g.next+2) (.loop L)):=
  ⟨λj=>Iff.rfl,by omega,by rw[qW _ ow];omega,by rw[zz ow];exact m1,yQ _ _ _,λj b=>absurd b (zj _)⟩
 have C:=Vc y K (λj x hx=>by
  have:e.pre.getD j e=x:=by rw[zK,hx];rfl
  rw[this]) a0 (v:=g.next+1) (by rw[qW _ ow];omega) ow (by rw[zz ow];exact m2)
 refine C.mono ?_;rintro r h ⟨S',s1,s2,s3⟩;have P:∀(_:g.next+2<h.next)(_:∀j,S' j↔j=g.next\/j=g.next+2),Ext g (h.del (g.next+2)):=λz _=>by
  have b0:(G.new (g.next+2) (.loop L)).next=g.next+3:=qW _ ow _;refine Ext.del ⟨by omega,λi J=> ?_⟩ ow;rw[s2.2 i ow ow,zz ow,mE.2 i J]
 rcases s3 with⟨a,p,I,s,t,w⟩ | ⟨a,p,I,v,s,t,w⟩
 ·have ak:L.st≠ .busy:=by rw[<-M];intro q;cases q
  have ai:L.pending=none:=by rw[<-M]
  refine⟨L,t,ak,?_⟩;rw[ai,nw];have F:(h.del (g.next+2)).at' g.next=some (.row [.int .i64 0]):=by rw[uK ow];exact s
  have hE:=P I a;have U:qP prog 37 (.ptr g.next 0) (.int .i64 0) (h.del (g.next+2))=some ((h.del (g.next+2)).set g.next (.row [.int .i64 0])):=by rw[qO F VD (by simp) rfl rfl];rfl
  have bd:=hE.set (id:=g.next) (zD _) (.row [.int .i64 0]);rw[u9 w]at m;subst m
  repeat' first|simp only[go_sem,zi, *]|apply bc<;>intro o
 ·refine⟨_,w,?_,?_⟩
  ·intro q;cases q
  simp only[XL];have F:(h.del (g.next+2)).at' g.next=some (.row [.int .i64 v]):=by rw[uK ow];exact t
  have hE:=P I a;rw[<-s]at m;subst m;exact au
structure Fac where
 kind:Int
 comp:List UInt8
 out:List UInt8
 rel:Int
 way:Int
 duty:Int
 chg:Bool
 e:Ex
 list:List (List UInt8)
 d:D
def Fac.cells(f:Fac):List D:=[.int .i64 f.kind,.str f.comp,.str f.out,.int .i64 f.rel,.int .i64 f.way,.int .i64 f.duty,.bool f.chg,.int .i64 f.e.kind,.str f.e.name,.str f.e.exc,f.e.d,f.d]
structure Fac.Ok(f:Fac):Prop where
 e:f.e.Ok
 es:f.e.size<=1048576
 list:ye 1 (uH f.list) f.d
 ll:f.list.length<=1048576
 comp:f.comp.length<=1048576
 out:f.out.length<=1048576
structure Use where
 comp:Bool
 out:Bool
 rel:Bool
 chg:Bool
 e:Bool
 way:Bool
 list:Bool
 duty:Bool
def Use.cells(u:Use):List D:=[.bool u.comp,.bool u.out,.bool u.rel,.bool u.chg,.bool u.e,.bool u.way,.bool u.list,.bool u.duty]
def gu(k:Int):Use×Bool:=
 if(k==0)=true then(⟨true,true,true,true,false,false,false,false⟩,true)
 else if(k==1)=true then(⟨true,false,false,false,true,false,false,false⟩,true)
 else if(k==2)=true then(⟨false,true,false,false,false,true,false,false⟩,true)
 else if(k==3)=true then(⟨false,true,false,false,false,false,true,false⟩,true)
 else if(k==4)=true then(⟨true,false,false,false,false,false,false,true⟩,true)
 else(⟨false,false,false,false,false,false,false,false⟩,false)
def zAE(k:Int)(g:Heap):zB prog 182 [.int .i64 k] g λr h'=>h'=g/\r=.tuple [.agg (gu k).1.cells,.bool (gu k).2]:=by
 refine xU kr λh=> ?_;have n:wO prog 237 [(0,.bool true),(1,.bool true),(2,.bool true),(3,.bool true)]=some (.agg [.bool true,.bool true,.bool true,.bool true,.bool false,.bool false,.bool false,.bool false]):=by simp[wO,oN,kZ,tp,uG,D.notTuple,D.cells]
 have b2:wO prog 237 [(0,.bool true),(4,.bool true)]=some (.agg [.bool true,.bool false,.bool false,.bool false,.bool true,.bool false,.bool false,.bool false]):=by simp[wO,oN,kZ,tp,uG,D.notTuple,D.cells]
 have p:wO prog 237 [(1,.bool true),(5,.bool true)]=some (.agg [.bool false,.bool true,.bool false,.bool false,.bool false,.bool true,.bool false,.bool false]):=by simp[wO,oN,kZ,tp,uG,D.notTuple,D.cells]
 have q:wO prog 237 [(1,.bool true),(6,.bool true)]=some (.agg [.bool false,.bool true,.bool false,.bool false,.bool false,.bool false,.bool true,.bool false]):=by simp[wO,oN,kZ,tp,uG,D.notTuple,D.cells]
 have s:wO prog 237 [(0,.bool true),(7,.bool true)]=some (.agg [.bool true,.bool false,.bool false,.bool false,.bool false,.bool false,.bool false,.bool true]):=by simp[wO,oN,kZ,tp,uG,D.notTuple,D.cells]
 have t:wO prog 237 []=some (.agg [.bool false,.bool false,.bool false,.bool false,.bool false,.bool false,.bool false,.bool false]):=by simp[wO,oN,kZ,tp,uG,D.notTuple,D.cells]
 have l:∀a b c e f i j k:Bool,qP prog 237 (.ptr g.next 0) (.agg [.bool a,.bool b,.bool c,.bool e,.bool f,.bool i,.bool j,.bool k]) (g.new g.next (.row [.bool false,.bool false,.bool false,.bool false,.bool false,.bool false,.bool false,.bool false]))=some (g.new g.next (.row [.bool a,.bool b,.bool c,.bool e,.bool f,.bool i,.bool j,.bool k])):=λa b c e f i j k=>qk Jw ow rfl rfl rfl;have u:∀o,Ext g (g.new g.next o):=λo=>(Ext.refl g).new (zD _) o;have m:∀a b c e f i j k:D,yN true 8 [a,b,c,e,f,i,j,k] 0=some (.agg [a,b,c,e,f,i,j,k]):=λa b c e f i j k=>zJ rfl ow
 have d:∀a b c e f i j k x:Bool,below g.next (.tuple [.agg [.bool a,.bool b,.bool c,.bool e,.bool f,.bool i,.bool j,.bool k],.bool x]):=λa b c e f i j k x=>by simp[below,qZ]
 unfold gu Use.cells;refine z5 zDK ?_;simp only[f182,zA]
 repeat' first|simp only[go_sem,yQ, *]|apply bc<;>intro v
def DZ(x:Ex)(g:Heap)(a:x.Ok):zB prog 256 [.agg x.cells] g λr h'=>h'=g/\r=.bool ((x.kind==0)&&(x.name== [])&&(x.exc== [])&&((x.kids.length:Int)==0)):=by
 obtain⟨c,e,f,l,d⟩:=x;simp only[Ex.Ok]at a;have b:=pR a.1;refine z5 zDZ ?_;simp only[f256,zA];simp only[Ex.cells,Ex.kind,Ex.name,Ex.exc,Ex.d,Ex.kids];exact au
def ZF(x:Ex):Bool:=(x.kind==0)&&(x.name== [])&&(x.exc== [])&&((x.kids.length:Int)==0)
def dK(f:Fac)(u:Use):Bool:=
 (!u.comp&& !(f.comp== []))||(!u.out&& !(f.out== []))||(!u.rel&& !(f.rel==0))||(!u.chg&&f.chg)||(!u.e&& !ZF f.e)||(!u.way&& !(f.way==0))||(!u.list&&decide ((f.list.length:Int)>0))||(!u.duty&& !(f.duty==0))
def cH(a b c d e f g h i j k l:D):yN true 12 [a,b,c,d,e,f,g,h,i,j,k,l] 0=some (.agg [a,b,c,d,e,f,g,h,i,j,k,l]):=zJ rfl ow
def jX(a b c d e f g h i j k l:D):yN true 4 [a,b,c,d,e,f,g,h,i,j,k,l] 7=some (.agg [h,i,j,k]):=by simp[yN]
def DK{f:Fac}(b:f.Ok){k:Int}(d:(gu k).2=true)(g:Heap):zB prog 183 [.agg f.cells,.agg (gu k).1.cells] g λr h'=>h'=g/\r=.bool (dK f (gu k).1):=by
 have a:=λh=>DZ f.e h b.e;have i:((f.e.kind==0)&&(f.e.name== [])&&(f.e.exc== [])&&((f.e.kids.length:Int)==0))=ZF f.e:=rfl;rw[i]at a;have m:=wd b.list;have j:=cH;have l:=jX;simp only[Ex.cells]at a;refine z5 zDL ?_;simp only[f183,zA];unfold gu at d⊢;cases k0:(k==0)with
 |true=>
  simp only[qG,Use.cells,Fac.cells,dK]
  repeat' first|simp only[go_sem, *]|apply bc<;>intro c|refine zB.use (a _) ?_
 |false=>
 cases k1:(k==1)with
 |true=>
  simp only[zW,qG,yz,Use.cells,Fac.cells,dK]
  repeat' first|simp only[go_sem, *]|apply bc<;>intro c|refine zB.use (a _) ?_
 |false=>
 cases k2:(k==2)with
 |true=>
  simp only[zW,qG,yz,Use.cells,Fac.cells,dK]
  repeat' first|simp only[go_sem, *]|apply bc<;>intro c|refine zB.use (a _) ?_
 |false=>
 cases k3:(k==3)with
 |true=>
  simp only[zW,qG,yz,Use.cells,Fac.cells,dK]
  repeat' first|simp only[go_sem, *]|apply bc<;>intro c|refine zB.use (a _) ?_
 |false=>
 cases k4:(k==4)with
 |true=>
  simp only[zW,qG,yz,Use.cells,Fac.cells,dK]
  repeat' first|simp only[go_sem, *]|apply bc<;>intro c|refine zB.use (a _) ?_
 |false=>
 rw[k0,k1,k2,k3,k4]at d;cases d
def Vj(c:Cat)(f:Fac)(u:Use):Int:=
 if((u.comp&& !(fy f.comp==0))||(u.out&& !(fy f.out==0)))=true then 2
 else if(decide (f.rel<0)||decide (f.rel>2)||decide (f.way<0)||decide (f.way>2)||decide (f.duty<0)||decide (f.duty>3))=true then 3
 else if u.e=true then tT c f.e
 else if(f.list.any λs=> !(sE c s).isSome)=true then 7
 else if(!ga f.list)=true then 5 else 0
def rv(c:Cat)(f:Fac):Int:=
 if(!(gu f.kind).2||dK f (gu f.kind).1)=true then 1 else Vj c f (gu f.kind).1
def zEO(u:Use)(h:Heap)(id:Nat):qP prog 237 (.ptr id 0) (.agg u.cells) (h.new id (.row [.bool false,.bool false,.bool false,.bool false,.bool false,.bool false,.bool false,.bool false]))=some (h.new id (.row u.cells)):=qk Jw ow rfl rfl rfl
theorem QD(o:uM c d)(hs:c.Sm){f:Fac}(l:f.Ok)(g:Heap):zB prog 146 [d,.agg f.cells] g λr h'=>h'=g/\r=.int .i64 (rv c f):=by
 refine xU kr λhh=> ?_;have ad:∀k:Int,below g.next (.int .i64 k):=λk=>trivial;have K:=zAE f.kind;have X:=WY l.comp;have Y:=WY l.out;have F:=λh=>YR o hs l.e l.es h;have H:=λk h=>Lr o hs k h;have a5:=wd l.list;have a0:=cH;have a4:=jX;obtain⟨ca,cb,ce,cp,rfl,_,_,_,_⟩:=o;have a6:∀a b c e f i j k:D,yN true 8 [a,b,c,e,f,i,j,k] 0=some (.agg [a,b,c,e,f,i,j,k]):=λa b c e f i j k=>zJ rfl ow;have m:∀hk:(gu f.kind).2=true,∀h,zB prog 183 [.agg f.cells,.agg (gu f.kind).1.cells] h λr h'=>h'=h/\r=.bool (dK f (gu f.kind).1):=λhk h=>DK l hk h;obtain⟨R,t⟩:∃R,rv c f=R:=⟨_,rfl⟩;rw[t];unfold rv at t
 generalize hU:gu f.kind=U at *
 obtain⟨u,ub⟩:=U;simp only at t m K;have J:=zEO u g g.next;obtain⟨G,hG,r0,O,n0⟩:∃G,g.new g.next (.row u.cells)=G/\G.at' g.next=some (.row u.cells)/\Ext g G/\G.next=g.next+1:=⟨_,rfl,yQ _ _ _,(Ext.refl g).new (zD _) _,yA _ _⟩;rw[hG]at J;obtain⟨u1,u2,u3,u4,u5,u6,u7,u8⟩:=u;simp only[Use.cells]at J r0 K m;simp only[Ex.cells]at F;refine z5 zDA ?_;simp only[f146,zA];simp only[Fac.cells]at m⊢;cases ub with
 |false=>
  rw[ip (by simp)]at t;subst t
  repeat' first|simp only[go_sem, *]|apply bc<;>intro o|(refine zB.mono (K _) ?_;rintro r h ⟨hq,rfl⟩)
 |true=>
 have m:=m rfl;cases N:dK f ⟨u1,u2,u3,u4,u5,u6,u7,u8⟩with
 |true=>
  rw[ip (by rw[N];rfl)]at t;subst t;rw[N]at m
  repeat' first|simp only[go_sem, *]|apply bc<;>intro o|(refine zB.mono (K _) ?_;rintro r h ⟨hq,rfl⟩)|refine zB.use (m _) ?_
 |false=>
 rw[iq (by rw[N];decide)]at t;rw[N]at m;unfold Vj at t;obtain⟨L,Q⟩:∃L,(f.list.any λs=> !(sE c s).isSome)=L:=⟨_,rfl⟩;obtain⟨W,S⟩:∃W,ga f.list=W:=⟨_,rfl⟩;simp only[Q,S]at t;subst t
 repeat' first|simp only[go_sem, *]|apply bc<;>intro o|(refine zB.mono (K _) ?_;rintro r h ⟨hq,rfl⟩)|refine zB.use (m _) ?_|refine zB.use (X _) ?_|refine zB.use (Y _) ?_|refine zB.use (F _) ?_
 all_goals
  rename Heap=>G
  refine zV (λk fr h=>fr 2=.iptr [ca,cb,ce,cp] 0/\fr 3=.iptr [.int .i64 f.kind,.str f.comp,.str f.out,.int .i64 f.rel,.int .i64 f.way,.int .i64 f.duty,.bool f.chg,.int .i64 f.e.kind,.str f.e.name,.str f.e.exc,f.e.d,f.d] 0/\fr 78=f.d/\fr 79=.int .i64 (f.list.length:Int)/\fr 80=.int .i64 (k:Int)/\Ext g h/\∀j (v:j<f.list.length),j<k->(!(sE c f.list[j]).isSome)=false) f.list.length (by have:=l.ll;omega) ?_ ?_ ?_
  ·simp only[go_sem,zQ,zS,zF];exact⟨O,λj v h0=>absurd h0 (zj _)⟩
  ·clear O r0 n0;rintro k fr h n ec ew ⟨f2,M,B,C,E,z,v⟩;have a1:=t9 l.list n;have w:=H f.list[k];have y:=λx:Lic=>lM x h h.next;cases hf:sE c f.list[k]with
   |none=>
    have T:oy c f.list[k]=.tuple [.agg cI,.bool false]:=by unfold oy;rw[hf]
    have A:L=true:=by rw[<-Q];exact pW (p:=λs=> !(sE c s).isSome) n (by simp only[hf];rfl)
    have ab:=y ⟨[],[],0,[]⟩;have P:=z.new z.1 (.row cI);rw[T]at w;subst A
    repeat' first|simp only[go_sem, *]|apply bc<;>intro o|refine zB.use (w _) ?_
   |some x=>
    have T:oy c f.list[k]=.tuple [.agg [.str x.name,.str x.fam,.int .i64 x.ver,.str x.text],.bool true]:=by unfold oy;rw[hf]
    have V:=qp (p:=λs=> !(sE c s).isSome) n v (by simp only[hf];rfl);have ab:=y x;have P:=z.new z.1 (.row [.str x.name,.str x.fam,.int .i64 x.ver,.str x.text]);rw[T]at w
    repeat' first|simp only[go_sem, *]|apply bc<;>intro o|refine zB.use (w _) ?_
    exact V
  ·clear O r0 n0 H;rintro fr h ec ⟨f2,M,B,C,E,z,v⟩;have A:L=false:=by rw[<-Q];exact rO λj I _=>v j I I
   subst A;simp only[go_sem,f2,M,B,C,E,ec];refine qx (λi fr k=>fr 3=.iptr [.int .i64 f.kind,.str f.comp,.str f.out,.int .i64 f.rel,.int .i64 f.way,.int .i64 f.duty,.bool f.chg,.int .i64 f.e.kind,.str f.e.name,.str f.e.exc,f.e.d,f.d] 0/\fr 11=.int .i64 ((i+1:Nat):Int)/\Ext g k/\∀j,j<i->j<f.list.length-1->leB (f.list.getD (j+1) []) (f.list.getD j [])=false) f.list.length ?_ ?_
   ·simp only[go_sem,zQ,zS,zF];exact⟨M,rfl,z,λj v=>absurd v (zj _)⟩
   rintro i fr h hi ⟨M,ak,z,v⟩;have ag:=l.ll;by_cases n:i+1<f.list.length
   ·have e1:decide (((i+1:Nat):Int)<(f.list.length:Int))=true:=zN ow;have ew:IntKind.i64.wrap (((i+1:Nat):Int)+1)=((i+2:Nat):Int):=qT (by unfold lim;omega);have ai:IntKind.i64.wrap (((i+1:Nat):Int)-1)=((i:Nat):Int):=by rw[qE ow ow];omega
    have a1:=t9 l.list n;have a2:=t9 l.list (show i<f.list.length by omega);have a3:=bg f.list[i+1] f.list[i];cases hb:leB f.list[i+1] f.list[i]with
    |true=>
     have Z:ga f.list=false:=zO λq=>by
      have:=q i ow;rw[ZX n,ZX ow,hb]at this;cases this
     have hr:W=false:=by rw[<-S];exact Z
     subst hr
     repeat' first|simp only[go_sem, *]|apply bc<;>intro o
     refine zd kr ?_
     repeat' first|simp only[go_sem, *]|apply bc<;>intro o
    |false=>
     have V:∀j,j<i+1->j<f.list.length-1->leB (f.list.getD (j+1) []) (f.list.getD j [])=false:=λj h1 h2=>by
      rcases zo.1 h1 with q|rfl
      ·exact v j q h2
      ·rw[ZX n,ZX ow,hb]
     repeat' first|simp only[go_sem, *]|apply bc<;>intro o
     refine zd kr ?_
     repeat' first|simp only[go_sem, *]|apply bc<;>intro o
     exact⟨by omega,V⟩
   ·have e1:decide (((i+1:Nat):Int)<(f.list.length:Int))=false:=zO ow;have hr:W=true:=by rw[<-S];exact zN λj h=>v j ow h
    subst hr;exact au
def dj(l:List Fac):List (List D):=l.map Fac.cells
def Qn(l:List Fac):(dj l).length=l.length:=zI ..
def Hb{l:List Fac}(h:i<l.length):(dj l)[i]? =some l[i].cells:=by simp[dj,h]
def rh{l:List Fac}(a:ye 12 (dj l) d)(h:Heap):js prog 29 d h=some (.int .i64 l.length):=by rw[uV a underlying29,Qn]
def wR{l:List Fac}(a:ye 12 (dj l) d)(b:i<l.length):yP prog 29 d (.int .i64 (i:Int))=some (.iptr l[i].cells 0):=qA a HW Rg (Hb b)
abbrev Bg:List D:=[.int .i64 0,.str [],.str [],.int .i64 0,.int .i64 0,.int .i64 0,.bool false,.int .i64 0,.str [],.str [],.nilsl,.nilsl]
def Rc{f:Fac}(a:f.Ok)(h:Heap)(id:Nat):qP prog 56 (.ptr id 0) (.agg f.cells) (h.new id (.row Bg))=some (h.new id (.row f.cells)):=qk Rg ow rfl rfl (by show(true&&(true&&(true&&(true&&(true&&(true&&(true&&(true&&(true&&(true&&(f.e.d.flat&&(f.d.flat&&true))))))))))))=true;rw[Ex.flat a.e,nH a.list];rfl)
def pw(c:Cat)(l:List Fac)(i:Nat):Int:=match l[i]? with
 |some f=>rv c f
 |none=>0
def He(f:Nat->Int):Nat->Option (Nat×Int)
 |0=>none
 |n+1=>match He f n with
  |some p=>some p
  |none=>if(f n==0)=true then none else some (n,f n)
theorem cY{f:Nat->Int} :∀{n:Nat},(∀j,j<n->f j=0)->He f n=none
 |0,_=>rfl
 |n+1,h=>by simp[He,cY (n:=n) λj a=>h j ow,h n ow]
theorem Qo{f:Nat->Int} :∀{n i:Nat},i<n->(∀j,j<i->f j=0)->f i≠0->He f n=some (i,f i)
 |n+1,i,b,a,h0=>by
  rcases zo.1 b with q|rfl
  ·simp[He,Qo q a h0]
  ·simp[He,cY a,h0]
def uC(c:Cat)(l:List Fac):Int×Int:=
 if(!(qz c==0))=true then(-1,1)
 else if decide ((l.length:Int)>256)=true then(-1,10)
 else match He (pw c l) l.length with
  |some p=>((p.1:Int),p.2)
  |none=>(0,0)
def QB(o:uM c d)(H:c.Sm){l:List Fac}(J:ye 12 (dj l) x)(X:l.length<=1048576)(t:∀f∈l,f.Ok)(g:Heap):zB prog 95 [d,x] g λr h'=>h'=g/\r=.tuple [.int .i64 (uC c l).1,.int .i64 (uC c l).2]:=by
 refine xU kr λW=> ?_;have G:∀k m:Int,below g.next (.tuple [.int .i64 k,.int .i64 m]):=λk m=>by simp[below,qZ]
 have q:=fF o H;have b:=λf (hf:f∈l) h=>QD o H (t f hf) h;have T:=rh J;have S:=cH;have B:=Ext.refl g;obtain⟨M,N,ce,O,rfl,_,_,_,_⟩:=o;refine z5 zJY ?_;simp only[f95,zA];cases E:(qz c==0)with
 |false=>
  have s:uC c l=(-1,1):=ip (by rw[E];rfl);clear b
  repeat' first|simp only[go_sem, *]|apply bc<;>intro o|(refine zB.mono (q _) ?_;rintro r h ⟨v,rfl⟩)
 |true=>
 cases K:decide ((l.length:Int)>256)with
 |true=>
  have s:uC c l=(-1,10):=by unfold uC;rw[iq (by rw[E];decide),ip K]
  clear b
  repeat' first|simp only[go_sem, *]|apply bc<;>intro o|(refine zB.mono (q _) ?_;rintro r h ⟨v,rfl⟩)
 |false=>
 have s:uC c l=match He (pw c l) l.length with
  |some p=>((p.1:Int),p.2)
  |none=>(0,0):=by unfold uC;rw[iq (by rw[E];decide),iq (by rw[K];exact zf)]
 obtain⟨R,F⟩:∃R,uC c l=R:=⟨_,rfl⟩;rw[F]at s⊢;have a:=s.symm;clear s F
 repeat' first|simp only[go_sem, *]|apply bc<;>intro o|(refine zB.mono (q _) ?_;rintro r h ⟨v,rfl⟩)
 refine zV (λk fr h=>fr 2=.iptr [M,N,ce,O] 0/\fr 15=x/\fr 16=.int .i64 (l.length:Int)/\fr 17=.int .i64 (k:Int)/\Ext g h/\∀j,j<k->pw c l j=0) l.length ow ?_ ?_ ?_
 ·simp only[go_sem,zQ,zS,zF];exact⟨B,λj n=>absurd n (zj _)⟩
 ·rintro k fr h i P V ⟨Q,w,y,z,A,n⟩;have L:=wR J i;have hf:=b l[k] (zG i);have D:=Rc (t l[k] (zG i)) h h.next;have C:=A.new A.1 (.row l[k].cells);have e:pw c l k=rv c l[k]:=by simp[pw,i]
  generalize l[k]=f at *
  simp only[Fac.cells]at L hf D C;cases I:(rv c f==0)with
  |true=>
   have U:=um n (by rw[e];simpa using I);clear n b e a
   repeat' first|simp only[go_sem,yQ, *]|apply bc<;>intro o|(refine zB.mono (hf _) ?_;rintro r h ⟨v,rfl⟩)
   exact U
  |false=>
   have u:He (pw c l) l.length=some (k,rv c f):=by rw[Qo i n (by rw[e];simpa using I),e]
   rw[u]at a;simp only at a;have r1:R.1=(k:Int):=by rw[<-a]
   have r2:R.2=rv c f:=by rw[<-a]
   clear n b e a u
   repeat' first|simp only[go_sem,yQ, *]|apply bc<;>intro o|(refine zB.mono (hf _) ?_;rintro r h ⟨v,rfl⟩)
 ·rintro fr h P ⟨Q,w,y,z,A,n⟩;rw[cY n]at a;simp only at a;have r1:R.1=0:=by rw[<-a]
  have r2:R.2=0:=by rw[<-a]
  clear n b a;exact au
end Go.V
