/- Contracts of functions that the law reaches, part 2. No condition. -/
import Derived.Test.YtkenagjlanhnmaaGreatDoorW29
set_option linter.all false
set_option maxHeartbeats 8000000
namespace Go.V
open Go.Proofs.Tryz
open Go.Proofs
set_option maxRecDepth 100000
inductive Ex where
 |mk:Int->List UInt8->List UInt8->List Ex->D->Ex
def Ex.kind:Ex->Int
 |.mk k _ _ _ _=>k
def Ex.name:Ex->List UInt8
 |.mk _ n _ _ _=>n
def Ex.exc:Ex->List UInt8
 |.mk _ _ x _ _=>x
def Ex.kids:Ex->List Ex
 |.mk _ _ _ l _=>l
def Ex.d:Ex->D
 |.mk _ _ _ _ d=>d
def Ex.cells(e:Ex):List D:=[.int .i64 e.kind,.str e.name,.str e.exc,e.d]
def exs(l:List Ex):List (List D):=l.map Ex.cells
def K9(l:List Ex):(exs l).length=l.length:=zH ..
variable{i j id:Nat}{d x:D}{S:Nat->Prop}{g:Heap}{s:List UInt8}{c:Cat}
def zA8{l:List Ex}(h:i<l.length):(exs l)[i]? =some l[i].cells:=by simp[exs,h]
mutual
def Ex.size:Ex->Nat
 |.mk _ _ _ l _=>qd l+1
def qd:List Ex->Nat
 | []=>0
 |e::l=>e.size+qd l
end
mutual
def Ex.depth:Ex->Nat
 |.mk _ _ _ l _=>nq l+1
def nq:List Ex->Nat
 | []=>0
 |e::l=>max e.depth (nq l)
end
mutual
def Ex.Ok:Ex->Prop
 |.mk _ n x l d=>yg 4 (exs l) d/\l.length<=1048576/\n.length<=1048576/\x.length<=1048576/\okL l
def okL:List Ex->Prop
 | []=>True
 |e::l=>e.Ok/\okL l
end
theorem p6:∀{l:List Ex},okL l->∀e∈l,e.Ok
 |e::l,h,x,a=>by
  simp only[okL]at h;rcases yE.1 a with rfl|a
  .exact h.1
  .exact p6 h.2 x a
theorem uG:∀{l:List Ex}{e:Ex},e∈l->e.size<=qd l
 |x::l,e,h=>by
  simp only[qd];rcases yE.1 h with rfl|h
  .omega
  .have:=uG h;omega
def Ed:∀n:Nat,(∀e:Ex,e.size<=n->e.depth<=e.size)/\∀l:List Ex,qd l<=n->nq l<=qd l:=by
 intro n
 induction n with
 |zero=>
  refine⟨λe h=> ?_,λl h=> ?_⟩
  .cases e;simp only[Ex.size]at h;omega
  .cases l with
   |nil=>simp[nq]
   |cons e l=>cases e;simp only[qd,Ex.size]at h;omega
 |succ n b=>
  have key:∀e:Ex,e.size<=n+1->e.depth<=e.size:=λe h=>by
   obtain⟨_,_,_,l,_⟩:=e;simp only[Ex.size,Ex.depth]at h⊢;have:=b.2 l ow;omega
  refine⟨key,λl h=> ?_⟩
  induction l with
  |nil=>simp[nq]
  |cons e l a=>
   simp only[qd,nq]at h⊢;have h1:=key e ow;have c:=a ow;omega
theorem X0(e:Ex):∀l:List Ex,nq (l++ [e])=max (nq l) e.depth
 | []=>by simp[nq]
 |x::l=>by
  have:=X0 e l;simp only[zq,nq,this];omega
def p5{l:List Ex}(a:yg 4 (exs l) d)(h:Heap):o5 prog 53 d h=some (.int .i64 l.length):=by rw[wL a underlying53,K9]
def kq{l:List Ex}(a:yg 4 (exs l) d)(b:i<l.length):yj prog 53 d (.int .i64 (i:Int))=some (.iptr l[i].cells 0):=yW a aC gM (zA8 b)
def zNW(a b:Nat):Dc (.int .i64 (a:Int)) (.int .i64 (b:Int))=some (.int .i64 ((max a b:Nat):Int)):=by
 simp only[Dc,qK];by_cases q:(b:Int)>a
 .rw[ip q,Nat.max_eq_right ow]
 .rw[iq q,Nat.max_eq_left ow]
abbrev zEx:List D:=[.int .i64 0,.str [],.str [],.nilsl]
def Gg(x:Ex)(hf:x.d.flat=true)(h:Heap)(id:Nat):yR prog 55 (.ptr id 0) (.agg [.int .i64 x.kind,.str x.name,.str x.exc,x.d]) (h.new id (.row zEx))=some (h.new id (.row [.int .i64 x.kind,.str x.name,.str x.exc,x.d])):=yo gM ow rfl rfl (by show(true&&(true&&(true&&(x.d.flat&&true))))=true;rw[hf];rfl)
def Ex.flat{x:Ex}(h:x.Ok):x.d.flat=true:=by
 cases x;simp only[Ex.Ok]at h;exact kP h.1
def zAP:∀(n:Nat){e:Ex},e.size<=n->e.Ok->e.size<=1048576->∀g:Heap,zE prog 322 [.agg e.cells] g λr h'=>h'=g/\r=.int .i64 (e.depth:Int):=by
 intro n
 induction n with
 |zero=>intro e h;cases e;simp only[Ex.size]at h;omega
 |succ n J=>
 intro e H c p g;refine xU kr λM=> ?_;obtain⟨k,K,x,l,d⟩:=e;simp only[Ex.size,Ex.Ok]at H c p;obtain⟨u,N,_,_,b⟩:=c;have v:=p5 u;have G:=(Ed (qd l)).2 l (zD _);have t:∀k:Int,below g.next (.int .i64 k):=λk=>trivial;have m:=Ext.refl g;have E:(Ex.mk k K x l d).depth=nq l+1:=by simp only[Ex.depth]
 rw[E];refine zo zH0 ?_;simp only[f322,zA];simp only[Ex.cells,Ex.kind,Ex.name,Ex.exc,Ex.d]
 repeat' first|simp only[go_sem, *]|apply bc<;>intro F
 refine zZ (λi fr h=>fr 7=d/\fr 8=.int .i64 (l.length:Int)/\fr 9=.int .i64 (i:Int)/\fr 3=.int .i64 ((nq (l.take i):Nat):Int)/\Ext g h) l.length ow ?_ ?_ ?_
 .simp only[go_sem,zQ,zT,zG]
  exact⟨rfl,m⟩
 .rintro i fr h a z L ⟨A,B,C,s,j⟩
  have y:=kq u a;have f:l[i]∈l:=zI a;have w:=J (e:=l[i]) (by have:=uG f;omega) (p6 b _ f) (by have:=uG f;omega);have I:=Gg l[i] (Ex.flat (p6 b _ f)) h h.next;have D:=j.new j.1 (.row [.int .i64 l[i].kind,.str l[i].name,.str l[i].exc,l[i].d]);have o:=zNW (nq (l.take i)) l[i].depth;have q:nq (l.take (i+1))=max (nq (l.take i)) l[i].depth:=by rw[zM a,X0]
  rw[<-q]at o;simp only[Ex.cells]at y w
  repeat' first|simp only[go_sem,z5, *]|apply bc<;>intro F|refine zE.use (w _) ?_
 .rintro fr h z ⟨A,B,C,s,j⟩
  rw[zt]at s;have O:IntKind.i64.wrap ((nq l:Int)+1)=((nq l+1:Nat):Int):=qR jL;exact au
mutual
def Ex.pre:Ex->List Ex
 |.mk k n x l d=>.mk k n x l d::XK l
def XK:List Ex->List Ex
 | []=>[]
 |e::l=>e.pre++XK l
end
def zNF:∀n:Nat,(∀e:Ex,e.size<=n->e.pre.length=e.size)/\∀l:List Ex,qd l<=n->(XK l).length=qd l:=by
 intro n
 induction n with
 |zero=>
  refine⟨λe h=> ?_,λl h=> ?_⟩
  .cases e;simp only[Ex.size]at h;omega
  .cases l with
   |nil=>simp[XK,qd]
   |cons e l=>cases e;simp only[qd,Ex.size]at h;omega
 |succ n b=>
  have key:∀e:Ex,e.size<=n+1->e.pre.length=e.size:=λe h=>by
   obtain⟨_,_,_,l,_⟩:=e;simp only[Ex.size,Ex.pre,zu]at h⊢;rw[b.2 l ow]
  refine⟨key,λl h=> ?_⟩
  induction l with
  |nil=>simp[XK,qd]
  |cons e l a=>
   simp only[qd,XK,zS]at h⊢;rw[key e ow,a ow]
def Ex.pre_len(e:Ex):e.pre.length=e.size:=(V.zNF e.size).1 e (zD _)
def Lm(l:List Ex):(XK l).length=qd l:=(V.zNF (qd l)).2 l (zD _)
theorem Ll:∀l m:List Ex,XK (l++m)=XK l++XK m
 | [],m=>by simp[XK]
 |e::l,m=>by simp[XK,Ll l m]
theorem af:∀l m:List Ex,qd (l++m)=qd l+qd m
 | [],m=>by simp[qd]
 |e::l,m=>by simp[qd,af l m];omega
def GD{l:List Ex}(c:i<l.length){x:Ex}(a:l[i].pre[j]? =some x):(XK l)[qd (l.take i)+j]? =some x:=by
 have h1:l=l.take i++(l[i]::l.drop (i+1)):=by rw[<-z8 c,yk]
 have d:j<l[i].pre.length:=(zK.1 a).1;have b:XK l=XK (l.take i)++(l[i].pre++XK (l.drop (i+1))):=by
  have:=congrArg XK h1;rw[Ll]at this;exact this
 rw[b,yT (by rw[Lm];omega),Lm,show qd (l.take i)+j-qd (l.take i)=j by omega,yi d,a]
def JY{l:List Ex}(a:i<l.length):qd (l.take (i+1))=qd (l.take i)+l[i].size:=by
 rw[zM a,af];simp[qd]
def zJT(Y:Nat->(Nat->Prop)->Heap->Prop)(Z:(Nat->Prop)->Heap->Prop)(S:Nat->Prop)(g:Heap)(k:Nat)(r:D)(h':Heap):Prop:=
 ∃S',(∀i,S' i->S i\/g.next<=i)/\But S g h'/\((r=.bool true/\Y k S' h')\/(r=.bool false/\Z S' h'))
abbrev nZ(v:Nat):D:=.fn (.func 324) [] [.ptr v 0]
def zAu{id len:Nat}{el:Nat->List D}{Y:Nat->(Nat->Prop)->Heap->Prop}{Z:(Nat->Prop)->Heap->Prop}(y:Yld prog id len el Y Z):∀(n:Nat){e:Ex},e.size<=n->e.Ok->∀{k:Nat}{S:Nat->Prop}{g:Heap}{v:Nat},k+e.size<=len->(∀j x,e.pre[j]? =some x->el (k+j)= [.agg x.cells])->
  Y k S g->v<g.next->¬S v->g.at' v=some (.row [nZ v])->
  zE prog 324 [.agg e.cells,.yld id,.ptr v 0] g (zJT Y Z S g (k+e.size)):=by
 intro n
 induction n with
 |zero=>intro e h;cases e;simp only[Ex.size]at h;omega
 |succ n ih=>
 intro e hn f k S g v hk J hY hv F L;have t:=J 0 e (by cases e;simp[Ex.pre]);rw[wZ]at t;obtain⟨kd,nm,x,l,d⟩:=e;simp only[Ex.size,Ex.Ok]at hn f hk;obtain⟨hd,hl,_,_,ad⟩:=f;have K:∀j x,(XK l)[j]? =some x->el (k+1+j)= [.agg x.cells]:=λj x hx=>by
  have:=J (j+1) x (by simp only[Ex.pre,wb];exact hx);rw[<-this];congr 1;omega
 have ak:=p5 hd;have ai:(Ex.mk kd nm x l d).size=qd l+1:=by simp only[Ex.size]
 rw[ai];have B:=y.go k S g ow hY;rw[t]at B;simp only[Ex.cells,Ex.kind,Ex.name,Ex.exc,Ex.d]at B;refine zo zH2 ?_;simp only[f324,zA];simp only[Ex.cells,Ex.kind,Ex.name,Ex.exc,Ex.d];simp only[go_sem, *];refine B.mono ?_;rintro r h ⟨S1,m,p,hr⟩;rcases hr with⟨rfl,A⟩ | ⟨rfl,V⟩
 rotate_left
 .have u:zJT Y Z S g (k+(qd l+1)) (.bool false) h:=⟨S1,m,p,.inr ⟨rfl,V⟩⟩
  exact au
 simp only[go_sem, *];refine zZ (λi fr h'=>fr 1=.yld id/\fr 2=.ptr v 0/\fr 13=d/\fr 14=.int .i64 (l.length:Int)/\fr 15=.int .i64 (i:Int)/\∃S',(∀j,S' j->S j\/g.next<=j)/\But S g h'/\Y (k+1+qd (l.take i)) S' h') l.length ow ?_ ?_ ?_
 .simp only[go_sem,zQ,zT,zG]
  exact⟨S1,m,p,A⟩
 .clear m p A
  rintro i fr h s ec ew ⟨f1,f2,O,P,Q,M,b,a,o⟩;have a1:=kq hd s;have hm:l[i]∈l:=zI s;have f:=p6 ad _ hm;have a2:=uG hm;have C:h.at' v=some (.row [nZ v]):=by rw[a.2 v hv F];exact L
  have a3:v<h.next:=zl hv a.1;have ag:=Gg l[i] (Ex.flat f) h h.next;obtain⟨H,hH,z,r1,r2,a0⟩:∃H,h.new h.next (.row [.int .i64 l[i].kind,.str l[i].name,.str l[i].exc,l[i].d])=H/\Ext h H/\H.at' h.next=some (.row [.int .i64 l[i].kind,.str l[i].name,.str l[i].exc,l[i].d])/\H.at' v=some (.row [nZ v])/\h.next<H.next:=⟨_,rfl,(Ext.refl h).new (zD _) _,z5 _ _ _,by rw[zg ow];exact C,by rw[za];omega⟩;rw[hH]at ag;have E:=JY s;have aj:qd (l.take i)+l[i].size<=qd l:=by
   have h1:l=l.take (i+1)++l.drop (i+1):=(yk _ _).symm;have h2:=congrArg qd h1;rw[af,E]at h2;omega
  have G:¬M v:=λq=>(b v q).elim F ow;have c:=ih (e:=l[i]) ow f (k:=k+1+qd (l.take i)) (S:=M) (g:=H) (v:=v) ow (λj x hx=>by
   have:=K _ x (GD s hx);rw[<-this];congr 1;omega) (y.ext o z) ow G r2
  simp only[Ex.cells]at a1 c;simp only[go_sem, *];refine c.mono ?_;rintro r h3 ⟨N,R,X,hr⟩;have w:∀j,N j->S j\/g.next<=j:=λj hj=>by
   rcases R j hj with q|q
   .exact b j q
   .exact .inr (by have:=a.1;have:=z.1;omega)
  have I:But S g h3:=(a.trans (z.but S) λi hi=>.inl hi).trans X b;rcases hr with⟨rfl,T⟩ | ⟨rfl,W⟩
  .have U:Y (k+1+qd (l.take (i+1))) N h3:=by rw[E,<-qn];exact T
   simp only[go_sem, *];rw[<-E];exact⟨N,w,U⟩
  .have u:zJT Y Z S g (k+(qd l+1)) (.bool false) h3:=⟨N,w,I,.inr ⟨rfl,W⟩⟩
   exact au
 .clear m p A
  rintro fr h ec ⟨f1,f2,O,P,Q,M,b,a,o⟩;rw[zt]at o;have u:zJT Y Z S g (k+(qd l+1)) (.bool true) h:=⟨M,b,a,.inl ⟨rfl,by rw[show k+(qd l+1)=k+1+qd l by omega];exact o⟩⟩;exact au
abbrev zBq(v:Nat)(e:Ex):D:=.fn (.func 325) [] [.ptr v 0,.iptr e.cells 0]
def NE(e:Ex)(g:Heap):zE prog 248 [.agg e.cells] g λr h'=>r=zBq g.next e/\h'=g.new g.next (.row [nZ g.next]):=by
 have a:∀(t:TypeId)(nid:Nat)(h:Heap),gx t nid h (some .nilfn)=some (.ptr nid 0,h.new nid (.row [.nilfn])):=λ_ _ _=>rfl;have b:yR prog 368 (.ptr g.next 0) (nZ g.next) (g.new g.next (.row [.nilfn]))=some (g.new g.next (.row [nZ g.next])):=yo zCf ow rfl rfl rfl;refine zo zHl ?_;simp only[f248,zA];simp only[Ex.cells];simp only[go_sem, *];rfl
variable{e:Ex}
def TH{el:Nat->List D}{Y:Nat->(Nat->Prop)->Heap->Prop}{Z:(Nat->Prop)->Heap->Prop}(y:Yld prog id e.size el Y Z)(f:e.Ok){v:Nat}(d:∀j x,e.pre[j]? =some x->el j= [.agg x.cells])
  (n:Y 0 S g) (o:v<g.next) (c:¬S v) (b:g.at' v=some (.row [nZ v])):
  zE prog 325 [.yld id,.ptr v 0,.iptr e.cells 0] g λ_ h'=>∃S',(∀i,S' i->S i\/g.next<=i)/\But S g h'/\(Y e.size S' h'\/Z S' h'):=by
 have a:=zAu y e.size (zD _) f (k:=0) ow (λj x p=>by rw[yP];exact d j x p) n o c b;refine zo zH3 ?_;simp only[f325,zA];simp only[Ex.cells]at a⊢;simp only[go_sem, *];refine a.mono ?_;rintro r h ⟨S',h1,l,h3⟩;rw[yP]at h3;have m:∃S',(∀i,S' i->S i\/g.next<=i)/\But S g h/\(Y e.size S' h\/Z S' h):=⟨S',h1,l,h3.imp And.right And.right⟩;clear h1 l h3 a;exact au
def zDs(c id:Nat)(L:LRec)(k:Nat)(S:Nat->Prop)(h:Heap):Prop:=
 (∀j,S j↔j=c\/j=id)/\c<id/\id<h.next/\h.at' c=some (.row [.int .i64 (k:Int)])/\h.at' id=some (.loop L)
def zEJ(A:e.Ok)(V:e.size<=1048576)(g:Heap):zE prog 321 [.agg e.cells] g λr h'=>h'=g/\r=.int .i64 (e.size:Int):=by
 refine xU kr λhh=> ?_;have F:∀k:Int,below g.next (.int .i64 k):=λk=>trivial;have K:yR prog 3 (.ptr g.next 0) (.int .i64 0) (g.new g.next (.row [.int .i64 0]))=some (g.new g.next (.row [.int .i64 0])):=yo uz ow rfl rfl rfl;have m:=λh=>NE e h;refine zo zHz ?_;simp only[f321,zA];simp only[Ex.cells]at m⊢;simp only[go_sem, *];refine(m _).mono ?_;rintro r h2 ⟨rfl,rfl⟩;simp only[go_sem, *];have e1:(g.new g.next (.row [.int .i64 0])).next=g.next+1:=za _ _;rw[e1]
 obtain⟨G,R,t,m1,m2,Y⟩:∃G,(g.new g.next (.row [.int .i64 0])).new (g.next+1) (.row [nZ (g.next+1)])=G/\G.next=g.next+2/\G.at' g.next=some (.row [.int .i64 ((0:Nat):Int)])/\G.at' (g.next+1)=some (.row [nZ (g.next+1)])/\Ext g G:=
  ⟨_,rfl,qQ _ ow _,by rw[zg ow];exact z5 _ _ _,z5 _ _ _,((Ext.refl g).new (zD _) _).new ow _⟩
 rw[R,t];generalize o:LRec.mk _ _ _ _ _ _ _=L;have y:Yld prog (g.next+2) e.size (λi=>[.agg (e.pre.getD i e).cells]) (zDs g.next (g.next+2) L) (λ_ _=>False):=by
  refine⟨λk S h y i p=> ?_,λk S h h' y T I=> ?_,λS h C=>C.elim,λS h h' C=>C.elim,λi S h3 p X=> ?_⟩
  .obtain⟨c,n,D,f,l⟩:=y
   rcases(c i).1 p with rfl|rfl<;>omega
  .obtain⟨c,n,D,f,l⟩:=y
   exact⟨c,n,ow,by rw[I _ ((c _).2 (.inl rfl))];exact f,by rw[I _ ((c _).2 (.inr rfl))];exact l⟩
  .obtain⟨c,n,D,f,l⟩:=X
   have d:=l;rw[<-o]at d;refine uC.round (g:=zPx) mix d rfl kr kr kr ?_;simp only[go_sem];refine⟨d,?_⟩;generalize Q:LRec.mk .busy _ _ _ _ _ _=B;have s:({ B with st:=.ready,pending:=none } :LRec)=L:=by rw[<-Q,<-o]
   generalize a:Heap.set h3 (g.next+2) (.loop B)=h5;have N:h5.at' g.next=some (.row [.int .i64 (i:Int)]):=by rw[<-a,zW ow];exact f
   have O:h5.at' (g.next+2)=some (.loop B):=by rw[<-a];simp[Heap.set]
   have a4:h5.next=h3.next:=by rw[<-a,yc]
   have ew:IntKind.i64.wrap ((i:Int)+1)=((i+1:Nat):Int):=qR jL;have U:yR prog 3 (.ptr g.next 0) (.int .i64 ((i+1:Nat):Int)) h5=some (h5.set g.next (.row [.int .i64 ((i+1:Nat):Int)])):=by
    rw[yM N uz jS rfl rfl];rfl
   simp only[go_sem, *];have P:(h5.set g.next (.row [.int .i64 ((i+1:Nat):Int)])).at' (g.next+2)=some (.loop B):=by rw[zW ow];exact O
   refine sK P ⟨λj=>j=g.next\/j=g.next+2,λj H=>.inl H,⟨by simp only[yc];omega,λj H E=> ?_⟩,.inl ⟨rfl,λj=>Iff.rfl,n,by simp only[yc];omega,?_,?_⟩⟩
   .have Z:j≠g.next:=λe=>E ((c j).2 (.inl e))
    have M:j≠g.next+2:=λe=>E ((c j).2 (.inr e));rw[zW M,zW Z,<-a,zW M]
   .rw[zW ow,zU]
   .rw[zU,s]
 have z:zDs g.next (g.next+2) L 0 (λj=>j=g.next\/j=g.next+2) (G.new (g.next+2) (.loop L)):=
  ⟨λj=>Iff.rfl,ow,by rw[qQ _ ow];omega,by rw[zg ow];exact m1,z5 _ _ _⟩
 have b:=TH y A (λj x W=>by
  have:e.pre.getD j e=x:=by rw[zC,W];rfl
  rw[this]) z (v:=g.next+1) (by rw[qQ _ ow];omega) ow (by rw[zg ow];exact m2)
 refine b.mono ?_;rintro r h ⟨S',s1,s2,s3⟩;obtain⟨c,n,D,f,l⟩:=s3.resolve_right (λq=>q);have w:L.st≠ .busy:=by rw[<-o];intro q;cases q
 have u:L.pending=none:=by rw[<-o]
 refine⟨L,l,w,?_⟩;rw[u,pM];have J:(h.del (g.next+2)).at' g.next=some (.row [.int .i64 (e.size:Int)]):=by rw[wQ ow];exact f
 have hE:Ext g (h.del (g.next+2)):=by
  have T:(G.new (g.next+2) (.loop L)).next=g.next+3:=qQ _ ow _;have ad:=s2.1;refine Ext.del ⟨ow,λi p=> ?_⟩ ow;rw[s2.2 i ow ow,zg ow,Y.2 i p]
 exact au
def Vw(d:s.length<=1048576)(g:Heap):zE prog 377 [.str s] g λr h'=>h'=g/\r=.bool (nP s):=by
 have e:∀h,zE prog 214 [.str s,.str [97,98,99,100,101,102,103,104,105,106,107,108,109,110,111,112,113,114,115,116,117,118,119,120,121,122,48,49,50,51,52,53,54,55,56,57,45,46]] h λr h'=>h'=h/\r=.str (Lib.trimS s Zq):=λh=>Al d (c:=Zq) jD jD h;refine zo zID ?_;simp only[f377,zA];cases s with
 |nil=>
  have e1:decide ((([]:List UInt8).length:Int)<1)=true:=rfl
  repeat' first|simp only[go_sem, *]|apply bc<;>intro a
  rfl
 |cons b r=>
  have e1:decide (((b::r).length:Int)<1)=false:=zO (by simp only[zu];omega);have f:mG prog 9 (.str (b::r)) (.int .i64 0)=some (.int .u8 b.toNat):=rP (n:=0) underlying9 rfl;have i:=WD b r;generalize j:b::r=s at *
  repeat' first|simp only[go_sem, *]|apply bc<;>intro a|refine zE.use (e _) ?_
def bL(kind:Int)(name exc:List UInt8)(kids:Int):Int:=
 if((kind==0)||(kind==1))=true then
  (if(decide (kids>0)||((kind==1)&& !(exc== [])))=true then 1
  else if(!nP name||(!(exc== [])&& !nP exc))=true then 2 else 0)
 else if((kind==2)||(kind==3))=true then
  (if(decide (kids<2)|| !(name== [])|| !(exc== []))=true then 1 else 0)
 else 1
def Ex.err(e:Ex):Int:=bL e.kind e.name e.exc e.kids.length
def P3(a:e.Ok)(g:Heap):zE prog 323 [.agg e.cells] g λr h'=>h'=g/\r=.int .i64 e.err:=by
 obtain⟨h,i,x,l,d⟩:=e;simp only[Ex.Ok]at a;obtain⟨k,n,o1,o2,_⟩:=a;have f:=p5 k;have b:=Vw o1;have c:=Vw o2;have j:(Ex.mk h i x l d).err=bL h i x l.length:=rfl;rw[j];unfold bL;refine zo zH1 ?_;simp only[f323,zA];simp only[Ex.cells,Ex.kind,Ex.name,Ex.exc,Ex.d]
 repeat' first|simp only[go_sem, *]|apply bc<;>intro m|refine zE.use (b _) ?_|refine zE.use (c _) ?_
def Ex.errAt(e:Ex)(i:Nat):Int:=(e.pre.getD i e).err
def fL(e:Ex):Int:=
 if decide ((e.size:Int)>64)=true then 10
 else if decide ((e.depth:Int)>24)=true then 11
 else gI e.errAt e.size
def zIb:∀n:Nat,(∀e:Ex,e.size<=n->e.Ok->∀x∈e.pre,x.Ok)/\∀l:List Ex,qd l<=n->okL l->∀x∈XK l,x.Ok:=by
 intro n
 induction n with
 |zero=>
  refine⟨λe h=> ?_,λl h=> ?_⟩
  .cases e;simp only[Ex.size]at h;omega
  .cases l with
   |nil=>intro _ x f;simp[XK]at f
   |cons e l=>cases e;simp only[qd,Ex.size]at h;omega
 |succ n j=>
  have key:∀e:Ex,e.size<=n+1->e.Ok->∀x∈e.pre,x.Ok:=λe h g x f=>by
   obtain⟨a,b,c,l,d⟩:=e;simp only[Ex.size,Ex.pre]at h f;rcases yE.1 f with rfl|f
   .exact g
   .simp only[Ex.Ok]at g
    exact j.2 l ow g.2.2.2.2 x f
  refine⟨key,λl h=> ?_⟩
  induction l with
  |nil=>intro _ x f;simp[XK]at f
  |cons e l i=>
   intro g x f;simp only[qd,XK,okL]at h f g;rcases yv.1 f with f|f
   .exact key e ow g.1 x f
   .exact i ow g.2 x f
def Ex.pre_okAt(h:e.Ok)(i:Nat):(e.pre.getD i e).Ok:=by
 rw[zC];cases a:e.pre[i]? with
 |none=>exact h
 |some x=>exact(zIb e.size).1 e (zD _) h x (zj a)
def zDq(e:Ex)(c id:Nat)(L:LRec)(k:Nat)(S:Nat->Prop)(h:Heap):Prop:=
 (∀j,S j↔j=c\/j=id)/\c<id/\id<h.next/\h.at' c=some (.row [.int .i64 0])/\h.at' id=some (.loop L)/\∀j,j<k->e.errAt j=0
def zKa(e:Ex)(c id:Nat)(L:LRec)(S:Nat->Prop)(h:Heap):Prop:=
 (∀j,S j↔j=c\/j=id)/\c<id/\id<h.next/\∃v,v=gI e.errAt e.size/\h.at' c=some (.row [.int .i64 v])/\h.at' id=some (.loop { L with st:=.done,pending:=some .ret })
theorem P2(u:e.Ok)(P:e.size<=1048576)(g:Heap):zE prog 247 [.agg e.cells] g λr h'=>h'=g/\r=.int .i64 (fL e):=by
 refine xU kr λhh=> ?_;have a0:∀k:Int,below g.next (.int .i64 k):=λk=>trivial;have U:=zEJ u P;have X:=zAP e.size (zD _) u P;have K:=λh=>NE e h;obtain⟨W,a8,r0,E0,n0⟩:∃G,g.new g.next (.row [.int .i64 0])=G/\G.at' g.next=some (.row [.int .i64 0])/\Ext g G/\G.next=g.next+1:=⟨_,rfl,z5 _ _ _,(Ext.refl g).new (zD _) _,za _ _⟩;have N:∀v:Int,yR prog 39 (.ptr g.next 0) (.int .i64 v) W=some (W.set g.next (.row [.int .i64 v])):=λv=>by rw[yM r0 aw jS rfl rfl];rfl
 have a7:∀v:Int,Ext g (W.set g.next (.row [.int .i64 v])):=λv=>E0.set (zD _) _;obtain⟨R,b⟩:∃R,fL e=R:=⟨_,rfl⟩;rw[b];unfold fL at b;refine zo zHk ?_;simp only[f247,zA];simp only[Ex.cells]at U X K⊢;cases q1:decide ((e.size:Int)>64)with
 |true=>
  rw[ip q1]at b;subst b
  repeat' first|simp only[go_sem,zU, *]|apply bc<;>intro F|refine zE.use (U _) ?_
 |false=>
 rw[iq (by rw[q1];exact zV)]at b;cases q2:decide ((e.depth:Int)>24)with
 |true=>
  rw[ip q2]at b;subst b
  repeat' first|simp only[go_sem,zU, *]|apply bc<;>intro F|refine zE.use (U _) ?_|refine zE.use (X _) ?_
 |false=>
 rw[iq (by rw[q2];exact zV)]at b
 repeat' first|simp only[go_sem, *]|apply bc<;>intro F|refine zE.use (U _) ?_|refine zE.use (X _) ?_
 rename Heap=>G1
 refine(K _).mono ?_;rintro r h2 ⟨rfl,rfl⟩
 repeat' first|simp only[go_sem, *]|apply bc<;>intro F
 obtain⟨G,hG,ad,m1,m2,mE⟩:∃G,G1.new (g.next+1) (.row [nZ (g.next+1)])=G/\G.next=g.next+2/\G.at' g.next=some (.row [.int .i64 0])/\G.at' (g.next+1)=some (.row [nZ (g.next+1)])/\Ext g G:=
  ⟨_,rfl,qQ _ ow _,by rw[zg ow];exact r0,z5 _ _ _,E0.new ow _⟩
 rw[hG,ad];generalize E:LRec.mk _ _ _ _ _ _ _=L;have y:Yld prog (g.next+2) e.size (λi=>[.agg (e.pre.getD i e).cells]) (zDq e g.next (g.next+2) L) (zKa e g.next (g.next+2) L):=by
  refine⟨λk S h y i D=> ?_,λk S h h' y z J=> ?_,λS h y i D=> ?_,λS h h' y z J=> ?_,λi S h3 D hy=> ?_⟩
  .obtain⟨a,o,C,m,n⟩:=y
   rcases(a i).1 D with rfl|rfl<;>omega
  .obtain⟨a,o,C,m,n,p⟩:=y
   exact⟨a,o,ow,by rw[J _ ((a _).2 (.inl rfl))];exact m,by rw[J _ ((a _).2 (.inr rfl))];exact n,p⟩
  .obtain⟨a,o,C,m⟩:=y
   rcases(a i).1 D with rfl|rfl<;>omega
  .obtain⟨a,o,C,v,m,n,p⟩:=y
   exact⟨a,o,ow,v,m,by rw[J _ ((a _).2 (.inl rfl))];exact n,by rw[J _ ((a _).2 (.inr rfl))];exact p⟩
  .obtain⟨a,o,C,m,n,p⟩:=hy
   have T:=n;rw[<-E]at T;have M:=Ex.pre_okAt u i;have s:=λh=>P3 M h;have I:(e.pre.getD i e).err=e.errAt i:=rfl;rw[I]at s;generalize e.pre.getD i e=x at *
   have O:=Gg x (Ex.flat M) h3 h3.next;simp only[Ex.cells]at s⊢;refine uC.round (g:=zPx) mix T rfl kr kr kr ?_;simp only[go_sem,O];obtain⟨w,ak,z4,zL,zr,zn,zk⟩:∃w,h3.new h3.next (.row [.int .i64 x.kind,.str x.name,.str x.exc,x.d])=w/\w.at' g.next=some (.row [.int .i64 0])/\w.at' (g.next+2)=some (.loop L)/\w.at' h3.next=some (.row [.int .i64 x.kind,.str x.name,.str x.exc,x.d])/\w.next=h3.next+1/\∀j,j<h3.next->w.at' j=h3.at' j:=
    ⟨_,rfl,by rw[zg ow];exact m,by rw[zg ow];exact n,z5 _ _ _,za _ _,λj c=>by rw[zg ow]⟩
   rw[ak];refine⟨by rw[E];exact zL,?_⟩;generalize hB:LRec.mk .busy _ _ _ _ _ _=B;have Z:({ B with st:=.ready,pending:=none } :LRec)=L:=by rw[<-hB,<-E]
   have Y:({ B with st:=.done,pending:=some .ret } :LRec)= { L with st:=.done,pending:=some .ret } :=by rw[<-hB,<-E]
   generalize l:Heap.set w (g.next+2) (.loop B)=h5;have a1:h5.at' g.next=some (.row [.int .i64 0]):=by rw[<-l,zW ow];exact z4
   have a2:h5.at' h3.next=some (.row [.int .i64 x.kind,.str x.name,.str x.exc,x.d]):=by rw[<-l,zW ow];exact zr
   have a3:h5.at' (g.next+2)=some (.loop B):=by rw[<-l];simp[Heap.set]
   have a4:h5.next=h3.next+1:=by rw[<-l,yc,zn]
   have a5:∀j,j<h3.next->j≠g.next+2->h5.at' j=h3.at' j:=λj c z=>by rw[<-l,zW z,zk j c]
   have N:∀v:Int,yR prog 39 (.ptr g.next 0) (.int .i64 v) h5=some (h5.set g.next (.row [.int .i64 v])):=λv=>by rw[yM a1 aw jS rfl rfl];rfl
   cases hv:(e.errAt i==0)with
   |true=>
    have z:=pd (f:=e.errAt) p (by simpa using hv)
    repeat' first|simp only[go_sem, *]|apply bc<;>intro F|refine zE.use (s _) ?_
    rename Heap=>h5
    refine sK a3 ⟨λj=>j=g.next\/j=g.next+2,λj c=>.inl (by simpa using c),⟨by simp only[yc];omega,λj c V=> ?_⟩,.inl ⟨rfl,λj=>Iff.rfl,o,by simp only[yc];omega,?_,?_,z⟩⟩
    .have Q:j≠g.next+2:=λe=>V (by first|exact(a j).2 (.inr e)|exact .inr e)
     rw[zW Q,a5 j c Q]
    .rw[zW ow];exact a1
    .rw[zU,Z]
   |false=>
    have z:gI e.errAt e.size=e.errAt i:=jr D p (by simpa using hv)
    repeat' first|simp only[go_sem, *]|apply bc<;>intro F|refine zE.use (s _) ?_
    rename Heap=>h5
    refine Z5 (L:=B) (by rw[zW ow];exact a3) ⟨λj=>j=g.next\/j=g.next+2,λj c=>.inl (by simpa using c),⟨by simp only[yc];omega,λj c V=> ?_⟩,.inr ⟨rfl,λj=>Iff.rfl,o,by simp only[yc];omega,_,z.symm,?_,?_⟩⟩
    .have n1:j≠g.next:=λe=>V (by first|exact(a j).2 (.inl e)|exact .inl e)
     have Q:j≠g.next+2:=λe=>V (by first|exact(a j).2 (.inr e)|exact .inr e)
     rw[zW Q,zW n1,a5 j c Q]
    .rw[zW ow,zU]
    .rw[zU,Y]
 have aj:zDq e g.next (g.next+2) L 0 (λj=>j=g.next\/j=g.next+2) (G.new (g.next+2) (.loop L)):=
  ⟨λj=>Iff.rfl,ow,by rw[qQ _ ow];omega,by rw[zg ow];exact m1,z5 _ _ _,λj c=>absurd c (ym _)⟩
 have t:=TH y u (λj x hx=>by
  have:e.pre.getD j e=x:=by rw[zC,hx];rfl
  rw[this]) aj (v:=g.next+1) (by rw[qQ _ ow];omega) ow (by rw[zg ow];exact m2)
 refine t.mono ?_;rintro r h ⟨S',s1,s2,s3⟩;have H:∀(_:g.next+2<h.next)(_:∀j,S' j↔j=g.next\/j=g.next+2),Ext g (h.del (g.next+2)):=λz _=>by
  have a9:(G.new (g.next+2) (.loop L)).next=g.next+3:=qQ _ ow _;refine Ext.del ⟨ow,λi D=> ?_⟩ ow;rw[s2.2 i ow ow,zg ow,mE.2 i D]
 rcases s3 with⟨a,o,C,m,n,p⟩ | ⟨a,o,C,v,m,n,p⟩
 .have ai:L.st≠ .busy:=by rw[<-E];intro q;cases q
  have ag:L.pending=none:=by rw[<-E]
  refine⟨L,n,ai,?_⟩;rw[ag,pM];have A:(h.del (g.next+2)).at' g.next=some (.row [.int .i64 0]):=by rw[wQ ow];exact m
  have hE:=H C a;have N:yR prog 39 (.ptr g.next 0) (.int .i64 0) (h.del (g.next+2))=some ((h.del (g.next+2)).set g.next (.row [.int .i64 0])):=by rw[yM A aw jS rfl rfl];rfl
  have a6:=hE.set (id:=g.next) (zD _) (.row [.int .i64 0]);rw[tg p]at b;subst b
  repeat' first|simp only[go_sem,zU, *]|apply bc<;>intro F
 .refine⟨_,p,?_,?_⟩
  .intro q;cases q
  simp only[aX];have A:(h.del (g.next+2)).at' g.next=some (.row [.int .i64 v]):=by rw[wQ ow];exact n
  have hE:=H C a;rw[<-m]at b;subst b;exact au
def MP(c:Cat)(x:Ex):Int:=if(!(x.name== [])&& !VY c x.name x.exc)=true then 7 else 0
def Ex.unk(c:Cat)(e:Ex)(i:Nat):Int:=MP c (e.pre.getD i e)
def nO(c:Cat)(e:Ex):Int:=
 if(!(pR c==0))=true then 1
 else if(!(fL e==0))=true then fL e
 else gI (Ex.unk c e) e.size
def zDr(f:Nat->Int)(N c id:Nat)(L:LRec)(k:Nat)(S:Nat->Prop)(h:Heap):Prop:=
 (∀j,S j↔j=c\/j=id)/\c<id/\id<h.next/\h.at' c=some (.row [.int .i64 0])/\h.at' id=some (.loop L)/\∀j,j<k->f j=0
def zKb(f:Nat->Int)(N c id:Nat)(L:LRec)(S:Nat->Prop)(h:Heap):Prop:=
 (∀j,S j↔j=c\/j=id)/\c<id/\id<h.next/\∃v,v=gI f N/\h.at' c=some (.row [.int .i64 v])/\h.at' id=some (.loop { L with st:=.done,pending:=some .ret })
theorem Xp(o:uL c d)(hs:c.Sm)(K:e.Ok)(a9:e.size<=1048576)(g:Heap):zE prog 208 [d,.agg e.cells] g λr h'=>h'=g/\r=.int .i64 (nO c e):=by
 refine xU kr λhh=> ?_;have bb:∀k:Int,below g.next (.int .i64 k):=λk=>trivial;have c1:=dK o hs;have c2:=P2 K a9;have a7:=λba ad h=>zAV o hs ba ad h;obtain⟨ca,cb,ce,cp,rfl,_,_,_,_⟩:=o;have bx:∀u v:List UInt8,qX prog 197 [(0,.str u),(1,.str v)]=some (.agg [.str u,.str v]):=λu v=>by simp[qX,nQ,sj,uc,D.notTuple,D.cells,wg]
 have T:=λh=>NE e h;obtain⟨Y,bs,r0,E0,n0⟩:∃G,g.new g.next (.row [.int .i64 0])=G/\G.at' g.next=some (.row [.int .i64 0])/\Ext g G/\G.next=g.next+1:=⟨_,rfl,z5 _ _ _,(Ext.refl g).new (zD _) _,za _ _⟩;have U:∀v:Int,yR prog 39 (.ptr g.next 0) (.int .i64 v) Y=some (Y.set g.next (.row [.int .i64 v])):=λv=>by rw[yM r0 aw jS rfl rfl];rfl
 have bo:∀v:Int,Ext g (Y.set g.next (.row [.int .i64 v])):=λv=>E0.set (zD _) _;obtain⟨R,m⟩:∃R,nO c e=R:=⟨_,rfl⟩;rw[m];unfold nO at m;refine zo zHW ?_;simp only[f208,zA];simp only[Ex.cells]at c2 T⊢;cases q1:(pR c==0)with
 |false=>
  rw[ip (by rw[q1];rfl)]at m;subst m
  repeat' first|simp only[go_sem,zU, *]|apply bc<;>intro o|refine zE.use (c1 _) ?_
 |true=>
 rw[iq (by rw[q1];decide)]at m;cases q2:(fL e==0)with
 |false=>
  rw[ip (by rw[q2];rfl)]at m;subst m
  repeat' first|simp only[go_sem,zU, *]|apply bc<;>intro o|refine zE.use (c1 _) ?_|refine zE.use (c2 _) ?_
 |true=>
 rw[iq (by rw[q2];decide)]at m
 repeat' first|simp only[go_sem, *]|apply bc<;>intro o|refine zE.use (c1 _) ?_|refine zE.use (c2 _) ?_
 rename Heap=>G1
 refine(T _).mono ?_;rintro r h2 ⟨rfl,rfl⟩
 repeat' first|simp only[go_sem, *]|apply bc<;>intro o
 obtain⟨G,hG,ai,m1,m2,mE⟩:∃G,G1.new (g.next+1) (.row [nZ (g.next+1)])=G/\G.next=g.next+2/\G.at' g.next=some (.row [.int .i64 0])/\G.at' (g.next+1)=some (.row [nZ (g.next+1)])/\Ext g G:=
  ⟨_,rfl,qQ _ ow _,by rw[zg ow];exact r0,z5 _ _ _,E0.new ow _⟩
 rw[hG,ai];generalize M:LRec.mk _ _ _ _ _ _ _=L;have y:Yld prog (g.next+2) e.size (λi=>[.agg (e.pre.getD i e).cells]) (zDr (Ex.unk c e) e.size g.next (g.next+2) L) (zKb (Ex.unk c e) e.size g.next (g.next+2) L):=by
  refine⟨λk S h y i J=> ?_,λk S h h' y z Q=> ?_,λS h y i J=> ?_,λS h h' y z Q=> ?_,λi S h3 J hy=> ?_⟩
  .obtain⟨a,p,I,s,t⟩:=y
   rcases(a i).1 J with rfl|rfl<;>omega
  .obtain⟨a,p,I,s,t,w⟩:=y
   exact⟨a,p,ow,by rw[Q _ ((a _).2 (.inl rfl))];exact s,by rw[Q _ ((a _).2 (.inr rfl))];exact t,w⟩
  .obtain⟨a,p,I,s⟩:=y
   rcases(a i).1 J with rfl|rfl<;>omega
  .obtain⟨a,p,I,v,s,t,w⟩:=y
   exact⟨a,p,ow,v,s,by rw[Q _ ((a _).2 (.inl rfl))];exact t,by rw[Q _ ((a _).2 (.inr rfl))];exact w⟩
  .obtain⟨a,p,I,s,t,w⟩:=hy
   have W:=t;rw[<-M]at W;have a8:=Ex.pre_okAt K i;have l:MP c (e.pre.getD i e)=Ex.unk c e i:=rfl;unfold MP at l;generalize e.pre.getD i e=x at *
   have V:=Gg x (Ex.flat a8) h3 h3.next;simp only[Ex.cells];refine uC.round (g:=zPx) mix W rfl kr kr kr ?_;simp only[go_sem,V];obtain⟨E,a6,z4,zL,zr,zn,zk⟩:∃E,h3.new h3.next (.row [.int .i64 x.kind,.str x.name,.str x.exc,x.d])=E/\E.at' g.next=some (.row [.int .i64 0])/\E.at' (g.next+2)=some (.loop L)/\E.at' h3.next=some (.row [.int .i64 x.kind,.str x.name,.str x.exc,x.d])/\E.next=h3.next+1/\∀j,j<h3.next->E.at' j=h3.at' j:=
    ⟨_,rfl,by rw[zg ow];exact s,by rw[zg ow];exact t,z5 _ _ _,za _ _,λj b=>by rw[zg ow]⟩
   rw[a6];refine⟨by rw[M];exact zL,?_⟩;generalize hB:LRec.mk .busy _ _ _ _ _ _=B;have O:({ B with st:=.ready,pending:=none } :LRec)=L:=by rw[<-hB,<-M]
   have ag:({ B with st:=.done,pending:=some .ret } :LRec)= { L with st:=.done,pending:=some .ret } :=by rw[<-hB,<-M]
   generalize n:Heap.set E (g.next+2) (.loop B)=h5;have Z:h5.at' g.next=some (.row [.int .i64 0]):=by rw[<-n,zW ow];exact z4
   have a2:h5.at' h3.next=some (.row [.int .i64 x.kind,.str x.name,.str x.exc,x.d]):=by rw[<-n,zW ow];exact zr
   have a3:h5.at' (g.next+2)=some (.loop B):=by rw[<-n];simp[Heap.set]
   have a4:h5.next=h3.next+1:=by rw[<-n,yc,zn]
   have a5:∀j,j<h3.next->j≠g.next+2->h5.at' j=h3.at' j:=λj b z=>by rw[<-n,zW z,zk j b]
   have U:∀v:Int,yR prog 39 (.ptr g.next 0) (.int .i64 v) h5=some (h5.set g.next (.row [.int .i64 v])):=λv=>by rw[yM Z aw jS rfl rfl];rfl
   have A:=a7 x.name x.exc;cases b1:(x.name== [])with
   |true=>
    have z:=pd (f:=Ex.unk c e) w (by rw[<-l,iq (by rw[b1];exact zV)])
    repeat' first|simp only[go_sem, *]|apply bc<;>intro o
    refine sK a3 ⟨λj=>j=g.next\/j=g.next+2,λj b=>.inl (by simpa using b),⟨by simp only[yc];omega,λj b N=> ?_⟩,.inl ⟨rfl,λj=>Iff.rfl,p,by simp only[yc];omega,?_,?_,z⟩⟩
    .have H:j≠g.next+2:=λe=>N (by first|exact(a j).2 (.inr e)|exact .inr e)
     rw[zW H,a5 j b H]
    .rw[zW ow];exact Z
    .rw[zU,O]
   |false=>
   cases X:VY c x.name x.exc with
   |true=>
    have z:=pd (f:=Ex.unk c e) w (by rw[<-l,iq (by rw[b1,X];decide)]);rw[X]at A
    repeat' first|simp only[go_sem, *]|apply bc<;>intro o|refine zE.use (A _) ?_
    rename Heap=>h5
    refine sK a3 ⟨λj=>j=g.next\/j=g.next+2,λj b=>.inl (by simpa using b),⟨by simp only[yc];omega,λj b N=> ?_⟩,.inl ⟨rfl,λj=>Iff.rfl,p,by simp only[yc];omega,?_,?_,z⟩⟩
    .have H:j≠g.next+2:=λe=>N (by first|exact(a j).2 (.inr e)|exact .inr e)
     rw[zW H,a5 j b H]
    .rw[zW ow];exact Z
    .rw[zU,O]
   |false=>
    have hw:Ex.unk c e i=7:=by rw[<-l,ip (by rw[b1,X];rfl)]
    have z:gI (Ex.unk c e) e.size=7:=by rw[jr J w (by rw[hw];decide),hw]
    rw[X]at A
    repeat' first|simp only[go_sem, *]|apply bc<;>intro o|refine zE.use (A _) ?_
    rename Heap=>h5
    refine Z5 (L:=B) (by rw[zW ow];exact a3) ⟨λj=>j=g.next\/j=g.next+2,λj b=>.inl (by simpa using b),⟨by simp only[yc];omega,λj b N=> ?_⟩,.inr ⟨rfl,λj=>Iff.rfl,p,by simp only[yc];omega,_,z.symm,?_,?_⟩⟩
    .have n1:j≠g.next:=λe=>N (by first|exact(a j).2 (.inl e)|exact .inl e)
     have H:j≠g.next+2:=λe=>N (by first|exact(a j).2 (.inr e)|exact .inr e)
     rw[zW H,zW n1,a5 j b H]
    .rw[zW ow,zU]
    .rw[zU,ag]
 have a0:zDr (Ex.unk c e) e.size g.next (g.next+2) L 0 (λj=>j=g.next\/j=g.next+2) (G.new (g.next+2) (.loop L)):=
  ⟨λj=>Iff.rfl,ow,by rw[qQ _ ow];omega,by rw[zg ow];exact m1,z5 _ _ _,λj b=>absurd b (ym _)⟩
 have C:=TH y K (λj x hx=>by
  have:e.pre.getD j e=x:=by rw[zC,hx];rfl
  rw[this]) a0 (v:=g.next+1) (by rw[qQ _ ow];omega) ow (by rw[zg ow];exact m2)
 refine C.mono ?_;rintro r h ⟨S',s1,s2,s3⟩;have P:∀(_:g.next+2<h.next)(_:∀j,S' j↔j=g.next\/j=g.next+2),Ext g (h.del (g.next+2)):=λz _=>by
  have b0:(G.new (g.next+2) (.loop L)).next=g.next+3:=qQ _ ow _;refine Ext.del ⟨ow,λi J=> ?_⟩ ow;rw[s2.2 i ow ow,zg ow,mE.2 i J]
 rcases s3 with⟨a,p,I,s,t,w⟩ | ⟨a,p,I,v,s,t,w⟩
 .have ak:L.st≠ .busy:=by rw[<-M];intro q;cases q
  have aj:L.pending=none:=by rw[<-M]
  refine⟨L,t,ak,?_⟩;rw[aj,pM];have F:(h.del (g.next+2)).at' g.next=some (.row [.int .i64 0]):=by rw[wQ ow];exact s
  have hE:=P I a;have U:yR prog 39 (.ptr g.next 0) (.int .i64 0) (h.del (g.next+2))=some ((h.del (g.next+2)).set g.next (.row [.int .i64 0])):=by rw[yM F aw jS rfl rfl];rfl
  have bk:=hE.set (id:=g.next) (zD _) (.row [.int .i64 0]);rw[tg w]at m;subst m
  repeat' first|simp only[go_sem,zU, *]|apply bc<;>intro o
 .refine⟨_,w,?_,?_⟩
  .intro q;cases q
  simp only[aX];have F:(h.del (g.next+2)).at' g.next=some (.row [.int .i64 v]):=by rw[wQ ow];exact t
  have hE:=P I a;rw[<-s]at m;subst m;exact au
structure Fac where
 kind:Int
 comp:List UInt8
 out:List UInt8
 rel:Int
 way:Int
 duty:Int
 chg:Bool
 e:Ex
 list:List (List UInt8)
 d:D
def Fac.cells(f:Fac):List D:=[.int .i64 f.kind,.str f.comp,.str f.out,.int .i64 f.rel,.int .i64 f.way,.int .i64 f.duty,.bool f.chg,.int .i64 f.e.kind,.str f.e.name,.str f.e.exc,f.e.d,f.d]
structure Fac.Ok(f:Fac):Prop where
 e:f.e.Ok
 es:f.e.size<=1048576
 list:yg 1 (wh f.list) f.d
 ll:f.list.length<=1048576
 comp:f.comp.length<=1048576
 out:f.out.length<=1048576
structure Use where
 comp:Bool
 out:Bool
 rel:Bool
 chg:Bool
 e:Bool
 way:Bool
 list:Bool
 duty:Bool
def Use.cells(u:Use):List D:=[.bool u.comp,.bool u.out,.bool u.rel,.bool u.chg,.bool u.e,.bool u.way,.bool u.list,.bool u.duty]
def ZB(k:Int):Use×Bool:=
 if(k==0)=true then(⟨true,true,true,true,false,false,false,false⟩,true)
 else if(k==1)=true then(⟨true,false,false,false,true,false,false,false⟩,true)
 else if(k==2)=true then(⟨false,true,false,false,false,true,false,false⟩,true)
 else if(k==3)=true then(⟨false,true,false,false,false,false,true,false⟩,true)
 else if(k==4)=true then(⟨true,false,false,false,false,false,false,true⟩,true)
 else(⟨false,false,false,false,false,false,false,false⟩,false)
def zEM(k:Int)(g:Heap):zE prog 243 [.int .i64 k] g λr h'=>h'=g/\r=.tuple [.agg (ZB k).1.cells,.bool (ZB k).2]:=by
 refine xU kr λh=> ?_;have n:qX prog 310 [(0,.bool true),(1,.bool true),(2,.bool true),(3,.bool true)]=some (.agg [.bool true,.bool true,.bool true,.bool true,.bool false,.bool false,.bool false,.bool false]):=by simp[qX,nR,jX,uc,wg,D.notTuple,D.cells]
 have p:qX prog 310 [(0,.bool true),(4,.bool true)]=some (.agg [.bool true,.bool false,.bool false,.bool false,.bool true,.bool false,.bool false,.bool false]):=by simp[qX,nR,jX,uc,wg,D.notTuple,D.cells]
 have q:qX prog 310 [(1,.bool true),(5,.bool true)]=some (.agg [.bool false,.bool true,.bool false,.bool false,.bool false,.bool true,.bool false,.bool false]):=by simp[qX,nR,jX,uc,wg,D.notTuple,D.cells]
 have s:qX prog 310 [(1,.bool true),(6,.bool true)]=some (.agg [.bool false,.bool true,.bool false,.bool false,.bool false,.bool false,.bool true,.bool false]):=by simp[qX,nR,jX,uc,wg,D.notTuple,D.cells]
 have t:qX prog 310 [(0,.bool true),(7,.bool true)]=some (.agg [.bool true,.bool false,.bool false,.bool false,.bool false,.bool false,.bool false,.bool true]):=by simp[qX,nR,jX,uc,wg,D.notTuple,D.cells]
 have u:qX prog 310 []=some (.agg [.bool false,.bool false,.bool false,.bool false,.bool false,.bool false,.bool false,.bool false]):=by simp[qX,nR,jX,uc,wg,D.notTuple,D.cells]
 have l:∀a b c e f i j k:Bool,yR prog 310 (.ptr g.next 0) (.agg [.bool a,.bool b,.bool c,.bool e,.bool f,.bool i,.bool j,.bool k]) (g.new g.next (.row [.bool false,.bool false,.bool false,.bool false,.bool false,.bool false,.bool false,.bool false]))=some (g.new g.next (.row [.bool a,.bool b,.bool c,.bool e,.bool f,.bool i,.bool j,.bool k])):=λa b c e f i j k=>yo Gm ow rfl rfl rfl;have v:∀o,Ext g (g.new g.next o):=λo=>(Ext.refl g).new (zD _) o;have m:∀a b c e f i j k:D,yQ true 8 [a,b,c,e,f,i,j,k] 0=some (.agg [a,b,c,e,f,i,j,k]):=λa b c e f i j k=>zJ rfl ow
 have d:∀a b c e f i j k x:Bool,below g.next (.tuple [.agg [.bool a,.bool b,.bool c,.bool e,.bool f,.bool i,.bool j,.bool k],.bool x]):=λa b c e f i j k x=>by simp[below,qM]
 unfold ZB Use.cells;refine zo zHg ?_;simp only[f243,zA]
 repeat' first|simp only[go_sem,z5, *]|apply bc<;>intro w
def zAe(x:Ex)(g:Heap)(a:x.Ok):zE prog 317 [.agg x.cells] g λr h'=>h'=g/\r=.bool ((x.kind==0)&&(x.name== [])&&(x.exc== [])&&((x.kids.length:Int)==0)):=by
 obtain⟨c,e,f,l,d⟩:=x;simp only[Ex.Ok]at a;have b:=p5 a.1;refine zo zHv ?_;simp only[f317,zA];simp only[Ex.cells,Ex.kind,Ex.name,Ex.exc,Ex.d,Ex.kids];exact au
def As(x:Ex):Bool:=(x.kind==0)&&(x.name== [])&&(x.exc== [])&&((x.kids.length:Int)==0)
def aD(f:Fac)(u:Use):Bool:=
 (!u.comp&& !(f.comp== []))||(!u.out&& !(f.out== []))||(!u.rel&& !(f.rel==0))||(!u.chg&&f.chg)||(!u.e&& !As f.e)||(!u.way&& !(f.way==0))||(!u.list&&decide ((f.list.length:Int)>0))||(!u.duty&& !(f.duty==0))
def bd(a b c d e f g h i j k l:D):yQ true 12 [a,b,c,d,e,f,g,h,i,j,k,l] 0=some (.agg [a,b,c,d,e,f,g,h,i,j,k,l]):=zJ rfl ow
def gA(a b c d e f g h i j k l:D):yQ true 4 [a,b,c,d,e,f,g,h,i,j,k,l] 7=some (.agg [h,i,j,k]):=by simp[yQ]
def zAQ{f:Fac}(b:f.Ok){k:Int}(d:(ZB k).2=true)(g:Heap):zE prog 244 [.agg f.cells,.agg (ZB k).1.cells] g λr h'=>h'=g/\r=.bool (aD f (ZB k).1):=by
 have a:=λh=>zAe f.e h b.e;have i:((f.e.kind==0)&&(f.e.name== [])&&(f.e.exc== [])&&((f.e.kids.length:Int)==0))=As f.e:=rfl;rw[i]at a;have m:=wU b.list;have j:=bd;have l:=gA;simp only[Ex.cells]at a;refine zo zHh ?_;simp only[f244,zA];unfold ZB at d⊢;cases k0:(k==0)with
 |true=>
  simp only[qK,Use.cells,Fac.cells,aD]
  repeat' first|simp only[go_sem, *]|apply bc<;>intro c|refine zE.use (a _) ?_
 |false=>
 cases k1:(k==1)with
 |true=>
  simp only[zf,qK,yr,Use.cells,Fac.cells,aD]
  repeat' first|simp only[go_sem, *]|apply bc<;>intro c|refine zE.use (a _) ?_
 |false=>
 cases k2:(k==2)with
 |true=>
  simp only[zf,qK,yr,Use.cells,Fac.cells,aD]
  repeat' first|simp only[go_sem, *]|apply bc<;>intro c|refine zE.use (a _) ?_
 |false=>
 cases k3:(k==3)with
 |true=>
  simp only[zf,qK,yr,Use.cells,Fac.cells,aD]
  repeat' first|simp only[go_sem, *]|apply bc<;>intro c|refine zE.use (a _) ?_
 |false=>
 cases k4:(k==4)with
 |true=>
  simp only[zf,qK,yr,Use.cells,Fac.cells,aD]
  repeat' first|simp only[go_sem, *]|apply bc<;>intro c|refine zE.use (a _) ?_
 |false=>
 rw[k0,k1,k2,k3,k4]at d;cases d
def My(c:Cat)(f:Fac)(u:Use):Int:=
 if((u.comp&& !(Nw f.comp==0))||(u.out&& !(Nw f.out==0)))=true then 2
 else if(decide (f.rel<0)||decide (f.rel>2)||decide (f.way<0)||decide (f.way>2)||decide (f.duty<0)||decide (f.duty>3))=true then 3
 else if u.e=true then nO c f.e
 else if(f.list.any λs=> !(mY c s).isSome)=true then 7
 else if(!Wt f.list)=true then 5 else 0
def lE(c:Cat)(f:Fac):Int:=
 if(!(ZB f.kind).2||aD f (ZB f.kind).1)=true then 1 else My c f (ZB f.kind).1
def zIl(u:Use)(h:Heap)(id:Nat):yR prog 310 (.ptr id 0) (.agg u.cells) (h.new id (.row [.bool false,.bool false,.bool false,.bool false,.bool false,.bool false,.bool false,.bool false]))=some (h.new id (.row u.cells)):=yo Gm ow rfl rfl rfl
theorem P1(o:uL c d)(hs:c.Sm){f:Fac}(l:f.Ok)(g:Heap):zE prog 207 [d,.agg f.cells] g λr h'=>h'=g/\r=.int .i64 (lE c f):=by
 refine xU kr λhh=> ?_;have ag:∀k:Int,below g.next (.int .i64 k):=λk=>trivial;have K:=zEM f.kind;have X:=V1 l.comp;have Y:=V1 l.out;have F:=λh=>Xp o hs l.e l.es h;have H:=λk h=>IP o hs k h;have a5:=wU l.list;have a0:=bd;have a4:=gA;obtain⟨ca,cb,ce,cp,rfl,_,_,_,_⟩:=o;have a6:∀a b c e f i j k:D,yQ true 8 [a,b,c,e,f,i,j,k] 0=some (.agg [a,b,c,e,f,i,j,k]):=λa b c e f i j k=>zJ rfl ow;have m:∀hk:(ZB f.kind).2=true,∀h,zE prog 244 [.agg f.cells,.agg (ZB f.kind).1.cells] h λr h'=>h'=h/\r=.bool (aD f (ZB f.kind).1):=λhk h=>zAQ l hk h;obtain⟨R,t⟩:∃R,lE c f=R:=⟨_,rfl⟩;rw[t];unfold lE at t
 generalize hU:ZB f.kind=U at *
 obtain⟨u,ub⟩:=U;simp only at t m K;have J:=zIl u g g.next;obtain⟨G,hG,r0,O,n0⟩:∃G,g.new g.next (.row u.cells)=G/\G.at' g.next=some (.row u.cells)/\Ext g G/\G.next=g.next+1:=⟨_,rfl,z5 _ _ _,(Ext.refl g).new (zD _) _,za _ _⟩;rw[hG]at J;obtain⟨u1,u2,u3,u4,u5,u6,u7,u8⟩:=u;simp only[Use.cells]at J r0 K m;simp only[Ex.cells]at F;refine zo zHV ?_;simp only[f207,zA];simp only[Fac.cells]at m⊢;cases ub with
 |false=>
  rw[ip jS]at t;subst t
  repeat' first|simp only[go_sem, *]|apply bc<;>intro o|(refine zE.mono (K _) ?_;rintro r h ⟨hq,rfl⟩)
 |true=>
 have m:=m rfl;cases N:aD f ⟨u1,u2,u3,u4,u5,u6,u7,u8⟩with
 |true=>
  rw[ip (by rw[N];rfl)]at t;subst t;rw[N]at m
  repeat' first|simp only[go_sem, *]|apply bc<;>intro o|(refine zE.mono (K _) ?_;rintro r h ⟨hq,rfl⟩)|refine zE.use (m _) ?_
 |false=>
 rw[iq (by rw[N];decide)]at t;rw[N]at m;unfold My at t;obtain⟨L,Q⟩:∃L,(f.list.any λs=> !(mY c s).isSome)=L:=⟨_,rfl⟩;obtain⟨W,S⟩:∃W,Wt f.list=W:=⟨_,rfl⟩;simp only[Q,S]at t;subst t
 repeat' first|simp only[go_sem, *]|apply bc<;>intro o|(refine zE.mono (K _) ?_;rintro r h ⟨hq,rfl⟩)|refine zE.use (m _) ?_|refine zE.use (X _) ?_|refine zE.use (Y _) ?_|refine zE.use (F _) ?_
 all_goals
  rename Heap=>G
  refine zZ (λk fr h=>fr 2=.iptr [ca,cb,ce,cp] 0/\fr 3=.iptr [.int .i64 f.kind,.str f.comp,.str f.out,.int .i64 f.rel,.int .i64 f.way,.int .i64 f.duty,.bool f.chg,.int .i64 f.e.kind,.str f.e.name,.str f.e.exc,f.e.d,f.d] 0/\fr 78=f.d/\fr 79=.int .i64 (f.list.length:Int)/\fr 80=.int .i64 (k:Int)/\Ext g h/\∀j (v:j<f.list.length),j<k->(!(mY c f.list[j]).isSome)=false) f.list.length (by have:=l.ll;omega) ?_ ?_ ?_
  .simp only[go_sem,zQ,zT,zG]
   exact⟨O,λj v h0=>absurd h0 (ym _)⟩
  .clear O r0 n0
   rintro k fr h n ec ew ⟨f2,M,B,C,E,z,v⟩;have a1:=sw l.list n;have w:=H f.list[k];have y:=λx:Lic=>gL x h h.next;cases hf:mY c f.list[k]with
   |none=>
    have T:fK c f.list[k]=.tuple [.agg ZT,.bool false]:=by unfold fK;rw[hf]
    have A:L=true:=by rw[<-Q];exact Xa (p:=λs=> !(mY c s).isSome) n (by simp only[hf];rfl)
    have ad:=y ⟨[],[],0,[]⟩;have P:=z.new z.1 (.row ZT);rw[T]at w;subst A
    repeat' first|simp only[go_sem, *]|apply bc<;>intro o|refine zE.use (w _) ?_
   |some x=>
    have T:fK c f.list[k]=.tuple [.agg [.str x.name,.str x.fam,.int .i64 x.ver,.str x.text],.bool true]:=by unfold fK;rw[hf]
    have V:=uq (p:=λs=> !(mY c s).isSome) n v (by simp only[hf];rfl);have ad:=y x;have P:=z.new z.1 (.row [.str x.name,.str x.fam,.int .i64 x.ver,.str x.text]);rw[T]at w
    repeat' first|simp only[go_sem, *]|apply bc<;>intro o|refine zE.use (w _) ?_
    exact V
  .clear O r0 n0 H
   rintro fr h ec ⟨f2,M,B,C,E,z,v⟩;have A:L=false:=by rw[<-Q];exact cL λj I _=>v j I I
   subst A;simp only[go_sem,f2,M,B,C,E,ec];refine ql (λi fr k=>fr 3=.iptr [.int .i64 f.kind,.str f.comp,.str f.out,.int .i64 f.rel,.int .i64 f.way,.int .i64 f.duty,.bool f.chg,.int .i64 f.e.kind,.str f.e.name,.str f.e.exc,f.e.d,f.d] 0/\fr 11=.int .i64 ((i+1:Nat):Int)/\Ext g k/\∀j,j<i->j<f.list.length-1->leB (f.list.getD (j+1) []) (f.list.getD j [])=false) f.list.length ?_ ?_
   .simp only[go_sem,zQ,zT,zG]
    exact⟨M,rfl,z,λj v=>absurd v (ym _)⟩
   rintro i fr h hi ⟨M,ak,z,v⟩;have ai:=l.ll;by_cases n:i+1<f.list.length
   .have e1:decide (((i+1:Nat):Int)<(f.list.length:Int))=true:=zR ow
    have ew:IntKind.i64.wrap (((i+1:Nat):Int)+1)=((i+2:Nat):Int):=qR jL;have aj:IntKind.i64.wrap (((i+1:Nat):Int)-1)=((i:Nat):Int):=by rw[qJ ow ow];omega
    have a1:=sw l.list n;have a2:=sw l.list (show i<f.list.length by omega);have a3:=ZN f.list[i+1] f.list[i];cases hb:leB f.list[i+1] f.list[i]with
    |true=>
     have Z:Wt f.list=false:=zO λq=>by
      have:=q i ow;rw[Qg n,Qg ow,hb]at this;cases this
     have hr:W=false:=by rw[<-S];exact Z
     subst hr
     repeat' first|simp only[go_sem, *]|apply bc<;>intro o
     refine yF kr ?_
     repeat' first|simp only[go_sem, *]|apply bc<;>intro o
    |false=>
     have V:∀j,j<i+1->j<f.list.length-1->leB (f.list.getD (j+1) []) (f.list.getD j [])=false:=λj h1 h2=>by
      rcases zx.1 h1 with q|rfl
      .exact v j q h2
      .rw[Qg n,Qg ow,hb]
     repeat' first|simp only[go_sem, *]|apply bc<;>intro o
     refine yF kr ?_
     repeat' first|simp only[go_sem, *]|apply bc<;>intro o
     exact⟨ow,V⟩
   .have e1:decide (((i+1:Nat):Int)<(f.list.length:Int))=false:=zO ow
    have hr:W=true:=by rw[<-S];exact zR λj h=>v j ow h
    subst hr;exact au
def nu(l:List Fac):List (List D):=l.map Fac.cells
def lD(l:List Fac):(nu l).length=l.length:=zH ..
def Ei{l:List Fac}(h:i<l.length):(nu l)[i]? =some l[i].cells:=by simp[nu,h]
def pp{l:List Fac}(a:yg 12 (nu l) d)(h:Heap):o5 prog 29 d h=some (.int .i64 l.length):=by rw[wL a underlying29,lD]
def tZ{l:List Fac}(a:yg 12 (nu l) d)(b:i<l.length):yj prog 29 d (.int .i64 (i:Int))=some (.iptr l[i].cells 0):=yW a dS cZ (Ei b)
abbrev zQc:List D:=[.int .i64 0,.str [],.str [],.int .i64 0,.int .i64 0,.int .i64 0,.bool false,.int .i64 0,.str [],.str [],.nilsl,.nilsl]
def Ui{f:Fac}(a:f.Ok)(h:Heap)(id:Nat):yR prog 57 (.ptr id 0) (.agg f.cells) (h.new id (.row zQc))=some (h.new id (.row f.cells)):=yo cZ ow rfl rfl (by show(true&&(true&&(true&&(true&&(true&&(true&&(true&&(true&&(true&&(true&&(f.e.d.flat&&(f.d.flat&&true))))))))))))=true;rw[Ex.flat a.e,kP a.list];rfl)
def rh(c:Cat)(l:List Fac)(i:Nat):Int:=match l[i]? with
 |some f=>lE c f
 |none=>0
def JD(f:Nat->Int):Nat->Option (Nat×Int)
 |0=>none
 |n+1=>match JD f n with
  |some p=>some p
  |none=>if(f n==0)=true then none else some (n,f n)
theorem aI{f:Nat->Int} :∀{n:Nat},(∀j,j<n->f j=0)->JD f n=none
 |0,_=>rfl
 |n+1,h=>by simp[JD,aI (n:=n) λj a=>h j ow,h n ow]
theorem HM{f:Nat->Int} :∀{n i:Nat},i<n->(∀j,j<i->f j=0)->f i≠0->JD f n=some (i,f i)
 |n+1,i,b,a,h0=>by
  rcases zx.1 b with q|rfl
  .simp[JD,HM q a h0]
  .simp[JD,aI a,h0]
def wj(c:Cat)(l:List Fac):Int×Int:=
 if(!(pR c==0))=true then(-1,1)
 else if decide ((l.length:Int)>256)=true then(-1,10)
 else match JD (rh c l) l.length with
  |some p=>((p.1:Int),p.2)
  |none=>(0,0)
def P0(o:uL c d)(H:c.Sm){l:List Fac}(J:yg 12 (nu l) x)(U:l.length<=1048576)(t:∀f∈l,f.Ok)(g:Heap):zE prog 148 [d,x] g λr h'=>h'=g/\r=.tuple [.int .i64 (wj c l).1,.int .i64 (wj c l).2]:=by
 refine xU kr λT=> ?_;have G:∀k m:Int,below g.next (.tuple [.int .i64 k,.int .i64 m]):=λk m=>by simp[below,qM]
 have q:=dK o H;have b:=λf (hf:f∈l) h=>P1 o H (t f hf) h;have P:=pp J;have O:=bd;have B:=Ext.refl g;obtain⟨ca,cb,ce,cp,rfl,_,_,_,_⟩:=o;refine zo zG4 ?_;simp only[f148,zA];cases E:(pR c==0)with
 |false=>
  have s:wj c l=(-1,1):=ip (by rw[E];rfl);clear b
  repeat' first|simp only[go_sem, *]|apply bc<;>intro o|(refine zE.mono (q _) ?_;rintro r h ⟨v,rfl⟩)
 |true=>
 cases K:decide ((l.length:Int)>256)with
 |true=>
  have s:wj c l=(-1,10):=by unfold wj;rw[iq (by rw[E];decide),ip K]
  clear b
  repeat' first|simp only[go_sem, *]|apply bc<;>intro o|(refine zE.mono (q _) ?_;rintro r h ⟨v,rfl⟩)
 |false=>
 have s:wj c l=match JD (rh c l) l.length with
  |some p=>((p.1:Int),p.2)
  |none=>(0,0):=by unfold wj;rw[iq (by rw[E];decide),iq (by rw[K];exact zV)]
 obtain⟨R,F⟩:∃R,wj c l=R:=⟨_,rfl⟩;rw[F]at s⊢;have a:=s.symm;clear s F
 repeat' first|simp only[go_sem, *]|apply bc<;>intro o|(refine zE.mono (q _) ?_;rintro r h ⟨v,rfl⟩)
 refine zZ (λk fr h=>fr 2=.iptr [ca,cb,ce,cp] 0/\fr 15=x/\fr 16=.int .i64 (l.length:Int)/\fr 17=.int .i64 (k:Int)/\Ext g h/\∀j,j<k->rh c l j=0) l.length ow ?_ ?_ ?_
 .simp only[go_sem,zQ,zT,zG]
  exact⟨B,λj n=>absurd n (ym _)⟩
 .rintro k fr h i M S ⟨N,w,y,z,A,n⟩
  have L:=tZ J i;have hf:=b l[k] (zI i);have D:=Ui (t l[k] (zI i)) h h.next;have C:=A.new A.1 (.row l[k].cells);have e:rh c l k=lE c l[k]:=by simp[rh,i]
  generalize l[k]=f at *
  simp only[Fac.cells]at L hf D C;cases I:(lE c f==0)with
  |true=>
   have Q:=pd n (by rw[e];simpa using I);clear n b e a
   repeat' first|simp only[go_sem,z5, *]|apply bc<;>intro o|(refine zE.mono (hf _) ?_;rintro r h ⟨v,rfl⟩)
   exact Q
  |false=>
   have u:JD (rh c l) l.length=some (k,lE c f):=by rw[HM i n (by rw[e];simpa using I),e]
   rw[u]at a;simp only at a;have r1:R.1=(k:Int):=by rw[<-a]
   have r2:R.2=lE c f:=by rw[<-a]
   clear n b e a u
   repeat' first|simp only[go_sem,z5, *]|apply bc<;>intro o|(refine zE.mono (hf _) ?_;rintro r h ⟨v,rfl⟩)
 .rintro fr h M ⟨N,w,y,z,A,n⟩
  rw[aI n]at a;simp only at a;have r1:R.1=0:=by rw[<-a]
  have r2:R.2=0:=by rw[<-a]
  clear n b a;exact au
end Go.V
