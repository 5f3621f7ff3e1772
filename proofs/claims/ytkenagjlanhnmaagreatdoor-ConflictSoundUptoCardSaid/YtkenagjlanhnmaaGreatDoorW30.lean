/- Contracts of functions that the law reaches, part 2. No condition. -/
import Derived.Test.YtkenagjlanhnmaaGreatDoorW29
set_option linter.all false
set_option maxHeartbeats 8000000
namespace Go.V
open Go.Proofs.Tryz
open Go.Proofs
set_option maxRecDepth 100000
inductive Ex where
 |mk:Int->List UInt8->List UInt8->List Ex->D->Ex
def Ex.kind:Ex->Int
 |.mk k _ _ _ _=>k
def Ex.name:Ex->List UInt8
 |.mk _ n _ _ _=>n
def Ex.exc:Ex->List UInt8
 |.mk _ _ x _ _=>x
def Ex.kids:Ex->List Ex
 |.mk _ _ _ l _=>l
def Ex.d:Ex->D
 |.mk _ _ _ _ d=>d
def Ex.cells(e:Ex):List D:=[.int .i64 e.kind,.str e.name,.str e.exc,e.d]
def exs(l:List Ex):List (List D):=l.map Ex.cells
def LR(l:List Ex):(exs l).length=l.length:=zI ..
variable{i j id:Nat}{d x:D}{S:Nat->Prop}{g:Heap}{s:List UInt8}{c:Cat}
def AV{l:List Ex}(h:i<l.length):(exs l)[i]? =some l[i].cells:=by simp[exs,h]
mutual
def Ex.size:Ex->Nat
 |.mk _ _ _ l _=>qR l+1
def qR:List Ex->Nat
 | []=>0
 |e::l=>e.size+qR l
end
mutual
def Ex.depth:Ex->Nat
 |.mk _ _ _ l _=>nK l+1
def nK:List Ex->Nat
 | []=>0
 |e::l=>max e.depth (nK l)
end
mutual
def Ex.Ok:Ex->Prop
 |.mk _ n x l d=>yZ 4 (exs l) d/\l.length<=1048576/\n.length<=1048576/\x.length<=1048576/\okL l
def okL:List Ex->Prop
 | []=>True
 |e::l=>e.Ok/\okL l
end
theorem pa:∀{l:List Ex},okL l->∀e∈l,e.Ok
 |e::l,h,x,a=>by
  simp only[okL]at h;rcases z7.1 a with rfl|a
  .exact h.1
  .exact pa h.2 x a
theorem wu:∀{l:List Ex}{e:Ex},e∈l->e.size<=qR l
 |x::l,e,h=>by
  simp only[qR];rcases z7.1 h with rfl|h
  .omega
  .have:=wu h;omega
def Gn:∀n:Nat,(∀e:Ex,e.size<=n->e.depth<=e.size)/\∀l:List Ex,qR l<=n->nK l<=qR l:=by
 intro n
 induction n with
 |zero=>
  refine⟨λe h=> ?_,λl h=> ?_⟩
  .cases e;simp only[Ex.size]at h;omega
  .cases l with
   |nil=>simp[nK]
   |cons e l=>cases e;simp only[qR,Ex.size]at h;omega
 |succ n b=>
  have key:∀e:Ex,e.size<=n+1->e.depth<=e.size:=λe h=>by
   obtain⟨_,_,_,l,_⟩:=e;simp only[Ex.size,Ex.depth]at h⊢;have:=b.2 l ow;omega
  refine⟨key,λl h=> ?_⟩
  induction l with
  |nil=>simp[nK]
  |cons e l a=>
   simp only[qR,nK]at h⊢;have h1:=key e ow;have c:=a ow;omega
theorem XD(e:Ex):∀l:List Ex,nK (l++ [e])=max (nK l) e.depth
 | []=>by simp[nK]
 |x::l=>by
  have:=XD e l;simp only[yG,nK,this];omega
def pZ{l:List Ex}(a:yZ 4 (exs l) d)(h:Heap):o9 prog 53 d h=some (.int .i64 l.length):=by rw[wL a underlying53,LR]
def l9{l:List Ex}(a:yZ 4 (exs l) d)(b:i<l.length):yc prog 53 d (.int .i64 (i:Int))=some (.iptr l[i].cells 0):=yR a bL jq (AV b)
def zLt(a b:Nat):Fk (.int .i64 (a:Int)) (.int .i64 (b:Int))=some (.int .i64 ((max a b:Nat):Int)):=by
 simp only[Fk,qF];by_cases q:(b:Int)>a
 .rw[ip q,Nat.max_eq_right ow]
 .rw[iq q,Nat.max_eq_left ow]
abbrev zEx:List D:=[.int .i64 0,.str [],.str [],.nilsl]
def It(x:Ex)(hf:x.d.flat=true)(h:Heap)(id:Nat):yW prog 55 (.ptr id 0) (.agg [.int .i64 x.kind,.str x.name,.str x.exc,x.d]) (h.new id (.row zEx))=some (h.new id (.row [.int .i64 x.kind,.str x.name,.str x.exc,x.d])):=ym jq ow rfl rfl (by show(true&&(true&&(true&&(x.d.flat&&true))))=true;rw[hf];rfl)
def Ex.flat{x:Ex}(h:x.Ok):x.d.flat=true:=by
 cases x;simp only[Ex.Ok]at h;exact lZ h.1
def Bj:∀(n:Nat){e:Ex},e.size<=n->e.Ok->e.size<=1048576->∀g:Heap,zD prog 322 [.agg e.cells] g λr h'=>h'=g/\r=.int .i64 (e.depth:Int):=by
 intro n
 induction n with
 |zero=>intro e h;cases e;simp only[Ex.size]at h;omega
 |succ n J=>
 intro e H c p g;refine xU kr λM=> ?_;obtain⟨k,K,x,l,d⟩:=e;simp only[Ex.size,Ex.Ok]at H c p;obtain⟨u,N,_,_,b⟩:=c;have v:=pZ u;have G:=(Gn (qR l)).2 l (zC _);have t:∀k:Int,below g.next (.int .i64 k):=λk=>trivial;have m:=Ext.refl g;have E:(Ex.mk k K x l d).depth=nK l+1:=by simp only[Ex.depth]
 rw[E];refine zj zGK ?_;simp only[f322,zA];simp only[Ex.cells,Ex.kind,Ex.name,Ex.exc,Ex.d]
 repeat' first|simp only[go_sem, *]|apply bc<;>intro F
 refine zY (λi fr h=>fr 7=d/\fr 8=.int .i64 (l.length:Int)/\fr 9=.int .i64 (i:Int)/\fr 3=.int .i64 ((nK (l.take i):Nat):Int)/\Ext g h) l.length ow ?_ ?_ ?_
 .simp only[go_sem,zM,zV,zG]
  exact⟨rfl,m⟩
 .rintro i fr h a z L ⟨A,B,C,s,j⟩
  have y:=l9 u a;have f:l[i]∈l:=zH a;have w:=J (e:=l[i]) (by have:=wu f;omega) (pa b _ f) (by have:=wu f;omega);have I:=It l[i] (Ex.flat (pa b _ f)) h h.next;have D:=j.new j.1 (.row [.int .i64 l[i].kind,.str l[i].name,.str l[i].exc,l[i].d]);have o:=zLt (nK (l.take i)) l[i].depth;have q:nK (l.take (i+1))=max (nK (l.take i)) l[i].depth:=by rw[zP a,XD]
  rw[<-q]at o;simp only[Ex.cells]at y w
  repeat' first|simp only[go_sem,z5, *]|apply bc<;>intro F|refine zD.use (w _) ?_
 .rintro fr h z ⟨A,B,C,s,j⟩
  rw[yC]at s;have O:IntKind.i64.wrap ((nK l:Int)+1)=((nK l+1:Nat):Int):=qH jL;exact au
mutual
def Ex.pre:Ex->List Ex
 |.mk k n x l d=>.mk k n x l d::YU l
def YU:List Ex->List Ex
 | []=>[]
 |e::l=>e.pre++YU l
end
def zLa:∀n:Nat,(∀e:Ex,e.size<=n->e.pre.length=e.size)/\∀l:List Ex,qR l<=n->(YU l).length=qR l:=by
 intro n
 induction n with
 |zero=>
  refine⟨λe h=> ?_,λl h=> ?_⟩
  .cases e;simp only[Ex.size]at h;omega
  .cases l with
   |nil=>simp[YU,qR]
   |cons e l=>cases e;simp only[qR,Ex.size]at h;omega
 |succ n b=>
  have key:∀e:Ex,e.size<=n+1->e.pre.length=e.size:=λe h=>by
   obtain⟨_,_,_,l,_⟩:=e;simp only[Ex.size,Ex.pre,zx]at h⊢;rw[b.2 l ow]
  refine⟨key,λl h=> ?_⟩
  induction l with
  |nil=>simp[YU,qR]
  |cons e l a=>
   simp only[qR,YU,zQ]at h⊢;rw[key e ow,a ow]
def Ex.pre_len(e:Ex):e.pre.length=e.size:=(V.zLa e.size).1 e (zC _)
def MP(l:List Ex):(YU l).length=qR l:=(V.zLa (qR l)).2 l (zC _)
theorem MO:∀l m:List Ex,YU (l++m)=YU l++YU m
 | [],m=>by simp[YU]
 |e::l,m=>by simp[YU,MO l m]
theorem bt:∀l m:List Ex,qR (l++m)=qR l+qR m
 | [],m=>by simp[qR]
 |e::l,m=>by simp[qR,bt l m];omega
def IN{l:List Ex}(c:i<l.length){x:Ex}(a:l[i].pre[j]? =some x):(YU l)[qR (l.take i)+j]? =some x:=by
 have h1:l=l.take i++(l[i]::l.drop (i+1)):=by rw[<-yi c,qg]
 have d:j<l[i].pre.length:=(zK.1 a).1;have b:YU l=YU (l.take i)++(l[i].pre++YU (l.drop (i+1))):=by
  have:=congrArg YU h1;rw[MO]at this;exact this
 rw[b,yf (by rw[MP];omega),MP,show qR (l.take i)+j-qR (l.take i)=j by omega,yj d,a]
def Lt{l:List Ex}(a:i<l.length):qR (l.take (i+1))=qR (l.take i)+l[i].size:=by
 rw[zP a,bt];simp[qR]
def zHu(Y:Nat->(Nat->Prop)->Heap->Prop)(Z:(Nat->Prop)->Heap->Prop)(S:Nat->Prop)(g:Heap)(k:Nat)(r:D)(h':Heap):Prop:=
 ∃S',(∀i,S' i->S i\/g.next<=i)/\But S g h'/\((r=.bool true/\Y k S' h')\/(r=.bool false/\Z S' h'))
abbrev oy(v:Nat):D:=.fn (.func 324) [] [.ptr v 0]
def AH{id len:Nat}{el:Nat->List D}{Y:Nat->(Nat->Prop)->Heap->Prop}{Z:(Nat->Prop)->Heap->Prop}(y:Yld prog id len el Y Z):∀(n:Nat){e:Ex},e.size<=n->e.Ok->∀{k:Nat}{S:Nat->Prop}{g:Heap}{v:Nat},k+e.size<=len->(∀j x,e.pre[j]? =some x->el (k+j)= [.agg x.cells])->
  Y k S g->v<g.next->¬S v->g.at' v=some (.row [oy v])->
  zD prog 324 [.agg e.cells,.yld id,.ptr v 0] g (zHu Y Z S g (k+e.size)):=by
 intro n
 induction n with
 |zero=>intro e h;cases e;simp only[Ex.size]at h;omega
 |succ n ih=>
 intro e hn f k S g v hk J hY hv F L;have t:=J 0 e (by cases e;simp[Ex.pre]);rw[qo]at t;obtain⟨kd,nm,x,l,d⟩:=e;simp only[Ex.size,Ex.Ok]at hn f hk;obtain⟨hd,hl,_,_,ad⟩:=f;have K:∀j x,(YU l)[j]? =some x->el (k+1+j)= [.agg x.cells]:=λj x hx=>by
  have:=J (j+1) x (by simp only[Ex.pre,uz];exact hx);rw[<-this];congr 1;omega
 have ak:=pZ hd;have ai:(Ex.mk kd nm x l d).size=qR l+1:=by simp only[Ex.size]
 rw[ai];have B:=y.go k S g ow hY;rw[t]at B;simp only[Ex.cells,Ex.kind,Ex.name,Ex.exc,Ex.d]at B;refine zj zGM ?_;simp only[f324,zA];simp only[Ex.cells,Ex.kind,Ex.name,Ex.exc,Ex.d];simp only[go_sem, *];refine B.mono ?_;rintro r h ⟨S1,m,p,hr⟩;rcases hr with⟨rfl,A⟩ | ⟨rfl,V⟩
 rotate_left
 .have u:zHu Y Z S g (k+(qR l+1)) (.bool false) h:=⟨S1,m,p,.inr ⟨rfl,V⟩⟩
  exact au
 simp only[go_sem, *];refine zY (λi fr h'=>fr 1=.yld id/\fr 2=.ptr v 0/\fr 13=d/\fr 14=.int .i64 (l.length:Int)/\fr 15=.int .i64 (i:Int)/\∃S',(∀j,S' j->S j\/g.next<=j)/\But S g h'/\Y (k+1+qR (l.take i)) S' h') l.length ow ?_ ?_ ?_
 .simp only[go_sem,zM,zV,zG]
  exact⟨S1,m,p,A⟩
 .clear m p A
  rintro i fr h s ec ew ⟨f1,f2,O,P,Q,M,b,a,o⟩;have a1:=l9 hd s;have hm:l[i]∈l:=zH s;have f:=pa ad _ hm;have a2:=wu hm;have C:h.at' v=some (.row [oy v]):=by rw[a.2 v hv F];exact L
  have a3:v<h.next:=zl hv a.1;have ag:=It l[i] (Ex.flat f) h h.next;obtain⟨H,hH,z,r1,r2,a0⟩:∃H,h.new h.next (.row [.int .i64 l[i].kind,.str l[i].name,.str l[i].exc,l[i].d])=H/\Ext h H/\H.at' h.next=some (.row [.int .i64 l[i].kind,.str l[i].name,.str l[i].exc,l[i].d])/\H.at' v=some (.row [oy v])/\h.next<H.next:=⟨_,rfl,(Ext.refl h).new (zC _) _,z5 _ _ _,by rw[zf ow];exact C,by rw[za];omega⟩;rw[hH]at ag;have E:=Lt s;have aj:qR (l.take i)+l[i].size<=qR l:=by
   have h1:l=l.take (i+1)++l.drop (i+1):=(qg _ _).symm;have h2:=congrArg qR h1;rw[bt,E]at h2;omega
  have G:¬M v:=λq=>(b v q).elim F ow;have c:=ih (e:=l[i]) ow f (k:=k+1+qR (l.take i)) (S:=M) (g:=H) (v:=v) ow (λj x hx=>by
   have:=K _ x (IN s hx);rw[<-this];congr 1;omega) (y.ext o z) ow G r2
  simp only[Ex.cells]at a1 c;simp only[go_sem, *];refine c.mono ?_;rintro r h3 ⟨N,R,X,hr⟩;have w:∀j,N j->S j\/g.next<=j:=λj hj=>by
   rcases R j hj with q|q
   .exact b j q
   .exact .inr (by have:=a.1;have:=z.1;omega)
  have I:But S g h3:=(a.trans (z.but S) λi hi=>.inl hi).trans X b;rcases hr with⟨rfl,T⟩ | ⟨rfl,W⟩
  .have U:Y (k+1+qR (l.take (i+1))) N h3:=by rw[E,<-qf];exact T
   simp only[go_sem, *];rw[<-E];exact⟨N,w,U⟩
  .have u:zHu Y Z S g (k+(qR l+1)) (.bool false) h3:=⟨N,w,I,.inr ⟨rfl,W⟩⟩
   exact au
 .clear m p A
  rintro fr h ec ⟨f1,f2,O,P,Q,M,b,a,o⟩;rw[yC]at o;have u:zHu Y Z S g (k+(qR l+1)) (.bool true) h:=⟨M,b,a,.inl ⟨rfl,by rw[show k+(qR l+1)=k+1+qR l by omega];exact o⟩⟩;exact au
abbrev zAD(v:Nat)(e:Ex):D:=.fn (.func 325) [] [.ptr v 0,.iptr e.cells 0]
def Q8(e:Ex)(g:Heap):zD prog 248 [.agg e.cells] g λr h'=>r=zAD g.next e/\h'=g.new g.next (.row [oy g.next]):=by
 have a:∀(t:TypeId)(nid:Nat)(h:Heap),dS t nid h (some .nilfn)=some (.ptr nid 0,h.new nid (.row [.nilfn])):=λ_ _ _=>rfl;have b:yW prog 368 (.ptr g.next 0) (oy g.next) (g.new g.next (.row [.nilfn]))=some (g.new g.next (.row [oy g.next])):=ym zA6 ow rfl rfl rfl;refine zj zF5 ?_;simp only[f248,zA];simp only[Ex.cells];simp only[go_sem, *];rfl
variable{e:Ex}
def UJ{el:Nat->List D}{Y:Nat->(Nat->Prop)->Heap->Prop}{Z:(Nat->Prop)->Heap->Prop}(y:Yld prog id e.size el Y Z)(f:e.Ok){v:Nat}(d:∀j x,e.pre[j]? =some x->el j= [.agg x.cells])
  (n:Y 0 S g) (o:v<g.next) (c:¬S v) (b:g.at' v=some (.row [oy v])):
  zD prog 325 [.yld id,.ptr v 0,.iptr e.cells 0] g λ_ h'=>∃S',(∀i,S' i->S i\/g.next<=i)/\But S g h'/\(Y e.size S' h'\/Z S' h'):=by
 have a:=AH y e.size (zC _) f (k:=0) ow (λj x p=>by rw[yH];exact d j x p) n o c b;refine zj zGN ?_;simp only[f325,zA];simp only[Ex.cells]at a⊢;simp only[go_sem, *];refine a.mono ?_;rintro r h ⟨S',h1,l,h3⟩;rw[yH]at h3;have m:∃S',(∀i,S' i->S i\/g.next<=i)/\But S g h/\(Y e.size S' h\/Z S' h):=⟨S',h1,l,h3.imp And.right And.right⟩;clear h1 l h3 a;exact au
def zCE(c id:Nat)(L:LRec)(k:Nat)(S:Nat->Prop)(h:Heap):Prop:=
 (∀j,S j↔j=c\/j=id)/\c<id/\id<h.next/\h.at' c=some (.row [.int .i64 (k:Int)])/\h.at' id=some (.loop L)
def zCc(A:e.Ok)(V:e.size<=1048576)(g:Heap):zD prog 321 [.agg e.cells] g λr h'=>h'=g/\r=.int .i64 (e.size:Int):=by
 refine xU kr λhh=> ?_;have F:∀k:Int,below g.next (.int .i64 k):=λk=>trivial;have K:yW prog 3 (.ptr g.next 0) (.int .i64 0) (g.new g.next (.row [.int .i64 0]))=some (g.new g.next (.row [.int .i64 0])):=ym sG ow rfl rfl rfl;have m:=λh=>Q8 e h;refine zj zGJ ?_;simp only[f321,zA];simp only[Ex.cells]at m⊢;simp only[go_sem, *];refine(m _).mono ?_;rintro r h2 ⟨rfl,rfl⟩;simp only[go_sem, *];have e1:(g.new g.next (.row [.int .i64 0])).next=g.next+1:=za _ _;rw[e1]
 obtain⟨G,R,t,m1,m2,Y⟩:∃G,(g.new g.next (.row [.int .i64 0])).new (g.next+1) (.row [oy (g.next+1)])=G/\G.next=g.next+2/\G.at' g.next=some (.row [.int .i64 ((0:Nat):Int)])/\G.at' (g.next+1)=some (.row [oy (g.next+1)])/\Ext g G:=
  ⟨_,rfl,qG _ ow _,by rw[zf ow];exact z5 _ _ _,z5 _ _ _,((Ext.refl g).new (zC _) _).new ow _⟩
 rw[R,t];generalize o:LRec.mk _ _ _ _ _ _ _=L;have y:Yld prog (g.next+2) e.size (λi=>[.agg (e.pre.getD i e).cells]) (zCE g.next (g.next+2) L) (λ_ _=>False):=by
  refine⟨λk S h y i p=> ?_,λk S h h' y T I=> ?_,λS h C=>C.elim,λS h h' C=>C.elim,λi S h3 p X=> ?_⟩
  .obtain⟨c,n,D,f,l⟩:=y
   rcases(c i).1 p with rfl|rfl<;>omega
  .obtain⟨c,n,D,f,l⟩:=y
   exact⟨c,n,ow,by rw[I _ ((c _).2 (.inl rfl))];exact f,by rw[I _ ((c _).2 (.inr rfl))];exact l⟩
  .obtain⟨c,n,D,f,l⟩:=X
   have d:=l;rw[<-o]at d;refine wo.round (g:=zOL) mix d rfl kr kr kr ?_;simp only[go_sem];refine⟨d,?_⟩;generalize Q:LRec.mk .busy _ _ _ _ _ _=B;have s:({ B with st:=.ready,pending:=none } :LRec)=L:=by rw[<-Q,<-o]
   generalize a:Heap.set h3 (g.next+2) (.loop B)=h5;have N:h5.at' g.next=some (.row [.int .i64 (i:Int)]):=by rw[<-a,zX ow];exact f
   have O:h5.at' (g.next+2)=some (.loop B):=by rw[<-a];simp[Heap.set]
   have a4:h5.next=h3.next:=by rw[<-a,yY]
   have ew:IntKind.i64.wrap ((i:Int)+1)=((i+1:Nat):Int):=qH jL;have U:yW prog 3 (.ptr g.next 0) (.int .i64 ((i+1:Nat):Int)) h5=some (h5.set g.next (.row [.int .i64 ((i+1:Nat):Int)])):=by
    rw[yN N sG jS rfl rfl];rfl
   simp only[go_sem, *];have P:(h5.set g.next (.row [.int .i64 ((i+1:Nat):Int)])).at' (g.next+2)=some (.loop B):=by rw[zX ow];exact O
   refine tj P ⟨λj=>j=g.next\/j=g.next+2,λj H=>.inl H,⟨by simp only[yY];omega,λj H E=> ?_⟩,.inl ⟨rfl,λj=>Iff.rfl,n,by simp only[yY];omega,?_,?_⟩⟩
   .have Z:j≠g.next:=λe=>E ((c j).2 (.inl e))
    have M:j≠g.next+2:=λe=>E ((c j).2 (.inr e));rw[zX M,zX Z,<-a,zX M]
   .rw[zX ow,zW]
   .rw[zW,s]
 have z:zCE g.next (g.next+2) L 0 (λj=>j=g.next\/j=g.next+2) (G.new (g.next+2) (.loop L)):=
  ⟨λj=>Iff.rfl,ow,by rw[qG _ ow];omega,by rw[zf ow];exact m1,z5 _ _ _⟩
 have b:=UJ y A (λj x W=>by
  have:e.pre.getD j e=x:=by rw[zE,W];rfl
  rw[this]) z (v:=g.next+1) (by rw[qG _ ow];omega) ow (by rw[zf ow];exact m2)
 refine b.mono ?_;rintro r h ⟨S',s1,s2,s3⟩;obtain⟨c,n,D,f,l⟩:=s3.resolve_right (λq=>q);have w:L.st≠ .busy:=by rw[<-o];intro q;cases q
 have u:L.pending=none:=by rw[<-o]
 refine⟨L,l,w,?_⟩;rw[u,rp];have J:(h.del (g.next+2)).at' g.next=some (.row [.int .i64 (e.size:Int)]):=by rw[wM ow];exact f
 have hE:Ext g (h.del (g.next+2)):=by
  have T:(G.new (g.next+2) (.loop L)).next=g.next+3:=qG _ ow _;have ad:=s2.1;refine Ext.del ⟨ow,λi p=> ?_⟩ ow;rw[s2.2 i ow ow,zf ow,Y.2 i p]
 exact au
def Wx(d:s.length<=1048576)(g:Heap):zD prog 377 [.str s] g λr h'=>h'=g/\r=.bool (oY s):=by
 have e:∀h,zD prog 214 [.str s,.str [97,98,99,100,101,102,103,104,105,106,107,108,109,110,111,112,113,114,115,116,117,118,119,120,121,122,48,49,50,51,52,53,54,55,56,57,45,46]] h λr h'=>h'=h/\r=.str (Lib.trimS s ay):=λh=>C6 d (c:=ay) jD jD h;refine zj zGX ?_;simp only[f377,zA];cases s with
 |nil=>
  have e1:decide ((([]:List UInt8).length:Int)<1)=true:=rfl
  repeat' first|simp only[go_sem, *]|apply bc<;>intro a
  rfl
 |cons b r=>
  have e1:decide (((b::r).length:Int)<1)=false:=zN (by simp only[zx];omega);have f:nS prog 9 (.str (b::r)) (.int .i64 0)=some (.int .u8 b.toNat):=ss (n:=0) underlying9 rfl;have i:=XT b r;generalize j:b::r=s at *
  repeat' first|simp only[go_sem, *]|apply bc<;>intro a|refine zD.use (e _) ?_
def cP(kind:Int)(name exc:List UInt8)(kids:Int):Int:=
 if((kind==0)||(kind==1))=true then
  (if(decide (kids>0)||((kind==1)&& !(exc== [])))=true then 1
  else if(!oY name||(!(exc== [])&& !oY exc))=true then 2 else 0)
 else if((kind==2)||(kind==3))=true then
  (if(decide (kids<2)|| !(name== [])|| !(exc== []))=true then 1 else 0)
 else 1
def Ex.err(e:Ex):Int:=cP e.kind e.name e.exc e.kids.length
def Qy(a:e.Ok)(g:Heap):zD prog 323 [.agg e.cells] g λr h'=>h'=g/\r=.int .i64 e.err:=by
 obtain⟨h,i,x,l,d⟩:=e;simp only[Ex.Ok]at a;obtain⟨k,n,o1,o2,_⟩:=a;have f:=pZ k;have b:=Wx o1;have c:=Wx o2;have j:(Ex.mk h i x l d).err=cP h i x l.length:=rfl;rw[j];unfold cP;refine zj zGL ?_;simp only[f323,zA];simp only[Ex.cells,Ex.kind,Ex.name,Ex.exc,Ex.d]
 repeat' first|simp only[go_sem, *]|apply bc<;>intro m|refine zD.use (b _) ?_|refine zD.use (c _) ?_
def Ex.errAt(e:Ex)(i:Nat):Int:=(e.pre.getD i e).err
def gS(e:Ex):Int:=
 if decide ((e.size:Int)>64)=true then 10
 else if decide ((e.depth:Int)>24)=true then 11
 else gT e.errAt e.size
def zGv:∀n:Nat,(∀e:Ex,e.size<=n->e.Ok->∀x∈e.pre,x.Ok)/\∀l:List Ex,qR l<=n->okL l->∀x∈YU l,x.Ok:=by
 intro n
 induction n with
 |zero=>
  refine⟨λe h=> ?_,λl h=> ?_⟩
  .cases e;simp only[Ex.size]at h;omega
  .cases l with
   |nil=>intro _ x f;simp[YU]at f
   |cons e l=>cases e;simp only[qR,Ex.size]at h;omega
 |succ n j=>
  have key:∀e:Ex,e.size<=n+1->e.Ok->∀x∈e.pre,x.Ok:=λe h g x f=>by
   obtain⟨a,b,c,l,d⟩:=e;simp only[Ex.size,Ex.pre]at h f;rcases z7.1 f with rfl|f
   .exact g
   .simp only[Ex.Ok]at g
    exact j.2 l ow g.2.2.2.2 x f
  refine⟨key,λl h=> ?_⟩
  induction l with
  |nil=>intro _ x f;simp[YU]at f
  |cons e l i=>
   intro g x f;simp only[qR,YU,okL]at h f g;rcases qB.1 f with f|f
   .exact key e ow g.1 x f
   .exact i ow g.2 x f
def Ex.pre_okAt(h:e.Ok)(i:Nat):(e.pre.getD i e).Ok:=by
 rw[zE];cases a:e.pre[i]? with
 |none=>exact h
 |some x=>exact(zGv e.size).1 e (zC _) h x (zh a)
def zCC(e:Ex)(c id:Nat)(L:LRec)(k:Nat)(S:Nat->Prop)(h:Heap):Prop:=
 (∀j,S j↔j=c\/j=id)/\c<id/\id<h.next/\h.at' c=some (.row [.int .i64 0])/\h.at' id=some (.loop L)/\∀j,j<k->e.errAt j=0
def zI0(e:Ex)(c id:Nat)(L:LRec)(S:Nat->Prop)(h:Heap):Prop:=
 (∀j,S j↔j=c\/j=id)/\c<id/\id<h.next/\∃v,v=gT e.errAt e.size/\h.at' c=some (.row [.int .i64 v])/\h.at' id=some (.loop { L with st:=.done,pending:=some .ret })
theorem Qx(u:e.Ok)(P:e.size<=1048576)(g:Heap):zD prog 247 [.agg e.cells] g λr h'=>h'=g/\r=.int .i64 (gS e):=by
 refine xU kr λhh=> ?_;have a0:∀k:Int,below g.next (.int .i64 k):=λk=>trivial;have U:=zCc u P;have X:=Bj e.size (zC _) u P;have K:=λh=>Q8 e h;obtain⟨W,a8,r0,E0,n0⟩:∃G,g.new g.next (.row [.int .i64 0])=G/\G.at' g.next=some (.row [.int .i64 0])/\Ext g G/\G.next=g.next+1:=⟨_,rfl,z5 _ _ _,(Ext.refl g).new (zC _) _,za _ _⟩;have N:∀v:Int,yW prog 39 (.ptr g.next 0) (.int .i64 v) W=some (W.set g.next (.row [.int .i64 v])):=λv=>by rw[yN r0 aB jS rfl rfl];rfl
 have a7:∀v:Int,Ext g (W.set g.next (.row [.int .i64 v])):=λv=>E0.set (zC _) _;obtain⟨R,b⟩:∃R,gS e=R:=⟨_,rfl⟩;rw[b];unfold gS at b;refine zj zF4 ?_;simp only[f247,zA];simp only[Ex.cells]at U X K⊢;cases q1:decide ((e.size:Int)>64)with
 |true=>
  rw[ip q1]at b;subst b
  repeat' first|simp only[go_sem,zW, *]|apply bc<;>intro F|refine zD.use (U _) ?_
 |false=>
 rw[iq (by rw[q1];exact zd)]at b;cases q2:decide ((e.depth:Int)>24)with
 |true=>
  rw[ip q2]at b;subst b
  repeat' first|simp only[go_sem,zW, *]|apply bc<;>intro F|refine zD.use (U _) ?_|refine zD.use (X _) ?_
 |false=>
 rw[iq (by rw[q2];exact zd)]at b
 repeat' first|simp only[go_sem, *]|apply bc<;>intro F|refine zD.use (U _) ?_|refine zD.use (X _) ?_
 rename Heap=>G1
 refine(K _).mono ?_;rintro r h2 ⟨rfl,rfl⟩
 repeat' first|simp only[go_sem, *]|apply bc<;>intro F
 obtain⟨G,hG,ad,m1,m2,mE⟩:∃G,G1.new (g.next+1) (.row [oy (g.next+1)])=G/\G.next=g.next+2/\G.at' g.next=some (.row [.int .i64 0])/\G.at' (g.next+1)=some (.row [oy (g.next+1)])/\Ext g G:=
  ⟨_,rfl,qG _ ow _,by rw[zf ow];exact r0,z5 _ _ _,E0.new ow _⟩
 rw[hG,ad];generalize E:LRec.mk _ _ _ _ _ _ _=L;have y:Yld prog (g.next+2) e.size (λi=>[.agg (e.pre.getD i e).cells]) (zCC e g.next (g.next+2) L) (zI0 e g.next (g.next+2) L):=by
  refine⟨λk S h y i D=> ?_,λk S h h' y z J=> ?_,λS h y i D=> ?_,λS h h' y z J=> ?_,λi S h3 D hy=> ?_⟩
  .obtain⟨a,o,C,m,n⟩:=y
   rcases(a i).1 D with rfl|rfl<;>omega
  .obtain⟨a,o,C,m,n,p⟩:=y
   exact⟨a,o,ow,by rw[J _ ((a _).2 (.inl rfl))];exact m,by rw[J _ ((a _).2 (.inr rfl))];exact n,p⟩
  .obtain⟨a,o,C,m⟩:=y
   rcases(a i).1 D with rfl|rfl<;>omega
  .obtain⟨a,o,C,v,m,n,p⟩:=y
   exact⟨a,o,ow,v,m,by rw[J _ ((a _).2 (.inl rfl))];exact n,by rw[J _ ((a _).2 (.inr rfl))];exact p⟩
  .obtain⟨a,o,C,m,n,p⟩:=hy
   have T:=n;rw[<-E]at T;have M:=Ex.pre_okAt u i;have s:=λh=>Qy M h;have I:(e.pre.getD i e).err=e.errAt i:=rfl;rw[I]at s;generalize e.pre.getD i e=x at *
   have O:=It x (Ex.flat M) h3 h3.next;simp only[Ex.cells]at s⊢;refine wo.round (g:=zOL) mix T rfl kr kr kr ?_;simp only[go_sem,O];obtain⟨w,ak,z4,zL,zr,zn,zk⟩:∃w,h3.new h3.next (.row [.int .i64 x.kind,.str x.name,.str x.exc,x.d])=w/\w.at' g.next=some (.row [.int .i64 0])/\w.at' (g.next+2)=some (.loop L)/\w.at' h3.next=some (.row [.int .i64 x.kind,.str x.name,.str x.exc,x.d])/\w.next=h3.next+1/\∀j,j<h3.next->w.at' j=h3.at' j:=
    ⟨_,rfl,by rw[zf ow];exact m,by rw[zf ow];exact n,z5 _ _ _,za _ _,λj c=>by rw[zf ow]⟩
   rw[ak];refine⟨by rw[E];exact zL,?_⟩;generalize hB:LRec.mk .busy _ _ _ _ _ _=B;have Z:({ B with st:=.ready,pending:=none } :LRec)=L:=by rw[<-hB,<-E]
   have Y:({ B with st:=.done,pending:=some .ret } :LRec)= { L with st:=.done,pending:=some .ret } :=by rw[<-hB,<-E]
   generalize l:Heap.set w (g.next+2) (.loop B)=h5;have a1:h5.at' g.next=some (.row [.int .i64 0]):=by rw[<-l,zX ow];exact z4
   have a2:h5.at' h3.next=some (.row [.int .i64 x.kind,.str x.name,.str x.exc,x.d]):=by rw[<-l,zX ow];exact zr
   have a3:h5.at' (g.next+2)=some (.loop B):=by rw[<-l];simp[Heap.set]
   have a4:h5.next=h3.next+1:=by rw[<-l,yY,zn]
   have a5:∀j,j<h3.next->j≠g.next+2->h5.at' j=h3.at' j:=λj c z=>by rw[<-l,zX z,zk j c]
   have N:∀v:Int,yW prog 39 (.ptr g.next 0) (.int .i64 v) h5=some (h5.set g.next (.row [.int .i64 v])):=λv=>by rw[yN a1 aB jS rfl rfl];rfl
   cases hv:(e.errAt i==0)with
   |true=>
    have z:=pG (f:=e.errAt) p (by simpa using hv)
    repeat' first|simp only[go_sem, *]|apply bc<;>intro F|refine zD.use (s _) ?_
    rename Heap=>h5
    refine tj a3 ⟨λj=>j=g.next\/j=g.next+2,λj c=>.inl (by simpa using c),⟨by simp only[yY];omega,λj c V=> ?_⟩,.inl ⟨rfl,λj=>Iff.rfl,o,by simp only[yY];omega,?_,?_,z⟩⟩
    .have Q:j≠g.next+2:=λe=>V (by first|exact(a j).2 (.inr e)|exact .inr e)
     rw[zX Q,a5 j c Q]
    .rw[zX ow];exact a1
    .rw[zW,Z]
   |false=>
    have z:gT e.errAt e.size=e.errAt i:=jJ D p (by simpa using hv)
    repeat' first|simp only[go_sem, *]|apply bc<;>intro F|refine zD.use (s _) ?_
    rename Heap=>h5
    refine ZI (L:=B) (by rw[zX ow];exact a3) ⟨λj=>j=g.next\/j=g.next+2,λj c=>.inl (by simpa using c),⟨by simp only[yY];omega,λj c V=> ?_⟩,.inr ⟨rfl,λj=>Iff.rfl,o,by simp only[yY];omega,_,z.symm,?_,?_⟩⟩
    .have n1:j≠g.next:=λe=>V (by first|exact(a j).2 (.inl e)|exact .inl e)
     have Q:j≠g.next+2:=λe=>V (by first|exact(a j).2 (.inr e)|exact .inr e)
     rw[zX Q,zX n1,a5 j c Q]
    .rw[zX ow,zW]
    .rw[zW,Y]
 have aj:zCC e g.next (g.next+2) L 0 (λj=>j=g.next\/j=g.next+2) (G.new (g.next+2) (.loop L)):=
  ⟨λj=>Iff.rfl,ow,by rw[qG _ ow];omega,by rw[zf ow];exact m1,z5 _ _ _,λj c=>absurd c (yX _)⟩
 have t:=UJ y u (λj x hx=>by
  have:e.pre.getD j e=x:=by rw[zE,hx];rfl
  rw[this]) aj (v:=g.next+1) (by rw[qG _ ow];omega) ow (by rw[zf ow];exact m2)
 refine t.mono ?_;rintro r h ⟨S',s1,s2,s3⟩;have H:∀(_:g.next+2<h.next)(_:∀j,S' j↔j=g.next\/j=g.next+2),Ext g (h.del (g.next+2)):=λz _=>by
  have a9:(G.new (g.next+2) (.loop L)).next=g.next+3:=qG _ ow _;refine Ext.del ⟨ow,λi D=> ?_⟩ ow;rw[s2.2 i ow ow,zf ow,mE.2 i D]
 rcases s3 with⟨a,o,C,m,n,p⟩ | ⟨a,o,C,v,m,n,p⟩
 .have ai:L.st≠ .busy:=by rw[<-E];intro q;cases q
  have ag:L.pending=none:=by rw[<-E]
  refine⟨L,n,ai,?_⟩;rw[ag,rp];have A:(h.del (g.next+2)).at' g.next=some (.row [.int .i64 0]):=by rw[wM ow];exact m
  have hE:=H C a;have N:yW prog 39 (.ptr g.next 0) (.int .i64 0) (h.del (g.next+2))=some ((h.del (g.next+2)).set g.next (.row [.int .i64 0])):=by rw[yN A aB jS rfl rfl];rfl
  have a6:=hE.set (id:=g.next) (zC _) (.row [.int .i64 0]);rw[sE p]at b;subst b
  repeat' first|simp only[go_sem,zW, *]|apply bc<;>intro F
 .refine⟨_,p,?_,?_⟩
  .intro q;cases q
  simp only[bl];have A:(h.del (g.next+2)).at' g.next=some (.row [.int .i64 v]):=by rw[wM ow];exact n
  have hE:=H C a;rw[<-m]at b;subst b;exact au
def P7(c:Cat)(x:Ex):Int:=if(!(x.name== [])&& !Wb c x.name x.exc)=true then 7 else 0
def Ex.unk(c:Cat)(e:Ex)(i:Nat):Int:=P7 c (e.pre.getD i e)
def oX(c:Cat)(e:Ex):Int:=
 if(!(rt c==0))=true then 1
 else if(!(gS e==0))=true then gS e
 else gT (Ex.unk c e) e.size
def zCD(f:Nat->Int)(N c id:Nat)(L:LRec)(k:Nat)(S:Nat->Prop)(h:Heap):Prop:=
 (∀j,S j↔j=c\/j=id)/\c<id/\id<h.next/\h.at' c=some (.row [.int .i64 0])/\h.at' id=some (.loop L)/\∀j,j<k->f j=0
def zI1(f:Nat->Int)(N c id:Nat)(L:LRec)(S:Nat->Prop)(h:Heap):Prop:=
 (∀j,S j↔j=c\/j=id)/\c<id/\id<h.next/\∃v,v=gT f N/\h.at' c=some (.row [.int .i64 v])/\h.at' id=some (.loop { L with st:=.done,pending:=some .ret })
theorem Yz(o:uB c d)(hs:c.Sm)(K:e.Ok)(a9:e.size<=1048576)(g:Heap):zD prog 208 [d,.agg e.cells] g λr h'=>h'=g/\r=.int .i64 (oX c e):=by
 refine xU kr λhh=> ?_;have bb:∀k:Int,below g.next (.int .i64 k):=λk=>trivial;have c1:=fP o hs;have c2:=Qx K a9;have a7:=λba ad h=>Bp o hs ba ad h;obtain⟨ca,cb,ce,cp,rfl,_,_,_,_⟩:=o;have bx:∀u v:List UInt8,qW prog 197 [(0,.str u),(1,.str v)]=some (.agg [.str u,.str v]):=λu v=>by simp[qW,oc,sH,ua,D.notTuple,D.cells,wS]
 have T:=λh=>Q8 e h;obtain⟨Y,bs,r0,E0,n0⟩:∃G,g.new g.next (.row [.int .i64 0])=G/\G.at' g.next=some (.row [.int .i64 0])/\Ext g G/\G.next=g.next+1:=⟨_,rfl,z5 _ _ _,(Ext.refl g).new (zC _) _,za _ _⟩;have U:∀v:Int,yW prog 39 (.ptr g.next 0) (.int .i64 v) Y=some (Y.set g.next (.row [.int .i64 v])):=λv=>by rw[yN r0 aB jS rfl rfl];rfl
 have bo:∀v:Int,Ext g (Y.set g.next (.row [.int .i64 v])):=λv=>E0.set (zC _) _;obtain⟨R,m⟩:∃R,oX c e=R:=⟨_,rfl⟩;rw[m];unfold oX at m;refine zj zFp ?_;simp only[f208,zA];simp only[Ex.cells]at c2 T⊢;cases q1:(rt c==0)with
 |false=>
  rw[ip (by rw[q1];rfl)]at m;subst m
  repeat' first|simp only[go_sem,zW, *]|apply bc<;>intro o|refine zD.use (c1 _) ?_
 |true=>
 rw[iq (by rw[q1];decide)]at m;cases q2:(gS e==0)with
 |false=>
  rw[ip (by rw[q2];rfl)]at m;subst m
  repeat' first|simp only[go_sem,zW, *]|apply bc<;>intro o|refine zD.use (c1 _) ?_|refine zD.use (c2 _) ?_
 |true=>
 rw[iq (by rw[q2];decide)]at m
 repeat' first|simp only[go_sem, *]|apply bc<;>intro o|refine zD.use (c1 _) ?_|refine zD.use (c2 _) ?_
 rename Heap=>G1
 refine(T _).mono ?_;rintro r h2 ⟨rfl,rfl⟩
 repeat' first|simp only[go_sem, *]|apply bc<;>intro o
 obtain⟨G,hG,ai,m1,m2,mE⟩:∃G,G1.new (g.next+1) (.row [oy (g.next+1)])=G/\G.next=g.next+2/\G.at' g.next=some (.row [.int .i64 0])/\G.at' (g.next+1)=some (.row [oy (g.next+1)])/\Ext g G:=
  ⟨_,rfl,qG _ ow _,by rw[zf ow];exact r0,z5 _ _ _,E0.new ow _⟩
 rw[hG,ai];generalize M:LRec.mk _ _ _ _ _ _ _=L;have y:Yld prog (g.next+2) e.size (λi=>[.agg (e.pre.getD i e).cells]) (zCD (Ex.unk c e) e.size g.next (g.next+2) L) (zI1 (Ex.unk c e) e.size g.next (g.next+2) L):=by
  refine⟨λk S h y i J=> ?_,λk S h h' y z Q=> ?_,λS h y i J=> ?_,λS h h' y z Q=> ?_,λi S h3 J hy=> ?_⟩
  .obtain⟨a,p,I,s,t⟩:=y
   rcases(a i).1 J with rfl|rfl<;>omega
  .obtain⟨a,p,I,s,t,w⟩:=y
   exact⟨a,p,ow,by rw[Q _ ((a _).2 (.inl rfl))];exact s,by rw[Q _ ((a _).2 (.inr rfl))];exact t,w⟩
  .obtain⟨a,p,I,s⟩:=y
   rcases(a i).1 J with rfl|rfl<;>omega
  .obtain⟨a,p,I,v,s,t,w⟩:=y
   exact⟨a,p,ow,v,s,by rw[Q _ ((a _).2 (.inl rfl))];exact t,by rw[Q _ ((a _).2 (.inr rfl))];exact w⟩
  .obtain⟨a,p,I,s,t,w⟩:=hy
   have W:=t;rw[<-M]at W;have a8:=Ex.pre_okAt K i;have l:P7 c (e.pre.getD i e)=Ex.unk c e i:=rfl;unfold P7 at l;generalize e.pre.getD i e=x at *
   have V:=It x (Ex.flat a8) h3 h3.next;simp only[Ex.cells];refine wo.round (g:=zOL) mix W rfl kr kr kr ?_;simp only[go_sem,V];obtain⟨E,a6,z4,zL,zr,zn,zk⟩:∃E,h3.new h3.next (.row [.int .i64 x.kind,.str x.name,.str x.exc,x.d])=E/\E.at' g.next=some (.row [.int .i64 0])/\E.at' (g.next+2)=some (.loop L)/\E.at' h3.next=some (.row [.int .i64 x.kind,.str x.name,.str x.exc,x.d])/\E.next=h3.next+1/\∀j,j<h3.next->E.at' j=h3.at' j:=
    ⟨_,rfl,by rw[zf ow];exact s,by rw[zf ow];exact t,z5 _ _ _,za _ _,λj b=>by rw[zf ow]⟩
   rw[a6];refine⟨by rw[M];exact zL,?_⟩;generalize hB:LRec.mk .busy _ _ _ _ _ _=B;have O:({ B with st:=.ready,pending:=none } :LRec)=L:=by rw[<-hB,<-M]
   have ag:({ B with st:=.done,pending:=some .ret } :LRec)= { L with st:=.done,pending:=some .ret } :=by rw[<-hB,<-M]
   generalize n:Heap.set E (g.next+2) (.loop B)=h5;have Z:h5.at' g.next=some (.row [.int .i64 0]):=by rw[<-n,zX ow];exact z4
   have a2:h5.at' h3.next=some (.row [.int .i64 x.kind,.str x.name,.str x.exc,x.d]):=by rw[<-n,zX ow];exact zr
   have a3:h5.at' (g.next+2)=some (.loop B):=by rw[<-n];simp[Heap.set]
   have a4:h5.next=h3.next+1:=by rw[<-n,yY,zn]
   have a5:∀j,j<h3.next->j≠g.next+2->h5.at' j=h3.at' j:=λj b z=>by rw[<-n,zX z,zk j b]
   have U:∀v:Int,yW prog 39 (.ptr g.next 0) (.int .i64 v) h5=some (h5.set g.next (.row [.int .i64 v])):=λv=>by rw[yN Z aB jS rfl rfl];rfl
   have A:=a7 x.name x.exc;cases b1:(x.name== [])with
   |true=>
    have z:=pG (f:=Ex.unk c e) w (by rw[<-l,iq (by rw[b1];exact zd)])
    repeat' first|simp only[go_sem, *]|apply bc<;>intro o
    refine tj a3 ⟨λj=>j=g.next\/j=g.next+2,λj b=>.inl (by simpa using b),⟨by simp only[yY];omega,λj b N=> ?_⟩,.inl ⟨rfl,λj=>Iff.rfl,p,by simp only[yY];omega,?_,?_,z⟩⟩
    .have H:j≠g.next+2:=λe=>N (by first|exact(a j).2 (.inr e)|exact .inr e)
     rw[zX H,a5 j b H]
    .rw[zX ow];exact Z
    .rw[zW,O]
   |false=>
   cases X:Wb c x.name x.exc with
   |true=>
    have z:=pG (f:=Ex.unk c e) w (by rw[<-l,iq (by rw[b1,X];decide)]);rw[X]at A
    repeat' first|simp only[go_sem, *]|apply bc<;>intro o|refine zD.use (A _) ?_
    rename Heap=>h5
    refine tj a3 ⟨λj=>j=g.next\/j=g.next+2,λj b=>.inl (by simpa using b),⟨by simp only[yY];omega,λj b N=> ?_⟩,.inl ⟨rfl,λj=>Iff.rfl,p,by simp only[yY];omega,?_,?_,z⟩⟩
    .have H:j≠g.next+2:=λe=>N (by first|exact(a j).2 (.inr e)|exact .inr e)
     rw[zX H,a5 j b H]
    .rw[zX ow];exact Z
    .rw[zW,O]
   |false=>
    have hw:Ex.unk c e i=7:=by rw[<-l,ip (by rw[b1,X];rfl)]
    have z:gT (Ex.unk c e) e.size=7:=by rw[jJ J w (by rw[hw];decide),hw]
    rw[X]at A
    repeat' first|simp only[go_sem, *]|apply bc<;>intro o|refine zD.use (A _) ?_
    rename Heap=>h5
    refine ZI (L:=B) (by rw[zX ow];exact a3) ⟨λj=>j=g.next\/j=g.next+2,λj b=>.inl (by simpa using b),⟨by simp only[yY];omega,λj b N=> ?_⟩,.inr ⟨rfl,λj=>Iff.rfl,p,by simp only[yY];omega,_,z.symm,?_,?_⟩⟩
    .have n1:j≠g.next:=λe=>N (by first|exact(a j).2 (.inl e)|exact .inl e)
     have H:j≠g.next+2:=λe=>N (by first|exact(a j).2 (.inr e)|exact .inr e)
     rw[zX H,zX n1,a5 j b H]
    .rw[zX ow,zW]
    .rw[zW,ag]
 have a0:zCD (Ex.unk c e) e.size g.next (g.next+2) L 0 (λj=>j=g.next\/j=g.next+2) (G.new (g.next+2) (.loop L)):=
  ⟨λj=>Iff.rfl,ow,by rw[qG _ ow];omega,by rw[zf ow];exact m1,z5 _ _ _,λj b=>absurd b (yX _)⟩
 have C:=UJ y K (λj x hx=>by
  have:e.pre.getD j e=x:=by rw[zE,hx];rfl
  rw[this]) a0 (v:=g.next+1) (by rw[qG _ ow];omega) ow (by rw[zf ow];exact m2)
 refine C.mono ?_;rintro r h ⟨S',s1,s2,s3⟩;have P:∀(_:g.next+2<h.next)(_:∀j,S' j↔j=g.next\/j=g.next+2),Ext g (h.del (g.next+2)):=λz _=>by
  have b3:(G.new (g.next+2) (.loop L)).next=g.next+3:=qG _ ow _;refine Ext.del ⟨ow,λi J=> ?_⟩ ow;rw[s2.2 i ow ow,zf ow,mE.2 i J]
 rcases s3 with⟨a,p,I,s,t,w⟩ | ⟨a,p,I,v,s,t,w⟩
 .have ak:L.st≠ .busy:=by rw[<-M];intro q;cases q
  have aj:L.pending=none:=by rw[<-M]
  refine⟨L,t,ak,?_⟩;rw[aj,rp];have F:(h.del (g.next+2)).at' g.next=some (.row [.int .i64 0]):=by rw[wM ow];exact s
  have hE:=P I a;have U:yW prog 39 (.ptr g.next 0) (.int .i64 0) (h.del (g.next+2))=some ((h.del (g.next+2)).set g.next (.row [.int .i64 0])):=by rw[yN F aB jS rfl rfl];rfl
  have bk:=hE.set (id:=g.next) (zC _) (.row [.int .i64 0]);rw[sE w]at m;subst m
  repeat' first|simp only[go_sem,zW, *]|apply bc<;>intro o
 .refine⟨_,w,?_,?_⟩
  .intro q;cases q
  simp only[bl];have F:(h.del (g.next+2)).at' g.next=some (.row [.int .i64 v]):=by rw[wM ow];exact t
  have hE:=P I a;rw[<-s]at m;subst m;exact au
structure Fac where
 kind:Int
 comp:List UInt8
 out:List UInt8
 rel:Int
 way:Int
 duty:Int
 chg:Bool
 e:Ex
 list:List (List UInt8)
 d:D
def Fac.cells(f:Fac):List D:=[.int .i64 f.kind,.str f.comp,.str f.out,.int .i64 f.rel,.int .i64 f.way,.int .i64 f.duty,.bool f.chg,.int .i64 f.e.kind,.str f.e.name,.str f.e.exc,f.e.d,f.d]
structure Fac.Ok(f:Fac):Prop where
 e:f.e.Ok
 es:f.e.size<=1048576
 list:yZ 1 (wg f.list) f.d
 ll:f.list.length<=1048576
 comp:f.comp.length<=1048576
 out:f.out.length<=1048576
structure Use where
 comp:Bool
 out:Bool
 rel:Bool
 chg:Bool
 e:Bool
 way:Bool
 list:Bool
 duty:Bool
def Use.cells(u:Use):List D:=[.bool u.comp,.bool u.out,.bool u.rel,.bool u.chg,.bool u.e,.bool u.way,.bool u.list,.bool u.duty]
def aE(k:Int):Use×Bool:=
 if(k==0)=true then(⟨true,true,true,true,false,false,false,false⟩,true)
 else if(k==1)=true then(⟨true,false,false,false,true,false,false,false⟩,true)
 else if(k==2)=true then(⟨false,true,false,false,false,true,false,false⟩,true)
 else if(k==3)=true then(⟨false,true,false,false,false,false,true,false⟩,true)
 else if(k==4)=true then(⟨true,false,false,false,false,false,false,true⟩,true)
 else(⟨false,false,false,false,false,false,false,false⟩,false)
def zCf(k:Int)(g:Heap):zD prog 243 [.int .i64 k] g λr h'=>h'=g/\r=.tuple [.agg (aE k).1.cells,.bool (aE k).2]:=by
 refine xU kr λh=> ?_;have n:qW prog 310 [(0,.bool true),(1,.bool true),(2,.bool true),(3,.bool true)]=some (.agg [.bool true,.bool true,.bool true,.bool true,.bool false,.bool false,.bool false,.bool false]):=by simp[qW,oe,kV,ua,wS,D.notTuple,D.cells]
 have p:qW prog 310 [(0,.bool true),(4,.bool true)]=some (.agg [.bool true,.bool false,.bool false,.bool false,.bool true,.bool false,.bool false,.bool false]):=by simp[qW,oe,kV,ua,wS,D.notTuple,D.cells]
 have q:qW prog 310 [(1,.bool true),(5,.bool true)]=some (.agg [.bool false,.bool true,.bool false,.bool false,.bool false,.bool true,.bool false,.bool false]):=by simp[qW,oe,kV,ua,wS,D.notTuple,D.cells]
 have s:qW prog 310 [(1,.bool true),(6,.bool true)]=some (.agg [.bool false,.bool true,.bool false,.bool false,.bool false,.bool false,.bool true,.bool false]):=by simp[qW,oe,kV,ua,wS,D.notTuple,D.cells]
 have t:qW prog 310 [(0,.bool true),(7,.bool true)]=some (.agg [.bool true,.bool false,.bool false,.bool false,.bool false,.bool false,.bool false,.bool true]):=by simp[qW,oe,kV,ua,wS,D.notTuple,D.cells]
 have u:qW prog 310 []=some (.agg [.bool false,.bool false,.bool false,.bool false,.bool false,.bool false,.bool false,.bool false]):=by simp[qW,oe,kV,ua,wS,D.notTuple,D.cells]
 have l:∀a b c e f i j k:Bool,yW prog 310 (.ptr g.next 0) (.agg [.bool a,.bool b,.bool c,.bool e,.bool f,.bool i,.bool j,.bool k]) (g.new g.next (.row [.bool false,.bool false,.bool false,.bool false,.bool false,.bool false,.bool false,.bool false]))=some (g.new g.next (.row [.bool a,.bool b,.bool c,.bool e,.bool f,.bool i,.bool j,.bool k])):=λa b c e f i j k=>ym Iz ow rfl rfl rfl;have v:∀o,Ext g (g.new g.next o):=λo=>(Ext.refl g).new (zC _) o;have m:∀a b c e f i j k:D,yO true 8 [a,b,c,e,f,i,j,k] 0=some (.agg [a,b,c,e,f,i,j,k]):=λa b c e f i j k=>zJ rfl ow
 have d:∀a b c e f i j k x:Bool,below g.next (.tuple [.agg [.bool a,.bool b,.bool c,.bool e,.bool f,.bool i,.bool j,.bool k],.bool x]):=λa b c e f i j k x=>by simp[below,qC]
 unfold aE Use.cells;refine zj zF0 ?_;simp only[f243,zA]
 repeat' first|simp only[go_sem,z5, *]|apply bc<;>intro w
def Bz(x:Ex)(g:Heap)(a:x.Ok):zD prog 317 [.agg x.cells] g λr h'=>h'=g/\r=.bool ((x.kind==0)&&(x.name== [])&&(x.exc== [])&&((x.kids.length:Int)==0)):=by
 obtain⟨c,e,f,l,d⟩:=x;simp only[Ex.Ok]at a;have b:=pZ a.1;refine zj zGF ?_;simp only[f317,zA];simp only[Ex.cells,Ex.kind,Ex.name,Ex.exc,Ex.d,Ex.kids];exact au
def BC(x:Ex):Bool:=(x.kind==0)&&(x.name== [])&&(x.exc== [])&&((x.kids.length:Int)==0)
def bM(f:Fac)(u:Use):Bool:=
 (!u.comp&& !(f.comp== []))||(!u.out&& !(f.out== []))||(!u.rel&& !(f.rel==0))||(!u.chg&&f.chg)||(!u.e&& !BC f.e)||(!u.way&& !(f.way==0))||(!u.list&&decide ((f.list.length:Int)>0))||(!u.duty&& !(f.duty==0))
def cd(a b c d e f g h i j k l:D):yO true 12 [a,b,c,d,e,f,g,h,i,j,k,l] 0=some (.agg [a,b,c,d,e,f,g,h,i,j,k,l]):=zJ rfl ow
def ja(a b c d e f g h i j k l:D):yO true 4 [a,b,c,d,e,f,g,h,i,j,k,l] 7=some (.agg [h,i,j,k]):=by simp[yO]
def Bk{f:Fac}(b:f.Ok){k:Int}(d:(aE k).2=true)(g:Heap):zD prog 244 [.agg f.cells,.agg (aE k).1.cells] g λr h'=>h'=g/\r=.bool (bM f (aE k).1):=by
 have a:=λh=>Bz f.e h b.e;have i:((f.e.kind==0)&&(f.e.name== [])&&(f.e.exc== [])&&((f.e.kids.length:Int)==0))=BC f.e:=rfl;rw[i]at a;have m:=wO b.list;have j:=cd;have l:=ja;simp only[Ex.cells]at a;refine zj zF1 ?_;simp only[f244,zA];unfold aE at d⊢;cases k0:(k==0)with
 |true=>
  simp only[qF,Use.cells,Fac.cells,bM]
  repeat' first|simp only[go_sem, *]|apply bc<;>intro c|refine zD.use (a _) ?_
 |false=>
 cases k1:(k==1)with
 |true=>
  simp only[zg,qF,yp,Use.cells,Fac.cells,bM]
  repeat' first|simp only[go_sem, *]|apply bc<;>intro c|refine zD.use (a _) ?_
 |false=>
 cases k2:(k==2)with
 |true=>
  simp only[zg,qF,yp,Use.cells,Fac.cells,bM]
  repeat' first|simp only[go_sem, *]|apply bc<;>intro c|refine zD.use (a _) ?_
 |false=>
 cases k3:(k==3)with
 |true=>
  simp only[zg,qF,yp,Use.cells,Fac.cells,bM]
  repeat' first|simp only[go_sem, *]|apply bc<;>intro c|refine zD.use (a _) ?_
 |false=>
 cases k4:(k==4)with
 |true=>
  simp only[zg,qF,yp,Use.cells,Fac.cells,bM]
  repeat' first|simp only[go_sem, *]|apply bc<;>intro c|refine zD.use (a _) ?_
 |false=>
 rw[k0,k1,k2,k3,k4]at d;cases d
def Np(c:Cat)(f:Fac)(u:Use):Int:=
 if((u.comp&& !(Pg f.comp==0))||(u.out&& !(Pg f.out==0)))=true then 2
 else if(decide (f.rel<0)||decide (f.rel>2)||decide (f.way<0)||decide (f.way>2)||decide (f.duty<0)||decide (f.duty>3))=true then 3
 else if u.e=true then oX c f.e
 else if(f.list.any λs=> !(nq c s).isSome)=true then 7
 else if(!X0 f.list)=true then 5 else 0
def mS(c:Cat)(f:Fac):Int:=
 if(!(aE f.kind).2||bM f (aE f.kind).1)=true then 1 else Np c f (aE f.kind).1
def zG9(u:Use)(h:Heap)(id:Nat):yW prog 310 (.ptr id 0) (.agg u.cells) (h.new id (.row [.bool false,.bool false,.bool false,.bool false,.bool false,.bool false,.bool false,.bool false]))=some (h.new id (.row u.cells)):=ym Iz ow rfl rfl rfl
theorem Qw(o:uB c d)(hs:c.Sm){f:Fac}(l:f.Ok)(g:Heap):zD prog 207 [d,.agg f.cells] g λr h'=>h'=g/\r=.int .i64 (mS c f):=by
 refine xU kr λhh=> ?_;have ag:∀k:Int,below g.next (.int .i64 k):=λk=>trivial;have K:=zCf f.kind;have X:=W2 l.comp;have Y:=W2 l.out;have F:=λh=>Yz o hs l.e l.es h;have H:=λk h=>Kq o hs k h;have a5:=wO l.list;have a0:=cd;have a4:=ja;obtain⟨ca,cb,ce,cp,rfl,_,_,_,_⟩:=o;have a6:∀a b c e f i j k:D,yO true 8 [a,b,c,e,f,i,j,k] 0=some (.agg [a,b,c,e,f,i,j,k]):=λa b c e f i j k=>zJ rfl ow;have m:∀hk:(aE f.kind).2=true,∀h,zD prog 244 [.agg f.cells,.agg (aE f.kind).1.cells] h λr h'=>h'=h/\r=.bool (bM f (aE f.kind).1):=λhk h=>Bk l hk h;obtain⟨R,t⟩:∃R,mS c f=R:=⟨_,rfl⟩;rw[t];unfold mS at t
 generalize hU:aE f.kind=U at *
 obtain⟨u,ub⟩:=U;simp only at t m K;have J:=zG9 u g g.next;obtain⟨G,hG,r0,O,n0⟩:∃G,g.new g.next (.row u.cells)=G/\G.at' g.next=some (.row u.cells)/\Ext g G/\G.next=g.next+1:=⟨_,rfl,z5 _ _ _,(Ext.refl g).new (zC _) _,za _ _⟩;rw[hG]at J;obtain⟨u1,u2,u3,u4,u5,u6,u7,u8⟩:=u;simp only[Use.cells]at J r0 K m;simp only[Ex.cells]at F;refine zj zFo ?_;simp only[f207,zA];simp only[Fac.cells]at m⊢;cases ub with
 |false=>
  rw[ip jS]at t;subst t
  repeat' first|simp only[go_sem, *]|apply bc<;>intro o|(refine zD.mono (K _) ?_;rintro r h ⟨hq,rfl⟩)
 |true=>
 have m:=m rfl;cases N:bM f ⟨u1,u2,u3,u4,u5,u6,u7,u8⟩with
 |true=>
  rw[ip (by rw[N];rfl)]at t;subst t;rw[N]at m
  repeat' first|simp only[go_sem, *]|apply bc<;>intro o|(refine zD.mono (K _) ?_;rintro r h ⟨hq,rfl⟩)|refine zD.use (m _) ?_
 |false=>
 rw[iq (by rw[N];decide)]at t;rw[N]at m;unfold Np at t;obtain⟨L,Q⟩:∃L,(f.list.any λs=> !(nq c s).isSome)=L:=⟨_,rfl⟩;obtain⟨W,S⟩:∃W,X0 f.list=W:=⟨_,rfl⟩;simp only[Q,S]at t;subst t
 repeat' first|simp only[go_sem, *]|apply bc<;>intro o|(refine zD.mono (K _) ?_;rintro r h ⟨hq,rfl⟩)|refine zD.use (m _) ?_|refine zD.use (X _) ?_|refine zD.use (Y _) ?_|refine zD.use (F _) ?_
 all_goals
  rename Heap=>G
  refine zY (λk fr h=>fr 2=.iptr [ca,cb,ce,cp] 0/\fr 3=.iptr [.int .i64 f.kind,.str f.comp,.str f.out,.int .i64 f.rel,.int .i64 f.way,.int .i64 f.duty,.bool f.chg,.int .i64 f.e.kind,.str f.e.name,.str f.e.exc,f.e.d,f.d] 0/\fr 78=f.d/\fr 79=.int .i64 (f.list.length:Int)/\fr 80=.int .i64 (k:Int)/\Ext g h/\∀j (v:j<f.list.length),j<k->(!(nq c f.list[j]).isSome)=false) f.list.length (by have:=l.ll;omega) ?_ ?_ ?_
  .simp only[go_sem,zM,zV,zG]
   exact⟨O,λj v h0=>absurd h0 (yX _)⟩
  .clear O r0 n0
   rintro k fr h n ec ew ⟨f2,M,B,C,E,z,v⟩;have a1:=sP l.list n;have w:=H f.list[k];have y:=λx:Lic=>jo x h h.next;cases hf:nq c f.list[k]with
   |none=>
    have T:gR c f.list[k]=.tuple [.agg aT,.bool false]:=by unfold gR;rw[hf]
    have A:L=true:=by rw[<-Q];exact Yl (p:=λs=> !(nq c s).isSome) n (by simp only[hf];rfl)
    have ad:=y ⟨[],[],0,[]⟩;have P:=z.new z.1 (.row aT);rw[T]at w;subst A
    repeat' first|simp only[go_sem, *]|apply bc<;>intro o|refine zD.use (w _) ?_
   |some x=>
    have T:gR c f.list[k]=.tuple [.agg [.str x.name,.str x.fam,.int .i64 x.ver,.str x.text],.bool true]:=by unfold gR;rw[hf]
    have V:=ug (p:=λs=> !(nq c s).isSome) n v (by simp only[hf];rfl);have ad:=y x;have P:=z.new z.1 (.row [.str x.name,.str x.fam,.int .i64 x.ver,.str x.text]);rw[T]at w
    repeat' first|simp only[go_sem, *]|apply bc<;>intro o|refine zD.use (w _) ?_
    exact V
  .clear O r0 n0 H
   rintro fr h ec ⟨f2,M,B,C,E,z,v⟩;have A:L=false:=by rw[<-Q];exact dU λj I _=>v j I I
   subst A;simp only[go_sem,f2,M,B,C,E,ec];refine qn (λi fr k=>fr 3=.iptr [.int .i64 f.kind,.str f.comp,.str f.out,.int .i64 f.rel,.int .i64 f.way,.int .i64 f.duty,.bool f.chg,.int .i64 f.e.kind,.str f.e.name,.str f.e.exc,f.e.d,f.d] 0/\fr 11=.int .i64 ((i+1:Nat):Int)/\Ext g k/\∀j,j<i->j<f.list.length-1->leB (f.list.getD (j+1) []) (f.list.getD j [])=false) f.list.length ?_ ?_
   .simp only[go_sem,zM,zV,zG]
    exact⟨M,rfl,z,λj v=>absurd v (yX _)⟩
   rintro i fr h hi ⟨M,ak,z,v⟩;have ai:=l.ll;by_cases n:i+1<f.list.length
   .have e1:decide (((i+1:Nat):Int)<(f.list.length:Int))=true:=zR ow
    have ew:IntKind.i64.wrap (((i+1:Nat):Int)+1)=((i+2:Nat):Int):=qH jL;have aj:IntKind.i64.wrap (((i+1:Nat):Int)-1)=((i:Nat):Int):=by rw[qP ow ow];omega
    have a1:=sP l.list n;have a2:=sP l.list (show i<f.list.length by omega);have a3:=aO f.list[i+1] f.list[i];cases hb:leB f.list[i+1] f.list[i]with
    |true=>
     have Z:X0 f.list=false:=zN λq=>by
      have:=q i ow;rw[Re n,Re ow,hb]at this;cases this
     have hr:W=false:=by rw[<-S];exact Z
     subst hr
     repeat' first|simp only[go_sem, *]|apply bc<;>intro o
     refine yJ kr ?_
     repeat' first|simp only[go_sem, *]|apply bc<;>intro o
    |false=>
     have V:∀j,j<i+1->j<f.list.length-1->leB (f.list.getD (j+1) []) (f.list.getD j [])=false:=λj h1 h2=>by
      rcases zp.1 h1 with q|rfl
      .exact v j q h2
      .rw[Re n,Re ow,hb]
     repeat' first|simp only[go_sem, *]|apply bc<;>intro o
     refine yJ kr ?_
     repeat' first|simp only[go_sem, *]|apply bc<;>intro o
     exact⟨ow,V⟩
   .have e1:decide (((i+1:Nat):Int)<(f.list.length:Int))=false:=zN ow
    have hr:W=true:=by rw[<-S];exact zR λj h=>v j ow h
    subst hr;exact au
def sL(l:List Fac):List (List D):=l.map Fac.cells
def pY(l:List Fac):(sL l).length=l.length:=zI ..
def Gt{l:List Fac}(h:i<l.length):(sL l)[i]? =some l[i].cells:=by simp[sL,h]
def nu{l:List Fac}(a:yZ 12 (sL l) d)(h:Heap):o9 prog 29 d h=some (.int .i64 l.length):=by rw[wL a underlying29,pY]
def tR{l:List Fac}(a:yZ 12 (sL l) d)(b:i<l.length):yc prog 29 d (.int .i64 (i:Int))=some (.iptr l[i].cells 0):=yR a fU dm (Gt b)
abbrev BR:List D:=[.int .i64 0,.str [],.str [],.int .i64 0,.int .i64 0,.int .i64 0,.bool false,.int .i64 0,.str [],.str [],.nilsl,.nilsl]
def QV{f:Fac}(a:f.Ok)(h:Heap)(id:Nat):yW prog 57 (.ptr id 0) (.agg f.cells) (h.new id (.row BR))=some (h.new id (.row f.cells)):=ym dm ow rfl rfl (by show(true&&(true&&(true&&(true&&(true&&(true&&(true&&(true&&(true&&(true&&(f.e.d.flat&&(f.d.flat&&true))))))))))))=true;rw[Ex.flat a.e,lZ a.list];rfl)
def rQ(c:Cat)(l:List Fac)(i:Nat):Int:=match l[i]? with
 |some f=>mS c f
 |none=>0
def LX(f:Nat->Int):Nat->Option (Nat×Int)
 |0=>none
 |n+1=>match LX f n with
  |some p=>some p
  |none=>if(f n==0)=true then none else some (n,f n)
theorem bR{f:Nat->Int} :∀{n:Nat},(∀j,j<n->f j=0)->LX f n=none
 |0,_=>rfl
 |n+1,h=>by simp[LX,bR (n:=n) λj a=>h j ow,h n ow]
theorem Ji{f:Nat->Int} :∀{n i:Nat},i<n->(∀j,j<i->f j=0)->f i≠0->LX f n=some (i,f i)
 |n+1,i,b,a,h0=>by
  rcases zp.1 b with q|rfl
  .simp[LX,Ji q a h0]
  .simp[LX,bR a,h0]
def wb(c:Cat)(l:List Fac):Int×Int:=
 if(!(rt c==0))=true then(-1,1)
 else if decide ((l.length:Int)>256)=true then(-1,10)
 else match LX (rQ c l) l.length with
  |some p=>((p.1:Int),p.2)
  |none=>(0,0)
def Qv(o:uB c d)(H:c.Sm){l:List Fac}(J:yZ 12 (sL l) x)(U:l.length<=1048576)(t:∀f∈l,f.Ok)(g:Heap):zD prog 148 [d,x] g λr h'=>h'=g/\r=.tuple [.int .i64 (wb c l).1,.int .i64 (wb c l).2]:=by
 refine xU kr λT=> ?_;have G:∀k m:Int,below g.next (.tuple [.int .i64 k,.int .i64 m]):=λk m=>by simp[below,qC]
 have q:=fP o H;have b:=λf (hf:f∈l) h=>Qw o H (t f hf) h;have P:=nu J;have O:=cd;have B:=Ext.refl g;obtain⟨ca,cb,ce,cp,rfl,_,_,_,_⟩:=o;refine zj zFO ?_;simp only[f148,zA];cases E:(rt c==0)with
 |false=>
  have s:wb c l=(-1,1):=ip (by rw[E];rfl);clear b
  repeat' first|simp only[go_sem, *]|apply bc<;>intro o|(refine zD.mono (q _) ?_;rintro r h ⟨v,rfl⟩)
 |true=>
 cases K:decide ((l.length:Int)>256)with
 |true=>
  have s:wb c l=(-1,10):=by unfold wb;rw[iq (by rw[E];decide),ip K]
  clear b
  repeat' first|simp only[go_sem, *]|apply bc<;>intro o|(refine zD.mono (q _) ?_;rintro r h ⟨v,rfl⟩)
 |false=>
 have s:wb c l=match LX (rQ c l) l.length with
  |some p=>((p.1:Int),p.2)
  |none=>(0,0):=by unfold wb;rw[iq (by rw[E];decide),iq (by rw[K];exact zd)]
 obtain⟨R,F⟩:∃R,wb c l=R:=⟨_,rfl⟩;rw[F]at s⊢;have a:=s.symm;clear s F
 repeat' first|simp only[go_sem, *]|apply bc<;>intro o|(refine zD.mono (q _) ?_;rintro r h ⟨v,rfl⟩)
 refine zY (λk fr h=>fr 2=.iptr [ca,cb,ce,cp] 0/\fr 15=x/\fr 16=.int .i64 (l.length:Int)/\fr 17=.int .i64 (k:Int)/\Ext g h/\∀j,j<k->rQ c l j=0) l.length ow ?_ ?_ ?_
 .simp only[go_sem,zM,zV,zG]
  exact⟨B,λj n=>absurd n (yX _)⟩
 .rintro k fr h i M S ⟨N,w,y,z,A,n⟩
  have L:=tR J i;have hf:=b l[k] (zH i);have D:=QV (t l[k] (zH i)) h h.next;have C:=A.new A.1 (.row l[k].cells);have e:rQ c l k=mS c l[k]:=by simp[rQ,i]
  generalize l[k]=f at *
  simp only[Fac.cells]at L hf D C;cases I:(mS c f==0)with
  |true=>
   have Q:=pG n (by rw[e];simpa using I);clear n b e a
   repeat' first|simp only[go_sem,z5, *]|apply bc<;>intro o|(refine zD.mono (hf _) ?_;rintro r h ⟨v,rfl⟩)
   exact Q
  |false=>
   have u:LX (rQ c l) l.length=some (k,mS c f):=by rw[Ji i n (by rw[e];simpa using I),e]
   rw[u]at a;simp only at a;have r1:R.1=(k:Int):=by rw[<-a]
   have r2:R.2=mS c f:=by rw[<-a]
   clear n b e a u
   repeat' first|simp only[go_sem,z5, *]|apply bc<;>intro o|(refine zD.mono (hf _) ?_;rintro r h ⟨v,rfl⟩)
 .rintro fr h M ⟨N,w,y,z,A,n⟩
  rw[bR n]at a;simp only at a;have r1:R.1=0:=by rw[<-a]
  have r2:R.2=0:=by rw[<-a]
  clear n b a;exact au
end Go.V
