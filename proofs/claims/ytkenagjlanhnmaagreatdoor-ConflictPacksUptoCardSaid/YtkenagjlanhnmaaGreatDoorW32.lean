/- Rules of the machine of abstract values, part 8. No condition. -/
import Derived.Test.YtkenagjlanhnmaaGreatDoorW31
set_option linter.all false
set_option maxHeartbeats 8000000
namespace Go.V
def YK(h0 h:Heap)(sz:Nat)(xs:List (List D))(d:D):Prop:=Ext h0 h/\((d=.nilsl/\xs= [])\/∃id,d=.rs id sz 0 xs.length/\h.at' id=some (.row xs.flatten)/\h0.next<=id/\id<h.next/\xs≠[])
section
variable{h0 h h':Heap}{sz:Nat}{xs:List (List D)}{d:D}
def YK.start(a:Ext h0 h)(sz:Nat):YK h0 h sz [] .nilsl:=⟨a,.inl ⟨rfl,rfl⟩⟩
def YK.ext(b:YK h0 h sz xs d)(a:Ext h h'):YK h0 h' sz xs d:=by
 refine⟨b.1.trans a,?_⟩;rcases b.2 with h1| ⟨id,rfl,h1,c,h3,e⟩
 .exact .inl h1
 .exact .inr ⟨id,rfl,by rw[a.2 _ h3];exact h1,c,zl h3 a.1,e⟩
def YK.flat(a:YK h0 h sz xs d):d.flat=true/\d.cells= [d]/\d.notTuple=true:=by
 rcases a.2 with⟨rfl,_⟩ | ⟨t,rfl,_⟩ <;>exact⟨rfl,rfl,rfl⟩
def YK.trunc(b:YK h0 h sz xs d)(a:∀y∈xs,y.length=sz)(x:D):t6 d x h=h:=by
 rcases b.2 with⟨rfl,_⟩ | ⟨id,rfl,h1,_⟩
 .rfl
 .unfold t6
  simp only;split
  .rfl
  .rw[h1]
   simp only;rw[iq (by rw[uu a];simp)]
variable{P:Program}{cs:List D}
def Wu{e x:TypeId}(a:P.underlying e=some (.slice x)):oH P e cs=.row cs:=by simp[oH,a]
variable{ys:List (List D)}{tk:Tk}
def YK.app{t e:TypeId}(r:YK h0 h sz xs d)(v:ur P t=some e)(A:ZU P e=true)(z:szT P e=sz)(x:0<sz)(hr:∀cs,oH P e cs=.row cs)(g:∀y∈xs,y.length=sz)(p:∀y∈ys,y.length=sz)(c:ys≠[])
  (j:(xs.length+ys.length)*wr P e<=lim) (m:xs.length+ys.length<=lim):∃a G,qg P true h.next t d (.sl sz ys tk) h=some (a,G)/\YK h0 G sz (xs++ys) a/\t6 d (.sl sz ys tk) h=h:=by
 have f:=r.trunc g (.sl sz ys tk)
 suffices∃a G,qg P true h.next t d (.sl sz ys tk) h=some (a,G)/\YK h0 G sz (xs++ys) a from by
  obtain⟨a,G,B,C⟩:=this;exact⟨a,G,B,C,f⟩
 clear f;have l:ys.flatten.length=ys.length*sz:=uu p;have q:0<ys.length:=z7.2 c;obtain⟨b,u⟩:=r;simp only[qg,v,A,z,Us,qK,l,u0 _ x];have n:∀o,Ext h0 (h.new h.next o):=λo=>b.new b.1 o;rcases u with⟨rfl,rfl⟩ | ⟨id,rfl,h1,D,h3,E⟩
 .refine⟨.rs h.next sz 0 ys.length,h.new h.next (.row ys.flatten),?_,n _,.inr ⟨h.next,jS,by rw[z5];rfl,b.1,by rw[za];omega,by simpa using c⟩⟩
  simp only[tt];rw[iq ow,ip (by simp only[zF,zP];simp only[qO,yP]at j m;exact⟨j,m⟩)];simp[hr]
 .have k:xs.flatten.length=xs.length*sz:=uu g
  have s:Ext h0 ((h.del id).new h.next (.row (xs.flatten++ys.flatten))):=by
   refine⟨zY b.1 (by show h.next<=max h.next _;omega),λi w=> ?_⟩;rw[zg (by have:=b.1;omega),wQ ow];exact b.2 i w
  refine⟨.rs h.next sz 0 (xs.length+ys.length),(h.del id).new h.next (.row (xs.flatten++ys.flatten)),?_,s,.inr ⟨h.next,jS,by rw[z5,mv],b.1,by show h.next<max h.next (h.next+1);omega,by simp[c]⟩⟩;simp only[tt,tH,bC];rw[ip (by simp only[zF,zP];exact⟨j,m⟩)];simp only[h1,k,qK,hr]
end
structure Own2(h0 h:Heap)(s1:Nat)(xs:List (List D))(d:D)(s2:Nat)(ys:List (List D))(e:D):Prop where
 a:Own h0 h s1 xs d
 b:Own h0 h s2 ys e
 ap:∀i,sQ d i->sQ e i->False
section
variable{h0 h h':Heap}{s1 s2:Nat}{xs ys:List (List D)}{d e:D}
def Own2.start(a:Ext h0 h)(s1 s2:Nat):Own2 h0 h s1 [] .nilsl s2 [] .nilsl:=⟨Own.start a _,Own.start a _,λi h=>h.elim⟩
def Own2.ext(c:Own2 h0 h s1 xs d s2 ys e)(f:Ext h h'):Own2 h0 h' s1 xs d s2 ys e:=⟨c.a.ext f,c.b.ext f,c.ap⟩
def Own2.swap(c:Own2 h0 h s1 xs d s2 ys e):Own2 h0 h s2 ys e s1 xs d:=⟨c.b,c.a,λi q p=>c.ap i p q⟩
variable{P:Program}{tk:Tk}{t u:TypeId}{K:D->Heap->Prop}
def Own2.appH{zs:List (List D)}{w:HidR K}(g:Own2 h0 h s1 xs d s2 ys e)(v:ur P t=some u)(B:ZU P u=true)(A:szT P u=s1)(z:0<s1)(p:∀y∈zs,y.length=s1)(m:zs≠[])
  (s:(xs.length+zs.length)*wr P u<=lim) (x:xs.length+zs.length<=lim) (r:∀l h',Own2 h0 h' s1 (xs++zs) l s2 ys e->K l h'):Hs (qg P false h.next t d (.sl s1 zs tk) h) K w:=
 g.a.2.1.app2 v B A z p m s x λl h' o n j tk c f=>r l h' ⟨⟨⟨zY g.a.1.1 n,λi k=>by rw[j i (zl k g.a.1.1) (λq=>by have:=g.a.2.2 i q;omega)];exact g.a.1.2 i k⟩,o,λi k=>zY g.a.1.1 (tk i k)⟩,
  ⟨⟨zY g.a.1.1 n,λi k=>by rw[j i (zl k g.a.1.1) (λq=>by have:=g.a.2.2 i q;omega)];exact g.a.1.2 i k⟩,g.b.2.1.loc n λi k=>j i (g.b.2.1.tok k).1 λq=>g.ap i q k,g.b.2.2⟩,
  λi C E=>by have:=tk i C;have:=(g.b.2.1.tok E).1;omega⟩
end
section
variable{h0 h h':Heap}{sz:Nat}{xs:List (List D)}{d:D}
variable{P:Program}{ys:List (List D)}{tk:Tk}{K:D->Heap->Prop}
def Own.appK{t e:TypeId}{w:HidR K}(b:Own h0 h sz xs d)(r:ur P t=some e)(z:ZU P e=true)(x:szT P e=sz)(v:0<sz)(l:∀y∈ys,y.length=sz)(k:ys≠[])
  (p:(xs.length+ys.length)*wr P e<=lim) (s:xs.length+ys.length<=lim) (m:∀j h',Own h0 h' sz (xs++ys) j->h.next<=h'.next->(∀i,i<h.next->h.at' i≠some .tok->h'.at' i=h.at' i)->K j h'):Hs (qg P false h.next t d (.sl sz ys tk) h) K w:=
 b.2.1.app2 r z x v l k p s λj h' o n a tk c f=>m j h' ⟨⟨zY b.1.1 n,λi g=>by rw[a i (zl g b.1.1) (λq=>by have:=b.2.2 i q;omega)];exact b.1.2 i g⟩,o,λi g=>zY b.1.1 (tk i g)⟩ n λi g u=>a i g λq=>u (b.2.1.tok q).2
variable{id:Nat}
def Own.setK(a:Own h0 h sz xs d){o:Obj}(c:h0.next<=id)(hr:h.at' id=some o)(b:o≠ .tok)(g:Obj):Own h0 (h.set id g) sz xs d:=
 ⟨a.1.set c _,a.2.1.loc (zD _) λi f=>zW λe=>by subst e;have:=(a.2.1.tok f).2;rw[hr]at this;exact b (oW this),a.2.2⟩
end
structure Lcl(W:Nat->(Nat->Prop)->Heap->Prop):Prop where
 here:∀k S h,W k S h->∀i,S i->i<h.next
 loc:∀k S h h',W k S h->h.next<=h'.next->(∀i,S i->h'.at' i=h.at' i)->W k S h'
def YLp(id:Nat)(L:LRec)(W:Nat->(Nat->Prop)->Heap->Prop)(k:Nat)(S:Nat->Prop)(h:Heap):Prop:=
 id<h.next/\h.at' id=some (.loop L)/\∃S0,W k S0 h/\¬S0 id/\∀i,S i↔(i=id\/S0 i)
def LpK(id:Nat)(L:LRec)(W:Nat->(Nat->Prop)->Heap->Prop)(k:Nat)(S0:Nat->Prop)(h:Heap)(r:D)(h':Heap):Prop:=
 r=.bool true/\∃S',(∀i,S' i->S0 i\/h.next<=i)/\But (λi=>i=id\/S0 i) h h'/\h'.at' id=some (.loop L)/\W (k+1) S' h'
section
variable{P:Program}{W:Nat->(Nat->Prop)->Heap->Prop}{id n:Nat}{L:LRec}{el:Nat->List D}
def YLp.yld(s:Lcl W)(go:∀k S0 h3,k<n->id<h3.next->h3.at' id=some (.loop L)->W k S0 h3->¬S0 id->uC P id (el k) h3 (LpK id L W k S0 h3)):Yld P id n el (YLp id L W) λ_ _=>False:=by
 refine⟨λk S h y i b=> ?_,λk S h h' y m g=> ?_,λS h o=>o.elim,λS h h' o=>o.elim,λk S h g y=> ?_⟩
 .obtain⟨c,_,S0,d,_,a⟩:=y
  rcases(a i).1 b with rfl|v
  .exact c
  .exact s.here _ _ _ d i v
 .obtain⟨c,j,S0,d,f,a⟩:=y
  exact⟨ow,by rw[g id ((a id).2 (.inl rfl))];exact j,S0,s.loc _ _ _ _ d m λi b=>g i ((a i).2 (.inr b)),f,a⟩
 .obtain⟨c,j,S0,d,f,a⟩:=y
  refine(go k S0 h g c j d f).mono ?_;rintro r h' ⟨rfl,S',p,l,t,u⟩;refine⟨λi=>i=id\/S' i,λi b=> ?_,⟨l.1,λi b m=>l.2 i b λe=>m ((a i).2 e)⟩,.inl ⟨rfl,zl c l.1,t,S',u,λe=> ?_,λi=>Iff.rfl⟩⟩
  .rcases b with rfl|b
   .exact .inl ((a _).2 (.inl rfl))
   .exact(p i b).imp (λq=>(a i).2 (.inr q)) λq=>q
  .rcases p _ e with q|q
   .exact f q
   .omega
variable{S0 S':Nat->Prop}{k:Nat}{fr:Frm}
def Lp.fin(f:Lcl W){B:LRec}(b:({ B with st:=.ready,pending:=none } :LRec)=L){h3 a:Heap}(d:id<h3.next)(j:¬S0 id)(hid:a.at' id=some (.loop B))(c:∀i,S' i->S0 i\/h3.next<=i)(g:But (λi=>i=id\/S0 i) h3 a)(l:W (k+1) S' a) :
  rH (LpK id L W k S0 h3) id .normal fr a:=by
 refine sK hid ⟨rfl,S',c,g.set (.inl (.inl rfl)) _,by rw[zU,b],f.loc _ _ _ _ l (zD _) λi h=>zW λe=> ?_⟩;subst e;rcases c _ h with q|q
 .exact j q
 .omega
variable{f:FuncId}{args:List D}{h:Heap}{S:Nat->Prop}
def pq{a:Nat}(s:h.next=a){Q:Exit->Frm->Heap->Prop}(d:Lcl W)(v:L.st=.ready)(u:L.pending=none)(p:W 0 S h)
  (g:Yld P a n el (YLp a L W) (λ_ _=>False)->YLp a L W 0 (λi=>i=a\/S i) (h.new a (.loop L))->zE P f args (h.new a (.loop L)) λ_ h'=>∃S',(∀j,S' j->(j=a\/S j)\/(h.new a (.loop L)).next<=j)/\But (λi=>i=a\/S i) (h.new a (.loop L)) h'/\YLp a L W n S' h')
  (go:∀k S0 h3,k<n->a<h3.next->h3.at' a=some (.loop L)->W k S0 h3->¬S0 a->uC P a (el k) h3 (LpK a L W k S0 h3))
  (m:∀S' c,(∀j,S' j->S j\/a<=j)->But S h c->W n S' c->Q .normal fr c):
  zE P f args (h.new a (.loop L)) λ_ h'=>∃r,h'.at' a=some (.loop r)/\r.st≠ .busy/\Va r.pending Q fr (h'.del a):=by
 subst s;have E:(h.new h.next (.loop L)).next=h.next+1:=za _ _;have o:¬S h.next:=λe=>wK _ (d.here _ _ _ p _ e);refine(g (YLp.yld d go) ⟨ow,z5 _ _ _,S,d.loc _ _ _ _ p ow λi l=>zg (by have:=d.here _ _ _ p _ l;omega),o,λi=>Iff.rfl⟩).mono ?_;rintro r c ⟨S',C,x,D,z,S0,A,w,B⟩;refine⟨L,z,(by rw[v];intro q;cases q),?_⟩;rw[u,pM];refine m S0 _ (λj y=> ?_) ⟨by have:=x.1;show h.next<=c.next;omega,λi l t=> ?_⟩ (d.loc _ _ _ _ A (zD _) λi l=>wQ λe=>by subst e;exact w l)
 .rcases C j ((B j).2 (.inr y))with(q|q)|q
  .subst q;exact absurd y w
  .exact .inl q
  .exact .inr ow
 .have b:i≠h.next:=ow
  rw[wQ b,x.2 i ow (λe=>e.elim b t),zg b]
end
def WK(m1:Nat)(o1:Obj)(m2:Nat)(o2:Obj)(W:Nat->(Nat->Prop)->Heap->Prop)(k:Nat)(S:Nat->Prop)(h:Heap):Prop:=
 ∃S1,W k S1 h/\(m1<h.next/\m2<h.next)/\(h.at' m1=some o1/\h.at' m2=some o2)/\(¬S1 m1/\¬S1 m2)/\∀i,S i↔(i=m1\/i=m2\/S1 i)
def WK.lcl{m1 m2:Nat}{o1 o2:Obj}{W:Nat->(Nat->Prop)->Heap->Prop}(j:Lcl W):Lcl (WK m1 o1 m2 o2 W):=by
 refine⟨λk S h y i d=> ?_,λk S h h' y n e=> ?_⟩
 .obtain⟨S1,b,⟨f,g⟩,_,_,c⟩:=y
  rcases(c i).1 d with rfl|rfl|q
  .exact f
  .exact g
  .exact j.here _ _ _ b i q
 .obtain⟨S1,b,⟨f,g⟩,⟨l,c⟩,m,a⟩:=y
  exact⟨S1,j.loc _ _ _ _ b n λi d=>e i ((a i).2 (.inr (.inr d))),⟨ow,ow⟩,⟨by rw[e m1 ((a m1).2 (.inl rfl))];exact l,by rw[e m2 ((a m2).2 (.inr (.inl rfl)))];exact c⟩,m,a⟩
variable{k id i sz n:Nat}{S S0 S':Nat->Prop}{h h' g:Heap}{P:Program}{cs args cap:List D}{ys xs:List (List D)}{tk:Tk}{t u:TypeId}{K:D->Heap->Prop}{fr:Frm}{f:FuncId}{α β:Type}{d x:D}
def WK.start{m1 m2:Nat}{o1 o2:Obj}{W:Nat->(Nat->Prop)->Heap->Prop}(b:W k S h)(h1:m1<h.next)(a:m2<h.next)(e1:h.at' m1=some o1)(e2:h.at' m2=some o2)(c:¬S m1)(d:¬S m2):WK m1 o1 m2 o2 W k (λi=>i=m1\/i=m2\/S i) h:=
 ⟨S,b,⟨h1,a⟩,⟨e1,e2⟩,⟨c,d⟩,λ_=>Iff.rfl⟩
def WK.stop{m1 m2:Nat}{o1 o2:Obj}{W:Nat->(Nat->Prop)->Heap->Prop}(e1:h.at' m1=some o1)(e2:h.at' m2=some o2)(m:∀i,S' i->(i=m1\/i=m2\/S i)\/h.next<=i)(b:But (λi=>i=m1\/i=m2\/S i) h h')(n:WK m1 o1 m2 o2 W k S' h'):
  ∃S1,(∀i,S1 i->S i\/h.next<=i)/\But S h h'/\W k S1 h':=by
 obtain⟨S1,c,_,⟨d,f⟩,⟨g,j⟩,l⟩:=n;refine⟨S1,λi a=> ?_,⟨b.1,λi a r=> ?_⟩,c⟩
 .rcases m i ((l i).2 (.inr (.inr a)))with(rfl|rfl|q)|q
  .exact absurd a g
  .exact absurd a j
  .exact .inl q
  .exact .inr q
 .by_cases o:i=m1
  .subst o;rw[d,e1]
  .by_cases p:i=m2
   .subst p;rw[f,e2]
   .exact b.2 i a λe=>by rcases e with q|q|q<;>contradiction
def WK.st{m1 m2:Nat}{o1 o2:Obj}{W:Nat->(Nat->Prop)->Heap->Prop}(c:WK m1 o1 m2 o2 W k S h):(h.at' m1=some o1/\h.at' m2=some o2)/\(m1<h.next/\m2<h.next):=by
 obtain⟨S1,_,b,a,_⟩:=c;exact⟨a,b⟩
def jq{α β:Type}(l:List α)(f:α->List β)(a:Nat):Nat:=((l.take a).flatMap f).length
def JC{l:List α}{f:α->List β}{a:Nat}(h:a<l.length):jq l f (a+1)=jq l f a+(f l[a]).length:=by
 unfold jq;rw[zM h,py,zS];simp
def Zj(l:List α)(f:α->List β):jq l f 0=0:=by simp[jq]
def aG(l:List α)(f:α->List β):jq l f l.length=(l.flatMap f).length:=by simp[jq]
def Ag{l:List α}{f:α->List β}{a b:Nat}(h:a<l.length)(c:b<(f l[a]).length):(l.flatMap f)[jq l f a+b]? =some (f l[a])[b]:=by
 have:l.flatMap f=(l.take a).flatMap f++(f l[a]++(l.drop (a+1)).flatMap f):=by
  conv=>lhs;rw[<-yk a l,z8 h,py,nG]
 rw[this,yT (by unfold jq;omega)];unfold jq;rw[uR,yi c,zB]
def zLN{l:List α}{f:α->List β}{a b:Nat}(h:a<l.length)(c:b<(f l[a]).length):jq l f a+b<(l.flatMap f).length:=(zK.1 (Ag h c)).1
open Go.Proofs.Tryz
open Go.Proofs
set_option maxRecDepth 100000
structure Trm where
 a:List UInt8
 b:List UInt8
def Trm.cells(l:Trm):List D:=[.str l.a,.str l.b]
def wp(l:List Trm):List (List D):=l.map Trm.cells
def wk(l:List Trm):(wp l).length=l.length:=zH ..
def XQ{l:List Trm}(h:i<l.length):(wp l)[i]? =some l[i].cells:=by simp[wp,h]
def ua{l:List Trm}(a:yg 2 (wp l) d)(h:Heap):o5 prog 195 d h=some (.int .i64 l.length):=by rw[wL a underlying195,wk]
def og{l:List Trm}(a:yg 2 (wp l) d)(b:i<l.length):yj prog 195 d (.int .i64 (i:Int))=some (.iptr l[i].cells 0):=yW a uD ui (XQ b)
def yu(a b:Trm):Int:=orL [d7 a.a b.a,d7 a.b b.b]
def cP(a b:Trm)(g:Heap):zE prog 330 [.agg a.cells,.agg b.cells] g λr h'=>h'=g/\r=.int .i64 (yu a b):=by
 have h1:=Rz a.a b.a;have f:=Rz a.b b.b;have h3:=zED (l:=[d7 a.a b.a,d7 a.b b.b]) (yg.mk .full) jS;have hr:=λnid=>zJ6 (d7 a.a b.a) (d7 a.b b.b) nid;have c:orL [d7 a.a b.a,d7 a.b b.b]=yu a b:=rfl;rw[c]at h3;have d:∀h:Heap,HLe Heap.emp h:=λh i j e=>by cases e
 refine zo zMd ?_;simp only[f330,zA];simp only[Trm.cells]
 repeat' first|simp only[go_sem, *]|apply bc<;>intro c
 refine yp Heap.emp (pwt [0,1,2,3,5] ((6,.st,true)::(pwt [7] ((8,.st,true)::(pwt [4,9,10,11,12] []))))) kr kr (λi j e=>by cases e) ?_
 repeat' first|simp only[go_sem, *]|apply bc<;>intro c|refine zE.use (h1 _) ?_|refine zE.use (f _) ?_|refine zE.use (h3 _) ?_
def Pe(x y:Trm)(c:Bool):jR prog .eql 197 c (.agg [.str x.a,.str x.b]) (.agg [.str y.a,.str y.b])=some (.bool (x.a==y.a&&x.b==y.b)):=by
 have d:eqT prog 197=some [.s,.s]:=kr;simp only[jR,d,Ji,eqK,qt,pF,nD]
def EC{l:List Trm}(q:yg 2 (wp l) d)(D:l.length<=1048576)(n:Trm)(g:Heap):
  zE prog 424 [d,.agg [.str n.a,.str n.b]] g λr h'=>h'=g/\r=.int .i64 (Y7 (λx:Trm=>n.a==x.a&&n.b==x.b) l):=by
 have s:=ua q;have heq:=Pe n;obtain⟨p,t⟩:∃p:Trm->Bool,(λx:Trm=>n.a==x.a&&n.b==x.b)=p:=⟨_,rfl⟩;have m:∀x,(n.a==x.a&&n.b==x.b)=p x:=λx=>by rw[<-t]
 rw[t];refine zo zM5 ?_;simp only[f424,zA];simp only[go_sem, *];refine zZ (λi fr h=>fr 0=d/\fr 3=.iptr [.str n.a,.str n.b] 0/\fr 7=.int .i64 (l.length:Int)/\fr 8=.int .i64 (i:Int)/\h=g/\∀j (e:j<l.length),j<i->p l[j]=false) l.length ow ?_ ?_ ?_
 .simp only[go_sem,zQ,zT,zG]
  exact λj e h0=>absurd h0 (ym _)
 .rintro i fr h c e1 C ⟨v,w,y,z,rfl,e⟩
  have u:=og q c;simp only[Trm.cells]at u;have o:=heq l[i];rw[m]at o;cases k:p l[i]with
  |true=>
   have B:=kL (p:=p) c e k;rw[k]at o;simp only[go_sem, *];refine yF kr ?_;simp only[go_sem, *]
  |false=>
   have A:=uq (p:=p) c e k;rw[k]at o;simp only[go_sem, *];refine yF kr ?_;simp only[go_sem, *];exact A
 .rintro fr h e1 ⟨v,w,y,z,rfl,e⟩
  have B:=kM (p:=p) λj f=>e j f f;exact au
def ND{l:List Trm}(e:yg 2 (wp l) d)(h:l.length<=1048576)(n:Trm)(g:Heap):
  zE prog 384 [d,.agg [.str n.a,.str n.b]] g λr h'=>h'=g/\r=.bool (l.any λx:Trm=>n.a==x.a&&n.b==x.b):=by
 have c:=EC e h n;have f:=fJ (l:=l) (p:=λx:Trm=>n.a==x.a&&n.b==x.b);refine zo zMx ?_;simp only[f384,zA]
 repeat' first|simp only[go_sem, *]|apply bc<;>intro i|refine zE.use (c _) ?_
def R9{l:List Trm}(n:yg 2 (wp l) d)(C:l.length<=1048576){p:Trm->Bool}(z:∀s∈l,∀h,zE prog f ([]++ [.agg s.cells]++cap) h λr h'=>h'=h/\r=.bool (p s))(g:Heap):
  zE prog 423 [d,.fn (.func f) [] cap] g λr h'=>h'=g/\r=.int .i64 (Y7 p l):=by
 have o:=ua n;refine zo zM4 ?_;simp only[f423,zA]
 repeat' first|simp only[go_sem, *]|apply bc<;>intro m
 refine zZ (λi fr h=>fr 1=.fn (.func f) [] cap/\fr 0=d/\fr 6=d/\fr 7=.int .i64 (l.length:Int)/\fr 8=.int .i64 (i:Int)/\h=g/\∀j (b:j<l.length),j<i->p l[j]=false) l.length ow ?_ ?_ ?_
 .simp only[go_sem,zQ,zT,zG]
  exact λj b h0=>by omega
 .rintro i fr h a e1 B ⟨u,t,v,w,x,rfl,b⟩
  have q:=og n a;have e:=z _ (zI a);simp only[yL,zq,Trm.cells]at e;simp only[Trm.cells]at q;cases k:p l[i]with
  |true=>
   have A:=kL a b k;rw[k]at e
   repeat' first|simp only[go_sem, *]|apply bc<;>intro m|refine zE.use (e _) ?_
  |false=>
   have y:=uq (p:=p) a b k;rw[k]at e
   repeat' first|simp only[go_sem, *]|apply bc<;>intro m|refine zE.use (e _) ?_
   exact y
 .rintro fr h e1 ⟨u,t,v,w,x,rfl,b⟩
  have A:=kM (p:=p) λj c=>b j c c;exact au
def Xm{l:List Trm}(b:yg 2 (wp l) d)(e:l.length<=1048576){p:Trm->Bool}(i:∀s∈l,∀h,zE prog f ([]++ [.agg s.cells]++cap) h λr h'=>h'=h/\r=.bool (p s))(g:Heap):
  zE prog 382 [d,.fn (.func f) [] cap] g λr h'=>h'=g/\r=.bool (l.any p):=by
 have a:=R9 b e i;have c:=fJ (l:=l) (p:=p);refine zo zMv ?_;simp only[f382,zA]
 repeat' first|simp only[go_sem, *]|apply bc<;>intro j|refine zE.use (a _) ?_
def Az(x:Trm)(h:Heap)(id:Nat):yR prog 197 (.ptr id 0) (.agg [.str x.a,.str x.b]) (h.new id (.row [.str [],.str []]))=some (h.new id (.row [.str x.a,.str x.b])):=yo ui ow rfl rfl rfl
def mS:List Trm->List Trm->Int
 | [],[]=>0
 | [],_::_=> -1
 |_::_,[]=>1
 |x::xs,y::ys=>if(!(yu x y==0))=true then yu x y else mS xs ys
theorem QQ:∀{a b:List Trm}{i:Nat}(f:i<a.length)(g:i<b.length),(∀j (h1:j<a.length)(d:j<b.length),j<i->yu a[j] b[j]=0)->yu a[i] b[i]≠0->mS a b=yu a[i] b[i]
 |x::xs,y::ys,0,_,_,_,h0=>by
  have c:yu x y≠0:=h0;simp[mS,c]
 |x::xs,y::ys,i+1,f,g,h,h0=>by
  have e:yu x y=0:=h 0 jS jS ow;have:=QQ (a:=xs) (b:=ys) (i:=i) (by simpa using f) (by simpa using g) (λj h1 d h3=>h (j+1) (mK h1) (mK d) ow) (by simpa using h0);simp only[mS,e,o9];simpa using this
theorem Xy:∀{a b:List Trm},(∀j (h1:j<a.length)(c:j<b.length),yu a[j] b[j]=0)->mS a b=if b.length<a.length then 1 else if a.length<b.length then -1 else 0
 | [],[],_=>rfl
 | [],y::ys,_=>by simp[mS]
 |x::xs,[],_=>by simp[mS]
 |x::xs,y::ys,d=>by
  have e:yu x y=0:=d 0 jS jS;have:=Xy (a:=xs) (b:=ys) (λj h1 c=>d (j+1) (mK h1) (mK c));simp only[mS,e,zu];simpa using this
def VU{a b:List Trm}(G:yg 2 (wp a) d)(H:yg 2 (wp b) x)(X:a.length<=1048576)(Y:b.length<=1048576)(g:Heap):
  zE prog 381 [d,x,.fn (.func 330) [] []] g λr h'=>h'=g/\r=.int .i64 (mS a b):=by
 refine xU kr λhh=> ?_;have I:∀k:Int,below g.next (.int .i64 k):=λk=>by simp[below,qM]
 have l:=λp q h=>cP p q h;simp only[Trm.cells]at l;have V:=ua G;have W:=ua H;have z:=Ext.refl g;obtain⟨R,s⟩:∃R,mS a b=R:=⟨_,rfl⟩;rw[s];refine zo zMu ?_;simp only[f381,zA]
 repeat' first|simp only[go_sem, *]|apply bc<;>intro B
 refine zZ (λk fr h=>fr 0=d/\fr 1=x/\fr 2=.fn (.func 330) [] []/\fr 11=d/\fr 12=.int .i64 (a.length:Int)/\fr 13=.int .i64 (k:Int)/\Ext g h/\k<=b.length/\∀j (h1:j<a.length)(f:j<b.length),j<k->yu a[j] b[j]=0) a.length ow ?_ ?_ ?_
 .simp only[go_sem,zQ,zT,zG]
  exact⟨z,yD _,λj h1 f m=>absurd m (ym _)⟩
 .rintro k fr h o Q ew ⟨S,T,U,u,v,w,y,D,m⟩
  have O:=og G o;have F:=Az a[k] h h.next;have e:=y.new y.1 (.row a[k].cells);simp only[Trm.cells]at O e;by_cases C:k<b.length
  .have P:=og H C
   have t:decide ((k:Int)>=(b.length:Int))=false:=by simp only[wc];omega
   obtain⟨c,i⟩:∃c,h.new h.next (.row [.str a[k].a,.str a[k].b])=c:=⟨_,rfl⟩;rw[i]at F e;have N:=z5 h h.next (.row [.str a[k].a,.str a[k].b]);rw[i]at N;have L:=Az b[k] c c.next;have A:=e.new e.1 (.row b[k].cells);simp only[Trm.cells]at P A;have n2:=z5 c c.next (.row [.str b[k].a,.str b[k].b]);have K:h.next<c.next:=by rw[<-i,za];omega
   have n3:(c.new c.next (.row [.str b[k].a,.str b[k].b])).at' h.next=some (.row [.str a[k].a,.str a[k].b]):=by rw[zg ow];exact N
   cases M:(yu a[k] b[k]==0)with
   |true=>
    have Z:∀j (h1:j<a.length)(f:j<b.length),j<k+1->yu a[j] b[j]=0:=λj h1 f h3=>by
     rcases zx.1 h3 with q|rfl
     .exact m j h1 f q
     .simpa using M
    have J:k+1<=b.length:=C
    repeat' first|simp only[go_sem, *]|apply bc<;>intro B|(refine zE.mono (l _ _ _) ?_;rintro r h ⟨E,rfl⟩)
    exact Z
   |false=>
    have n:=QQ o C m (by simpa using M);rw[s]at n
    repeat' first|simp only[go_sem, *]|apply bc<;>intro B|(refine zE.mono (l _ _ _) ?_;rintro r h ⟨E,rfl⟩)
  .have t:decide ((k:Int)>=(b.length:Int))=true:=by simp only[zP];omega
   have n:=Xy (a:=a) (b:=b) (λj h1 f=>m j h1 f ow);rw[ip ow,s]at n;exact au
 .rintro fr h Q ⟨S,T,U,u,v,w,y,D,m⟩
  have n:=Xy (a:=a) (b:=b) (λj h1 f=>m j h1 f h1);rw[iq ow,s]at n;cases t:decide ((a.length:Int)<(b.length:Int))with
  |true=>
   rw[ip (by have:=yB t;omega)]at n
   repeat' first|simp only[go_sem, *]|apply bc<;>intro B
  |false=>
   rw[iq (by have:=yJ t;omega)]at n;exact au
def cK(a b:List Trm):Int:=orL [tD a.length b.length,mS a b]
def Rv{a b:List Trm}(f:yg 2 (wp a) d)(h:yg 2 (wp b) x)(c:a.length<=1048576)(e:b.length<=1048576)(g:Heap):
  zE prog 333 [d,x] g λr h'=>h'=g/\r=.int .i64 (cK a b):=by
 have k:=ua f;have m:=ua h;have h1:=Xh a.length b.length;have j:=VU f h c e;have h3:=zED (l:=[tD a.length b.length,mS a b]) (yg.mk .full) jS;have hr:=λnid=>zJ6 (tD a.length b.length) (mS a b) nid;have i:orL [tD a.length b.length,mS a b]=cK a b:=rfl;rw[i]at h3;refine zo zMf ?_;simp only[f333,zA]
 repeat' first|simp only[go_sem, *]|apply bc<;>intro i|refine zE.use (h1 _) ?_|refine zE.use (j _) ?_|refine zE.use (h3 _) ?_
def zJj(l:List Trm)(n:Trm):Bool:=l.any λx:Trm=>n.a==x.a&&n.b==x.b
def zAO{l:List Trm}(e:yg 2 (wp l) d)(f:l.length<=1048576)(n:Trm)(g:Heap):
  zE prog 383 [.agg n.cells,.iptr [d] 0] g λr h'=>h'=g/\r=.bool (!(zJj l n)):=by
 have c:=ND e f n;have h:(l.any λx:Trm=>n.a==x.a&&n.b==x.b)=zJj l n:=rfl;rw[h]at c;refine zo zMw ?_;simp only[f383,zA];simp only[Trm.cells]
 repeat' first|simp only[go_sem, *]|apply bc<;>intro c|refine zE.use (c _) ?_
def bi(a b:List Trm):Bool:= !(b.any λn=> !(zJj a n))
def TC{a b:List Trm}(j:yg 2 (wp a) d)(k:yg 2 (wp b) x)(e:a.length<=1048576)(i:b.length<=1048576)(g:Heap):
  zE prog 335 [d,x] g λr h'=>h'=g/\r=.bool (bi a b):=by
 have c:=Xm k i (f:=383) (cap:=[.iptr [d] 0]) λn _ h=>zAO j e n h;have l:(b.any λn=> !(zJj a n))= !(bi a b):=by simp[bi]
 rw[l]at c;refine zo zMh ?_;simp only[f335,zA];rcases j with⟨rfl,_⟩ | ⟨_,rfl⟩
 .repeat' first|simp only[go_sem, *]|apply bc<;>intro c|refine zE.use (c _) ?_
 .repeat' first|simp only[go_sem, *]|apply bc<;>intro c|refine zE.use (c _) ?_
structure QC{β:Type}(c:β->β->Int):Prop where
 anti:∀x y,c x y<0↔0<c y x
 trans:∀x y z,c x y<=0->c y z<=0->c x z<=0
def QC.refl{c:β->β->Int}(h:QC c)(x:β):c x x=0:=by
 have:=h.anti x x;omega
def QC.eq0{c:β->β->Int}(h:QC c){x y:β}(e:c x y=0):c y x=0:=by
 have h1:=h.anti x y;have a:=h.anti y x;omega
def QC.ltle{c:β->β->Int}(h:QC c){x y z:β}(h1:c x y<0)(d:c y z<=0):c x z<0:=by
 have a:=h.trans x y z ow d;rcases Int.lt_or_eq_of_le a with q|q
 .exact q
 .have b:=h.trans y z x d (by rw[h.eq0 q];exact Int.le_refl _)
  have:=(h.anti x y).1 h1;omega
def QC.lelt{c:β->β->Int}(h:QC c){x y z:β}(h1:c x y<=0)(d:c y z<0):c x z<0:=by
 have a:=h.trans x y z h1 ow;rcases Int.lt_or_eq_of_le a with q|q
 .exact q
 .have b:=h.trans z x y (by rw[h.eq0 q];exact Int.le_refl _) h1
  have:=(h.anti y z).1 d;omega
def QC.key{β γ:Type}{c:β->β->Int}(h:QC c)(f:γ->β):QC λx y=>c (f x) (f y):=⟨λ_ _=>h.anti _ _,λ_ _ _=>h.trans _ _ _⟩
def Q0(a b:Int):Int:=if a=0 then b else a
def QC.lex{c d:β->β->Int}(h:QC c)(k:QC d):QC λx y=>Q0 (c x y) (d x y) where
 anti x y:=by
  have h1:=h.anti x y;have h2:=h.anti y x;have h3:=k.anti x y
  grind [Q0]
 trans x y z h1 h2:=by
  simp only[Q0]at *
  by_cases e1:c x y=0
  .by_cases e2:c y z=0
   .rw[ip e1]at h1;rw[ip e2]at h2
    have e3:c x z=0:=by
     have a:=h.trans x y z ow ow;have b:=h.trans z y x (by rw[h.eq0 e2];omega) (by rw[h.eq0 e1];omega);have:=h.anti x z;omega
    rw[ip e3];exact k.trans x y z h1 h2
   .rw[iq e2]at h2
    have:=h.lelt (x:=x) (y:=y) (z:=z) ow ow
    grind
  .rw[iq e1]at h1
   by_cases e2:c y z=0
   .have:=h.ltle (x:=x) (y:=y) (z:=z) ow ow
    grind
   .rw[iq e2]at h2
    have:=h.ltle (x:=x) (y:=y) (z:=z) ow ow
    grind
def Yc{β:Type}(c:β->β->Int):List β->List β->Int
 | [],[]=>0
 | [],_::_=> -1
 |_::_,[]=>1
 |x::xs,y::ys=>Q0 (c x y) (Yc c xs ys)
theorem Q1{c:β->β->Int}(h:QC c):∀x y,Yc c x y<0↔0<Yc c y x
 | [],[]=>by simp[Yc]
 | [],_::_=>by simp[Yc]
 |_::_,[]=>by simp[Yc]
 |a::x,b::y=>by
  have h1:=h.anti a b;have d:=h.anti b a;have h3:=Q1 h x y
  grind [Yc,Q0]
theorem UD{c:β->β->Int}(h:QC c):∀x y z,Yc c x y<=0->Yc c y z<=0->Yc c x z<=0
 | [],_,[],_,_=>by simp[Yc]
 | [],_,_::_,_,_=>by simp[Yc]
 |_::_,[],_,h1,_=>by simp[Yc]at h1
 |_::_,_::_,[],_,e=>by simp[Yc]at e
 |a::x,b::y,d::z,h1,e=>by
  have f:=UD h x y z;simp only[Yc,Q0]at *
  by_cases e1:c a b=0
  .by_cases e2:c b d=0
   .rw[ip e1]at h1
    have e3:c a d=0:=by
     have p:=h.trans a b d ow ow;have q:=h.trans d b a (by rw[h.eq0 e2];omega) (by rw[h.eq0 e1];omega);have:=h.anti a d;omega
    grind
   .rw[iq e2]at e
    have:=h.lelt (x:=a) (y:=b) (z:=d) ow ow
    grind
  .rw[iq e1]at h1
   by_cases e2:c b d=0
   .have:=h.ltle (x:=a) (y:=b) (z:=d) ow ow
    grind
   .rw[iq e2]at e
    have:=h.ltle (x:=a) (y:=b) (z:=d) ow ow
    grind
def QC.list{c:β->β->Int}(h:QC c):QC (Yc c):=⟨Q1 h,UD h⟩
theorem Tc{c:β->β->Int}(h:∀x y,c x y=0->x=y):∀x y,Yc c x y=0->x=y
 | [],[],_=>rfl
 | [],_::_,e=>by simp[Yc]at e
 |_::_,[],e=>by simp[Yc]at e
 |a::x,b::y,e=>by
  simp only[Yc,Q0]at e;split at e
  .rename_i q;rw[h _ _ q,Tc h x y e]
  .grind
section
variable{β:Type}{c:β->β->Int}
def srt(c:β->β->Int)(l:List β):List β:=l.mergeSort λa b=> !(decide (c b a<0))
def sX(l:List β):(srt c l).Perm l:=List.mergeSort_perm _ _
def bV{l:List β}{x:β} :x∈srt c l↔x∈l:=(sX l).mem_iff
def Uh(h:QC c)(l:List β):(srt c l).Pairwise λa b=>¬c b a<0:=by
 have:=List.pairwise_mergeSort (le:=λa b=> !(decide (c b a<0))) (λx y z h1 g=>by
  simp only[qH,wc]at *
  have d:=h.anti y x;have e:=h.anti z y;have f:=h.anti z x;have:=h.trans x y z ow ow;omega) (λx y=>by
  have:=h.anti x y;simp only[qN,qH,wc];omega) l
 grind [srt]
theorem an(h:QC c)(i:∀x y,c x y=0->x=y):∀{l m:List β},l.Perm m->l.Pairwise (λa b=>¬c b a<0)->m.Pairwise (λa b=>¬c b a<0)->l=m
 | [],m,d,_,_=>(bh.1 d).symm
 |x::l,[],d,_,_=>by cases List.perm_nil.1 d
 |x::l,y::m,d,h1,g=>by
  have j:x∈y::m:=d.mem_iff.1 jS;have k:y∈x::l:=d.mem_iff.2 jS;have e:x=y:=by
   rcases yE.1 j with q|q
   .exact q
   .rcases yE.1 k with f|f
    .exact f.symm
    .have n:=(sC.1 h1).1 y f
     have o:=(sC.1 g).1 x q;have p:=h.anti x y
     grind
  subst e;rw[an h i (List.perm_cons x |>.1 d) (sC.1 h1).2 (sC.1 g).2]
def L9(h:QC c)(d:∀x y,c x y=0->x=y){l m:List β}(e:m.Perm l)(f:m.Pairwise λa b=>¬c b a<0):m=srt c l:=an h d (e.trans (sX l).symm) f (Uh h l)
def Gf(h:QC c)(a:∀x y,c x y=0->x=y){l m:List β}(b:m.Perm l):srt c m=srt c l:=L9 h a ((sX m).trans b) (Uh h m)
def tF(c:β->β->Int)(l:List β):Nat->List β
 |0=>[]
 |n+1=>match l[n]? with
  |none=>tF c l n
  |some x=>match n with
   |0=>[x]
   |k+1=>match l[k]? with
    |none=>tF c l (k+1)
    |some y=>if(c x y==0)=true then tF c l (k+1)else tF c l (k+1)++ [x]
def cpt(c:β->β->Int)(l:List β):List β:=tF c l l.length
def bz{l:List β}(h:0<l.length):tF c l 1= [l[0]]:=by simp[tF,h]
def np{l:List β}(h:k+1<l.length):tF c l (k+2)=if(c l[k+1] l[k]==0)=true then tF c l (k+1)else tF c l (k+1)++ [l[k+1]]:=by grind [tF]
def NU{l:List β}{x y:β}(h1:l[k+1]? =some x)(a:l[k]? =some y):tF c l (k+2)=if(c x y==0)=true then tF c l (k+1)else tF c l (k+1)++ [x]:=by
 rw[tF];simp only[h1,a]
theorem jk{l:List β} :∀n,(tF c l n).length<=n
 |0=>zD _
 |1=>by grind [tF]
 |k+2=>by
  have a:=jk (l:=l) (k+1)
  grind [tF]
theorem TO{l:List β}(h:0<l.length):∀n,n<=l.length->0<n->0<(tF c l n).length
 |1,_,_=>by rw[bz h];simp
 |k+2,a,_=>by
  rw[np ow];have:=TO h (k+1) ow ow
  grind
theorem dR{l:List β} :∀n,∀x∈tF c l n,x∈l
 |0,x,h=>by cases h
 |n+1,x,h=>by
  rw[tF]at h;split at h
  .exact dR n x h
  .rename_i y e1
   split at h
   .grind
   .split at h
    .exact dR _ x h
    .split at h
     .exact dR _ x h
     .rcases yv.1 h with h|h
      .exact dR _ x h
      .grind
theorem TN(a:∀x y,c x y=0->x=y){l:List β} :∀n,n<=l.length->∀x,x∈l.take n->x∈tF c l n
 |0,_,x,h=>by simp at h
 |1,b,x,h=>by rw[bz ow];rw[ja]at h;simp[tn,show 0<l.length by omega]at h;simp[h]
 |k+2,b,x,h=>by
  rw[np ow];rw[zM ow]at h;rcases yv.1 h with h|h
  .have:=TN a (k+1) ow x h
   grind
  .cases zi.1 h
   split
   .rename_i q
    have d:c l[k+1] l[k]=0:=by simpa using q
    rw[a _ _ d];exact TN a (k+1) ow _ (List.mem_take_iff_getElem.2 ⟨k,ow,rfl⟩)
   .simp
def I4(a:∀x y,c x y=0->x=y){l:List β}{x:β} :x∈cpt c l↔x∈l:=by grind [dR,TN,cpt]
end
def pv(l:List Trm):∀x∈wp l,x.length=2:=λx a=>by
 obtain⟨y,_,rfl⟩:=zN.1 a;rfl
theorem Ec(a b:List UInt8):(d7 a b==0)=(a==b):=by grind [d7,Ti]
def dP(x y:Trm):(yu x y==0)=(x.a==y.a&&x.b==y.b):=by grind [yu,orL,Ec]
def Ej(l m:List Trm):(wp (l++m)).flatten=(wp l).flatten++(wp m).flatten:=by simp[wp]
theorem Ks{l:List Trm}(h0:l≠[])(hl:l.length<=1048576)(L:g.at' id=some (.row (wp l).flatten)):
  zE prog 331 [.rs id 2 0 l.length] g λr h'=>r=.rs id 2 0 (cpt yu l).length/\∃rest,h'=g.set id (.row ((wp (cpt yu l)).flatten++rest)):=by
 have a8:=λ(h:Heap)=>oC (P:=prog) (t:=195) (sz:=2) (id:=id) (off:=0) (len:=l.length) (h:=h) underlying195;have A:0<l.length:=z7.2 h0;have a4:∀x:Trm,([.str x.a,.str x.b]:List D).all D.flat=true:=λx=>rfl;have f:∀n,n<=l.length->(∀i (h:i+1<l.length),i+1<n->(yu l[i+1] l[i]==0)=false)->tF yu l n=l.take n:=λn hn hh=>by
  induction n with
  |zero=>rfl
  |succ n ih=>
   cases n with
   |zero=>rw[bz A,ja];simp[tn,A]
   |succ k=>
    rw[np ow,iq (by rw[hh k ow ow];exact zV),ih ow λi h1 N=>hh i h1 ow];exact(zM ow).symm
 refine xP λQ W=> ?_;have d:(∀i (h:i+1<l.length),i+1<l.length->(yu l[i+1] l[i]==0)=false)->Q (.rs id 2 0 l.length) g:=λhh=>W _ _ (by
  have e:cpt yu l=l:=by
   have:=f l.length (zD _) hh;rw[zt]at this;exact this
  rw[e];exact⟨rfl,[],by rw[yC,uU L]⟩)
 refine zo zMe ?_;simp only[f331,zA];cases q1:decide ((l.length:Int)<2)with
 |true=>
  have hd:=d λi h1 N=>by have:=yB q1;omega
  clear d W;simp only[go_sem, *]
 |false=>
 simp only[go_sem, *];refine ql (λi fr h=>fr 0=.rs id 2 0 l.length/\fr 3=.int .i64 ((i+1:Nat):Int)/\h=g/\i+1<=l.length/\∀j (h:j+1<l.length),j+1<i+1->(yu l[j+1] l[j]==0)=false) l.length ?_ ?_
 .simp only[go_sem,zQ,zT,zG]
  exact⟨rfl,A,λj h1 N=>by omega⟩
 rintro i fr h hi ⟨f0,f3,rfl,ad,U⟩;by_cases I:i+1<l.length
 .have e1:decide (((i+1:Nat):Int)<(l.length:Int))=true:=zR ow
  have ew:IntKind.i64.wrap (((i+1:Nat):Int)+1)=((i+2:Nat):Int):=qR jL;have V:IntKind.i64.wrap (((i+1:Nat):Int)-1)=((i:Nat):Int):=by rw[qJ ow ow];omega
  have a1:=qG (P:=prog) (sz:=2) (id:=id) uD ui (k:=.i64) I;have a2:=qG (P:=prog) (sz:=2) (id:=id) uD ui (k:=.i64) (show i<l.length by omega);have p1:=nb (pv l) ow (XQ I);have p2:=nb (pv l) ow (XQ (show i<l.length by omega));have T:=Pe l[i+1] l[i];have w:=dP l[i+1] l[i];rw[<-w]at T;clear w;simp only[Trm.cells]at p1 p2;cases v:(yu l[i+1] l[i]==0)with
  |false=>
   rw[v]at T;have hn:∀j (h:j+1<l.length),j+1<i+2->(yu l[j+1] l[j]==0)=false:=λj h1 N=>by
    by_cases e:j=i
    .subst e;exact v
    .exact U j h1 ow
   clear U d f q1 h0 v;simp only[go_sem, *];refine yF kr ?_;simp only[go_sem, *];exact⟨ow,I,hn⟩
  |true=>
   rw[v]at T;have G:tF yu l (i+2)=l.take (i+1):=by
    rw[np I,ip v,f (i+1) ow λj h1 N=>U j h1 N]
   have ak:=pC (P:=prog) (t:=195) (sz:=2) (id:=id) (h:=h) bj uD ui (k:=.i64) ad;clear U d f q1 h0 v;simp only[go_sem, *];refine yF kr ?_;simp only[go_sem, *];refine ql (λm fr h'=>fr 0=.rs id 2 0 l.length/\fr 4=.rs id 2 ((i+1)*2) (l.length- (i+1))/\fr 5=.int .i64 ((m+1:Nat):Int)/\i+1+(m+1)<=l.length/\∃ys:List Trm,ys.length=l.length/\h'=h.set id (.row (wp ys).flatten)/\
    (tF yu l (i+2+m)).length<=i+1+m/\fr 3=.int .i64 (((tF yu l (i+2+m)).length:Nat):Int)/\ys.take (tF yu l (i+2+m)).length=tF yu l (i+2+m)/\ys.drop (i+1+m)=l.drop (i+1+m)) l.length ?_ ?_
   .have E:(tF yu l (i+2)).length=i+1:=by rw[G,yK];omega
    have F:tF yu l (i+2+0)=tF yu l (i+2):=rfl;have B:i+1+(0+1)<=l.length/\∃ys:List Trm,ys.length=l.length/\h=h.set id (.row (wp ys).flatten)/\
     (tF yu l (i+2+0)).length<=i+1+0/\D.int .i64 ((i+1:Nat):Int)=.int .i64 (((tF yu l (i+2+0)).length:Nat):Int)/\ys.take (tF yu l (i+2+0)).length=tF yu l (i+2+0)/\ys.drop (i+1+0)=l.drop (i+1+0):=
     ⟨ow,l,rfl,(uU L).symm,by rw[F,E];omega,by rw[F,E],by rw[F,E,G],rfl⟩
    clear E F G;simp only[go_sem,zQ,zT,zG];obtain⟨r0,ys,r1,r2,r3,r4,r5,r6⟩:=B;exact⟨f0,rfl,r0,ys,r1,r2,r3,f3.trans r4,r5,r6⟩
   clear G ak T p1 p2 a1 a2 f0 f3 e1 ew V;rintro m ba N hm ⟨f0,f4,f5,bb,ys,J,rfl,S,f3,q,p⟩;have C:(h.set id (.row (wp ys).flatten)).at' id=some (.row (wp ys).flatten):=zU _ _ _;have a5:=λ(H:Heap)=>oC (P:=prog) (t:=195) (sz:=2) (id:=id) (off:=(i+1)*2) (len:=l.length- (i+1)) (h:=H) underlying195;by_cases ag:m+1<l.length- (i+1)
   .have e1:decide (((m+1:Nat):Int)<((l.length- (i+1):Nat):Int))=true:=zR ow
    have ew:IntKind.i64.wrap (((m+1:Nat):Int)+1)=((m+2:Nat):Int):=qR jL;have V:IntKind.i64.wrap (((m+1:Nat):Int)-1)=((m:Nat):Int):=by rw[qJ ow ow];omega
    have a1:=rO (P:=prog) (sz:=2) (id:=id) (off:=(i+1)*2) uD ui (k:=.i64) ag;have a2:=rO (P:=prog) (sz:=2) (id:=id) (off:=(i+1)*2) uD ui (k:=.i64) (show m<l.length- (i+1) by omega);obtain⟨x,hx⟩:∃x,l[i+1+m+1]? =some x:=⟨_,zB ow⟩;obtain⟨y,hy⟩:∃y,l[i+1+m]? =some y:=⟨_,zB ow⟩;have g1:ys[i+1+(m+1)]? =some x:=by
     have:=congrArg (λz=>z[1]?) p;simp only[qY]at this;rw[show i+1+(m+1)=i+1+m+1 by omega,this,hx]
    have g2:ys[i+1+m]? =some y:=by
     have:=congrArg (λz=>z[0]?) p;simp only[qY,wZ]at this;rw[this,hy]
    have cg:∀(k:Nat)(x:Trm),ys[k]? =some x->(wp ys)[k]? =some x.cells:=λk x e=>by simp[wp,e]
    have p1:=gB (pv ys) ow (cg _ _ g1);have p2:=gB (pv ys) ow (cg _ _ g2);have o:tF yu l (i+2+(m+1))=if(yu x y==0)=true then tF yu l (i+2+m)else tF yu l (i+2+m)++ [x]:=by
     have:=NU (c:=yu) hx hy;rw[show i+2+(m+1)=i+1+m+2 by omega,this,show i+2+m=i+1+m+1 by omega]
    have u:∀zs:List Trm,zs.drop (i+1+m)=l.drop (i+1+m)->zs.drop (i+1+(m+1))=l.drop (i+1+(m+1)):=λzs e=>by
     have:=congrArg (List.drop 1) e;simpa [uM,qn]using this
    generalize hR:tF yu l (i+2+m)=R at *
    have T:=Pe x y;have w:=dP x y;rw[<-w]at T;have aj:∀c,jR prog .neq 197 c (.agg [.str x.a,.str x.b]) (.agg [.str y.a,.str y.b])=some (.bool (!(yu x y==0))):=λc=>by
     have he:eqT prog 197=some [.s,.s]:=kr;rw[w];simp only[jR,he,Ji,eqK,qt,pF,nD]
    clear w T;simp only[Trm.cells]at p1 p2;cases v:(yu x y==0)with
    |true=>
     rw[v]at aj;rw[ip v]at o;have B:m<l.length/\i+1+(m+1+1)<=l.length/\∃zs:List Trm,zs.length=l.length/\h.set id (.row (wp ys).flatten)=h.set id (.row (wp zs).flatten)/\
      (tF yu l (i+2+(m+1))).length<=i+1+(m+1)/\D.int .i64 ((R.length:Nat):Int)=.int .i64 (((tF yu l (i+2+(m+1))).length:Nat):Int)/\zs.take (tF yu l (i+2+(m+1))).length=tF yu l (i+2+(m+1))/\zs.drop (i+1+(m+1))=l.drop (i+1+(m+1)):=
      ⟨ow,ow,ys,J,rfl,by rw[o];omega,by rw[o],by rw[o];exact q,u _ p⟩
     clear q p u o g1 g2 cg hx hy hR S v;simp only[go_sem, *];refine yF kr ?_;simp only[go_sem, *]
    |false=>
     rw[v]at aj;rw[iq (by rw[v];exact zV)]at o;have X:R.length<l.length:=ow;have a3:=qG (P:=prog) (sz:=2) (id:=id) uD ui (k:=.i64) X;have a6:=be (P:=prog) (t:=197) C (pv ys) ow ui (i:=R.length) (by rw[wk,J];exact X) (x:=[.str x.a,.str x.b]) rfl rfl;have M:(wp ys).set R.length [.str x.a,.str x.b]=wp (ys.set R.length x):=by
      have:([.str x.a,.str x.b]:List D)=x.cells:=rfl;rw[this,wp,wp,tN]
     rw[M,nU]at a6;have a9:IntKind.i64.wrap (((R.length:Nat):Int)+1)=((R.length+1:Nat):Int):=qR jL;have B:m<l.length/\i+1+(m+1+1)<=l.length/\∃zs:List Trm,zs.length=l.length/\h.set id (.row (wp (ys.set R.length x)).flatten)=h.set id (.row (wp zs).flatten)/\
      (tF yu l (i+2+(m+1))).length<=i+1+(m+1)/\D.int .i64 ((R.length+1:Nat):Int)=.int .i64 (((tF yu l (i+2+(m+1))).length:Nat):Int)/\zs.take (tF yu l (i+2+(m+1))).length=tF yu l (i+2+(m+1))/\zs.drop (i+1+(m+1))=l.drop (i+1+(m+1)):=by
      have O:(R++ [x]).length=R.length+1:=jS;refine⟨ow,ow,ys.set R.length x,by simpa using J,rfl,by rw[o,O];omega,by rw[o,O],?_,?_⟩
      .rw[o,O,zM (by rw[uQ];omega),ni,mw (zD _),q]
      .rw[mr ow];exact u _ p
     clear q p u o g1 g2 cg hx hy hR S v M;simp only[go_sem, *];refine yF kr ?_;exact au
   .have e1:decide (((m+1:Nat):Int)<((l.length- (i+1):Nat):Int))=false:=zO ow
    have ai:i+2+m=l.length:=ow;have Y:tF yu l (i+2+m)=cpt yu l:=by rw[ai];rfl
    rw[Y]at q f3 S;have K:(cpt yu l).length<=l.length:=jk _;have ak:=λ(H:Heap)=>pC (P:=prog) (t:=195) (sz:=2) (id:=id) (h:=H) bj uD ui (k:=.i64) K;have bk:=λ(H:Heap)=>oN (P:=prog) (t:=195) (h:=H) bj uD (id:=id) (sz:=2) ui (k:=.i64) K;obtain⟨rest,Z⟩:=VC (P:=prog) (sz:=2) (t:=195) uD sj rfl rfl C (pv ys) (n:=(cpt yu l).length) (by rw[wk];omega);have a0:(wp ys).take (cpt yu l).length=wp (cpt yu l):=by rw[wp,<-jZ,q];rfl
    rw[a0,nU,wk,J]at Z;have a7:=W (.rs id 2 0 (cpt yu l).length) (h.set id (.row ((wp (cpt yu l)).flatten++rest))) ⟨rfl,rest,rfl⟩;clear q p ai Y a0 W;exact au
 .have e1:decide (((i+1:Nat):Int)<(l.length:Int))=false:=zO ow
  have hd:=d λj h1 N=>U j h1 ow;clear U d f q1 h0 W;exact au
def Fu(l:List Trm)(n:Nat):below n (.sl 2 (wp l) .no):=yw (yD _) _ (yh (sz:=2) (xs:=wp l) (λx a=>by
 obtain⟨y,_,rfl⟩:=zN.1 a;exact⟨rfl,by simp[Trm.cells,qM,below],rfl⟩) .no).2
def X8{cs rest:List D}(a:∀x∈xs,x.length=sz)(c:xs.length=n)(b:cs=xs.flatten++rest):frz id cs (.rs id sz 0 n)=.sl sz xs .no:=by
 subst b c;simp only[frz];rw[ip ⟨trivial,by rw[zS,uu a];omega⟩,wS,qm (by rw[uu a];omega),yO (by rw[uu a];omega),p4 a]
def NX(h:Heap)(i:Nat)(o:Obj):(h.set i o).del i=h.del i:=by
 unfold Heap.set Heap.del;simp only[Heap.mk.injEq,zQ]
 funext j
 by_cases e:j=i<;>simp[e]
def P6{l:List Trm}(h0:l≠[])(b:l.length<=1048576)(a:g.at' id=some (.row (wp l).flatten)):
  zE prog 331 [.rs id 2 0 l.length] g λr h'=>h'=g.del id/\r=.sl 2 (wp (cpt yu l)) .no:=
 zE.freezeD ((Ks h0 b a).mono (by
  rintro r h' ⟨rfl,rest,rfl⟩;exact⟨id,_,zU _ _ _,by rw[NX],X8 (pv _) (wk _) rfl⟩))
def IK{l:List Trm}(c:yg 2 (wp l) d)(h0:l≠[])(i:l.length<=1048576)(h:Heap):
  zE prog 153 [d] h λr h'=>r=.rs h.next 2 0 l.length/\h'=h.new h.next (.row (wp l).flatten):=by
 rcases c with⟨rfl,f⟩ | ⟨tk,rfl⟩
 .exact absurd (ue.1 f) h0
 have b:0<l.length:=z7.2 h0;have e:jR prog .eql 195 true (.sl 2 (wp l) tk) .nilsl=some (.bool false):=by rw[uj (yg.mk tk) underlying195];rfl
 have g:=λnid h=>wa (P:=prog) (nid:=nid) (h:=h) uD sj ui rfl rfl (by omega:0<2);have a:qg prog true h.next 195 (.sl 2 [] .full) (.sl 2 (wp l) tk) h=some (.rs h.next 2 0 l.length,h.new h.next (.row (wp l).flatten)):=by
  rw[oz uD XV ui ow (pv l) (by rw[kx,wk];unfold lim;omega) (by rw[wk];unfold lim;omega),wk,iq ow,pN underlying197]
 refine zo zG7 ?_;simp only[f153,zA];simp only[t6,go_sem,e,g,a]
def GH:QC d7 where
 anti x y:=by
  unfold d7;rw[Ti,Ti];rcases Std.lt_trichotomy x y with h|h|h
  .have:=List.lt_asymm h
   have n:¬x=y:=λe=>by subst e;exact this h
   simp[h,this,n,gq n]
  .subst h;simp[List.lt_irrefl]
  .have:=List.lt_asymm h
   have n:¬x=y:=λe=>by subst e;exact this h
   simp[h,this,n,gq n]
 trans x y z h1 h2:=by
  unfold d7 at *
  rw[Ti]at *
  have le1:x<y\/x=y:=by
   split at h1
   .rename_i q;exact .inl (by simpa using q)
   .split at h1
    .rename_i q;exact .inr (by simpa using q)
    .omega
  have le2:y<z\/y=z:=by
   split at h2
   .rename_i q;exact .inl (by simpa using q)
   .split at h2
    .rename_i q;exact .inr (by simpa using q)
    .omega
  have le3:x<z\/x=z:=by
   rcases le1 with a|rfl
   .rcases le2 with b|rfl
    .exact .inl (List.lt_trans a b)
    .exact .inl a
   .exact le2
  rcases le3 with a|rfl
  .simp[a]
  .simp[List.lt_irrefl]
def jB(x y:Trm):yu x y=Q0 (d7 x.a y.a) (d7 x.b y.b):=by
 unfold yu Q0;simp only[orL];split
 .split
  .rename_i q;exact q.symm
  .rfl
 .rfl
def jK:QC yu:=by
 have:=(GH.key Trm.a).lex (GH.key Trm.b);exact⟨λx y=>by rw[jB,jB];exact this.anti x y,λx y z=>by rw[jB,jB,jB];exact this.trans x y z⟩
def bw(x y:Trm)(h:yu x y=0):x=y:=by
 have:=dP x y;rw[h]at this
 have:(x.a==y.a&&x.b==y.b)=true:=this.symm;cases x;cases y;simp only[zF,qj]at this;obtain⟨rfl,rfl⟩:=this;rfl
end Go.V
