/- Rules of the machine of abstract values, part 8. No condition. -/
import Derived.Test.YtkenagjlanhnmaaGreatDoorW31
set_option linter.all false
set_option maxHeartbeats 8000000
namespace Go.V
def Yg(h0 h:Heap)(sz:Nat)(xs:List (List D))(d:D):Prop:=Ext h0 h/\((d=.nilsl/\xs= [])\/∃id,d=.rs id sz 0 xs.length/\h.at' id=some (.row xs.flatten)/\h0.next<=id/\id<h.next/\xs≠[])
section
variable{h0 h h':Heap}{sz:Nat}{xs:List (List D)}{d:D}
def Yg.start(a:Ext h0 h)(sz:Nat):Yg h0 h sz [] .nilsl:=⟨a,.inl ⟨rfl,rfl⟩⟩
def Yg.ext(b:Yg h0 h sz xs d)(a:Ext h h'):Yg h0 h' sz xs d:=by
 refine⟨b.1.trans a,?_⟩;rcases b.2 with h1| ⟨id,rfl,h1,c,h3,e⟩
 .exact .inl h1
 .exact .inr ⟨id,rfl,by rw[a.2 _ h3];exact h1,c,zl h3 a.1,e⟩
def Yg.flat(a:Yg h0 h sz xs d):d.flat=true/\d.cells= [d]/\d.notTuple=true:=by
 rcases a.2 with⟨rfl,_⟩ | ⟨t,rfl,_⟩ <;>exact⟨rfl,rfl,rfl⟩
def Yg.trunc(b:Yg h0 h sz xs d)(a:∀y∈xs,y.length=sz)(x:D):tT d x h=h:=by
 rcases b.2 with⟨rfl,_⟩ | ⟨id,rfl,h1,_⟩
 .rfl
 .unfold tT
  simp only;split
  .rfl
  .rw[h1]
   simp only;rw[iq (by rw[uP a];simp)]
variable{P:Program}{cs:List D}
def X2{e x:TypeId}(a:P.underlying e=some (.slice x)):oI P e cs=.row cs:=by simp[oI,a]
variable{ys:List (List D)}{tk:Tk}
def Yg.app{t e:TypeId}(r:Yg h0 h sz xs d)(v:uu P t=some e)(A:YE P e=true)(z:szT P e=sz)(x:0<sz)(hr:∀cs,oI P e cs=.row cs)(g:∀y∈xs,y.length=sz)(p:∀y∈ys,y.length=sz)(c:ys≠[])
  (j:(xs.length+ys.length)*uF P e<=lim) (m:xs.length+ys.length<=lim):∃a G,qS P true h.next t d (.sl sz ys tk) h=some (a,G)/\Yg h0 G sz (xs++ys) a/\tT d (.sl sz ys tk) h=h:=by
 have f:=r.trunc g (.sl sz ys tk)
 suffices∃a G,qS P true h.next t d (.sl sz ys tk) h=some (a,G)/\Yg h0 G sz (xs++ys) a from by
  obtain⟨a,G,B,C⟩:=this;exact⟨a,G,B,C,f⟩
 clear f;have l:ys.flatten.length=ys.length*sz:=uP p;have q:0<ys.length:=zy.2 c;obtain⟨b,u⟩:=r;simp only[qS,v,A,z,TR,qF,l,ue _ x];have n:∀o,Ext h0 (h.new h.next o):=λo=>b.new b.1 o;rcases u with⟨rfl,rfl⟩ | ⟨id,rfl,h1,D,h3,E⟩
 .refine⟨.rs h.next sz 0 ys.length,h.new h.next (.row ys.flatten),?_,n _,.inr ⟨h.next,jS,by rw[z5];rfl,b.1,by rw[za];omega,by simpa using c⟩⟩
  simp only[tB];rw[iq ow,ip (by simp only[zF,zO];simp only[qD,yH]at j m;exact⟨j,m⟩)];simp[hr]
 .have k:xs.flatten.length=xs.length*sz:=uP g
  have s:Ext h0 ((h.del id).new h.next (.row (xs.flatten++ys.flatten))):=by
   refine⟨zb b.1 (by show h.next<=max h.next _;omega),λi w=> ?_⟩;rw[zf (by have:=b.1;omega),wM ow];exact b.2 i w
  refine⟨.rs h.next sz 0 (xs.length+ys.length),(h.del id).new h.next (.row (xs.flatten++ys.flatten)),?_,s,.inr ⟨h.next,jS,by rw[z5,List.flatten_append],b.1,by show h.next<max h.next (h.next+1);omega,by simp[c]⟩⟩;simp only[tB,uT,cH];rw[ip (by simp only[zF,zO];exact⟨j,m⟩)];simp only[h1,k,qF,hr]
end
structure Own2(h0 h:Heap)(s1:Nat)(xs:List (List D))(d:D)(s2:Nat)(ys:List (List D))(e:D):Prop where
 a:Own h0 h s1 xs d
 b:Own h0 h s2 ys e
 ap:∀i,tu d i->tu e i->False
section
variable{h0 h h':Heap}{s1 s2:Nat}{xs ys:List (List D)}{d e:D}
def Own2.start(a:Ext h0 h)(s1 s2:Nat):Own2 h0 h s1 [] .nilsl s2 [] .nilsl:=⟨Own.start a _,Own.start a _,λi h=>h.elim⟩
def Own2.ext(c:Own2 h0 h s1 xs d s2 ys e)(f:Ext h h'):Own2 h0 h' s1 xs d s2 ys e:=⟨c.a.ext f,c.b.ext f,c.ap⟩
def Own2.swap(c:Own2 h0 h s1 xs d s2 ys e):Own2 h0 h s2 ys e s1 xs d:=⟨c.b,c.a,λi q p=>c.ap i p q⟩
variable{P:Program}{tk:Tk}{t u:TypeId}{K:D->Heap->Prop}
def Own2.appH{zs:List (List D)}{w:HidR K}(g:Own2 h0 h s1 xs d s2 ys e)(v:uu P t=some u)(B:YE P u=true)(A:szT P u=s1)(z:0<s1)(p:∀y∈zs,y.length=s1)(m:zs≠[])
  (s:(xs.length+zs.length)*uF P u<=lim) (x:xs.length+zs.length<=lim) (r:∀l h',Own2 h0 h' s1 (xs++zs) l s2 ys e->K l h'):Hk (qS P false h.next t d (.sl s1 zs tk) h) K w:=
 g.a.2.1.app2 v B A z p m s x λl h' o n j tk c f=>r l h' ⟨⟨⟨zb g.a.1.1 n,λi k=>by rw[j i (zl k g.a.1.1) (λq=>by have:=g.a.2.2 i q;omega)];exact g.a.1.2 i k⟩,o,λi k=>zb g.a.1.1 (tk i k)⟩,
  ⟨⟨zb g.a.1.1 n,λi k=>by rw[j i (zl k g.a.1.1) (λq=>by have:=g.a.2.2 i q;omega)];exact g.a.1.2 i k⟩,g.b.2.1.loc n λi k=>j i (g.b.2.1.tok k).1 λq=>g.ap i q k,g.b.2.2⟩,
  λi C E=>by have:=tk i C;have:=(g.b.2.1.tok E).1;omega⟩
end
structure Lcl(W:Nat->(Nat->Prop)->Heap->Prop):Prop where
 here:∀k S h,W k S h->∀i,S i->i<h.next
 loc:∀k S h h',W k S h->h.next<=h'.next->(∀i,S i->h'.at' i=h.at' i)->W k S h'
def YLp(id:Nat)(L:LRec)(W:Nat->(Nat->Prop)->Heap->Prop)(k:Nat)(S:Nat->Prop)(h:Heap):Prop:=
 id<h.next/\h.at' id=some (.loop L)/\∃S0,W k S0 h/\¬S0 id/\∀i,S i↔(i=id\/S0 i)
def LpK(id:Nat)(L:LRec)(W:Nat->(Nat->Prop)->Heap->Prop)(k:Nat)(S0:Nat->Prop)(h:Heap)(r:D)(h':Heap):Prop:=
 r=.bool true/\∃S',(∀i,S' i->S0 i\/h.next<=i)/\But (λi=>i=id\/S0 i) h h'/\h'.at' id=some (.loop L)/\W (k+1) S' h'
section
variable{P:Program}{W:Nat->(Nat->Prop)->Heap->Prop}{id n:Nat}{L:LRec}{el:Nat->List D}
def YLp.yld(s:Lcl W)(go:∀k S0 h3,k<n->id<h3.next->h3.at' id=some (.loop L)->W k S0 h3->¬S0 id->wo P id (el k) h3 (LpK id L W k S0 h3)):Yld P id n el (YLp id L W) λ_ _=>False:=by
 refine⟨λk S h y i b=> ?_,λk S h h' y m g=> ?_,λS h o=>o.elim,λS h h' o=>o.elim,λk S h g y=> ?_⟩
 .obtain⟨c,_,S0,d,_,a⟩:=y
  rcases(a i).1 b with rfl|v
  .exact c
  .exact s.here _ _ _ d i v
 .obtain⟨c,j,S0,d,f,a⟩:=y
  exact⟨ow,by rw[g id ((a id).2 (.inl rfl))];exact j,S0,s.loc _ _ _ _ d m λi b=>g i ((a i).2 (.inr b)),f,a⟩
 .obtain⟨c,j,S0,d,f,a⟩:=y
  refine(go k S0 h g c j d f).mono ?_;rintro r h' ⟨rfl,S',p,l,t,u⟩;refine⟨λi=>i=id\/S' i,λi b=> ?_,⟨l.1,λi b m=>l.2 i b λe=>m ((a i).2 e)⟩,.inl ⟨rfl,zl c l.1,t,S',u,λe=> ?_,λi=>Iff.rfl⟩⟩
  .rcases b with rfl|b
   .exact .inl ((a _).2 (.inl rfl))
   .exact(p i b).imp (λq=>(a i).2 (.inr q)) λq=>q
  .rcases p _ e with q|q
   .exact f q
   .omega
variable{S0 S':Nat->Prop}{k:Nat}{fr:Frm}
def Lp.fin(f:Lcl W){B:LRec}(b:({ B with st:=.ready,pending:=none } :LRec)=L){h3 a:Heap}(d:id<h3.next)(j:¬S0 id)(hid:a.at' id=some (.loop B))(c:∀i,S' i->S0 i\/h3.next<=i)(g:But (λi=>i=id\/S0 i) h3 a)(l:W (k+1) S' a) :
  sf (LpK id L W k S0 h3) id .normal fr a:=by
 refine tj hid ⟨rfl,S',c,g.set (.inl (.inl rfl)) _,by rw[zW,b],f.loc _ _ _ _ l (zC _) λi h=>zX λe=> ?_⟩;subst e;rcases c _ h with q|q
 .exact j q
 .omega
variable{f:FuncId}{args:List D}{h:Heap}{S:Nat->Prop}
def pO{a:Nat}(s:h.next=a){Q:Exit->Frm->Heap->Prop}(d:Lcl W)(v:L.st=.ready)(u:L.pending=none)(p:W 0 S h)
  (g:Yld P a n el (YLp a L W) (λ_ _=>False)->YLp a L W 0 (λi=>i=a\/S i) (h.new a (.loop L))->zD P f args (h.new a (.loop L)) λ_ h'=>∃S',(∀j,S' j->(j=a\/S j)\/(h.new a (.loop L)).next<=j)/\But (λi=>i=a\/S i) (h.new a (.loop L)) h'/\YLp a L W n S' h')
  (go:∀k S0 h3,k<n->a<h3.next->h3.at' a=some (.loop L)->W k S0 h3->¬S0 a->wo P a (el k) h3 (LpK a L W k S0 h3))
  (m:∀S' c,(∀j,S' j->S j\/a<=j)->But S h c->W n S' c->Q .normal fr c):
  zD P f args (h.new a (.loop L)) λ_ h'=>∃r,h'.at' a=some (.loop r)/\r.st≠ .busy/\Wd r.pending Q fr (h'.del a):=by
 subst s;have E:(h.new h.next (.loop L)).next=h.next+1:=za _ _;have o:¬S h.next:=λe=>wH _ (d.here _ _ _ p _ e);refine(g (YLp.yld d go) ⟨ow,z5 _ _ _,S,d.loc _ _ _ _ p ow λi l=>zf (by have:=d.here _ _ _ p _ l;omega),o,λi=>Iff.rfl⟩).mono ?_;rintro r c ⟨S',C,x,D,z,S0,A,w,B⟩;refine⟨L,z,(by rw[v];intro q;cases q),?_⟩;rw[u,rp];refine m S0 _ (λj y=> ?_) ⟨by have:=x.1;show h.next<=c.next;omega,λi l t=> ?_⟩ (d.loc _ _ _ _ A (zC _) λi l=>wM λe=>by subst e;exact w l)
 .rcases C j ((B j).2 (.inr y))with(q|q)|q
  .subst q;exact absurd y w
  .exact .inl q
  .exact .inr ow
 .have b:i≠h.next:=ow
  rw[wM b,x.2 i ow (λe=>e.elim b t),zf b]
end
def WK(m1:Nat)(o1:Obj)(m2:Nat)(o2:Obj)(W:Nat->(Nat->Prop)->Heap->Prop)(k:Nat)(S:Nat->Prop)(h:Heap):Prop:=
 ∃S1,W k S1 h/\(m1<h.next/\m2<h.next)/\(h.at' m1=some o1/\h.at' m2=some o2)/\(¬S1 m1/\¬S1 m2)/\∀i,S i↔(i=m1\/i=m2\/S1 i)
def WK.lcl{m1 m2:Nat}{o1 o2:Obj}{W:Nat->(Nat->Prop)->Heap->Prop}(j:Lcl W):Lcl (WK m1 o1 m2 o2 W):=by
 refine⟨λk S h y i d=> ?_,λk S h h' y n e=> ?_⟩
 .obtain⟨S1,b,⟨f,g⟩,_,_,c⟩:=y
  rcases(c i).1 d with rfl|rfl|q
  .exact f
  .exact g
  .exact j.here _ _ _ b i q
 .obtain⟨S1,b,⟨f,g⟩,⟨l,c⟩,m,a⟩:=y
  exact⟨S1,j.loc _ _ _ _ b n λi d=>e i ((a i).2 (.inr (.inr d))),⟨ow,ow⟩,⟨by rw[e m1 ((a m1).2 (.inl rfl))];exact l,by rw[e m2 ((a m2).2 (.inr (.inl rfl)))];exact c⟩,m,a⟩
variable{k i id sz n:Nat}{S S0 S':Nat->Prop}{h h' g:Heap}{P:Program}{cs args cap:List D}{ys xs:List (List D)}{tk:Tk}{t u:TypeId}{K:D->Heap->Prop}{fr:Frm}{f:FuncId}{α β:Type}{d x:D}
def WK.start{m1 m2:Nat}{o1 o2:Obj}{W:Nat->(Nat->Prop)->Heap->Prop}(b:W k S h)(h1:m1<h.next)(a:m2<h.next)(e1:h.at' m1=some o1)(e2:h.at' m2=some o2)(c:¬S m1)(d:¬S m2):WK m1 o1 m2 o2 W k (λi=>i=m1\/i=m2\/S i) h:=
 ⟨S,b,⟨h1,a⟩,⟨e1,e2⟩,⟨c,d⟩,λ_=>Iff.rfl⟩
def WK.stop{m1 m2:Nat}{o1 o2:Obj}{W:Nat->(Nat->Prop)->Heap->Prop}(e1:h.at' m1=some o1)(e2:h.at' m2=some o2)(m:∀i,S' i->(i=m1\/i=m2\/S i)\/h.next<=i)(b:But (λi=>i=m1\/i=m2\/S i) h h')(n:WK m1 o1 m2 o2 W k S' h'):
  ∃S1,(∀i,S1 i->S i\/h.next<=i)/\But S h h'/\W k S1 h':=by
 obtain⟨S1,c,_,⟨d,f⟩,⟨g,j⟩,l⟩:=n;refine⟨S1,λi a=> ?_,⟨b.1,λi a r=> ?_⟩,c⟩
 .rcases m i ((l i).2 (.inr (.inr a)))with(rfl|rfl|q)|q
  .exact absurd a g
  .exact absurd a j
  .exact .inl q
  .exact .inr q
 .by_cases o:i=m1
  .subst o;rw[d,e1]
  .by_cases p:i=m2
   .subst p;rw[f,e2]
   .exact b.2 i a λe=>by rcases e with q|q|q<;>contradiction
def WK.st{m1 m2:Nat}{o1 o2:Obj}{W:Nat->(Nat->Prop)->Heap->Prop}(c:WK m1 o1 m2 o2 W k S h):(h.at' m1=some o1/\h.at' m2=some o2)/\(m1<h.next/\m2<h.next):=by
 obtain⟨S1,_,b,a,_⟩:=c;exact⟨a,b⟩
def jI{α β:Type}(l:List α)(f:α->List β)(a:Nat):Nat:=((l.take a).flatMap f).length
def LW{l:List α}{f:α->List β}{a:Nat}(h:a<l.length):jI l f (a+1)=jI l f a+(f l[a]).length:=by
 unfold jI;rw[zP h,pS,zQ];simp
def an(l:List α)(f:α->List β):jI l f 0=0:=by simp[jI]
def bP(l:List α)(f:α->List β):jI l f l.length=(l.flatMap f).length:=by simp[jI]
def C1{l:List α}{f:α->List β}{a b:Nat}(h:a<l.length)(c:b<(f l[a]).length):(l.flatMap f)[jI l f a+b]? =some (f l[a])[b]:=by
 have:l.flatMap f=(l.take a).flatMap f++(f l[a]++(l.drop (a+1)).flatMap f):=by
  conv=>lhs;rw[<-qg a l,yi h,pS,oO]
 rw[this,yf (by unfold jI;omega)];unfold jI;rw[u0,yj c,zB]
def zJn{l:List α}{f:α->List β}{a b:Nat}(h:a<l.length)(c:b<(f l[a]).length):jI l f a+b<(l.flatMap f).length:=(zK.1 (C1 h c)).1
open Go.Proofs.Tryz
open Go.Proofs
set_option maxRecDepth 100000
structure Trm where
 a:List UInt8
 b:List UInt8
def Trm.cells(l:Trm):List D:=[.str l.a,.str l.b]
def wj(l:List Trm):List (List D):=l.map Trm.cells
def wc(l:List Trm):(wj l).length=l.length:=zI ..
def Ya{l:List Trm}(h:i<l.length):(wj l)[i]? =some l[i].cells:=by simp[wj,h]
def uI{l:List Trm}(a:yZ 2 (wj l) d)(h:Heap):o9 prog 195 d h=some (.int .i64 l.length):=by rw[wL a underlying195,wc]
def pW{l:List Trm}{d:D}(a:yZ 2 (wj l) d){i:Nat}(b:i<l.length):yc prog 195 d (.int .i64 (i:Int))=some (.iptr l[i].cells 0):=yR a wp uO (Ya b)
def yk(a b:Trm):Int:=orL [dG a.a b.a,dG a.b b.b]
def dW(a b:Trm)(g:Heap):zD prog 330 [.agg a.cells,.agg b.cells] g λr h'=>h'=g/\r=.int .i64 (yk a b):=by
 have h1:=Tx a.a b.a;have f:=Tx a.b b.b;have h3:=zCW (l:=[dG a.a b.a,dG a.b b.b]) (yZ.mk .full) jS;have hr:=λnid=>zLc (dG a.a b.a) (dG a.b b.b) nid;have c:orL [dG a.a b.a,dG a.b b.b]=yk a b:=rfl;rw[c]at h3;have d:∀h:Heap,HLe Heap.emp h:=λh i j e=>by cases e
 refine zj zKz ?_;simp only[f330,zA];simp only[Trm.cells]
 repeat' first|simp only[go_sem, *]|apply bc<;>intro c
 refine yq Heap.emp (pwt [0,1,2,3,5] ((6,.st,true)::(pwt [7] ((8,.st,true)::(pwt [4,9,10,11,12] []))))) kr kr (λi j e=>by cases e) ?_
 repeat' first|simp only[go_sem, *]|apply bc<;>intro c|refine zD.use (h1 _) ?_|refine zD.use (f _) ?_|refine zD.use (h3 _) ?_
def QY(x y:Trm)(c:Bool):kW prog .eql 197 c (.agg [.str x.a,.str x.b]) (.agg [.str y.a,.str y.b])=some (.bool (x.a==y.a&&x.b==y.b)):=by
 have d:eqT prog 197=some [.s,.s]:=kr;simp only[kW,d,L9,eqK,qZ,rh,oH]
def GO{l:List Trm}(q:yZ 2 (wj l) d)(D:l.length<=1048576)(n:Trm)(g:Heap):
  zD prog 424 [d,.agg [.str n.a,.str n.b]] g λr h'=>h'=g/\r=.int .i64 (UT (λx:Trm=>n.a==x.a&&n.b==x.b) l):=by
 have s:=uI q;have heq:=QY n;obtain⟨p,t⟩:∃p:Trm->Bool,(λx:Trm=>n.a==x.a&&n.b==x.b)=p:=⟨_,rfl⟩;have m:∀x,(n.a==x.a&&n.b==x.b)=p x:=λx=>by rw[<-t]
 rw[t];refine zj zLR ?_;simp only[f424,zA];simp only[go_sem, *];refine zY (λi fr h=>fr 0=d/\fr 3=.iptr [.str n.a,.str n.b] 0/\fr 7=.int .i64 (l.length:Int)/\fr 8=.int .i64 (i:Int)/\h=g/\∀j (e:j<l.length),j<i->p l[j]=false) l.length ow ?_ ?_ ?_
 .simp only[go_sem,zM,zV,zG]
  exact λj e h0=>absurd h0 (yX _)
 .rintro i fr h c e1 C ⟨v,w,y,z,rfl,e⟩
  have u:=pW q c;simp only[Trm.cells]at u;have o:=heq l[i];rw[m]at o;cases k:p l[i]with
  |true=>
   have B:=jF (p:=p) c e k;rw[k]at o;simp only[go_sem, *];refine yJ kr ?_;simp only[go_sem, *]
  |false=>
   have A:=ug (p:=p) c e k;rw[k]at o;simp only[go_sem, *];refine yJ kr ?_;simp only[go_sem, *];exact A
 .rintro fr h e1 ⟨v,w,y,z,rfl,e⟩
  have B:=jG (p:=p) λj f=>e j f f;exact au
def Q6{l:List Trm}(e:yZ 2 (wj l) d)(h:l.length<=1048576)(n:Trm)(g:Heap):
  zD prog 384 [d,.agg [.str n.a,.str n.b]] g λr h'=>h'=g/\r=.bool (l.any λx:Trm=>n.a==x.a&&n.b==x.b):=by
 have c:=GO e h n;have f:=gQ (l:=l) (p:=λx:Trm=>n.a==x.a&&n.b==x.b);refine zj zLJ ?_;simp only[f384,zA]
 repeat' first|simp only[go_sem, *]|apply bc<;>intro i|refine zD.use (c _) ?_
def RA{l:List Trm}(n:yZ 2 (wj l) d)(C:l.length<=1048576){p:Trm->Bool}(z:∀s∈l,∀h,zD prog f ([]++ [.agg s.cells]++cap) h λr h'=>h'=h/\r=.bool (p s))(g:Heap):
  zD prog 423 [d,.fn (.func f) [] cap] g λr h'=>h'=g/\r=.int .i64 (UT p l):=by
 have o:=uI n;refine zj zLQ ?_;simp only[f423,zA]
 repeat' first|simp only[go_sem, *]|apply bc<;>intro m
 refine zY (λi fr h=>fr 1=.fn (.func f) [] cap/\fr 0=d/\fr 6=d/\fr 7=.int .i64 (l.length:Int)/\fr 8=.int .i64 (i:Int)/\h=g/\∀j (b:j<l.length),j<i->p l[j]=false) l.length ow ?_ ?_ ?_
 .simp only[go_sem,zM,zV,zG]
  exact λj b h0=>by omega
 .rintro i fr h a e1 B ⟨u,t,v,w,x,rfl,b⟩
  have q:=pW n a;have e:=z _ (zH a);simp only[yU,yG,Trm.cells]at e;simp only[Trm.cells]at q;cases k:p l[i]with
  |true=>
   have A:=jF a b k;rw[k]at e
   repeat' first|simp only[go_sem, *]|apply bc<;>intro m|refine zD.use (e _) ?_
  |false=>
   have y:=ug (p:=p) a b k;rw[k]at e
   repeat' first|simp only[go_sem, *]|apply bc<;>intro m|refine zD.use (e _) ?_
   exact y
 .rintro fr h e1 ⟨u,t,v,w,x,rfl,b⟩
  have A:=jG (p:=p) λj c=>b j c c;exact au
def Yw{l:List Trm}(b:yZ 2 (wj l) d)(e:l.length<=1048576){p:Trm->Bool}(i:∀s∈l,∀h,zD prog f ([]++ [.agg s.cells]++cap) h λr h'=>h'=h/\r=.bool (p s))(g:Heap):
  zD prog 382 [d,.fn (.func f) [] cap] g λr h'=>h'=g/\r=.bool (l.any p):=by
 have a:=RA b e i;have c:=gQ (l:=l) (p:=p);refine zj zLH ?_;simp only[f382,zA]
 repeat' first|simp only[go_sem, *]|apply bc<;>intro j|refine zD.use (a _) ?_
def BI(x:Trm)(h:Heap)(id:Nat):yW prog 197 (.ptr id 0) (.agg [.str x.a,.str x.b]) (h.new id (.row [.str [],.str []]))=some (h.new id (.row [.str x.a,.str x.b])):=ym uO ow rfl rfl rfl
def nf:List Trm->List Trm->Int
 | [],[]=>0
 | [],_::_=> -1
 |_::_,[]=>1
 |x::xs,y::ys=>if(!(yk x y==0))=true then yk x y else nf xs ys
theorem RP:∀{a b:List Trm}{i:Nat}(f:i<a.length)(g:i<b.length),(∀j (h1:j<a.length)(d:j<b.length),j<i->yk a[j] b[j]=0)->yk a[i] b[i]≠0->nf a b=yk a[i] b[i]
 |x::xs,y::ys,0,_,_,_,h0=>by
  have c:yk x y≠0:=h0;simp[nf,c]
 |x::xs,y::ys,i+1,f,g,h,h0=>by
  have e:yk x y=0:=h 0 jS jS ow;have:=RP (a:=xs) (b:=ys) (i:=i) (by simpa using f) (by simpa using g) (λj h1 d h3=>h (j+1) (nX h1) (nX d) ow) (by simpa using h0);simp only[nf,e,oF];simpa using this
theorem XA:∀{a b:List Trm},(∀j (h1:j<a.length)(c:j<b.length),yk a[j] b[j]=0)->nf a b=if b.length<a.length then 1 else if a.length<b.length then -1 else 0
 | [],[],_=>rfl
 | [],y::ys,_=>by simp[nf]
 |x::xs,[],_=>by simp[nf]
 |x::xs,y::ys,d=>by
  have e:yk x y=0:=d 0 jS jS;have:=XA (a:=xs) (b:=ys) (λj h1 c=>d (j+1) (nX h1) (nX c));simp only[nf,e,zx];simpa using this
def WX{a b:List Trm}(G:yZ 2 (wj a) d)(H:yZ 2 (wj b) x)(X:a.length<=1048576)(Y:b.length<=1048576)(g:Heap):
  zD prog 381 [d,x,.fn (.func 330) [] []] g λr h'=>h'=g/\r=.int .i64 (nf a b):=by
 refine xU kr λhh=> ?_;have I:∀k:Int,below g.next (.int .i64 k):=λk=>by simp[below,qC]
 have l:=λp q h=>dW p q h;simp only[Trm.cells]at l;have V:=uI G;have W:=uI H;have z:=Ext.refl g;obtain⟨R,s⟩:∃R,nf a b=R:=⟨_,rfl⟩;rw[s];refine zj zLG ?_;simp only[f381,zA]
 repeat' first|simp only[go_sem, *]|apply bc<;>intro B
 refine zY (λk fr h=>fr 0=d/\fr 1=x/\fr 2=.fn (.func 330) [] []/\fr 11=d/\fr 12=.int .i64 (a.length:Int)/\fr 13=.int .i64 (k:Int)/\Ext g h/\k<=b.length/\∀j (h1:j<a.length)(f:j<b.length),j<k->yk a[j] b[j]=0) a.length ow ?_ ?_ ?_
 .simp only[go_sem,zM,zV,zG]
  exact⟨z,yM _,λj h1 f m=>absurd m (yX _)⟩
 .rintro k fr h o Q ew ⟨S,T,U,u,v,w,y,D,m⟩
  have O:=pW G o;have F:=BI a[k] h h.next;have e:=y.new y.1 (.row a[k].cells);simp only[Trm.cells]at O e;by_cases C:k<b.length
  .have P:=pW H C
   have t:decide ((k:Int)>=(b.length:Int))=false:=by simp only[wY];omega
   obtain⟨c,i⟩:∃c,h.new h.next (.row [.str a[k].a,.str a[k].b])=c:=⟨_,rfl⟩;rw[i]at F e;have N:=z5 h h.next (.row [.str a[k].a,.str a[k].b]);rw[i]at N;have L:=BI b[k] c c.next;have A:=e.new e.1 (.row b[k].cells);simp only[Trm.cells]at P A;have n2:=z5 c c.next (.row [.str b[k].a,.str b[k].b]);have K:h.next<c.next:=by rw[<-i,za];omega
   have n3:(c.new c.next (.row [.str b[k].a,.str b[k].b])).at' h.next=some (.row [.str a[k].a,.str a[k].b]):=by rw[zf ow];exact N
   cases M:(yk a[k] b[k]==0)with
   |true=>
    have Z:∀j (h1:j<a.length)(f:j<b.length),j<k+1->yk a[j] b[j]=0:=λj h1 f h3=>by
     rcases zp.1 h3 with q|rfl
     .exact m j h1 f q
     .simpa using M
    have J:k+1<=b.length:=C
    repeat' first|simp only[go_sem, *]|apply bc<;>intro B|(refine zD.mono (l _ _ _) ?_;rintro r h ⟨E,rfl⟩)
    exact Z
   |false=>
    have n:=RP o C m (by simpa using M);rw[s]at n
    repeat' first|simp only[go_sem, *]|apply bc<;>intro B|(refine zD.mono (l _ _ _) ?_;rintro r h ⟨E,rfl⟩)
  .have t:decide ((k:Int)>=(b.length:Int))=true:=by simp only[zO];omega
   have n:=XA (a:=a) (b:=b) (λj h1 f=>m j h1 f ow);rw[ip ow,s]at n;exact au
 .rintro fr h Q ⟨S,T,U,u,v,w,y,D,m⟩
  have n:=XA (a:=a) (b:=b) (λj h1 f=>m j h1 f h1);rw[iq ow,s]at n;cases t:decide ((a.length:Int)<(b.length:Int))with
  |true=>
   rw[ip (by have:=yE t;omega)]at n
   repeat' first|simp only[go_sem, *]|apply bc<;>intro B
  |false=>
   rw[iq (by have:=yA t;omega)]at n;exact au
def dT(a b:List Trm):Int:=orL [uq a.length b.length,nf a b]
def Tt{a b:List Trm}(f:yZ 2 (wj a) d)(h:yZ 2 (wj b) x)(c:a.length<=1048576)(e:b.length<=1048576)(g:Heap):
  zD prog 333 [d,x] g λr h'=>h'=g/\r=.int .i64 (dT a b):=by
 have k:=uI f;have m:=uI h;have h1:=Yr a.length b.length;have j:=WX f h c e;have h3:=zCW (l:=[uq a.length b.length,nf a b]) (yZ.mk .full) jS;have hr:=λnid=>zLc (uq a.length b.length) (nf a b) nid;have i:orL [uq a.length b.length,nf a b]=dT a b:=rfl;rw[i]at h3;refine zj zK1 ?_;simp only[f333,zA]
 repeat' first|simp only[go_sem, *]|apply bc<;>intro i|refine zD.use (h1 _) ?_|refine zD.use (j _) ?_|refine zD.use (h3 _) ?_
def zIA(l:List Trm)(n:Trm):Bool:=l.any λx:Trm=>n.a==x.a&&n.b==x.b
def Bh{l:List Trm}(e:yZ 2 (wj l) d)(f:l.length<=1048576)(n:Trm)(g:Heap):
  zD prog 383 [.agg n.cells,.iptr [d] 0] g λr h'=>h'=g/\r=.bool (!(zIA l n)):=by
 have c:=Q6 e f n;have h:(l.any λx:Trm=>n.a==x.a&&n.b==x.b)=zIA l n:=rfl;rw[h]at c;refine zj zLI ?_;simp only[f383,zA];simp only[Trm.cells]
 repeat' first|simp only[go_sem, *]|apply bc<;>intro c|refine zD.use (c _) ?_
def cy(a b:List Trm):Bool:= !(b.any λn=> !(zIA a n))
def UG{a b:List Trm}(j:yZ 2 (wj a) d)(k:yZ 2 (wj b) x)(e:a.length<=1048576)(i:b.length<=1048576)(g:Heap):
  zD prog 335 [d,x] g λr h'=>h'=g/\r=.bool (cy a b):=by
 have c:=Yw k i (f:=383) (cap:=[.iptr [d] 0]) λn _ h=>Bh j e n h;have l:(b.any λn=> !(zIA a n))= !(cy a b):=by simp[cy]
 rw[l]at c;refine zj zK3 ?_;simp only[f335,zA];rcases j with⟨rfl,_⟩ | ⟨_,rfl⟩
 .repeat' first|simp only[go_sem, *]|apply bc<;>intro c|refine zD.use (c _) ?_
 .repeat' first|simp only[go_sem, *]|apply bc<;>intro c|refine zD.use (c _) ?_
structure QC{β:Type}(c:β->β->Int):Prop where
 anti:∀x y,c x y<0↔0<c y x
 trans:∀x y z,c x y<=0->c y z<=0->c x z<=0
def QC.refl{c:β->β->Int}(h:QC c)(x:β):c x x=0:=by
 have:=h.anti x x;omega
def QC.eq0{c:β->β->Int}(h:QC c){x y:β}(e:c x y=0):c y x=0:=by
 have h1:=h.anti x y;have a:=h.anti y x;omega
def QC.ltle{c:β->β->Int}(h:QC c){x y z:β}(h1:c x y<0)(d:c y z<=0):c x z<0:=by
 have a:=h.trans x y z ow d;rcases Int.lt_or_eq_of_le a with q|q
 .exact q
 .have b:=h.trans y z x d (by rw[h.eq0 q];exact Int.le_refl _)
  have:=(h.anti x y).1 h1;omega
def QC.lelt{c:β->β->Int}(h:QC c){x y z:β}(h1:c x y<=0)(d:c y z<0):c x z<0:=by
 have a:=h.trans x y z h1 ow;rcases Int.lt_or_eq_of_le a with q|q
 .exact q
 .have b:=h.trans z x y (by rw[h.eq0 q];exact Int.le_refl _) h1
  have:=(h.anti y z).1 d;omega
def QC.key{β γ:Type}{c:β->β->Int}(h:QC c)(f:γ->β):QC λx y=>c (f x) (f y):=⟨λ_ _=>h.anti _ _,λ_ _ _=>h.trans _ _ _⟩
def Rw(a b:Int):Int:=if a=0 then b else a
def QC.lex{c d:β->β->Int}(h:QC c)(k:QC d):QC λx y=>Rw (c x y) (d x y) where
 anti x y:=by
  have h1:=h.anti x y;have h2:=h.anti y x;have h3:=k.anti x y
  grind [Rw]
 trans x y z h1 h2:=by
  simp only[Rw]at *
  by_cases e1:c x y=0
  .by_cases e2:c y z=0
   .rw[ip e1]at h1;rw[ip e2]at h2
    have e3:c x z=0:=by
     have a:=h.trans x y z ow ow;have b:=h.trans z y x (by rw[h.eq0 e2];omega) (by rw[h.eq0 e1];omega);have:=h.anti x z;omega
    rw[ip e3];exact k.trans x y z h1 h2
   .rw[iq e2]at h2
    have:=h.lelt (x:=x) (y:=y) (z:=z) ow ow
    grind
  .rw[iq e1]at h1
   by_cases e2:c y z=0
   .have:=h.ltle (x:=x) (y:=y) (z:=z) ow ow
    grind
   .rw[iq e2]at h2
    have:=h.ltle (x:=x) (y:=y) (z:=z) ow ow
    grind
def Zl{β:Type}(c:β->β->Int):List β->List β->Int
 | [],[]=>0
 | [],_::_=> -1
 |_::_,[]=>1
 |x::xs,y::ys=>Rw (c x y) (Zl c xs ys)
theorem Rx{c:β->β->Int}(h:QC c):∀x y,Zl c x y<0↔0<Zl c y x
 | [],[]=>by simp[Zl]
 | [],_::_=>by simp[Zl]
 |_::_,[]=>by simp[Zl]
 |a::x,b::y=>by
  have h1:=h.anti a b;have d:=h.anti b a;have h3:=Rx h x y
  grind [Zl,Rw]
theorem VE{c:β->β->Int}(h:QC c):∀x y z,Zl c x y<=0->Zl c y z<=0->Zl c x z<=0
 | [],_,[],_,_=>by simp[Zl]
 | [],_,_::_,_,_=>by simp[Zl]
 |_::_,[],_,h1,_=>by simp[Zl]at h1
 |_::_,_::_,[],_,e=>by simp[Zl]at e
 |a::x,b::y,d::z,h1,e=>by
  have f:=VE h x y z;simp only[Zl,Rw]at *
  by_cases e1:c a b=0
  .by_cases e2:c b d=0
   .rw[ip e1]at h1
    have e3:c a d=0:=by
     have p:=h.trans a b d ow ow;have q:=h.trans d b a (by rw[h.eq0 e2];omega) (by rw[h.eq0 e1];omega);have:=h.anti a d;omega
    grind
   .rw[iq e2]at e
    have:=h.lelt (x:=a) (y:=b) (z:=d) ow ow
    grind
  .rw[iq e1]at h1
   by_cases e2:c b d=0
   .have:=h.ltle (x:=a) (y:=b) (z:=d) ow ow
    grind
   .rw[iq e2]at e
    have:=h.ltle (x:=a) (y:=b) (z:=d) ow ow
    grind
def QC.list{c:β->β->Int}(h:QC c):QC (Zl c):=⟨Rx h,VE h⟩
theorem Ue{c:β->β->Int}(h:∀x y,c x y=0->x=y):∀x y,Zl c x y=0->x=y
 | [],[],_=>rfl
 | [],_::_,e=>by simp[Zl]at e
 |_::_,[],e=>by simp[Zl]at e
 |a::x,b::y,e=>by
  simp only[Zl,Rw]at e;split at e
  .rename_i q;rw[h _ _ q,Ue h x y e]
  .grind
section
variable{β:Type}{c:β->β->Int}
def srt(c:β->β->Int)(l:List β):List β:=l.mergeSort λa b=> !(decide (c b a<0))
def sD(l:List β):(srt c l).Perm l:=List.mergeSort_perm _ _
def ZN{l:List β}{x:β} :x∈srt c l↔x∈l:=(sD l).mem_iff
def Vk(h:QC c)(l:List β):(srt c l).Pairwise λa b=>¬c b a<0:=by
 have:=List.pairwise_mergeSort (le:=λa b=> !(decide (c b a<0))) (λx y z h1 g=>by
  simp only[qI,wY]at *
  have d:=h.anti y x;have e:=h.anti z y;have f:=h.anti z x;have:=h.trans x y z ow ow;omega) (λx y=>by
  have:=h.anti x y;simp only[yn,qI,wY];omega) l
 grind [srt]
theorem bv(h:QC c)(i:∀x y,c x y=0->x=y):∀{l m:List β},l.Perm m->l.Pairwise (λa b=>¬c b a<0)->m.Pairwise (λa b=>¬c b a<0)->l=m
 | [],m,d,_,_=>(ct.1 d).symm
 |x::l,[],d,_,_=>by cases List.perm_nil.1 d
 |x::l,y::m,d,h1,g=>by
  have j:x∈y::m:=d.mem_iff.1 jS;have k:y∈x::l:=d.mem_iff.2 jS;have e:x=y:=by
   rcases z7.1 j with q|q
   .exact q
   .rcases z7.1 k with f|f
    .exact f.symm
    .have n:=(s9.1 h1).1 y f
     have o:=(s9.1 g).1 x q;have p:=h.anti x y
     grind
  subst e;rw[bv h i (List.perm_cons x |>.1 d) (s9.1 h1).2 (s9.1 g).2]
def Mb(h:QC c)(d:∀x y,c x y=0->x=y){l m:List β}(e:m.Perm l)(f:m.Pairwise λa b=>¬c b a<0):m=srt c l:=bv h d (e.trans (sD l).symm) f (Vk h l)
def Ir(h:QC c)(a:∀x y,c x y=0->x=y){l m:List β}(b:m.Perm l):srt c m=srt c l:=Mb h a ((sD m).trans b) (Vk h m)
def ur(c:β->β->Int)(l:List β):Nat->List β
 |0=>[]
 |n+1=>match l[n]? with
  |none=>ur c l n
  |some x=>match n with
   |0=>[x]
   |k+1=>match l[k]? with
    |none=>ur c l (k+1)
    |some y=>if(c x y==0)=true then ur c l (k+1)else ur c l (k+1)++ [x]
def cpt(c:β->β->Int)(l:List β):List β:=ur c l l.length
def bJ{l:List β}(h:0<l.length):ur c l 1= [l[0]]:=by simp[ur,h]
def nJ{l:List β}(h:k+1<l.length):ur c l (k+2)=if(c l[k+1] l[k]==0)=true then ur c l (k+1)else ur c l (k+1)++ [l[k+1]]:=by grind [ur]
def PJ{l:List β}{x y:β}(h1:l[k+1]? =some x)(a:l[k]? =some y):ur c l (k+2)=if(c x y==0)=true then ur c l (k+1)else ur c l (k+1)++ [x]:=by
 rw[ur];simp only[h1,a]
theorem jA{l:List β} :∀n,(ur c l n).length<=n
 |0=>zC _
 |1=>by grind [ur]
 |k+2=>by
  have a:=jA (l:=l) (k+1)
  grind [ur]
theorem UP{l:List β}(h:0<l.length):∀n,n<=l.length->0<n->0<(ur c l n).length
 |1,_,_=>by rw[bJ h];simp
 |k+2,a,_=>by
  rw[nJ ow];have:=UP h (k+1) ow ow
  grind
theorem fT{l:List β} :∀n,∀x∈ur c l n,x∈l
 |0,x,h=>by cases h
 |n+1,x,h=>by
  rw[ur]at h;split at h
  .exact fT n x h
  .rename_i y e1
   split at h
   .grind
   .split at h
    .exact fT _ x h
    .split at h
     .exact fT _ x h
     .rcases qB.1 h with h|h
      .exact fT _ x h
      .grind
theorem UO(a:∀x y,c x y=0->x=y){l:List β} :∀n,n<=l.length->∀x,x∈l.take n->x∈ur c l n
 |0,_,x,h=>by simp at h
 |1,b,x,h=>by rw[bJ ow];rw[kg]at h;simp[tM,show 0<l.length by omega]at h;simp[h]
 |k+2,b,x,h=>by
  rw[nJ ow];rw[zP ow]at h;rcases qB.1 h with h|h
  .have:=UO a (k+1) ow x h
   grind
  .cases zo.1 h
   split
   .rename_i q
    have d:c l[k+1] l[k]=0:=by simpa using q
    rw[a _ _ d];exact UO a (k+1) ow _ (List.mem_take_iff_getElem.2 ⟨k,ow,rfl⟩)
   .simp
def AP(a:∀x y,c x y=0->x=y){l:List β}{x:β} :x∈cpt c l↔x∈l:=by grind [fT,UO,cpt]
end
def pQ(l:List Trm):∀x∈wj l,x.length=2:=λx a=>by
 obtain⟨y,_,rfl⟩:=zS.1 a;rfl
theorem Gm(a b:List UInt8):(dG a b==0)=(a==b):=by grind [dG,Uk]
def fR(x y:Trm):(yk x y==0)=(x.a==y.a&&x.b==y.b):=by grind [yk,orL,Gm]
def Gu(l m:List Trm):(wj (l++m)).flatten=(wj l).flatten++(wj m).flatten:=by simp[wj]
theorem LB{l:List Trm}(h0:l≠[])(hl:l.length<=1048576)(L:g.at' id=some (.row (wj l).flatten)):
  zD prog 331 [.rs id 2 0 l.length] g λr h'=>r=.rs id 2 0 (cpt yk l).length/\∃rest,h'=g.set id (.row ((wj (cpt yk l)).flatten++rest)):=by
 have a8:=λ(h:Heap)=>oz (P:=prog) (t:=195) (sz:=2) (id:=id) (off:=0) (len:=l.length) (h:=h) underlying195;have A:0<l.length:=zy.2 h0;have a4:∀x:Trm,([.str x.a,.str x.b]:List D).all D.flat=true:=λx=>rfl;have f:∀n,n<=l.length->(∀i (h:i+1<l.length),i+1<n->(yk l[i+1] l[i]==0)=false)->ur yk l n=l.take n:=λn hn hh=>by
  induction n with
  |zero=>rfl
  |succ n ih=>
   cases n with
   |zero=>rw[bJ A,kg];simp[tM,A]
   |succ k=>
    rw[nJ ow,iq (by rw[hh k ow ow];exact zd),ih ow λi h1 N=>hh i h1 ow];exact(zP ow).symm
 refine xP λQ W=> ?_;have d:(∀i (h:i+1<l.length),i+1<l.length->(yk l[i+1] l[i]==0)=false)->Q (.rs id 2 0 l.length) g:=λhh=>W _ _ (by
  have e:cpt yk l=l:=by
   have:=f l.length (zC _) hh;rw[yC]at this;exact this
  rw[e];exact⟨rfl,[],by rw[yK,sC L]⟩)
 refine zj zK0 ?_;simp only[f331,zA];cases q1:decide ((l.length:Int)<2)with
 |true=>
  have hd:=d λi h1 N=>by have:=yE q1;omega
  clear d W;simp only[go_sem, *]
 |false=>
 simp only[go_sem, *];refine qn (λi fr h=>fr 0=.rs id 2 0 l.length/\fr 3=.int .i64 ((i+1:Nat):Int)/\h=g/\i+1<=l.length/\∀j (h:j+1<l.length),j+1<i+1->(yk l[j+1] l[j]==0)=false) l.length ?_ ?_
 .simp only[go_sem,zM,zV,zG]
  exact⟨rfl,A,λj h1 N=>by omega⟩
 rintro i fr h hi ⟨f0,f3,rfl,ad,U⟩;by_cases I:i+1<l.length
 .have e1:decide (((i+1:Nat):Int)<(l.length:Int))=true:=zR ow
  have ew:IntKind.i64.wrap (((i+1:Nat):Int)+1)=((i+2:Nat):Int):=qH jL;have V:IntKind.i64.wrap (((i+1:Nat):Int)-1)=((i:Nat):Int):=by rw[qP ow ow];omega
  have a1:=qX (P:=prog) (sz:=2) (id:=id) wp uO (k:=.i64) I;have a2:=qX (P:=prog) (sz:=2) (id:=id) wp uO (k:=.i64) (show i<l.length by omega);have p1:=o5 (pQ l) ow (Ya I);have p2:=o5 (pQ l) ow (Ya (show i<l.length by omega));have T:=QY l[i+1] l[i];have w:=fR l[i+1] l[i];rw[<-w]at T;clear w;simp only[Trm.cells]at p1 p2;cases v:(yk l[i+1] l[i]==0)with
  |false=>
   rw[v]at T;have hn:∀j (h:j+1<l.length),j+1<i+2->(yk l[j+1] l[j]==0)=false:=λj h1 N=>by
    by_cases e:j=i
    .subst e;exact v
    .exact U j h1 ow
   clear U d f q1 h0 v;simp only[go_sem, *];refine yJ kr ?_;simp only[go_sem, *];exact⟨ow,I,hn⟩
  |true=>
   rw[v]at T;have G:ur yk l (i+2)=l.take (i+1):=by
    rw[nJ I,ip v,f (i+1) ow λj h1 N=>U j h1 N]
   have ak:=pn (P:=prog) (t:=195) (sz:=2) (id:=id) (h:=h) cz wp uO (k:=.i64) ad;clear U d f q1 h0 v;simp only[go_sem, *];refine yJ kr ?_;simp only[go_sem, *];refine qn (λm fr h'=>fr 0=.rs id 2 0 l.length/\fr 4=.rs id 2 ((i+1)*2) (l.length- (i+1))/\fr 5=.int .i64 ((m+1:Nat):Int)/\i+1+(m+1)<=l.length/\∃ys:List Trm,ys.length=l.length/\h'=h.set id (.row (wj ys).flatten)/\
    (ur yk l (i+2+m)).length<=i+1+m/\fr 3=.int .i64 (((ur yk l (i+2+m)).length:Nat):Int)/\ys.take (ur yk l (i+2+m)).length=ur yk l (i+2+m)/\ys.drop (i+1+m)=l.drop (i+1+m)) l.length ?_ ?_
   .have E:(ur yk l (i+2)).length=i+1:=by rw[G,yB];omega
    have F:ur yk l (i+2+0)=ur yk l (i+2):=rfl;have B:i+1+(0+1)<=l.length/\∃ys:List Trm,ys.length=l.length/\h=h.set id (.row (wj ys).flatten)/\
     (ur yk l (i+2+0)).length<=i+1+0/\D.int .i64 ((i+1:Nat):Int)=.int .i64 (((ur yk l (i+2+0)).length:Nat):Int)/\ys.take (ur yk l (i+2+0)).length=ur yk l (i+2+0)/\ys.drop (i+1+0)=l.drop (i+1+0):=
     ⟨ow,l,rfl,(sC L).symm,by rw[F,E];omega,by rw[F,E],by rw[F,E,G],rfl⟩
    clear E F G;simp only[go_sem,zM,zV,zG];obtain⟨r0,ys,r1,r2,r3,r4,r5,r6⟩:=B;exact⟨f0,rfl,r0,ys,r1,r2,r3,f3.trans r4,r5,r6⟩
   clear G ak T p1 p2 a1 a2 f0 f3 e1 ew V;rintro m ba N hm ⟨f0,f4,f5,bb,ys,J,rfl,S,f3,q,p⟩;have C:(h.set id (.row (wj ys).flatten)).at' id=some (.row (wj ys).flatten):=zW _ _ _;have a5:=λ(H:Heap)=>oz (P:=prog) (t:=195) (sz:=2) (id:=id) (off:=(i+1)*2) (len:=l.length- (i+1)) (h:=H) underlying195;by_cases ag:m+1<l.length- (i+1)
   .have e1:decide (((m+1:Nat):Int)<((l.length- (i+1):Nat):Int))=true:=zR ow
    have ew:IntKind.i64.wrap (((m+1:Nat):Int)+1)=((m+2:Nat):Int):=qH jL;have V:IntKind.i64.wrap (((m+1:Nat):Int)-1)=((m:Nat):Int):=by rw[qP ow ow];omega
    have a1:=sr (P:=prog) (sz:=2) (id:=id) (off:=(i+1)*2) wp uO (k:=.i64) ag;have a2:=sr (P:=prog) (sz:=2) (id:=id) (off:=(i+1)*2) wp uO (k:=.i64) (show m<l.length- (i+1) by omega);obtain⟨x,hx⟩:∃x,l[i+1+m+1]? =some x:=⟨_,zB ow⟩;obtain⟨y,hy⟩:∃y,l[i+1+m]? =some y:=⟨_,zB ow⟩;have g1:ys[i+1+(m+1)]? =some x:=by
     have:=congrArg (λz=>z[1]?) p;simp only[yy]at this;rw[show i+1+(m+1)=i+1+m+1 by omega,this,hx]
    have g2:ys[i+1+m]? =some y:=by
     have:=congrArg (λz=>z[0]?) p;simp only[yy,qo]at this;rw[this,hy]
    have cg:∀(k:Nat)(x:Trm),ys[k]? =some x->(wj ys)[k]? =some x.cells:=λk x e=>by simp[wj,e]
    have p1:=jb (pQ ys) ow (cg _ _ g1);have p2:=jb (pQ ys) ow (cg _ _ g2);have o:ur yk l (i+2+(m+1))=if(yk x y==0)=true then ur yk l (i+2+m)else ur yk l (i+2+m)++ [x]:=by
     have:=PJ (c:=yk) hx hy;rw[show i+2+(m+1)=i+1+m+2 by omega,this,show i+2+m=i+1+m+1 by omega]
    have u:∀zs:List Trm,zs.drop (i+1+m)=l.drop (i+1+m)->zs.drop (i+1+(m+1))=l.drop (i+1+(m+1)):=λzs e=>by
     have:=congrArg (List.drop 1) e;simpa [uC,qf]using this
    generalize hR:ur yk l (i+2+m)=R at *
    have T:=QY x y;have w:=fR x y;rw[<-w]at T;have aj:∀c,kW prog .neq 197 c (.agg [.str x.a,.str x.b]) (.agg [.str y.a,.str y.b])=some (.bool (!(yk x y==0))):=λc=>by
     have he:eqT prog 197=some [.s,.s]:=kr;rw[w];simp only[kW,he,L9,eqK,qZ,rh,oH]
    clear w T;simp only[Trm.cells]at p1 p2;cases v:(yk x y==0)with
    |true=>
     rw[v]at aj;rw[ip v]at o;have B:m<l.length/\i+1+(m+1+1)<=l.length/\∃zs:List Trm,zs.length=l.length/\h.set id (.row (wj ys).flatten)=h.set id (.row (wj zs).flatten)/\
      (ur yk l (i+2+(m+1))).length<=i+1+(m+1)/\D.int .i64 ((R.length:Nat):Int)=.int .i64 (((ur yk l (i+2+(m+1))).length:Nat):Int)/\zs.take (ur yk l (i+2+(m+1))).length=ur yk l (i+2+(m+1))/\zs.drop (i+1+(m+1))=l.drop (i+1+(m+1)):=
      ⟨ow,ow,ys,J,rfl,by rw[o];omega,by rw[o],by rw[o];exact q,u _ p⟩
     clear q p u o g1 g2 cg hx hy hR S v;simp only[go_sem, *];refine yJ kr ?_;simp only[go_sem, *]
    |false=>
     rw[v]at aj;rw[iq (by rw[v];exact zd)]at o;have X:R.length<l.length:=ow;have a3:=qX (P:=prog) (sz:=2) (id:=id) wp uO (k:=.i64) X;have a6:=cj (P:=prog) (t:=197) C (pQ ys) ow uO (i:=R.length) (by rw[wc,J];exact X) (x:=[.str x.a,.str x.b]) rfl rfl;have M:(wj ys).set R.length [.str x.a,.str x.b]=wj (ys.set R.length x):=by
      have:([.str x.a,.str x.b]:List D)=x.cells:=rfl;rw[this,wj,wj,tC]
     rw[M,mi]at a6;have a9:IntKind.i64.wrap (((R.length:Nat):Int)+1)=((R.length+1:Nat):Int):=qH jL;have B:m<l.length/\i+1+(m+1+1)<=l.length/\∃zs:List Trm,zs.length=l.length/\h.set id (.row (wj (ys.set R.length x)).flatten)=h.set id (.row (wj zs).flatten)/\
      (ur yk l (i+2+(m+1))).length<=i+1+(m+1)/\D.int .i64 ((R.length+1:Nat):Int)=.int .i64 (((ur yk l (i+2+(m+1))).length:Nat):Int)/\zs.take (ur yk l (i+2+(m+1))).length=ur yk l (i+2+(m+1))/\zs.drop (i+1+(m+1))=l.drop (i+1+(m+1)):=by
      have O:(R++ [x]).length=R.length+1:=jS;refine⟨ow,ow,ys.set R.length x,by simpa using J,rfl,by rw[o,O];omega,by rw[o,O],?_,?_⟩
      .rw[o,O,zP (by rw[uE];omega),nE,mM (zC _),q]
      .rw[mK ow];exact u _ p
     clear q p u o g1 g2 cg hx hy hR S v M;simp only[go_sem, *];refine yJ kr ?_;exact au
   .have e1:decide (((m+1:Nat):Int)<((l.length- (i+1):Nat):Int))=false:=zN ow
    have ai:i+2+m=l.length:=ow;have Y:ur yk l (i+2+m)=cpt yk l:=by rw[ai];rfl
    rw[Y]at q f3 S;have K:(cpt yk l).length<=l.length:=jA _;have ak:=λ(H:Heap)=>pn (P:=prog) (t:=195) (sz:=2) (id:=id) (h:=H) cz wp uO (k:=.i64) K;have bk:=λ(H:Heap)=>nT (P:=prog) (t:=195) (h:=H) cz wp (id:=id) (sz:=2) uO (k:=.i64) K;obtain⟨rest,Z⟩:=WM (P:=prog) (sz:=2) (t:=195) wp sH rfl rfl C (pQ ys) (n:=(cpt yk l).length) (by rw[wc];omega);have a0:(wj ys).take (cpt yk l).length=wj (cpt yk l):=by rw[wj,<-ka,q];rfl
    rw[a0,mi,wc,J]at Z;have a7:=W (.rs id 2 0 (cpt yk l).length) (h.set id (.row ((wj (cpt yk l)).flatten++rest))) ⟨rfl,rest,rfl⟩;clear q p ai Y a0 W;exact au
 .have e1:decide (((i+1:Nat):Int)<(l.length:Int))=false:=zN ow
  have hd:=d λj h1 N=>U j h1 ow;clear U d f q1 h0 W;exact au
def H9(l:List Trm)(n:Nat):below n (.sl 2 (wj l) .no):=qQ (yM _) _ (qY (sz:=2) (xs:=wj l) (λx a=>by
 obtain⟨y,_,rfl⟩:=zS.1 a;exact⟨rfl,by simp[Trm.cells,qC,below],rfl⟩) .no).2
def XN{cs rest:List D}(a:∀x∈xs,x.length=sz)(c:xs.length=n)(b:cs=xs.flatten++rest):frz id cs (.rs id sz 0 n)=.sl sz xs .no:=by
 subst b c;simp only[frz];rw[ip ⟨trivial,by rw[zQ,uP a];omega⟩,wN,qt (by rw[uP a];omega),yP (by rw[uP a];omega),pX a]
def PM(h:Heap)(i:Nat)(o:Obj):(h.set i o).del i=h.del i:=by
 unfold Heap.set Heap.del;simp only[Heap.mk.injEq,zM]
 funext j
 by_cases e:j=i<;>simp[e]
def Q1{l:List Trm}(h0:l≠[])(b:l.length<=1048576)(a:g.at' id=some (.row (wj l).flatten)):
  zD prog 331 [.rs id 2 0 l.length] g λr h'=>h'=g.del id/\r=.sl 2 (wj (cpt yk l)) .no:=
 zD.freezeD ((LB h0 b a).mono (by
  rintro r h' ⟨rfl,rest,rfl⟩;exact⟨id,_,zW _ _ _,by rw[PM],XN (pQ _) (wc _) rfl⟩))
def Kl{l:List Trm}(c:yZ 2 (wj l) d)(h0:l≠[])(i:l.length<=1048576)(h:Heap):
  zD prog 153 [d] h λr h'=>r=.rs h.next 2 0 l.length/\h'=h.new h.next (.row (wj l).flatten):=by
 rcases c with⟨rfl,f⟩ | ⟨tk,rfl⟩
 .exact absurd (uR.1 f) h0
 have b:0<l.length:=zy.2 h0;have e:kW prog .eql 195 true (.sl 2 (wj l) tk) .nilsl=some (.bool false):=by rw[um (yZ.mk tk) underlying195];rfl
 have g:=λnid h=>wT (P:=prog) (nid:=nid) (h:=h) wp sH uO rfl rfl (by omega:0<2);have a:qS prog true h.next 195 (.sl 2 [] .full) (.sl 2 (wj l) tk) h=some (.rs h.next 2 0 l.length,h.new h.next (.row (wj l).flatten)):=by
  rw[oE wp Ye uO ow (pQ l) (by rw[kA,wc];unfold lim;omega) (by rw[wc];unfold lim;omega),wc,iq ow,sV underlying197]
 refine zj zFR ?_;simp only[f153,zA];simp only[tT,go_sem,e,g,a]
def IT:QC dG where
 anti x y:=by
  unfold dG;rw[Uk,Uk];rcases Std.lt_trichotomy x y with h|h|h
  .have:=List.lt_asymm h
   have n:¬x=y:=λe=>by subst e;exact this h
   simp[h,this,n,km n]
  .subst h;simp[List.lt_irrefl]
  .have:=List.lt_asymm h
   have n:¬x=y:=λe=>by subst e;exact this h
   simp[h,this,n,km n]
 trans x y z h1 h2:=by
  unfold dG at *
  rw[Uk]at *
  have le1:x<y\/x=y:=by
   split at h1
   .rename_i q;exact .inl (by simpa using q)
   .split at h1
    .rename_i q;exact .inr (by simpa using q)
    .omega
  have le2:y<z\/y=z:=by
   split at h2
   .rename_i q;exact .inl (by simpa using q)
   .split at h2
    .rename_i q;exact .inr (by simpa using q)
    .omega
  have le3:x<z\/x=z:=by
   rcases le1 with a|rfl
   .rcases le2 with b|rfl
    .exact .inl (List.lt_trans a b)
    .exact .inl a
   .exact le2
  rcases le3 with a|rfl
  .simp[a]
  .simp[List.lt_irrefl]
def kD(x y:Trm):yk x y=Rw (dG x.a y.a) (dG x.b y.b):=by
 unfold yk Rw;simp only[orL];split
 .split
  .rename_i q;exact q.symm
  .rfl
 .rfl
def gf:QC yk:=by
 have:=(IT.key Trm.a).lex (IT.key Trm.b);exact⟨λx y=>by rw[kD,kD];exact this.anti x y,λx y z=>by rw[kD,kD,kD];exact this.trans x y z⟩
def bH(x y:Trm)(h:yk x y=0):x=y:=by
 have:=fR x y;rw[h]at this
 have:(x.a==y.a&&x.b==y.b)=true:=this.symm;cases x;cases y;simp only[zF,qz]at this;obtain⟨rfl,rfl⟩:=this;rfl
end Go.V
