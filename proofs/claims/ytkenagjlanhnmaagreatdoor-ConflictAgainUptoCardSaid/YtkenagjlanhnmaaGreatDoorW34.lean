/- Rules of the machine of abstract values, part 8. No condition. -/
import Derived.Test.YtkenagjlanhnmaaGreatDoorW33
set_option linter.all false
set_option maxHeartbeats 8000000
namespace Go.V
def Yi(h0 h:Heap)(sz:Nat)(xs:List (List D))(d:D):Prop:=Ext h0 h/\((d=.nilsl/\xs= [])\/∃id,d=.rs id sz 0 xs.length/\h.at' id=some (.row xs.flatten)/\h0.next<=id/\id<h.next/\xs≠[])
section
variable{h0 h h':Heap}{sz:Nat}{xs:List (List D)}{d:D}
def Yi.start(a:Ext h0 h)(sz:Nat):Yi h0 h sz [] .nilsl:=⟨a,.inl ⟨rfl,rfl⟩⟩
def Yi.ext(b:Yi h0 h sz xs d)(a:Ext h h'):Yi h0 h' sz xs d:=by
 refine⟨b.1.trans a,?_⟩;rcases b.2 with h1| ⟨id,rfl,h1,c,h3,e⟩
 ·exact .inl h1
 ·exact .inr ⟨id,rfl,by rw[a.2 _ h3];exact h1,c,zq h3 a.1,e⟩
def Yi.flat(a:Yi h0 h sz xs d):d.flat=true/\d.cells= [d]/\d.notTuple=true:=by
 rcases a.2 with⟨rfl,_⟩ | ⟨t,rfl,_⟩ <;>exact⟨rfl,rfl,rfl⟩
def Yi.trunc(b:Yi h0 h sz xs d)(a:∀y∈xs,y.length=sz)(x:D):tu d x h=h:=by
 rcases b.2 with⟨rfl,_⟩ | ⟨id,rfl,h1,_⟩
 ·rfl
 ·unfold tu;simp only;split
  ·rfl
  ·rw[h1];simp only;rw[iq (by rw[tE a];simp)]
variable{P:Program}{cs:List D}
def X2{e x:TypeId}(a:P.underlying e=some (.slice x)):og P e cs=.row cs:=by simp[og,a]
variable{ys:List (List D)}{tk:Tk}
def Yi.app{t e:TypeId}(r:Yi h0 h sz xs d)(v:tG P t=some e)(A:ZW P e=true)(z:szT P e=sz)(x:0<sz)(hr:∀cs,og P e cs=.row cs)(g:∀y∈xs,y.length=sz)(p:∀y∈ys,y.length=sz)(c:ys≠[])
  (j:(xs.length+ys.length)*uE P e<=lim) (m:xs.length+ys.length<=lim):∃a G,qg P true h.next t d (.sl sz ys tk) h=some (a,G)/\Yi h0 G sz (xs++ys) a/\tu d (.sl sz ys tk) h=h:=by
 have f:=r.trunc g (.sl sz ys tk)
 suffices∃a G,qg P true h.next t d (.sl sz ys tk) h=some (a,G)/\Yi h0 G sz (xs++ys) a from by
  obtain⟨a,G,B,C⟩:=this;exact⟨a,G,B,C,f⟩
 clear f;have l:ys.flatten.length=ys.length*sz:=tE p;have q:0<ys.length:=yA.2 c;obtain⟨b,u⟩:=r;simp only[qg,v,A,z,QU,qS,l,tA _ x];have n:∀o,Ext h0 (h.new h.next o):=λo=>b.new b.1 o;rcases u with⟨rfl,rfl⟩ | ⟨id,rfl,h1,D,h3,E⟩
 ·refine⟨.rs h.next sz 0 ys.length,h.new h.next (.row ys.flatten),?_,n _,.inr ⟨h.next,by simp,by rw[z8];rfl,b.1,by rw[za];omega,by simpa using c⟩⟩;simp only[tp];rw[iq ow,ip (by simp only[zF,zO];simp only[yo,yZ]at j m;exact⟨j,m⟩)];simp[hr]
 ·have k:xs.flatten.length=xs.length*sz:=tE g;have s:Ext h0 ((h.del id).new h.next (.row (xs.flatten++ys.flatten))):=by
   refine⟨zf b.1 (by show h.next<=max h.next _;omega),λi w=> ?_⟩;rw[zi (by have:=b.1;omega),wT ow];exact b.2 i w
  refine⟨.rs h.next sz 0 (xs.length+ys.length),(h.del id).new h.next (.row (xs.flatten++ys.flatten)),?_,s,.inr ⟨h.next,by simp,by rw[z8,List.flatten_append],b.1,by show h.next<max h.next (h.next+1);omega,by simp[c]⟩⟩;simp only[tp,tz,cG];rw[ip (by simp only[zF,zO];exact⟨j,m⟩)];simp only[h1,k,qS,hr]
end
structure Own2(h0 h:Heap)(s1:Nat)(xs:List (List D))(d:D)(s2:Nat)(ys:List (List D))(e:D):Prop where
 a:Own h0 h s1 xs d
 b:Own h0 h s2 ys e
 ap:∀i,sr d i->sr e i->False
section
variable{h0 h h':Heap}{s1 s2:Nat}{xs ys:List (List D)}{d e:D}
def Own2.start(a:Ext h0 h)(s1 s2:Nat):Own2 h0 h s1 [] .nilsl s2 [] .nilsl:=⟨Own.start a _,Own.start a _,λi h=>h.elim⟩
def Own2.ext(c:Own2 h0 h s1 xs d s2 ys e)(f:Ext h h'):Own2 h0 h' s1 xs d s2 ys e:=⟨c.a.ext f,c.b.ext f,c.ap⟩
def Own2.swap(c:Own2 h0 h s1 xs d s2 ys e):Own2 h0 h s2 ys e s1 xs d:=⟨c.b,c.a,λi q p=>c.ap i p q⟩
variable{P:Program}{tk:Tk}{t u:TypeId}{K:D->Heap->Prop}
def Own2.appH{zs:List (List D)}{w:HidR K}(g:Own2 h0 h s1 xs d s2 ys e)(v:tG P t=some u)(B:ZW P u=true)(A:szT P u=s1)(z:0<s1)(p:∀y∈zs,y.length=s1)(m:zs≠[])
  (s:(xs.length+zs.length)*uE P u<=lim) (x:xs.length+zs.length<=lim) (r:∀l h',Own2 h0 h' s1 (xs++zs) l s2 ys e->K l h'):IE (qg P false h.next t d (.sl s1 zs tk) h) K w:=
 g.a.2.1.app2 v B A z p m s x λl h' o n j tk c f=>r l h' ⟨⟨⟨zf g.a.1.1 n,λi k=>by rw[j i (zq k g.a.1.1) (λq=>by have:=g.a.2.2 i q;omega)];exact g.a.1.2 i k⟩,o,λi k=>zf g.a.1.1 (tk i k)⟩,
  ⟨⟨zf g.a.1.1 n,λi k=>by rw[j i (zq k g.a.1.1) (λq=>by have:=g.a.2.2 i q;omega)];exact g.a.1.2 i k⟩,g.b.2.1.loc n λi k=>j i (g.b.2.1.tok k).1 λq=>g.ap i q k,g.b.2.2⟩,
  λi C E=>by have:=tk i C;have:=(g.b.2.1.tok E).1;omega⟩
end
section
variable{h0 h h':Heap}{sz:Nat}{xs:List (List D)}{d:D}
variable{P:Program}{ys:List (List D)}{tk:Tk}{K:D->Heap->Prop}
def Own.appK{t e:TypeId}{w:HidR K}(b:Own h0 h sz xs d)(r:tG P t=some e)(z:ZW P e=true)(x:szT P e=sz)(v:0<sz)(l:∀y∈ys,y.length=sz)(k:ys≠[])
  (p:(xs.length+ys.length)*uE P e<=lim) (s:xs.length+ys.length<=lim) (m:∀j h',Own h0 h' sz (xs++ys) j->h.next<=h'.next->(∀i,i<h.next->h.at' i≠some .tok->h'.at' i=h.at' i)->K j h'):IE (qg P false h.next t d (.sl sz ys tk) h) K w:=
 b.2.1.app2 r z x v l k p s λj h' o n a tk c f=>m j h' ⟨⟨zf b.1.1 n,λi g=>by rw[a i (zq g b.1.1) (λq=>by have:=b.2.2 i q;omega)];exact b.1.2 i g⟩,o,λi g=>zf b.1.1 (tk i g)⟩ n λi g u=>a i g λq=>u (b.2.1.tok q).2
variable{id:Nat}
def Own.setK(a:Own h0 h sz xs d){o:Obj}(c:h0.next<=id)(hr:h.at' id=some o)(b:o≠ .tok)(g:Obj):Own h0 (h.set id g) sz xs d:=
 ⟨a.1.set c _,a.2.1.loc (zD _) λi f=>zY λe=>by subst e;have:=(a.2.1.tok f).2;rw[hr]at this;exact b (oK this),a.2.2⟩
end
structure Lcl(W:Nat->(Nat->Prop)->Heap->Prop):Prop where
 here:∀k S h,W k S h->∀i,S i->i<h.next
 loc:∀k S h h',W k S h->h.next<=h'.next->(∀i,S i->h'.at' i=h.at' i)->W k S h'
def YLp(id:Nat)(L:LRec)(W:Nat->(Nat->Prop)->Heap->Prop)(k:Nat)(S:Nat->Prop)(h:Heap):Prop:=
 id<h.next/\h.at' id=some (.loop L)/\∃S0,W k S0 h/\¬S0 id/\∀i,S i↔(i=id\/S0 i)
def LpK(id:Nat)(L:LRec)(W:Nat->(Nat->Prop)->Heap->Prop)(k:Nat)(S0:Nat->Prop)(h:Heap)(r:D)(h':Heap):Prop:=
 r=.bool true/\∃S',(∀i,S' i->S0 i\/h.next<=i)/\But (λi=>i=id\/S0 i) h h'/\h'.at' id=some (.loop L)/\W (k+1) S' h'
section
variable{P:Program}{W:Nat->(Nat->Prop)->Heap->Prop}{id n:Nat}{L:LRec}{el:Nat->List D}
def YLp.yld(s:Lcl W)(go:∀k S0 h3,k<n->id<h3.next->h3.at' id=some (.loop L)->W k S0 h3->¬S0 id->uS P id (el k) h3 (LpK id L W k S0 h3)):Yld P id n el (YLp id L W) λ_ _=>False:=by
 refine⟨λk S h y i b=> ?_,λk S h h' y m g=> ?_,λS h o=>o.elim,λS h h' o=>o.elim,λk S h g y=> ?_⟩
 ·obtain⟨c,_,S0,d,_,a⟩:=y;rcases(a i).1 b with rfl|v
  ·exact c
  ·exact s.here _ _ _ d i v
 ·obtain⟨c,j,S0,d,f,a⟩:=y;exact⟨by omega,by rw[g id ((a id).2 (.inl rfl))];exact j,S0,s.loc _ _ _ _ d m λi b=>g i ((a i).2 (.inr b)),f,a⟩
 ·obtain⟨c,j,S0,d,f,a⟩:=y;refine(go k S0 h g c j d f).mono ?_;rintro r h' ⟨rfl,S',p,l,t,u⟩;refine⟨λi=>i=id\/S' i,λi b=> ?_,⟨l.1,λi b m=>l.2 i b λe=>m ((a i).2 e)⟩,.inl ⟨rfl,zq c l.1,t,S',u,λe=> ?_,λi=>Iff.rfl⟩⟩
  ·rcases b with rfl|b
   ·exact .inl ((a _).2 (.inl rfl))
   ·exact(p i b).imp (λq=>(a i).2 (.inr q)) λq=>q
  ·rcases p _ e with q|q
   ·exact f q
   ·omega
variable{S0 S':Nat->Prop}{k:Nat}{fr:Frm}
def Lp.fin(f:Lcl W){B:LRec}(b:({ B with st:=.ready,pending:=none } :LRec)=L){h3 a:Heap}(d:id<h3.next)(j:¬S0 id)(hid:a.at' id=some (.loop B))(c:∀i,S' i->S0 i\/h3.next<=i)(g:But (λi=>i=id\/S0 i) h3 a)(l:W (k+1) S' a) :
  pL (LpK id L W k S0 h3) id .normal fr a:=by
 refine sG hid ⟨rfl,S',c,g.set (.inl (.inl rfl)) _,by rw[zW,b],f.loc _ _ _ _ l (zD _) λi h=>zY λe=> ?_⟩;subst e;rcases c _ h with q|q
 ·exact j q
 ·omega
variable{f:FuncId}{args:List D}{h:Heap}{S:Nat->Prop}
def oT{a:Nat}(s:h.next=a){Q:Exit->Frm->Heap->Prop}(d:Lcl W)(v:L.st=.ready)(u:L.pending=none)(p:W 0 S h)
  (g:Yld P a n el (YLp a L W) (λ_ _=>False)->YLp a L W 0 (λi=>i=a\/S i) (h.new a (.loop L))->zE P f args (h.new a (.loop L)) λ_ h'=>∃S',(∀j,S' j->(j=a\/S j)\/(h.new a (.loop L)).next<=j)/\But (λi=>i=a\/S i) (h.new a (.loop L)) h'/\YLp a L W n S' h')
  (go:∀k S0 h3,k<n->a<h3.next->h3.at' a=some (.loop L)->W k S0 h3->¬S0 a->uS P a (el k) h3 (LpK a L W k S0 h3))
  (m:∀S' c,(∀j,S' j->S j\/a<=j)->But S h c->W n S' c->Q .normal fr c):
  zE P f args (h.new a (.loop L)) λ_ h'=>∃r,h'.at' a=some (.loop r)/\r.st≠ .busy/\Wb r.pending Q fr (h'.del a):=by
 subst s;have E:(h.new h.next (.loop L)).next=h.next+1:=za _ _;have o:¬S h.next:=λe=>wN _ (d.here _ _ _ p _ e);refine(g (YLp.yld d go) ⟨by omega,z8 _ _ _,S,d.loc _ _ _ _ p ow λi l=>zi (by have:=d.here _ _ _ p _ l;omega),o,λi=>Iff.rfl⟩).mono ?_;rintro r c ⟨S',C,x,D,z,S0,A,w,B⟩;refine⟨L,z,(by rw[v];intro q;cases q),?_⟩;rw[u,pG];refine m S0 _ (λj y=> ?_) ⟨by have:=x.1;show h.next<=c.next;omega,λi l t=> ?_⟩ (d.loc _ _ _ _ A (zD _) λi l=>wT λe=>by subst e;exact w l)
 ·rcases C j ((B j).2 (.inr y))with(q|q)|q
  ·subst q;exact absurd y w
  ·exact .inl q
  ·exact .inr ow
 ·have b:i≠h.next:=ow;rw[wT b,x.2 i ow (λe=>e.elim b t),zi b]
end
def WK(m1:Nat)(o1:Obj)(m2:Nat)(o2:Obj)(W:Nat->(Nat->Prop)->Heap->Prop)(k:Nat)(S:Nat->Prop)(h:Heap):Prop:=
 ∃S1,W k S1 h/\(m1<h.next/\m2<h.next)/\(h.at' m1=some o1/\h.at' m2=some o2)/\(¬S1 m1/\¬S1 m2)/\∀i,S i↔(i=m1\/i=m2\/S1 i)
def WK.lcl{m1 m2:Nat}{o1 o2:Obj}{W:Nat->(Nat->Prop)->Heap->Prop}(j:Lcl W):Lcl (WK m1 o1 m2 o2 W):=by
 refine⟨λk S h y i d=> ?_,λk S h h' y n e=> ?_⟩
 ·obtain⟨S1,b,⟨f,g⟩,_,_,c⟩:=y;rcases(c i).1 d with rfl|rfl|q
  ·exact f
  ·exact g
  ·exact j.here _ _ _ b i q
 ·obtain⟨S1,b,⟨f,g⟩,⟨l,c⟩,m,a⟩:=y;exact⟨S1,j.loc _ _ _ _ b n λi d=>e i ((a i).2 (.inr (.inr d))),⟨by omega,by omega⟩,⟨by rw[e m1 ((a m1).2 (.inl rfl))];exact l,by rw[e m2 ((a m2).2 (.inr (.inl rfl)))];exact c⟩,m,a⟩
variable{k id i sz n:Nat}{S S0 S':Nat->Prop}{h h' g:Heap}{P:Program}{cs args cap:List D}{ys xs:List (List D)}{tk:Tk}{t u:TypeId}{K:D->Heap->Prop}{fr:Frm}{f:FuncId}{α β:Type}{d x:D}
def WK.start{m1 m2:Nat}{o1 o2:Obj}{W:Nat->(Nat->Prop)->Heap->Prop}(b:W k S h)(h1:m1<h.next)(a:m2<h.next)(e1:h.at' m1=some o1)(e2:h.at' m2=some o2)(c:¬S m1)(d:¬S m2):WK m1 o1 m2 o2 W k (λi=>i=m1\/i=m2\/S i) h:=
 ⟨S,b,⟨h1,a⟩,⟨e1,e2⟩,⟨c,d⟩,λ_=>Iff.rfl⟩
def WK.stop{m1 m2:Nat}{o1 o2:Obj}{W:Nat->(Nat->Prop)->Heap->Prop}(e1:h.at' m1=some o1)(e2:h.at' m2=some o2)(m:∀i,S' i->(i=m1\/i=m2\/S i)\/h.next<=i)(b:But (λi=>i=m1\/i=m2\/S i) h h')(n:WK m1 o1 m2 o2 W k S' h'):
  ∃S1,(∀i,S1 i->S i\/h.next<=i)/\But S h h'/\W k S1 h':=by
 obtain⟨S1,c,_,⟨d,f⟩,⟨g,j⟩,l⟩:=n;refine⟨S1,λi a=> ?_,⟨b.1,λi a r=> ?_⟩,c⟩
 ·rcases m i ((l i).2 (.inr (.inr a)))with(rfl|rfl|q)|q
  ·exact absurd a g
  ·exact absurd a j
  ·exact .inl q
  ·exact .inr q
 ·by_cases o:i=m1
  ·subst o;rw[d,e1]
  ·by_cases p:i=m2
   ·subst p;rw[f,e2]
   ·exact b.2 i a λe=>by rcases e with q|q|q<;>contradiction
def WK.st{m1 m2:Nat}{o1 o2:Obj}{W:Nat->(Nat->Prop)->Heap->Prop}(c:WK m1 o1 m2 o2 W k S h):(h.at' m1=some o1/\h.at' m2=some o2)/\(m1<h.next/\m2<h.next):=by
 obtain⟨S1,_,b,a,_⟩:=c;exact⟨a,b⟩
def gE{α β:Type}(l:List α)(f:α->List β)(a:Nat):Nat:=((l.take a).flatMap f).length
def LV{l:List α}{f:α->List β}{a:Nat}(h:a<l.length):gE l f (a+1)=gE l f a+(f l[a]).length:=by
 unfold gE;rw[zQ h,pp,zR];simp
def W9(l:List α)(f:α->List β):gE l f 0=0:=by simp[gE]
def XI(l:List α)(f:α->List β):gE l f l.length=(l.flatMap f).length:=by simp[gE]
def Cr{l:List α}{f:α->List β}{a b:Nat}(h:a<l.length)(c:b<(f l[a]).length):(l.flatMap f)[gE l f a+b]? =some (f l[a])[b]:=by
 have:l.flatMap f=(l.take a).flatMap f++(f l[a]++(l.drop (a+1)).flatMap f):=by
  conv=>lhs;rw[<-qP a l,yf h,pp,oo]
 rw[this,yT (by unfold gE;omega)];unfold gE;rw[uR,yg c,zB]
def zI7{l:List α}{f:α->List β}{a b:Nat}(h:a<l.length)(c:b<(f l[a]).length):gE l f a+b<(l.flatMap f).length:=(zK.1 (Cr h c)).1
open Go.Proofs.Tryz
open Go.Proofs
set_option maxRecDepth 100000
structure Trm where
 a:List UInt8
 b:List UInt8
def Trm.cells(l:Trm):List D:=[.str l.a,.str l.b]
def wt(l:List Trm):List (List D):=l.map Trm.cells
def wl(l:List Trm):(wt l).length=l.length:=zG ..
def Ye{l:List Trm}(h:i<l.length):(wt l)[i]? =some l[i].cells:=by simp[wt,h]
def uf{l:List Trm}(a:yi 2 (wt l) d)(h:Heap):mC prog 195 d h=some (.int .i64 l.length):=by rw[wa a underlying195,wl]
def oO{l:List Trm}(a:yi 2 (wt l) d)(b:i<l.length):yt prog 195 d (.int .i64 (i:Int))=some (.iptr l[i].cells 0):=yn a uF uq (Ye b)
def yk(a b:Trm):Int:=orL [dH a.a b.a,dH a.b b.b]
def dW(a b:Trm)(g:Heap):zE prog 330 [.agg a.cells,.agg b.cells] g λr h'=>h'=g/\r=.int .i64 (yk a b):=by
 have h1:=Tv a.a b.a;have f:=Tv a.b b.b;have h3:=zCR (l:=[dH a.a b.a,dH a.b b.b]) (yi.mk .full) (by simp);have hr:=λnid=>zLu (dH a.a b.a) (dH a.b b.b) nid;have c:orL [dH a.a b.a,dH a.b b.b]=yk a b:=rfl;rw[c]at h3;have d:∀h:Heap,HLe Heap.emp h:=λh i j e=>by cases e
 refine zu zLI ?_;simp only[f330,zA];simp only[Trm.cells]
 repeat' first|simp only[go_sem, *]|apply bc<;>intro c
 refine qH Heap.emp [(0,.no,true),(1,.no,true),(2,.no,true),(3,.no,true),(5,.no,true),(6,.st,true),(7,.no,true),(8,.st,true),(4,.no,true),(9,.no,true),(10,.no,true),(11,.no,true),(12,.no,true)] kr kr (λi j e=>by cases e) ?_
 repeat' first|simp only[go_sem, *]|apply bc<;>intro c|refine zE.use (h1 _) ?_|refine zE.use (f _) ?_|refine zE.use (h3 _) ?_
def QP(x y:Trm)(c:Bool):jI prog .eql 197 c (.agg [.str x.a,.str x.b]) (.agg [.str y.a,.str y.b])=some (.bool (x.a==y.a&&x.b==y.b)):=by
 have d:eqT prog 197=some [.s,.s]:=kr;simp only[jI,d,KA,eqK,wB,rx,oe]
def GI{l:List Trm}(q:yi 2 (wt l) d)(D:l.length<=1048576)(n:Trm)(g:Heap):
  zE prog 424 [d,.agg [.str n.a,.str n.b]] g λr h'=>h'=g/\r=.int .i64 (UO (λx:Trm=>n.a==x.a&&n.b==x.b) l):=by
 have s:=uf q;have heq:=QP n;obtain⟨p,t⟩:∃p:Trm->Bool,(λx:Trm=>n.a==x.a&&n.b==x.b)=p:=⟨_,rfl⟩;have m:∀x,(n.a==x.a&&n.b==x.b)=p x:=λx=>by rw[<-t]
 rw[t];refine zu zLk ?_;simp only[f424,zA];simp only[go_sem, *];refine zd (λi fr h=>fr 0=d/\fr 3=.iptr [.str n.a,.str n.b] 0/\fr 7=.int .i64 (l.length:Int)/\fr 8=.int .i64 (i:Int)/\h=g/\∀j (e:j<l.length),j<i->p l[j]=false) l.length ow ?_ ?_ ?_
 ·simp only[go_sem,zT,zV,zI];exact λj e h0=>absurd h0 (yq _)
 ·rintro i fr h c e1 C ⟨v,w,y,z,rfl,e⟩;have u:=oO q c;simp only[Trm.cells]at u;have o:=heq l[i];rw[m]at o;cases k:p l[i]with
  |true=>
   have B:=jV (p:=p) c e k;rw[k]at o;simp only[go_sem, *];refine yI kr ?_;simp only[go_sem, *]
  |false=>
   have A:=tB (p:=p) c e k;rw[k]at o;simp only[go_sem, *];refine yI kr ?_;simp only[go_sem, *];exact A
 ·rintro fr h e1 ⟨v,w,y,z,rfl,e⟩;have B:=jW (p:=p) λj f=>e j f f;exact au
def Qy{l:List Trm}(e:yi 2 (wt l) d)(h:l.length<=1048576)(n:Trm)(g:Heap):
  zE prog 384 [d,.agg [.str n.a,.str n.b]] g λr h'=>h'=g/\r=.bool (l.any λx:Trm=>n.a==x.a&&n.b==x.b):=by
 have c:=GI e h n;have f:=gb (l:=l) (p:=λx:Trm=>n.a==x.a&&n.b==x.b);refine zu zLc ?_;simp only[f384,zA]
 repeat' first|simp only[go_sem, *]|apply bc<;>intro i|refine zE.use (c _) ?_
def T8{l:List Trm}(n:yi 2 (wt l) d)(C:l.length<=1048576){p:Trm->Bool}(z:∀s∈l,∀h,zE prog f ([]++ [.agg s.cells]++cap) h λr h'=>h'=h/\r=.bool (p s))(g:Heap):
  zE prog 423 [d,.fn (.func f) [] cap] g λr h'=>h'=g/\r=.int .i64 (UO p l):=by
 have o:=uf n;refine zu zLj ?_;simp only[f423,zA]
 repeat' first|simp only[go_sem, *]|apply bc<;>intro m
 refine zd (λi fr h=>fr 1=.fn (.func f) [] cap/\fr 0=d/\fr 6=d/\fr 7=.int .i64 (l.length:Int)/\fr 8=.int .i64 (i:Int)/\h=g/\∀j (b:j<l.length),j<i->p l[j]=false) l.length ow ?_ ?_ ?_
 ·simp only[go_sem,zT,zV,zI];exact λj b h0=>by omega
 ·rintro i fr h a e1 B ⟨u,t,v,w,x,rfl,b⟩;have q:=oO n a;have e:=z _ (zH a);simp only[yc,yE,Trm.cells]at e;simp only[Trm.cells]at q;cases k:p l[i]with
  |true=>
   have A:=jV a b k;rw[k]at e
   repeat' first|simp only[go_sem, *]|apply bc<;>intro m|refine zE.use (e _) ?_
  |false=>
   have y:=tB (p:=p) a b k;rw[k]at e
   repeat' first|simp only[go_sem, *]|apply bc<;>intro m|refine zE.use (e _) ?_
   exact y
 ·rintro fr h e1 ⟨u,t,v,w,x,rfl,b⟩;have A:=jW (p:=p) λj c=>b j c c;exact au
def Yx{l:List Trm}(b:yi 2 (wt l) d)(e:l.length<=1048576){p:Trm->Bool}(i:∀s∈l,∀h,zE prog f ([]++ [.agg s.cells]++cap) h λr h'=>h'=h/\r=.bool (p s))(g:Heap):
  zE prog 382 [d,.fn (.func f) [] cap] g λr h'=>h'=g/\r=.bool (l.any p):=by
 have a:=T8 b e i;have c:=gb (l:=l) (p:=p);refine zu zLa ?_;simp only[f382,zA]
 repeat' first|simp only[go_sem, *]|apply bc<;>intro j|refine zE.use (a _) ?_
def C9(x:Trm)(h:Heap)(id:Nat):yX prog 197 (.ptr id 0) (.agg [.str x.a,.str x.b]) (h.new id (.row [.str [],.str []]))=some (h.new id (.row [.str x.a,.str x.b])):=qK uq ow rfl rfl rfl
def mG:List Trm->List Trm->Int
 | [],[]=>0
 | [],_::_=> -1
 |_::_,[]=>1
 |x::xs,y::ys=>if(!(yk x y==0))=true then yk x y else mG xs ys
theorem RN:∀{a b:List Trm}{i:Nat}(f:i<a.length)(g:i<b.length),(∀j (h1:j<a.length)(d:j<b.length),j<i->yk a[j] b[j]=0)->yk a[i] b[i]≠0->mG a b=yk a[i] b[i]
 |x::xs,y::ys,0,_,_,_,h0=>by
  have c:yk x y≠0:=h0;simp[mG,c]
 |x::xs,y::ys,i+1,f,g,h,h0=>by
  have e:yk x y=0:=h 0 (by simp) (by simp) ow;have:=RN (a:=xs) (b:=ys) (i:=i) (by simpa using f) (by simpa using g) (λj h1 d h3=>h (j+1) (ny h1) (ny d) ow) (by simpa using h0);simp only[mG,e,oZ];simpa using this
theorem Y9:∀{a b:List Trm},(∀j (h1:j<a.length)(c:j<b.length),yk a[j] b[j]=0)->mG a b=if b.length<a.length then 1 else if a.length<b.length then -1 else 0
 | [],[],_=>rfl
 | [],y::ys,_=>by simp[mG]
 |x::xs,[],_=>by simp[mG]
 |x::xs,y::ys,d=>by
  have e:yk x y=0:=d 0 (by simp) (by simp);have:=Y9 (a:=xs) (b:=ys) (λj h1 c=>d (j+1) (ny h1) (ny c));simp only[mG,e,zm];simpa using this
def WW{a b:List Trm}(G:yi 2 (wt a) d)(H:yi 2 (wt b) x)(X:a.length<=1048576)(Y:b.length<=1048576)(g:Heap):
  zE prog 381 [d,x,.fn (.func 330) [] []] g λr h'=>h'=g/\r=.int .i64 (mG a b):=by
 refine xU kr λhh=> ?_;have I:∀k:Int,below g.next (.int .i64 k):=λk=>by simp[below,qO]
 have l:=λp q h=>dW p q h;simp only[Trm.cells]at l;have V:=uf G;have W:=uf H;have z:=Ext.refl g;obtain⟨R,s⟩:∃R,mG a b=R:=⟨_,rfl⟩;rw[s];refine zu zLZ ?_;simp only[f381,zA]
 repeat' first|simp only[go_sem, *]|apply bc<;>intro B
 refine zd (λk fr h=>fr 0=d/\fr 1=x/\fr 2=.fn (.func 330) [] []/\fr 11=d/\fr 12=.int .i64 (a.length:Int)/\fr 13=.int .i64 (k:Int)/\Ext g h/\k<=b.length/\∀j (h1:j<a.length)(f:j<b.length),j<k->yk a[j] b[j]=0) a.length ow ?_ ?_ ?_
 ·simp only[go_sem,zT,zV,zI];exact⟨z,yC _,λj h1 f m=>absurd m (yq _)⟩
 ·rintro k fr h o Q ew ⟨S,T,U,u,v,w,y,D,m⟩;have O:=oO G o;have F:=C9 a[k] h h.next;have e:=y.new y.1 (.row a[k].cells);simp only[Trm.cells]at O e;by_cases C:k<b.length
  ·have P:=oO H C;have t:decide ((k:Int)>=(b.length:Int))=false:=by simp only[wg];omega
   obtain⟨c,i⟩:∃c,h.new h.next (.row [.str a[k].a,.str a[k].b])=c:=⟨_,rfl⟩;rw[i]at F e;have N:=z8 h h.next (.row [.str a[k].a,.str a[k].b]);rw[i]at N;have L:=C9 b[k] c c.next;have A:=e.new e.1 (.row b[k].cells);simp only[Trm.cells]at P A;have n2:=z8 c c.next (.row [.str b[k].a,.str b[k].b]);have K:h.next<c.next:=by rw[<-i,za];omega
   have n3:(c.new c.next (.row [.str b[k].a,.str b[k].b])).at' h.next=some (.row [.str a[k].a,.str a[k].b]):=by rw[zi ow];exact N
   cases M:(yk a[k] b[k]==0)with
   |true=>
    have Z:∀j (h1:j<a.length)(f:j<b.length),j<k+1->yk a[j] b[j]=0:=λj h1 f h3=>by
     rcases z7.1 h3 with q|rfl
     ·exact m j h1 f q
     ·simpa using M
    have J:k+1<=b.length:=C
    repeat' first|simp only[go_sem, *]|apply bc<;>intro B|(refine zE.mono (l _ _ _) ?_;rintro r h ⟨E,rfl⟩)
    exact Z
   |false=>
    have n:=RN o C m (by simpa using M);rw[s]at n
    repeat' first|simp only[go_sem, *]|apply bc<;>intro B|(refine zE.mono (l _ _ _) ?_;rintro r h ⟨E,rfl⟩)
  ·have t:decide ((k:Int)>=(b.length:Int))=true:=by simp only[zO];omega
   have n:=Y9 (a:=a) (b:=b) (λj h1 f=>m j h1 f ow);rw[ip ow,s]at n;exact au
 ·rintro fr h Q ⟨S,T,U,u,v,w,y,D,m⟩;have n:=Y9 (a:=a) (b:=b) (λj h1 f=>m j h1 f h1);rw[iq ow,s]at n;cases t:decide ((a.length:Int)<(b.length:Int))with
  |true=>
   rw[ip (by have:=yK t;omega)]at n
   repeat' first|simp only[go_sem, *]|apply bc<;>intro B
  |false=>
   rw[iq (by have:=yO t;omega)]at n;exact au
def dS(a b:List Trm):Int:=orL [tC a.length b.length,mG a b]
def Tq{a b:List Trm}(f:yi 2 (wt a) d)(h:yi 2 (wt b) x)(c:a.length<=1048576)(e:b.length<=1048576)(g:Heap):
  zE prog 333 [d,x] g λr h'=>h'=g/\r=.int .i64 (dS a b):=by
 have k:=uf f;have m:=uf h;have h1:=Yr a.length b.length;have j:=WW f h c e;have h3:=zCR (l:=[tC a.length b.length,mG a b]) (yi.mk .full) (by simp);have hr:=λnid=>zLu (tC a.length b.length) (mG a b) nid;have i:orL [tC a.length b.length,mG a b]=dS a b:=rfl;rw[i]at h3;refine zu zLK ?_;simp only[f333,zA]
 repeat' first|simp only[go_sem, *]|apply bc<;>intro i|refine zE.use (h1 _) ?_|refine zE.use (j _) ?_|refine zE.use (h3 _) ?_
def zHd(l:List Trm)(n:Trm):Bool:=l.any λx:Trm=>n.a==x.a&&n.b==x.b
def Ba{l:List Trm}(e:yi 2 (wt l) d)(f:l.length<=1048576)(n:Trm)(g:Heap):
  zE prog 383 [.agg n.cells,.iptr [d] 0] g λr h'=>h'=g/\r=.bool (!(zHd l n)):=by
 have c:=Qy e f n;have h:(l.any λx:Trm=>n.a==x.a&&n.b==x.b)=zHd l n:=rfl;rw[h]at c;refine zu zLb ?_;simp only[f383,zA];simp only[Trm.cells]
 repeat' first|simp only[go_sem, *]|apply bc<;>intro c|refine zE.use (c _) ?_
def ct(a b:List Trm):Bool:= !(b.any λn=> !(zHd a n))
def UC{a b:List Trm}(j:yi 2 (wt a) d)(k:yi 2 (wt b) x)(e:a.length<=1048576)(i:b.length<=1048576)(g:Heap):
  zE prog 335 [d,x] g λr h'=>h'=g/\r=.bool (ct a b):=by
 have c:=Yx k i (f:=383) (cap:=[.iptr [d] 0]) λn _ h=>Ba j e n h;have l:(b.any λn=> !(zHd a n))= !(ct a b):=by simp[ct]
 rw[l]at c;refine zu zLM ?_;simp only[f335,zA];rcases j with⟨rfl,_⟩ | ⟨_,rfl⟩
 ·repeat' first|simp only[go_sem, *]|apply bc<;>intro c|refine zE.use (c _) ?_
 ·repeat' first|simp only[go_sem, *]|apply bc<;>intro c|refine zE.use (c _) ?_
structure QC{β:Type}(c:β->β->Int):Prop where
 anti:∀x y,c x y<0↔0<c y x
 trans:∀x y z,c x y<=0->c y z<=0->c x z<=0
def QC.refl{c:β->β->Int}(h:QC c)(x:β):c x x=0:=by
 have:=h.anti x x;omega
def QC.eq0{c:β->β->Int}(h:QC c){x y:β}(e:c x y=0):c y x=0:=by
 have h1:=h.anti x y;have a:=h.anti y x;omega
def QC.ltle{c:β->β->Int}(h:QC c){x y z:β}(h1:c x y<0)(d:c y z<=0):c x z<0:=by
 have a:=h.trans x y z ow d;rcases Int.lt_or_eq_of_le a with q|q
 ·exact q
 ·have b:=h.trans y z x d (by rw[h.eq0 q];exact jK _);have:=(h.anti x y).1 h1;omega
def QC.lelt{c:β->β->Int}(h:QC c){x y z:β}(h1:c x y<=0)(d:c y z<0):c x z<0:=by
 have a:=h.trans x y z h1 ow;rcases Int.lt_or_eq_of_le a with q|q
 ·exact q
 ·have b:=h.trans z x y (by rw[h.eq0 q];exact jK _) h1;have:=(h.anti y z).1 d;omega
def QC.key{β γ:Type}{c:β->β->Int}(h:QC c)(f:γ->β):QC λx y=>c (f x) (f y):=⟨λ_ _=>h.anti _ _,λ_ _ _=>h.trans _ _ _⟩
def N5(a b:Int):Int:=if a=0 then b else a
def QC.lex{c d:β->β->Int}(h:QC c)(k:QC d):QC λx y=>N5 (c x y) (d x y) where
 anti x y:=by
  have h1:=h.anti x y;have h2:=h.anti y x;have h3:=k.anti x y;simp only[N5];split<;>split<;>omega
 trans x y z h1 h2:=by
  simp only[N5]at *
  by_cases e1:c x y=0
  ·by_cases e2:c y z=0
   ·rw[ip e1]at h1;rw[ip e2]at h2;have e3:c x z=0:=by
     have a:=h.trans x y z ow ow;have b:=h.trans z y x (by rw[h.eq0 e2];omega) (by rw[h.eq0 e1];omega);have:=h.anti z x;have:=h.anti x z;omega
    rw[ip e3];exact k.trans x y z h1 h2
   ·rw[iq e2]at h2;have:=h.lelt (x:=x) (y:=y) (z:=z) ow ow;rw[iq ow];omega
  ·rw[iq e1]at h1;by_cases e2:c y z=0
   ·have:=h.ltle (x:=x) (y:=y) (z:=z) ow ow;rw[iq ow];omega
   ·rw[iq e2]at h2;have:=h.ltle (x:=x) (y:=y) (z:=z) ow ow;rw[iq ow];omega
def Zn{β:Type}(c:β->β->Int):List β->List β->Int
 | [],[]=>0
 | [],_::_=> -1
 |_::_,[]=>1
 |x::xs,y::ys=>N5 (c x y) (Zn c xs ys)
theorem Rt{c:β->β->Int}(h:QC c):∀x y,Zn c x y<0↔0<Zn c y x
 | [],[]=>by simp[Zn]
 | [],_::_=>by simp[Zn]
 |_::_,[]=>by simp[Zn]
 |a::x,b::y=>by
  have h1:=h.anti a b;have d:=h.anti b a;have h3:=Rt h x y;simp only[Zn,N5];split<;>split<;>omega
theorem VE{c:β->β->Int}(h:QC c):∀x y z,Zn c x y<=0->Zn c y z<=0->Zn c x z<=0
 | [],_,[],_,_=>by simp[Zn]
 | [],_,_::_,_,_=>by simp[Zn]
 |_::_,[],_,h1,_=>by simp[Zn]at h1
 |_::_,_::_,[],_,e=>by simp[Zn]at e
 |a::x,b::y,d::z,h1,e=>by
  have f:=VE h x y z;simp only[Zn,N5]at *
  by_cases e1:c a b=0
  ·by_cases e2:c b d=0
   ·rw[ip e1]at h1;rw[ip e2]at e;have e3:c a d=0:=by
     have p:=h.trans a b d ow ow;have q:=h.trans d b a (by rw[h.eq0 e2];omega) (by rw[h.eq0 e1];omega);have:=h.anti d a;have:=h.anti a d;omega
    rw[ip e3];exact f h1 e
   ·rw[iq e2]at e;have:=h.lelt (x:=a) (y:=b) (z:=d) ow ow;rw[iq ow];omega
  ·rw[iq e1]at h1;by_cases e2:c b d=0
   ·have:=h.ltle (x:=a) (y:=b) (z:=d) ow ow;rw[iq ow];omega
   ·rw[iq e2]at e;have:=h.ltle (x:=a) (y:=b) (z:=d) ow ow;rw[iq ow];omega
def QC.list{c:β->β->Int}(h:QC c):QC (Zn c):=⟨Rt h,VE h⟩
theorem UY{c:β->β->Int}(h:∀x y,c x y=0->x=y):∀x y,Zn c x y=0->x=y
 | [],[],_=>rfl
 | [],_::_,e=>by simp[Zn]at e
 |_::_,[],e=>by simp[Zn]at e
 |a::x,b::y,e=>by
  simp only[Zn,N5]at e;split at e
  ·rename_i q;rw[h _ _ q,UY h x y e]
  ·exact absurd e (by assumption)
section
variable{β:Type}{c:β->β->Int}
def srt(c:β->β->Int)(l:List β):List β:=l.mergeSort λa b=> !(decide (c b a<0))
def sH(l:List β):(srt c l).Perm l:=List.mergeSort_perm _ _
def ZN{l:List β}{x:β} :x∈srt c l↔x∈l:=(sH l).mem_iff
def ZO(h:QC c)(l:List β):(srt c l).Pairwise λa b=>¬c b a<0:=by
 have:=List.pairwise_mergeSort (le:=λa b=> !(decide (c b a<0))) (λx y z h1 i=>by
  simp only[qM,wg]at *
  have e:=h.anti y x;have f:=h.anti z y;have g:=h.anti z x;have:=h.trans x y z ow ow;omega) (λx y=>by
  have:=h.anti x y;simp only[qB,qM,wg];omega) l
 exact this.imp λd=>by simpa using d
theorem bu(h:QC c)(i:∀x y,c x y=0->x=y):∀{l m:List β},l.Perm m->l.Pairwise (λa b=>¬c b a<0)->m.Pairwise (λa b=>¬c b a<0)->l=m
 | [],m,d,_,_=>(cr.1 d).symm
 |x::l,[],d,_,_=>by cases List.perm_nil.1 d
 |x::l,y::m,d,h1,g=>by
  have j:x∈y::m:=d.mem_iff.1 (by simp);have k:y∈x::l:=d.mem_iff.2 (by simp);have e:x=y:=by
   rcases zw.1 j with q|q
   ·exact q
   ·rcases zw.1 k with f|f
    ·exact f.symm
    ·have n:=(t8.1 h1).1 y f;have o:=(t8.1 g).1 x q;have p:=h.anti x y;exact i _ _ (by have:=h.anti y x;omega)
  subst e;rw[bu h i (List.perm_cons x |>.1 d) (t8.1 h1).2 (t8.1 g).2]
def Md(h:QC c)(d:∀x y,c x y=0->x=y){l m:List β}(e:m.Perm l)(f:m.Pairwise λa b=>¬c b a<0):m=srt c l:=bu h d (e.trans (sH l).symm) f (ZO h l)
def Iw(h:QC c)(a:∀x y,c x y=0->x=y){l m:List β}(b:m.Perm l):srt c m=srt c l:=Md h a ((sH m).trans b) (ZO h m)
def tD(c:β->β->Int)(l:List β):Nat->List β
 |0=>[]
 |n+1=>match l[n]? with
  |none=>tD c l n
  |some x=>match n with
   |0=>[x]
   |k+1=>match l[k]? with
    |none=>tD c l (k+1)
    |some y=>if(c x y==0)=true then tD c l (k+1)else tD c l (k+1)++ [x]
def cpt(c:β->β->Int)(l:List β):List β:=tD c l l.length
def fh{l:List β}(h:0<l.length):tD c l 1= [l[0]]:=by simp[tD,h]
def oQ{l:List β}(h:k+1<l.length):tD c l (k+2)=if(c l[k+1] l[k]==0)=true then tD c l (k+1)else tD c l (k+1)++ [l[k+1]]:=by
 have h1:l[k+1]? =some l[k+1]:=zB h;have a:l[k]? =some l[k]:=zB ow;rw[tD];simp only[h1,a]
def PD{l:List β}{x y:β}(h1:l[k+1]? =some x)(a:l[k]? =some y):tD c l (k+2)=if(c x y==0)=true then tD c l (k+1)else tD c l (k+1)++ [x]:=by
 rw[tD];simp only[h1,a]
theorem lv{l:List β} :∀n,(tD c l n).length<=n
 |0=>zD _
 |1=>by
  rw[tD];split
  ·simp[tD]
  ·simp
 |k+2=>by
  have a:=lv (l:=l) (k+1);rw[tD];split
  ·omega
  ·simp only;split
   ·omega
   ·split
    ·omega
    ·rw[zR];simp only[zm,yo];omega
theorem UK{l:List β}(h:0<l.length):∀n,n<=l.length->0<n->0<(tD c l n).length
 |1,_,_=>by rw[fh h];simp
 |k+2,a,_=>by
  rw[oQ ow];have:=UK h (k+1) ow ow;split
  ·exact this
  ·rw[zR];omega
theorem bH{l:List β} :∀n,∀x∈tD c l n,x∈l
 |0,x,h=>by cases h
 |n+1,x,h=>by
  rw[tD]at h;split at h
  ·exact bH n x h
  ·rename_i y e1;split at h
   ·cases ze.1 h;exact zg e1
   ·split at h
    ·exact bH _ x h
    ·split at h
     ·exact bH _ x h
     ·rcases yp.1 h with h|h
      ·exact bH _ x h
      ·cases ze.1 h;exact zg e1
theorem UJ(a:∀x y,c x y=0->x=y){l:List β} :∀n,n<=l.length->∀x,x∈l.take n->x∈tD c l n
 |0,_,x,h=>by simp at h
 |1,b,x,h=>by rw[fh ow];rw[jN]at h;simp[tj,show 0<l.length by omega]at h;simp[h]
 |k+2,b,x,h=>by
  rw[oQ ow];rw[zQ ow]at h;rcases yp.1 h with h|h
  ·have:=UJ a (k+1) ow x h;split
   ·exact this
   ·exact tK _ this
  ·cases ze.1 h;split
   ·rename_i q;have d:c l[k+1] l[k]=0:=by simpa using q
    rw[a _ _ d];exact UJ a (k+1) ow _ (List.mem_take_iff_getElem.2 ⟨k,by omega,rfl⟩)
   ·simp
def JV(a:∀x y,c x y=0->x=y){l:List β}{x:β} :x∈cpt c l↔x∈l:=
 ⟨bH _ _,λh=>UJ a _ (zD _) x (by rw[z6];exact h)⟩
theorem Nl(h:QC c){l:List β}(m:l.Pairwise λa b=>¬c b a<0):∀n,n<=l.length->(tD c l n).Pairwise (λa b=>c a b<0)/\(∀x∈tD c l n,∀k (s:k<n)(g:k<l.length),k+1=n->c x l[k]<=0)
 |0,_=>⟨List.Pairwise.nil,λx h=>by cases h⟩
 |1,u=>by
  rw[fh ow];refine⟨jM _ _,λx d k s g e=> ?_⟩;cases ze.1 d
  have:k=0:=ow;subst this;rw[h.refl];exact jK _
 |k+2,u=>by
  obtain⟨o,w⟩:=Nl h m (k+1) ow;have i:=λx d=>w x d k ow ow rfl;have t:¬c l[k+1] l[k]<0:=uy.1 m k (k+1) ow ow ow;have z:=h.anti l[k] l[k+1];have A:=h.anti l[k+1] l[k];rw[oQ ow];split
  ·rename_i q;have p:c l[k+1] l[k]=0:=by simpa using q
   refine⟨o,λx d j r g e=> ?_⟩
   have:j=k+1:=ow;subst this;exact h.trans _ _ _ (i x d) (by rw[h.eq0 p];exact jK _)
  ·rename_i q;have p:c l[k+1] l[k]≠0:=by simpa using q
   have f:c l[k] l[k+1]<0:=ow;refine⟨List.pairwise_append.2 ⟨o,jM _ _,λx d y v=> ?_⟩,λx d j r g e=> ?_⟩
   ·cases ze.1 v;exact h.lelt (i x d) f
   ·have:j=k+1:=ow;subst this;rcases yp.1 d with d|d
    ·exact Int.le_of_lt (h.lelt (i x d) f)
    ·cases ze.1 d;rw[h.refl];exact jK _
def AK(h:QC c){l:List β}(d:l.Pairwise λa b=>¬c b a<0):(cpt c l).Pairwise λa b=>c a b<0:=(Nl h d _ (zD _)).1
end
def pn(l:List Trm):∀x∈wt l,x.length=2:=λx a=>by
 obtain⟨y,_,rfl⟩:=zM.1 a;rfl
def Ni(a b:List UInt8):(dH a b==0)=(a==b):=by
 unfold dH;split
 ·rename_i h
  have:a≠b:=λe=>by subst e;rw[Ue,zO]at h;exact absurd h (dR _)
  simp[this]
 ·split
  ·rename_i h;simp[h]
  ·rename_i h;simp[h]
def fe(x y:Trm):(yk x y==0)=(x.a==y.a&&x.b==y.b):=by
 unfold yk orL;have h1:=Ni x.a y.a;have c:=Ni x.b y.b;split
 ·rename_i h;rw[h]at h1;rw[<-h1,<-c];simp only[orL];split
  ·rename_i q;rw[q];rfl
  ·simp
 ·rename_i h;rw[<-h1];simp[h]
def Gl(l m:List Trm):(wt (l++m)).flatten=(wt l).flatten++(wt m).flatten:=by simp[wt]
theorem LD{l:List Trm}(h0:l≠[])(hl:l.length<=1048576)(L:g.at' id=some (.row (wt l).flatten)):
  zE prog 331 [.rs id 2 0 l.length] g λr h'=>r=.rs id 2 0 (cpt yk l).length/\∃rest,h'=g.set id (.row ((wt (cpt yk l)).flatten++rest)):=by
 have a9:=λ(h:Heap)=>nM (P:=prog) (t:=195) (sz:=2) (id:=id) (off:=0) (len:=l.length) (h:=h) underlying195;have A:0<l.length:=yA.2 h0;have a5:∀x:Trm,([.str x.a,.str x.b]:List D).all D.flat=true:=λx=>rfl;have f:∀n,n<=l.length->(∀i (h:i+1<l.length),i+1<n->(yk l[i+1] l[i]==0)=false)->tD yk l n=l.take n:=λn hn hh=>by
  induction n with
  |zero=>rfl
  |succ n ih=>
   cases n with
   |zero=>rw[fh A,jN];simp[tj,A]
   |succ k=>
    rw[oQ ow,iq (by rw[hh k ow ow];exact zZ),ih ow λi h1 N=>hh i h1 ow];exact(zQ ow).symm
 refine xP λQ W=> ?_;have d:(∀i (h:i+1<l.length),i+1<l.length->(yk l[i+1] l[i]==0)=false)->Q (.rs id 2 0 l.length) g:=λhh=>W _ _ (by
  have e:cpt yk l=l:=by
   have:=f l.length (zD _) hh;rw[z6]at this;exact this
  rw[e];exact⟨rfl,[],by rw[yL,sR L]⟩)
 refine zu zLJ ?_;simp only[f331,zA];cases q1:decide ((l.length:Int)<2)with
 |true=>
  have hd:=d λi h1 N=>by have:=yK q1;omega
  clear d W;simp only[go_sem, *]
 |false=>
 simp only[go_sem, *];refine qx (λi fr h=>fr 0=.rs id 2 0 l.length/\fr 3=.int .i64 ((i+1:Nat):Int)/\h=g/\i+1<=l.length/\∀j (h:j+1<l.length),j+1<i+1->(yk l[j+1] l[j]==0)=false) l.length ?_ ?_
 ·simp only[go_sem,zT,zV,zI];exact⟨rfl,A,λj h1 N=>by omega⟩
 rintro i fr h hi ⟨f0,f3,rfl,ad,U⟩;by_cases I:i+1<l.length
 ·have e1:decide (((i+1:Nat):Int)<(l.length:Int))=true:=zS ow;have ew:IntKind.i64.wrap (((i+1:Nat):Int)+1)=((i+2:Nat):Int):=qR (by unfold lim;omega);have V:IntKind.i64.wrap (((i+1:Nat):Int)-1)=((i:Nat):Int):=by rw[qU ow ow];omega
  have a1:=qj (P:=prog) (sz:=2) (id:=id) uF uq (k:=.i64) I;have a2:=qj (P:=prog) (sz:=2) (id:=id) uF uq (k:=.i64) (show i<l.length by omega);have p1:=nN (pn l) ow (Ye I);have p2:=nN (pn l) ow (Ye (show i<l.length by omega));have T:=QP l[i+1] l[i];have w:=fe l[i+1] l[i];rw[<-w]at T;clear w;simp only[Trm.cells]at p1 p2;cases v:(yk l[i+1] l[i]==0)with
  |false=>
   rw[v]at T;have hn:∀j (h:j+1<l.length),j+1<i+2->(yk l[j+1] l[j]==0)=false:=λj h1 N=>by
    by_cases e:j=i
    ·subst e;exact v
    ·exact U j h1 ow
   clear U d f q1 h0 v;simp only[go_sem, *];refine yI kr ?_;simp only[go_sem, *];exact⟨by omega,I,hn⟩
  |true=>
   rw[v]at T;have G:tD yk l (i+2)=l.take (i+1):=by
    rw[oQ I,ip v,f (i+1) ow λj h1 N=>U j h1 N]
   have a0:=p8 (P:=prog) (t:=195) (sz:=2) (id:=id) (h:=h) cy uF uq (k:=.i64) ad;clear U d f q1 h0 v;simp only[go_sem, *];refine yI kr ?_;simp only[go_sem, *];refine qx (λm fr h'=>fr 0=.rs id 2 0 l.length/\fr 4=.rs id 2 ((i+1)*2) (l.length- (i+1))/\fr 5=.int .i64 ((m+1:Nat):Int)/\i+1+(m+1)<=l.length/\∃ys:List Trm,ys.length=l.length/\h'=h.set id (.row (wt ys).flatten)/\
    (tD yk l (i+2+m)).length<=i+1+m/\fr 3=.int .i64 (((tD yk l (i+2+m)).length:Nat):Int)/\ys.take (tD yk l (i+2+m)).length=tD yk l (i+2+m)/\ys.drop (i+1+m)=l.drop (i+1+m)) l.length ?_ ?_
   ·have E:(tD yk l (i+2)).length=i+1:=by rw[G,yR];omega
    have F:tD yk l (i+2+0)=tD yk l (i+2):=rfl;have B:i+1+(0+1)<=l.length/\∃ys:List Trm,ys.length=l.length/\h=h.set id (.row (wt ys).flatten)/\
     (tD yk l (i+2+0)).length<=i+1+0/\D.int .i64 ((i+1:Nat):Int)=.int .i64 (((tD yk l (i+2+0)).length:Nat):Int)/\ys.take (tD yk l (i+2+0)).length=tD yk l (i+2+0)/\ys.drop (i+1+0)=l.drop (i+1+0):=
     ⟨by omega,l,rfl,(sR L).symm,by rw[F,E];omega,by rw[F,E],by rw[F,E,G],rfl⟩
    clear E F G;simp only[go_sem,zT,zV,zI];obtain⟨r0,ys,r1,r2,r3,r4,r5,r6⟩:=B;exact⟨f0,rfl,r0,ys,r1,r2,r3,f3.trans r4,r5,r6⟩
   clear G a0 T p1 p2 a1 a2 f0 f3 e1 ew V;rintro m bb N hm ⟨f0,f4,f5,bk,ys,J,rfl,S,f3,q,p⟩;have C:(h.set id (.row (wt ys).flatten)).at' id=some (.row (wt ys).flatten):=zW _ _ _;have a6:=λ(H:Heap)=>nM (P:=prog) (t:=195) (sz:=2) (id:=id) (off:=(i+1)*2) (len:=l.length- (i+1)) (h:=H) underlying195;by_cases ag:m+1<l.length- (i+1)
   ·have e1:decide (((m+1:Nat):Int)<((l.length- (i+1):Nat):Int))=true:=zS ow;have ew:IntKind.i64.wrap (((m+1:Nat):Int)+1)=((m+2:Nat):Int):=qR (by unfold lim;omega);have V:IntKind.i64.wrap (((m+1:Nat):Int)-1)=((m:Nat):Int):=by rw[qU ow ow];omega
    have a1:=rJ (P:=prog) (sz:=2) (id:=id) (off:=(i+1)*2) uF uq (k:=.i64) ag;have a2:=rJ (P:=prog) (sz:=2) (id:=id) (off:=(i+1)*2) uF uq (k:=.i64) (show m<l.length- (i+1) by omega);obtain⟨x,hx⟩:∃x,l[i+1+m+1]? =some x:=⟨_,zB ow⟩;obtain⟨y,hy⟩:∃y,l[i+1+m]? =some y:=⟨_,zB ow⟩;have g1:ys[i+1+(m+1)]? =some x:=by
     have:=congrArg (λz=>z[1]?) p;simp only[qX]at this;rw[show i+1+(m+1)=i+1+m+1 by omega,this,hx]
    have g2:ys[i+1+m]? =some y:=by
     have:=congrArg (λz=>z[0]?) p;simp only[qX,uB]at this;rw[this,hy]
    have cg:∀(k:Nat)(x:Trm),ys[k]? =some x->(wt ys)[k]? =some x.cells:=λk x e=>by simp[wt,e]
    have p1:=jz (pn ys) ow (cg _ _ g1);have p2:=jz (pn ys) ow (cg _ _ g2);have o:tD yk l (i+2+(m+1))=if(yk x y==0)=true then tD yk l (i+2+m)else tD yk l (i+2+m)++ [x]:=by
     have:=PD (c:=yk) hx hy;rw[show i+2+(m+1)=i+1+m+2 by omega,this,show i+2+m=i+1+m+1 by omega]
    have u:∀zs:List Trm,zs.drop (i+1+m)=l.drop (i+1+m)->zs.drop (i+1+(m+1))=l.drop (i+1+(m+1)):=λzs e=>by
     have:=congrArg (List.drop 1) e;simpa [uN,wA]using this
    generalize hR:tD yk l (i+2+m)=R at *
    have T:=QP x y;have w:=fe x y;rw[<-w]at T;have ak:∀c,jI prog .neq 197 c (.agg [.str x.a,.str x.b]) (.agg [.str y.a,.str y.b])=some (.bool (!(yk x y==0))):=λc=>by
     have he:eqT prog 197=some [.s,.s]:=kr;rw[w];simp only[jI,he,KA,eqK,wB,rx,oe]
    clear w T;simp only[Trm.cells]at p1 p2;cases v:(yk x y==0)with
    |true=>
     rw[v]at ak;rw[ip v]at o;have B:m<l.length/\i+1+(m+1+1)<=l.length/\∃zs:List Trm,zs.length=l.length/\h.set id (.row (wt ys).flatten)=h.set id (.row (wt zs).flatten)/\
      (tD yk l (i+2+(m+1))).length<=i+1+(m+1)/\D.int .i64 ((R.length:Nat):Int)=.int .i64 (((tD yk l (i+2+(m+1))).length:Nat):Int)/\zs.take (tD yk l (i+2+(m+1))).length=tD yk l (i+2+(m+1))/\zs.drop (i+1+(m+1))=l.drop (i+1+(m+1)):=
      ⟨by omega,by omega,ys,J,rfl,by rw[o];omega,by rw[o],by rw[o];exact q,u _ p⟩
     clear q p u o g1 g2 cg hx hy hR S v;simp only[go_sem, *];refine yI kr ?_;simp only[go_sem, *]
    |false=>
     rw[v]at ak;rw[iq (by rw[v];exact zZ)]at o;have X:R.length<l.length:=ow;have a3:=qj (P:=prog) (sz:=2) (id:=id) uF uq (k:=.i64) X;have a7:=cZ (P:=prog) (t:=197) C (pn ys) ow uq (i:=R.length) (by rw[wl,J];exact X) (x:=[.str x.a,.str x.b]) rfl rfl;have M:(wt ys).set R.length [.str x.a,.str x.b]=wt (ys.set R.length x):=by
      have:([.str x.a,.str x.b]:List D)=x.cells:=rfl;rw[this,wt,wt,tR]
     rw[M,kM]at a7;have ba:IntKind.i64.wrap (((R.length:Nat):Int)+1)=((R.length+1:Nat):Int):=qR (by unfold lim;omega);have B:m<l.length/\i+1+(m+1+1)<=l.length/\∃zs:List Trm,zs.length=l.length/\h.set id (.row (wt (ys.set R.length x)).flatten)=h.set id (.row (wt zs).flatten)/\
      (tD yk l (i+2+(m+1))).length<=i+1+(m+1)/\D.int .i64 ((R.length+1:Nat):Int)=.int .i64 (((tD yk l (i+2+(m+1))).length:Nat):Int)/\zs.take (tD yk l (i+2+(m+1))).length=tD yk l (i+2+(m+1))/\zs.drop (i+1+(m+1))=l.drop (i+1+(m+1)):=by
      have O:(R++ [x]).length=R.length+1:=by simp
      refine⟨by omega,by omega,ys.set R.length x,by simpa using J,rfl,by rw[o,O];omega,by rw[o,O],?_,?_⟩
      ·rw[o,O,zQ (by rw[uQ];omega),nS,mg (zD _),q]
      ·rw[mc ow];exact u _ p
     clear q p u o g1 g2 cg hx hy hR S v M;simp only[go_sem, *];refine yI kr ?_;exact au
   ·have e1:decide (((m+1:Nat):Int)<((l.length- (i+1):Nat):Int))=false:=zP ow;have ai:i+2+m=l.length:=ow;have Y:tD yk l (i+2+m)=cpt yk l:=by rw[ai];rfl
    rw[Y]at q f3 S;have K:(cpt yk l).length<=l.length:=lv _;have a0:=λ(H:Heap)=>p8 (P:=prog) (t:=195) (sz:=2) (id:=id) (h:=H) cy uF uq (k:=.i64) K;have bo:=λ(H:Heap)=>np (P:=prog) (t:=195) (h:=H) cy uF (id:=id) (sz:=2) uq (k:=.i64) K;obtain⟨rest,Z⟩:=WJ (P:=prog) (sz:=2) (t:=195) uF sW rfl rfl C (pn ys) (n:=(cpt yk l).length) (by rw[wl];omega);have a4:(wt ys).take (cpt yk l).length=wt (cpt yk l):=by rw[wt,<-jL,q];rfl
    rw[a4,kM,wl,J]at Z;have a8:=W (.rs id 2 0 (cpt yk l).length) (h.set id (.row ((wt (cpt yk l)).flatten++rest))) ⟨rfl,rest,rfl⟩;clear q p ai Y a4 W;exact au
 ·have e1:decide (((i+1:Nat):Int)<(l.length:Int))=false:=zP ow;have hd:=d λj h1 N=>U j h1 ow;clear U d f q1 h0 W;exact au
def H0(l:List Trm)(n:Nat):below n (.sl 2 (wt l) .no):=qF (yC _) _ (yj (sz:=2) (xs:=wt l) (λx a=>by
 obtain⟨y,_,rfl⟩:=zM.1 a;exact⟨rfl,by simp[Trm.cells,qO,below],rfl⟩) .no).2
def XN{cs rest:List D}(a:∀x∈xs,x.length=sz)(c:xs.length=n)(b:cs=xs.flatten++rest):frz id cs (.rs id sz 0 n)=.sl sz xs .no:=by
 subst b c;simp only[frz];rw[ip ⟨trivial,by rw[zR,tE a];omega⟩,wb,wQ (by rw[tE a];omega),yV (by rw[tE a];omega),o6 a]
def PG(h:Heap)(i:Nat)(o:Obj):(h.set i o).del i=h.del i:=by
 unfold Heap.set Heap.del;simp only[Heap.mk.injEq,zT]
 funext j
 by_cases e:j=i<;>simp[e]
def Qu{l:List Trm}(h0:l≠[])(b:l.length<=1048576)(a:g.at' id=some (.row (wt l).flatten)):
  zE prog 331 [.rs id 2 0 l.length] g λr h'=>h'=g.del id/\r=.sl 2 (wt (cpt yk l)) .no:=
 zE.freezeD ((LD h0 b a).mono (by
  rintro r h' ⟨rfl,rest,rfl⟩;exact⟨id,_,zW _ _ _,by rw[PG],XN (pn _) (wl _) rfl⟩))
def Ks{l:List Trm}(c:yi 2 (wt l) d)(h0:l≠[])(i:l.length<=1048576)(h:Heap):
  zE prog 153 [d] h λr h'=>r=.rs h.next 2 0 l.length/\h'=h.new h.next (.row (wt l).flatten):=by
 rcases c with⟨rfl,f⟩ | ⟨tk,rfl⟩
 ·exact absurd (wv.1 f) h0
 have b:0<l.length:=yA.2 h0;have e:jI prog .eql 195 true (.sl 2 (wt l) tk) .nilsl=some (.bool false):=by rw[tI (yi.mk tk) underlying195];rfl
 have g:=λnid h=>wc (P:=prog) (nid:=nid) (h:=h) uF sW uq rfl rfl (by omega:0<2);have a:qg prog true h.next 195 (.sl 2 [] .full) (.sl 2 (wt l) tk) h=some (.rs h.next 2 0 l.length,h.new h.next (.row (wt l).flatten)):=by
  rw[oX uF Yg uq ow (pn l) (by rw[kY,wl];unfold lim;omega) (by rw[wl];unfold lim;omega),wl,iq ow,pH underlying197]
 refine zu zFG ?_;simp only[f153,zA];simp only[tu,go_sem,e,g,a]
def IY:QC dH where
 anti x y:=by
  unfold dH;rw[Ue,Ue];rcases Std.lt_trichotomy x y with h|h|h
  ·have:=List.lt_asymm h;have n:¬x=y:=λe=>by subst e;exact this h
   simp[h,this,n,jO n]
  ·subst h;simp[dR]
  ·have:=List.lt_asymm h;have n:¬x=y:=λe=>by subst e;exact this h
   simp[h,this,n,jO n]
 trans x y z h1 h2:=by
  unfold dH at *
  rw[Ue]at *
  have le1:x<y\/x=y:=by
   split at h1
   ·rename_i q;exact .inl (by simpa using q)
   ·split at h1
    ·rename_i q;exact .inr (by simpa using q)
    ·omega
  have le2:y<z\/y=z:=by
   split at h2
   ·rename_i q;exact .inl (by simpa using q)
   ·split at h2
    ·rename_i q;exact .inr (by simpa using q)
    ·omega
  have le3:x<z\/x=z:=by
   rcases le1 with a|rfl
   ·rcases le2 with b|rfl
    ·exact .inl (List.lt_trans a b)
    ·exact .inl a
   ·exact le2
  rcases le3 with a|rfl
  ·simp[a]
  ·simp[dR]
def ka(x y:Trm):yk x y=N5 (dH x.a y.a) (dH x.b y.b):=by
 unfold yk N5;simp only[orL];split
 ·split
  ·rename_i q;exact q.symm
  ·rfl
 ·rfl
def gx:QC yk:=by
 have:=(IY.key Trm.a).lex (IY.key Trm.b);exact⟨λx y=>by rw[ka,ka];exact this.anti x y,λx y z=>by rw[ka,ka,ka];exact this.trans x y z⟩
def bG(x y:Trm)(h:yk x y=0):x=y:=by
 have:=fe x y;rw[h]at this
 have:(x.a==y.a&&x.b==y.b)=true:=this.symm;cases x;cases y;simp only[zF,qN]at this;obtain⟨rfl,rfl⟩:=this;rfl
end Go.V
