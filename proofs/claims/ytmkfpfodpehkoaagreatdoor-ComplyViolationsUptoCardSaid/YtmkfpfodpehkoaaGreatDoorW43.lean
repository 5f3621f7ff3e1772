/- A machine of abstract values for programs of the model, further rules, part 4. No condition. -/
import Derived.Test.YtmkfpfodpehkoaaGreatDoorW42
set_option linter.all false
set_option maxHeartbeats 8000000
namespace Go.V
def ZLp(id:Nat)(L:LRec)(V:(Nat->Prop)->Heap->Prop)(S:Nat->Prop)(h:Heap):Prop:=
 id<h.next/\h.at' id=some (.loop { L with st:=.done,pending:=some .ret })/\∃S0,V S0 h/\¬S0 id/\∀i,S i↔(i=id\/S0 i)
def LpZ(id:Nat)(L:LRec)(W:Nat->(Nat->Prop)->Heap->Prop)(V:(Nat->Prop)->Heap->Prop)(k:Nat)(S0:Nat->Prop)(h:Heap)(r:D)(h':Heap):Prop:=
 ∃S',(∀i,S' i->S0 i\/h.next<=i)/\But (λi=>i=id\/S0 i) h h'/\((r=.bool true/\h'.at' id=some (.loop L)/\W (k+1) S' h')\/(r=.bool false/\h'.at' id=some (.loop { L with st:=.done,pending:=some .ret })/\V S' h'))
section
variable{P:Program}{W:Nat->(Nat->Prop)->Heap->Prop}{V:(Nat->Prop)->Heap->Prop}{id n:Nat}{L:LRec}{el:Nat->List D}
def YLp.yldZ(v:Lcl W)(u:Lcl λ_=>V)(go:∀k S0 h3,k<n->id<h3.next->h3.at' id=some (.loop L)->W k S0 h3->¬S0 id->uN P id (el k) h3 (LpZ id L W V k S0 h3)):Yld P id n el (YLp id L W) (ZLp id L V):=by
 refine⟨λk S h y i b=> ?_,λk S h h' y l f=> ?_,λS h y i b=> ?_,λS h h' y l f=> ?_,λk S h f y=> ?_⟩
 ·obtain⟨c,_,S0,d,_,a⟩:=y;rcases(a i).1 b with rfl|s
  ·exact c
  ·exact v.here _ _ _ d i s
 ·obtain⟨c,j,S0,d,g,a⟩:=y;exact⟨by omega,by rw[f id ((a id).2 (.inl rfl))];exact j,S0,v.loc _ _ _ _ d l λi b=>f i ((a i).2 (.inr b)),g,a⟩
 ·obtain⟨c,_,S0,d,_,a⟩:=y;rcases(a i).1 b with rfl|s
  ·exact c
  ·exact u.here 0 _ _ d i s
 ·obtain⟨c,j,S0,d,g,a⟩:=y;exact⟨by omega,by rw[f id ((a id).2 (.inl rfl))];exact j,S0,u.loc 0 _ _ _ d l λi b=>f i ((a i).2 (.inr b)),g,a⟩
 ·obtain⟨c,j,S0,d,g,a⟩:=y;refine(go k S0 h f c j d g).mono ?_;rintro r h' ⟨S',t,b2,w⟩;have m:¬S' id:=λe=>by
   rcases t _ e with q|q
   ·exact g q
   ·omega
  refine⟨λi=>i=id\/S' i,λi b=> ?_,⟨b2.1,λi b l=>b2.2 i b λe=>l ((a i).2 e)⟩,?_⟩
  ·rcases b with rfl|b
   ·exact .inl ((a _).2 (.inl rfl))
   ·exact(t i b).imp (λq=>(a i).2 (.inr q)) λq=>q
  ·rcases w with⟨rfl,o,p⟩ | ⟨rfl,o,p⟩
   ·exact .inl ⟨rfl,zy c b2.1,o,S',p,m,λi=>Iff.rfl⟩
   ·exact .inr ⟨rfl,zy c b2.1,o,S',p,m,λi=>Iff.rfl⟩
variable{S0 S':Nat->Prop}{k:Nat}{fr:Frm}
def Lp.finZ(f:Lcl W){B:LRec}(b:({ B with st:=.ready,pending:=none } :LRec)=L){h3 a:Heap}(d:id<h3.next)(j:¬S0 id)(hid:a.at' id=some (.loop B))(c:∀i,S' i->S0 i\/h3.next<=i)(g:But (λi=>i=id\/S0 i) h3 a)(l:W (k+1) S' a) :
  rq (LpZ id L W V k S0 h3) id .normal fr a:=by
 refine sV hid ⟨S',c,g.set (.inl (.inl rfl)) _,.inl ⟨rfl,by rw[zi,b],f.loc _ _ _ _ l (zD _) λi h=>zx λe=> ?_⟩⟩;subst e;rcases c _ h with q|q
 ·exact j q
 ·omega
def Lp.retZ(f:Lcl λ_=>V){B:LRec}(b:({ B with st:=.ready,pending:=none } :LRec)=L){h3 a:Heap}(d:id<h3.next)(j:¬S0 id)(hid:a.at' id=some (.loop B))(c:∀i,S' i->S0 i\/h3.next<=i)(g:But (λi=>i=id\/S0 i) h3 a)(l:V S' a) :
  rq (LpZ id L W V k S0 h3) id .ret fr a:=by
 refine aR hid ⟨S',c,g.set (.inl (.inl rfl)) _,.inr ⟨rfl,by rw[zi,<-b],f.loc 0 _ _ _ l (zD _) λi h=>zx λe=> ?_⟩⟩;subst e;rcases c _ h with q|q
 ·exact j q
 ·omega
variable{f:FuncId}{args:List D}{h:Heap}{S:Nat->Prop}
def K2{a:Nat}(y:h.next=a){Q:Exit->Frm->Heap->Prop}(o:Lcl W)(C:Lcl λ_=>V)(B:L.st=.ready)(A:L.pending=none)(x:W 0 S h)
  (s:Yld P a n el (YLp a L W) (ZLp a L V)->YLp a L W 0 (λi=>i=a\/S i) (h.new a (.loop L))->zB P f args (h.new a (.loop L)) λ_ h'=>∃S',(∀j,S' j->(j=a\/S j)\/(h.new a (.loop L)).next<=j)/\But (λi=>i=a\/S i) (h.new a (.loop L)) h'/\(YLp a L W n S' h'\/ZLp a L V S' h'))
  (go:∀k S0 h3,k<n->a<h3.next->h3.at' a=some (.loop L)->W k S0 h3->¬S0 a->uN P a (el k) h3 (LpZ a L W V k S0 h3))
  (v:∀S' b,(∀j,S' j->S j\/a<=j)->But S h b->W n S' b->Q .normal fr b)
  (m:∀S' b,(∀j,S' j->S j\/a<=j)->But S h b->V S' b->Q .ret fr b):
  zB P f args (h.new a (.loop L)) λ_ h'=>∃r,h'.at' a=some (.loop r)/\r.st≠ .busy/\UI r.pending Q fr (h'.del a):=by
 subst y;have F:(h.new h.next (.loop L)).next=h.next+1:=yA _ _;have w:¬S h.next:=λe=>uB _ (o.here _ _ _ x _ e);refine(s (YLp.yldZ o C go) ⟨by omega,yQ _ _ _,S,o.loc _ _ _ _ x ow λi g=>zz (by have:=o.here _ _ _ x _ g;omega),w,λi=>Iff.rfl⟩).mono ?_;have key:∀(S' S0:Nat->Prop)(b:Heap),(∀j,S' j->(j=h.next\/S j)\/(h.new h.next (.loop L)).next<=j)->But (λi=>i=h.next\/S i) (h.new h.next (.loop L)) b->¬S0 h.next->(∀i,S' i↔(i=h.next\/S0 i))->(∀j,S0 j->S j\/h.next<=j)/\But S h (b.del h.next):=by
  intro S' S0 b t p c l;refine⟨λj D=> ?_,by have:=p.1;show h.next<=b.next;omega,λi g z=> ?_⟩
  ·rcases t j ((l j).2 (.inr D))with(q|q)|q
   ·subst q;exact absurd D c
   ·exact .inl q
   ·exact .inr ow
  ·have d:i≠h.next:=ow;rw[uK d,p.2 i ow (λe=>e.elim d z),zz d]
 rintro r b ⟨S',t,p,⟨E,b2,S0,u,c,l⟩ | ⟨E,b2,S0,u,c,l⟩⟩
 ·obtain⟨k1,k2⟩:=key S' S0 b t p c l;refine⟨L,b2,(by rw[B];intro q;cases q),?_⟩;rw[A,nw];exact v S0 _ k1 k2 (o.loc _ _ _ _ u (zD _) λi g=>uK λe=>by subst e;exact c g)
 ·obtain⟨k1,k2⟩:=key S' S0 b t p c l;refine⟨_,b2,(by intro q;cases q),?_⟩;simp only[XL];exact m S0 _ k1 k2 (C.loc 0 _ _ _ u (zD _) λi g=>uK λe=>by subst e;exact c g)
end
open Go.Proofs.Tryz
open Go.Proofs
set_option maxRecDepth 100000
variable{c:Cat}{fs:List Fac}{al:Nat->Option Alt}{S0 S' S:Nat->Prop}{k i:Nat}{fr:Frm}{f:FuncId}{args sc cap:List D}{h g:Heap}{xs:List (List D)}{d:D}
theorem Uz{O:KV}{m:Nat}{x:List D}(h:(X4 c fs al O m).head? =some x):∀k,(X4 c fs al O (m+k)).head? =some x
 |0=>h
 |k+1=>by
  rw[<-wB,j9,List.head?_append,Uz h k];rfl
def Ny:List D:=[.int .i64 0,.nilsl]
def Ch(l:List (List D)):D:=.tuple [.agg (l.head?.getD Ny),.bool (l.head?.isSome)]
def Bo(c:Cat)(fs:List Fac)(al:Nat->Option Alt)(O:KV)(n0 k:Nat)(S:Nat->Prop)(h:Heap):Prop:=
 n0+1<h.next/\h.at' n0=some (.row Ny)/\h.at' (n0+1)=some (.row [.bool false])/\X4 c fs al O k= []/\∀i,S i↔(i=n0\/i=n0+1)
def Ac(c:Cat)(fs:List Fac)(al:Nat->Option Alt)(O:KV)(n0:Nat)(S:Nat->Prop)(h:Heap):Prop:=
 ∃x,n0+1<h.next/\h.at' n0=some (.row x)/\h.at' (n0+1)=some (.row [.bool true])/\(X4 c fs al O 6).head? =some x/\∀i,S i↔(i=n0\/i=n0+1)
def Bo.lcl(c:Cat)(fs:List Fac)(al:Nat->Option Alt)(O:KV)(l:Nat):Lcl (Bo c fs al O l):=by
 refine⟨λk S h y i j=> ?_,λk S h h' y m f=> ?_⟩
 ·obtain⟨g,b,d,e,a⟩:=y;rcases(a i).1 j with rfl|rfl<;>omega
 ·obtain⟨g,b,d,e,a⟩:=y;exact⟨by omega,by rw[f _ ((a _).2 (.inl rfl))];exact b,by rw[f _ ((a _).2 (.inr rfl))];exact d,e,a⟩
def Ac.lcl(c:Cat)(fs:List Fac)(al:Nat->Option Alt)(O:KV)(l:Nat):Lcl λ_=>Ac c fs al O l:=by
 refine⟨λk S h y i j=> ?_,λk S h h' y m f=> ?_⟩
 ·obtain⟨x,g,b,d,e,a⟩:=y;rcases(a i).1 j with rfl|rfl<;>omega
 ·obtain⟨x,g,b,d,e,a⟩:=y;exact⟨x,by omega,by rw[f _ ((a _).2 (.inl rfl))];exact b,by rw[f _ ((a _).2 (.inr rfl))];exact d,e,a⟩
theorem DM{M:KM Int}{O:KV}{m1 m2:Nat}(hs:Stt c fs al M O sc m1 m2)(hn:fs.length<=24)(hH:StH M O m1 m2 g):
  zB prog 26 [.iptr sc 0] g λr h'=>h'=g/\r=Ch (X4 c fs al O 6):=by
 refine xU kr λbs=>xS ?_;refine xP λQ hQ=> ?_;have a6:=aw sc;obtain⟨G,hG,ad,g1,g2,Y⟩:∃G:Heap,(g.new g.next (.row [.int .i64 0,.nilsl])).new (g.next+1) (.row [.bool false])=G/\G.next=g.next+2/\G.at' g.next=some (.row Ny)/\G.at' (g.next+1)=some (.row [.bool false])/\Ext g G:=
  ⟨_,rfl,qW _ (by rw[yA];exact zD _) _,by rw[zz ow];exact yQ _ _ _,yQ _ _ _,((Ext.refl g).new (zD _) _).new ow _⟩
 refine z5 zI7 ?_;simp only[f26,zA]
 repeat' first|simp only[go_sem,yA,N0, *]|apply bc<;>intro hc|(refine zB.mono (a6 _) ?_;rintro r h ⟨hq,rfl⟩)
 subst hq
 rename Heap=>G
 generalize U:LRec.mk _ _ _ _ _ _ _=L;have ba:L.pending=none:=by rw[<-U]
 have bb:L.st=.ready:=by rw[<-U]
 have hW:=Bo.lcl c fs al O g.next;have hV:=Ac.lcl c fs al O g.next;have ak:Bo c fs al O g.next 0 (λj=>j=g.next\/j=g.next+1) G:=⟨by omega,g1,g2,rfl,λ_=>Iff.rfl⟩;have ag:=hH.ext Y;refine K2 (n:=6) (el:=λi=>[IZ c fs al O i]) ad hW hV bb ba ak (λyl a0=>(cS hs hn yl a0 (ag.ext ((Ext.refl G).new ow _)) (λe=> ?_) (λe=> ?_))) ?_ ?_ ?_
 ·have:=hH.2.1;rcases e with e|e|e<;>omega
 ·have:=hH.2.2;rcases e with e|e|e<;>omega
 ·intro k S0 h3 hk q a9 bd v;have d:=a9;rw[<-U]at d;refine uN.round (g:=Dt) mix d rfl kr kr kr ?_;simp only[go_sem];refine⟨d,?_⟩;generalize hB:LRec.mk .busy _ _ _ _ _ _=B;have P:({ B with st:=.ready,pending:=none } :LRec)=L:=by rw[<-hB,<-U]
  have a:But (λi=>i=g.next+2) h3 (h3.set (g.next+2) (.loop B)):=⟨by rw[qS];exact zD _,λj _ R=>zx R⟩;have A:=hW.round bd (λi p=>p) v a;obtain⟨H,ai,b0,N⟩:∃H:Heap,h3.set (g.next+2) (.loop B)=H/\H.next=h3.next/\H.at' (g.next+2)=some (.loop B):=⟨_,rfl,qS _ _ _,zi _ _ _⟩;rw[ai]at A a⊢;have bx:=A;obtain⟨X,J,K,C,E⟩:=A;have w:=j9 (c:=c) (fs:=fs) (al:=al) (O:=O) k;rw[C,yT]at w;rcases W4 (c:=c) (fs:=fs) (al:=al) (O:=O) k with⟨e1,e2⟩ | ⟨e1,tk,e2⟩
  ·have b:∀fr,rq (LpZ (g.next+2) L (Bo c fs al O g.next) (Ac c fs al O g.next) k S0 h3) (g.next+2) .normal fr H:=λfr=>by
    refine Lp.finZ hW P q v N (S':=S0) (λi p=>.inl p) ⟨a.1,λi p f=>a.2 i p λe=>f (.inl e)⟩ ⟨X,J,K,by rw[w];exact e2,E⟩
   have hl:∀h,js prog 36 .nilsl h=some (.int .i64 0):=λh=>uV (ye.nil (sz:=2)) underlying36;have h0:decide ((0:Int)>0)=false:=rfl;simp only[go_sem,e1,hl,h0];exact b _
  ·obtain⟨x,xs,V⟩:=List.exists_cons_of_ne_nil e1;rw[V]at e2;have o:x.length=2:=lx (k:Int) (mo c fs al O k) x (by rw[V];simp);have bk:∃l,x=LJ (k:Int) l:=by
    have:x∈vbs (k:Int) (mo c fs al O k):=by rw[V];simp
    obtain⟨l,_,e⟩:=zT.1 this;exact⟨l,e.symm⟩
   have a8:(X4 c fs al O 6).head? =some x:=by
    have:=Uz (c:=c) (fs:=fs) (al:=al) (O:=O) (m:=k+1) (x:=x) (by rw[w,V];rfl) (6- (k+1))
    rwa [show k+1+(6- (k+1))=6 by omega]at this
   have hl:∀h,js prog 36 (.sl 2 (x::xs) tk) h=some (.int .i64 ((x::xs).length:Int)):=λh=>uV (ye.mk (sz:=2) tk) underlying36;have h0:decide (((x::xs).length:Int)>0)=true:=zN (by simp only[zm];omega);have ha:yP prog 36 (.sl 2 (x::xs) tk) (.int .i64 0)=some (.iptr x 0):=qA (i:=0) (ye.mk (sz:=2) tk) wc tY rfl;have y:yN true 2 x 0=some (.agg x):=zJ o ow;have s:qP prog 42 (.ptr g.next 0) (.agg x) H=some (H.set g.next (.row x)):=rU J (by rw[tY,o]) (by rw[o];rfl) ow (by obtain⟨l,rfl⟩:=bk;rfl)
   have t:qP prog 4 (.ptr (g.next+1) 0) (.bool true) (H.set g.next (.row x))=some ((H.set g.next (.row x)).set (g.next+1) (.row [.bool true])):=by
    rw[qO (by rw[zx ow];exact K) zEQ (by simp) rfl rfl];rfl
   have b:∀fr,rq (LpZ (g.next+2) L (Bo c fs al O g.next) (Ac c fs al O g.next) k S0 h3) (g.next+2) .ret fr ((H.set g.next (.row x)).set (g.next+1) (.row [.bool true])):=λfr=>by
    have b1:=a.1;refine Lp.retZ hV P q v ?_ (S':=S0) (λi p=>.inl p) ⟨by rw[qS,qS];omega,λi p f=> ?_⟩ ⟨x,by rw[qS,qS];omega,by rw[zx ow,zi],zi _ _ _,a8,E⟩
    ·rw[zx ow,zx ow];exact N
    ·rw[zx λe=>f (.inr ((E i).2 (.inr e))),zx λe=>f (.inr ((E i).2 (.inl e))),a.2 i p λe=>f (.inl e)]
   simp only[go_sem,e2,hl,h0,ha,y,s,t];exact b _
 ·intro S' I S hb z;obtain⟨X,J,K,C,E⟩:=z;have u:Ext g I:=Ext.of_but Y hb λj R=>by rcases R with rfl|rfl<;>omega
  have b3:wO prog 42 []=some (.agg Ny):=by simp[wO,aK,ja,tp,Ny,D.notTuple,D.cells]
  obtain⟨W,Z,r1,r2,E1⟩:∃F,I.set g.next (.row Ny)=F/\F.at' g.next=some (.row Ny)/\F.at' (g.next+1)=some (.row [.bool false])/\Ext g F:=⟨_,rfl,zi _ _ _,by rw[zx ow];exact K,u.set (zD _) _⟩;have s:qP prog 42 (.ptr g.next 0) (.agg Ny) I=some W:=by
   rw[rU J (by rw[tY];rfl) rfl (by decide) rfl,Z]
  obtain⟨F2,ab,r3,r4,E2⟩:∃F,W.set (g.next+1) (.row [.bool false])=F/\F.at' g.next=some (.row Ny)/\F.at' (g.next+1)=some (.row [.bool false])/\Ext g F:=⟨_,rfl,by rw[zx ow];exact r1,zi _ _ _,E1.set ow _⟩;have t:qP prog 4 (.ptr (g.next+1) 0) (.bool false) W=some F2:=by
   rw[qO r2 zEQ (by simp) rfl rfl,<-ab];rfl
  have y:yN true 2 Ny 0=some (.agg Ny):=zJ rfl ow;have a7:Q (.tuple [.agg Ny,.bool false]) F2:=hQ _ _ ⟨E2,⟨⟨trivial,trivial,trivial⟩,trivial,trivial⟩,by rw[C];rfl⟩;exact au
 ·intro S' I S hb z;obtain⟨x,X,J,K,C,E⟩:=z;have u:Ext g I:=Ext.of_but Y hb λj R=>by rcases R with rfl|rfl<;>omega
  have T:x∈X4 c fs al O 6:=jy C;obtain⟨p1,p2,p3⟩:=bo x T;have o:x.length=2:=by
   obtain⟨i,_,h⟩:=zw.1 T;exact lx _ _ x h
  have y:yN true 2 x 0=some (.agg x):=zJ o ow;have a7:Q (.tuple [.agg x,.bool true]) I:=hQ _ _ ⟨u,by
   simp only[wD,wU,below,qZ,p3];exact⟨rP (yg _) _ p2,trivial,trivial⟩,by
   simp only[wD,wU,p3,Ch,C];rfl⟩
  exact au
theorem Dp{d x yd:D}{y:Cho}(K:uM c d)(sm:c.Sm)(hx:ye 12 (dj fs) x)(a8:fs.length<=256)(ak:∀f∈fs,f.Ok)(hy:ZR y yd)(ch:y.Sm)
  (b7:∀a∈y.ts,a.ts≠[]->a.Ok) (hk:lH fs fs.length<=y.ts.length) (ho:(yn y fs fs.length).outs.length<=y.own.length) (g:Heap):
  zB prog 22 [d,x,yd] g λr h'=>Ext g h'/\∃sc m1 m2,r=.iptr sc 0/\Stt c fs (alS fs y) (yn y fs fs.length).M (yn y fs fs.length).O sc m1 m2/\StH (yn y fs fs.length).M (yn y fs fs.length).O m1 m2 h'/\g.next<=m1/\g.next<=m2:=by
 have a7:=K;obtain⟨a,b,e,p,rfl,ha,hb,he,hp⟩:=K;obtain⟨ta,oa,rfl,cf,cc⟩:=hy;have b8:=rh hx;obtain⟨x1,x2,_⟩:=yR hx;have c5:yN true 4 [a,b,e,p] 0=some (.agg [a,b,e,p]):=zJ rfl ow;obtain⟨sc,I⟩:∃sc,[a,b,e,p,x,.map g.next,.map (g.next+1)]=sc:=⟨_,rfl⟩;have cg:wO prog 119 [(0,.agg [a,b,e,p]),(1,x),(2,.map g.next),(3,.map (g.next+1))]=some (.agg sc):=by
  rw[<-I];clear I x1 x2 b8;rcases hx with⟨rfl,_⟩ | ⟨tk,rfl⟩ <;>simp[wO,Q4,IL,tp,uG,D.notTuple,D.cells]
 obtain⟨G,hG,E,A⟩:∃G:Heap,(g.new g.next (.map [])).new (g.next+1) (.map [])=G/\Ext g G/\StH [] [] g.next (g.next+1) G:=
  ⟨_,rfl,((Ext.refl g).new (zD _) _).new ow _,⟨by rw[zz ow];exact yQ _ _ _,yQ _ _ _⟩,by rw[qW _ (by rw[yA];exact zD _)];omega,by rw[qW _ (by rw[yA];exact zD _)];omega⟩
 have c3:sc[5]? =some (.map g.next):=by rw[<-I];rfl
 have c4:sc[6]? =some (.map (g.next+1)):=by rw[<-I];rfl
 have J:Stt c fs (alS fs y) (yn y fs fs.length).M (yn y fs fs.length).O sc g.next (g.next+1):=⟨⟨a,b,e,p,x,I.symm,a7,hx,ha⟩,sm,a8,ak,λi hi=>by rw[W9 _ (zD _) i,ip hi],λi z Q=>by
  unfold alS at Q;split at Q
  ·cases Q
  ·split at Q
   ·split at Q
    ·rename_i h1 U;cases Q;have U:=zg U;unfold lU at U⊢;rw[zK]at U⊢;cases hq:y.ts[lH fs i]? with
     |none=>rw[hq]at U;simp[mkA]at U
     |some z=>rw[hq]at U;exact b7 z (zh hq) λe=>by simp[e]at U
    ·cases Q
   ·cases Q⟩
 clear a7;refine z5 zI5 ?_;simp only[f22,zA]
 repeat' first|simp only[go_sem,yA, *]|apply bc<;>intro K
 clear hG cg I;refine zV (λi fr h=>fr 1=x/\fr 5=.iptr [ta,oa] 0/\fr 7=.iptr sc 0/\fr 8=.int .i64 ((lH fs i:Nat):Int)/\fr 19=x/\fr 20=.int .i64 (fs.length:Int)/\fr 21=.int .i64 (i:Int)/\∃u,fr 9=u/\rc h 1 (uH (yn y fs i).outs) u/\(∀j,pT u j->g.next<=j)/\Ext g h/\StH (yn y fs i).M (yn y fs i).O g.next (g.next+1) h) fs.length ow ?_ ?_ ?_
 ·have Q:lH fs 0=0:=rfl;have q:∃u,D.nilsl=u/\rc G 1 (uH (yn y fs 0).outs) u/\(∀j,pT u j->g.next<=j)/\Ext g G/\StH (yn y fs 0).M (yn y fs 0).O g.next (g.next+1) G:=⟨_,rfl,.inl ⟨rfl,rfl⟩,λj F=>F.elim,E,A⟩;simp only[go_sem,zQ,zS,zF,Q];exact q
 ·clear E A;rintro i fr h S e1 ew ⟨f1,f5,f7,f8,bx,b0,b5,u,f9,W,v,E,A⟩;have a1:=wR hx S;have hw:yN true 12 fs[i].cells 0=some (.agg fs[i].cells):=zJ rfl ow;have ab:=Rc (ak _ (zG S));have m:=mc (y:=y) S;have C:=cx S;have ad:=Qu (fs:=fs) (i:=i+1) (fs.length- (i+1)) ow;have T:=JM (y:=y) (fs:=fs) (i:=i+1) (fs.length- (i+1)) ow;rw[show i+1+(fs.length- (i+1))=fs.length by omega]at ad T;have c1:=Wn (y:=y) (fs:=fs) i ow;have cm:=aF (fs:=fs) i ow;have k0:fs[i].cells[0]? =some (.int .i64 fs[i].kind):=rfl;have k2:fs[i].cells[2]? =some (.str fs[i].out):=rfl;generalize fs[i]=f at *
  generalize yn y fs i=s at *
  have ai:h.next<(h.new h.next (.row f.cells)).next:=by rw[yA];omega
  obtain⟨H,hH,X,w,o,l,cb⟩:∃H:Heap,h.new h.next (.row f.cells)=H/\H.at' h.next=some (.row f.cells)/\Ext g H/\rc H 1 (uH s.outs) u/\StH s.M s.O g.next (g.next+1) H/\h.next<H.next:=
   ⟨_,rfl,yQ _ _ _,E.new E.1 _,W.loc ow λj F=>zz (by have:=(W.tok F).1;omega),A.ext ((Ext.refl h).new (zD _) _),ai⟩
  obtain⟨n0,ca⟩:∃n,h.next=n:=⟨_,rfl⟩;have b6:=E.1;rw[ca]at hH X cb b6 ai;have c0:g.next+1<n0:=by have:=A.2.2;omega
  have bk:=ab h n0;rw[hH]at bk;clear ab E A W ai ak hH J;have k:yn y fs (i+1)=s->∃N,u=N/\rc H 1 (uH (yn y fs (i+1)).outs) N/\(∀j,pT N j->g.next<=j)/\Ext g H/\StH (yn y fs (i+1)).M (yn y fs (i+1)).O g.next (g.next+1) H:=λe=>by
   rw[e];exact⟨u,rfl,o,v,w,l⟩
  cases b1:(f.kind==1)with
  |true=>
   rw[b1]at m C;simp only[qG]at m C;have ag:lH fs i<y.ts.length:=ow;have a2:=ru cf ag;have a6:lU y (lH fs i)=y.ts[lH fs i]:=by unfold lU;rw[zK,zE ag];rfl
   have bd:=ch.ts _ (zG ag);rw[a6]at m;have cs:IntKind.i64.wrap (((lH fs i:Nat):Int)+1)=((lH fs (i+1):Nat):Int):=by rw[C];exact qT (by unfold lim;omega)
   clear C ad a6 T;generalize y.ts[lH fs i]=z at *
   have cw:=wT bd.sl;obtain⟨z1,z2,_⟩:=yR bd.sl;cases b2:decide ((z.ts.length:Int)>0)with
   |false=>
    rw[b2]at m;have q:=k (by rw[m];rfl);clear m k o v w l
    repeat' first|simp only[go_sem, *]|apply bc<;>intro K
   |true=>
    rw[b2,ip rfl]at m;have b9:wv prog 116 (.map g.next) (.int .i64 (i:Int)) z.d H=some (H.set g.next (.map (kmD (D.int .i64) (cq (i:Int) z.d s.M)))):=Ui zCg l.1.1 NT Ea (i:Int) z.d;have q:∃N,u=N/\rc (H.set g.next (.map (kmD (D.int .i64) (cq (i:Int) z.d s.M)))) 1 (uH (yn y fs (i+1)).outs) N/\(∀j,pT N j->g.next<=j)/\Ext g (H.set g.next (.map (kmD (D.int .i64) (cq (i:Int) z.d s.M))))/\StH (yn y fs (i+1)).M (yn y fs (i+1)).O g.next (g.next+1) (H.set g.next (.map (kmD (D.int .i64) (cq (i:Int) z.d s.M)))):=by
     rw[m];refine⟨u,rfl,o.loc (zD _) λj F=>zx λe=> ?_,v,w.set (zD _) _,⟨zi _ _ _,by rw[zx ow];exact l.1.2⟩,l.2⟩;have:=(o.tok F).2;rw[e,l.1.1]at this;cases this
    clear m k o v w l
    repeat' first|simp only[go_sem, *]|apply bc<;>intro K
    refine zd kr ?_
    repeat' first|simp only[go_sem,qH, *]|apply bc<;>intro K
  |false=>
   rw[b1]at m C;simp only[zW,yz,wl]at m C;rw[<-C]at f8;clear C ad;cases b2:(f.kind==2)with
   |false=>
    rw[b2]at m;have q:=k m;clear m k o v w l
    repeat' first|simp only[go_sem, *]|apply bc<;>intro K
   |true=>
    rw[b2,ip rfl]at m;have L:=kx o.isSl ow f.out H;have cv:=wd o.isSl;obtain⟨u1,u2,_⟩:=yR o.isSl;cases b3:(s.outs.any λz=>z==f.out)with
    |true=>
     rw[b3,ip rfl]at m;have q:=k m;rw[b3]at L;clear m k o v w l
     repeat' first|simp only[go_sem, *]|apply bc<;>intro K|(refine zB.mono L ?_;rintro r h ⟨hq,rfl⟩)
    |false=>
     rw[b3]at m L;simp only[zW,yz]at m;have a9:s.outs.length<y.own.length:=by
      rw[m,zM,ug]at T;omega
     have a3:=t9 cc a9;have bb:fx y s.outs.length=y.own[s.outs.length]:=by unfold fx;rw[zK,zE a9];rfl
     rw[bb]at m;clear bb T;generalize y.own[s.outs.length]=nm at *
     have cp:=jN f.out;have R:∀(B:Heap)(O2:KV),B.next=H.next->rc B 1 (uH s.outs) u->Ext g B->StH s.M O2 g.next (g.next+1) B->(yn y fs (i+1)).M=s.M->(yn y fs (i+1)).O=O2->(yn y fs (i+1)).outs=s.outs++ [f.out]->
       ∃d' V,qh prog false B.next 31 u (.sl 1 [[.str f.out]] .full) B=some (d',V)/\∃N,d'=N/\rc V 1 (uH (yn y fs (i+1)).outs) N/\(∀j,pT N j->g.next<=j)/\Ext g V/\StH (yn y fs (i+1)).M (yn y fs (i+1)).O g.next (g.next+1) V:=λB O2 hn W E Y q1 q2 q3=>by
      obtain⟨d',V,v1,v2,v3,v4,v5,v6,v7⟩:=W.app4 (P:=prog) (t:=31) (ys:=[[.str f.out]]) (x:=.sl 1 [[.str f.out]] .full) t5 VN md ow (by simp) (.inr ⟨by simp,_,rfl⟩) (by rw[wK,kw];unfold lim;simp;omega) (by rw[wK];unfold lim;simp;omega);have cu:=E.1;have t1:∀j,pT u j->j≠g.next/\j≠g.next+1:=λj F=>by
       have:=(W.tok F).2;exact⟨λe=>(by rw[e,Y.1.1]at this;cases this),λe=>(by rw[e,Y.1.2]at this;cases this)⟩
      refine⟨d',V,v1,d',rfl,by rw[q3,Nq];exact v2,λj F=>by have:=v5 j F;omega,⟨by omega,λj F=>by rw[v4 j ow λe=>by have:=v j e;omega,E.2 j F]⟩,by rw[q1,q2];exact⟨⟨by rw[v4 _ Y.2.1 λe=>(t1 _ e).1 rfl];exact Y.1.1,by rw[v4 _ Y.2.2 λe=>(t1 _ e).2 rfl];exact Y.1.2⟩,by have:=Y.2.1;omega,by have:=Y.2.2;omega⟩⟩
     cases b4:(nm== [])with
     |true=>
      rw[b4]at m;obtain⟨d',V,v1,q⟩:=R H s.O rfl o w l (by rw[m]) (by rw[m];rfl) (by rw[m]);clear m k o v w l R
      repeat' first|simp only[go_sem, *]|apply bc<;>intro K|(refine zB.mono L ?_;rintro r h ⟨hq,rfl⟩)
     |false=>
      rw[b4]at m;obtain⟨B,a4,ba,a5,a0,Z,c2⟩:∃B:Heap,H.set (g.next+1) (.map (kvD (dp f.out nm s.O)))=B/\B.next=H.next/\rc B 1 (uH s.outs) u/\Ext g B/\StH s.M (dp f.out nm s.O) g.next (g.next+1) B/\B.at' n0=some (.row f.cells):=
       ⟨_,rfl,qS _ _ _,o.loc (zD _) λj F=>zx λe=>(by have:=(o.tok F).2;rw[e,l.1.2]at this;cases this),w.set ow _,⟨⟨by rw[zx ow];exact l.1.1,zi _ _ _⟩,l.2⟩,by rw[zx ow];exact X⟩
      have b9:wv prog 117 (.map (g.next+1)) (.str f.out) (.str nm) H=some B:=by rw[<-a4];exact Uk l.1.2 NU Tm f.out nm
      obtain⟨d',V,v1,q⟩:=R B _ ba a5 a0 Z (by rw[m]) (by rw[m];rfl) (by rw[m]);clear m k o v w l R a4 ba a5 a0 Z
      repeat' first|simp only[go_sem, *]|apply bc<;>intro K|(refine zB.mono L ?_;rintro r h ⟨hq,rfl⟩)
      refine zd kr ?_
      repeat' first|simp only[go_sem,qH, *]|apply bc<;>intro K
 ·clear E A;rintro fr h e1 ⟨f1,f5,f7,f8,bx,b0,b5,u,f9,W,v,E,A⟩;have cl:Ext g h/\∃bs m1 m2,D.iptr sc 0=.iptr bs 0/\Stt c fs (alS fs y) (yn y fs fs.length).M (yn y fs fs.length).O bs m1 m2/\StH (yn y fs fs.length).M (yn y fs fs.length).O m1 m2 h/\g.next<=m1/\g.next<=m2:=⟨E,sc,g.next,g.next+1,rfl,J,A,zD _,by omega⟩;clear W v E A J;exact au
def Ig(c:Cat)(fs:List Fac)(y:Cho):List (List D):=X4 c fs (alS fs y) (yn y fs fs.length).O 6
def zK4(c:Cat)(fs:List Fac)(y:Cho):Int:=
 if(!(qR c fs y true==0))=true then qR c fs y true else if decide (((Ig c fs y).length:Int)>1024)=true then 10 else 0
section
variable{c:Cat}{fs:List Fac}{y:Cho}{d x yd:D}(I:CIn c fs y d x yd)
include I
def CIn.start{p:Bool}(h:qR c fs y p=0)(g:Heap):zB prog 22 [d,x,yd] g λr h'=>Ext g h'/\∃sc m1 m2,r=.iptr sc 0/\Stt c fs (alS fs y) (yn y fs fs.length).M (yn y fs fs.length).O sc m1 m2/\StH (yn y fs fs.length).M (yn y fs fs.length).O m1 m2 h'/\g.next<=m1/\g.next<=m2:=by
 have h1:=I.n16 h;obtain⟨_,k1,k2,k3⟩:=YY h I.ysm;exact Dp I.cat I.sm I.x ow I.ok I.cho I.ysm (λa b e=>(k3 a b e).1) ow ow g
end
def Ki{l:D}(a:∀x∈xs,sH x)(hf:Fin 2 xs l)(n:Nat):wD l=l/\below n l:=by
 rcases hf with⟨rfl,_⟩ |rfl
 ·exact⟨rfl,trivial⟩
 ·have:=qg (sz:=2) a .no;exact⟨this.1,qw (yg _) _ this.2⟩
variable{c:Cat}{fs:List Fac}{d:D}
def N9{y:Cho} :∀x∈Ig c fs y,sH x:=bo
def zK7{y:Cho}{d x yd:D}(I:CIn c fs y d x yd)(g:Heap):
  zB prog 7 [d,x,yd] g λr h'=>h'=g/\∃l,r=.tuple [l,.int .i64 (zK4 c fs y)]/\(zK4 c fs y=0->Fin 2 (Ig c fs y) l)/\(zK4 c fs y≠0->l=.nilsl):=by
 refine xU kr λF=>xS ?_;refine xP λQ t=> ?_;have n:=I.check true;have o:=λh=>I.start (p:=true) h;have m:=λh=>I.n16 (p:=true) h;obtain⟨a,b,e,p,rfl,_⟩:=I.cat;obtain⟨H,G,rfl,_⟩:=I.cho;obtain⟨R,S,_⟩:=yR I.x;have O:yN true 4 [a,b,e,p] 0=some (.agg [a,b,e,p]):=zJ rfl ow;have N:yN true 2 [H,G] 0=some (.agg [H,G]):=zJ rfl ow;have j:∀h',Ext g h'->zK4 c fs y≠0->Q (.tuple [.nilsl,.int .i64 (zK4 c fs y)]) h':=λh' v k=>t _ _ ⟨v,⟨trivial,trivial,trivial⟩,_,rfl,λe=>absurd e k,λ_=>rfl⟩;refine z5 ok7 ?_;simp only[f7,zA];cases u:(qR c fs y true==0)with
 |false=>
  have k:qR c fs y true≠0:=by simpa using u
  have f:zK4 c fs y=qR c fs y true:=by unfold zK4;rw[u];rfl
  have i:=j g (Ext.refl g) (by rw[f];exact k);rw[f]at i;clear j f t o m k
  repeat' first|simp only[go_sem, *]|apply bc<;>intro A|(refine zB.mono (n _) ?_;rintro r h ⟨w,rfl⟩)
 |true=>
  have h0:qR c fs y true=0:=by simpa using u
  have f:zK4 c fs y=if decide (((Ig c fs y).length:Int)>1024)=true then 10 else 0:=by unfold zK4;rw[u];rfl
  have B:=o h0;have M:=m h0;rw[h0]at n u;clear o m h0
  repeat' first|simp only[go_sem, *]|apply bc<;>intro A|(refine zB.mono (n _) ?_;rintro r h ⟨w,rfl⟩)
  subst w
  rename Heap=>g
  refine(B _).mono ?_;rintro r h1 ⟨v,sc,m1,m2,rfl,L,K,_,_⟩
  repeat' first|simp only[go_sem, *]|apply bc<;>intro A
  refine(zF0 L M K).mono ?_;rintro r J ⟨w,s⟩;subst w;have P:∀h,js prog 36 r h=some (.int .i64 ((Ig c fs y).length:Int)):=λh=>uV s.isSl underlying36;obtain⟨r1,r2,_⟩:=yR s.isSl;cases E:decide (((Ig c fs y).length:Int)>1024)with
  |true=>
   rw[E]at f;have i:=j _ v (by rw[f];decide);rw[f,ip rfl]at i;clear j f t s B
   repeat' first|simp only[go_sem, *]|apply bc<;>intro A
  |false=>
   rw[E]at f;obtain⟨z,C⟩:=Ki bo s g.next;have i:Q (.tuple [r,.int .i64 0]) J:=t _ _ ⟨v,by
    simp only[wD,wU,below,qZ,z];exact⟨C,trivial,trivial⟩,r,by simp only[wD,wU,z,f];rfl,λ_=>s,λq=>absurd (by rw[f];rfl) q⟩
   clear j f t s B z C;exact au
def Vio.cells(v:Vio):List D:=[.int .i64 v.row,.sl 1 (uq v.facts) .no]
def vcs(l:List Vio):List (List D):=l.map Vio.cells
def wG(l:List Vio):(vcs l).length=l.length:=zI ..
def Vv{l:List Vio}(a:ye 2 (vcs l) d)(h:Heap):js prog 36 d h=some (.int .i64 l.length):=by rw[uV a underlying36,wG]
def Pn{l:List Vio}(a:ye 2 (vcs l) d)(b:i<l.length):yP prog 36 d (.int .i64 (i:Int))=some (.iptr l[i].cells 0):=qA a wc tY (by simp[vcs,b])
def WP(c:Cat)(fs:List Fac)(al:Nat->Option Alt)(O:KV)(k:Nat):List Vio:=(List.range k).flatMap λi:Nat=>(mo c fs al O i).map λl=>⟨(i:Int),l⟩
def ly(c:Cat)(fs:List Fac)(y:Cho):List Vio:=WP c fs (alS fs y) (yn y fs fs.length).O 6
def U0{O:KV} :X4 c fs al O k=vcs (WP c fs al O k):=by
 unfold X4 WP vcs vbs;rw[List.map_flatMap];congr 1
 funext i
 rw[qm];rfl
def U1{y:Cho} :Ig c fs y=vcs (ly c fs y):=U0
def M5{O:KV}(i:Nat):∀l∈mo c fs al O i,l.length<=5:=λl a=>by
 unfold mo at a;have b:=fI _ _ a;obtain⟨z,d,rfl⟩:=zT.1 (lv.1 b);exact za (bD z) (RU i z d)
def N1{y:Cho} :∀v∈ly c fs y,v.Is v.cells:=λv b=>by
 obtain⟨i,_,h⟩:=zw.1 b;obtain⟨l,a,rfl⟩:=zT.1 h;have:=M5 i l a;exact⟨_,rfl,ye.mk .no,by show l.length<=_;omega⟩
def TI{l:List Vio}(n:ye 2 (vcs l) d)(y:l.length<=1073741824){p:Vio->Bool}(A:∀s∈l,zB prog f ([]++ [.agg s.cells]++cap) g λr h'=>h'=g/\r=.bool (p s)):
  zB prog 68 [d,.fn (.func f) [] cap] g λr h'=>h'=g/\r=.int .i64 (cK p l):=by
 have o:=Vv n;refine z5 zJN ?_;simp only[f68,zA]
 repeat' first|simp only[go_sem, *]|apply bc<;>intro m
 refine zV (λi fr h=>fr 1=.fn (.func f) [] cap/\fr 0=d/\fr 6=d/\fr 7=.int .i64 (l.length:Int)/\fr 8=.int .i64 (i:Int)/\h=g/\∀j (b:j<l.length),j<i->p l[j]=false) l.length y ?_ ?_ ?_
 ·simp only[go_sem,zQ,zS,zF];exact λj b h0=>by omega
 ·rintro i fr h a e1 C ⟨u,t,v,w,x,rfl,b⟩;have q:=Pn n a;have e:=A _ (zG a);simp only[yT,z9,Vio.cells]at e;simp only[Vio.cells]at q;cases k:p l[i]with
  |true=>
   have B:=lX a b k;rw[k]at e
   repeat' first|simp only[go_sem, *]|apply bc<;>intro m|refine zB.use e ?_
  |false=>
   have z:=qp (p:=p) a b k;rw[k]at e
   repeat' first|simp only[go_sem, *]|apply bc<;>intro m|refine zB.use e ?_
   exact z
 ·rintro fr h e1 ⟨u,t,v,w,x,rfl,b⟩;have B:=lY (p:=p) λj c=>b j c c;exact au
def YQ{l:List Vio}(b:ye 2 (vcs l) d)(e:l.length<=1073741824){p:Vio->Bool}(h:∀s∈l,zB prog f ([]++ [.agg s.cells]++cap) g λr h'=>h'=g/\r=.bool (p s)):
  zB prog 28 [d,.fn (.func f) [] cap] g λr h'=>h'=g/\r=.bool (l.any p):=by
 have a:=TI b e h;have c:=jE (l:=l) (p:=p);refine z5 zI8 ?_;simp only[f28,zA]
 repeat' first|simp only[go_sem, *]|apply bc<;>intro i|refine zB.use a ?_
def Ix{v w:Vio}{cv:List D}(b:v.Is cv)(c:w.Is w.cells)(g:Heap):zB prog 29 [.agg w.cells,.iptr cv 0] g λr h'=>h'=g/\r=.bool (nS v w==0):=by
 have a:=Lq b c;have h1:=Vio.Is.two b;have d:=Vio.Is.two c;refine z5 zI9 ?_;simp only[f29,zA]
 repeat' first|simp only[go_sem, *]|apply bc<;>intro a|refine zB.use (a _) ?_
def dJ(c:Cat)(fs:List Fac)(y:Cho)(v:Vio):Int:=
 if(!(qR c fs y true==0))=true then qR c fs y true else if(!((ly c fs y).any λw=>nS v w==0))=true then 18 else 0
def MG{y:Cho}{d x yd:D}(I:CIn c fs y d x yd){v:Vio}{cv:List D}(P:v.Is cv)(g:Heap):
  zB prog 14 [d,x,yd,.agg cv] g λr h'=>h'=g/\r=.int .i64 (dJ c fs y v):=by
 refine xU kr λF=>xS ?_;refine xP λQ L=> ?_;have l:=I.check true;have A:=λh=>I.start (p:=true) h;have t:=λh=>I.n16 (p:=true) h;obtain⟨a,b,e,p,rfl,_⟩:=I.cat;obtain⟨H,G,rfl,_⟩:=I.cho;obtain⟨U,V,_⟩:=yR I.x;have S:yN true 4 [a,b,e,p] 0=some (.agg [a,b,e,p]):=zJ rfl ow;have R:yN true 2 [H,G] 0=some (.agg [H,G]):=zJ rfl ow;have o:∀h',Ext g h'->Q (.int .i64 (dJ c fs y v)) h':=λh' u=>L _ _ ⟨u,trivial,rfl⟩;refine z5 zI3 ?_;simp only[f14,zA];cases s:(qR c fs y true==0)with
 |false=>
  have m:dJ c fs y v=qR c fs y true:=by unfold dJ;rw[s];rfl
  have i:=o g (Ext.refl g);rw[m]at i
  repeat' first|simp only[go_sem, *]|apply bc<;>intro q|(refine zB.mono (l _) ?_;rintro r h ⟨k,rfl⟩)
 |true=>
  have h0:qR c fs y true=0:=by simpa using s
  have m:dJ c fs y v=if(!((ly c fs y).any λw=>nS v w==0))=true then 18 else 0:=by unfold dJ;rw[s];rfl
  have N:=A h0;have E:=t h0;rw[h0]at l s
  repeat' first|simp only[go_sem, *]|apply bc<;>intro q|(refine zB.mono (l _) ?_;rintro r h ⟨k,rfl⟩)
  subst k
  rename Heap=>g
  refine(N _).mono ?_;rintro r h1 ⟨u,sc,m1,m2,rfl,M,K,_,_⟩
  repeat' first|simp only[go_sem, *]|apply bc<;>intro q
  refine(zF0 M E K).mono ?_;rintro r B ⟨k,J⟩;subst k;have n:Fin 2 (vcs (ly c fs y)) r:=by rw[<-U1];exact J
  have z:(ly c fs y).length<=1073741824:=by
   have:=Ph (c:=c) (fs:=fs) (al:=alS fs y) (O:=(yn y fs fs.length).O) E 6 ow;rw[U0,wG]at this;show(WP c fs (alS fs y) (yn y fs fs.length).O 6).length<=_;omega
  have j:=YQ (f:=29) (cap:=[.iptr cv 0]) (p:=λw=>nS v w==0) (g:=B) n.isSl z λw T=>Ix P (N1 w T) B;obtain⟨r1,r2,_⟩:=yR n.isSl;have i:=o _ u;rw[m]at i;cases C:(ly c fs y).any (λw=>nS v w==0)with
  |true=>
   rw[C]at j i
   repeat' first|simp only[go_sem, *]|apply bc<;>intro q|(refine zB.mono j ?_;rintro r h ⟨k,rfl⟩)
   subst k;exact i
  |false=>
   rw[C]at j i
   repeat' first|simp only[go_sem, *]|apply bc<;>intro q|(refine zB.mono j ?_;rintro r h ⟨k,rfl⟩)
   subst k;exact i
def zK5(c:Cat)(fs:List Fac)(y:Cho):D:=
 if(!(qR c fs y true==0))=true then .tuple [.agg Ny,.bool false,.int .i64 (qR c fs y true)]else .tuple [.agg ((Ig c fs y).head?.getD Ny),.bool ((Ig c fs y).head?.isSome),.int .i64 0]
def gG(c:Cat)(fs:List Fac)(y:Cho):D:=
 if(!(qR c fs y false==0))=true then .tuple [.bool false,.int .i64 (qR c fs y false)]else .tuple [.bool (!(Ig c fs y).head?.isSome),.int .i64 0]
def zGY{y:Cho} :∃num l,(Ig c fs y).head?.getD Ny= [.int .i64 num,l]/\ye 1 [] .nilsl/\l.flat=true/\sH [.int .i64 num,l]:=by
 cases h:(Ig c fs y).head? with
 |none=>exact⟨0,.nilsl,rfl,.inl ⟨rfl,rfl⟩,rfl,rfl,⟨trivial,trivial,trivial⟩,rfl⟩
 |some x=>
  have a:=jy h;have b:=N9 x a;obtain⟨i,_,d⟩:=zw.1 a;obtain⟨l,_,rfl⟩:=zT.1 d;exact⟨_,_,rfl,.inl ⟨rfl,rfl⟩,rfl,b⟩
def Vb{y:Cho}{d x yd:D}(I:CIn c fs y d x yd)(g:Heap):
  zB prog 12 [d,x,yd] g λr h'=>h'=g/\r=gG c fs y:=by
 refine xU kr λA=>xS ?_;refine xP λQ G=> ?_;have i:=I.check false;have v:=λh=>I.start (p:=false) h;have t:=λh=>I.n16 (p:=false) h;obtain⟨a,b,e,p,rfl,_⟩:=I.cat;obtain⟨E,C,rfl,_⟩:=I.cho;obtain⟨S,T,_⟩:=yR I.x;have R:yN true 4 [a,b,e,p] 0=some (.agg [a,b,e,p]):=zJ rfl ow;have P:yN true 2 [E,C] 0=some (.agg [E,C]):=zJ rfl ow;have k:∀h' z n,Ext g h'->gG c fs y=.tuple [.bool z,.int .i64 n]->Q (.tuple [.bool z,.int .i64 n]) h':=λh' z n o e=>G _ _ ⟨o,⟨trivial,trivial,trivial⟩,e.symm⟩;refine z5 zI2 ?_;simp only[f12,zA];cases q:(qR c fs y false==0)with
 |false=>
  have j:gG c fs y=.tuple [.bool false,.int .i64 (qR c fs y false)]:=by unfold gG;rw[q];rfl
  have m:=k g _ _ (Ext.refl g) j
  repeat' first|simp only[go_sem, *]|apply bc<;>intro w|(refine zB.mono (i _) ?_;rintro r h ⟨s,rfl⟩)
 |true=>
  have h0:qR c fs y false=0:=by simpa using q
  have j:gG c fs y=.tuple [.bool (!(Ig c fs y).head?.isSome),.int .i64 0]:=by unfold gG;rw[q];rfl
  have N:=v h0;have M:=t h0;rw[h0]at i q
  repeat' first|simp only[go_sem, *]|apply bc<;>intro w|(refine zB.mono (i _) ?_;rintro r h ⟨s,rfl⟩)
  subst s
  rename Heap=>g
  refine(N _).mono ?_;rintro r h1 ⟨o,sc,m1,m2,rfl,H,F,_,_⟩
  repeat' first|simp only[go_sem, *]|apply bc<;>intro w
  refine(DM H M F).mono ?_;rintro r f ⟨s,rfl⟩;subst s;have J:Ch (X4 c fs (alS fs y) (yn y fs fs.length).O 6)=.tuple [.agg ((Ig c fs y).head?.getD Ny),.bool ((Ig c fs y).head?.isSome)]:=rfl;rw[J];obtain⟨num,l,K,_,L,u⟩:=zGY (c:=c) (fs:=fs) (y:=y);have B:qP prog 42 (.ptr f.next 0) (.agg [.int .i64 num,l]) (f.new f.next (.row [.int .i64 0,.nilsl]))=some (f.new f.next (.row [.int .i64 num,l])):=qk tY ow rfl rfl u.1;have m:=k (f.new f.next (.row [.int .i64 num,l])) _ _ (o.new o.1 _) j;rw[K];exact au
def zLA{y:Cho}{d x yd:D}(I:CIn c fs y d x yd)(g:Heap):
  zB prog 9 [d,x,yd] g λr h'=>h'=g/\r=zK5 c fs y:=by
 refine xU kr λU=>xS ?_;refine xP λQ hQ=> ?_;have k:=I.check true;have R:=λh=>I.start (p:=true) h;have E:=λh=>I.n16 (p:=true) h;obtain⟨a,b,e,p,rfl,_⟩:=I.cat;obtain⟨Y,X,rfl,_⟩:=I.cho;obtain⟨x1,x2,_⟩:=yR I.x;have a0:yN true 4 [a,b,e,p] 0=some (.agg [a,b,e,p]):=zJ rfl ow;have ak:yN true 2 [Y,X] 0=some (.agg [Y,X]):=zJ rfl ow;have a2:∀m l:D,yN true 2 [m,l] 0=some (.agg [m,l]):=λm l=>zJ rfl ow;have a1:wO prog 42 []=some (.agg [.int .i64 0,.nilsl]):=by simp[wO,aK,ja,tp,D.notTuple,D.cells]
 obtain⟨G,hG,s,j,t⟩:∃G:Heap,g.new g.next (.row [.int .i64 0,.nilsl])=G/\Ext g G/\G.at' g.next=some (.row [.int .i64 0,.nilsl])/\g.next<G.next:=⟨_,rfl,(Ext.refl g).new (zD _) _,yQ _ _ _,by rw[yA];omega⟩;have u:∀h' v z n,Ext g h'->sH v->zK5 c fs y=.tuple [.agg v,.bool z,.int .i64 n]->Q (.tuple [.agg v,.bool z,.int .i64 n]) h':=λh' v z n q N e=>hQ _ _ ⟨q,by
  simp only[wD,wU,below,qZ,N.2.2];exact⟨rP (yg _) _ N.2.1,trivial,trivial,trivial⟩,by simp only[wD,wU,N.2.2];exact e.symm⟩
 refine z5 ok9 ?_;simp only[f9,zA];cases B:(qR c fs y true==0)with
 |false=>
  have i:zK5 c fs y=.tuple [.agg [.int .i64 0,.nilsl],.bool false,.int .i64 (qR c fs y true)]:=by unfold zK5;rw[B];rfl
  have V:qP prog 42 (.ptr g.next 0) (.agg [.int .i64 0,.nilsl]) G=some G:=by
   rw[rU j (by rw[tY];rfl) rfl (by decide) rfl,nh j]
  have w:=u G _ _ _ s (show sH [.int .i64 0,.nilsl]from⟨rfl,⟨trivial,trivial,trivial⟩,rfl⟩) i
  repeat' first|simp only[go_sem, *]|apply bc<;>intro S|(refine zB.mono (k _) ?_;rintro r h ⟨C,rfl⟩)
 |true=>
  have h0:qR c fs y true=0:=by simpa using B
  have i:zK5 c fs y=.tuple [.agg ((Ig c fs y).head?.getD Ny),.bool ((Ig c fs y).head?.isSome),.int .i64 0]:=by unfold zK5;rw[B];rfl
  have hs:=R h0;have hn:=E h0;rw[h0]at k B
  repeat' first|simp only[go_sem, *]|apply bc<;>intro S|(refine zB.mono (k _) ?_;rintro r h ⟨C,rfl⟩)
  subst C
  rename Heap=>G
  refine(hs _).mono ?_;rintro r h1 ⟨q,sc,m1,m2,rfl,hS,hH,_,_⟩
  repeat' first|simp only[go_sem, *]|apply bc<;>intro S
  refine(DM hS hn hH).mono ?_;rintro r f ⟨C,rfl⟩;subst C;have hh:Ch (X4 c fs (alS fs y) (yn y fs fs.length).O 6)=.tuple [.agg ((Ig c fs y).head?.getD Ny),.bool ((Ig c fs y).head?.isSome)]:=rfl;rw[hh];obtain⟨num,l,T,_,ai,o⟩:=zGY (c:=c) (fs:=fs) (y:=y);have ag:g.next<f.next:=zy t q.1;have P:f.at' g.next=some (.row [.int .i64 0,.nilsl]):=by rw[q.2 _ t];exact j
  have A:qP prog 42 (.ptr f.next 0) (.agg [.int .i64 num,l]) (f.new f.next (.row [.int .i64 0,.nilsl]))=some (f.new f.next (.row [.int .i64 num,l])):=qk tY ow rfl rfl o.1;obtain⟨H,L,M,ad,K⟩:∃H:Heap,f.new f.next (.row [.int .i64 num,l])=H/\H.at' g.next=some (.row [.int .i64 0,.nilsl])/\H.at' f.next=some (.row [.int .i64 num,l])/\Ext g H:=⟨_,rfl,by rw[zz ow];exact P,yQ _ _ _,(s.trans q).new ow _⟩;rw[L]at A;obtain⟨F,Z,ab,J⟩:∃F:Heap,H.set g.next (.row [.int .i64 num,l])=F/\F.at' g.next=some (.row [.int .i64 num,l])/\Ext g F:=⟨_,rfl,zi _ _ _,K.set (zD _) _⟩
  have W:qP prog 42 (.ptr g.next 0) (.agg [.int .i64 num,l]) H=some F:=by
   rw[rU (cs':=[.int .i64 num,l]) M (by rw[tY];rfl) rfl (by simp) o.1,Z]
  rw[T]at i;have w:=u F _ _ _ J o i;rw[T];exact au
def gD{l m:List Int}{d e:D}(n:ye 1 (uq l) d)(o:ye 1 (uq m) e)(G:l.length<=1048576)(g:Heap):zB prog 27 [d,e] g λr h'=>h'=g/\r=.int .i64 (tc l m):=by
 have w:=rF n;have x:=rF o;obtain⟨H,I,_⟩:=yR n;obtain⟨J,K,_⟩:=yR o;refine z5 zKH ?_;simp only[f27,zA];simp only[go_sem, *];refine qx (λi fr h'=>fr 0=d/\fr 1=e/\fr 5=.int .i64 (i:Int)/\h'=g/\i<=m.length/\tc (l.drop i) (m.drop i)=tc l m) l.length ?_ ?_
 ·simp only[go_sem,zQ,zS,zF];exact⟨yg _,rfl⟩
 rintro i fr h' F ⟨B,C,E,rfl,v,a⟩;by_cases c:i<l.length
 ·have e1:decide ((i:Int)<(l.length:Int))=true:=zN ow;have y:=nG n c;by_cases p:m.length<=i
  ·have e2:decide ((i:Int)<(m.length:Int))=false:=zO ow;have e3:decide ((l.length:Int)<(m.length:Int))=false:=zO ow;have u:decide ((l.length:Int)>(m.length:Int))=true:=zN ow;have hr:tc l m=1:=by
    rw[z6 c,wp p]at a;rw[<-a];rfl
   rw[hr];exact au
  ·have e2:decide ((i:Int)<(m.length:Int))=true:=zN ow;have b:i<m.length:=ow;have z:=nG o b;rw[TU c b]at a;simp only[zK,zE c,zE b,zA]at a;have A:IntKind.i64.wrap ((i:Int)+1)=((i+1:Nat):Int):=qT (by unfold lim;omega);unfold wm at a;cases s:decide (l[i]<m[i])with
   |true=>
    have f:=zg s;rw[ip f,iq (by decide)]at a;rw[<-a];simp only[go_sem, *];refine zd kr ?_;simp only[go_sem, *]
   |false=>
    have f:=zq s;rw[iq f]at a;cases b2:decide (l[i]>m[i])with
    |true=>
     have h:=zg b2;rw[ip h,iq (by decide)]at a;rw[<-a];simp only[go_sem, *];refine zd kr ?_;simp only[go_sem, *];refine zd kr ?_;simp only[go_sem, *]
    |false=>
     have h:=zq b2;rw[iq h,ip rfl]at a;have t:i<l.length/\i+1<=m.length/\tc (l.drop (i+1)) (m.drop (i+1))=tc l m:=⟨c,b,a⟩;simp only[go_sem, *];refine zd kr ?_;simp only[go_sem, *];refine zd kr ?_;exact au
 ·have e1:decide ((i:Int)<(l.length:Int))=false:=zO ow;have q:l.length<=i:=ow;rw[wp q]at a;cases j:decide ((l.length:Int)<(m.length:Int))with
  |true=>
   have k:=zg j;have hr:tc l m= -1:=by
    rw[z6 (show i<m.length by omega)]at a;rw[<-a];rfl
   rw[hr];simp only[go_sem, *]
  |false=>
   have k:=zq j;have u:decide ((l.length:Int)>(m.length:Int))=false:=zO ow;have hr:tc l m=0:=by
    rw[wp ow]at a;rw[<-a];rfl
   rw[hr];exact au
def VV(v w:Vio):Bool:=decide (v.row<w.row)||((v.row==w.row)&&decide (tc v.facts w.facts<0))
def QU{v w:Vio}{cv cw:List D}(i:v.Is cv)(j:w.Is cw)(g:Heap):zB prog 114 [.agg cv,.agg cw] g λr h'=>h'=g/\r=.bool (VV v w):=by
 obtain⟨d,rfl,b,a⟩:=i;obtain⟨e,rfl,c,h⟩:=j;have f:=gD b c a;obtain⟨l,m,_⟩:=yR b;obtain⟨n,o,_⟩:=yR c;unfold VV;refine z5 zGk ?_;simp only[f114,zA]
 repeat' first|simp only[go_sem, *]|apply bc<;>intro k|refine zB.use (f _) ?_
def jC(a b:Vio):nS a b=Vw (wm a.row b.row) (tc a.facts b.facts):=by
 unfold nS Vw;simp only[orL];split
 ·split
  ·rename_i q;exact q.symm
  ·rfl
 ·rfl
def aO:QC nS:=by
 have:=(aN.key Vio.row).lex (d8.key Vio.facts);exact⟨λx y=>by rw[jC,jC];exact this.anti x y,λx y z=>by rw[jC,jC,jC];exact this.trans x y z⟩
def Qd(a b:Vio)(h:nS a b=0):a=b:=by
 rw[jC,Vw]at h;split at h
 ·rename_i q;have h1:=Yd _ _ q;have c:=Ye _ _ h;cases a;cases b;simp only at h1 c;rw[h1,c]
 ·rename_i q;exact absurd h q
def HR(a b:Vio):(nS a b==0)=true↔a=b:=by
 constructor
 ·intro h;exact Qd a b (by simpa using h)
 ·rintro rfl;simp[aO.refl]
def HS{a b:Vio}(h:a.row<b.row):nS a b<0:=by
 rw[jC]
 have:wm a.row b.row= -1:=by unfold wm;rw[ip h]
 rw[this,Vw,iq (by decide)];decide
section
variable{c:Cat}{fs:List Fac}{al:Nat->Option Alt}{O:KV}
def Ja(i:Nat):(mo c fs al O i).Pairwise λa b=>tc a b<0:=Qf d8 (pc d8 _)
def RX{l:List Int} :l∈mo c fs al O i↔∃z∈d9 c fs al O i,wa z=l:=by
 unfold mo;rw[Qg Ye,lv,zT]
def LL(k:Nat):WP c fs al O (k+1)=WP c fs al O k++(mo c fs al O k).map λl=>(⟨(k:Int),l⟩:Vio):=by
 unfold WP;rw[sG,tS,tP,je,zp]
def Rs{v:Vio} :v∈WP c fs al O k↔∃i:Nat,i<k/\v.row=(i:Int)/\v.facts∈mo c fs al O i:=by
 unfold WP;rw[zw];constructor
 ·rintro⟨i,a,h⟩;obtain⟨l,d,rfl⟩:=zT.1 h;exact⟨i,uZ.1 a,rfl,d⟩
 ·rintro⟨i,a,h1,b⟩;refine⟨i,uZ.2 a,zT.2 ⟨v.facts,b,?_⟩⟩;cases v;simp only at h1;rw[h1]
theorem Rr:∀k,(WP c fs al O k).Pairwise λa b=>nS a b<0
 |0=>List.Pairwise.nil
 |k+1=>by
  rw[LL];refine wg.2 ⟨Rr k,?_,λa d b e=> ?_⟩
  ·rw[kF];exact(Ja k).imp λ{a b} h=>by rw[Yf];exact h
  ·obtain⟨i,f,h1,_⟩:=Rs.1 d;obtain⟨l,_,rfl⟩:=zT.1 e;exact HS (by rw[h1];show(i:Int)<(k:Int);omega)
end
variable{c:Cat}{fs:List Fac}{al:Nat->Option Alt}
def J9{y:Cho} :(ly c fs y).Pairwise λa b=>nS a b<0:=Rr 6
def IA{y:Cho}{v:Vio} :v∈ly c fs y↔∃i:Nat,i<6/\v.row=(i:Int)/\∃z∈d9 c fs (alS fs y) (yn y fs fs.length).O i,wa z=v.facts:=by
 unfold ly;rw[Rs];constructor
 ·rintro⟨i,h1,a,h3⟩;exact⟨i,h1,a,RX.1 h3⟩
 ·rintro⟨i,h1,a,h3⟩;exact⟨i,h1,a,RX.2 h3⟩
def zLD{vs f:List Vio}{d e:D}(z:ye 2 (vcs vs) d)(A:ye 2 (vcs f) e)(G:vs.length<=1073741824)(I:∀v∈vs,v.facts.length<=1048576)(g:Heap):
  zB prog 11 [d,e] g λr h'=>h'=g/\∃b,r=.bool b/\(b=true↔vs=f):=by
 refine xP λQ s=> ?_;have H:=Vv z;have J:=Vv A;obtain⟨O,P,_⟩:=yR z;obtain⟨R,S,_⟩:=yR A;refine z5 zLI ?_;simp only[f11,zA];cases x:(((vs.length:Int))==((f.length:Int)))with
 |false=>
  have j:=s (.bool false) g ⟨rfl,false,rfl,by simp,λq=>by rw[q]at x;simp at x⟩;clear s
  repeat' first|simp only[go_sem, *]|apply bc<;>intro l
 |true=>
  have n:vs.length<=f.length/\f.length<=vs.length:=by
   have:(vs.length:Int)=f.length:=by simpa using x
   omega
  repeat' first|simp only[go_sem, *]|apply bc<;>intro l
  refine zV (λi fr h'=>fr 0=d/\fr 1=e/\fr 5=.int .i64 (i:Int)/\h'=g/\vs.take i=f.take i) vs.length G ?_ ?_ ?_
  ·simp only[go_sem,zQ,zS,zF];rfl
  ·rintro i fr h' p e1 N ⟨C,E,F,rfl,t⟩;have o:i<f.length:=ow;have L:=Pn z p;have M:=Pn A o;have k1:vs[i].cells[0]? =some (.int .i64 vs[i].row):=rfl;have k2:f[i].cells[0]? =some (.int .i64 f[i].row):=rfl;have k3:vs[i].cells[1]? =some (.sl 1 (uq vs[i].facts) .no):=rfl;have k4:f[i].cells[1]? =some (.sl 1 (uq f[i].facts) .no):=rfl;have l:=gD (ye.mk (xs:=uq vs[i].facts) .no) (ye.mk (xs:=uq f[i].facts) .no) (I _ (zG p)) h';have m:vs[i]=f[i]->vs.take (i+1)=f.take (i+1):=λq=>by rw[zH p,zH o,t,q]
   have k:vs[i]≠f[i]->Q (.bool false) h':=λq=>s _ _ ⟨rfl,false,rfl,by simp,λe=>absurd (by simp only[e]) q⟩;have heq:=Ye vs[i].facts f[i].facts;have c:∀a:List Int,tc a a=0:=λa=>d8.refl a;generalize vs[i]=v at *
   generalize f[i]=w at *
   clear x n s t;cases y:(v.row==w.row)with
   |false=>
    have j:=k λq=>by rw[q]at y;simp at y
    clear k m heq c
    repeat' first|simp only[go_sem, *]|apply bc<;>intro l
    refine zd kr ?_
    repeat' first|simp only[go_sem, *]|apply bc<;>intro l
   |true=>
    cases b2:(tc v.facts w.facts==0)with
    |false=>
     have j:=k λq=>by rw[q,c]at b2;simp at b2
     clear k m heq c
     repeat' first|simp only[go_sem, *]|apply bc<;>intro l
     refine zd kr ?_
     repeat' first|simp only[go_sem, *]|apply bc<;>intro l|(refine zB.mono l ?_;rintro r h ⟨K,rfl⟩)
    |true=>
     have u:v=w:=by
      have h1:v.row=w.row:=by simpa using y
      have B:=heq (by simpa using b2);cases v;cases w;simp only at h1 B;rw[h1,B]
     have j:=m u;clear k m heq c u
     repeat' first|simp only[go_sem, *]|apply bc<;>intro l
     refine zd kr ?_
     repeat' first|simp only[go_sem, *]|apply bc<;>intro l|(refine zB.mono l ?_;rintro r h ⟨K,rfl⟩)
  ·rintro fr h' e1 ⟨C,E,F,rfl,t⟩;have j:=s (.bool true) h' ⟨rfl,true,rfl,λ_=>by
    rw[zb,yj n.2]at t;exact t,λ_=>rfl⟩
   clear s t;exact au
end Go.V
