/- A machine of abstract values for programs of the model, further rules, part 3. No condition. -/
import Derived.Test.YtkenagjlanhnmaaGreatDoorW36
set_option linter.all false
set_option maxHeartbeats 8000000
namespace Go.V
variable{P:Program}{h g:Heap}{sz k i:Nat}{xs ys:List (List D)}{d x:D}{K:D->Heap->Prop}{c:Cat}{fs:List Fac}{al:Nat->Option Alt}{sc args cap:List D}{S0 S' S:Nat->Prop}{fr:Frm}{f:FuncId}
def rJ.app3{t e:TypeId}(m:rJ h sz xs d)(l:uu P t=some e)(o:YE P e=true)(n:szT P e=sz)(h0:0<sz)(k:∀y∈ys,y.length=sz)(s:(x=.nilsl/\ys= [])\/(ys≠[]/\∃tk,x=.sl sz ys tk))
  (f:(xs.length+ys.length)*uF P e<=lim) (g:xs.length+ys.length<=lim) (c:∀a h',rJ h' sz (xs++ys) a->h.next<=h'.next->(∀i,i<h.next->¬tu d i->h'.at' i=h.at' i)->(∀i,tu a i->h.next<=i)->a.cells= [a]->a.flat=true->K a h'):onR (qS P false h.next t d x h) K:=by
 rcases s with⟨rfl,rfl⟩ | ⟨j,tk,rfl⟩
 .simp only[yK,qD,qo]at c f g
  simp only[qS,l,o,n,TR,qF,qD,Nat.zero_div];rcases m with⟨rfl,rfl⟩ | ⟨q,rfl,h1,u⟩
  .simp only[tB,qF,fo]
   exact c _ _ (.inl ⟨rfl,rfl⟩) (zC _) (λi b _=>rfl) (λi b=>b.elim) rfl rfl
  .simp only[tB]
   rw[ip (by simp only[qo,zF,zO];exact⟨⟨trivial,f⟩,g⟩)];simp only[h1,zg,yp,fo];have p:wK sz 0 []= []:=rfl;rw[p,yK];refine c _ _ (.inr ⟨h.next,rfl,z5 _ _ _,?_⟩) ?_ (λi b r=> ?_) (λi b=> ?_) rfl rfl
   .exact zl (sX _) (jh _ _)
   .exact t9 (h.del q) _ _
   .rw[zf ow,wM λe=>r (by rw[e];rfl)]
   .simp only[tu]at b;omega
 .exact m.app2 l o n h0 k j f g c
def rJ.app4{t e:TypeId}(o:rJ h sz xs d)(m:uu P t=some e)(s:YE P e=true)(p:szT P e=sz)(h0:0<sz)(k:∀y∈ys,y.length=sz)(r:(x=.nilsl/\ys= [])\/(ys≠[]/\∃tk,x=.sl sz ys tk))
  (l:(xs.length+ys.length)*uF P e<=lim) (n:xs.length+ys.length<=lim):∃j h',qS P false h.next t d x h=some (j,h')/\rJ h' sz (xs++ys) j/\h.next<=h'.next/\(∀i,i<h.next->¬tu d i->h'.at' i=h.at' i)/\(∀i,tu j i->h.next<=i)/\j.cells= [j]/\j.flat=true:=by
 have:=o.app3 (K:=λj h'=>rJ h' sz (xs++ys) j/\h.next<=h'.next/\(∀i,i<h.next->¬tu d i->h'.at' i=h.at' i)/\(∀i,tu j i->h.next<=i)/\j.cells= [j]/\j.flat=true) m s p h0 k r l n λj h' a b c e f g=>⟨a,b,c,e,f,g⟩;unfold onR at this;split at this
 .rename_i j h' q
  exact⟨j,h',q,this⟩
 .exact this.elim
open Go.Proofs.Tryz
open Go.Proofs
set_option maxRecDepth 100000
def aq{l:List Int} :∀x∈wt l,uA x:=λx a=>by
 obtain⟨s,_,rfl⟩:=zS.1 a;exact⟨rfl,⟨trivial,trivial⟩,rfl⟩
def KB(num:Int)(l:List Int):uA (KA num l):=by
 have h:=qY (aq (l:=l)) (sz:=1) .no;refine⟨rfl,⟨trivial,h.2,trivial⟩,?_⟩;simp only[KA,qU,h.1];rfl
section
variable(c:Cat)(fs:List Fac)(al:Nat->Option Alt)(O:KV)
def WR(k:Nat):List (List D):=(List.range k).flatMap λi:Nat=>vbs (i:Int) (kP c fs al O i)
end
section
variable{c:Cat}{fs:List Fac}{al:Nat->Option Alt}{O:KV}
def gE(k:Nat):WR c fs al O (k+1)=WR c fs al O k++vbs (k:Int) (kP c fs al O k):=by
 unfold WR;rw[List.range_succ,pS,oO,List.flatMap_nil,yK]
def aW:∀x∈WR c fs al O k,uA x:=λx a=>by
 obtain⟨i,_,h⟩:=zt.1 a;obtain⟨l,_,rfl⟩:=zS.1 h;exact KB _ _
def QP(i:Nat):(kP c fs al O i).length<=(cS c fs al O i).length:=by
 unfold kP;refine zb (jA _) ?_;rw[(sD _).length_eq,zI];exact zC _
def zLd:Nat->Nat
 |0=>4096
 |1=>4096
 |2=>98304
 |3=>16777216
 |4=>576
 |_=>24
def IW(b:fs.length<=24)(i:Nat):(cS c fs al O i).length<=zLd i:=by
 have d:=ov (al:=al) b;have a:∀{α:Type}{l:List α}{f:α->List (List Int)}{m n k:Nat},l.length<=n->(∀x∈l,(f x).length<=m)->n*m<=k->(l.flatMap f).length<=k:=λh1 e h3=>zb (tJ e) (zb (yg _ h1) h3);rcases i with _|_|_|_|_|i
 .exact a (m:=1) (f:=sS c fs al) d (λt _=>by unfold sS;split<;>simp) jD
 .exact a (m:=1) (f:=ph c fs al O) d (λt _=>by
   unfold ph;split
   .simp
   .split<;>simp) jD
 .exact a (m:=24) (f:=gU c fs al) d (λt _=>XZ c b al t) jD
 .exact a (m:=4096) (f:=rq c fs al) d (λt _=>aY c b al t) jD
 .exact a (m:=24) (n:=24) (f:=lh fs O) (zb (tK _ fs 0) b) (λt _=>Xm b O t) jD
 .show(ZA c fs).length<=24
  unfold ZA;split
  .simp
  .exact a (m:=1) (n:=24) (zb (tK _ fs 0) b) (λt _=>zC _) ow
def NP(g:fs.length<=24):∀k,k<=6->(WR c fs al O k).length<=16884312:=by
 have a:∀k,(WR c fs al O (k+1)).length<=(WR c fs al O k).length+zLd k:=λk=>by
  rw[gE,zQ,pj];have:=QP (c:=c) (fs:=fs) (al:=al) (O:=O) k;have:=IW (c:=c) (al:=al) (O:=O) g k;omega
 have h0:(WR c fs al O 0).length=0:=rfl;have h1:=a 0;have d:=a 1;have h3:=a 2;have e:=a 3;have h5:=a 4;have f:=a 5;simp only[zLd,Nat.reduceAdd,yH]at h1 d h3 e h5 f;intro k h;have b:k=0\/k=1\/k=2\/k=3\/k=4\/k=5\/k=6:=ow;rcases b with rfl|rfl|rfl|rfl|rfl|rfl|rfl<;>omega
def Vh(k:Nat):(Hl c fs al O k=.nilsl/\vbs (k:Int) (kP c fs al O k)= [])\/(vbs (k:Int) (kP c fs al O k)≠[]/\∃tk,Hl c fs al O k=.sl 2 (vbs (k:Int) (kP c fs al O k)) tk):=by
 unfold Hl;by_cases h:cS c fs al O k= []
 .rw[ip h]
  refine .inl ⟨rfl,ye.1 ?_⟩;have:=QP (c:=c) (fs:=fs) (al:=al) (O:=O) k;rw[h,qD]at this;rw[pj];omega
 .rw[iq h]
  refine .inr ⟨λe=> ?_,_,rfl⟩;have a:0<(srt sQ ((cS c fs al O k).map dM)).length:=by
   rw[(sD _).length_eq,zI];exact zy.2 h
  have:=UP (c:=sQ) a _ (zC _) a;have b:(kP c fs al O k).length=0:=by rw[<-pj (k:Int),e];rfl
  unfold kP cpt at b;omega
end
def zCB(c:Cat)(fs:List Fac)(al:Nat->Option Alt)(O:KV)(n0 k:Nat)(S:Nat->Prop)(h:Heap):Prop:=
 n0<h.next/\∃d,h.at' n0=some (.row [d])/\rJ h 2 (WR c fs al O k) d/\∀i,S i↔(i=n0\/tu d i)
def zCB.lcl(c:Cat)(fs:List Fac)(al:Nat->Option Alt)(O:KV)(m:Nat):Lcl (zCB c fs al O m):=by
 refine⟨λk S h y i e=> ?_,λk S h h' y l j=> ?_⟩
 .obtain⟨f,d,g,b,a⟩:=y
  rcases(a i).1 e with rfl|q
  .exact f
  .exact(b.tok q).1
 .obtain⟨f,d,g,b,a⟩:=y
  exact⟨ow,d,by rw[j _ ((a _).2 (.inl rfl))];exact g,b.loc l λi e=>j i ((a i).2 (.inr e)),a⟩
variable{c:Cat}{fs:List Fac}{al:Nat->Option Alt}
def zJP{M:KM Int}{O:KV}{m1 m2:Nat}(hs:Stt c fs al M O sc m1 m2)(hn:fs.length<=24)(K:StH M O m1 m2 g):
  zD prog 187 [.iptr sc 0] g λr h'=>h'=g/\Fin 2 (WR c fs al O 6) r:=by
 refine xU kr λak=>xS ?_;refine xP λQ hQ=> ?_;have W:=Zd sc;refine zj zFc ?_;simp only[f187,zA];obtain⟨G,hG,J,g1,hE⟩:∃G:Heap,g.new g.next (.row [.nilsl])=G/\G.next=g.next+1/\G.at' g.next=some (.row [.nilsl])/\Ext g G:=
  ⟨_,rfl,za _ _,z5 _ _ _,(Ext.refl g).new (zC _) _⟩
 repeat' first|simp only[go_sem,Mk, *]|apply bc<;>intro hc|(refine zD.mono (W _) ?_;rintro r h ⟨hq,rfl⟩)
 subst hq
 rename Heap=>G
 generalize F:LRec.mk _ _ _ _ _ _ _=L;have Y:L.pending=none:=by rw[<-F]
 have ad:L.st=.ready:=by rw[<-F]
 have T:=zCB.lcl c fs al O g.next;have U:zCB c fs al O g.next 0 (λj=>j=g.next\/tu .nilsl j) G:=⟨ow,.nilsl,g1,.inl ⟨rfl,rfl⟩,λ_=>Iff.rfl⟩;have N:=K.ext hE;refine pO (n:=6) (el:=λi=>[Hl c fs al O i]) J T ad Y U (λyl V=>(bF hs hn (Z:=λ_ _=>False) yl V (N.ext ((Ext.refl G).new ow _)) (λe=> ?_) (λe=> ?_)).mono λr h' ⟨S',a,b,e⟩=>⟨S',a,b,e.resolve_right λq=>q⟩) ?_ ?_
 .have:=K.2.1
  rcases e with e|e|e
  .omega
  .omega
  .exact e
 .have:=K.2.2
  rcases e with e|e|e
  .omega
  .omega
  .exact e
 .intro k S0 h3 hk y X aj C
  have l:=X;rw[<-F]at l;refine wo.round (g:=zOL) mix l rfl kr kr kr ?_;simp only[go_sem];refine⟨l,?_⟩;generalize hB:LRec.mk .busy _ _ _ _ _ _=B;have S:({ B with st:=.ready,pending:=none } :LRec)=L:=by rw[<-hB,<-F]
  have m:But (λi=>i=g.next+1) h3 (h3.set (g.next+1) (.loop B)):=⟨by rw[yY];exact zC _,λj _ z=>zX z⟩;obtain⟨a1,d,p,s,E⟩:=T.round aj (λi f=>f) C m;obtain⟨H,R,a5,w⟩:∃H:Heap,h3.set (g.next+1) (.loop B)=H/\H.next=h3.next/\H.at' (g.next+1)=some (.loop B):=⟨_,rfl,yY _ _ _,zW _ _ _⟩;rw[R]at a1 p s m⊢;have A:=NP (c:=c) (al:=al) (O:=O) hn (k+1) ow;rw[gE,zQ]at A;obtain⟨u,v,v1,v2,v3,v4,v5,v6,v7⟩:=s.app4 (P:=prog) (t:=157) tg Mt tS ow (lv _ _) (Vh (c:=c) (fs:=fs) (al:=al) (O:=O) k) (by rw[Wv];unfold lim;omega) jL;rw[<-gE]at v2;have D:∀i,tu d i->i≠g.next/\i≠g.next+1:=λi f=>by
   have:=(s.tok f).2;exact⟨λe=>(by rw[e,p]at this;cases this),λe=>(by rw[e,w]at this;cases this)⟩
  have b2:v.at' g.next=some (.row [d]):=by rw[v4 _ ow λe=>(D _ e).1 rfl];exact p
  have b3:v.at' (g.next+1)=some (.loop B):=by rw[v4 _ ow λe=>(D _ e).2 rfl];exact w
  have ag:yW prog 157 (.ptr g.next 0) u v=some (v.set g.next (.row [u])):=by
   rw[yN b2 Iy jS v6 v7];rfl
  have x:∀fr,sf (LpK (g.next+1) L (zCB c fs al O g.next) k S0 h3) (g.next+1) .normal fr (v.set g.next (.row [u])):=λfr=>by
   have a6:=m.1;refine Lp.fin T S y C (S':=λi=>i=g.next\/tu u i) ?_ (λi f=> ?_) ⟨by rw[yY];omega,λi f o=> ?_⟩ ⟨by rw[yY];omega,u,zW _ _ _,v2.loc (by rw[yY];exact zC _) λi f=> ?_,λi=>Iff.rfl⟩
   .rw[zX ow];exact b3
   .rcases f with rfl|f
    .exact .inl ((E _).2 (.inl rfl))
    .exact .inr (by have:=v5 i f;omega)
   .rw[zX λe=>o (.inr ((E i).2 (.inl e))),v4 i ow λe=>o (.inr ((E i).2 (.inr e))),m.2 i f λe=>o (.inl e)]
   .rw[zX λe=>by have:=v5 i f;omega]
  simp only[go_sem,p,v1,ag];exact x _
 .intro S' h2 a0 hb ai
  obtain⟨a1,d,p,s,E⟩:=ai;have hf:=s.fin aW;have I:Ext g h2:=Ext.of_but hE hb λj z=>by
   rcases z with rfl|z
   .exact zC _
   .exact z.elim
  have a7:=hQ d h2 ⟨I,qQ (yM _) _ hf.1,hf.2⟩;exact au
def ZLp(id:Nat)(L:LRec)(V:(Nat->Prop)->Heap->Prop)(S:Nat->Prop)(h:Heap):Prop:=
 id<h.next/\h.at' id=some (.loop { L with st:=.done,pending:=some .ret })/\∃S0,V S0 h/\¬S0 id/\∀i,S i↔(i=id\/S0 i)
def LpZ(id:Nat)(L:LRec)(W:Nat->(Nat->Prop)->Heap->Prop)(V:(Nat->Prop)->Heap->Prop)(k:Nat)(S0:Nat->Prop)(h:Heap)(r:D)(h':Heap):Prop:=
 ∃S',(∀i,S' i->S0 i\/h.next<=i)/\But (λi=>i=id\/S0 i) h h'/\((r=.bool true/\h'.at' id=some (.loop L)/\W (k+1) S' h')\/(r=.bool false/\h'.at' id=some (.loop { L with st:=.done,pending:=some .ret })/\V S' h'))
section
variable{P:Program}{W:Nat->(Nat->Prop)->Heap->Prop}{V:(Nat->Prop)->Heap->Prop}{id n:Nat}{L:LRec}{el:Nat->List D}
def YLp.yldZ(w:Lcl W)(v:Lcl λ_=>V)(go:∀k S0 h3,k<n->id<h3.next->h3.at' id=some (.loop L)->W k S0 h3->¬S0 id->wo P id (el k) h3 (LpZ id L W V k S0 h3)):Yld P id n el (YLp id L W) (ZLp id L V):=by
 refine⟨λk S h y i b=> ?_,λk S h h' y l f=> ?_,λS h y i b=> ?_,λS h h' y l f=> ?_,λk S h f y=> ?_⟩
 .obtain⟨c,_,S0,d,_,a⟩:=y
  rcases(a i).1 b with rfl|t
  .exact c
  .exact w.here _ _ _ d i t
 .obtain⟨c,j,S0,d,g,a⟩:=y
  exact⟨ow,by rw[f id ((a id).2 (.inl rfl))];exact j,S0,w.loc _ _ _ _ d l λi b=>f i ((a i).2 (.inr b)),g,a⟩
 .obtain⟨c,_,S0,d,_,a⟩:=y
  rcases(a i).1 b with rfl|t
  .exact c
  .exact v.here 0 _ _ d i t
 .obtain⟨c,j,S0,d,g,a⟩:=y
  exact⟨ow,by rw[f id ((a id).2 (.inl rfl))];exact j,S0,v.loc 0 _ _ _ d l λi b=>f i ((a i).2 (.inr b)),g,a⟩
 .obtain⟨c,j,S0,d,g,a⟩:=y
  refine(go k S0 h f c j d g).mono ?_;rintro r h' ⟨S',u,o,x⟩;have m:¬S' id:=λe=>by
   rcases u _ e with q|q
   .exact g q
   .omega
  refine⟨λi=>i=id\/S' i,λi b=> ?_,⟨o.1,λi b l=>o.2 i b λe=>l ((a i).2 e)⟩,?_⟩
  .rcases b with rfl|b
   .exact .inl ((a _).2 (.inl rfl))
   .exact(u i b).imp (λq=>(a i).2 (.inr q)) λq=>q
  .rcases x with⟨rfl,p,s⟩ | ⟨rfl,p,s⟩
   .exact .inl ⟨rfl,zl c o.1,p,S',s,m,λi=>Iff.rfl⟩
   .exact .inr ⟨rfl,zl c o.1,p,S',s,m,λi=>Iff.rfl⟩
def Lp.finZ(f:Lcl W){B:LRec}(b:({ B with st:=.ready,pending:=none } :LRec)=L){h3 a:Heap}(d:id<h3.next)(j:¬S0 id)(hid:a.at' id=some (.loop B))(c:∀i,S' i->S0 i\/h3.next<=i)(g:But (λi=>i=id\/S0 i) h3 a)(l:W (k+1) S' a) :
  sf (LpZ id L W V k S0 h3) id .normal fr a:=by
 refine tj hid ⟨S',c,g.set (.inl (.inl rfl)) _,.inl ⟨rfl,by rw[zW,b],f.loc _ _ _ _ l (zC _) λi h=>zX λe=> ?_⟩⟩;subst e;rcases c _ h with q|q
 .exact j q
 .omega
def Lp.retZ(f:Lcl λ_=>V){B:LRec}(b:({ B with st:=.ready,pending:=none } :LRec)=L){h3 a:Heap}(d:id<h3.next)(j:¬S0 id)(hid:a.at' id=some (.loop B))(c:∀i,S' i->S0 i\/h3.next<=i)(g:But (λi=>i=id\/S0 i) h3 a)(l:V S' a) :
  sf (LpZ id L W V k S0 h3) id .ret fr a:=by
 refine ZI hid ⟨S',c,g.set (.inl (.inl rfl)) _,.inr ⟨rfl,by rw[zW,<-b],f.loc 0 _ _ _ l (zC _) λi h=>zX λe=> ?_⟩⟩;subst e;rcases c _ h with q|q
 .exact j q
 .omega
def Rz{a:Nat}(z:h.next=a){Q:Exit->Frm->Heap->Prop}(o:Lcl W)(D:Lcl λ_=>V)(C:L.st=.ready)(B:L.pending=none)(y:W 0 S h)
  (s:Yld P a n el (YLp a L W) (ZLp a L V)->YLp a L W 0 (λi=>i=a\/S i) (h.new a (.loop L))->zD P f args (h.new a (.loop L)) λ_ h'=>∃S',(∀j,S' j->(j=a\/S j)\/(h.new a (.loop L)).next<=j)/\But (λi=>i=a\/S i) (h.new a (.loop L)) h'/\(YLp a L W n S' h'\/ZLp a L V S' h'))
  (go:∀k S0 h3,k<n->a<h3.next->h3.at' a=some (.loop L)->W k S0 h3->¬S0 a->wo P a (el k) h3 (LpZ a L W V k S0 h3))
  (w:∀S' b,(∀j,S' j->S j\/a<=j)->But S h b->W n S' b->Q .normal fr b)
  (m:∀S' b,(∀j,S' j->S j\/a<=j)->But S h b->V S' b->Q .ret fr b):
  zD P f args (h.new a (.loop L)) λ_ h'=>∃r,h'.at' a=some (.loop r)/\r.st≠ .busy/\Wd r.pending Q fr (h'.del a):=by
 subst z;have G:(h.new h.next (.loop L)).next=h.next+1:=za _ _;have x:¬S h.next:=λe=>wH _ (o.here _ _ _ y _ e);refine(s (YLp.yldZ o D go) ⟨ow,z5 _ _ _,S,o.loc _ _ _ _ y ow λi g=>zf (by have:=o.here _ _ _ y _ g;omega),x,λi=>Iff.rfl⟩).mono ?_;have key:∀(S' S0:Nat->Prop)(b:Heap),(∀j,S' j->(j=h.next\/S j)\/(h.new h.next (.loop L)).next<=j)->But (λi=>i=h.next\/S i) (h.new h.next (.loop L)) b->¬S0 h.next->(∀i,S' i↔(i=h.next\/S0 i))->(∀j,S0 j->S j\/h.next<=j)/\But S h (b.del h.next):=by
  intro S' S0 b t p c l;refine⟨λj E=> ?_,by have:=p.1;show h.next<=b.next;omega,λi g A=> ?_⟩
  .rcases t j ((l j).2 (.inr E))with(q|q)|q
   .subst q;exact absurd E c
   .exact .inl q
   .exact .inr ow
  .have d:i≠h.next:=ow
   rw[wM d,p.2 i ow (λe=>e.elim d A),zf d]
 rintro r b ⟨S',t,p,⟨F,u,S0,v,c,l⟩ | ⟨F,u,S0,v,c,l⟩⟩
 .obtain⟨k1,k2⟩:=key S' S0 b t p c l
  refine⟨L,u,(by rw[C];intro q;cases q),?_⟩;rw[B,rp];exact w S0 _ k1 k2 (o.loc _ _ _ _ v (zC _) λi g=>wM λe=>by subst e;exact c g)
 .obtain⟨k1,k2⟩:=key S' S0 b t p c l
  refine⟨_,u,(by intro q;cases q),?_⟩;simp only[bl];exact m S0 _ k1 k2 (D.loc 0 _ _ _ v (zC _) λi g=>wM λe=>by subst e;exact c g)
end
theorem Tl{O:KV}{m:Nat}{x:List D}(h:(WR c fs al O m).head? =some x):∀k,(WR c fs al O (m+k)).head? =some x
 |0=>h
 |k+1=>by
  rw[<-qf,gE,List.head?_append,Tl h k];rfl
def Tf:List D:=[.int .i64 0,.nilsl]
def G7(l:List (List D)):D:=.tuple [.agg (l.head?.getD Tf),.bool (l.head?.isSome)]
def zBL(c:Cat)(fs:List Fac)(al:Nat->Option Alt)(O:KV)(n0 k:Nat)(S:Nat->Prop)(h:Heap):Prop:=
 n0+1<h.next/\h.at' n0=some (.row Tf)/\h.at' (n0+1)=some (.row [.bool false])/\WR c fs al O k= []/\∀i,S i↔(i=n0\/i=n0+1)
def zCA(c:Cat)(fs:List Fac)(al:Nat->Option Alt)(O:KV)(n0:Nat)(S:Nat->Prop)(h:Heap):Prop:=
 ∃x,n0+1<h.next/\h.at' n0=some (.row x)/\h.at' (n0+1)=some (.row [.bool true])/\(WR c fs al O 6).head? =some x/\∀i,S i↔(i=n0\/i=n0+1)
def zBL.lcl(c:Cat)(fs:List Fac)(al:Nat->Option Alt)(O:KV)(l:Nat):Lcl (zBL c fs al O l):=by
 refine⟨λk S h y i j=> ?_,λk S h h' y m f=> ?_⟩
 .obtain⟨g,b,d,e,a⟩:=y
  rcases(a i).1 j with rfl|rfl<;>omega
 .obtain⟨g,b,d,e,a⟩:=y
  exact⟨ow,by rw[f _ ((a _).2 (.inl rfl))];exact b,by rw[f _ ((a _).2 (.inr rfl))];exact d,e,a⟩
def zCA.lcl(c:Cat)(fs:List Fac)(al:Nat->Option Alt)(O:KV)(l:Nat):Lcl λ_=>zCA c fs al O l:=by
 refine⟨λk S h y i j=> ?_,λk S h h' y m f=> ?_⟩
 .obtain⟨x,g,b,d,e,a⟩:=y
  rcases(a i).1 j with rfl|rfl<;>omega
 .obtain⟨x,g,b,d,e,a⟩:=y
  exact⟨x,ow,by rw[f _ ((a _).2 (.inl rfl))];exact b,by rw[f _ ((a _).2 (.inr rfl))];exact d,e,a⟩
theorem Kr{M:KM Int}{O:KV}{m1 m2:Nat}(hs:Stt c fs al M O sc m1 m2)(hn:fs.length<=24)(hH:StH M O m1 m2 g):
  zD prog 76 [.iptr sc 0] g λr h'=>h'=g/\r=G7 (WR c fs al O 6):=by
 refine xU kr λbs=>xS ?_;refine xP λQ hQ=> ?_;have a6:=Zd sc;obtain⟨G,hG,ag,g1,g2,Y⟩:∃G:Heap,(g.new g.next (.row [.int .i64 0,.nilsl])).new (g.next+1) (.row [.bool false])=G/\G.next=g.next+2/\G.at' g.next=some (.row Tf)/\G.at' (g.next+1)=some (.row [.bool false])/\Ext g G:=
  ⟨_,rfl,qG _ (by rw[za];exact zC _) _,by rw[zf ow];exact z5 _ _ _,z5 _ _ _,((Ext.refl g).new (zC _) _).new ow _⟩
 refine zj zNo ?_;simp only[f76,zA]
 repeat' first|simp only[go_sem,za,Mk, *]|apply bc<;>intro hc|(refine zD.mono (a6 _) ?_;rintro r h ⟨hq,rfl⟩)
 subst hq
 rename Heap=>G
 generalize U:LRec.mk _ _ _ _ _ _ _=L;have ba:L.pending=none:=by rw[<-U]
 have bb:L.st=.ready:=by rw[<-U]
 have hW:=zBL.lcl c fs al O g.next;have hV:=zCA.lcl c fs al O g.next;have ak:zBL c fs al O g.next 0 (λj=>j=g.next\/j=g.next+1) G:=⟨ow,g1,g2,rfl,λ_=>Iff.rfl⟩;have ai:=hH.ext Y;refine Rz (n:=6) (el:=λi=>[Hl c fs al O i]) ag hW hV bb ba ak (λyl a0=>(bF hs hn yl a0 (ai.ext ((Ext.refl G).new ow _)) (λe=> ?_) (λe=> ?_))) ?_ ?_ ?_
 .have:=hH.2.1
  rcases e with e|e|e<;>omega
 .have:=hH.2.2
  rcases e with e|e|e<;>omega
 .intro k S0 h3 hk q a9 bk v
  have d:=a9;rw[<-U]at d;refine wo.round (g:=zOL) mix d rfl kr kr kr ?_;simp only[go_sem];refine⟨d,?_⟩;generalize hB:LRec.mk .busy _ _ _ _ _ _=B;have P:({ B with st:=.ready,pending:=none } :LRec)=L:=by rw[<-hB,<-U]
  have a:But (λi=>i=g.next+2) h3 (h3.set (g.next+2) (.loop B)):=⟨by rw[yY];exact zC _,λj _ R=>zX R⟩;have A:=hW.round bk (λi p=>p) v a;obtain⟨H,aj,b1,N⟩:∃H:Heap,h3.set (g.next+2) (.loop B)=H/\H.next=h3.next/\H.at' (g.next+2)=some (.loop B):=⟨_,rfl,yY _ _ _,zW _ _ _⟩;rw[aj]at A a⊢;have bx:=A;obtain⟨X,J,K,C,E⟩:=A;have w:=gE (c:=c) (fs:=fs) (al:=al) (O:=O) k;rw[C,yU]at w;rcases Vh (c:=c) (fs:=fs) (al:=al) (O:=O) k with⟨e1,e2⟩ | ⟨e1,tk,e2⟩
  .have b:∀fr,sf (LpZ (g.next+2) L (zBL c fs al O g.next) (zCA c fs al O g.next) k S0 h3) (g.next+2) .normal fr H:=λfr=>by
    refine Lp.finZ hW P q v N (S':=S0) (λi p=>.inl p) ⟨a.1,λi p f=>a.2 i p λe=>f (.inl e)⟩ ⟨X,J,K,by rw[w];exact e2,E⟩
   have hl:∀h,o9 prog 157 .nilsl h=some (.int .i64 0):=λh=>wL (yZ.nil (sz:=2)) underlying157;have h0:decide ((0:Int)>0)=false:=rfl;simp only[go_sem,e1,hl,h0];exact b _
  .obtain⟨x,xs,V⟩:=List.exists_cons_of_ne_nil e1
   rw[V]at e2;have o:x.length=2:=lv (k:Int) (kP c fs al O k) x (by rw[V];simp);have bo:∃l,x=KA (k:Int) l:=by
    have:x∈vbs (k:Int) (kP c fs al O k):=by rw[V];simp
    obtain⟨l,_,e⟩:=zS.1 this;exact⟨l,e.symm⟩
   have a8:(WR c fs al O 6).head? =some x:=by
    have:=Tl (c:=c) (fs:=fs) (al:=al) (O:=O) (m:=k+1) (x:=x) (by rw[w,V];rfl) (6- (k+1))
    rwa [show k+1+(6- (k+1))=6 by omega]at this
   have hl:∀h,o9 prog 157 (.sl 2 (x::xs) tk) h=some (.int .i64 ((x::xs).length:Int)):=λh=>wL (yZ.mk (sz:=2) tk) underlying157;have h0:decide (((x::xs).length:Int)>0)=true:=zR (by simp only[zx];omega);have ha:yc prog 157 (.sl 2 (x::xs) tk) (.int .i64 0)=some (.iptr x 0):=yR (i:=0) (yZ.mk (sz:=2) tk) tg tS rfl;have y:yO true 2 x 0=some (.agg x):=zJ o ow;have s:yW prog 137 (.ptr g.next 0) (.agg x) H=some (H.set g.next (.row x)):=ql J (by rw[tS,o]) (by rw[o];rfl) ow (by obtain⟨l,rfl⟩:=bo;rfl)
   have t:yW prog 4 (.ptr (g.next+1) 0) (.bool true) (H.set g.next (.row x))=some ((H.set g.next (.row x)).set (g.next+1) (.row [.bool true])):=by
    rw[yN (by rw[zX ow];exact K) I0 jS rfl rfl];rfl
   have b:∀fr,sf (LpZ (g.next+2) L (zBL c fs al O g.next) (zCA c fs al O g.next) k S0 h3) (g.next+2) .ret fr ((H.set g.next (.row x)).set (g.next+1) (.row [.bool true])):=λfr=>by
    have b2:=a.1;refine Lp.retZ hV P q v ?_ (S':=S0) (λi p=>.inl p) ⟨by rw[yY,yY];omega,λi p f=> ?_⟩ ⟨x,by rw[yY,yY];omega,by rw[zX ow,zW],zW _ _ _,a8,E⟩
    .rw[zX ow,zX ow];exact N
    .rw[zX λe=>f (.inr ((E i).2 (.inr e))),zX λe=>f (.inr ((E i).2 (.inl e))),a.2 i p λe=>f (.inl e)]
   simp only[go_sem,e2,hl,h0,ha,y,s,t];exact b _
 .intro S' I S hb z
  obtain⟨X,J,K,C,E⟩:=z;have u:Ext g I:=Ext.of_but Y hb λj R=>by rcases R with rfl|rfl<;>omega
  have b3:qW prog 137 []=some (.agg Tf):=by simp[qW,cR,fK,ua,Tf,D.notTuple,D.cells]
  obtain⟨W,Z,r1,r2,E1⟩:∃F,I.set g.next (.row Tf)=F/\F.at' g.next=some (.row Tf)/\F.at' (g.next+1)=some (.row [.bool false])/\Ext g F:=⟨_,rfl,zW _ _ _,by rw[zX ow];exact K,u.set (zC _) _⟩;have s:yW prog 137 (.ptr g.next 0) (.agg Tf) I=some W:=by
   rw[ql J (by rw[tS];rfl) rfl jD rfl,Z]
  obtain⟨F2,ad,r3,r4,E2⟩:∃F,W.set (g.next+1) (.row [.bool false])=F/\F.at' g.next=some (.row Tf)/\F.at' (g.next+1)=some (.row [.bool false])/\Ext g F:=⟨_,rfl,by rw[zX ow];exact r1,zW _ _ _,E1.set ow _⟩;have t:yW prog 4 (.ptr (g.next+1) 0) (.bool false) W=some F2:=by
   rw[yN r2 I0 jS rfl rfl,<-ad];rfl
  have y:yO true 2 Tf 0=some (.agg Tf):=zJ rfl ow;have a7:Q (.tuple [.agg Tf,.bool false]) F2:=hQ _ _ ⟨E2,⟨⟨trivial,trivial,trivial⟩,trivial,trivial⟩,by rw[C];rfl⟩;exact au
 .intro S' I S hb z
  obtain⟨x,X,J,K,C,E⟩:=z;have u:Ext g I:=Ext.of_but Y hb λj R=>by rcases R with rfl|rfl<;>omega
  have T:x∈WR c fs al O 6:=j8 C;obtain⟨p1,p2,p3⟩:=aW x T;have o:x.length=2:=by
   obtain⟨i,_,h⟩:=zt.1 T;exact lv _ _ x h
  have y:yO true 2 x 0=some (.agg x):=zJ o ow;have a7:Q (.tuple [.agg x,.bool true]) I:=hQ _ _ ⟨u,by
   simp only[qM,qU,below,qC,p3];exact⟨tI (yM _) _ p2,trivial,trivial⟩,by
   simp only[qM,qU,p3,G7,C];rfl⟩
  exact au
theorem AG{d x yd:D}{y:Cho}(K:uB c d)(sm:c.Sm)(hx:yZ 12 (sL fs) x)(a8:fs.length<=256)(ak:∀f∈fs,f.Ok)(hy:V7 y yd)(ck:y.Sm)
  (b8:∀a∈y.ts,a.ts≠[]->a.Ok) (hk:dX fs fs.length<=y.ts.length) (ho:(yt y fs fs.length).outs.length<=y.own.length) (g:Heap):
  zD prog 75 [d,x,yd] g λr h'=>Ext g h'/\∃sc m1 m2,r=.iptr sc 0/\Stt c fs (alS fs y) (yt y fs fs.length).M (yt y fs fs.length).O sc m1 m2/\StH (yt y fs fs.length).M (yt y fs fs.length).O m1 m2 h'/\g.next<=m1/\g.next<=m2:=by
 have a7:=K;obtain⟨a,b,e,p,rfl,ha,hb,he,hp⟩:=K;obtain⟨ta,oa,rfl,cg,cf⟩:=hy;have b9:=nu hx;obtain⟨x1,x2,_⟩:=zw hx;have c4:yO true 4 [a,b,e,p] 0=some (.agg [a,b,e,p]):=zJ rfl ow;obtain⟨sc,I⟩:∃sc,[a,b,e,p,x,.map g.next,.map (g.next+1)]=sc:=⟨_,rfl⟩;have ch:qW prog 211 [(0,.agg [a,b,e,p]),(1,x),(2,.map g.next),(3,.map (g.next+1))]=some (.agg sc):=by
  rw[<-I];clear I x1 x2 b9;rcases hx with⟨rfl,_⟩ | ⟨tk,rfl⟩ <;>simp[qW,Pj,HZ,ua,wS,D.notTuple,D.cells]
 obtain⟨G,hG,E,A⟩:∃G:Heap,(g.new g.next (.map [])).new (g.next+1) (.map [])=G/\Ext g G/\StH [] [] g.next (g.next+1) G:=
  ⟨_,rfl,((Ext.refl g).new (zC _) _).new ow _,⟨by rw[zf ow];exact z5 _ _ _,z5 _ _ _⟩,by rw[qG _ (by rw[za];exact zC _)];omega,by rw[qG _ (by rw[za];exact zC _)];omega⟩
 have c2:sc[5]? =some (.map g.next):=by rw[<-I];rfl
 have c3:sc[6]? =some (.map (g.next+1)):=by rw[<-I];rfl
 have J:Stt c fs (alS fs y) (yt y fs fs.length).M (yt y fs fs.length).O sc g.next (g.next+1):=⟨⟨a,b,e,p,x,I.symm,a7,hx,ha⟩,sm,a8,ak,λi hi=>by rw[Vl _ (zC _) i,ip hi],λi z Q=>by
  unfold alS at Q;split at Q
  .cases Q
  .split at Q
   .split at Q
    .rename_i h1 U
     cases Q;have U:=yE U;unfold lW at U⊢;rw[zE]at U⊢;cases hq:y.ts[dX fs i]? with
     |none=>rw[hq]at U;simp[mkA]at U
     |some z=>rw[hq]at U;exact b8 z (zh hq) λe=>by simp[e]at U
    .cases Q
   .cases Q⟩
 clear a7;refine zj zNn ?_;simp only[f75,zA]
 repeat' first|simp only[go_sem,za, *]|apply bc<;>intro K
 clear hG ch I;refine zY (λi fr h=>fr 1=x/\fr 5=.iptr [ta,oa] 0/\fr 7=.iptr sc 0/\fr 8=.int .i64 ((dX fs i:Nat):Int)/\fr 19=x/\fr 20=.int .i64 (fs.length:Int)/\fr 21=.int .i64 (i:Int)/\∃u,fr 9=u/\rJ h 1 (wg (yt y fs i).outs) u/\(∀j,tu u j->g.next<=j)/\Ext g h/\StH (yt y fs i).M (yt y fs i).O g.next (g.next+1) h) fs.length ow ?_ ?_ ?_
 .have Q:dX fs 0=0:=rfl
  have q:∃u,D.nilsl=u/\rJ G 1 (wg (yt y fs 0).outs) u/\(∀j,tu u j->g.next<=j)/\Ext g G/\StH (yt y fs 0).M (yt y fs 0).O g.next (g.next+1) G:=⟨_,rfl,.inl ⟨rfl,rfl⟩,λj F=>F.elim,E,A⟩;simp only[go_sem,zM,zV,zG,Q];exact q
 .clear E A
  rintro i fr h S e1 ew ⟨f1,f5,f7,f8,bx,b5,b6,u,f9,W,v,E,A⟩;have a1:=tR hx S;have hw:yO true 12 fs[i].cells 0=some (.agg fs[i].cells):=zJ rfl ow;have ad:=QV (ak _ (zH S));have m:=ml (y:=y) S;have C:=Xc S;have ag:=Jt (fs:=fs) (i:=i+1) (fs.length- (i+1)) ow;have T:=IC (y:=y) (fs:=fs) (i:=i+1) (fs.length- (i+1)) ow;rw[show i+1+(fs.length- (i+1))=fs.length by omega]at ag T;have c0:=VN (y:=y) (fs:=fs) i ow;have cm:=VG (fs:=fs) i ow;have k0:fs[i].cells[0]? =some (.int .i64 fs[i].kind):=rfl;have k2:fs[i].cells[2]? =some (.str fs[i].out):=rfl;generalize fs[i]=f at *
  generalize yt y fs i=s at *
  have aj:h.next<(h.new h.next (.row f.cells)).next:=by rw[za];omega
  obtain⟨H,hH,X,w,o,l,cc⟩:∃H:Heap,h.new h.next (.row f.cells)=H/\H.at' h.next=some (.row f.cells)/\Ext g H/\rJ H 1 (wg s.outs) u/\StH s.M s.O g.next (g.next+1) H/\h.next<H.next:=
   ⟨_,rfl,z5 _ _ _,E.new E.1 _,W.loc ow λj F=>zf (by have:=(W.tok F).1;omega),A.ext ((Ext.refl h).new (zC _) _),aj⟩
  obtain⟨n0,cb⟩:∃n,h.next=n:=⟨_,rfl⟩;have b7:=E.1;rw[cb]at hH X cc b7 aj;have cx:g.next+1<n0:=by have:=A.2.2;omega
  have bo:=ad h n0;rw[hH]at bo;clear ad E A W aj ak hH J;have k:yt y fs (i+1)=s->∃N,u=N/\rJ H 1 (wg (yt y fs (i+1)).outs) N/\(∀j,tu N j->g.next<=j)/\Ext g H/\StH (yt y fs (i+1)).M (yt y fs (i+1)).O g.next (g.next+1) H:=λe=>by
   rw[e];exact⟨u,rfl,o,v,w,l⟩
  cases b1:(f.kind==1)with
  |true=>
   rw[b1]at m C;simp only[qF]at m C;have ai:dX fs i<y.ts.length:=ow;have a2:=p4 cg ai;have a6:lW y (dX fs i)=y.ts[dX fs i]:=by unfold lW;rw[zE,zB ai];rfl
   have bk:=ck.ts _ (zH ai);rw[a6]at m;have cs:IntKind.i64.wrap (((dX fs i:Nat):Int)+1)=((dX fs (i+1):Nat):Int):=by rw[C];exact qH jL
   clear C ag a6 T;generalize y.ts[dX fs i]=z at *
   have cw:=uI bk.sl;obtain⟨z1,z2,_⟩:=zw bk.sl;cases b2:decide ((z.ts.length:Int)>0)with
   |false=>
    rw[b2]at m;have q:=k (by rw[m];rfl);clear m k o v w l
    repeat' first|simp only[go_sem, *]|apply bc<;>intro K
   |true=>
    rw[b2,ip rfl]at m;have ca:wv prog 208 (.map g.next) (.int .i64 (i:Int)) z.d H=some (H.set g.next (.map (kmD (D.int .i64) (bV (i:Int) z.d s.M)))):=TU zEt l.1.1 MB C5 (i:Int) z.d;have q:∃N,u=N/\rJ (H.set g.next (.map (kmD (D.int .i64) (bV (i:Int) z.d s.M)))) 1 (wg (yt y fs (i+1)).outs) N/\(∀j,tu N j->g.next<=j)/\Ext g (H.set g.next (.map (kmD (D.int .i64) (bV (i:Int) z.d s.M))))/\StH (yt y fs (i+1)).M (yt y fs (i+1)).O g.next (g.next+1) (H.set g.next (.map (kmD (D.int .i64) (bV (i:Int) z.d s.M)))):=by
     rw[m];refine⟨u,rfl,o.loc (zC _) λj F=>zX λe=> ?_,v,w.set (zC _) _,⟨zW _ _ _,by rw[zX ow];exact l.1.2⟩,l.2⟩;have:=(o.tok F).2;rw[e,l.1.1]at this;cases this
    clear m k o v w l
    repeat' first|simp only[go_sem, *]|apply bc<;>intro K
    refine yJ kr ?_
    repeat' first|simp only[go_sem,qL, *]|apply bc<;>intro K
  |false=>
   rw[b1]at m C;simp only[zg,yp,qo]at m C;rw[<-C]at f8;clear C ag;cases b2:(f.kind==2)with
   |false=>
    rw[b2]at m;have q:=k m;clear m k o v w l
    repeat' first|simp only[go_sem, *]|apply bc<;>intro K
   |true=>
    rw[b2,ip rfl]at m;have L:=kn o.isSl ow f.out H;have cv:=wO o.isSl;obtain⟨u1,u2,_⟩:=zw o.isSl;cases b3:(s.outs.any λz=>z==f.out)with
    |true=>
     rw[b3,ip rfl]at m;have q:=k m;rw[b3]at L;clear m k o v w l
     repeat' first|simp only[go_sem, *]|apply bc<;>intro K|(refine zD.mono L ?_;rintro r h ⟨hq,rfl⟩)
    |false=>
     rw[b3]at m L;simp only[zg,yp]at m;have a9:s.outs.length<y.own.length:=by
      rw[m,zQ,tX]at T;omega
     have a3:=sP cf a9;have bb:jR y s.outs.length=y.own[s.outs.length]:=by unfold jR;rw[zE,zB a9];rfl
     rw[bb]at m;clear bb T;generalize y.own[s.outs.length]=nm at *
     have cp:=gb f.out;have R:∀(B:Heap)(O2:KV),B.next=H.next->rJ B 1 (wg s.outs) u->Ext g B->StH s.M O2 g.next (g.next+1) B->(yt y fs (i+1)).M=s.M->(yt y fs (i+1)).O=O2->(yt y fs (i+1)).outs=s.outs++ [f.out]->
       ∃d' V,qS prog false B.next 45 u (.sl 1 [[.str f.out]] .full) B=some (d',V)/\∃N,d'=N/\rJ V 1 (wg (yt y fs (i+1)).outs) N/\(∀j,tu N j->g.next<=j)/\Ext g V/\StH (yt y fs (i+1)).M (yt y fs (i+1)).O g.next (g.next+1) V:=λB O2 hn W E Y q1 q2 q3=>by
      obtain⟨d',V,v1,v2,v3,v4,v5,v6,v7⟩:=W.app4 (P:=prog) (t:=45) (ys:=[[.str f.out]]) (x:=.sl 1 [[.str f.out]] .full) ww aR pK ow jS (.inr ⟨jS,_,rfl⟩) (by rw[qm,p6];unfold lim;simp;omega) (by rw[qm];unfold lim;simp;omega);have cu:=E.1;have t1:∀j,tu u j->j≠g.next/\j≠g.next+1:=λj F=>by
       have:=(W.tok F).2;exact⟨λe=>(by rw[e,Y.1.1]at this;cases this),λe=>(by rw[e,Y.1.2]at this;cases this)⟩
      refine⟨d',V,v1,d',rfl,by rw[q3,Md];exact v2,λj F=>by have:=v5 j F;omega,⟨ow,λj F=>by rw[v4 j ow λe=>by have:=v j e;omega,E.2 j F]⟩,by rw[q1,q2];exact⟨⟨by rw[v4 _ Y.2.1 λe=>(t1 _ e).1 rfl];exact Y.1.1,by rw[v4 _ Y.2.2 λe=>(t1 _ e).2 rfl];exact Y.1.2⟩,by have:=Y.2.1;omega,by have:=Y.2.2;omega⟩⟩
     cases b4:(nm== [])with
     |true=>
      rw[b4]at m;obtain⟨d',V,v1,q⟩:=R H s.O rfl o w l (by rw[m]) (by rw[m];rfl) (by rw[m]);clear m k o v w l R
      repeat' first|simp only[go_sem, *]|apply bc<;>intro K|(refine zD.mono L ?_;rintro r h ⟨hq,rfl⟩)
     |false=>
      rw[b4]at m;obtain⟨B,a4,ba,a5,a0,Z,c1⟩:∃B:Heap,H.set (g.next+1) (.map (kvD (cJ f.out nm s.O)))=B/\B.next=H.next/\rJ B 1 (wg s.outs) u/\Ext g B/\StH s.M (cJ f.out nm s.O) g.next (g.next+1) B/\B.at' n0=some (.row f.cells):=
       ⟨_,rfl,yY _ _ _,o.loc (zC _) λj F=>zX λe=>(by have:=(o.tok F).2;rw[e,l.1.2]at this;cases this),w.set ow _,⟨⟨by rw[zX ow];exact l.1.1,zW _ _ _⟩,l.2⟩,by rw[zX ow];exact X⟩
      have ca:wv prog 209 (.map (g.next+1)) (.str f.out) (.str nm) H=some B:=by rw[<-a4];exact TW l.1.2 MC Rk f.out nm
      obtain⟨d',V,v1,q⟩:=R B _ ba a5 a0 Z (by rw[m]) (by rw[m];rfl) (by rw[m]);clear m k o v w l R a4 ba a5 a0 Z
      repeat' first|simp only[go_sem, *]|apply bc<;>intro K|(refine zD.mono L ?_;rintro r h ⟨hq,rfl⟩)
      refine yJ kr ?_
      repeat' first|simp only[go_sem,qL, *]|apply bc<;>intro K
 .clear E A
  rintro fr h e1 ⟨f1,f5,f7,f8,bx,b5,b6,u,f9,W,v,E,A⟩;have cl:Ext g h/\∃bs m1 m2,D.iptr sc 0=.iptr bs 0/\Stt c fs (alS fs y) (yt y fs fs.length).M (yt y fs fs.length).O bs m1 m2/\StH (yt y fs fs.length).M (yt y fs fs.length).O m1 m2 h/\g.next<=m1/\g.next<=m2:=⟨E,sc,g.next,g.next+1,rfl,J,A,zC _,ow⟩;clear W v E A J;exact au
def Qr(c:Cat)(fs:List Fac)(y:Cho):List (List D):=WR c fs (alS fs y) (yt y fs fs.length).O 6
section
variable{c:Cat}{fs:List Fac}{y:Cho}{d x yd:D}(I:CIn c fs y d x yd)
include I
def CIn.start{p:Bool}(h:qN c fs y p=0)(g:Heap):zD prog 75 [d,x,yd] g λr h'=>Ext g h'/\∃sc m1 m2,r=.iptr sc 0/\Stt c fs (alS fs y) (yt y fs fs.length).M (yt y fs fs.length).O sc m1 m2/\StH (yt y fs fs.length).M (yt y fs fs.length).O m1 m2 h'/\g.next<=m1/\g.next<=m2:=by
 have h1:=I.n16 h;obtain⟨_,k1,k2,k3⟩:=RN h I.ysm;exact AG I.cat I.sm I.x ow I.ok I.cho I.ysm (λa b e=>(k3 a b e).1) ow ow g
end
variable{c:Cat}{fs:List Fac}{P:Program}{d x:D}
def Mx{y:Cho} :∀x∈Qr c fs y,uA x:=aW
def Vio.cells(v:Vio):List D:=[.int .i64 v.row,.sl 1 (wt v.facts) .no]
def vcs(l:List Vio):List (List D):=l.map Vio.cells
def Vr(l:List Vio):(vcs l).length=l.length:=zI ..
def A7{l:List Vio}(a:yZ 2 (vcs l) d)(h:Heap):o9 prog 157 d h=some (.int .i64 l.length):=by rw[wL a underlying157,Vr]
def zCM{l:List Vio}(a:yZ 2 (vcs l) d)(b:i<l.length):yc prog 157 d (.int .i64 (i:Int))=some (.iptr l[i].cells 0):=yR a tg tS (by simp[vcs,b])
def KD(c:Cat)(fs:List Fac)(al:Nat->Option Alt)(O:KV)(k:Nat):List Vio:=(List.range k).flatMap λi:Nat=>(kP c fs al O i).map λl=>⟨(i:Int),l⟩
def pq(c:Cat)(fs:List Fac)(y:Cho):List Vio:=KD c fs (alS fs y) (yt y fs fs.length).O 6
def Tm{O:KV} :WR c fs al O k=vcs (KD c fs al O k):=by
 unfold WR KD vcs vbs;rw[List.map_flatMap];congr 1
 funext i
 rw[wB];rfl
def Yi{y:Cho} :Qr c fs y=vcs (pq c fs y):=Tm
def Lr{O:KV}(i:Nat):∀l∈kP c fs al O i,l.length<=5:=λl a=>by
 unfold kP at a;have b:=fT _ _ a;obtain⟨z,d,rfl⟩:=zS.1 (ZN.1 b);exact zb (R7 z) (QO i z d)
def Fj{y:Cho} :∀v∈pq c fs y,v.Is v.cells:=λv b=>by
 obtain⟨i,_,h⟩:=zt.1 b;obtain⟨l,a,rfl⟩:=zS.1 h;have:=Lr i l a;exact⟨_,rfl,yZ.mk .no,by show l.length<=_;omega⟩
def RB{l:List Vio}(n:yZ 2 (vcs l) d)(y:l.length<=1073741824){p:Vio->Bool}(A:∀s∈l,zD prog f ([]++ [.agg s.cells]++cap) g λr h'=>h'=g/\r=.bool (p s)):
  zD prog 226 [d,.fn (.func f) [] cap] g λr h'=>h'=g/\r=.int .i64 (UT p l):=by
 have o:=A7 n;refine zj zFq ?_;simp only[f226,zA]
 repeat' first|simp only[go_sem, *]|apply bc<;>intro m
 refine zY (λi fr h=>fr 1=.fn (.func f) [] cap/\fr 0=d/\fr 6=d/\fr 7=.int .i64 (l.length:Int)/\fr 8=.int .i64 (i:Int)/\h=g/\∀j (b:j<l.length),j<i->p l[j]=false) l.length y ?_ ?_ ?_
 .simp only[go_sem,zM,zV,zG]
  exact λj b h0=>by omega
 .rintro i fr h a e1 C ⟨u,t,v,w,x,rfl,b⟩
  have q:=zCM n a;have e:=A _ (zH a);simp only[yU,yG,Vio.cells]at e;simp only[Vio.cells]at q;cases k:p l[i]with
  |true=>
   have B:=jF a b k;rw[k]at e
   repeat' first|simp only[go_sem, *]|apply bc<;>intro m|refine zD.use e ?_
  |false=>
   have z:=ug (p:=p) a b k;rw[k]at e
   repeat' first|simp only[go_sem, *]|apply bc<;>intro m|refine zD.use e ?_
   exact z
 .rintro fr h e1 ⟨u,t,v,w,x,rfl,b⟩
  have B:=jG (p:=p) λj c=>b j c c;exact au
def Yx{l:List Vio}(b:yZ 2 (vcs l) d)(e:l.length<=1073741824){p:Vio->Bool}(h:∀s∈l,zD prog f ([]++ [.agg s.cells]++cap) g λr h'=>h'=g/\r=.bool (p s)):
  zD prog 186 [d,.fn (.func f) [] cap] g λr h'=>h'=g/\r=.bool (l.any p):=by
 have a:=RB b e h;have c:=gQ (l:=l) (p:=p);refine zj zFb ?_;simp only[f186,zA]
 repeat' first|simp only[go_sem, *]|apply bc<;>intro i|refine zD.use a ?_
def GE{v w:Vio}{cv:List D}(b:v.Is cv)(c:w.Is w.cells)(g:Heap):zD prog 188 [.agg w.cells,.iptr cv 0] g λr h'=>h'=g/\r=.bool (RQ v w==0):=by
 have a:=Kp b c;have h1:=Vio.Is.two b;have d:=Vio.Is.two c;refine zj zFd ?_;simp only[f188,zA]
 repeat' first|simp only[go_sem, *]|apply bc<;>intro a|refine zD.use (a _) ?_
def gM(c:Cat)(fs:List Fac)(y:Cho)(v:Vio):Int:=
 if(!(qN c fs y true==0))=true then qN c fs y true else if(!((pq c fs y).any λw=>RQ v w==0))=true then 18 else 0
def M8{y:Cho}{d x yd:D}(I:CIn c fs y d x yd){v:Vio}{cv:List D}(M:v.Is cv)(g:Heap):
  zD prog 123 [d,x,yd,.agg cv] g λr h'=>h'=g/\r=.int .i64 (gM c fs y v):=by
 refine xU kr λF=>xS ?_;refine xP λQ J=> ?_;have l:=I.check true;have A:=λh=>I.start (p:=true) h;have t:=λh=>I.n16 (p:=true) h;obtain⟨a,b,e,p,rfl,_⟩:=I.cat;obtain⟨ta,oa,rfl,_⟩:=I.cho;obtain⟨S,T,_⟩:=zw I.x;have P:yO true 4 [a,b,e,p] 0=some (.agg [a,b,e,p]):=zJ rfl ow;have N:yO true 2 [ta,oa] 0=some (.agg [ta,oa]):=zJ rfl ow;have o:∀h',Ext g h'->Q (.int .i64 (gM c fs y v)) h':=λh' u=>J _ _ ⟨u,trivial,rfl⟩;refine zj zFF ?_;simp only[f123,zA];cases s:(qN c fs y true==0)with
 |false=>
  have m:gM c fs y v=qN c fs y true:=by unfold gM;rw[s];rfl
  have i:=o g (Ext.refl g);rw[m]at i
  repeat' first|simp only[go_sem, *]|apply bc<;>intro q|(refine zD.mono (l _) ?_;rintro r h ⟨k,rfl⟩)
 |true=>
  have h0:qN c fs y true=0:=by simpa using s
  have m:gM c fs y v=if(!((pq c fs y).any λw=>RQ v w==0))=true then 18 else 0:=by unfold gM;rw[s];rfl
  have L:=A h0;have E:=t h0;rw[h0]at l s
  repeat' first|simp only[go_sem, *]|apply bc<;>intro q|(refine zD.mono (l _) ?_;rintro r h ⟨k,rfl⟩)
  subst k
  rename Heap=>g
  refine(L _).mono ?_;rintro r h1 ⟨u,sc,m1,m2,rfl,K,H,_,_⟩
  repeat' first|simp only[go_sem, *]|apply bc<;>intro q
  refine(zJP K E H).mono ?_;rintro r B ⟨k,G⟩;subst k;have n:Fin 2 (vcs (pq c fs y)) r:=by rw[<-Yi];exact G
  have z:(pq c fs y).length<=1073741824:=by
   have:=NP (c:=c) (fs:=fs) (al:=alS fs y) (O:=(yt y fs fs.length).O) E 6 ow;rw[Tm,Vr]at this;show(KD c fs (alS fs y) (yt y fs fs.length).O 6).length<=_;omega
  have j:=Yx (f:=188) (cap:=[.iptr cv 0]) (p:=λw=>RQ v w==0) (g:=B) n.isSl z λw R=>GE M (Fj w R) B;obtain⟨r1,r2,_⟩:=zw n.isSl;have i:=o _ u;rw[m]at i;cases C:(pq c fs y).any (λw=>RQ v w==0)with
  |true=>
   rw[C]at j i
   repeat' first|simp only[go_sem, *]|apply bc<;>intro q|(refine zD.mono j ?_;rintro r h ⟨k,rfl⟩)
   subst k;exact i
  |false=>
   rw[C]at j i
   repeat' first|simp only[go_sem, *]|apply bc<;>intro q|(refine zD.mono j ?_;rintro r h ⟨k,rfl⟩)
   subst k;exact i
def Zi(c:Cat)(fs:List Fac)(y:Cho):D:=
 if(!(qN c fs y true==0))=true then .tuple [.agg Tf,.bool false,.int .i64 (qN c fs y true)]else .tuple [.agg ((Qr c fs y).head?.getD Tf),.bool ((Qr c fs y).head?.isSome),.int .i64 0]
def Zg(c:Cat)(fs:List Fac)(y:Cho):D:=
 if(!(qN c fs y false==0))=true then .tuple [.bool false,.int .i64 (qN c fs y false)]else .tuple [.bool (!(Qr c fs y).head?.isSome),.int .i64 0]
def zEo{y:Cho} :∃num l,(Qr c fs y).head?.getD Tf= [.int .i64 num,l]/\yZ 1 [] .nilsl/\l.flat=true/\uA [.int .i64 num,l]:=by
 cases h:(Qr c fs y).head? with
 |none=>exact⟨0,.nilsl,rfl,.inl ⟨rfl,rfl⟩,rfl,rfl,⟨trivial,trivial,trivial⟩,rfl⟩
 |some x=>
  have a:=j8 h;have b:=Mx x a;obtain⟨i,_,d⟩:=zt.1 a;obtain⟨l,_,rfl⟩:=zS.1 d;exact⟨_,_,rfl,.inl ⟨rfl,rfl⟩,rfl,b⟩
def bD{y:Cho}{d x yd:D}(I:CIn c fs y d x yd)(g:Heap):
  zD prog 33 [d,x,yd] g λr h'=>h'=g/\r=Zg c fs y:=by
 refine xU kr λA=>xS ?_;refine xP λQ E=> ?_;have i:=I.check false;have v:=λh=>I.start (p:=false) h;have t:=λh=>I.n16 (p:=false) h;obtain⟨a,b,e,p,rfl,_⟩:=I.cat;obtain⟨ta,oa,rfl,_⟩:=I.cho;obtain⟨P,R,_⟩:=zw I.x;have N:yO true 4 [a,b,e,p] 0=some (.agg [a,b,e,p]):=zJ rfl ow;have M:yO true 2 [ta,oa] 0=some (.agg [ta,oa]):=zJ rfl ow;have k:∀h' z n,Ext g h'->Zg c fs y=.tuple [.bool z,.int .i64 n]->Q (.tuple [.bool z,.int .i64 n]) h':=λh' z n o e=>E _ _ ⟨o,⟨trivial,trivial,trivial⟩,e.symm⟩;refine zj zNe ?_;simp only[f33,zA];cases q:(qN c fs y false==0)with
 |false=>
  have j:Zg c fs y=.tuple [.bool false,.int .i64 (qN c fs y false)]:=by unfold Zg;rw[q];rfl
  have m:=k g _ _ (Ext.refl g) j
  repeat' first|simp only[go_sem, *]|apply bc<;>intro w|(refine zD.mono (i _) ?_;rintro r h ⟨s,rfl⟩)
 |true=>
  have h0:qN c fs y false=0:=by simpa using q
  have j:Zg c fs y=.tuple [.bool (!(Qr c fs y).head?.isSome),.int .i64 0]:=by unfold Zg;rw[q];rfl
  have L:=v h0;have K:=t h0;rw[h0]at i q
  repeat' first|simp only[go_sem, *]|apply bc<;>intro w|(refine zD.mono (i _) ?_;rintro r h ⟨s,rfl⟩)
  subst s
  rename Heap=>g
  refine(L _).mono ?_;rintro r h1 ⟨o,sc,m1,m2,rfl,F,C,_,_⟩
  repeat' first|simp only[go_sem, *]|apply bc<;>intro w
  refine(Kr F K C).mono ?_;rintro r f ⟨s,rfl⟩;subst s;have G:G7 (WR c fs (alS fs y) (yt y fs fs.length).O 6)=.tuple [.agg ((Qr c fs y).head?.getD Tf),.bool ((Qr c fs y).head?.isSome)]:=rfl;rw[G];obtain⟨num,l,H,_,J,u⟩:=zEo (c:=c) (fs:=fs) (y:=y);have B:yW prog 137 (.ptr f.next 0) (.agg [.int .i64 num,l]) (f.new f.next (.row [.int .i64 0,.nilsl]))=some (f.new f.next (.row [.int .i64 num,l])):=ym tS ow rfl rfl u.1;have m:=k (f.new f.next (.row [.int .i64 num,l])) _ _ (o.new o.1 _) j;rw[H];exact au
def M9{y:Cho}{d x yd:D}(I:CIn c fs y d x yd)(g:Heap):
  zD prog 90 [d,x,yd] g λr h'=>h'=g/\r=Zi c fs y:=by
 refine xU kr λU=>xS ?_;refine xP λQ hQ=> ?_;have k:=I.check true;have R:=λh=>I.start (p:=true) h;have E:=λh=>I.n16 (p:=true) h;obtain⟨a,b,e,p,rfl,_⟩:=I.cat;obtain⟨ta,oa,rfl,_⟩:=I.cho;obtain⟨x1,x2,_⟩:=zw I.x;have ak:yO true 4 [a,b,e,p] 0=some (.agg [a,b,e,p]):=zJ rfl ow;have aj:yO true 2 [ta,oa] 0=some (.agg [ta,oa]):=zJ rfl ow;have a1:∀m l:D,yO true 2 [m,l] 0=some (.agg [m,l]):=λm l=>zJ rfl ow;have a0:qW prog 137 []=some (.agg [.int .i64 0,.nilsl]):=by simp[qW,cR,fK,ua,D.notTuple,D.cells]
 obtain⟨G,hG,s,j,t⟩:∃G:Heap,g.new g.next (.row [.int .i64 0,.nilsl])=G/\Ext g G/\G.at' g.next=some (.row [.int .i64 0,.nilsl])/\g.next<G.next:=⟨_,rfl,(Ext.refl g).new (zC _) _,z5 _ _ _,by rw[za];omega⟩;have u:∀h' v z n,Ext g h'->uA v->Zi c fs y=.tuple [.agg v,.bool z,.int .i64 n]->Q (.tuple [.agg v,.bool z,.int .i64 n]) h':=λh' v z n q N e=>hQ _ _ ⟨q,by
  simp only[qM,qU,below,qC,N.2.2];exact⟨tI (yM _) _ N.2.1,trivial,trivial,trivial⟩,by simp only[qM,qU,N.2.2];exact e.symm⟩
 refine zj zNs ?_;simp only[f90,zA];cases B:(qN c fs y true==0)with
 |false=>
  have i:Zi c fs y=.tuple [.agg [.int .i64 0,.nilsl],.bool false,.int .i64 (qN c fs y true)]:=by unfold Zi;rw[B];rfl
  have V:yW prog 137 (.ptr g.next 0) (.agg [.int .i64 0,.nilsl]) G=some G:=by
   rw[ql j (by rw[tS];rfl) rfl jD rfl,sC j]
  have w:=u G _ _ _ s (show uA [.int .i64 0,.nilsl]from⟨rfl,⟨trivial,trivial,trivial⟩,rfl⟩) i
  repeat' first|simp only[go_sem, *]|apply bc<;>intro S|(refine zD.mono (k _) ?_;rintro r h ⟨C,rfl⟩)
 |true=>
  have h0:qN c fs y true=0:=by simpa using B
  have i:Zi c fs y=.tuple [.agg ((Qr c fs y).head?.getD Tf),.bool ((Qr c fs y).head?.isSome),.int .i64 0]:=by unfold Zi;rw[B];rfl
  have hs:=R h0;have hn:=E h0;rw[h0]at k B
  repeat' first|simp only[go_sem, *]|apply bc<;>intro S|(refine zD.mono (k _) ?_;rintro r h ⟨C,rfl⟩)
  subst C
  rename Heap=>G
  refine(hs _).mono ?_;rintro r h1 ⟨q,sc,m1,m2,rfl,hS,Z,_,_⟩
  repeat' first|simp only[go_sem, *]|apply bc<;>intro S
  refine(Kr hS hn Z).mono ?_;rintro r f ⟨C,rfl⟩;subst C;have hh:G7 (WR c fs (alS fs y) (yt y fs fs.length).O 6)=.tuple [.agg ((Qr c fs y).head?.getD Tf),.bool ((Qr c fs y).head?.isSome)]:=rfl;rw[hh];obtain⟨num,l,T,_,ai,o⟩:=zEo (c:=c) (fs:=fs) (y:=y);have ag:g.next<f.next:=zl t q.1;have P:f.at' g.next=some (.row [.int .i64 0,.nilsl]):=by rw[q.2 _ t];exact j
  have A:yW prog 137 (.ptr f.next 0) (.agg [.int .i64 num,l]) (f.new f.next (.row [.int .i64 0,.nilsl]))=some (f.new f.next (.row [.int .i64 num,l])):=ym tS ow rfl rfl o.1;obtain⟨H,L,M,ad,K⟩:∃H:Heap,f.new f.next (.row [.int .i64 num,l])=H/\H.at' g.next=some (.row [.int .i64 0,.nilsl])/\H.at' f.next=some (.row [.int .i64 num,l])/\Ext g H:=⟨_,rfl,by rw[zf ow];exact P,z5 _ _ _,(s.trans q).new ow _⟩;rw[L]at A;obtain⟨F,X,Y,J⟩:∃F:Heap,H.set g.next (.row [.int .i64 num,l])=F/\F.at' g.next=some (.row [.int .i64 num,l])/\Ext g F:=⟨_,rfl,zW _ _ _,K.set (zC _) _⟩
  have W:yW prog 137 (.ptr g.next 0) (.agg [.int .i64 num,l]) H=some F:=by
   rw[ql (cs':=[.int .i64 num,l]) M (by rw[tS];rfl) rfl jS o.1,X]
  rw[T]at i;have w:=u F _ _ _ J o i;rw[T];exact au
def fS(a b:Vio):RQ a b=Rw (uq a.row b.row) (sQ a.facts b.facts):=by
 unfold RQ Rw;simp only[orL];split
 .split
  .rename_i q;exact q.symm
  .rfl
 .rfl
def zAZ:QC RQ:=by
 have:=(Xt.key Vio.row).lex (Pn.key Vio.facts);exact⟨λx y=>by rw[fS,fS];exact this.anti x y,λx y z=>by rw[fS,fS,fS];exact this.trans x y z⟩
def AO(a b:Vio)(h:RQ a b=0):a=b:=by
 rw[fS,Rw]at h;split at h
 .rename_i q
  have h1:=JR _ _ q;have c:=PH _ _ h;cases a;cases b;simp only at h1 c;rw[h1,c]
 .rename_i q;exact absurd h q
def Nm(a b:Vio):(RQ a b==0)=true↔a=b:=by
 constructor
 .intro h;exact AO a b (by simpa using h)
 .rintro rfl;simp[zAZ.refl]
section
variable{c:Cat}{fs:List Fac}{al:Nat->Option Alt}{O:KV}
def QQ{l:List Int} :l∈kP c fs al O i↔∃z∈cS c fs al O i,dM z=l:=by
 unfold kP;rw[AP PH,ZN,zS]
def HF{v:Vio} :v∈KD c fs al O k↔∃i:Nat,i<k/\v.row=(i:Int)/\v.facts∈kP c fs al O i:=by
 unfold KD;rw[zt];constructor
 .rintro⟨i,a,h⟩
  obtain⟨l,d,rfl⟩:=zS.1 h;exact⟨i,yz.1 a,rfl,d⟩
 .rintro⟨i,a,h1,b⟩
  refine⟨i,yz.2 a,zS.2 ⟨v.facts,b,?_⟩⟩;cases v;simp only at h1;rw[h1]
end
variable{c:Cat}{fs:List Fac}{al:Nat->Option Alt}
def HG{y:Cho}{v:Vio} :v∈pq c fs y↔∃i:Nat,i<6/\v.row=(i:Int)/\∃z∈cS c fs (alS fs y) (yt y fs fs.length).O i,dM z=v.facts:=by
 unfold pq;rw[HF];constructor
 .rintro⟨i,h1,a,h3⟩;exact⟨i,h1,a,QQ.1 h3⟩
 .rintro⟨i,h1,a,h3⟩;exact⟨i,h1,a,QQ.2 h3⟩
def LO{y:Cho}(h:qN c fs y true=0)(v:Vio):gM c fs y v=0↔v∈pq c fs y:=by
 unfold gM;rw[h];simp only[pN,nj,zg,yp];constructor
 .intro e
  split at e
  .exact absurd e jD
  .rename_i q
   have q:(pq c fs y).any (λw=>RQ v w==0)=true:=by simpa using q
   obtain⟨w,b,e⟩:=yu.1 q;rw[(Nm v w).1 e];exact b
 .intro a
  rw[iq]
  have:(pq c fs y).any (λw=>RQ v w==0)=true:=yu.2 ⟨v,a,(Nm v v).2 rfl⟩;rw[this];decide
end Go.V
