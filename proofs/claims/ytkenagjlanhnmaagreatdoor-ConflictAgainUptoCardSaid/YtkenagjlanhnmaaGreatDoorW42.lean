/- A machine of abstract values for programs of the model, further rules, part 5. No condition. -/
import Derived.Test.YtkenagjlanhnmaaGreatDoorW41
set_option linter.all false
set_option maxHeartbeats 8000000
namespace Go.V
section
variable{P:Program}{W:Nat->(Nat->Prop)->Heap->Prop}{V:(Nat->Prop)->Heap->Prop}{n:Nat}{L:LRec}{el:Nat->List D}
variable{f:FuncId}{args:List D}{h:Heap}{S U:Nat->Prop}{fr:Frm}
def Jz{b:Nat}(O:h.next=b){B C D:(Nat->Prop)->Heap->Prop}{Q:Exit->Frm->Heap->Prop}(v:Lcl W)(X:Lcl λ_=>V)(p:Lcl λ_=>B)(J:Lcl λ_=>C)(K:Lcl λ_=>D)(T:L.st=.ready)(R:L.pending=none)(N:W 0 S h)(I:B U h)(Z:∀i,S i->¬U i)
  (y:Yld P b n el (YLp b L W) (ZLp b L V)->YLp b L W 0 (λi=>i=b\/S i) (h.new b (.loop L))->B U (h.new b (.loop L))->(∀i,(i=b\/S i)->¬U i)->zE P f args (h.new b (.loop L)) λ_ h'=>∃S' a,(∀j,S' j->(j=b\/S j)\/(h.new b (.loop L)).next<=j)/\(∀j,a j->U j\/(h.new b (.loop L)).next<=j)/\(∀i,S' i->¬a i)/\But (λi=>(i=b\/S i)\/U i) (h.new b (.loop L)) h'/\((YLp b L W n S' h'/\C a h')\/(ZLp b L V S' h'/\D a h')))
  (go:∀k S0 h3,k<n->b<h3.next->h3.at' b=some (.loop L)->W k S0 h3->¬S0 b->uS P b (el k) h3 (LpZ b L W V k S0 h3))
  (H:∀S' a d,(∀j,S' j->S j\/b<=j)->(∀j,a j->U j\/b<=j)->(∀i,S' i->¬a i)->But (λi=>S i\/U i) h d->W n S' d->C a d->Q .normal fr d)
  (t:∀S' a d,(∀j,S' j->S j\/b<=j)->(∀j,a j->U j\/b<=j)->(∀i,S' i->¬a i)->But (λi=>S i\/U i) h d->V S' d->D a d->Q .ret fr d):
  zE P f args (h.new b (.loop L)) λ_ h'=>∃r,h'.at' b=some (.loop r)/\r.st≠ .busy/\Wb r.pending Q fr (h'.del b):=by
 subst O;have hn:(h.new h.next (.loop L)).next=h.next+1:=za _ _;have M:¬S h.next:=λe=>wN _ (v.here _ _ _ N _ e);have u:¬U h.next:=λe=>wN _ (p.here 0 _ _ I _ e);refine(y (YLp.yldZ v X go) ⟨by omega,z8 _ _ _,S,v.loc _ _ _ _ N ow λi c=>zi (by have:=v.here _ _ _ N _ c;omega),M,λi=>Iff.rfl⟩ (p.loc 0 _ _ _ I ow λi c=>zi (by have:=p.here 0 _ _ I _ c;omega)) (λi c=>by
  rcases c with rfl|c
  ·exact u
  ·exact Z i c)).mono ?_
 have key:∀(S' a S0:Nat->Prop)(d:Heap),(∀j,S' j->(j=h.next\/S j)\/(h.new h.next (.loop L)).next<=j)->(∀j,a j->U j\/(h.new h.next (.loop L)).next<=j)->(∀i,S' i->¬a i)->But (λi=>(i=h.next\/S i)\/U i) (h.new h.next (.loop L)) d->¬S0 h.next->(∀i,S' i↔(i=h.next\/S0 i))->(∀j,S0 j->S j\/h.next<=j)/\(∀j,a j->U j\/h.next<=j)/\(∀i,S0 i->¬a i)/\But (λi=>S i\/U i) h (d.del h.next)/\¬a h.next:=by
  intro S' a S0 d A l g w m o;refine⟨λj z=> ?_,λj z=>(l j z).imp (λq=>q) λq=>by omega,λi c=>g i ((o i).2 (.inr c)),⟨by have:=w.1;show h.next<=d.next;omega,λi c x=> ?_⟩,g _ ((o _).2 (.inl rfl))⟩
  ·rcases A j ((o j).2 (.inr z))with(q|q)|q
   ·subst q;exact absurd z m
   ·exact .inl q
   ·exact .inr ow
  ·have s:i≠h.next:=ow;rw[wT s,w.2 i ow (λe=>e.elim (λe=>e.elim s λq=>x (.inl q)) λq=>x (.inr q)),zi s]
 rintro r d ⟨S',a,A,l,g,w,⟨⟨Y,E,S0,F,m,o⟩,G⟩ | ⟨⟨Y,E,S0,F,m,o⟩,G⟩⟩
 ·obtain⟨k1,k2,k3,k4,k5⟩:=key S' a S0 d A l g w m o;refine⟨L,E,(by rw[T];intro q;cases q),?_⟩;rw[R,pG];exact H S0 a _ k1 k2 k3 k4 (v.loc _ _ _ _ F (zD _) λi c=>wT λe=>by subst e;exact m c) (J.loc 0 _ _ _ G (zD _) λi c=>wT λe=>by subst e;exact k5 c)
 ·obtain⟨k1,k2,k3,k4,k5⟩:=key S' a S0 d A l g w m o;refine⟨_,E,(by intro q;cases q),?_⟩;simp only[bg];exact t S0 a _ k1 k2 k3 k4 (X.loc 0 _ _ _ F (zD _) λi c=>wT λe=>by subst e;exact m c) (K.loc 0 _ _ _ G (zD _) λi c=>wT λe=>by subst e;exact k5 c)
end
open Go.Proofs
set_option maxRecDepth 100000
def Zm(c:Cat)(fs:List Fac)(p:Part):Option Vio:=(p0 c fs (oD p)).head?
structure Nd where
 var:Int
 kids:List Int
 vio:Option Vio
def ph(c:Cat)(fs:List Fac):Nat->Part->List Part
 |0,p=>if(Zm c fs p).isSome=true then []else [p]
 |m+1,p=>if(Zm c fs p).isSome=true then []else match nxV c fs p with
  |none=>[p]
  |some v=>(List.range (szV c fs v)).flatMap λk=>ph c fs m (nY c fs p v k)
def re(f:Nat->Nat->List Nd):Nat->Nat->List Int×List Nd
 |0,_=>([],[])
 |k+1,n=>((re f k n).1++ [((n+(re f k n).2.length:Nat):Int)],(re f k n).2++f k (n+(re f k n).2.length))
def oE(c:Cat)(fs:List Fac):Nat->Part->Nat->List Nd
 |0,p,_=>match Zm c fs p with
  |some v=>[⟨-1,[],some v⟩]
  |none=>[]
 |m+1,p,n=>match Zm c fs p with
  |some v=>[⟨-1,[],some v⟩]
  |none=>match nxV c fs p with
   |none=>[]
   |some v=>⟨(v:Int),(re (λk n'=>oE c fs m (nY c fs p v k) n') (szV c fs v) (n+1)).1,none⟩ ::(re (λk n'=>oE c fs m (nY c fs p v k) n') (szV c fs v) (n+1)).2
def opn(c:Cat)(fs:List Fac)(p:Part):Nat:=((List.range (ctV c fs)).filter (pS c fs p)).length
variable{c:Cat}{fs gs:List Fac}{p:Part}{f:FuncId}{args:List D}{h h' g:Heap}{S U S0:Nat->Prop}{fr:Frm}{xs:List (List D)}{sz i nid j:Nat}{d:D}{I:List Nat}{e:Ex}
def ly{v:Nat}(h:nxV c fs p=some v):v<ctV c fs/\pS c fs p v=true/\∀j,j<v->pS c fs p j=false:=by
 unfold nxV at h;rw[sX]at h;obtain⟨h1,i,b,a,h3⟩:=h;simp at a b;subst a;exact⟨b,h1,λj d=>by have:=h3 j d;simp at this;exact this⟩
def zCa(h:(yH c fs).2.2=0):pJ c=0:=by
 unfold yH at h;split at h
 ·rename_i q;rw[h]at q;exact absurd q (by decide)
 ·rename_i q;exact PA (by simpa using q)
def J5(h:pJ c=0){x:Lic}(b:x∈c.ls):x.name≠[]:=λe=>by
 have h1:c.e1=0:=by
  unfold pJ at h;split at h
  ·exact absurd h (by decide)
  ·split at h
   ·rename_i q;rw[h]at q;exact absurd q (by decide)
   ·simp_all
 obtain⟨i,a,rfl⟩:=yD.1 b;have:=fo h1 i a;unfold atE at this;rw[zB a]at this;simp only[bV]at this;rw[ip (by rw[e];rfl)]at this;cases this
def PF(h:POk c fs p)(h0:(yH c fs).2.2=0){v k:Nat}(j:v<ctV c fs)(a:k<szV c fs v)(w:Nat):deV c fs (nY c fs p v k) w=(decide (w=v)||deV c fs p w):=by
 unfold nY;unfold szV at a;by_cases f:v<(tV c fs).length
 ·rw[ip f]at a⊢;unfold deV;by_cases b:w<(tV c fs).length
  ·simp only[ip b];by_cases e:w=v
   ·subst e;have d:w<p.ts.length:=by rw[h.tl];exact b
    rw[zS rfl,lX,zC,gB d,zA,zO];have g:((tV c fs).getD w []).getD k []≠[]:=by
     rw[zC (l:=(tV c fs).getD w []),zB a];have i:(tV c fs).getD w []∈tV c fs:=by rw[zC,zB b];exact zH _
     exact((pc _ i).2.ts _ (zH a)).1
    exact yA.2 g
   ·rw[zP e,ry,zC,pO (λq=>e q.symm),<-zC]
  ·simp only[iq b];rw[zP (show¬w=v by omega),ry]
 ·rw[iq f]at a⊢;unfold deV;by_cases b:w<(tV c fs).length
  ·simp only[ip b];rw[zP (show¬w=v by omega),ry]
  ·simp only[iq b];by_cases e:w=v
   ·subst e;have d:w- (tV c fs).length<p.own.length:=by rw[h.ol];unfold ctV at j;omega
    rw[zS rfl,lX,zC,gB d,zA,kq a];have:=J5 (zCa h0) (zH a);simp[this]
   ·rw[zP e,ry,zC,pO ow,<-zC]
def Xm(g:POk c fs p)(h0:(yH c fs).2.2=0){v k:Nat}(i:nxV c fs p=some v)(f:k<szV c fs v):opn c fs (nY c fs p v k)<opn c fs p:=by
 obtain⟨h1,d,_⟩:=ly i;have key:∀l:List Nat,(l.filter (pS c fs (nY c fs p v k))).length<=(l.filter (pS c fs p)).length/\(v∈l->(l.filter (pS c fs (nY c fs p v k))).length<(l.filter (pS c fs p)).length):=λl=>by
  induction l with
  |nil=>exact⟨zD _,λh=>by cases h⟩
  |cons w l a=>
   have b:pS c fs (nY c fs p v k) w=(!decide (w=v)&&pS c fs p w):=by
    unfold pS;rw[PF g h0 h1 f];cases decide (w=v)<;>cases decide (1<szV c fs w)<;>cases deV c fs p w<;>rfl
   by_cases e:w=v
   ·subst e;rw[su,su,b,d];simp only[cG,Bool.not_true,wV,zl,yy,qS,zm];exact⟨by omega,λ_=>by omega⟩
   ·rw[su,su,b,zP e,nO,tz];split
    ·simp only[zm];exact⟨by omega,λh=>by have:=a.2 ((zw.1 h).resolve_left λq=>e q.symm);omega⟩
    ·exact⟨a.1,λh=>a.2 ((zw.1 h).resolve_left λq=>e q.symm)⟩
 exact(key _).2 (qT.2 h1)
open Go.Proofs.Tryz
def Gm:∀{a j:Nat}{x:List D},(∀y∈xs,y.length=sz)->xs[a]? =some x->j<sz->xs.flatten[a*sz+j]? =x[j]? :=by
 induction xs with
 |nil=>intro a j x _ h;cases h
 |cons z xs f=>
  intro a j x b h c;have e:=b z qG;cases a with
  |zero=>cases h;rw[yS,sZ,yZ,yg ow]
  |succ a=>
   rw[yS,yT (by rw[qf];omega),e,show(a+1)*sz+j-sz=a*sz+j by rw[qf];omega];exact f (λy d=>b y (zt _ d)) h c
def Gn{w:D} :∀{a j:Nat}{x:List D},(∀y∈xs,y.length=sz)->xs[a]? =some x->j<sz->xs.flatten.set (a*sz+j) w=(xs.set a (x.set j w)).flatten:=by
 induction xs with
 |nil=>intro a j x _ h;cases h
 |cons z xs f=>
  intro a j x b h c;have e:=b z qG;cases a with
  |zero=>cases h;rw[yS,sZ,yZ,List.set_append_left _ _ ow];rfl
  |succ a=>
   rw[yS,nU _ _ (by rw[qf];omega),e,show(a+1)*sz+j-sz=a*sz+j by rw[qf];omega,f (λy d=>b y (zt _ d)) h c];rfl
def Mn:Option Vio->List D
 |none=>[.int .i64 0,.nilsl]
 |some v=>v.cells
def ndC(m:Nd×D):List D:=.int .i64 m.1.var::m.2::Mn m.1.vio
def J6(m:Nd×D):(ndC m).length=4:=by obtain⟨⟨v,k,o⟩,d⟩:=m;cases o<;>rfl
def fx(M:List (Nd×D)):∀x∈M.map ndC,x.length=4:=λx a=>by
 obtain⟨m,_,rfl⟩:=zM.1 a;exact J6 m
def BM(h:Heap)(xs:List (List D))(d:D):Prop:=rY h 1 xs d/\(xs= []->d=.nilsl)
def BM.tok(o:BM h xs d)(a:sr d i):i<h.next/\h.at' i=some .tok:=o.1.tok a
def BM.loc(o:BM h xs d)(b:h.next<=h'.next)(a:∀i,sr d i->h'.at' i=h.at' i):BM h' xs d:=⟨o.1.loc b a,o.2⟩
def NdH(nid:Nat)(L:List Nd)(S:Nat->Prop)(h:Heap):Prop:=
 nid<h.next/\∃ (d:D) (M:List (Nd×D)),h.at' nid=some (.row [d])/\NH h 4 (M.map ndC) d/\¬bp d nid/\M.map Prod.fst=L/\(∀m∈M,BM h (wY m.1.kids) m.2)/\(∀(a b:Nat) m m' i,M[a]? =some m->M[b]? =some m'->sr m.2 i->sr m'.2 i->a=b)/\∀i,S i↔(i=nid\/bp d i\/∃m∈M,sr m.2 i)
def NH.row(o:NH h sz xs d)(a:bp d i):i<h.next/\d=.rs i sz 0 xs.length/\h.at' i=some (.row xs.flatten):=by
 rcases o with⟨rfl,_⟩ | ⟨id,rfl,h1,b,_⟩
 ·exact a.elim
 ·cases a;exact⟨b,rfl,h1⟩
def NdH.here{L:List Nd}(H:NdH nid L S h)(i:Nat)(c:S i):i<h.next:=by
 obtain⟨h0,d,M,h1,a,h3,f,h5,g,b⟩:=H;rcases(b i).1 c with rfl|q| ⟨m,e,q⟩
 ·exact h0
 ·exact(a.row q).1
 ·exact((h5 m e).tok q).1
def NdH.loc{L:List Nd}(H:NdH nid L S h)(f:h.next<=h'.next)(c:∀i,S i->h'.at' i=h.at' i):NdH nid L S h':=by
 obtain⟨h0,d,M,h1,g,h3,j,h5,k,a⟩:=H;exact⟨by omega,d,M,by rw[c _ ((a _).2 (.inl rfl))];exact h1,g.loc f λi b=>c i ((a i).2 (.inr (.inl b))),h3,j,λm e=>(h5 m e).loc f λi b=>c i ((a i).2 (.inr (.inr ⟨m,e,b⟩))),k,a⟩
def NdH.len{L:List Nd}(H:NdH nid L S h):∃d,h.at' nid=some (.row [d])/\∀h',mC prog 32 d h'=some (.int .i64 L.length):=by
 obtain⟨h0,d,M,h1,a,h3,rfl,h5,b,c⟩:=H;refine⟨d,h1,λh'=> ?_⟩;rw[zG];rcases a with⟨rfl,e⟩ | ⟨id,rfl,_⟩
 ·have:M= []:=by simpa using e
  subst this;exact wa (yi.nil (sz:=4)) underlying32
 ·rw[nM underlying32,zG]
def NdH.app{L:List Nd}(H:NdH nid L S h)(v:Int)(o:Option Vio)(O:L.length<1048576):
  ∃d,h.at' nid=some (.row [d])/\(∀z,tu d z h=h)/\∃r G w,qg prog true h.next 32 d (.sl 4 [ndC (⟨v,[],o⟩,.nilsl)] .full) h=some (r,G)/\yX prog 32 (.ptr nid 0) r G=some w/\G.at' nid=some (.row [d])/\(∀i,i<h.next->¬S i->G.at' i=h.at' i)/\∃S',NdH nid (L++ [⟨v,[],o⟩]) S' w/\(∀i,S' i->S i\/h.next<=i)/\But S h w:=by
 obtain⟨h0,d,M,h1,x,h3,rfl,h5,I,l⟩:=H;have p:(M.map ndC).length=M.length:=zG ..;rw[zG]at O;obtain⟨g,j,B,C⟩:=NH.app (P:=prog) (nid:=h.next) (tk:=.full) x YK Fj TG ow (λcs=>pH underlying139) (fx M) (ys:=[ndC (⟨v,[],o⟩,.nilsl)]) (λy Q=>by rw[ze.1 Q];exact J6 _) (by simp) (by rw[p,M8];unfold lim;simp;omega) (by rw[p];unfold lim;simp;omega);have E:M.map ndC++ [ndC (⟨v,[],o⟩,.nilsl)]=(M++ [((⟨v,[],o⟩:Nd),D.nilsl)]).map ndC:=by simp
 rw[E]at j;obtain⟨G,J,K,A,c⟩:∃G:Heap,g.new h.next (.row ((M++ [((⟨v,[],o⟩:Nd),D.nilsl)]).map ndC).flatten)=G/\G.next=h.next+1/\G.at' h.next=some (.row ((M++ [((⟨v,[],o⟩:Nd),D.nilsl)]).map ndC).flatten)/\∀i,i<h.next->¬bp d i->G.at' i=h.at' i:=
  ⟨_,rfl,by rw[<-B,za],z8 _ _ _,λi f k=>by rw[zi ow,C i k]⟩
 rw[J]at j;have u:G.at' nid=some (.row [d]):=by rw[c _ h0 h3,h1]
 have N:∀n:Nat,(M++ [((⟨v,[],o⟩:Nd),D.nilsl)]).map ndC≠[]:=λ_=>by simp
 refine⟨d,h1,x.trunc (fx M),_,G,G.set nid (.row [.rs h.next 4 0 ((M++ [((⟨v,[],o⟩:Nd),D.nilsl)]).map ndC).length]),j,by rw[yU u BC (by simp) rfl rfl];rfl,u,λi f k=>c i f λe=>k ((l _).2 (.inr (.inl e))),λi=>i=nid\/i=h.next\/∃m∈M,sr m.2 i,⟨by rw[ym];omega,_,M++ [((⟨v,[],o⟩:Nd),D.nilsl)],zW _ _ _,.inr ⟨h.next,rfl,by rw[zY ow];exact A,by rw[ym];omega,N 0⟩,λe=>by cases e;omega,by simp,λm s=> ?_,λa b m F i e1 e2 t1 t2=> ?_,λi=> ?_⟩,λi f=> ?_,⟨by rw[ym];omega,λi f k=> ?_⟩⟩
 ·rcases yp.1 s with q|q
  ·refine(h5 m q).loc (by rw[ym];omega) λi f=> ?_;obtain⟨t1,t2⟩:=(h5 m q).tok f;have R:i≠nid:=λe=>by rw[e,h1]at t2;cases t2
   rw[zY R,c i t1 λe=>by rw[(x.row e).2.2]at t2;cases t2]
  ·rw[ze.1 q];exact⟨.inl ⟨rfl,rfl⟩,λ_=>rfl⟩
 ·have key:∀(a:Nat) m,(M++ [((⟨v,[],o⟩:Nd),D.nilsl)])[a]? =some m->sr m.2 i->M[a]? =some m:=λa m e t=>by
   rcases Nat.lt_or_ge a M.length with q|q
   ·rw[<-e,yg q]
   ·rw[yT q]at e;have:=ze.1 (zg e);subst this;exact t.elim
  exact I a b m F i (key a m e1 t1) (key b F e2 t2) t1 t2
 ·constructor
  ·rintro(q|q| ⟨m,s,q⟩)
   ·exact .inl q
   ·exact .inr (.inl q)
   ·exact .inr (.inr ⟨m,tK _ s,q⟩)
  ·rintro(q|q| ⟨m,s,q⟩)
   ·exact .inl q
   ·exact .inr (.inl q)
   ·rcases yp.1 s with h|h
    ·exact .inr (.inr ⟨m,h,q⟩)
    ·rw[ze.1 h]at q;exact q.elim
 ·rcases f with rfl|rfl|q
  ·exact .inl ((l _).2 (.inl rfl))
  ·exact .inr (zD _)
  ·exact .inl ((l _).2 (.inr (.inr q)))
 ·rw[zY (λe=>k ((l _).2 (.inl e))),c i f λe=>k ((l _).2 (.inr (.inl e)))]
theorem NdH.kid{L:List Nd}(H:NdH nid L S h){a:Nat}{nd:Nd}(r:L[a]? =some nd)(n:Int)(hl:nd.kids.length<1048576):
  ∃f N,h.at' nid=some (.row [.rs f 4 0 N])/\nid<h.next/\f<h.next/\N=L.length/\∃cs R,h.at' f=some (.row cs)/\cs[a*4+1]? =some R/\∃g G A,qg prog false h.next 30 R (.sl 1 [[.int .i64 n]] .full) h=some (g,G)/\yX prog 30 (.ptr f (a*4+1)) g G=some A/\G.at' nid=some (.row [.rs f 4 0 N])/\G.at' f=some (.row cs)/\∃S',NdH nid (L.set a { nd with kids:=nd.kids++ [n] }) S' A/\(∀i,S' i->S i\/h.next<=i)/\But S h A:=by
 obtain⟨h0,d,M,h1,Y,h3,rfl,h5,O,p⟩:=H;rw[zj]at r;obtain⟨m,u,rfl⟩:∃m,M[a]? =some m/\m.1=nd:=by
  cases q:M[a]? with
  |none=>rw[q]at r;cases r
  |some m=>rw[q]at r;exact⟨m,rfl,by cases r;rfl⟩
 have o:=zg u;have Z:=(zK.1 u).1;rcases Y with⟨rfl,e⟩ | ⟨f,rfl,r1,r2,r3⟩
 ·have:M= []:=by simpa using e
  subst this;cases u
 have v:(M.map ndC)[a]? =some (ndC m):=by rw[zj,u];rfl
 obtain⟨g,G,e1,e2,e3,y,J,W,X⟩:=(h5 m o).1.app4 (P:=prog) (x:=.sl 1 [[.int .i64 n]] .full) (ys:=wY [n]) qv Z3 sI ow bR (.inr ⟨by simp[wY],.full,rfl⟩) (by rw[wI,lq];unfold lim;simp[wY];omega) (by rw[wI];unfold lim;simp[wY];omega);have E:wY m.1.kids++wY [n]=wY (m.1.kids++ [n]):=by simp[wY]
 rw[E]at e2;have U:∀i V,h.at' i=some (.row V)->¬sr m.2 i:=λi V e t=>by rw[((h5 m o).tok t).2]at e;cases e
 have K:G.at' nid=some (.row [.rs f 4 0 (M.map ndC).length]):=by rw[y _ h0 (U _ _ h1),h1]
 have z:G.at' f=some (.row (M.map ndC).flatten):=by rw[y _ r2 (U _ _ r1),r1]
 have F:nid≠f:=λe=>h3 e;have D:(M.map ndC).flatten.length=M.length*4:=by rw[tE (fx M),zG]
 have w:(M.map ndC).flatten.set (a*4+1) g=((M.set a ({ m.1 with kids:=m.1.kids++ [n] },g)).map ndC).flatten:=by
  rw[Gn (fx M) v ow,tR];rfl
 refine⟨f,_,h1,h0,r2,by simp,(M.map ndC).flatten,m.2,r1,by rw[Gm (fx M) v ow];rfl,g,G,G.set f (.row ((M.set a ({ m.1 with kids:=m.1.kids++ [n] },g)).map ndC).flatten),e1,by rw[yU z zGp (by rw[D];omega) W X,w],K,z,λi=>i=nid\/i=f\/∃k∈M.set a ({ m.1 with kids:=m.1.kids++ [n] },g),sr k.2 i,⟨by rw[ym];omega,_,M.set a ({ m.1 with kids:=m.1.kids++ [n] },g),by rw[zY F];exact K,.inr ⟨f,by simp,zW _ _ _,by rw[ym];omega,by rw[tR];simpa using r3⟩,h3,by rw[tR],λk l=> ?_,λI b' m1 m2 i q1 q2 t1 t2=> ?_,λi=>Iff.rfl⟩,λi j=> ?_,⟨by rw[ym];exact e3,λi j Q=> ?_⟩⟩
 ·rcases uw l with q|rfl
  ·obtain⟨b,hb,rfl⟩:=yD.1 l;rw[List.getElem_set]at q⊢;split
   ·exact⟨e2.loc (by rw[ym];exact zD _) λi j=>(by rw[zY λe=>by have:=(e2.tok j).2;rw[e,z]at this;cases this]),λe=>(by simp[wY]at e)⟩
   ·rename_i B;have C:b<M.length:=by simpa using hb
    have s:M[b]∈M:=zH _;refine(h5 _ s).loc (by rw[ym];exact e3) λi j=> ?_;obtain⟨t1,t2⟩:=(h5 _ s).tok j;rw[zY (λe=>by rw[e,r1]at t2;cases t2),y i t1 λt=>B (O a b m _ i u (zB C) t j)]
  ·exact⟨e2.loc (by rw[ym];exact zD _) λi j=>(by rw[zY λe=>by have:=(e2.tok j).2;rw[e,z]at this;cases this]),λe=>(by simp[wY]at e)⟩
 ·have key:∀(c:Nat) k,(M.set a ({ m.1 with kids:=m.1.kids++ [n] },g))[c]? =some k->sr k.2 i->(c=a/\h.next<=i)\/(c≠a/\M[c]? =some k/\i<h.next):=λc k e t=>by
   rw[ou]at e;split at e
   ·rename_i q;cases e;exact .inl ⟨q.symm,J i t⟩
   ·rename_i q;exact .inr ⟨λe=>q e.symm,e,((h5 k (zg e)).tok t).1⟩
  rcases key I m1 q1 t1 with⟨k1,k2⟩ | ⟨k1,k2,k3⟩ <;>rcases key b' m2 q2 t2 with⟨l1,T⟩ | ⟨l1,T,l3⟩
  ·omega
  ·omega
  ·omega
  ·exact O I b' m1 m2 i k2 T t1 t2
 ·rcases j with rfl|rfl| ⟨k,l,t⟩
  ·exact .inl ((p _).2 (.inl rfl))
  ·exact .inl ((p _).2 (.inr (.inl rfl)))
  ·rcases uw l with q|rfl
   ·exact .inl ((p _).2 (.inr (.inr ⟨k,q,t⟩)))
   ·exact .inr (J i t)
 ·rw[zY (λe=>Q ((p _).2 (.inr (.inl e)))),y i j λt=>Q ((p _).2 (.inr (.inr ⟨m,o,t⟩)))]
abbrev zHT(p:Part):D:=.agg [tsD p,owD p]
theorem Rh(f:Nat->Nat->List Nd):∀k n,(re f k n).1.length=k
 |0,_=>rfl
 |k+1,n=>by rw[re,zR,Rh f k n];rfl
def Lb(f:Nat->Nat->List Nd)(n:Nat):∀{k m:Nat},k<=m->(re f k n).2.length<=(re f m n).2.length:=λ{k m} h=>by
 induction m with
 |zero=>rw[Nat.le_zero.1 h];exact zD _
 |succ m a=>
  rcases Nat.lt_or_eq_of_le h with q|rfl
  ·refine zf (a ow) ?_;rw[re,zR];omega
  ·exact zD _
section
variable{c:Cat}{fs:List Fac}{ca cb ce cp x td od:D}
def POk.alt(S:SpD c fs ca cb ce cp x td od)(b:POk c fs p):∀t∈p.ts,t.length<=64:=λt e=>by
 obtain⟨i,a,rfl⟩:=yD.1 e;rcases b.t i _ (zB a)with q|q
 ·rw[q];exact yC _
 ·have f:i<(tV c fs).length:=by rw[<-b.tl];exact a
  have d:(tV c fs).getD i []∈tV c fs:=by rw[zC,zB f];exact zH _
  exact((S.t64 _ d).2.ts _ q).2
def POk.cin(S:SpD c fs ca cb ce cp x td od)(b:POk c fs p):CIn c fs (oD p) (.agg [ca,cb,ce,cp]) x (zHT p):=
 ⟨S.cat,S.sm,S.x,by have:=S.few.1.2;omega,S.few.1.1,S.ok,⟨_,_,rfl,yi.mk .no,yi.mk .no⟩,⟨by have:=S.tl;have:=b.tl;show(p.ts.map nu).length<=_;rw[zG];omega,by have:=S.ol;have:=b.ol;show p.own.length<=_;omega,λa d=>by
  obtain⟨t,e,rfl⟩:=zM.1 d;exact⟨by rw[gT];exact Kc t,by rw[gT];have:=b.alt S t e;omega⟩⟩⟩
def POk.err(S:SpD c fs ca cb ce cp x td od)(b:POk c fs p):uT c fs (oD p) true=0:=by
 have h1:(oD p).ts.length=(tV c fs).length:=by show(p.ts.map nu).length=_;rw[zG,b.tl]
 have e:(oD p).own.length=(oV c fs).length:=b.ol;have e1:j9 (n9 (tV c fs) (oD p).ts true) (oD p).ts.length=0:=tZ λi a=>by
  rw[h1,<-b.tl]at a;unfold n9
  have:(oD p).ts[i]? =some (nu p.ts[i]):=by show(p.ts.map nu)[i]? =_;rw[zj,zB a];rfl
  rw[this];simp only[gT];rcases b.t i _ (zB a)with q|q
  ·rw[q];rfl
  ·split
   ·rfl
   ·rw[iq];simp only[qM,rz,yu];simpa using⟨_,q,(lw _ _).2 rfl⟩
 have e2:j9 (Qh c (oD p).own true) (oD p).own.length=0:=tZ λi a=>by
  unfold Qh;have d:(oD p).own[i]∈p.own:=zH a;rw[zB a];generalize(oD p).own[i]=s at d;rcases b.o s d with q| ⟨y,f,q⟩
  ·rw[q];rfl
  ·split
   ·rename_i h;cases h
   ·rename_i h;cases h;split
    ·rfl
    ·rw[iq];simp only[qM,rz,yu];simpa using⟨y,f,q⟩
 unfold uT;rw[iq (by rw[S.v0];decide),iq (by rw[h1,e];unfold tV oV;simp),iq (by rw[show j9 (n9 (yH c fs).1 (oD p).ts true) (oD p).ts.length=0 from e1];decide)]
 exact e2
def zEX(S:SpD c fs ca cb ce cp x td od)(a:POk c fs p):Zj c fs (oD p)=.tuple [.agg (Mn (Zm c fs p)),.bool (Zm c fs p).isSome,.int .i64 0]:=by
 unfold Zj;rw[a.err S,Ka];unfold Zm vcs;cases p0 c fs (oD p)<;>rfl
end
abbrev vfN(yid nid vid:Nat)(sp:List D):D:=.fn (.func 89) [] [.iptr [.ptr nid 0] 0,.iptr [.iptr sp 0] 0,.iptr [.yld yid] 0,.ptr vid 0]
abbrev elP(Lw:List Part)(k:Nat):List D:=[zHT (Lw.getD k ⟨[],[]⟩)]
def zHP(Y:Nat->(Nat->Prop)->Heap->Prop)(Z:(Nat->Prop)->Heap->Prop)(nid:Nat)(S1 S2:Nat->Prop)(h:Heap)(k:Nat)(L:List Nd)(r:D)(h':Heap):Prop:=
 ∃S1' S2',(∀i,S1' i->S1 i\/h.next<=i)/\(∀i,S2' i->S2 i\/h.next<=i)/\(∀i,S1' i->¬S2' i)/\But (λi=>S1 i\/S2 i) h h'/\((r=.bool true/\Y k S1' h'/\NdH nid L S2' h')\/(r=.bool false/\Z S1' h'/\∃L',NdH nid L' S2' h'))
variable{c:Cat}{fs:List Fac}
def nq{v:Vio}(e:Zm c fs p=some v)(m n:Nat):ph c fs m p= []/\oE c fs m p n= [⟨-1,[],some v⟩]:=by
 cases m<;>simp[ph,oE,e]
def aS(e:Zm c fs p=none)(e2:nxV c fs p=none)(m n:Nat):ph c fs m p= [p]/\oE c fs m p n= []:=by
 cases m<;>simp[ph,oE,e,e2]
def Heap.two(i j:Nat)(h:Heap):Heap:=⟨0,λk=>if k=i\/k=j then h.at' k else none⟩
def I9(i j:Nat)(h:Heap):(Heap.two i j h).at' i=h.at' i:=ip (.inl rfl)
def HA(i j:Nat)(h:Heap):(Heap.two i j h).at' j=h.at' j:=ip (.inr rfl)
def UW(h1:h'.at' i=h.at' i)(a:h'.at' j=h.at' j):HLe (Heap.two i j h) h':=λk b e=>by
 simp only[Heap.two]at e;split at e
 ·rename_i q;rcases q with rfl|rfl
  ·rw[h1];exact e
  ·rw[a];exact e
 ·cases e
section
variable{c:Cat}{fs:List Fac}{ca cb ce cp x td od:D}
theorem GW(S:SpD c fs ca cb ce cp x td od){z nid s:Nat}{Lw:List Part}{Y:Nat->(Nat->Prop)->Heap->Prop}{Z:(Nat->Prop)->Heap->Prop}(y:Yld prog z Lw.length (elP Lw) Y Z):∀(m:Nat)(p:Part),POk c fs p->opn c fs p<=m->∀k,(∀j q,(ph c fs m p)[j]? =some q->Lw[k+j]? =some q)->∀L S1 X h,Y k S1 h->NdH nid L X h->(∀i,S1 i->¬X i)->s<h.next->¬S1 s->¬X s->h.at' s=some (.row [vfN z nid s [ca,cb,ce,cp,x,td,od]])->L.length+(oE c fs m p L.length).length<=1048576->zE prog 89 [zHT p,.iptr [.ptr nid 0] 0,.iptr [.iptr [ca,cb,ce,cp,x,td,od] 0] 0,.iptr [.yld z] 0,.ptr s 0] h (zHP Y Z nid S1 X h (k+(ph c fs m p).length) (L++oE c fs m p L.length)):=by
 intro m
 induction m using Nat.strongRecOn with
 |ind m ih=>
 intro p hp hm k hk L S1 X h hY hN hd v0 v1 v2 hv hB;have di:∀h,HLe Heap.emp h:=λh i ob e=>by cases e
 have ds:yW true 4 [ca,cb,ce,cp,x,td,od] 0=some (.agg [ca,cb,ce,cp]):=rfl;have w:=LB (hp.cin S);rw[zEX S hp]at w;obtain⟨d,n1,n2⟩:=hN.len;refine xP λQ hQ=> ?_;cases e0:Zm c fs p with
 |some v=>
  obtain⟨U,V⟩:=nq e0 m L.length;rw[U,V]at hQ;rw[V]at hB;rw[e0]at w;simp only[Mn,Vio.cells,Option.isSome]at w;have b8:yX prog 137 (.ptr h.next 0) (.agg [.int .i64 v.row,.sl 1 (wY v.facts) .no]) (h.new h.next (.row [.int .i64 0,.nilsl]))=some (h.new h.next (.row [.int .i64 v.row,.sl 1 (wY v.facts) .no])):=qK so ow rfl rfl rfl;have hb:qd prog 139 [(0,.int .i64 (-1)),(2,.agg [.int .i64 v.row,.sl 1 (wY v.facts) .no])]=some (.agg (ndC (⟨-1,[],some v⟩,.nilsl))):=by
   simp[qd,Xr,aT,ur,wo,ndC,Mn,Vio.cells,D.cells,D.notTuple]
  have b3:∀nid H,yB prog false nid 32 1 [(0,.agg (ndC (⟨-1,[],some v⟩,.nilsl)))] H=some (.sl 4 [ndC (⟨-1,[],some v⟩,.nilsl)] .full,H):=λnid H=>qW (x:=.agg (ndC (⟨-1,[],some v⟩,.nilsl))) YK aT TG rfl rfl ow ow rfl rfl;obtain⟨G,hG,hE,bx,c3⟩:∃G:Heap,h.new h.next (.row [.int .i64 v.row,.sl 1 (wY v.facts) .no])=G/\Ext h G/\G.next=h.next+1/\G.at' h.next=some (.row [.int .i64 v.row,.sl 1 (wY v.facts) .no]):=⟨_,rfl,(Ext.refl h).new (zD _) _,za _ _,z8 _ _ _⟩;rw[hG]at b8;have B:=hN.loc hE.1 λi o=>hE.2 i (hN.here i o)
  obtain⟨d',a1,a2,r,G1,G2,a3,a4,b1,b2,M,a5,a6,a7⟩:=B.app (-1) (some v) (by simp at hB;omega);rw[bx]at a3;have A:=y.ext hY hE;have ad:Q (.bool true) G2:=hQ _ _ ⟨S1,M,λi o=>.inl o,λi o=>(a6 i o).imp id λq=>by omega,λi h1 R=>by
   rcases a6 i R with q|q
   ·exact hd i h1 q
   ·have:=y.here _ _ _ hY i h1;omega,(hE.but _).trans ⟨a7.1,λi o hn=>a7.2 i o λq=>hn (.inr q)⟩ λi o=>.inl o,.inl ⟨rfl,y.loc _ _ _ _ A a7.1 λi o=>a7.2 i (by have:=y.here _ _ _ A i o;omega) (hd i o),a5⟩⟩
  have E:HLe (Heap.two nid h.next G) G:=UW rfl rfl;have ag:HLe (Heap.two nid h.next G) G1:=UW (by rw[b1,a1]) (b2 _ ow λq=>wN _ (hN.here _ q));have t1:(Heap.two nid h.next G).at' nid=some (.row [d']):=by rw[I9];exact a1
  have t2:(Heap.two nid h.next G).at' h.next=some (.row [.int .i64 v.row,.sl 1 (wY v.facts) .no]):=by rw[HA];exact c3
  clear hQ hY hN hd v0 v1 v2 hv hB U V e0 hk hm ih B A hG a5 a6 a7 b1 b2;refine zu zHh ?_;simp only[f89,zA]
  repeat' first|simp only[go_sem, *]|apply bc<;>intro C
  refine qH Heap.emp [(0,.st,true),(4,.st,true),(8,.st,true),(1,.no,true),(2,.no,true),(3,.st,true),(5,.no,true),(6,.no,true),(7,.st,true),(9,.st,true),(10,.no,true),(11,.no,true),(12,.no,true),(13,.no,true),(14,.no,true),(15,.no,true),(16,.no,true),(17,.no,true)] kr kr (λi ob e=>by cases e) ?_
  repeat' first|simp only[go_sem, *]|apply bc<;>intro C
  refine kK _ (λH=>w H) ?_
  repeat' first|simp only[go_sem, *]|apply bc<;>intro C
  refine qH (Heap.two nid h.next G) [(0,.st,true),(1,.no,true),(4,.no,true),(2,.no,true),(3,.no,true),(5,.no,true),(6,.no,true),(7,.no,true),(8,.no,true),(9,.no,false)] kr kr E ?_
  repeat' first|simp only[go_sem, *]|apply bc<;>intro C
 |none=>
  rw[e0]at w;simp only[Mn,Option.isSome]at w;have O:=Bz S hp;have b8:yX prog 137 (.ptr h.next 0) (.agg [.int .i64 0,.nilsl]) (h.new h.next (.row [.int .i64 0,.nilsl]))=some (h.new h.next (.row [.int .i64 0,.nilsl])):=qK so ow rfl rfl rfl;obtain⟨G,hG,hE,bx⟩:∃G:Heap,h.new h.next (.row [.int .i64 0,.nilsl])=G/\Ext h G/\G.next=h.next+1:=⟨_,rfl,(Ext.refl h).new (zD _) _,za _ _⟩;rw[hG]at b8;have A:=y.ext hY hE;have B:=hN.loc hE.1 λi o=>hE.2 i (hN.here i o);cases e1:nxV c fs p with
  |none=>
   obtain⟨U,V⟩:=aS e0 e1 m L.length;rw[U,V,yL]at hQ;rw[U]at hk;rw[e1]at O;have b7:Lw[k]? =some p:=hk 0 p rfl;have b6:=(zK.1 b7).1;have b5:=y.go k S1 G b6 A;rw[elP,zC,b7,zA]at b5;have ad:∀r h',(∃S',(∀i,S' i->S1 i\/G.next<=i)/\But S1 G h'/\((r=.bool true/\Y (k+1) S' h')\/(r=.bool false/\Z S' h')))->Q r h':=by
    rintro r h' ⟨S',q1,q2,q3⟩;refine hQ _ _ ⟨S',X,λi o=>(q1 i o).imp id λq=>by omega,λi o=>.inl o,λi h1 R=> ?_,(hE.but _).trans ⟨q2.1,λi o hn=>q2.2 i o λq=>hn (.inl q)⟩ λi o=>.inl o,?_⟩
    ·rcases q1 i h1 with q|q
     ·exact hd i q R
     ·have:=hN.here i R;omega
    ·have cl:=B.loc q2.1 λi o=>q2.2 i (B.here i o) λq=>hd i q o;rcases q3 with⟨rfl,q⟩ | ⟨rfl,q⟩
     ·exact .inl ⟨rfl,q,cl⟩
     ·exact .inr ⟨rfl,q,_,cl⟩
   clear hQ hY hN hd v0 v1 v2 hv hB U V e0 e1 hk b7 b6 hm ih B A;refine zu zHh ?_;simp only[f89,zA]
   repeat' first|simp only[go_sem, *]|apply bc<;>intro C
   refine qH Heap.emp [(0,.st,true),(4,.st,true),(8,.st,true),(1,.no,true),(2,.no,true),(3,.st,true),(5,.no,true),(6,.no,true),(7,.st,true),(9,.st,true),(10,.no,true),(11,.no,true),(12,.no,true),(13,.no,true),(14,.no,true),(15,.no,true),(16,.no,true),(17,.no,true)] kr kr (λi ob e=>by cases e) ?_
   repeat' first|simp only[go_sem, *]|apply bc<;>intro C
   refine kK _ (λH=>w H) ?_
   repeat' first|simp only[go_sem, *]|apply bc<;>intro C|(refine zE.mono (O _) ?_;rintro r h ⟨hq,rfl⟩)
   subst hq
   repeat' first|simp only[go_sem, *]|apply bc<;>intro C
   refine b5.mono λr h' hq=> ?_;have hq:=ad r h' hq;clear ad b5
   repeat' first|simp only[go_sem, *]|apply bc<;>intro C
  |some v=>
   obtain⟨b9,cx,_⟩:=ly e1;obtain⟨J,rfl⟩:∃J,m=J+1:=⟨m-1,by
    have:0<opn c fs p:=yA.2 (lg (wZ.2 ⟨qT.2 b9,cx⟩));omega⟩
   have U:ph c fs (J+1) p=(List.range (szV c fs v)).flatMap λk=>ph c fs J (nY c fs p v k):=by simp[ph,e0,e1]
   have V:∀n,oE c fs (J+1) p n= ⟨(v:Int),(re (λk n'=>oE c fs J (nY c fs p v k) n') (szV c fs v) (n+1)).1,none⟩ ::(re (λk n'=>oE c fs J (nY c fs p v k) n') (szV c fs v) (n+1)).2:=λn=>by simp[oE,e0,e1]
   rw[U,V]at hQ;rw[V,zm]at hB;rw[U]at hk;have ih:=ih J ow;have cv:=λi o=>Xm hp S.v0 (v:=v) (k:=i) e1 o;have dr:szV c fs v<=1048576:=by
    unfold szV;split
    ·rename_i q;have hm:(tV c fs).getD v []∈tV c fs:=by rw[zC,zB q];exact zH _
     have:=(S.t64 _ hm).1;omega
    ·exact S.sm.ls.1
   generalize hF:(λk n'=>oE c fs J (nY c fs p v k) n')=F at *
   have bs:∀k n',oE c fs J (nY c fs p v k) n'=F k n':=λk n'=>by rw[<-hF]
   generalize hK:(λi=>gE (List.range (szV c fs v)) (λk=>ph c fs J (nY c fs p v k)) i)=K;have cf:K 0=0:=by rw[<-hK];exact W9 _ _
   have ck:∀i,i<szV c fs v->K (i+1)=K i+(ph c fs J (nY c fs p v i)).length:=λi o=>by rw[<-hK];exact jY (by simp[o])
   have cg:K (szV c fs v)=((List.range (szV c fs v)).flatMap λk=>ph c fs J (nY c fs p v k)).length:=by
    have:=XI (List.range (szV c fs v)) (λk=>ph c fs J (nY c fs p v k));rw[pD]at this;rw[<-hK];exact this
   have ch:∀i,i<szV c fs v->∀j q,(ph c fs J (nY c fs p v i))[j]? =some q->Lw[k+K i+j]? =some q:=λi o j q hj=>by
    have h1:=PM (l:=List.range (szV c fs v)) (f:=λk=>ph c fs J (nY c fs p v k)) (a:=i) (x:=i) (b:=j) (by simp[o]) (zK.1 hj).1;rw[wA];refine hk _ q ?_;rw[<-hK];exact h1.trans hj
   rw[<-cg]at hQ;rw[e1]at O;obtain⟨d',a1,a2,r,G1,G2,a3,a4,b1,b2,M,a5,a6,a7⟩:=B.app (v:Int) none ow;rw[bx]at a3;have hb:qd prog 139 [(0,.int .i64 (v:Int))]=some (.agg (ndC (⟨(v:Int),[],none⟩,.nilsl))):=by
    simp[qd,Xr,aT,ur,wo,ndC,Mn,D.cells,D.notTuple]
   have b3:∀nid H,yB prog false nid 32 1 [(0,.agg (ndC (⟨(v:Int),[],none⟩,.nilsl)))] H=some (.sl 4 [ndC (⟨(v:Int),[],none⟩,.nilsl)] .full,H):=λnid H=>qW (x:=.agg (ndC (⟨(v:Int),[],none⟩,.nilsl))) YK aT TG rfl rfl ow ow rfl rfl;have E:HLe (Heap.one nid (.row [d'])) G:=by rw[gh];exact a1
   have ag:HLe (Heap.one nid (.row [d'])) G1:=by rw[gh];exact b1
   obtain⟨I,hI⟩:∃I:Nat->Heap->Prop,∀i h',I i h'↔∃bo M,(∀i,bo i->S1 i\/h.next<=i)/\(∀i,M i->X i\/h.next<=i)/\(∀i,bo i->¬M i)/\But (λi=>S1 i\/X i) h h'/\Y (k+K i) bo h'/\NdH nid (L++ ⟨(v:Int),(re F i (L.length+1)).1,none⟩ ::(re F i (L.length+1)).2) M h':=⟨_,λ_ _=>Iff.rfl⟩;have b0:I 0 G2:=(hI _ _).2 ⟨S1,M,λi o=>.inl o,λi o=>(a6 i o).imp id λq=>by omega,λi h1 R=>by
    rcases a6 i R with q|q
    ·exact hd i h1 q
    ·have:=y.here _ _ _ hY i h1;omega,(hE.but _).trans ⟨a7.1,λi o hn=>a7.2 i o λq=>hn (.inr q)⟩ λi o=>.inl o,by rw[cf];exact y.loc _ _ _ _ A a7.1 λi o=>a7.2 i (by have:=y.here _ _ _ A i o;omega) (hd i o),a5⟩
   have T:∀h',I (szV c fs v) h'->Q (.bool true) h':=λh' q=>by
    obtain⟨T1,T2,q1,q2,q3,q4,q5,q6⟩:=(hI _ _).1 q;exact hQ _ _ ⟨T1,T2,q1,q2,q3,q4,.inl ⟨rfl,q5,q6⟩⟩
   have hR:∀i h',i<szV c fs v->I i h'->∃t N cs kd a0 G3 W,h'.at' nid=some (.row [.rs t 4 0 N])/\h'.at' t=some (.row cs)/\cs[L.length*4+1]? =some kd/\L.length<N/\qg prog false h'.next 30 kd (.sl 1 [[.int .i64 (N:Int)]] .full) h'=some (a0,G3)/\yX prog 30 (.ptr t (L.length*4+1)) a0 G3=some W/\G3.at' nid=some (.row [.rs t 4 0 N])/\G3.at' t=some (.row cs)/\W.at' s=some (.row [vfN z nid s [ca,cb,ce,cp,x,td,od]])/\zE prog 89 [zHT (nY c fs p v i),.iptr [.ptr nid 0] 0,.iptr [.iptr [ca,cb,ce,cp,x,td,od] 0] 0,.iptr [.yld z] 0,.ptr s 0] W λr R=>(r=.bool true/\I (i+1) R)\/(r=.bool false/\Q (.bool false) R):=λi h' o q=>by
    obtain⟨T1,T2,q1,q2,q3,q4,q5,q6⟩:=(hI _ _).1 q;have b6:=Rh F i (L.length+1);have dd:=Lb F (L.length+1) (k:=i+1) (m:=szV c fs v) o;have de:(re F (i+1) (L.length+1)).2.length=(re F i (L.length+1)).2.length+(F i (L.length+1+(re F i (L.length+1)).2.length)).length:=by rw[re,zR]
    have c8:re F (i+1) (L.length+1)=((re F i (L.length+1)).1++ [((L.length+1+(re F i (L.length+1)).2.length:Nat):Int)],(re F i (L.length+1)).2++F i (L.length+1+(re F i (L.length+1)).2.length)):=by rw[re]
    generalize re F i (L.length+1)=KN at *
    obtain⟨ks,rest⟩:=KN;simp only at *
    have c4:(L++ ⟨(v:Int),ks,none⟩ ::rest).length=L.length+1+rest.length:=by rw[zR,zm];omega
    obtain⟨t,N,r1,r2,r3,r4,cs,kd,r5,r6,a0,G3,W,r7,r8,r9,r10,S3,r11,r12,r13⟩:=q6.kid (a:=L.length) (nd:=⟨(v:Int),ks,none⟩) (by simp) ((L.length+1+rest.length:Nat):Int) (by show ks.length<_;omega);rw[c4]at r4;subst r4;have cw:(L++ ⟨(v:Int),ks,none⟩ ::rest).set L.length ⟨(v:Int),ks++ [((L.length+1+rest.length:Nat):Int)],none⟩ =L++ ⟨(v:Int),ks++ [((L.length+1+rest.length:Nat):Int)],none⟩ ::rest:=by
     rw[nU _ _ (zD _),ln];rfl
    simp only[cw]at r11;have cc:¬T1 s/\¬T2 s:=⟨λe=>(q1 s e).elim v1 ow,λe=>(q2 s e).elim v2 ow⟩;have db:h'.at' s=some (.row [vfN z nid s [ca,cb,ce,cp,x,td,od]]):=by rw[q4.2 s v0 (λe=>e.elim v1 v2)];exact hv
    have c0:s<h'.next:=zq v0 q4.1;have bk:W.at' s=some (.row [vfN z nid s [ca,cb,ce,cp,x,td,od]]):=by rw[r13.2 s c0 cc.2];exact db
    have c5:Y (k+K i) T1 W:=y.loc _ _ _ _ q5 r13.1 λi o=>r13.2 i (y.here _ _ _ q5 i o) (q3 i o);have c6:∀i,T1 i->¬S3 i:=λi h1 R=>by
     rcases r12 i R with q|q
     ·exact q3 i h1 q
     ·have:=y.here _ _ _ q5 i h1;omega
    refine⟨t,_,cs,kd,a0,G3,W,r1,r5,r6,by omega,r7,r8,r9,r10,bk,?_⟩;have ba:(L++ ⟨(v:Int),ks++ [((L.length+1+rest.length:Nat):Int)],none⟩ ::rest).length=L.length+1+rest.length:=by rw[zR,zm];omega
    have u:=ih (nY c fs p v i) (hp.dec o) (by have:=cv i o;omega) (k+K i) (ch i o) _ T1 S3 W c5 r11 c6 (zq c0 r13.1) cc.1 (λe=>(r12 s e).elim cc.2 ow) bk (by rw[ba,bs];omega);rw[ba,bs]at u;refine u.mono ?_;rintro r R ⟨U1,U2,u1,u2,u3,u4,u5⟩;have ai:∀i,U1 i->S1 i\/h.next<=i:=λi o=>by
     rcases u1 i o with q|q
     ·exact q1 i q
     ·have:=r13.1;have:=q4.1;exact .inr ow
    have ak:∀i,U2 i->X i\/h.next<=i:=λi o=>by
     have e1:=r13.1;have e2:=q4.1;rcases u2 i o with q|q
     ·rcases r12 i q with q|q
      ·exact q2 i q
      ·exact .inr ow
     ·exact .inr ow
    have bb:But (λi=>S1 i\/X i) h R:=by
     have e1:=r13.1;have e2:=q4.1;have b1:But (λi=>S1 i\/X i) h W:=q4.trans r13 λi o=>(q2 i o).imp .inr id;refine b1.trans u4 λi o=> ?_;rcases o with q|q
     ·exact(q1 i q).imp .inl id
     ·rcases r12 i q with q|q
      ·exact(q2 i q).imp .inr id
      ·exact .inr ow
    rcases u5 with⟨rfl,U,V⟩ | ⟨rfl,U,L',V⟩
    ·refine .inl ⟨rfl,(hI _ _).2 ⟨U1,U2,ai,ak,u3,bb,by rw[ck i o,<-wA];exact U,?_⟩⟩;rw[c8];simpa using V
    ·exact .inr ⟨rfl,hQ _ _ ⟨U1,U2,ai,ak,u3,bb,.inr ⟨rfl,U,L',V⟩⟩⟩
   have a9:=Q7 S v;have a8:=λi o g=>RG (t1:=.no) (t2:=.no) S hp (v:=v) (k:=i) b9 o g;clear a5 a6 a7 b1 b2 A B hE hQ hY hN hd v0 v1 v2 hv hB U V e0 e1 hk hm ih cv ck cf cg ch bs hI b9 cx;refine zu zHh ?_;simp only[f89,zA]
   repeat' first|simp only[go_sem, *]|apply bc<;>intro C
   refine qH Heap.emp [(0,.st,true),(4,.st,true),(8,.st,true),(1,.no,true),(2,.no,true),(3,.st,true),(5,.no,true),(6,.no,true),(7,.st,true),(9,.st,true),(10,.no,true),(11,.no,true),(12,.no,true),(13,.no,true),(14,.no,true),(15,.no,true),(16,.no,true),(17,.no,true)] kr kr (λi ob e=>by cases e) ?_
   repeat' first|simp only[go_sem, *]|apply bc<;>intro C
   refine kK _ (λH=>w H) ?_
   repeat' first|simp only[go_sem, *]|apply bc<;>intro C|(refine zE.mono (O _) ?_;rintro r h ⟨hq,rfl⟩)
   subst hq
   repeat' first|simp only[go_sem, *]|apply bc<;>intro C
   refine qH (Heap.one nid (.row [d'])) [(0,.st,true),(1,.no,true),(2,.no,true),(3,.no,true),(4,.no,true),(5,.no,true),(6,.no,true),(7,.no,true),(8,.no,true),(9,.no,false)] kr kr E ?_
   repeat' first|simp only[go_sem, *]|apply bc<;>intro C|(refine zE.mono (a9 _) ?_;rintro r h ⟨hq,rfl⟩)
   subst hq;refine zd (λi fr h'=>fr 1=.iptr [.ptr nid 0] 0/\fr 2=.iptr [.iptr [ca,cb,ce,cp,x,td,od] 0] 0/\fr 3=.iptr [.yld z] 0/\fr 4=.ptr s 0/\fr 5=.iptr [tsD p,owD p] 0/\fr 7=.int .i64 (L.length:Int)/\fr 11=.int .i64 (v:Int)/\fr 64=.int .i64 (szV c fs v:Int)/\fr 65=.int .i64 (i:Int)/\I i h') (szV c fs v) ow ?_ ?_ ?_
   ·clear T hR a8 a9 O w;simp only[go_sem,zT,zV,zI];exact b0
   ·clear T w O a9 a1 a2 a3 a4 E ag b0 n1 n2;rintro i fr h' cu ec ew ⟨f1,f2,f3,f4,f5,f7,c1,f64,c2,hI⟩;obtain⟨t,N,cs,kd,a0,G3,W,r1,r2,r3,r4,r5,r6,r7,r8,r9,u⟩:=hR i h' cu hI;have b4:=a8 i cu;have dk:∀H,mC prog 32 (.rs t 4 0 N) H=some (.int .i64 (N:Int)):=λH=>nM underlying32;have c7:=qj (P:=prog) (sz:=4) (id:=t) YK TG (k:=.i64) r4;have b3:∀nid H,yB prog false nid 30 1 [(0,.int .i64 (N:Int))] H=some (.sl 1 [[.int .i64 (N:Int)]] .full,H):=λnid H=>qW (x:=.int .i64 (N:Int)) qv rv sI rfl rfl ow ow rfl rfl;have cm:HLe (Heap.two nid t h') h':=UW rfl rfl
    have c9:HLe (Heap.two nid t h') G3:=UW (by rw[r7,r1]) (by rw[r8,r2]);have t1:(Heap.two nid t h').at' nid=some (.row [.rs t 4 0 N]):=by rw[I9];exact r1
    have t2:(Heap.two nid t h').at' t=some (.row cs):=by rw[HA];exact r2
    have da:HLe (Heap.one s (.row [vfN z nid s [ca,cb,ce,cp,x,td,od]])) W:=by rw[gh];exact r9
    clear hR a8 hI r4 r7 r8
    repeat' first|simp only[go_sem, *]|apply bc<;>intro C
    refine qH (Heap.two nid t h') [(0,.st,true),(4,.no,true),(11,.no,true),(1,.no,true),(2,.st,true),(3,.no,true),(5,.no,true),(6,.no,true),(7,.no,true),(8,.no,true),(9,.no,true),(10,.no,true),(12,.no,true),(13,.no,true),(14,.no,true),(15,.no,true),(16,.no,true),(17,.no,true),(18,.no,true),(19,.no,false)] kr kr cm ?_
    repeat' first|simp only[go_sem, *]|apply bc<;>intro C
    refine qH (Heap.one s (.row [vfN z nid s [ca,cb,ce,cp,x,td,od]])) [(0,.st,true),(1,.no,true),(2,.no,true),(3,.no,true),(4,.no,true),(5,.no,true),(6,.no,false),(7,.no,false)] kr kr da ?_;clear cm c9 r1 r2 r3 r5 r6 c7 b3 t1 t2
    repeat' first|simp only[go_sem,bf, *]|apply bc<;>intro C|(refine zE.mono (b4 _) ?_;rintro r h ⟨hq,rfl⟩)
    subst hq
    repeat' first|simp only[go_sem, *]|apply bc<;>intro C
    refine u.mono ?_;rintro r R (⟨rfl,o⟩ | ⟨rfl,o⟩)
    ·clear u b4;exact au
    ·clear u b4;exact au
   ·clear hR w O a9 a1 a2 a3 a4 E ag b0 n1 n2 a8;rintro fr h' ec ⟨f1,f2,f3,f4,f5,f7,c1,f64,c2,hI⟩;have hq:=T _ hI;clear T hI;exact au
end
def HQ(sp:List D)(nid:Nat):D:=.fn (.func 88) [] [.iptr [.ptr nid 0] 0,.iptr [.iptr sp 0] 0]
def B3(a:List D)(nid:Nat)(g:Heap):zE prog 43 [.iptr a 0,.ptr nid 0] g λr h'=>h'=g/\r=HQ a nid:=by
 refine zu zMv ?_;simp only[f43,zA];simp only[go_sem,HQ, *]
abbrev rU(c:Cat)(fs:List Fac):List Part:=ph c fs (ctV c fs) (mN c fs)
abbrev p9(c:Cat)(fs:List Fac):List Nd:=oE c fs (ctV c fs) (mN c fs) 0
section
variable{c:Cat}{fs:List Fac}{ca cb ce cp x td od:D}
def GX(S:SpD c fs ca cb ce cp x td od)(C:(p9 c fs).length<=1048576){a nid:Nat}{Y:Nat->(Nat->Prop)->Heap->Prop}{Z:(Nat->Prop)->Heap->Prop}(y:Yld prog a (rU c fs).length (elP (rU c fs)) Y Z)(u:Y 0 U h)(m:NdH nid [] S0 h)(H:∀i,U i->¬S0 i):
  zE prog 88 [.yld a,.iptr [.ptr nid 0] 0,.iptr [.iptr [ca,cb,ce,cp,x,td,od] 0] 0] h λ_ h'=>∃r,zHP Y Z nid U S0 h (rU c fs).length (p9 c fs) r h':=by
 have p:=B1 S;have F:∀(t:TypeId)(nid:Nat)(h:Heap),Zb t nid h (some .nilfn)=some (.ptr nid 0,h.new nid (.row [.nilfn])):=λ_ _ _=>rfl;have s:yX prog 77 (.ptr h.next 0) (vfN a nid h.next [ca,cb,ce,cp,x,td,od]) (h.new h.next (.row [.nilfn]))=some (h.new h.next (.row [vfN a nid h.next [ca,cb,ce,cp,x,td,od]])):=qK zGs ow rfl rfl rfl;obtain⟨G,D,k,g,l⟩:∃G:Heap,h.new h.next (.row [vfN a nid h.next [ca,cb,ce,cp,x,td,od]])=G/\Ext h G/\G.at' h.next=some (.row [vfN a nid h.next [ca,cb,ce,cp,x,td,od]])/\h.next<G.next:=⟨_,rfl,(Ext.refl h).new (zD _) _,z8 _ _ _,by rw[za];omega⟩;rw[D]at s
 have o:opn c fs (mN c fs)<=ctV c fs:=by
  unfold opn;exact zf (uA _ _) (by simp)
 have d:=GW S y (ctV c fs) (mN c fs) (tg c fs _) o 0 (λj q e=>by rw[yZ];exact e) [] U S0 G (y.ext u k) (m.loc k.1 λi f=>k.2 i (m.here i f)) H l (λe=>wN _ (y.here _ _ _ u _ e)) (λe=>wN _ (m.here _ e)) g (by simpa using C);have b:∀r h',zHP Y Z nid U S0 G (0+(ph c fs (ctV c fs) (mN c fs)).length) ([]++oE c fs (ctV c fs) (mN c fs) ([]:List Nd).length) r h'->zHP Y Z nid U S0 h (rU c fs).length (p9 c fs) r h':=by
  rintro r h' ⟨A,B,I,J,K,L,z⟩;rw[yZ]at z;exact⟨A,B,λi f=>(I i f).imp id λq=>by omega,λi f=>(J i f).imp id λq=>by omega,K,(k.but _).trans L λi f=>.inl f,z⟩
 have n:HLe (Heap.one h.next (.row [vfN a nid h.next [ca,cb,ce,cp,x,td,od]])) G:=by rw[gh];exact g
 refine xP λQ E=> ?_;have b:=λr h' q=>E (.tuple []) h' ⟨r,b r h' q⟩;refine zu zM8 ?_;simp only[f88,zA]
 repeat' first|simp only[go_sem, *]|apply bc<;>intro v
 refine qH (Heap.one h.next (.row [vfN a nid h.next [ca,cb,ce,cp,x,td,od]])) [(0,.st,true),(1,.no,true),(2,.no,true),(3,.no,false)] kr kr n ?_
 repeat' first|simp only[go_sem,bf, *]|apply bc<;>intro v|(refine zE.mono (p _) ?_;rintro r h ⟨w,rfl⟩)
 subst w
 repeat' first|simp only[go_sem, *]|apply bc<;>intro v
 refine d.mono λr h' q=> ?_;have w:=b r h' q;exact au
end
structure NdI where
 var:Int
 kids:List Int
 row:Int
 facts:List Int
def zMJ(n:NdI)(cs:List D):Prop:=∃kd fd,cs= [.int .i64 n.var,kd,.int .i64 n.row,fd]/\yi 1 (wY n.kids) kd/\yi 1 (wY n.facts) fd
def KW(ns:List NdI)(d:D):Prop:=∃xs,yi 4 xs d/\xs.length=ns.length/\∀(i:Nat) n,ns[i]? =some n->∃cs,xs[i]? =some cs/\zMJ n cs
protected def Nd.i(n:Nd):NdI:=⟨n.var,n.kids,(n.vio.map Vio.row).getD 0,(n.vio.map Vio.facts).getD []⟩
def tsF(q:Part):D:=if q.ts= []then .nilsl else tsD q
def owF(q:Part):D:=if q.own= []then .nilsl else owD q
def zB3(c:Cat)(fs:List Fac)(r:D):Prop:=(ql c fs≠0/\r=.tuple [.agg [.bool false,.nilsl,.nilsl,.nilsl],.int .i64 (ql c fs)])\/(ql c fs=0/\((∃q,(rU c fs).head? =some q/\r=.tuple [.agg [.bool true,tsF q,owF q,.nilsl],.int .i64 0])\/(rU c fs= []/\∃rd,KW ((p9 c fs).map Nd.i) rd/\r=.tuple [.agg [.bool false,.nilsl,.nilsl,rd],.int .i64 0])))
def Hi(ks:List Int):D:=if ks= []then .nilsl else .sl 1 (wY ks) .no
def ndF(nd:Nd):List D:=.int .i64 nd.var::Hi nd.kids::Mn nd.vio
def zAZ(L:List Nd):D:=if L= []then .nilsl else .sl 4 (L.map ndF) .no
def KR(c:Cat)(fs:List Fac):D:=if ql c fs=0 then(match(rU c fs).head? with
 |some q=>.tuple [.agg [.bool true,tsF q,owF q,.nilsl],.int .i64 0]
 |none=>.tuple [.agg [.bool false,.nilsl,.nilsl,zAZ (p9 c fs)],.int .i64 0])else .tuple [.agg [.bool false,.nilsl,.nilsl,.nilsl],.int .i64 (ql c fs)]
def Js(ks:List Int):yi 1 (wY ks) (Hi ks):=by
 unfold Hi;split
 ·rename_i e;rw[e];exact yi.nil
 ·exact yi.mk .no
def zAa(L:List Nd):KW (L.map Nd.i) (zAZ L):=by
 have a:∀nd:Nd,zMJ nd.i (ndF nd):=λ⟨v,ks,o⟩=>by
  cases o with
  |none=>exact⟨_,.nilsl,rfl,Js ks,yi.nil⟩
  |some w=>exact⟨_,_,rfl,Js ks,yi.mk .no⟩
 unfold zAZ;split
 ·rename_i e;subst e;exact⟨[],yi.nil,rfl,λi n e=>by simp at e⟩
 ·refine⟨L.map ndF,yi.mk .no,by simp,λi n e=> ?_⟩;rw[zj]at e⊢;cases q:L[i]? with
  |none=>rw[q]at e;cases e
  |some nd=>rw[q]at e;cases e;exact⟨_,rfl,a nd⟩
variable{c:Cat}{fs:List Fac}
def zB3.of{r:D}(h:r=KR c fs):zB3 c fs r:=by
 unfold KR at h;split at h
 ·rename_i a;split at h
  ·rename_i q e;exact .inr ⟨a,.inl ⟨q,e,h⟩⟩
  ·rename_i e;exact .inr ⟨a,.inr ⟨rO.1 e,_,zAa _,h⟩⟩
 ·rename_i a;exact .inl ⟨a,h⟩
theorem Rz:∀{M:List (Nd×D)},(∀m∈M,BM h (wY m.1.kids) m.2)->oc 0 (p5 (M.map ndC))/\p5 (M.map ndC)=(M.map Prod.fst).map ndF
 | [],_=>⟨trivial,rfl⟩
 |m::M,b=>by
  obtain⟨h1,g⟩:=Rz λj i=>b j (zt _ i);obtain⟨o1,o2⟩:=b m qG;obtain⟨k1,k2⟩:=o1.fin rH;have a:qD m.2=Hi m.1.kids:=by
   unfold Hi;split
   ·rename_i e;rw[o2 (by rw[e];rfl)];rfl
   ·rename_i e;rcases k2 with⟨_,q⟩ |q
    ·exact absurd (wv.1 q) e
    ·exact q
  have f:qY (Mn m.1.vio)=Mn m.1.vio/\qO 0 (Mn m.1.vio):=by
   obtain⟨⟨v,ks,o⟩,d⟩:=m;cases o with
   |none=>exact⟨rfl,trivial,trivial,trivial⟩
   |some v=>
    have c:=yj (sz:=1) (xs:=wY v.facts) rH .no;refine⟨?_,trivial,c.2,trivial⟩;show [qD _,qD _]=_;rw[c.1];rfl
  have e1:qY (ndC m)=ndF m.1:=by
   show qD _::qD _::qY (Mn m.1.vio)=_;rw[f.1,a];rfl
  refine⟨⟨?_,h1⟩,?_⟩
  ·rw[e1,ndF,<-a];exact⟨trivial,k1,f.2⟩
  ·show qY (ndC m)::p5 (M.map ndC)=_;rw[e1,g];rfl
def NdH.fin{L:List Nd}(H:NdH nid L S h)(r:Ext g h)(o:∀i,S i->g.next<=i){Q R:D->Heap->Prop}{mk:D->D}(f:∀id cs d,frz id cs (mk d)=mk (frz id cs d))(c:∀d,qD (mk d)=mk (qD d))(b:∀d,below 0 d->below 0 (mk d))
  (l:∀d h',Ext g h'->below g.next (qD (mk d))->qD d=zAZ L->Q (mk d) h') (m:∀d h',(Q d h'\/∃id cs,h'.at' id=some (.row cs)/\Q (frz id cs d) (h'.del id))->R d h'):∃d,h.at' nid=some (.row [d])/\d.cells= [d]/\d.notTuple=true/\d.flat=true/\∀h',(∀i,S i->i≠nid->h'.at' i=h.at' i)->Ext g h'->R (mk d) h':=by
 obtain⟨h0,d,M,h1,n,h3,rfl,h5,q,k⟩:=H;obtain⟨k1,k2⟩:=Rz h5;rcases n with⟨rfl,e⟩ | ⟨id,rfl,r1,r2,r3⟩
 ·have:M= []:=by simpa using e
  subst this;exact⟨_,h1,rfl,rfl,rfl,λh' _ a=>m _ _ (.inl (l _ _ a (by rw[c];exact qF (yC _) _ (b _ trivial)) rfl))⟩
 ·have hid:g.next<=id:=o id ((k id).2 (.inr (.inl rfl)));have j:M.map Prod.fst≠[]:=λe=>r3 (by rw[wv.1 e];rfl);refine⟨_,h1,rfl,rfl,rfl,λh' p a=>m _ _ (.inr ⟨id,_,by rw[p id ((k id).2 (.inr (.inl rfl))) (λe=>h3 (by rw[<-e];rfl))];exact r1,?_⟩)⟩;rw[f,XM (fx M) rfl rfl];refine l _ _ (a.del hid) ?_ ?_
  ·rw[c];exact qF (yC _) _ (b _ ⟨k1,trivial⟩)
  ·unfold zAZ;rw[iq j,<-k2];rfl
def WSo(n k:Nat)(S:Nat->Prop)(h:Heap):Prop:=k=0/\n+1<h.next/\h.at' n=some (.row [.bool false,.nilsl,.nilsl,.nilsl])/\h.at' (n+1)=some (.row [.int .i64 0])/\∀i,S i↔(i=n\/i=n+1)
def VSo(c:Cat)(fs:List Fac)(n:Nat)(S:Nat->Prop)(h:Heap):Prop:=∃q,(rU c fs).head? =some q/\n+1<h.next/\h.at' n=some (.row [.bool true,tsF q,owF q,.nilsl])/\h.at' (n+1)=some (.row [.int .i64 0])/\∀i,S i↔(i=n\/i=n+1)
def WSo.lcl(n:Nat):Lcl (WSo n):=by
 refine⟨λk S h y i g=> ?_,λk S h h' y j d=> ?_⟩
 ·obtain⟨_,f,b,c,a⟩:=y;rcases(a i).1 g with rfl|rfl<;>omega
 ·obtain⟨e,f,b,c,a⟩:=y;exact⟨e,by omega,by rw[d _ ((a _).2 (.inl rfl))];exact b,by rw[d _ ((a _).2 (.inr rfl))];exact c,a⟩
def VSo.lcl(c:Cat)(fs:List Fac)(n:Nat):Lcl λ_=>VSo c fs n:=by
 refine⟨λk S h y i j=> ?_,λk S h h' y l e=> ?_⟩
 ·obtain⟨_,_,g,b,d,a⟩:=y;rcases(a i).1 j with rfl|rfl<;>omega
 ·obtain⟨q,f,g,b,d,a⟩:=y;exact⟨q,f,by omega,by rw[e _ ((a _).2 (.inl rfl))];exact b,by rw[e _ ((a _).2 (.inr rfl))];exact d,a⟩
def NdH.lcl(nid:Nat)(L:List Nd):Lcl λ_=>NdH nid L:=⟨λk S h y=>y.here,λk S h h' y=>y.loc⟩
def NdHx.lcl(nid:Nat):Lcl λ_ S h=>∃L,NdH nid L S h:=⟨λk S h y=>by obtain⟨L,y⟩:=y;exact y.here,λk S h h' y b a=>by obtain⟨L,y⟩:=y;exact⟨L,y.loc b a⟩⟩
theorem JC{ca cb ce cp x:D}(hc:uc c (.agg [ca,cb,ce,cp]))(hs:c.Sm)(hx:yi 12 (mV fs) x)(hF:BK fs)(b6:∀f∈fs,f.Ok)(hB:ql c fs=0->(p9 c fs).length<=1048576)(g:Heap):
  zE prog 14 [.agg [ca,cb,ce,cp],x] g λr h'=>h'=g/\r=KR c fs:=by
 refine xU kr λcc=>xS (zE.freezeOr ?_);refine xP λR hR=> ?_;have v:=B0 hc hs hx hF b6;have ck:∀a b e p:D,yW true 4 [a,b,e,p] 0=some (.agg [a,b,e,p]):=λa b e p=>zJ rfl ow;have cf:qd prog 49 []=some (.agg [.bool false,.nilsl,.nilsl,.nilsl]):=by simp[qd,ZB,Tb,ur,D.notTuple,D.cells]
 have z:∀(h:Heap) d,Ext g h->qD d=d->below 0 d->d=KR c fs->R d h:=λh d hE e hb q=>hR _ _ (.inl ⟨hE,by rw[e];exact qF (yC _) _ hb,by rw[e];exact q⟩);obtain⟨n,hn⟩:∃n,g.next=n:=⟨_,rfl⟩;obtain⟨G,hG,X,g1,g2,hE⟩:∃G:Heap,(g.new n (.row [.bool false,.nilsl,.nilsl,.nilsl])).new (n+1) (.row [.int .i64 0])=G/\G.next=n+2/\G.at' n=some (.row [.bool false,.nilsl,.nilsl,.nilsl])/\G.at' (n+1)=some (.row [.int .i64 0])/\Ext g G:=
  ⟨_,rfl,by rw[<-hn,qL _ (by rw[za];exact zD _)],by rw[zi ow,z8],z8 _ _ _,by rw[<-hn];exact((Ext.refl g).new (zD _) _).new ow _⟩
 have b5:(g.new n (.row [.bool false,.nilsl,.nilsl,.nilsl])).next=n+1:=by rw[<-hn];exact za _ _
 by_cases I:ql c fs=0
 case neg=>
  have E:(!(ql c fs==0))=true:=by simpa using I
  have s1:yX prog 49 (.ptr n 0) (.agg [.bool false,.nilsl,.nilsl,.nilsl]) G=some G:=by
   rw[qp g1 (by rw[Mg];rfl) rfl (by decide) rfl,sR g1]
  obtain⟨F,hF,f1,f2,ak⟩:∃F,G.set (n+1) (.row [.int .i64 (ql c fs)])=F/\F.at' n=some (.row [.bool false,.nilsl,.nilsl,.nilsl])/\F.at' (n+1)=some (.row [.int .i64 (ql c fs)])/\Ext g F:=⟨_,rfl,by rw[zY ow];exact g1,zW _ _ _,hE.set ow _⟩;have s2:yX prog 39 (.ptr (n+1) 0) (.int .i64 (ql c fs)) G=some F:=by
   rw[yU g2 aB (by simp) rfl rfl,<-hF];rfl
  have o:=z F (.tuple [.agg [.bool false,.nilsl,.nilsl,.nilsl],.int .i64 (ql c fs)]) ak rfl ⟨⟨trivial,trivial,trivial,trivial,trivial⟩,trivial,trivial⟩ (by unfold KR;rw[iq I]);have v:∀g,zE prog 42 [.agg [ca,cb,ce,cp],x] g λr h'=>h'=g/\r=.tuple [.nilptr,.int .i64 (ql c fs)]:=λg=>(v g).mono λr h' q=>⟨q.1,by
   rcases q.2 with⟨_,e⟩ | ⟨e,_⟩
   ·exact e
   ·exact absurd e I⟩
  clear hB I z hR ak hF hE;refine zu zKI ?_;simp only[f14,zA]
  repeat' first|simp only[go_sem, *]|apply bc<;>intro hc|(refine zE.mono (v _) ?_;rintro r h ⟨P,rfl⟩)
 case pos=>
 have hB:=hB I;have v:∀g,zE prog 42 [.agg [ca,cb,ce,cp],x] g λr h'=>h'=g/\∃td od,r=.tuple [.iptr [ca,cb,ce,cp,x,td,od] 0,.int .i64 0]/\SpD c fs ca cb ce cp x td od:=λg=>(v g).mono λr h' q=>⟨q.1,by
   rcases q.2 with⟨e,_⟩ | ⟨_,td,od,e,S,_⟩
   ·exact absurd I e
   ·exact⟨td,od,e,S⟩⟩
 obtain⟨H,hH,bk,h1,C,h3,a0⟩:∃H:Heap,G.new (n+2) (.row [.nilsl])=H/\H.next=n+3/\H.at' n=some (.row [.bool false,.nilsl,.nilsl,.nilsl])/\H.at' (n+1)=some (.row [.int .i64 0])/\H.at' (n+2)=some (.row [.nilsl])/\Ext g H:=⟨_,rfl,by rw[<-X,za,X],by rw[zi ow];exact g1,by rw[zi ow];exact g2,z8 _ _ _,hE.new ow _⟩;clear hE;refine zu zKI ?_;simp only[f14,zA]
 repeat' first|simp only[go_sem, *]|apply bc<;>intro
 refine(v _).mono ?_;rintro r k ⟨P,td,od,rfl,S⟩;subst P;have ba:=λg=>B3 [ca,cb,ce,cp,x,td,od] (n+2) g
 rename Heap=>G
 repeat' first|simp only[go_sem,HQ, *]|apply bc<;>intro hc|(refine zE.mono (ba _) ?_;rintro r h ⟨P,rfl⟩)
 subst P
 rename Heap=>H
 generalize Y:LRec.mk _ _ _ _ _ _ _=L;have b7:L.pending=none:=by rw[<-Y]
 have b8:L.st=.ready:=by rw[<-Y]
 have K:WSo n 0 (λj=>j=n\/j=n+1) H:=⟨rfl,by omega,h1,C,λ_=>Iff.rfl⟩;have J:NdH (n+2) [] (λj=>j=n+2) H:=⟨by omega,.nilsl,[],h3,.inl ⟨rfl,rfl⟩,λe=>e,rfl,(by intro m hm;cases hm),(by intro a b m m' i e;cases e),λi=>⟨λe=>.inl e,λe=>e.elim id λe=>e.elim (λe=>e.elim) λ⟨m,hm,_⟩=>by cases hm⟩⟩;clear hH hG b5 v ba g1 g2 X h1 C h3
 refine Jz (n:=(rU c fs).length) (el:=elP (rU c fs)) bk (WSo.lcl n) (VSo.lcl c fs n) (NdH.lcl (n+2) []) (NdH.lcl (n+2) (p9 c fs)) (NdHx.lcl (n+2)) b8 b7 K J (λi h1 C=>by rcases h1 with e|e<;>omega) (λyl bs bo hd=>(GX S hB yl bs bo hd).mono λr h' ⟨r',T1,T2,q1,q2,q3,q4,q5⟩=>⟨T1,T2,q1,q2,q3,q4,q5.imp (λq=>⟨q.2.1,q.2.2⟩) λq=>⟨q.2.1,q.2.2⟩⟩) ?_ ?_ ?_
 ·intro k S0 h3 hk a8 b3 a9 b4;have b0:k=0:=a9.1;subst b0;obtain⟨q,P⟩:∃q,(rU c fs).head? =some q:=by
   cases e:rU c fs with
   |nil=>rw[e]at hk;exact absurd hk (wN _)
   |cons q l=>exact⟨q,rfl⟩
  have bx:(rU c fs).getD 0 ⟨[],[]⟩ =q:=by
   rw[zC,<-tj,P];rfl
  simp only[elP,bx];have w:=b3;rw[<-Y]at w;obtain⟨m,hm⟩:∃m,h3.next=m:=⟨_,rfl⟩;have A:yX prog 47 (.ptr m 0) (.agg [tsD q,owD q]) (h3.new m (.row [.nilsl,.nilsl]))=some (h3.new m (.row [tsD q,owD q])):=qK QN ow rfl rfl rfl;refine uS.round (g:=AC) mix w rfl kr kr kr ?_;simp only[go_sem,hm,A];refine⟨by rw[zi ow];exact w,?_⟩;generalize ai:LRec.mk .busy _ _ _ _ _ _=B;have a1:({ B with st:=.ready,pending:=none } :LRec)=L:=by rw[<-ai,<-Y]
  obtain⟨_,w1,w2,w3,U⟩:=a9;obtain⟨s,a2,a7,a6,a3,a4,a5,M⟩:∃s:D->D->Heap,((h3.new m (.row [tsD q,owD q])).set (n+3) (.loop B))=s (tsD q) (owD q)/\(∀a b,(s a b).next=m+1)/\(∀a b,(s a b).at' m=some (.row [a,b]))/\(∀a b,(s a b).at' n=some (.row [.bool false,.nilsl,.nilsl,.nilsl]))/\(∀a b,(s a b).at' (n+1)=some (.row [.int .i64 0]))/\(∀a b,(s a b).at' (n+3)=some (.loop B))/\((∀a b a' b',(s a b).set m (.row [a',b'])=s a' b')/\∀a b,But (λi=>i=n+3) h3 (s a b)):=by
   refine⟨λa b=>((h3.new m (.row [tsD q,owD q])).set (n+3) (.loop B)).set m (.row [a,b]),?_,λa b=>by rw[ym,ym,<-hm];exact za _ _,λa b=>zW _ _ _,λa b=>by rw[zY ow,zY ow,zi ow];exact w2,λa b=>by rw[zY ow,zY ow,zi ow];exact w3,λa b=>by rw[zY ow,zW],λa b a' b'=>kM _ _ _ _,λa b=>⟨by rw[ym,ym,<-hm,za];omega,λi V hn=>by rw[zY ow,zY hn,zi ow]⟩⟩;exact(sR (by rw[zY ow,z8])).symm
  obtain⟨Z,M⟩:=M;rw[a2];clear ai A a2 w Y;have s1:∀a b,yX prog 44 (.ptr m 0) .nilsl (s a b)=some (s .nilsl b):=λa b=>by
   rw[yU (a6 a b) aC (by simp) rfl rfl];exact congrArg some (Z _ _ _ _)
  have s2:∀a b,yX prog 45 (.ptr m 1) .nilsl (s a b)=some (s a .nilsl):=λa b=>by
   rw[yU (a6 a b) Mf (by simp) rfl rfl];exact congrArg some (Z _ _ _ _)
  have cg:∀h,mC prog 44 (tsD q) h=some (.int .i64 (q.ts.length:Int)):=λh=>by
   have:=tn (l:=q.ts.map nu) (d:=tsD q) (yi.mk .no) h
   rwa [zG]at this
  have ch:∀h,mC prog 45 (owD q) h=some (.int .i64 (q.own.length:Int)):=λh=>wh (l:=q.own) (d:=owD q) (yi.mk .no) h;have b9:∀a b:D,qd prog 49 [(0,.bool true),(1,.agg [a,b])]=some (.agg [.bool true,a,b,.nilsl]):=λa b=>by simp[qd,ZB,Tb,ur,wo,D.notTuple,D.cells]
  have o:∀fr,pL (LpZ (n+3) L (WSo n) (VSo c fs n) 0 S0 h3) (n+3) .ret fr (((s (tsF q) (owF q)).set n (.row [.bool true,tsF q,owF q,.nilsl])).set (n+1) (.row [.int .i64 0])):=λfr=>by
   refine Lp.retZ (VSo.lcl c fs n) a1 a8 b4 (by rw[zY ow,zY ow];exact a5 _ _) (S':=S0) (λi V=>.inl V) ⟨by rw[ym,ym,a7];omega,λi V E=> ?_⟩ ⟨q,P,by rw[ym,ym,a7];omega,by rw[zY ow,zW],zW _ _ _,U⟩;rw[zY λe=>E (.inr ((U i).2 (.inr e))),zY λe=>E (.inr ((U i).2 (.inl e))),(M _ _).2 i V λe=>E (.inl e)]
  have s3:∀a b,a.flat=true->b.flat=true->yX prog 49 (.ptr n 0) (.agg [.bool true,a,b,.nilsl]) (s a b)=some ((s a b).set n (.row [.bool true,a,b,.nilsl])):=λa b h1 C=>qp (a3 a b) (by rw[Mg];rfl) rfl (by simp) (by simp[h1,C];exact⟨rfl,rfl⟩);have s4:∀a b r,yX prog 39 (.ptr (n+1) 0) (.int .i64 0) ((s a b).set n (.row r))=some (((s a b).set n (.row r)).set (n+1) (.row [.int .i64 0])):=λa b r=>by
   rw[yU (by rw[zY ow];exact a4 a b) aB (by simp) rfl rfl];rfl
  have e1:((q.ts.length:Int)==0)=decide (q.ts= []):=by cases q.ts<;>simp<;>omega
  have e2:((q.own.length:Int)==0)=decide (q.own= []):=by cases q.own<;>simp<;>omega
  have f1:(tsD q).flat=true:=rfl;have f2:(owD q).flat=true:=rfl;have f3:D.nilsl.flat=true:=rfl;have t1:tsF q=if decide (q.ts= [])=true then .nilsl else tsD q:=by unfold tsF;simp
  have t2:owF q=if decide (q.own= [])=true then .nilsl else owD q:=by unfold owF;simp
  rw[t1,t2]at o;clear t1 t2 w1 w2 w3 U a3 a4 a5 M Z a1 K J z hR;generalize decide (q.ts= [])=b1 at e1 o;generalize decide (q.own= [])=b2 at e2 o;cases b1
  all_goals cases b2
  all_goals simp only[zl,yy,qS]at o
  all_goals
   exact au
  all_goals exact o _
 ·intro S' bb C ad T N u hw O;obtain⟨w0,w1,w2,w3,U⟩:=hw;have y:Ext g C:=Ext.of_but a0 u λj hj=>by rcases hj with(rfl|rfl)|rfl<;>omega
  obtain⟨d,d1,d2,d3,d4,d5⟩:=O.fin (R:=R) (Q:=λd h'=>Ext g h'/\below g.next (qD d)/\qD d=KR c fs) (mk:=λd=>.tuple [.agg [.bool false,.nilsl,.nilsl,d],.int .i64 0]) y (λi V=>by
   rcases T i V with q|q<;>omega) (λid cs d=>rfl) (λd=>rfl) (λd h=>⟨⟨trivial,trivial,trivial,h,trivial⟩,trivial,trivial⟩) (λd h' q1 q2 q3=>⟨q1,q2,by unfold KR;rw[ip I,yM.1 w0,<-q3];rfl⟩) hR
  have b9:qd prog 49 [(2,d)]=some (.agg [.bool false,.nilsl,.nilsl,d]):=by simp[qd,ZB,Tb,ur,wo,d2,d3,RK,Zo]
  obtain⟨F1,W,r1,r2,E1⟩:∃F,C.set n (.row [.bool false,.nilsl,.nilsl,d])=F/\F.at' n=some (.row [.bool false,.nilsl,.nilsl,d])/\F.at' (n+1)=some (.row [.int .i64 0])/\Ext g F:=⟨_,rfl,zW _ _ _,by rw[zY ow];exact w3,y.set ow _⟩;have s1:yX prog 49 (.ptr n 0) (.agg [.bool false,.nilsl,.nilsl,d]) C=some F1:=by
   rw[qp (cs':=[.bool false,.nilsl,.nilsl,d]) w2 (by rw[Mg];rfl) rfl (by simp) (by simp[d4];exact⟨rfl,rfl⟩),W]
  have s2:yX prog 39 (.ptr (n+1) 0) (.int .i64 0) F1=some F1:=by
   rw[yU r2 aB (by simp) rfl rfl];exact congrArg some (sR r2)
  have o:=d5 F1 (λi V E=>by
   rw[<-W,zY λe=>N i ((U i).2 (.inl e)) V]) E1
  clear d5 Y K J z hR W E1 y O ad T N u U I;exact au
 ·intro S' bb C ad T N u hv O;obtain⟨q,P,w1,w2,w3,U⟩:=hv;have y:Ext g C:=Ext.of_but a0 u λj hj=>by rcases hj with(rfl|rfl)|rfl<;>omega
  have A:qD (tsF q)=tsF q/\below 0 (tsF q):=by
   unfold tsF;split
   ·exact⟨rfl,trivial⟩
   ·exact yj (sz:=1) (xs:=qe (q.ts.map nu)) (λx hx=>by
     obtain⟨a,ha,rfl⟩:=zM.1 hx;obtain⟨t,_,rfl⟩:=zM.1 ha;exact fW t) .no
  have ag:qD (owF q)=owF q/\below 0 (owF q):=by
   unfold owF;split
   ·exact⟨rfl,trivial⟩
   ·exact yj (sz:=1) (xs:=wn q.own) uo .no
  have o:=z C (.tuple [.agg [.bool true,tsF q,owF q,.nilsl],.int .i64 0]) y (by simp only[qD,qY,A.1,ag.1]) ⟨⟨trivial,A.2,ag.2,trivial,trivial⟩,trivial,trivial⟩ (by unfold KR;rw[ip I,P]);clear Y K J z hR y O ad T N u U I A ag;exact au
structure Le(p q:Part):Prop where
 tl:p.ts.length=q.ts.length
 ol:p.own.length=q.own.length
 t:∀(i:Nat) a,p.ts[i]? =some a->a= []\/q.ts[i]? =some a
 o:∀(i:Nat) s,p.own[i]? =some s->s= []\/q.own[i]? =some s
def Le.refl(p:Part):Le p p:=⟨rfl,rfl,λ_ _ h=>.inr h,λ_ _ h=>.inr h⟩
def Le.trans{p q r:Part}(a:Le p q)(b:Le q r):Le p r:=⟨a.tl.trans b.tl,a.ol.trans b.ol,λi x h=>(a.t i x h).elim .inl λh=>b.t i x h,λi x h=>(a.o i x h).elim .inl λh=>b.o i x h⟩
def Le.gap{p q:Part}(h:Le p q):Gap (oD p).ts (oD p).own (oD q) where
 tl:=by show(p.ts.map nu).length=(q.ts.map nu).length;rw[zG,zG,h.tl]
 ol:=h.ol
 ts:=λi a e=>by
  have e:(p.ts.map nu)[i]? =some a:=e;rw[zj]at e;obtain⟨t,e1,rfl⟩:=zh.1 e;rcases h.t i t e1 with rfl|q1
  ·exact .inl rfl
  ·refine .inr ?_;show(q.ts.map nu)[i]? =_;rw[zj,q1];rfl
 own:=h.o
def Le.vios{p q:Part}(h:Le p q)(h0:p0 c fs (oD q)= []):Zm c fs p=none:=by
 unfold Zm;cases e:p0 c fs (oD p)with
 |nil=>rfl
 |cons v l=>
  have:=h.gap.vios (c:=c) (fs:=fs) (v:=v) (by show v∈p0 c fs (oD p);rw[e];exact qG);rw[h0]at this;cases this
def zH1(c:Cat)(fs:List Fac)(q:Part)(v k:Nat):Prop:=if v<(tV c fs).length then q.ts[v]? =some (((tV c fs).getD v []).getD k [])else q.own[v- (tV c fs).length]? =some ((c.ls.map Lic.name).getD k [])
def Le.dec{p q:Part}(h:Le p q){v k:Nat}(b:zH1 c fs q v k):Le (nY c fs p v k) q:=by
 unfold zH1 at b;unfold nY;split
 ·rename_i h1;rw[ip h1]at b;refine⟨by rw[uQ];exact h.tl,h.ol,λi a e=> ?_,h.o⟩;rw[ou]at e;split at e
  ·rename_i d;subst d;split at e
   ·cases e;exact .inr b
   ·cases e
  ·exact h.t i a e
 ·rename_i h1;rw[iq h1]at b;refine⟨h.tl,by rw[uQ];exact h.ol,h.t,λi a e=> ?_⟩;rw[ou]at e;split at e
  ·rename_i d;subst d;split at e
   ·cases e;exact .inr b
   ·cases e
  ·exact h.o i a e
structure Full(c:Cat)(fs:List Fac)(q:Part):Prop where
 ok:POk c fs q
 de:∀v,v<ctV c fs->deV c fs q v=true
def Full.val{q:Part}(h:Full c fs q){v:Nat}(f:v<ctV c fs):∃k,k<szV c fs v/\zH1 c fs q v k:=by
 have a:=h.de v f;unfold deV at a;unfold zH1 szV;by_cases h1:v<(tV c fs).length
 ·simp only[ip h1]at a⊢;have b:v<q.ts.length:=by rw[h.ok.tl];exact h1
  rw[zC,zB b]at a;have g:=(h.ok.t v _ (zB b)).resolve_left λe=>by rw[e]at a;cases a
  obtain⟨k,d,e⟩:=yD.1 g;refine⟨k,d,?_⟩;rw[zB b,zC,zB d,e];rfl
 ·simp only[iq h1]at a⊢;have b:v- (tV c fs).length<q.own.length:=by rw[h.ok.ol];unfold ctV at f;omega
  rw[zC,zB b]at a;obtain⟨y,i,e⟩:=(h.ok.o _ (zH b)).resolve_left λe=>by rw[zA,e]at a;cases a
  obtain⟨k,d,rfl⟩:=yD.1 i;exact⟨k,d,by rw[zB b,kq d,e]⟩
theorem X1{q:Part}(h:Full c fs q):∀n,n<=ctV c fs->Le (wm c fs n) q
 |0,_=>by
  have b:∀{α:Type}(i n:Nat)(a:List α),(List.replicate n ([]:List α))[i]? =some a->a= []:=λi n a e=>by
   rw[List.getElem?_replicate]at e;split at e
   ·cases e;rfl
   ·cases e
  exact⟨by rw[h.ok.tl];exact gN,by rw[h.ok.ol];exact gN,λi a e=>.inl (b _ _ _ e),λi a e=>.inl (b _ _ _ e)⟩
 |n+1,b=>by
  rw[wm];have d:=X1 h n ow;split
  ·rename_i h1;obtain⟨k,g,f⟩:=h.val (v:=n) ow
   have:k=0:=ow;subst this;exact d.dec f
  ·exact d
theorem Vx(h0:(yH c fs).2.2=0){q:Part}(h:Full c fs q)(d:p0 c fs (oD q)= []):∀m p,POk c fs p->Le p q->opn c fs p<=m->ph c fs m p≠[]
 |0,p,g,b,i=>by
  rw[ph,b.vios d];simp
 |m+1,p,g,b,i=>by
  rw[ph,b.vios d];cases e:nxV c fs p with
  |none=>simp
  |some v=>
   obtain⟨j,_,_⟩:=ly e;obtain⟨k,f,a⟩:=h.val j;have:=Vx h0 h d m _ (g.dec f) (b.dec a) (by have:=Xm g h0 e f;omega);simp only[Option.isSome,zl,yy];intro e2;rw[oH]at e2;exact this (e2 k (qT.2 f))
def Le.of_dec{v k:Nat}(h:deV c fs p v=false):Le p (nY c fs p v k):=by
 unfold deV at h;unfold nY;split
 ·rename_i h1;rw[ip h1]at h;refine⟨by rw[uQ],rfl,λi a e=> ?_,λi a e=>.inr e⟩;by_cases q:v=i
  ·subst q;rw[zC,e]at h;exact .inl (by simpa using h)
  ·exact .inr (by rw[pO q];exact e)
 ·rename_i h1;rw[iq h1]at h;refine⟨rfl,by rw[uQ],λi a e=>.inr e,λi a e=> ?_⟩;by_cases q:v- (tV c fs).length=i
  ·subst q;rw[zC,e]at h;exact .inl (by simpa using h)
  ·exact .inr (by rw[pO q];exact e)
theorem Qa(h0:(yH c fs).2.2=0){x:Part} :∀m p,POk c fs p->opn c fs p<=m->x∈ph c fs m p->POk c fs x/\Le p x/\Zm c fs x=none/\nxV c fs x=none
 |0,p,b,i,a=>by
  rw[ph]at a;split at a
  ·cases a
  ·rename_i h;rw[ze]at a;subst a;refine⟨b,Le.refl _,by simpa using h,?_⟩;cases e:nxV c fs x with
   |none=>rfl
   |some v=>
    obtain⟨h1,f,_⟩:=ly e
    have:0<opn c fs x:=yA.2 (lg (wZ.2 ⟨qT.2 h1,f⟩));omega
 |m+1,p,b,i,a=>by
  rw[ph]at a;split at a
  ·cases a
  ·rename_i h;split at a
   ·rename_i e;rw[ze]at a;subst a;exact⟨b,Le.refl _,by simpa using h,e⟩
   ·rename_i v e;obtain⟨k,d,a⟩:=z5.1 a;have d:=qT.1 d;obtain⟨h1,f,h3,g⟩:=Qa h0 m _ (b.dec d) (by have:=Xm b h0 e d;omega) a;obtain⟨_,e2,_⟩:=ly e;exact⟨h1,(Le.of_dec (by simp only[pS,zF,qM]at e2;exact e2.2)).trans f,h3,g⟩
def Le.de{p q:Part}(h:Le p q){v:Nat}(b:deV c fs p v=true):deV c fs q v=true:=by
 unfold deV at b⊢;split
 ·rename_i h1;rw[ip h1]at b;cases e:p.ts[v]? with
  |none=>rw[zC,e]at b;exact absurd b (by decide)
  |some a=>
   rcases h.t v a e with rfl|d
   ·rw[zC,e]at b;exact absurd b (by decide)
   ·rwa [zC,d,<-e,<-zC]
 ·rename_i h1;rw[iq h1]at b;cases e:p.own[v- (tV c fs).length]? with
  |none=>rw[zC,e]at b;exact absurd b (by decide)
  |some a=>
   rcases h.o _ a e with rfl|d
   ·rw[zC,e]at b;exact absurd b (by decide)
   ·rwa [zC,d,<-e,<-zC]
theorem IZ(h0:(yH c fs).2.2=0):∀n,n<=ctV c fs->∀v,v<n->szV c fs v=1->deV c fs (wm c fs n) v=true
 |0,_,v,h,_=>absurd h (yq _)
 |n+1,b,v,h,h1=>by
  have a:=IZ h0 n ow v;rw[wm];split
  ·rename_i q;rw[PF (tg c fs n) h0 ow ow];by_cases e:v=n
   ·rw[zS e];rfl
   ·rw[a ow h1,gL]
  ·rename_i q;refine a (Nat.lt_of_le_of_ne (Nat.le_of_lt_succ h) λe=>q ?_) h1;rw[<-e];exact h1
def I4(h0:(yH c fs).2.2=0){v:Nat}(d:v<ctV c fs)(a:szV c fs v=0):c.ls.length=0/\∀y:Cho,p0 c fs y≠[]:=by
 unfold szV at a;split at a
 ·rename_i h1;have j:(tV c fs).getD v []∈tV c fs:=by rw[zC,zB h1];exact zH _
  exact absurd (yM.1 a) (pc _ j).2.ne
 ·rename_i h1;refine⟨a,λy e=> ?_⟩;have k:oV c fs≠[]:=λe=>by unfold ctV at d;rw[e]at d;simp at d;omega
  obtain⟨s,b⟩:=kA _ k;unfold oV at b;rw[aI h0]at b;rcases nc.1 b with q| ⟨f,hf,h,_⟩
  ·cases q
  ·obtain⟨i,g,rfl⟩:=yD.1 hf
   have:(⟨5,n7 ([i].map λn:Nat=>(n:Int))⟩:Vio)∈p0 c fs y:=mT.2 ⟨5,by omega,rfl,[i],⟨a,i,by rw[sy g];exact h,rfl⟩,rfl⟩;rw[e]at this;cases this
def Jt(h0:(yH c fs).2.2=0){x:Part}(f:POk c fs x)(d:Le (mN c fs) x)(hf:Zm c fs x=none)(a:nxV c fs x=none):Full c fs x:=by
 refine⟨f,λv b=> ?_⟩;cases e:deV c fs x v with
 |true=>rfl
 |false=>
  unfold nxV at a;rw[lZ]at a;have:=a v (qT.2 b);unfold pS at this;rw[e]at this;have g:¬1<szV c fs v:=by simpa using this
  by_cases h1:szV c fs v=1
  ·rw[d.de (IZ h0 _ (zD _) v b h1)]at e;cases e
  ·have:=(I4 h0 b ow).2 (oD x);unfold Zm at hf;exact absurd (rO.1 hf) this
def XJ(h0:(yH c fs).2.2=0):rU c fs≠[]↔∃q,Full c fs q/\p0 c fs (oD q)= []:=by
 have a:opn c fs (mN c fs)<=ctV c fs:=by
  unfold opn;exact zf (uA _ _) (by simp)
 constructor
 ·intro h;obtain⟨x,g⟩:=kA _ h;obtain⟨h1,d,h3,e⟩:=Qa h0 _ _ (tg c fs _) a g;exact⟨x,Jt h0 h1 d h3 e,rO.1 h3⟩
 ·rintro⟨q,b,f⟩;exact Vx h0 b f _ _ (tg c fs _) (X1 b _ (zD _)) a
def prW(s:Nat->Nat)(f:Nat->Bool):List Nat->Nat
 | []=>1
 |w::l=>if f w=true then s w*prW s f l else prW s f l
theorem Uu{s:Nat->Nat}{f:Nat->Bool}(h:∀w,f w=true->0<s w):∀l,0<prW s f l
 | []=>Nat.one_pos
 |w::l=>by
  rw[prW];split
  ·rename_i q;exact Yh (h w q) (Uu h l)
  ·exact Uu h l
theorem IR{s:Nat->Nat}{f g:Nat->Bool}{v:Nat}(a:∀w,g w=(!decide (w=v)&&f w)):∀l,v∉l->prW s g l=prW s f l
 | [],_=>rfl
 |w::l,h=>by
  rw[zw,Xk]at h;rw[prW,prW,a w,zP (λe=>h.1 e.symm),nO,tz,IR a l h.2]
theorem IS{s:Nat->Nat}{f g:Nat->Bool}{v:Nat}(a:∀w,g w=(!decide (w=v)&&f w))(hf:f v=true):∀l:List Nat,l.Nodup->v∈l->prW s f l=s v*prW s g l
 | [],_,h=>by cases h
 |w::l,b,h=>by
  rw[oI]at b;by_cases e:w=v
  ·subst e;rw[prW,prW,ip hf,a w,zS rfl,IR a l b.1];rfl
  ·have c:=IS (s:=s) a hf l b.2 ((zw.1 h).resolve_left λq=>e q.symm);rw[prW,prW,a w,zP e,nO,tz,c];split
   ·exact Nat.mul_left_comm ..
   ·rfl
theorem MI(h0:(yH c fs).2.2=0):∀m p n,POk c fs p->(oE c fs m p n).length+1<=2*prW (szV c fs) (pS c fs p) (List.range (ctV c fs))
 |0,p,n,d=>by
  have:=Uu (s:=szV c fs) (f:=pS c fs p) (λw h=>by simp only[pS,zF,zO]at h;omega) (List.range (ctV c fs));rw[oE];split<;>simp<;>omega
 |m+1,p,n,d=>by
  have o:=Uu (s:=szV c fs) (f:=pS c fs p) (λw h=>by simp only[pS,zF,zO]at h;omega) (List.range (ctV c fs));rw[oE];split
  ·simp;omega
  ·split
   ·simp;omega
   ·rename_i v e;obtain⟨q,l,_⟩:=ly e;have u:2<=szV c fs v:=by simp only[pS,zF,zO]at l;omega
    have t:∀k,k<szV c fs v->∀w,pS c fs (nY c fs p v k) w=(!decide (w=v)&&pS c fs p w):=λk a w=>by
     unfold pS;rw[PF d h0 q a];cases decide (w=v)<;>cases decide (1<szV c fs w)<;>cases deV c fs p w<;>rfl
    have j:∀k,k<szV c fs v->prW (szV c fs) (pS c fs (nY c fs p v k)) (List.range (ctV c fs))=prW (szV c fs) (λw=> !decide (w=v)&&pS c fs p w) (List.range (ctV c fs)):=λk a=>by
     congr 1;funext w;exact t k a w
    have b:=IS (s:=szV c fs) (f:=pS c fs p) (g:=λw=> !decide (w=v)&&pS c fs p w) (λw=>rfl) l (List.range (ctV c fs)) List.nodup_range (qT.2 q);rw[b];generalize prW (szV c fs) (λw=> !decide (w=v)&&pS c fs p w) (List.range (ctV c fs))=W at j;have key:∀k,k<=szV c fs v->(re (λk i=>oE c fs m (nY c fs p v k) i) k (n+1)).2.length+k<=2*(k*W):=λk a=>by
     induction k with
     |zero=>simp[re]
     |succ k r=>
      have r:=r ow;have:=MI h0 m (nY c fs p v k) (n+1+(re (λk i=>oE c fs m (nY c fs p v k) i) k (n+1)).2.length) (d.dec ow);rw[j k ow]at this;rw[re,zR,wD,ov];omega
    have:=key _ (zD _);rw[zm];omega
def prL:List Nat->Nat
 | []=>1
 |r::l=>r*prL l
theorem IP:∀{l:List Nat},(∀r∈l,0<r)->0<prL l
 | [],_=>Nat.one_pos
 |r::l,h=>Yh (h r qG) (IP λq a=>h q (zt _ a))
def zAW{l m:List Nat}(h:l.Sublist m):(∀r∈m,0<r)->prL l<=prL m:=by
 induction h with
 |slnil=>exact λ_=>zD _
 |cons a h d=>exact λb=>zf (d λq c=>b q (zt _ c)) (gD _ (b a qG))
 |cons_cons a h d=>exact λb=>mi _ (d λq c=>b q (zt _ c))
theorem I6:∀{l:List Nat}{n:Nat},(∀r∈l,0<r)->(Hk l n<=4096\/n*prL l<=4096)->Hk l n=n*prL l
 | [],n,_,_=>by rw[Hk,prL,ww]
 |r::l,n,b,h=>by
  have h1:=IP λq a=>b q (zt _ a);rw[Hk]at h⊢;rw[prL,<-Nat.mul_assoc]at h⊢;have c:n*r<=n*r*prL l:=Nat.le_mul_of_pos_right _ h1;split
  ·rename_i q;rw[ip q]at h;rcases h with h|h<;>omega
  ·rename_i q;rw[iq q]at h;exact I6 (λq a=>b q (zt _ a)) h
def P2{l:List Nat}(a:∀r∈l,0<r)(h:L8 l<=4096\/prL l<=4096):L8 l=prL l:=by
 unfold L8 at h⊢;have h0:¬(l.any (· ==0))=true:=λq=>by
  obtain⟨r,hr,e⟩:=yu.1 q;have:=a r hr;simp at e;omega
 rw[iq h0]at h⊢;rw[I6 a (by rwa [ov]),ov]
theorem IQ{s:Nat->Nat}{f:Nat->Bool} :∀l:List Nat,(∀w∈l,0<s w)->prW s f l<=prL (l.map s)
 | [],_=>zD _
 |w::l,h=>by
  have a:=IQ (f:=f) l λq b=>h q (zt _ b);rw[prW,qm,prL];split
  ·exact mi _ a
  ·exact zf a (gD _ (h w qG))
def C4:Wc c (tV c fs) (oV c fs)=(List.range (ctV c fs)).map (szV c fs):=by
 refine j6 (by simp[Wc,ctV]) λi h1 a=> ?_;rw[qr,List.getElem_range];unfold szV;simp only[Wc]at h1⊢;split
 ·rename_i q;rw[List.getElem_append_left (by simpa using q),qr,zC,zB q];rfl
 ·rename_i q;rw[List.getElem_append_right (by simpa using q),qr]
def zAX(h:∀v,v<ctV c fs->0<szV c fs v):∀r∈Wc c (tV c fs) (oV c fs),0<r:=λr hr=>by
 rw[C4]at hr;obtain⟨v,a,rfl⟩:=zM.1 hr;exact h v (qT.1 a)
def J9(h:ql c fs=0):(p9 c fs).length<=8191:=by
 have h0:=lu h;by_cases b:∀v,v<ctV c fs->0<szV c fs v
 ·have h1:=MI h0 (ctV c fs) (mN c fs) 0 (tg c fs _);have g:=IQ (s:=szV c fs) (f:=pS c fs (mN c fs)) (List.range (ctV c fs)) λw i=>b w (qT.1 i);rw[<-C4]at g;have h3:=P2 (zAX b) (.inl (Nj h));have d:=Nj h;unfold BF at d;unfold p9;have h5:L8 (Wc c (tV c fs) (oV c fs))<=4096:=d;omega
 ·have:∃v,v<ctV c fs/\szV c fs v=0:=by
   refine uu λq=>b λv a=>Nat.pos_of_ne_zero λe=>q ⟨v,a,e⟩
  obtain⟨v,a,e⟩:=this;have h1:=(I4 h0 a e).2 (oD (mN c fs));cases e2:Zm c fs (mN c fs)with
  |none=>exact absurd (rO.1 e2) h1
  |some x=>unfold p9;rw[(nq e2 _ _).2];simp
def Full.whole(h0:(yH c fs).2.2=0){q:Part}(h:Full c fs q):Whole c fs (oD q):=by
 refine Qb.1 ?_;have h1:(oD q).ts.length=(tV c fs).length:=by show(q.ts.map nu).length=_;rw[zG,h.ok.tl]
 have g:(oD q).own.length=(oV c fs).length:=h.ok.ol;have e1:j9 (n9 (tV c fs) (oD q).ts false) (oD q).ts.length=0:=tZ λi d=>by
  rw[h1]at d;have f:i<q.ts.length:=by rw[h.ok.tl];exact d
  have a:=h.de i (by unfold ctV;omega);unfold deV at a;rw[ip d,zC,zB f]at a;have j:=(h.ok.t i _ (zB f)).resolve_left λe=>by rw[e]at a;cases a
  unfold n9
  have:(oD q).ts[i]? =some (nu q.ts[i]):=by show(q.ts.map nu)[i]? =_;rw[zj,zB f];rfl
  rw[this];simp only[gT,wV,zl,yy];rw[iq];simp only[qM,rz,yu];simpa using⟨_,j,(lw _ _).2 rfl⟩
 have e2:j9 (Qh c (oD q).own false) (oD q).own.length=0:=tZ λi d=>by
  have a:=h.de ((tV c fs).length+i) (by rw[g]at d;unfold ctV;omega);unfold deV at a;rw[iq ow,uR]at a;unfold Qh;have b:i<q.own.length:=d;rw[zC,zB b]at a;obtain⟨y,l,e⟩:=(h.ok.o _ (zH b)).resolve_left λe=>by rw[zA,e]at a;cases a
  have k:(oD q).own[i]? =some y.name:=by rw[e];exact zB b
  rw[k];simp only[wV,zl,yy];rw[iq];simp only[qM,rz,yu];simpa using⟨y,l,rfl⟩
 unfold uT;rw[iq (by rw[h0];decide),iq (by rw[h1,g];unfold tV oV;simp),iq (by rw[show j9 (n9 (yH c fs).1 (oD q).ts false) (oD q).ts.length=0 from e1];decide)]
 exact e2
def KJ{y:Cho}(W:Whole c fs y):(yH c fs).2.2=0:=by
 have:=Qb.2 W;unfold uT at this;split at this
 ·rename_i q;rw[this]at q;exact absurd q (by decide)
 ·rename_i q;simpa using q
def WG(h:(yH c fs).2.2=0):tV c fs=(kI fs).map λf=>ofL c f.e:=by
 unfold tV;unfold yH at h⊢;by_cases q:(!((wk c fs).2==0))=true
 ·rw[ip q]at h
  have:(wk c fs).2≠0:=by simpa using q
  exact absurd h this
 ·rw[iq q]at h⊢;rw[fL h,yc]
def Whole.full{q:Part}(W:Whole c fs (oD q)):Full c fs q:=by
 have h0:=KJ W;have g:=WG h0;have n:oV c fs=uW fs []:=aI h0;have k:q.ts.length=(tV c fs).length:=by
  have:=W.tl;rw[g,zG,<-this];show _=(q.ts.map nu).length;rw[zG]
 have ol:q.own.length=(oV c fs).length:=by rw[n];exact W.ol
 have l:∀i (h:i<q.ts.length),q.ts[i]∈(tV c fs).getD i []:=λi h=>by
  have h1:i<(kI fs).length:=by rw[k,g,zG]at h;exact h
  have:=W.ts i (by show i<(q.ts.map nu).length;rwa [zG]) _ (zB h1);have e:((oD q).ts[i]'(by show i<(q.ts.map nu).length;rwa [zG])).ts=q.ts[i]:=by
   show((q.ts.map nu)[i]'(by rwa [zG])).ts=_;rw[qr,gT]
  rw[e]at this;rw[g,zC,zj,zB h1];exact this
 have m:∀s∈q.own,∃x∈c.ls,x.name=s:=λs f=>by
  obtain⟨x,j,e⟩:=yu.1 (W.own s f);exact⟨x,j,by simpa using e⟩
 refine⟨⟨k,ol,λi a e=> ?_,λs f=>.inr (m s f)⟩,λv o=> ?_⟩
 ·obtain⟨h1,rfl⟩:=zK.1 e;exact .inr (l i h1)
 ·unfold deV;split
  ·rename_i h1;have b:v<q.ts.length:=by rw[k];exact h1
   have d:(tV c fs).getD v []∈tV c fs:=by rw[zC,zB h1];exact zH _
   have:=((pc _ d).2.ts _ (l v b)).1;rw[zC,zB b];exact zS (yA.2 this)
  ·rename_i h1;have b:v- (tV c fs).length<q.own.length:=by rw[ol];unfold ctV at o;omega
   obtain⟨x,j,e⟩:=m _ (zH b);have:=J5 W.cat j;rw[zC,zB b];rw[e]at this;simp[this]
theorem lE:∀{l:List Fac}{o:List (List UInt8)},o.Nodup->(uW l o).Nodup
 | [],o,h=>h
 |f::fs,o,h=>by
  rw[uW];split
  ·exact lE h
  ·split
   ·refine lE ?_;split
    ·exact h
    ·rename_i q;rw[List.nodup_append];refine⟨h,by simp,λa d b c e=>q ?_⟩;rw[ze]at c;subst c;exact yu.2 ⟨a,d,by simpa using e⟩
   ·exact lE h
theorem W6{fs:List Fac} :∀{I:List Nat}(k:Nat),(∀i∈I,k<=i)->I.Pairwise (· < ·)->(I.filterMap λi=>fs[i]?).Sublist (fs.drop k)
 | [],k,_,_=>List.nil_sublist _
 |i::I,k,h,a=>by
  rw[t8]at a;have c:=W6 (fs:=fs) (i+1) (λj g=>a.1 j g) a.2;have l:=h i qG;have b:(fs.drop i).Sublist (fs.drop k):=by
   rw[show i=k+(i-k) by omega,<-uN];exact List.drop_sublist _ _
  rw[md];cases e:fs[i]? with
  |none=>
   refine(c.trans ?_).trans b;rw[show i+1=i+1 from rfl,<-uN]
   exact List.drop_sublist _ _
  |some f=>
   obtain⟨d,rfl⟩:=zK.1 e;refine List.Sublist.trans ?_ b;rw[yf d];exact c.cons_cons _
def InI.sub(H:InI fs I):(yG fs I).Sublist fs:=by
 have:=W6 (fs:=fs) 0 (λi _=>yC i) H.inc
 rwa [wb]at this
section
variable{c:Cat}{fs:List Fac}
def zAY(h0:(yH c fs).2.2=0)(d:gs.Sublist fs)(b:(yH c gs).2.2=0):(Wc c (tV c gs) (oV c gs)).Sublist (Wc c (tV c fs) (oV c fs)):=by
 unfold Wc;refine List.Sublist.append ?_ ?_
 ·rw[WG h0,WG b];exact((d.filter _).map _).map _
 ·have e1:oV c gs=uW gs []:=aI b;have e2:oV c fs=uW fs []:=aI h0;rw[e1,e2,List.map_const',List.map_const',List.replicate_sublist_replicate];refine List.Nodup.length_le_of_subset (lE kC) λs a=> ?_;rcases nc.1 a with q| ⟨f,hf,g,e⟩
  ·cases q
  ·exact nc.2 (.inr ⟨f,d.subset hf,g,e⟩)
def BQ{q:Part}{a:Alt}(h:a∈(oD q).ts):nu a.ts=a:=by
 obtain⟨t,_,rfl⟩:=zM.1 h;rw[gT]
def IK(h0:(yH c fs).2.2=0){q:Part}(n:Full c fs q)(h:p0 c fs (oD q)= [])(H:InI fs I):∃f,Full c (yG fs I) f/\p0 c (yG fs I) (oD f)= []:=by
 have W:=n.whole h0;have l:I.length<=256:=by
  have h1:=H.sub.length_le;rw[uj H.lt]at h1;have:=W.len;omega
 have b:=Lm W H l;have d:=Us W H h;have e:oD ⟨(jk (oD q) fs I).ts.map Alt.ts,(jk (oD q) fs I).own⟩ =jk (oD q) fs I:=by
  have:((jk (oD q) fs I).ts.map Alt.ts).map nu=(jk (oD q) fs I).ts:=by
   rw[wF]
   conv=>rhs;rw[<-d7 (jk (oD q) fs I).ts]
   refine wL λa g=> ?_;obtain⟨i,j,rfl⟩:=zM.1 g;obtain⟨m,k⟩:=wZ.1 j;exact BQ (zCB W (H.lt i m) (by simpa using k))
  show Cho.mk (((jk (oD q) fs I).ts.map Alt.ts).map nu) _=_;rw[this]
 rw[<-e]at b d;exact⟨_,b.full,d⟩
def Ll(h0:(yH c fs).2.2=0)(g:rU c fs≠[])(H:InI fs I)(d:(yH c (yG fs I)).2.2=0):rU c (yG fs I)≠[]:=by
 obtain⟨q,f,e⟩:=(XJ h0).1 g;obtain⟨h,b,a⟩:=IK h0 f e H;exact(XJ d).2 ⟨h,b,a⟩
end
variable{c:Cat}{fs:List Fac}
theorem Jf:∀(n:Nat)(e:Ex),e.size<=n->e.Fit c->c.ls.length≠0
 |0,.mk k a x l d,h,_=>by simp only[Ex.size]at h;omega
 |n+1,.mk k a x l d,h,hf=>by
  obtain⟨h1,b⟩:=hf.self;have h1:cP k a x l.length=0:=h1;have b:P3 c (.mk k a x l d)=0:=b;unfold cP at h1;split at h1
  ·split at h1
   ·exact absurd h1 (by decide)
   ·split at h1
    ·exact absurd h1 (by decide)
    ·rename_i q;intro h0;unfold P3 at b;split at b
     ·exact absurd b (by decide)
     ·rename_i f;have i:a≠[]:=λe=>by subst e;exact q (by simp[nC])
      have g:Z9 c a x=true:=by
       simp only[Ex.name,Ex.exc]at f;simp[i]at f;exact f
      unfold Z9 at g
      have:mv c a=none:=by
       unfold mv;split
       ·rfl
       ·split
        ·rw[yM.1 h0];rfl
        ·rfl
      simp[this]at g
  ·split at h1
   ·split at h1
    ·exact absurd h1 (by decide)
    ·rename_i q;simp only[qB,zO,Xk]at q;cases l with
     |nil=>exact absurd (by simp:((([]:List Ex).length:Nat):Int)<2) q.1.1
     |cons e l=>
      refine Jf n e ?_ (hf.kid (by simp[Ex.kids]));simp only[Ex.size,qZ]at h;omega
   ·exact absurd h1 (by decide)
def IB(h:lD c e=0):c.ls.length≠0:=by
 unfold lD at h;split at h
 ·rename_i q;exact Jf _ e (zD _) (Ns (by simpa using q)).2.2
 ·rename_i q;rw[h]at q;exact absurd rfl q
def TK(h:(yH c fs).2.2=0):((wk c fs).2=0)/\∀f∈fs,f.kind=1->lD c f.e=0:=by
 unfold yH at h;by_cases q:(!((wk c fs).2==0))=true
 ·rw[ip q]at h
  have:(wk c fs).2≠0:=by simpa using q
  exact absurd h this
 ·rw[iq q,aG]at h;exact⟨by simpa using q,h⟩
def Mk(h:(yH c fs).2.2=0)(a:gs.Sublist fs):(yH c gs).2.2=0:=by
 obtain⟨h1,b⟩:=TK h;obtain⟨e1,e2,e3⟩:=mo.1 h1
 have:(wk c gs).2=0:=mo.2 ⟨e1,by have:=a.length_le;omega,λf hf=>e3 f (a.subset hf)⟩;unfold yH;rw[iq (by rw[this];decide)];exact aG.2 λf hf=>b f (a.subset hf)
def PC(h:ql c fs=0)(i:gs.Sublist fs):ql c gs=0:=by
 have h0:=lu h;have b:=Mk h0 i;have key:BF c gs<=4096:=by
  show L8 (Wc c (tV c gs) (oV c gs))<=4096;by_cases g:c.ls.length=0
  ·have e1:tV c gs= []:=by
    rw[WG b];cases e:kI gs with
    |nil=>rfl
    |cons f l=>
     obtain⟨hf,k⟩:=wZ.1 (show f∈gs.filter λf=>f.kind==1 from by
      have:f∈kI gs:=by rw[e];exact qG
      exact this)
     exact absurd g (IB ((TK b).2 f hf (by simpa using k)))
   rw[e1];unfold Wc;cases oV c gs with
   |nil=>show L8 []<=4096;decide
   |cons s l=>simp[L8,g]
  ·have d:∀fs:List Fac,∀r∈Wc c (tV c fs) (oV c fs),0<r:=λfs r hr=>by
    rcases yp.1 hr with q|q
    ·obtain⟨a,j,rfl⟩:=zM.1 q;exact yA.2 (pc _ j).2.ne
    ·obtain⟨s,_,rfl⟩:=zM.1 q;omega
   have h1:=P2 (d fs) (.inl (Nj h));have m:L8 (Wc c (tV c fs) (oV c fs))<=4096:=Nj h;have h3:=zAW (zAY h0 i b) (d fs);have h5:=P2 (d gs) (.inr ow);omega
 unfold ql;rw[iq (by rw[b];decide),iq (by simp;omega)]
end Go.V
