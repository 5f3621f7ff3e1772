/- A machine of abstract values for programs of the model, further rules, part 4. No condition. -/
import Derived.Test.YtkenagjlanhnmaaGreatDoorW39
set_option linter.all false
set_option maxHeartbeats 8000000
namespace Go.V
section
variable{P:Program}{W:Nat->(Nat->Prop)->Heap->Prop}{V:(Nat->Prop)->Heap->Prop}{n:Nat}{L:LRec}{el:Nat->List D}
variable{f:FuncId}{args:List D}{h:Heap}{S U:Nat->Prop}{fr:Frm}
def Jx{b:Nat}(O:h.next=b){B C D:(Nat->Prop)->Heap->Prop}{Q:Exit->Frm->Heap->Prop}(v:Lcl W)(X:Lcl λ_=>V)(p:Lcl λ_=>B)(J:Lcl λ_=>C)(K:Lcl λ_=>D)(T:L.st=.ready)(R:L.pending=none)(N:W 0 S h)(I:B U h)(Z:∀i,S i->¬U i)
  (y:Yld P b n el (YLp b L W) (ZLp b L V)->YLp b L W 0 (λi=>i=b\/S i) (h.new b (.loop L))->B U (h.new b (.loop L))->(∀i,(i=b\/S i)->¬U i)->zD P f args (h.new b (.loop L)) λ_ h'=>∃S' a,(∀j,S' j->(j=b\/S j)\/(h.new b (.loop L)).next<=j)/\(∀j,a j->U j\/(h.new b (.loop L)).next<=j)/\(∀i,S' i->¬a i)/\But (λi=>(i=b\/S i)\/U i) (h.new b (.loop L)) h'/\((YLp b L W n S' h'/\C a h')\/(ZLp b L V S' h'/\D a h')))
  (go:∀k S0 h3,k<n->b<h3.next->h3.at' b=some (.loop L)->W k S0 h3->¬S0 b->wo P b (el k) h3 (LpZ b L W V k S0 h3))
  (H:∀S' a d,(∀j,S' j->S j\/b<=j)->(∀j,a j->U j\/b<=j)->(∀i,S' i->¬a i)->But (λi=>S i\/U i) h d->W n S' d->C a d->Q .normal fr d)
  (t:∀S' a d,(∀j,S' j->S j\/b<=j)->(∀j,a j->U j\/b<=j)->(∀i,S' i->¬a i)->But (λi=>S i\/U i) h d->V S' d->D a d->Q .ret fr d):
  zD P f args (h.new b (.loop L)) λ_ h'=>∃r,h'.at' b=some (.loop r)/\r.st≠ .busy/\Wd r.pending Q fr (h'.del b):=by
 subst O;have hn:(h.new h.next (.loop L)).next=h.next+1:=za _ _;have M:¬S h.next:=λe=>wH _ (v.here _ _ _ N _ e);have u:¬U h.next:=λe=>wH _ (p.here 0 _ _ I _ e);refine(y (YLp.yldZ v X go) ⟨ow,z5 _ _ _,S,v.loc _ _ _ _ N ow λi c=>zf (by have:=v.here _ _ _ N _ c;omega),M,λi=>Iff.rfl⟩ (p.loc 0 _ _ _ I ow λi c=>zf (by have:=p.here 0 _ _ I _ c;omega)) (λi c=>by
  rcases c with rfl|c
  .exact u
  .exact Z i c)).mono ?_
 have key:∀(S' a S0:Nat->Prop)(d:Heap),(∀j,S' j->(j=h.next\/S j)\/(h.new h.next (.loop L)).next<=j)->(∀j,a j->U j\/(h.new h.next (.loop L)).next<=j)->(∀i,S' i->¬a i)->But (λi=>(i=h.next\/S i)\/U i) (h.new h.next (.loop L)) d->¬S0 h.next->(∀i,S' i↔(i=h.next\/S0 i))->(∀j,S0 j->S j\/h.next<=j)/\(∀j,a j->U j\/h.next<=j)/\(∀i,S0 i->¬a i)/\But (λi=>S i\/U i) h (d.del h.next)/\¬a h.next:=by
  intro S' a S0 d A l g w m o;refine⟨λj z=> ?_,λj z=>(l j z).imp (λq=>q) λq=>by omega,λi c=>g i ((o i).2 (.inr c)),⟨by have:=w.1;show h.next<=d.next;omega,λi c x=> ?_⟩,g _ ((o _).2 (.inl rfl))⟩
  .rcases A j ((o j).2 (.inr z))with(q|q)|q
   .subst q;exact absurd z m
   .exact .inl q
   .exact .inr ow
  .have s:i≠h.next:=ow
   rw[wM s,w.2 i ow (λe=>e.elim (λe=>e.elim s λq=>x (.inl q)) λq=>x (.inr q)),zf s]
 rintro r d ⟨S',a,A,l,g,w,⟨⟨Y,E,S0,F,m,o⟩,G⟩ | ⟨⟨Y,E,S0,F,m,o⟩,G⟩⟩
 .obtain⟨k1,k2,k3,k4,k5⟩:=key S' a S0 d A l g w m o
  refine⟨L,E,(by rw[T];intro q;cases q),?_⟩;rw[R,rp];exact H S0 a _ k1 k2 k3 k4 (v.loc _ _ _ _ F (zC _) λi c=>wM λe=>by subst e;exact m c) (J.loc 0 _ _ _ G (zC _) λi c=>wM λe=>by subst e;exact k5 c)
 .obtain⟨k1,k2,k3,k4,k5⟩:=key S' a S0 d A l g w m o
  refine⟨_,E,(by intro q;cases q),?_⟩;simp only[bl];exact t S0 a _ k1 k2 k3 k4 (X.loc 0 _ _ _ F (zC _) λi c=>wM λe=>by subst e;exact m c) (K.loc 0 _ _ _ G (zC _) λi c=>wM λe=>by subst e;exact k5 c)
end
open Go.Proofs
set_option maxRecDepth 100000
def Qn(c:Cat)(fs:List Fac)(p:Part):Option Vio:=(pq c fs (jl p)).head?
structure Nd where
 var:Int
 kids:List Int
 vio:Option Vio
def n9(c:Cat)(fs:List Fac):Nat->Part->List Part
 |0,p=>if(Qn c fs p).isSome=true then []else [p]
 |m+1,p=>if(Qn c fs p).isSome=true then []else match nxV c fs p with
  |none=>[p]
  |some v=>(List.range (szV c fs v)).flatMap λk=>n9 c fs m (pu c fs p v k)
def pp(f:Nat->Nat->List Nd):Nat->Nat->List Int×List Nd
 |0,_=>([],[])
 |k+1,n=>((pp f k n).1++ [((n+(pp f k n).2.length:Nat):Int)],(pp f k n).2++f k (n+(pp f k n).2.length))
def lw(c:Cat)(fs:List Fac):Nat->Part->Nat->List Nd
 |0,p,_=>match Qn c fs p with
  |some v=>[⟨-1,[],some v⟩]
  |none=>[]
 |m+1,p,n=>match Qn c fs p with
  |some v=>[⟨-1,[],some v⟩]
  |none=>match nxV c fs p with
   |none=>[]
   |some v=>⟨(v:Int),(pp (λk n'=>lw c fs m (pu c fs p v k) n') (szV c fs v) (n+1)).1,none⟩ ::(pp (λk n'=>lw c fs m (pu c fs p v k) n') (szV c fs v) (n+1)).2
def opn(c:Cat)(fs:List Fac)(p:Part):Nat:=((List.range (ctV c fs)).filter (pI c fs p)).length
variable{c:Cat}{fs gs:List Fac}{p:Part}{f:FuncId}{args:List D}{h h' g:Heap}{S U S0:Nat->Prop}{fr:Frm}{xs:List (List D)}{sz i nid j:Nat}{d:D}{I:List Nat}{e:Ex}
def fi{v:Nat}(h:nxV c fs p=some v):v<ctV c fs/\pI c fs p v=true/\∀j,j<v->pI c fs p j=false:=by
 unfold nxV at h;rw[sI]at h;obtain⟨h1,i,b,a,h3⟩:=h;simp at a b;subst a;exact⟨b,h1,λj d=>by have:=h3 j d;simp at this;exact this⟩
def zCg(h:(yV c fs).2.2=0):rt c=0:=by
 unfold yV at h;split at h
 .rename_i q
  rw[h]at q;exact absurd q jD
 .rename_i q
  exact PG (by simpa using q)
def J4(h:rt c=0){x:Lic}(b:x∈c.ls):x.name≠[]:=λe=>by
 have h1:c.e1=0:=by
  unfold rt at h;split at h
  .exact absurd h jD
  .split at h
   .rename_i q;rw[h]at q;exact absurd q jD
   .simp_all
 obtain⟨i,a,rfl⟩:=zz.1 b;have:=bQ h1 i a;unfold atE at this;rw[zB a]at this;simp only[bY]at this;rw[ip (by rw[e];rfl)]at this;cases this
def PL(h:POk c fs p)(h0:(yV c fs).2.2=0){v k:Nat}(j:v<ctV c fs)(a:k<szV c fs v)(w:Nat):deV c fs (pu c fs p v k) w=(decide (w=v)||deV c fs p w):=by
 unfold pu;unfold szV at a;by_cases f:v<(tV c fs).length
 .rw[ip f]at a⊢
  unfold deV;by_cases b:w<(tV c fs).length
  .simp only[ip b]
   by_cases e:w=v
   .subst e
    have d:w<p.ts.length:=by rw[h.tl];exact b
    rw[zR rfl,pd,zE,js d,zA,zO];have g:((tV c fs).getD w []).getD k []≠[]:=by
     rw[zE (l:=(tV c fs).getD w []),zB a];have i:(tV c fs).getD w []∈tV c fs:=by rw[zE,zB b];exact zH _
     exact((pM _ i).2.ts _ (zH a)).1
    exact zy.2 g
   .rw[zN e,uw,zE,ry (λq=>e q.symm),<-zE]
  .simp only[iq b]
   rw[zN (show¬w=v by omega),uw]
 .rw[iq f]at a⊢
  unfold deV;by_cases b:w<(tV c fs).length
  .simp only[ip b]
   rw[zN (show¬w=v by omega),uw]
  .simp only[iq b]
   by_cases e:w=v
   .subst e
    have d:w- (tV c fs).length<p.own.length:=by rw[h.ol];unfold ctV at j;omega
    rw[zR rfl,pd,zE,js d,zA,fg a];have:=J4 (zCg h0) (zH a);simp[this]
   .rw[zN e,uw,zE,ry ow,<-zE]
def Pd(g:POk c fs p)(h0:(yV c fs).2.2=0){v k:Nat}(i:nxV c fs p=some v)(f:k<szV c fs v):opn c fs (pu c fs p v k)<opn c fs p:=by
 obtain⟨h1,d,_⟩:=fi i;have key:∀l:List Nat,(l.filter (pI c fs (pu c fs p v k))).length<=(l.filter (pI c fs p)).length/\(v∈l->(l.filter (pI c fs (pu c fs p v k))).length<(l.filter (pI c fs p)).length):=λl=>by
  induction l with
  |nil=>exact⟨zC _,λh=>by cases h⟩
  |cons w l a=>
   have b:pI c fs (pu c fs p v k) w=(!decide (w=v)&&pI c fs p w):=by
    unfold pI;rw[PL g h0 h1 f];cases decide (w=v)<;>cases decide (1<szV c fs w)<;>cases deV c fs p w<;>rfl
   by_cases e:w=v
   .subst e
    rw[sW,sW,b,d];simp only[cH,nj,wi,zg,yp,qF,zx];exact⟨ow,λ_=>by omega⟩
   .rw[sW,sW,b,zN e,sj,uT]
    split
    .simp only[zx]
     exact⟨ow,λh=>by have:=a.2 ((z7.1 h).resolve_left λq=>e q.symm);omega⟩
    .exact⟨a.1,λh=>a.2 ((z7.1 h).resolve_left λq=>e q.symm)⟩
 exact(key _).2 (yz.2 h1)
open Go.Proofs.Tryz
def Gv:∀{a j:Nat}{x:List D},(∀y∈xs,y.length=sz)->xs[a]? =some x->j<sz->xs.flatten[a*sz+j]? =x[j]? :=by
 induction xs with
 |nil=>intro a j x _ h;cases h
 |cons z xs e=>
  intro a j x b h d;have c:=b z qO;cases a with
  |zero=>cases h;rw[yT,sK,yH,yj ow]
  |succ a=>
   rw[yT,yf (by rw[qh];omega),c,show(a+1)*sz+j-sz=a*sz+j by rw[qh];omega]
   grind
def Gw{w:D} :∀{a j:Nat}{x:List D},(∀y∈xs,y.length=sz)->xs[a]? =some x->j<sz->xs.flatten.set (a*sz+j) w=(xs.set a (x.set j w)).flatten:=by
 induction xs with
 |nil=>intro a j x _ h;cases h
 |cons z xs e=>
  intro a j x b h c;have d:=b z qO;cases a with
  |zero=>cases h;rw[yT,sK,yH,List.set_append_left _ _ ow];rfl
  |succ a=>
   grind
def HE:Option Vio->List D
 |none=>[.int .i64 0,.nilsl]
 |some v=>v.cells
def ndC(m:Nd×D):List D:=.int .i64 m.1.var::m.2::HE m.1.vio
theorem J5(m:Nd×D):(ndC m).length=4:=by obtain⟨⟨v,k,o⟩,d⟩:=m;cases o<;>rfl
def fh(M:List (Nd×D)):∀x∈M.map ndC,x.length=4:=by grind [J5]
def BT(h:Heap)(xs:List (List D))(d:D):Prop:=rJ h 1 xs d/\(xs= []->d=.nilsl)
def BT.tok(o:BT h xs d)(a:tu d i):i<h.next/\h.at' i=some .tok:=o.1.tok a
def BT.loc(o:BT h xs d)(b:h.next<=h'.next)(a:∀i,tu d i->h'.at' i=h.at' i):BT h' xs d:=⟨o.1.loc b a,o.2⟩
def NdH(nid:Nat)(L:List Nd)(S:Nat->Prop)(h:Heap):Prop:=
 nid<h.next/\∃ (d:D) (M:List (Nd×D)),h.at' nid=some (.row [d])/\Qp h 4 (M.map ndC) d/\¬cT d nid/\M.map Prod.fst=L/\(∀m∈M,BT h (wt m.1.kids) m.2)/\(∀(a b:Nat) m m' i,M[a]? =some m->M[b]? =some m'->tu m.2 i->tu m'.2 i->a=b)/\∀i,S i↔(i=nid\/cT d i\/∃m∈M,tu m.2 i)
def Qp.row(o:Qp h sz xs d)(a:cT d i):i<h.next/\d=.rs i sz 0 xs.length/\h.at' i=some (.row xs.flatten):=by grind [Qp,cT]
def NdH.here{L:List Nd}(H:NdH nid L S h)(i:Nat)(c:S i):i<h.next:=by
 obtain⟨h0,d,M,h1,a,h3,f,h5,g,b⟩:=H;rcases(b i).1 c with rfl|q| ⟨m,e,q⟩
 .exact h0
 .exact(a.row q).1
 .exact((h5 m e).tok q).1
def NdH.loc{L:List Nd}(H:NdH nid L S h)(f:h.next<=h'.next)(c:∀i,S i->h'.at' i=h.at' i):NdH nid L S h':=by
 obtain⟨h0,d,M,h1,g,h3,j,h5,k,a⟩:=H;exact⟨ow,d,M,by rw[c _ ((a _).2 (.inl rfl))];exact h1,g.loc f λi b=>c i ((a i).2 (.inr (.inl b))),h3,j,λm e=>(h5 m e).loc f λi b=>c i ((a i).2 (.inr (.inr ⟨m,e,b⟩))),k,a⟩
def NdH.len{L:List Nd}(H:NdH nid L S h):∃d,h.at' nid=some (.row [d])/\∀h',o9 prog 32 d h'=some (.int .i64 L.length):=by
 obtain⟨h0,d,M,h1,a,h3,rfl,h5,b,c⟩:=H;refine⟨d,h1,λh'=> ?_⟩;rw[zI];rcases a with⟨rfl,e⟩ | ⟨id,rfl,_⟩
 .have:M= []:=by simpa using e
  subst this;exact wL (yZ.nil (sz:=4)) underlying32
 .simp_all [oz,zI]
def NdH.app{L:List Nd}(H:NdH nid L S h)(v:Int)(o:Option Vio)(J:L.length<1048576):
  ∃d,h.at' nid=some (.row [d])/\(∀z,tT d z h=h)/\∃r G t,qS prog true h.next 32 d (.sl 4 [ndC (⟨v,[],o⟩,.nilsl)] .full) h=some (r,G)/\yW prog 32 (.ptr nid 0) r G=some t/\G.at' nid=some (.row [d])/\(∀i,i<h.next->¬S i->G.at' i=h.at' i)/\∃S',NdH nid (L++ [⟨v,[],o⟩]) S' t/\(∀i,S' i->S i\/h.next<=i)/\But S h t:=by
 obtain⟨h0,d,M,h1,u,h3,rfl,h5,O,C⟩:=H;have k:(M.map ndC).length=M.length:=zI ..;rw[zI]at J;obtain⟨g,f,x,A⟩:=Qp.app (P:=prog) (nid:=h.next) (tk:=.full) u fV Fw lq ow (λcs=>sV underlying139) (fh M) (ys:=[ndC (⟨v,[],o⟩,.nilsl)]) (λy K=>by rw[zo.1 K];exact J5 _) jS (by rw[k,M5];unfold lim;simp;omega) (by rw[k];unfold lim;simp;omega);have B:M.map ndC++ [ndC (⟨v,[],o⟩,.nilsl)]=(M++ [((⟨v,[],o⟩:Nd),D.nilsl)]).map ndC:=jS;rw[B]at f
 obtain⟨G,E,F,w,c⟩:∃G:Heap,g.new h.next (.row ((M++ [((⟨v,[],o⟩:Nd),D.nilsl)]).map ndC).flatten)=G/\G.next=h.next+1/\G.at' h.next=some (.row ((M++ [((⟨v,[],o⟩:Nd),D.nilsl)]).map ndC).flatten)/\∀i,i<h.next->¬cT d i->G.at' i=h.at' i:=
  ⟨_,rfl,by rw[<-x,za],z5 _ _ _,λi j s=>by rw[zf ow,A i s]⟩
 rw[E]at f;have l:G.at' nid=some (.row [d]):=by rw[c _ h0 h3,h1]
 have I:∀n:Nat,(M++ [((⟨v,[],o⟩:Nd),D.nilsl)]).map ndC≠[]:=λ_=>by simp
 refine⟨d,h1,u.trunc (fh M),_,G,G.set nid (.row [.rs h.next 4 0 ((M++ [((⟨v,[],o⟩:Nd),D.nilsl)]).map ndC).length]),f,by rw[yN l zHC jS rfl rfl];rfl,l,λi j s=>c i j λe=>s ((C _).2 (.inr (.inl e))),λi=>i=nid\/i=h.next\/∃m∈M,tu m.2 i,⟨by rw[yY];omega,_,M++ [((⟨v,[],o⟩:Nd),D.nilsl)],zW _ _ _,.inr ⟨h.next,rfl,by rw[zX ow];exact w,by rw[yY];omega,I 0⟩,λe=>by cases e;omega,jS,λm p=> ?_,λa b m Q i e1 e2 t1 t2=> ?_,λi=> ?_⟩,λi j=> ?_,⟨by rw[yY];omega,λi j s=> ?_⟩⟩
 .rcases qB.1 p with q|q
  .refine(h5 m q).loc (by rw[yY];omega) λi j=> ?_
   obtain⟨t1,t2⟩:=(h5 m q).tok j;have N:i≠nid:=by grind
   rw[zX N,c i t1 λe=>by rw[(u.row e).2.2]at t2;cases t2]
  .rw[zo.1 q];exact⟨.inl ⟨rfl,rfl⟩,λ_=>rfl⟩
 .grind [tu]
 .constructor
  .rintro(q|q| ⟨m,p,q⟩)
   .exact .inl q
   .exact .inr (.inl q)
   .grind
  .rintro(q|q| ⟨m,p,q⟩)
   .exact .inl q
   .exact .inr (.inl q)
   .rcases qB.1 p with h|h
    .grind
    .rw[zo.1 h]at q;exact q.elim
 all_goals grind [zX]
def NdH.kid{L:List Nd}(H:NdH nid L S h){a:Nat}{nd:Nd}(W:L[a]? =some nd)(n:Int)(hl:nd.kids.length<1048576):
  ∃f N,h.at' nid=some (.row [.rs f 4 0 N])/\nid<h.next/\f<h.next/\N=L.length/\∃cs J,h.at' f=some (.row cs)/\cs[a*4+1]? =some J/\∃g G z,qS prog false h.next 30 J (.sl 1 [[.int .i64 n]] .full) h=some (g,G)/\yW prog 30 (.ptr f (a*4+1)) g G=some z/\G.at' nid=some (.row [.rs f 4 0 N])/\G.at' f=some (.row cs)/\∃S',NdH nid (L.set a { nd with kids:=nd.kids++ [n] }) S' z/\(∀i,S' i->S i\/h.next<=i)/\But S h z:=by
 obtain⟨h0,d,M,h1,U,h3,rfl,h5,V,y⟩:=H;rw[zm]at W;obtain⟨m,r,rfl⟩:∃m,M[a]? =some m/\m.1=nd:=by grind
 have o:=zh r;have X:=(zK.1 r).1;rcases U with⟨rfl,e⟩ | ⟨f,rfl,r1,r2,r3⟩
 .have:M= []:=by simpa using e
  subst this;cases r
 have s:(M.map ndC)[a]? =some (ndC m):=by rw[zm,r];rfl
 obtain⟨g,G,e1,e2,e3,v,e5,R,T⟩:=(h5 m o).1.app4 (P:=prog) (x:=.sl 1 [[.int .i64 n]] .full) (ys:=wt [n]) wA V5 sG ow bU (.inr ⟨by simp[wt],.full,rfl⟩) (by rw[wE,fO];unfold lim;simp[wt];omega) (by rw[wE];unfold lim;simp[wt];omega);have D:wt m.1.kids++wt [n]=wt (m.1.kids++ [n]):=by simp[wt]
 rw[D]at e2;have K:∀i O,h.at' i=some (.row O)->¬tu m.2 i:=λi O e t=>by rw[((h5 m o).tok t).2]at e;cases e
 have F:G.at' nid=some (.row [.rs f 4 0 (M.map ndC).length]):=by rw[v _ h0 (K _ _ h1),h1]
 have w:G.at' f=some (.row (M.map ndC).flatten):=by rw[v _ r2 (K _ _ r1),r1]
 have E:nid≠f:=λe=>h3 e;have C:(M.map ndC).flatten.length=M.length*4:=by rw[uP (fh M),zI]
 have u:(M.map ndC).flatten.set (a*4+1) g=((M.set a ({ m.1 with kids:=m.1.kids++ [n] },g)).map ndC).flatten:=by
  rw[Gw (fh M) s ow,tC];rfl
 refine⟨f,_,h1,h0,r2,jS,(M.map ndC).flatten,m.2,r1,by rw[Gv (fh M) s ow];rfl,g,G,G.set f (.row ((M.set a ({ m.1 with kids:=m.1.kids++ [n] },g)).map ndC).flatten),e1,by rw[yN w zHB (by rw[C];omega) R T,u],F,w,λi=>i=nid\/i=f\/∃k∈M.set a ({ m.1 with kids:=m.1.kids++ [n] },g),tu k.2 i,⟨by rw[yY];omega,_,M.set a ({ m.1 with kids:=m.1.kids++ [n] },g),by rw[zX E];exact F,.inr ⟨f,jS,zW _ _ _,by rw[yY];omega,by rw[tC];simpa using r3⟩,h3,by rw[tC],λk l=> ?_,λQ b' m1 m2 i q1 q2 t1 t2=> ?_,λi=>Iff.rfl⟩,λi j=> ?_,⟨by rw[yY];exact e3,λi j I=> ?_⟩⟩
 .rcases tp l with q|rfl
  .obtain⟨b,Y,rfl⟩:=zz.1 l
   rw[List.getElem_set]at q⊢;split
   .exact⟨e2.loc (by rw[yY];exact zC _) λi j=>(by rw[zX λe=>by have:=(e2.tok j).2;rw[e,w]at this;cases this]),λe=>(by simp[wt]at e)⟩
   .rename_i A
    have B:b<M.length:=by simpa using Y
    have p:M[b]∈M:=zH _;refine(h5 _ p).loc (by rw[yY];exact e3) λi j=> ?_;obtain⟨t1,t2⟩:=(h5 _ p).tok j;rw[zX (λe=>by rw[e,r1]at t2;cases t2),v i t1 λt=>A (V a b m _ i r (zB B) t j)]
  .exact⟨e2.loc (by rw[yY];exact zC _) λi j=>(by rw[zX λe=>by have:=(e2.tok j).2;rw[e,w]at this;cases this]),λe=>(by simp[wt]at e)⟩
 .have key:∀(c:Nat) k,(M.set a ({ m.1 with kids:=m.1.kids++ [n] },g))[c]? =some k->tu k.2 i->(c=a/\h.next<=i)\/(c≠a/\M[c]? =some k/\i<h.next):=λc k e t=>by
   rw[oP]at e;split at e
   .grind
   .rename_i q
    exact .inr ⟨λe=>q e.symm,e,((h5 k (zh e)).tok t).1⟩
  rcases key Q m1 q1 t1 with⟨k1,k2⟩ | ⟨k1,k2,k3⟩ <;>rcases key b' m2 q2 t2 with⟨Z,l2⟩ | ⟨Z,l2,l3⟩
  all_goals grind
 .rcases j with rfl|rfl| ⟨k,l,t⟩
  .exact .inl ((y _).2 (.inl rfl))
  .exact .inl ((y _).2 (.inr (.inl rfl)))
  .grind
 .rw[zX (λe=>I ((y _).2 (.inr (.inl e)))),v i j λt=>I ((y _).2 (.inr (.inr ⟨m,o,t⟩)))]
abbrev CD(p:Part):D:=.agg [tsD p,owD p]
theorem Rl(f:Nat->Nat->List Nd):∀k n,(pp f k n).1.length=k
 |0,_=>rfl
 |k+1,n=>by rw[pp,zQ,Rl f k n];rfl
def Lf(f:Nat->Nat->List Nd)(n:Nat):∀{k m:Nat},k<=m->(pp f k n).2.length<=(pp f m n).2.length:=λ{k m} h=>by
 induction m with
 |zero=>rw[Nat.le_zero.1 h];exact zC _
 |succ m a=>
  rcases Nat.lt_or_eq_of_le h with q|rfl
  .refine zb (a ow) ?_
   rw[pp,zQ];omega
  .exact zC _
section
variable{c:Cat}{fs:List Fac}{ca cb ce cp x td od:D}
def POk.alt(S:SpD c fs ca cb ce cp x td od)(b:POk c fs p):∀t∈p.ts,t.length<=64:=λt e=>by
 obtain⟨i,a,rfl⟩:=zz.1 e;rcases b.t i _ (zB a)with q|q
 .rw[q];exact yM _
 .have f:i<(tV c fs).length:=by rw[<-b.tl];exact a
  have d:(tV c fs).getD i []∈tV c fs:=by rw[zE,zB f];exact zH _
  exact((S.t64 _ d).2.ts _ q).2
def POk.cin(S:SpD c fs ca cb ce cp x td od)(b:POk c fs p):CIn c fs (jl p) (.agg [ca,cb,ce,cp]) x (CD p):=
 ⟨S.cat,S.sm,S.x,by have:=S.few.1.2;omega,S.few.1.1,S.ok,⟨_,_,rfl,yZ.mk .no,yZ.mk .no⟩,⟨by have:=S.tl;have:=b.tl;show(p.ts.map jy).length<=_;rw[zI];omega,by have:=S.ol;have:=b.ol;show p.own.length<=_;omega,λa d=>by
  obtain⟨t,e,rfl⟩:=zS.1 d;exact⟨by rw[Yj];exact KY t,by rw[Yj];have:=b.alt S t e;omega⟩⟩⟩
def POk.err(S:SpD c fs ca cb ce cp x td od)(b:POk c fs p):qN c fs (jl p) true=0:=by
 have h1:(jl p).ts.length=(tV c fs).length:=by show(p.ts.map jy).length=_;rw[zI,b.tl]
 have e:(jl p).own.length=(oV c fs).length:=b.ol;have e1:gT (my (tV c fs) (jl p).ts true) (jl p).ts.length=0:=sE λi a=>by
  rw[h1,<-b.tl]at a;unfold my
  have:(jl p).ts[i]? =some (jy p.ts[i]):=by show(p.ts.map jy)[i]? =_;rw[zm,zB a];rfl
  rw[this];simp only[Yj];rcases b.t i _ (zB a)with q|q
  .rw[q];rfl
  .split
   .rfl
   .rw[iq]
    simp only[qI,lx,yu];simpa using⟨_,q,(jC _ _).2 rfl⟩
 have e2:gT (MN c (jl p).own true) (jl p).own.length=0:=sE λi a=>by
  unfold MN;have d:(jl p).own[i]∈p.own:=zH a;rw[zB a];generalize(jl p).own[i]=s at d;rcases b.o s d with q| ⟨y,f,q⟩
  .rw[q];rfl
  .split
   .rename_i h;cases h
   .rename_i h
    cases h;split
    .rfl
    .rw[iq]
     simp only[qI,lx,yu];simpa using⟨y,f,q⟩
 unfold qN;rw[iq (by rw[S.v0];decide),iq (by rw[h1,e];unfold tV oV;simp),iq (by rw[show gT (my (yV c fs).1 (jl p).ts true) (jl p).ts.length=0 from e1];decide)]
 exact e2
def zEc(S:SpD c fs ca cb ce cp x td od)(a:POk c fs p):Zi c fs (jl p)=.tuple [.agg (HE (Qn c fs p)),.bool (Qn c fs p).isSome,.int .i64 0]:=by
 unfold Zi;rw[a.err S,Yi];unfold Qn vcs;cases pq c fs (jl p)<;>rfl
end
abbrev vfN(yid nid vid:Nat)(sp:List D):D:=.fn (.func 89) [] [.iptr [.ptr nid 0] 0,.iptr [.iptr sp 0] 0,.iptr [.yld yid] 0,.ptr vid 0]
abbrev elP(Lw:List Part)(k:Nat):List D:=[CD (Lw.getD k ⟨[],[]⟩)]
def zHv(Y:Nat->(Nat->Prop)->Heap->Prop)(Z:(Nat->Prop)->Heap->Prop)(nid:Nat)(S1 S2:Nat->Prop)(h:Heap)(k:Nat)(L:List Nd)(r:D)(h':Heap):Prop:=
 ∃S1' S2',(∀i,S1' i->S1 i\/h.next<=i)/\(∀i,S2' i->S2 i\/h.next<=i)/\(∀i,S1' i->¬S2' i)/\But (λi=>S1 i\/S2 i) h h'/\((r=.bool true/\Y k S1' h'/\NdH nid L S2' h')\/(r=.bool false/\Z S1' h'/\∃L',NdH nid L' S2' h'))
variable{c:Cat}{fs:List Fac}
def Qh{v:Vio}(e:Qn c fs p=some v)(m n:Nat):n9 c fs m p= []/\lw c fs m p n= [⟨-1,[],some v⟩]:=by
 cases m<;>simp[n9,lw,e]
def HQ(e:Qn c fs p=none)(e2:nxV c fs p=none)(m n:Nat):n9 c fs m p= [p]/\lw c fs m p n= []:=by
 cases m<;>simp[n9,lw,e,e2]
def Heap.two(i j:Nat)(h:Heap):Heap:=⟨0,λk=>if k=i\/k=j then h.at' k else none⟩
def I6(i j:Nat)(h:Heap):(Heap.two i j h).at' i=h.at' i:=ip (.inl rfl)
def I7(i j:Nat)(h:Heap):(Heap.two i j h).at' j=h.at' j:=ip (.inr rfl)
def Ud(h1:h'.at' i=h.at' i)(a:h'.at' j=h.at' j):HLe (Heap.two i j h) h':=λk b e=>by grind [Heap.two]
section
variable{c:Cat}{fs:List Fac}{ca cb ce cp x td od:D}
theorem Ge(S:SpD c fs ca cb ce cp x td od){w nid vid:Nat}{Lw:List Part}{Y:Nat->(Nat->Prop)->Heap->Prop}{Z:(Nat->Prop)->Heap->Prop}(y:Yld prog w Lw.length (elP Lw) Y Z):∀(m:Nat)(p:Part),POk c fs p->opn c fs p<=m->∀k,(∀j q,(n9 c fs m p)[j]? =some q->Lw[k+j]? =some q)->∀L S1 W h,Y k S1 h->NdH nid L W h->(∀i,S1 i->¬W i)->vid<h.next->¬S1 vid->¬W vid->h.at' vid=some (.row [vfN w nid vid [ca,cb,ce,cp,x,td,od]])->L.length+(lw c fs m p L.length).length<=1048576->zD prog 89 [CD p,.iptr [.ptr nid 0] 0,.iptr [.iptr [ca,cb,ce,cp,x,td,od] 0] 0,.iptr [.yld w] 0,.ptr vid 0] h (zHv Y Z nid S1 W h (k+(n9 c fs m p).length) (L++lw c fs m p L.length)):=by
 intro m
 induction m using Nat.strongRecOn with
 |ind m ih=>
 intro p hp hm k hk L S1 W h hY hN hd v0 v1 v2 hv hB;have di:∀h,HLe Heap.emp h:=λh i ob e=>by cases e
 have ds:yO true 4 [ca,cb,ce,cp,x,td,od] 0=some (.agg [ca,cb,ce,cp]):=rfl;have u:=M9 (hp.cin S);rw[zEc S hp]at u;obtain⟨d,n1,n2⟩:=hN.len;refine xP λQ hQ=> ?_;cases e0:Qn c fs p with
 |some v=>
  obtain⟨T,U⟩:=Qh e0 m L.length;rw[T,U]at hQ;rw[U]at hB;rw[e0]at u;simp only[HE,Vio.cells,Option.isSome]at u;have b8:yW prog 137 (.ptr h.next 0) (.agg [.int .i64 v.row,.sl 1 (wt v.facts) .no]) (h.new h.next (.row [.int .i64 0,.nilsl]))=some (h.new h.next (.row [.int .i64 v.row,.sl 1 (wt v.facts) .no])):=ym tS ow rfl rfl rfl;have hb:qW prog 139 [(0,.int .i64 (-1)),(2,.agg [.int .i64 v.row,.sl 1 (wt v.facts) .no])]=some (.agg (ndC (⟨-1,[],some v⟩,.nilsl))):=by
   simp[qW,Xr,aQ,ua,wS,ndC,HE,Vio.cells,D.cells,D.notTuple]
  have b3:∀nid H,yD prog false nid 32 1 [(0,.agg (ndC (⟨-1,[],some v⟩,.nilsl)))] H=some (.sl 4 [ndC (⟨-1,[],some v⟩,.nilsl)] .full,H):=λnid H=>qd (x:=.agg (ndC (⟨-1,[],some v⟩,.nilsl))) fV aQ lq rfl rfl ow ow rfl rfl;obtain⟨G,hG,hE,bs,c3⟩:∃G:Heap,h.new h.next (.row [.int .i64 v.row,.sl 1 (wt v.facts) .no])=G/\Ext h G/\G.next=h.next+1/\G.at' h.next=some (.row [.int .i64 v.row,.sl 1 (wt v.facts) .no]):=⟨_,rfl,(Ext.refl h).new (zC _) _,za _ _,z5 _ _ _⟩;rw[hG]at b8;have A:=hN.loc hE.1 λi o=>hE.2 i (hN.here i o)
  obtain⟨d',a1,a2,r,G1,G2,a3,a4,b1,b2,J,a5,a6,X⟩:=A.app (-1) (some v) (by simp at hB;omega);rw[bs]at a3;have z:=y.ext hY hE;have ad:Q (.bool true) G2:=hQ _ _ ⟨S1,J,λi o=>.inl o,λi o=>(a6 i o).imp id λq=>by omega,λi h1 O=>by
   rcases a6 i O with q|q
   .exact hd i h1 q
   .have:=y.here _ _ _ hY i h1;omega,(hE.but _).trans ⟨X.1,λi o hn=>X.2 i o λq=>hn (.inr q)⟩ λi o=>.inl o,.inl ⟨rfl,y.loc _ _ _ _ z X.1 λi o=>X.2 i (by have:=y.here _ _ _ z i o;omega) (hd i o),a5⟩⟩
  have C:HLe (Heap.two nid h.next G) G:=Ud rfl rfl;have ag:HLe (Heap.two nid h.next G) G1:=Ud (by rw[b1,a1]) (b2 _ ow λq=>wH _ (hN.here _ q));have t1:(Heap.two nid h.next G).at' nid=some (.row [d']):=by rw[I6];exact a1
  have t2:(Heap.two nid h.next G).at' h.next=some (.row [.int .i64 v.row,.sl 1 (wt v.facts) .no]):=by rw[I7];exact c3
  clear hQ hY hN hd v0 v1 v2 hv hB T U e0 hk hm ih A z hG a5 a6 X b1 b2;refine zj zIG ?_;simp only[f89,zA]
  repeat' first|simp only[go_sem, *]|apply bc<;>intro B
  refine yq Heap.emp ((0,.st,true)::((4,.st,true)::((8,.st,true)::(pwt [1,2] ((3,.st,true)::(pwt [5,6] ((7,.st,true)::((9,.st,true)::(pwt [10,11,12,13,14,15,16,17] []))))))))) kr kr (λi ob e=>by cases e) ?_
  repeat' first|simp only[go_sem, *]|apply bc<;>intro B
  refine Pc _ (λH=>u H) ?_
  repeat' first|simp only[go_sem, *]|apply bc<;>intro B
  refine yq (Heap.two nid h.next G) ((0,.st,true)::(pwt [1,4,2,3,5,6,7,8] (pwf [9] []))) kr kr C ?_
  repeat' first|simp only[go_sem, *]|apply bc<;>intro B
 |none=>
  rw[e0]at u;simp only[HE,Option.isSome]at u;have M:=B7 S hp;have b8:yW prog 137 (.ptr h.next 0) (.agg [.int .i64 0,.nilsl]) (h.new h.next (.row [.int .i64 0,.nilsl]))=some (h.new h.next (.row [.int .i64 0,.nilsl])):=ym tS ow rfl rfl rfl;obtain⟨G,hG,hE,bs⟩:∃G:Heap,h.new h.next (.row [.int .i64 0,.nilsl])=G/\Ext h G/\G.next=h.next+1:=⟨_,rfl,(Ext.refl h).new (zC _) _,za _ _⟩;rw[hG]at b8;have z:=y.ext hY hE;have A:=hN.loc hE.1 λi o=>hE.2 i (hN.here i o);cases e1:nxV c fs p with
  |none=>
   obtain⟨T,U⟩:=HQ e0 e1 m L.length;rw[T,U,yK]at hQ;rw[T]at hk;rw[e1]at M;have b7:Lw[k]? =some p:=hk 0 p rfl;have b6:=(zK.1 b7).1;have b5:=y.go k S1 G b6 z;rw[elP,zE,b7,zA]at b5;have ad:∀r h',(∃S',(∀i,S' i->S1 i\/G.next<=i)/\But S1 G h'/\((r=.bool true/\Y (k+1) S' h')\/(r=.bool false/\Z S' h')))->Q r h':=by
    rintro r h' ⟨S',q1,q2,q3⟩;refine hQ _ _ ⟨S',W,λi o=>(q1 i o).imp id λq=>by omega,λi o=>.inl o,λi h1 O=> ?_,(hE.but _).trans ⟨q2.1,λi o hn=>q2.2 i o λq=>hn (.inl q)⟩ λi o=>.inl o,?_⟩
    .rcases q1 i h1 with q|q
     .exact hd i q O
     .have:=hN.here i O;omega
    .have cl:=A.loc q2.1 λi o=>q2.2 i (A.here i o) λq=>hd i q o
     rcases q3 with⟨rfl,q⟩ | ⟨rfl,q⟩
     .exact .inl ⟨rfl,q,cl⟩
     .exact .inr ⟨rfl,q,_,cl⟩
   clear hQ hY hN hd v0 v1 v2 hv hB T U e0 e1 hk b7 b6 hm ih A z;refine zj zIG ?_;simp only[f89,zA]
   repeat' first|simp only[go_sem, *]|apply bc<;>intro B
   refine yq Heap.emp ((0,.st,true)::((4,.st,true)::((8,.st,true)::(pwt [1,2] ((3,.st,true)::(pwt [5,6] ((7,.st,true)::((9,.st,true)::(pwt [10,11,12,13,14,15,16,17] []))))))))) kr kr (λi ob e=>by cases e) ?_
   repeat' first|simp only[go_sem, *]|apply bc<;>intro B
   refine Pc _ (λH=>u H) ?_
   repeat' first|simp only[go_sem, *]|apply bc<;>intro B|(refine zD.mono (M _) ?_;rintro r h ⟨hq,rfl⟩)
   subst hq
   repeat' first|simp only[go_sem, *]|apply bc<;>intro B
   refine b5.mono λr h' hq=> ?_;have hq:=ad r h' hq;clear ad b5
   repeat' first|simp only[go_sem, *]|apply bc<;>intro B
  |some v=>
   obtain⟨b9,cx,_⟩:=fi e1;obtain⟨E,rfl⟩:∃E,m=E+1:=⟨m-1,by
    have:0<opn c fs p:=zy.2 (lF (rM.2 ⟨yz.2 b9,cx⟩));omega⟩
   have T:n9 c fs (E+1) p=(List.range (szV c fs v)).flatMap λk=>n9 c fs E (pu c fs p v k):=by simp[n9,e0,e1]
   have U:∀n,lw c fs (E+1) p n= ⟨(v:Int),(pp (λk n'=>lw c fs E (pu c fs p v k) n') (szV c fs v) (n+1)).1,none⟩ ::(pp (λk n'=>lw c fs E (pu c fs p v k) n') (szV c fs v) (n+1)).2:=λn=>by simp[lw,e0,e1]
   rw[T,U]at hQ;rw[U,zx]at hB;rw[T]at hk;have ih:=ih E ow;have cv:=λi o=>Pd hp S.v0 (v:=v) (k:=i) e1 o;have dr:szV c fs v<=1048576:=by
    unfold szV;split
    .rename_i q
     have hm:(tV c fs).getD v []∈tV c fs:=by rw[zE,zB q];exact zH _
     have:=(S.t64 _ hm).1;omega
    .exact S.sm.ls.1
   generalize hF:(λk n'=>lw c fs E (pu c fs p v k) n')=F at *
   have bo:∀k n',lw c fs E (pu c fs p v k) n'=F k n':=λk n'=>by rw[<-hF]
   generalize hK:(λi=>jI (List.range (szV c fs v)) (λk=>n9 c fs E (pu c fs p v k)) i)=K;have cf:K 0=0:=by rw[<-hK];exact an _ _
   have ck:∀i,i<szV c fs v->K (i+1)=K i+(n9 c fs E (pu c fs p v i)).length:=λi o=>by rw[<-hK];exact mT (by simp[o])
   have cg:K (szV c fs v)=((List.range (szV c fs v)).flatMap λk=>n9 c fs E (pu c fs p v k)).length:=by
    have:=bP (List.range (szV c fs v)) (λk=>n9 c fs E (pu c fs p v k));rw[oQ]at this;rw[<-hK];exact this
   have ch:∀i,i<szV c fs v->∀j q,(n9 c fs E (pu c fs p v i))[j]? =some q->Lw[k+K i+j]? =some q:=λi o j q hj=>by
    have h1:=UV (l:=List.range (szV c fs v)) (f:=λk=>n9 c fs E (pu c fs p v k)) (a:=i) (x:=i) (b:=j) (by simp[o]) (zK.1 hj).1;rw[qf];refine hk _ q ?_;rw[<-hK];exact h1.trans hj
   rw[<-cg]at hQ;rw[e1]at M;obtain⟨d',a1,a2,r,G1,G2,a3,a4,b1,b2,J,a5,a6,X⟩:=A.app (v:Int) none ow;rw[bs]at a3;have hb:qW prog 139 [(0,.int .i64 (v:Int))]=some (.agg (ndC (⟨(v:Int),[],none⟩,.nilsl))):=by
    simp[qW,Xr,aQ,ua,wS,ndC,HE,D.cells,D.notTuple]
   have b3:∀nid H,yD prog false nid 32 1 [(0,.agg (ndC (⟨(v:Int),[],none⟩,.nilsl)))] H=some (.sl 4 [ndC (⟨(v:Int),[],none⟩,.nilsl)] .full,H):=λnid H=>qd (x:=.agg (ndC (⟨(v:Int),[],none⟩,.nilsl))) fV aQ lq rfl rfl ow ow rfl rfl;have C:HLe (Heap.one nid (.row [d'])) G:=by rw[mV];exact a1
   have ag:HLe (Heap.one nid (.row [d'])) G1:=by rw[mV];exact b1
   obtain⟨I,hI⟩:∃I:Nat->Heap->Prop,∀i h',I i h'↔∃bk J,(∀i,bk i->S1 i\/h.next<=i)/\(∀i,J i->W i\/h.next<=i)/\(∀i,bk i->¬J i)/\But (λi=>S1 i\/W i) h h'/\Y (k+K i) bk h'/\NdH nid (L++ ⟨(v:Int),(pp F i (L.length+1)).1,none⟩ ::(pp F i (L.length+1)).2) J h':=⟨_,λ_ _=>Iff.rfl⟩;have bx:I 0 G2:=(hI _ _).2 ⟨S1,J,λi o=>.inl o,λi o=>(a6 i o).imp id λq=>by omega,λi h1 O=>by
    rcases a6 i O with q|q
    .exact hd i h1 q
    .have:=y.here _ _ _ hY i h1;omega,(hE.but _).trans ⟨X.1,λi o hn=>X.2 i o λq=>hn (.inr q)⟩ λi o=>.inl o,by rw[cf];exact y.loc _ _ _ _ z X.1 λi o=>X.2 i (by have:=y.here _ _ _ z i o;omega) (hd i o),a5⟩
   have R:∀h',I (szV c fs v) h'->Q (.bool true) h':=λh' q=>by
    obtain⟨T1,T2,q1,q2,q3,q4,q5,q6⟩:=(hI _ _).1 q;exact hQ _ _ ⟨T1,T2,q1,q2,q3,q4,.inl ⟨rfl,q5,q6⟩⟩
   have hR:∀i h',i<szV c fs v->I i h'->∃s N cs kd ak G3 V,h'.at' nid=some (.row [.rs s 4 0 N])/\h'.at' s=some (.row cs)/\cs[L.length*4+1]? =some kd/\L.length<N/\qS prog false h'.next 30 kd (.sl 1 [[.int .i64 (N:Int)]] .full) h'=some (ak,G3)/\yW prog 30 (.ptr s (L.length*4+1)) ak G3=some V/\G3.at' nid=some (.row [.rs s 4 0 N])/\G3.at' s=some (.row cs)/\V.at' vid=some (.row [vfN w nid vid [ca,cb,ce,cp,x,td,od]])/\zD prog 89 [CD (pu c fs p v i),.iptr [.ptr nid 0] 0,.iptr [.iptr [ca,cb,ce,cp,x,td,od] 0] 0,.iptr [.yld w] 0,.ptr vid 0] V λr O=>(r=.bool true/\I (i+1) O)\/(r=.bool false/\Q (.bool false) O):=λi h' o q=>by
    obtain⟨T1,T2,q1,q2,q3,q4,q5,q6⟩:=(hI _ _).1 q;have b6:=Rl F i (L.length+1);have dd:=Lf F (L.length+1) (k:=i+1) (m:=szV c fs v) o;have de:(pp F (i+1) (L.length+1)).2.length=(pp F i (L.length+1)).2.length+(F i (L.length+1+(pp F i (L.length+1)).2.length)).length:=by rw[pp,zQ]
    have c8:pp F (i+1) (L.length+1)=((pp F i (L.length+1)).1++ [((L.length+1+(pp F i (L.length+1)).2.length:Nat):Int)],(pp F i (L.length+1)).2++F i (L.length+1+(pp F i (L.length+1)).2.length)):=by rw[pp]
    generalize pp F i (L.length+1)=KN at *
    obtain⟨ks,rest⟩:=KN;simp only at *
    have c4:(L++ ⟨(v:Int),ks,none⟩ ::rest).length=L.length+1+rest.length:=by rw[zQ,zx];omega
    obtain⟨s,N,r1,r2,r3,r4,cs,kd,r5,r6,ak,G3,V,r7,r8,r9,r10,S3,r11,r12,r13⟩:=q6.kid (a:=L.length) (nd:=⟨(v:Int),ks,none⟩) jS ((L.length+1+rest.length:Nat):Int) (by show ks.length<_;omega);rw[c4]at r4;subst r4;have cw:(L++ ⟨(v:Int),ks,none⟩ ::rest).set L.length ⟨(v:Int),ks++ [((L.length+1+rest.length:Nat):Int)],none⟩ =L++ ⟨(v:Int),ks++ [((L.length+1+rest.length:Nat):Int)],none⟩ ::rest:=by
     rw[j9 _ _ (zC _),ZX];rfl
    simp only[cw]at r11;have cc:¬T1 vid/\¬T2 vid:=⟨λe=>(q1 vid e).elim v1 ow,λe=>(q2 vid e).elim v2 ow⟩;have db:h'.at' vid=some (.row [vfN w nid vid [ca,cb,ce,cp,x,td,od]]):=by rw[q4.2 vid v0 (λe=>e.elim v1 v2)];exact hv
    have c0:vid<h'.next:=zl v0 q4.1;have bb:V.at' vid=some (.row [vfN w nid vid [ca,cb,ce,cp,x,td,od]]):=by rw[r13.2 vid c0 cc.2];exact db
    have c5:Y (k+K i) T1 V:=y.loc _ _ _ _ q5 r13.1 λi o=>r13.2 i (y.here _ _ _ q5 i o) (q3 i o);have c6:∀i,T1 i->¬S3 i:=λi h1 O=>by
     rcases r12 i O with q|q
     .exact q3 i h1 q
     .have:=y.here _ _ _ q5 i h1;omega
    refine⟨s,_,cs,kd,ak,G3,V,r1,r5,r6,ow,r7,r8,r9,r10,bb,?_⟩;have a9:(L++ ⟨(v:Int),ks++ [((L.length+1+rest.length:Nat):Int)],none⟩ ::rest).length=L.length+1+rest.length:=by rw[zQ,zx];omega
    have t:=ih (pu c fs p v i) (hp.dec o) (by have:=cv i o;omega) (k+K i) (ch i o) _ T1 S3 V c5 r11 c6 (zl c0 r13.1) cc.1 (λe=>(r12 vid e).elim cc.2 ow) bb (by rw[a9,bo];omega);rw[a9,bo]at t;refine t.mono ?_;rintro r O ⟨U1,U2,u1,u2,u3,u4,u5⟩;have ai:∀i,U1 i->S1 i\/h.next<=i:=λi o=>by
     rcases u1 i o with q|q
     .exact q1 i q
     .have:=r13.1;have:=q4.1;exact .inr ow
    have aj:∀i,U2 i->W i\/h.next<=i:=λi o=>by
     have e1:=r13.1;have e2:=q4.1;rcases u2 i o with q|q
     .rcases r12 i q with q|q
      .exact q2 i q
      .exact .inr ow
     .exact .inr ow
    have ba:But (λi=>S1 i\/W i) h O:=by
     have e1:=r13.1;have e2:=q4.1;have b1:But (λi=>S1 i\/W i) h V:=q4.trans r13 λi o=>(q2 i o).imp .inr id;refine b1.trans u4 λi o=> ?_;rcases o with q|q
     .exact(q1 i q).imp .inl id
     .rcases r12 i q with q|q
      .exact(q2 i q).imp .inr id
      .exact .inr ow
    rcases u5 with⟨rfl,T,U⟩ | ⟨rfl,T,L',U⟩
    .refine .inl ⟨rfl,(hI _ _).2 ⟨U1,U2,ai,aj,u3,ba,by rw[ck i o,<-qf];exact T,?_⟩⟩
     rw[c8];simpa using U
    .exact .inr ⟨rfl,hQ _ _ ⟨U1,U2,ai,aj,u3,ba,.inr ⟨rfl,T,L',U⟩⟩⟩
   have a8:=UL S v;have a0:=λi o g=>Y3 (t1:=.no) (t2:=.no) S hp (v:=v) (k:=i) b9 o g;clear a5 a6 X b1 b2 z A hE hQ hY hN hd v0 v1 v2 hv hB T U e0 e1 hk hm ih cv ck cf cg ch bo hI b9 cx;refine zj zIG ?_;simp only[f89,zA]
   repeat' first|simp only[go_sem, *]|apply bc<;>intro B
   refine yq Heap.emp ((0,.st,true)::((4,.st,true)::((8,.st,true)::(pwt [1,2] ((3,.st,true)::(pwt [5,6] ((7,.st,true)::((9,.st,true)::(pwt [10,11,12,13,14,15,16,17] []))))))))) kr kr (λi ob e=>by cases e) ?_
   repeat' first|simp only[go_sem, *]|apply bc<;>intro B
   refine Pc _ (λH=>u H) ?_
   repeat' first|simp only[go_sem, *]|apply bc<;>intro B|(refine zD.mono (M _) ?_;rintro r h ⟨hq,rfl⟩)
   subst hq
   repeat' first|simp only[go_sem, *]|apply bc<;>intro B
   refine yq (Heap.one nid (.row [d'])) ((0,.st,true)::(pwt [1,2,3,4,5,6,7,8] (pwf [9] []))) kr kr C ?_
   repeat' first|simp only[go_sem, *]|apply bc<;>intro B|(refine zD.mono (a8 _) ?_;rintro r h ⟨hq,rfl⟩)
   subst hq;refine zY (λi fr h'=>fr 1=.iptr [.ptr nid 0] 0/\fr 2=.iptr [.iptr [ca,cb,ce,cp,x,td,od] 0] 0/\fr 3=.iptr [.yld w] 0/\fr 4=.ptr vid 0/\fr 5=.iptr [tsD p,owD p] 0/\fr 7=.int .i64 (L.length:Int)/\fr 11=.int .i64 (v:Int)/\fr 64=.int .i64 (szV c fs v:Int)/\fr 65=.int .i64 (i:Int)/\I i h') (szV c fs v) ow ?_ ?_ ?_
   .clear R hR a0 a8 M u
    simp only[go_sem,zM,zV,zG];exact bx
   .clear R u M a8 a1 a2 a3 a4 C ag bx n1 n2
    rintro i fr h' cu ec ew ⟨f1,f2,f3,f4,f5,f7,c1,f64,c2,hI⟩;obtain⟨s,N,cs,kd,ak,G3,V,r1,r2,r3,r4,r5,r6,r7,r8,r9,t⟩:=hR i h' cu hI;have b4:=a0 i cu;have dk:∀H,o9 prog 32 (.rs s 4 0 N) H=some (.int .i64 (N:Int)):=λH=>oz underlying32;have c7:=qX (P:=prog) (sz:=4) (id:=s) fV lq (k:=.i64) r4;have b3:∀nid H,yD prog false nid 30 1 [(0,.int .i64 (N:Int))] H=some (.sl 1 [[.int .i64 (N:Int)]] .full,H):=λnid H=>qd (x:=.int .i64 (N:Int)) wA pc sG rfl rfl ow ow rfl rfl;have cm:HLe (Heap.two nid s h') h':=Ud rfl rfl;have c9:HLe (Heap.two nid s h') G3:=Ud (by rw[r7,r1]) (by rw[r8,r2])
    have t1:(Heap.two nid s h').at' nid=some (.row [.rs s 4 0 N]):=by rw[I6];exact r1
    have t2:(Heap.two nid s h').at' s=some (.row cs):=by rw[I7];exact r2
    have da:HLe (Heap.one vid (.row [vfN w nid vid [ca,cb,ce,cp,x,td,od]])) V:=by rw[mV];exact r9
    clear hR a0 hI r4 r7 r8
    repeat' first|simp only[go_sem, *]|apply bc<;>intro B
    refine yq (Heap.two nid s h') ((0,.st,true)::(pwt [4,11,1] ((2,.st,true)::(pwt [3,5,6,7,8,9,10,12,13,14,15,16,17,18] (pwf [19] []))))) kr kr cm ?_
    repeat' first|simp only[go_sem, *]|apply bc<;>intro B
    refine yq (Heap.one vid (.row [vfN w nid vid [ca,cb,ce,cp,x,td,od]])) ((0,.st,true)::(pwt [1,2,3,4,5] (pwf [6,7] []))) kr kr da ?_;clear cm c9 r1 r2 r3 r5 r6 c7 b3 t1 t2
    repeat' first|simp only[go_sem,kM, *]|apply bc<;>intro B|(refine zD.mono (b4 _) ?_;rintro r h ⟨hq,rfl⟩)
    subst hq
    repeat' first|simp only[go_sem, *]|apply bc<;>intro B
    refine t.mono ?_;rintro r O (⟨rfl,o⟩ | ⟨rfl,o⟩)
    .clear t b4
     exact au
    .clear t b4
     exact au
   .clear hR u M a8 a1 a2 a3 a4 C ag bx n1 n2 a0
    rintro fr h' ec ⟨f1,f2,f3,f4,f5,f7,c1,f64,c2,hI⟩;have hq:=R _ hI;clear R hI;exact au
end
def HP(sp:List D)(nid:Nat):D:=.fn (.func 88) [] [.iptr [.ptr nid 0] 0,.iptr [.iptr sp 0] 0]
def B8(a:List D)(nid:Nat)(g:Heap):zD prog 43 [.iptr a 0,.ptr nid 0] g λr h'=>h'=g/\r=HP a nid:=by
 refine zj zNg ?_;simp only[f43,zA];simp only[go_sem,HP, *]
abbrev rZ(c:Cat)(fs:List Fac):List Part:=n9 c fs (ctV c fs) (nO c fs)
abbrev fJ(c:Cat)(fs:List Fac):List Nd:=lw c fs (ctV c fs) (nO c fs) 0
section
variable{c:Cat}{fs:List Fac}{ca cb ce cp x td od:D}
def Gf(S:SpD c fs ca cb ce cp x td od)(C:(fJ c fs).length<=1048576){a nid:Nat}{Y:Nat->(Nat->Prop)->Heap->Prop}{Z:(Nat->Prop)->Heap->Prop}(y:Yld prog a (rZ c fs).length (elP (rZ c fs)) Y Z)(u:Y 0 U h)(m:NdH nid [] S0 h)(H:∀i,U i->¬S0 i):
  zD prog 88 [.yld a,.iptr [.ptr nid 0] 0,.iptr [.iptr [ca,cb,ce,cp,x,td,od] 0] 0] h λ_ h'=>∃r,zHv Y Z nid U S0 h (rZ c fs).length (fJ c fs) r h':=by
 have p:=JB S;have F:∀(t:TypeId)(nid:Nat)(h:Heap),dS t nid h (some .nilfn)=some (.ptr nid 0,h.new nid (.row [.nilfn])):=λ_ _ _=>rfl;have s:yW prog 77 (.ptr h.next 0) (vfN a nid h.next [ca,cb,ce,cp,x,td,od]) (h.new h.next (.row [.nilfn]))=some (h.new h.next (.row [vfN a nid h.next [ca,cb,ce,cp,x,td,od]])):=ym zHD ow rfl rfl rfl;obtain⟨G,D,k,g,l⟩:∃G:Heap,h.new h.next (.row [vfN a nid h.next [ca,cb,ce,cp,x,td,od]])=G/\Ext h G/\G.at' h.next=some (.row [vfN a nid h.next [ca,cb,ce,cp,x,td,od]])/\h.next<G.next:=⟨_,rfl,(Ext.refl h).new (zC _) _,z5 _ _ _,by rw[za];omega⟩;rw[D]at s
 have o:opn c fs (nO c fs)<=ctV c fs:=by
  unfold opn;exact zb (uY _ _) jS
 have d:=Ge S y (ctV c fs) (nO c fs) (rX c fs _) o 0 (λj q e=>by rw[yH];exact e) [] U S0 G (y.ext u k) (m.loc k.1 λi f=>k.2 i (m.here i f)) H l (λe=>wH _ (y.here _ _ _ u _ e)) (λe=>wH _ (m.here _ e)) g (by simpa using C);have b:∀r h',zHv Y Z nid U S0 G (0+(n9 c fs (ctV c fs) (nO c fs)).length) ([]++lw c fs (ctV c fs) (nO c fs) ([]:List Nd).length) r h'->zHv Y Z nid U S0 h (rZ c fs).length (fJ c fs) r h':=by
  rintro r h' ⟨A,B,I,J,K,L,z⟩;rw[yH]at z;exact⟨A,B,λi f=>(I i f).imp id λq=>by omega,λi f=>(J i f).imp id λq=>by omega,K,(k.but _).trans L λi f=>.inl f,z⟩
 have n:HLe (Heap.one h.next (.row [vfN a nid h.next [ca,cb,ce,cp,x,td,od]])) G:=by rw[mV];exact g
 refine xP λQ E=> ?_;have b:=λr h' q=>E (.tuple []) h' ⟨r,b r h' q⟩;refine zj zNr ?_;simp only[f88,zA]
 repeat' first|simp only[go_sem, *]|apply bc<;>intro v
 refine yq (Heap.one h.next (.row [vfN a nid h.next [ca,cb,ce,cp,x,td,od]])) ((0,.st,true)::(pwt [1,2] (pwf [3] []))) kr kr n ?_
 repeat' first|simp only[go_sem,kM, *]|apply bc<;>intro v|(refine zD.mono (p _) ?_;rintro r h ⟨w,rfl⟩)
 subst w
 repeat' first|simp only[go_sem, *]|apply bc<;>intro v
 refine d.mono λr h' q=> ?_;have w:=b r h' q;exact au
end
structure NdI where
 var:Int
 kids:List Int
 row:Int
 facts:List Int
def BS(n:NdI)(cs:List D):Prop:=∃kd fd,cs= [.int .i64 n.var,kd,.int .i64 n.row,fd]/\yZ 1 (wt n.kids) kd/\yZ 1 (wt n.facts) fd
def kY(ns:List NdI)(d:D):Prop:=∃xs,yZ 4 xs d/\xs.length=ns.length/\∀(i:Nat) n,ns[i]? =some n->∃cs,xs[i]? =some cs/\BS n cs
protected def Nd.i(n:Nd):NdI:=⟨n.var,n.kids,(n.vio.map Vio.row).getD 0,(n.vio.map Vio.facts).getD []⟩
def tsF(q:Part):D:=if q.ts= []then .nilsl else tsD q
def owF(q:Part):D:=if q.own= []then .nilsl else owD q
def zBJ(c:Cat)(fs:List Fac)(r:D):Prop:=(qi c fs≠0/\r=.tuple [.agg [.bool false,.nilsl,.nilsl,.nilsl],.int .i64 (qi c fs)])\/(qi c fs=0/\((∃q,(rZ c fs).head? =some q/\r=.tuple [.agg [.bool true,tsF q,owF q,.nilsl],.int .i64 0])\/(rZ c fs= []/\∃rd,kY ((fJ c fs).map Nd.i) rd/\r=.tuple [.agg [.bool false,.nilsl,.nilsl,rd],.int .i64 0])))
def zEu(ks:List Int):D:=if ks= []then .nilsl else .sl 1 (wt ks) .no
def ndF(nd:Nd):List D:=.int .i64 nd.var::zEu nd.kids::HE nd.vio
def zGz(L:List Nd):D:=if L= []then .nilsl else .sl 4 (L.map ndF) .no
def In(c:Cat)(fs:List Fac):D:=if qi c fs=0 then(match(rZ c fs).head? with
 |some q=>.tuple [.agg [.bool true,tsF q,owF q,.nilsl],.int .i64 0]
 |none=>.tuple [.agg [.bool false,.nilsl,.nilsl,zGz (fJ c fs)],.int .i64 0])else .tuple [.agg [.bool false,.nilsl,.nilsl,.nilsl],.int .i64 (qi c fs)]
def Jq(ks:List Int):yZ 1 (wt ks) (zEu ks):=by
 unfold zEu;split
 .rename_i e;rw[e];exact yZ.nil
 .exact yZ.mk .no
def zAc(L:List Nd):kY (L.map Nd.i) (zGz L):=by
 have a:∀nd:Nd,BS nd.i (ndF nd):=λ⟨v,ks,o⟩=>by
  cases o with
  |none=>exact⟨_,.nilsl,rfl,Jq ks,yZ.nil⟩
  |some w=>exact⟨_,_,rfl,Jq ks,yZ.mk .no⟩
 unfold zGz;split
 .rename_i e;subst e;exact⟨[],yZ.nil,rfl,λi n e=>by simp at e⟩
 .refine⟨L.map ndF,yZ.mk .no,jS,λi n e=> ?_⟩
  rw[zm]at e⊢;cases q:L[i]? with
  |none=>rw[q]at e;cases e
  |some nd=>rw[q]at e;cases e;exact⟨_,rfl,a nd⟩
variable{c:Cat}{fs:List Fac}
def zBJ.of{r:D}(h:r=In c fs):zBJ c fs r:=by
 unfold In at h;split at h
 .rename_i a
  split at h
  .rename_i q e;exact .inr ⟨a,.inl ⟨q,e,h⟩⟩
  .rename_i e;exact .inr ⟨a,.inr ⟨sw.1 e,_,zAc _,h⟩⟩
 .rename_i a;exact .inl ⟨a,h⟩
theorem R4:∀{M:List (Nd×D)},(∀m∈M,BT h (wt m.1.kids) m.2)->oG 0 (oJ (M.map ndC))/\oJ (M.map ndC)=(M.map Prod.fst).map ndF
 | [],_=>⟨trivial,rfl⟩
 |m::M,b=>by
  obtain⟨h1,g⟩:=R4 λj i=>b j (z8 _ i);obtain⟨o1,o2⟩:=b m qO;obtain⟨k1,k2⟩:=o1.fin aq;have a:qM m.2=zEu m.1.kids:=by
   unfold zEu;split
   .rename_i e;rw[o2 (by rw[e];rfl)];rfl
   .rename_i e
    rcases k2 with⟨_,q⟩ |q
    .exact absurd (uR.1 q) e
    .exact q
  have f:qU (HE m.1.vio)=HE m.1.vio/\qC 0 (HE m.1.vio):=by
   obtain⟨⟨v,ks,o⟩,d⟩:=m;cases o with
   |none=>exact⟨rfl,trivial,trivial,trivial⟩
   |some v=>
    have c:=qY (sz:=1) (xs:=wt v.facts) aq .no;refine⟨?_,trivial,c.2,trivial⟩;show [qM _,qM _]=_;rw[c.1];rfl
  have e1:qU (ndC m)=ndF m.1:=by
   show qM _::qM _::qU (HE m.1.vio)=_;rw[f.1,a];rfl
  refine⟨⟨?_,h1⟩,?_⟩
  .rw[e1,ndF,<-a];exact⟨trivial,k1,f.2⟩
  .show qU (ndC m)::oJ (M.map ndC)=_
   rw[e1,g];rfl
def NdH.fin{L:List Nd}(H:NdH nid L S h)(r:Ext g h)(o:∀i,S i->g.next<=i){Q R:D->Heap->Prop}{mk:D->D}(f:∀id cs d,frz id cs (mk d)=mk (frz id cs d))(c:∀d,qM (mk d)=mk (qM d))(b:∀d,below 0 d->below 0 (mk d))
  (l:∀d h',Ext g h'->below g.next (qM (mk d))->qM d=zGz L->Q (mk d) h') (m:∀d h',(Q d h'\/∃id cs,h'.at' id=some (.row cs)/\Q (frz id cs d) (h'.del id))->R d h'):∃d,h.at' nid=some (.row [d])/\d.cells= [d]/\d.notTuple=true/\d.flat=true/\∀h',(∀i,S i->i≠nid->h'.at' i=h.at' i)->Ext g h'->R (mk d) h':=by
 obtain⟨h0,d,M,h1,n,h3,rfl,h5,q,k⟩:=H;obtain⟨k1,k2⟩:=R4 h5;rcases n with⟨rfl,e⟩ | ⟨id,rfl,r1,r2,r3⟩
 .have:M= []:=by simpa using e
  subst this;exact⟨_,h1,rfl,rfl,rfl,λh' _ a=>m _ _ (.inl (l _ _ a (by rw[c];exact qQ (yM _) _ (b _ trivial)) rfl))⟩
 .have hid:g.next<=id:=o id ((k id).2 (.inr (.inl rfl)))
  have j:M.map Prod.fst≠[]:=λe=>r3 (by rw[uR.1 e];rfl);refine⟨_,h1,rfl,rfl,rfl,λh' p a=>m _ _ (.inr ⟨id,_,by rw[p id ((k id).2 (.inr (.inl rfl))) (λe=>h3 (by rw[<-e];rfl))];exact r1,?_⟩)⟩;rw[f,XM (fh M) rfl rfl];refine l _ _ (a.del hid) ?_ ?_
  .rw[c]
   exact qQ (yM _) _ (b _ ⟨k1,trivial⟩)
  .unfold zGz
   rw[iq j,<-k2];rfl
def WSo(n k:Nat)(S:Nat->Prop)(h:Heap):Prop:=k=0/\n+1<h.next/\h.at' n=some (.row [.bool false,.nilsl,.nilsl,.nilsl])/\h.at' (n+1)=some (.row [.int .i64 0])/\∀i,S i↔(i=n\/i=n+1)
def VSo(c:Cat)(fs:List Fac)(n:Nat)(S:Nat->Prop)(h:Heap):Prop:=∃q,(rZ c fs).head? =some q/\n+1<h.next/\h.at' n=some (.row [.bool true,tsF q,owF q,.nilsl])/\h.at' (n+1)=some (.row [.int .i64 0])/\∀i,S i↔(i=n\/i=n+1)
def WSo.lcl(n:Nat):Lcl (WSo n):=by
 refine⟨λk S h y i a=> ?_,λk S h h' y c b=> ?_⟩
 all_goals grind [WSo]
def VSo.lcl(c:Cat)(fs:List Fac)(n:Nat):Lcl λ_=>VSo c fs n:=by
 refine⟨λk S h y i a=> ?_,λk S h h' y d b=> ?_⟩
 all_goals grind [VSo]
def NdH.lcl(nid:Nat)(L:List Nd):Lcl λ_=>NdH nid L:=⟨λk S h y=>y.here,λk S h h' y=>y.loc⟩
def NdHx.lcl(nid:Nat):Lcl λ_ S h=>∃L,NdH nid L S h:=⟨λk S h y=>by obtain⟨L,y⟩:=y;exact y.here,λk S h h' y b a=>by obtain⟨L,y⟩:=y;exact⟨L,y.loc b a⟩⟩
theorem RK{ca cb ce cp x:D}(hc:uB c (.agg [ca,cb,ce,cp]))(hs:c.Sm)(hx:yZ 12 (sL fs) x)(hF:Hp fs)(b3:∀f∈fs,f.Ok)(hB:qi c fs=0->(fJ c fs).length<=1048576)(g:Heap):
  zD prog 14 [.agg [ca,cb,ce,cp],x] g λr h'=>h'=g/\r=In c fs:=by
 refine xU kr λb9=>xS (zD.freezeOr ?_);refine xP λR hR=> ?_;have u:=JA hc hs hx hF b3;have ck:∀a b e p:D,yO true 4 [a,b,e,p] 0=some (.agg [a,b,e,p]):=λa b e p=>zJ rfl ow;have cc:qW prog 49 []=some (.agg [.bool false,.nilsl,.nilsl,.nilsl]):=by simp[qW,fq,Yd,ua,D.notTuple,D.cells]
 have U:∀(h:Heap) d,Ext g h->qM d=d->below 0 d->d=In c fs->R d h:=λh d hE e hb q=>hR _ _ (.inl ⟨hE,by rw[e];exact qQ (yM _) _ hb,by rw[e];exact q⟩);obtain⟨n,hn⟩:∃n,g.next=n:=⟨_,rfl⟩;obtain⟨G,hG,T,g1,g2,hE⟩:∃G:Heap,(g.new n (.row [.bool false,.nilsl,.nilsl,.nilsl])).new (n+1) (.row [.int .i64 0])=G/\G.next=n+2/\G.at' n=some (.row [.bool false,.nilsl,.nilsl,.nilsl])/\G.at' (n+1)=some (.row [.int .i64 0])/\Ext g G:=
  ⟨_,rfl,by rw[<-hn,qG _ (by rw[za];exact zC _)],by rw[zf ow,z5],z5 _ _ _,by rw[<-hn];exact((Ext.refl g).new (zC _) _).new ow _⟩
 have ch:(g.new n (.row [.bool false,.nilsl,.nilsl,.nilsl])).next=n+1:=by rw[<-hn];exact za _ _
 by_cases J:qi c fs=0
 case neg=>
  have z:(!(qi c fs==0))=true:=by simpa using J
  have s1:yW prog 49 (.ptr n 0) (.agg [.bool false,.nilsl,.nilsl,.nilsl]) G=some G:=by
   rw[ql g1 (by rw[Zv];rfl) rfl jD rfl,sC g1]
  obtain⟨F,hF,f1,f2,a1⟩:∃F,G.set (n+1) (.row [.int .i64 (qi c fs)])=F/\F.at' n=some (.row [.bool false,.nilsl,.nilsl,.nilsl])/\F.at' (n+1)=some (.row [.int .i64 (qi c fs)])/\Ext g F:=⟨_,rfl,by rw[zX ow];exact g1,zW _ _ _,hE.set ow _⟩;have s2:yW prog 39 (.ptr (n+1) 0) (.int .i64 (qi c fs)) G=some F:=by
   rw[yN g2 aB jS rfl rfl,<-hF];rfl
  have o:=U F (.tuple [.agg [.bool false,.nilsl,.nilsl,.nilsl],.int .i64 (qi c fs)]) a1 rfl ⟨⟨trivial,trivial,trivial,trivial,trivial⟩,trivial,trivial⟩ (by unfold In;rw[iq J]);have u:∀g,zD prog 42 [.agg [ca,cb,ce,cp],x] g λr h'=>h'=g/\r=.tuple [.nilptr,.int .i64 (qi c fs)]:=λg=>(u g).mono λr h' q=>⟨q.1,by
   rcases q.2 with⟨_,e⟩ | ⟨e,_⟩
   .exact e
   .exact absurd e J⟩
  refine zj zJ5 ?_;simp only[f14,zA]
  repeat' first|simp only[go_sem, *]|apply bc<;>intro hc|(refine zD.mono (u _) ?_;rintro r h ⟨C,rfl⟩)
 case pos=>
 have hB:=hB J;have u:∀g,zD prog 42 [.agg [ca,cb,ce,cp],x] g λr h'=>h'=g/\∃td od,r=.tuple [.iptr [ca,cb,ce,cp,x,td,od] 0,.int .i64 0]/\SpD c fs ca cb ce cp x td od:=λg=>(u g).mono λr h' q=>⟨q.1,by
   rcases q.2 with⟨e,_⟩ | ⟨_,td,od,e,S,_⟩
   .exact absurd J e
   .exact⟨td,od,e,S⟩⟩
 obtain⟨H,hH,a2,h1,v,h3,O⟩:∃H:Heap,G.new (n+2) (.row [.nilsl])=H/\H.next=n+3/\H.at' n=some (.row [.bool false,.nilsl,.nilsl,.nilsl])/\H.at' (n+1)=some (.row [.int .i64 0])/\H.at' (n+2)=some (.row [.nilsl])/\Ext g H:=⟨_,rfl,by rw[<-T,za,T],by rw[zf ow];exact g1,by rw[zf ow];exact g2,z5 _ _ _,hE.new ow _⟩;refine zj zJ5 ?_;simp only[f14,zA]
 repeat' first|simp only[go_sem, *]|apply bc<;>intro
 refine(u _).mono ?_;rintro r k ⟨C,td,od,rfl,S⟩;subst C;have b8:=λg=>B8 [ca,cb,ce,cp,x,td,od] (n+2) g
 rename Heap=>G
 repeat' first|simp only[go_sem,HP, *]|apply bc<;>intro hc|(refine zD.mono (b8 _) ?_;rintro r h ⟨C,rfl⟩)
 subst C
 rename Heap=>H
 generalize hL:LRec.mk _ _ _ _ _ _ _=L;have b4:L.pending=none:=by rw[<-hL]
 have b5:L.st=.ready:=by rw[<-hL]
 have a6:WSo n 0 (λj=>j=n\/j=n+1) H:=⟨rfl,ow,h1,v,λ_=>Iff.rfl⟩;have a4:NdH (n+2) [] (λj=>j=n+2) H:=⟨ow,.nilsl,[],h3,.inl ⟨rfl,rfl⟩,λe=>e,rfl,(by intro m M;cases M),(by intro a b m m' i e;cases e),λi=>⟨λe=>.inl e,λe=>e.elim id λe=>e.elim (λe=>e.elim) λ⟨m,M,_⟩=>by cases M⟩⟩
 refine Jx (n:=(rZ c fs).length) (el:=elP (rZ c fs)) a2 (WSo.lcl n) (VSo.lcl c fs n) (NdH.lcl (n+2) []) (NdH.lcl (n+2) (fJ c fs)) (NdHx.lcl (n+2)) b5 b4 a6 a4 (λi h1 v=>by rcases h1 with e|e<;>omega) (λyl bb a5 hd=>(Gf S hB yl bb a5 hd).mono λr h' ⟨r',T1,T2,q1,q2,q3,q4,q5⟩=>⟨T1,T2,q1,q2,q3,q4,q5.imp (λq=>⟨q.2.1,q.2.2⟩) λq=>⟨q.2.1,q.2.2⟩⟩) ?_ ?_ ?_
 .intro k S0 h3 hk Z bs aj bx
  have bo:k=0:=aj.1;subst bo;obtain⟨q,C⟩:∃q,(rZ c fs).head? =some q:=by
   cases e:rZ c fs with
   |nil=>rw[e]at hk;exact absurd hk (wH _)
   |cons q l=>exact⟨q,rfl⟩
  have bk:(rZ c fs).getD 0 ⟨[],[]⟩ =q:=by
   rw[zE,<-tM,C];rfl
  simp only[elP,bk];have y:=bs;rw[<-hL]at y;obtain⟨m,M⟩:∃m,h3.next=m:=⟨_,rfl⟩;have E:yW prog 47 (.ptr m 0) (.agg [tsD q,owD q]) (h3.new m (.row [.nilsl,.nilsl]))=some (h3.new m (.row [tsD q,owD q])):=ym Zu ow rfl rfl rfl;refine wo.round (g:=zOL) mix y rfl kr kr kr ?_;simp only[go_sem,M,E];refine⟨by rw[zf ow];exact y,?_⟩;generalize a0:LRec.mk .busy _ _ _ _ _ _=B;have a3:({ B with st:=.ready,pending:=none } :LRec)=L:=by rw[<-a0,<-hL]
  obtain⟨_,w1,w2,w3,N⟩:=aj;obtain⟨s,a7,W,V,a8,a9,ba,K⟩:∃s:D->D->Heap,((h3.new m (.row [tsD q,owD q])).set (n+3) (.loop B))=s (tsD q) (owD q)/\(∀a b,(s a b).next=m+1)/\(∀a b,(s a b).at' m=some (.row [a,b]))/\(∀a b,(s a b).at' n=some (.row [.bool false,.nilsl,.nilsl,.nilsl]))/\(∀a b,(s a b).at' (n+1)=some (.row [.int .i64 0]))/\(∀a b,(s a b).at' (n+3)=some (.loop B))/\((∀a b a' b',(s a b).set m (.row [a',b'])=s a' b')/\∀a b,But (λi=>i=n+3) h3 (s a b)):=by
   refine⟨λa b=>((h3.new m (.row [tsD q,owD q])).set (n+3) (.loop B)).set m (.row [a,b]),?_,λa b=>by rw[yY,yY,<-M];exact za _ _,λa b=>zW _ _ _,λa b=>by rw[zX ow,zX ow,zf ow];exact w2,λa b=>by rw[zX ow,zX ow,zf ow];exact w3,λa b=>by rw[zX ow,zW],λa b a' b'=>mi _ _ _ _,λa b=>⟨by rw[yY,yY,<-M,za];omega,λi I hn=>by rw[zX ow,zX hn,zf ow]⟩⟩;exact(sC (by rw[zX ow,z5])).symm
  obtain⟨X,K⟩:=K;rw[a7];have s1:∀a b,yW prog 44 (.ptr m 0) .nilsl (s a b)=some (s .nilsl b):=λa b=>by
   rw[yN (V a b) aC jS rfl rfl];exact congrArg some (X _ _ _ _)
  have s2:∀a b,yW prog 45 (.ptr m 1) .nilsl (s a b)=some (s a .nilsl):=λa b=>by
   rw[yN (V a b) Me jS rfl rfl];exact congrArg some (X _ _ _ _)
  have cf:∀h,o9 prog 44 (tsD q) h=some (.int .i64 (q.ts.length:Int)):=λh=>by
   have:=uh (l:=q.ts.map jy) (d:=tsD q) (yZ.mk .no) h
   rwa [zI]at this
  have cg:∀h,o9 prog 45 (owD q) h=some (.int .i64 (q.own.length:Int)):=λh=>wO (l:=q.own) (d:=owD q) (yZ.mk .no) h;have b7:∀a b:D,qW prog 49 [(0,.bool true),(1,.agg [a,b])]=some (.agg [.bool true,a,b,.nilsl]):=λa b=>by simp[qW,fq,Yd,ua,wS,D.notTuple,D.cells]
  have o:∀fr,sf (LpZ (n+3) L (WSo n) (VSo c fs n) 0 S0 h3) (n+3) .ret fr (((s (tsF q) (owF q)).set n (.row [.bool true,tsF q,owF q,.nilsl])).set (n+1) (.row [.int .i64 0])):=λfr=>by
   refine Lp.retZ (VSo.lcl c fs n) a3 Z bx (by rw[zX ow,zX ow];exact ba _ _) (S':=S0) (λi I=>.inl I) ⟨by rw[yY,yY,W];omega,λi I z=> ?_⟩ ⟨q,C,by rw[yY,yY,W];omega,by rw[zX ow,zW],zW _ _ _,N⟩;rw[zX λe=>z (.inr ((N i).2 (.inr e))),zX λe=>z (.inr ((N i).2 (.inl e))),(K _ _).2 i I λe=>z (.inl e)]
  have s3:∀a b,a.flat=true->b.flat=true->yW prog 49 (.ptr n 0) (.agg [.bool true,a,b,.nilsl]) (s a b)=some ((s a b).set n (.row [.bool true,a,b,.nilsl])):=λa b h1 v=>ql (a8 a b) (by rw[Zv];rfl) rfl jS (by simp[h1,v];exact⟨rfl,rfl⟩);have s4:∀a b r,yW prog 39 (.ptr (n+1) 0) (.int .i64 0) ((s a b).set n (.row r))=some (((s a b).set n (.row r)).set (n+1) (.row [.int .i64 0])):=λa b r=>by
   rw[yN (by rw[zX ow];exact a9 a b) aB jS rfl rfl];rfl
  have e1:((q.ts.length:Int)==0)=decide (q.ts= []):=by cases q.ts<;>simp<;>omega
  have e2:((q.own.length:Int)==0)=decide (q.own= []):=by cases q.own<;>simp<;>omega
  have f1:(tsD q).flat=true:=rfl;have f2:(owD q).flat=true:=rfl;have f3:D.nilsl.flat=true:=rfl;have t1:tsF q=if decide (q.ts= [])=true then .nilsl else tsD q:=by unfold tsF;simp
  have t2:owF q=if decide (q.own= [])=true then .nilsl else owD q:=by unfold owF;simp
  rw[t1,t2]at o;generalize decide (q.ts= [])=b1 at e1 o;generalize decide (q.own= [])=b2 at e2 o;cases b1
  all_goals cases b2
  all_goals simp only[zg,yp,qF]at o
  all_goals
   exact au
  all_goals exact o _
 .intro S' ak v b6 ag Y w hw ad
  obtain⟨w0,w1,w2,w3,N⟩:=hw;have A:Ext g v:=Ext.of_but O w λj hj=>by rcases hj with(rfl|rfl)|rfl<;>omega
  obtain⟨d,d1,d2,d3,d4,d5⟩:=ad.fin (R:=R) (Q:=λd h'=>Ext g h'/\below g.next (qM d)/\qM d=In c fs) (mk:=λd=>.tuple [.agg [.bool false,.nilsl,.nilsl,d],.int .i64 0]) A (λi I=>by
   rcases ag i I with q|q<;>omega) (λid cs d=>rfl) (λd=>rfl) (λd h=>⟨⟨trivial,trivial,trivial,h,trivial⟩,trivial,trivial⟩) (λd h' q1 q2 q3=>⟨q1,q2,by unfold In;rw[ip J,ye.1 w0,<-q3];rfl⟩) hR
  have b7:qW prog 49 [(2,d)]=some (.agg [.bool false,.nilsl,.nilsl,d]):=by simp[qW,fq,Yd,ua,wS,d2,d3,RM,Zm]
  obtain⟨F1,P,r1,r2,E1⟩:∃F,v.set n (.row [.bool false,.nilsl,.nilsl,d])=F/\F.at' n=some (.row [.bool false,.nilsl,.nilsl,d])/\F.at' (n+1)=some (.row [.int .i64 0])/\Ext g F:=⟨_,rfl,zW _ _ _,by rw[zX ow];exact w3,A.set ow _⟩;have s1:yW prog 49 (.ptr n 0) (.agg [.bool false,.nilsl,.nilsl,d]) v=some F1:=by
   rw[ql (cs':=[.bool false,.nilsl,.nilsl,d]) w2 (by rw[Zv];rfl) rfl jS (by simp[d4];exact⟨rfl,rfl⟩),P]
  have s2:yW prog 39 (.ptr (n+1) 0) (.int .i64 0) F1=some F1:=by
   rw[yN r2 aB jS rfl rfl];exact congrArg some (sC r2)
  have o:=d5 F1 (λi I z=>by
   rw[<-P,zX λe=>Y i ((N i).2 (.inl e)) I]) E1
  exact au
 .intro S' ak v b6 ag Y w hv ad
  obtain⟨q,C,w1,w2,w3,N⟩:=hv;have A:Ext g v:=Ext.of_but O w λj hj=>by rcases hj with(rfl|rfl)|rfl<;>omega
  have E:qM (tsF q)=tsF q/\below 0 (tsF q):=by
   unfold tsF;split
   .exact⟨rfl,trivial⟩
   .exact qY (sz:=1) (xs:=qT (q.ts.map jy)) (λx hx=>by
     obtain⟨a,ha,rfl⟩:=zS.1 hx;obtain⟨t,_,rfl⟩:=zS.1 ha;exact aX t) .no
  have ai:qM (owF q)=owF q/\below 0 (owF q):=by
   unfold owF;split
   .exact⟨rfl,trivial⟩
   .exact qY (sz:=1) (xs:=wg q.own) uj .no
  have o:=U v (.tuple [.agg [.bool true,tsF q,owF q,.nilsl],.int .i64 0]) A (by simp only[qM,qU,E.1,ai.1]) ⟨⟨trivial,E.2,ai.2,trivial,trivial⟩,trivial,trivial⟩ (by unfold In;rw[ip J,C]);exact au
structure Le(p q:Part):Prop where
 tl:p.ts.length=q.ts.length
 ol:p.own.length=q.own.length
 t:∀(i:Nat) a,p.ts[i]? =some a->a= []\/q.ts[i]? =some a
 o:∀(i:Nat) s,p.own[i]? =some s->s= []\/q.own[i]? =some s
def Le.refl(p:Part):Le p p:=⟨rfl,rfl,λ_ _ h=>.inr h,λ_ _ h=>.inr h⟩
def Le.trans{p q r:Part}(a:Le p q)(b:Le q r):Le p r:=⟨a.tl.trans b.tl,a.ol.trans b.ol,λi x h=>(a.t i x h).elim .inl λh=>b.t i x h,λi x h=>(a.o i x h).elim .inl λh=>b.o i x h⟩
def Le.gap{p q:Part}(h:Le p q):Gap (jl p).ts (jl p).own (jl q) where
 tl:=by show(p.ts.map jy).length=(q.ts.map jy).length;rw[zI,zI,h.tl]
 ol:=h.ol
 ts:=λi a e=>by
  have e:(p.ts.map jy)[i]? =some a:=e;rw[zm]at e;obtain⟨t,e1,rfl⟩:=ze.1 e;rcases h.t i t e1 with rfl|q1
  .exact .inl rfl
  .refine .inr ?_
   show(q.ts.map jy)[i]? =_;rw[zm,q1];rfl
 own:=h.o
def Le.vios{p q:Part}(h:Le p q)(h0:pq c fs (jl q)= []):Qn c fs p=none:=by
 unfold Qn;cases e:pq c fs (jl p)with
 |nil=>rfl
 |cons v l=>
  have:=h.gap.vios (c:=c) (fs:=fs) (v:=v) (by show v∈pq c fs (jl p);rw[e];exact qO);rw[h0]at this;cases this
def zIb(c:Cat)(fs:List Fac)(q:Part)(v k:Nat):Prop:=if v<(tV c fs).length then q.ts[v]? =some (((tV c fs).getD v []).getD k [])else q.own[v- (tV c fs).length]? =some ((c.ls.map Lic.name).getD k [])
def Le.dec{p q:Part}(h:Le p q){v k:Nat}(b:zIb c fs q v k):Le (pu c fs p v k) q:=by
 unfold zIb at b;unfold pu;split
 .rename_i h1
  rw[ip h1]at b;refine⟨by rw[uE];exact h.tl,h.ol,λi a e=> ?_,h.o⟩;rw[oP]at e;split at e
  .rename_i d
   subst d;split at e
   .cases e;exact .inr b
   .cases e
  .exact h.t i a e
 .rename_i h1
  rw[iq h1]at b;refine⟨h.tl,by rw[uE];exact h.ol,h.t,λi a e=> ?_⟩;rw[oP]at e;split at e
  .rename_i d
   subst d;split at e
   .cases e;exact .inr b
   .cases e
  .exact h.o i a e
structure Full(c:Cat)(fs:List Fac)(q:Part):Prop where
 ok:POk c fs q
 de:∀v,v<ctV c fs->deV c fs q v=true
def Full.val{q:Part}(h:Full c fs q){v:Nat}(f:v<ctV c fs):∃k,k<szV c fs v/\zIb c fs q v k:=by
 have a:=h.de v f;unfold deV at a;unfold zIb szV;by_cases h1:v<(tV c fs).length
 .simp only[ip h1]at a⊢
  have b:v<q.ts.length:=by rw[h.ok.tl];exact h1
  rw[zE,zB b]at a;have g:=(h.ok.t v _ (zB b)).resolve_left λe=>by rw[e]at a;cases a
  obtain⟨k,d,e⟩:=zz.1 g;refine⟨k,d,?_⟩;rw[zB b,zE,zB d,e];rfl
 .simp only[iq h1]at a⊢
  have b:v- (tV c fs).length<q.own.length:=by rw[h.ok.ol];unfold ctV at f;omega
  rw[zE,zB b]at a;obtain⟨y,i,e⟩:=(h.ok.o _ (zH b)).resolve_left λe=>by rw[zA,e]at a;cases a
  obtain⟨k,d,rfl⟩:=zz.1 i;exact⟨k,d,by rw[zB b,fg d,e]⟩
theorem X1{q:Part}(h:Full c fs q):∀n,n<=ctV c fs->Le (we c fs n) q
 |0,_=>by
  have b:∀{α:Type}(i n:Nat)(a:List α),(List.replicate n ([]:List α))[i]? =some a->a= []:=λi n a e=>by
   rw[List.getElem?_replicate]at e;split at e
   .cases e;rfl
   .cases e
  exact⟨by rw[h.ok.tl];exact j7,by rw[h.ok.ol];exact j7,λi a e=>.inl (b _ _ _ e),λi a e=>.inl (b _ _ _ e)⟩
 |n+1,b=>by
  rw[we];have d:=X1 h n ow;split
  .rename_i h1
   obtain⟨k,g,f⟩:=h.val (v:=n) ow
   have:k=0:=ow;subst this;exact d.dec f
  .exact d
theorem V1(h0:(yV c fs).2.2=0){q:Part}(h:Full c fs q)(d:pq c fs (jl q)= []):∀m p,POk c fs p->Le p q->opn c fs p<=m->n9 c fs m p≠[]
 |0,p,g,b,i=>by
  rw[n9,b.vios d];simp
 |m+1,p,g,b,i=>by
  rw[n9,b.vios d];cases e:nxV c fs p with
  |none=>simp
  |some v=>
   obtain⟨j,_,_⟩:=fi e;obtain⟨k,f,a⟩:=h.val j;have:=V1 h0 h d m _ (g.dec f) (b.dec a) (by have:=Pd g h0 e f;omega);simp only[Option.isSome,zg,yp];intro e2;rw[List.flatMap_eq_nil_iff]at e2;exact this (e2 k (yz.2 f))
def Le.of_dec{v k:Nat}(h:deV c fs p v=false):Le p (pu c fs p v k):=by
 unfold deV at h;unfold pu;split
 .rename_i h1
  rw[ip h1]at h;refine⟨by rw[uE],rfl,λi a e=> ?_,λi a e=>.inr e⟩;by_cases q:v=i
  .subst q
   rw[zE,e]at h;exact .inl (by simpa using h)
  .exact .inr (by rw[ry q];exact e)
 .rename_i h1
  rw[iq h1]at h;refine⟨rfl,by rw[uE],λi a e=>.inr e,λi a e=> ?_⟩;by_cases q:v- (tV c fs).length=i
  .subst q
   rw[zE,e]at h;exact .inl (by simpa using h)
  .exact .inr (by rw[ry q];exact e)
theorem Qg(h0:(yV c fs).2.2=0){x:Part} :∀m p,POk c fs p->opn c fs p<=m->x∈n9 c fs m p->POk c fs x/\Le p x/\Qn c fs x=none/\nxV c fs x=none
 |0,p,b,i,a=>by
  rw[n9]at a;split at a
  .cases a
  .rename_i h
   rw[zo]at a;subst a;refine⟨b,Le.refl _,by simpa using h,?_⟩;cases e:nxV c fs x with
   |none=>rfl
   |some v=>
    obtain⟨h1,f,_⟩:=fi e
    have:0<opn c fs x:=zy.2 (lF (rM.2 ⟨yz.2 h1,f⟩));omega
 |m+1,p,b,i,a=>by
  rw[n9]at a;split at a
  .cases a
  .rename_i h
   split at a
   .rename_i e
    rw[zo]at a;subst a;exact⟨b,Le.refl _,by simpa using h,e⟩
   .rename_i v e
    obtain⟨k,d,a⟩:=zt.1 a;have d:=yz.1 d;obtain⟨h1,f,h3,g⟩:=Qg h0 m _ (b.dec d) (by have:=Pd b h0 e d;omega) a;obtain⟨_,e2,_⟩:=fi e;exact⟨h1,(Le.of_dec (by simp only[pI,zF,qI]at e2;exact e2.2)).trans f,h3,g⟩
def Le.de{p q:Part}(h:Le p q){v:Nat}(b:deV c fs p v=true):deV c fs q v=true:=by
 unfold deV at b⊢;split
 .rename_i h1
  rw[ip h1]at b;cases e:p.ts[v]? with
  |none=>rw[zE,e]at b;exact absurd b jD
  |some a=>
   rcases h.t v a e with rfl|d
   .rw[zE,e]at b;exact absurd b jD
   .rwa [zE,d,<-e,<-zE]
 .rename_i h1
  rw[iq h1]at b;cases e:p.own[v- (tV c fs).length]? with
  |none=>rw[zE,e]at b;exact absurd b jD
  |some a=>
   rcases h.o _ a e with rfl|d
   .rw[zE,e]at b;exact absurd b jD
   .rwa [zE,d,<-e,<-zE]
theorem IU(h0:(yV c fs).2.2=0):∀n,n<=ctV c fs->∀v,v<n->szV c fs v=1->deV c fs (we c fs n) v=true
 |0,_,v,h,_=>absurd h (yX _)
 |n+1,b,v,h,h1=>by
  have a:=IU h0 n ow v;rw[we];split
  .rename_i q
   rw[PL (rX c fs n) h0 ow ow];by_cases e:v=n
   .rw[zR e];rfl
   .rw[a ow h1,nC]
  .rename_i q
   refine a (Nat.lt_of_le_of_ne (Nat.le_of_lt_succ h) λe=>q ?_) h1;rw[<-e];exact h1
def I1(h0:(yV c fs).2.2=0){v:Nat}(d:v<ctV c fs)(a:szV c fs v=0):c.ls.length=0/\∀y:Cho,pq c fs y≠[]:=by
 unfold szV at a;split at a
 .rename_i h1
  have j:(tV c fs).getD v []∈tV c fs:=by rw[zE,zB h1];exact zH _
  exact absurd (ye.1 a) (pM _ j).2.ne
 .rename_i h1
  refine⟨a,λy e=> ?_⟩;have k:oV c fs≠[]:=λe=>by unfold ctV at d;rw[e]at d;simp at d;omega
  obtain⟨s,b⟩:=lQ _ k;unfold oV at b;rw[aH h0]at b;rcases kN.1 b with q| ⟨f,hf,h,_⟩
  .cases q
  .obtain⟨i,g,rfl⟩:=zz.1 hf
   have:(⟨5,dM ([i].map λn:Nat=>(n:Int))⟩:Vio)∈pq c fs y:=TT.2 ⟨5,ow,rfl,[i],⟨a,i,by rw[mW g];exact h,rfl⟩,rfl⟩;rw[e]at this;cases this
def Jr(h0:(yV c fs).2.2=0){x:Part}(f:POk c fs x)(d:Le (nO c fs) x)(hf:Qn c fs x=none)(a:nxV c fs x=none):Full c fs x:=by
 refine⟨f,λv b=> ?_⟩;cases e:deV c fs x v with
 |true=>rfl
 |false=>
  unfold nxV at a;rw[lE]at a;have:=a v (yz.2 b);unfold pI at this;rw[e]at this;have g:¬1<szV c fs v:=by simpa using this
  by_cases h1:szV c fs v=1
  .rw[d.de (IU h0 _ (zC _) v b h1)]at e
   cases e
  .have:=(I1 h0 b ow).2 (jl x)
   unfold Qn at hf;exact absurd (sw.1 hf) this
def Rb(h0:(yV c fs).2.2=0):rZ c fs≠[]↔∃q,Full c fs q/\pq c fs (jl q)= []:=by
 have a:opn c fs (nO c fs)<=ctV c fs:=by
  unfold opn;exact zb (uY _ _) jS
 constructor
 .intro h
  obtain⟨x,g⟩:=lQ _ h;obtain⟨h1,d,h3,e⟩:=Qg h0 _ _ (rX c fs _) a g;exact⟨x,Jr h0 h1 d h3 e,sw.1 h3⟩
 .rintro⟨q,b,f⟩
  exact V1 h0 b f _ _ (rX c fs _) (X1 b _ (zC _)) a
def prW(s:Nat->Nat)(f:Nat->Bool):List Nat->Nat
 | []=>1
 |w::l=>if f w=true then s w*prW s f l else prW s f l
theorem Ux{s:Nat->Nat}{f:Nat->Bool}(h:∀w,f w=true->0<s w):∀l,0<prW s f l
 | []=>Nat.one_pos
 |w::l=>by
  rw[prW];split
  .rename_i q;exact Yf (h w q) (Ux h l)
  .exact Ux h l
theorem IL{s:Nat->Nat}{f g:Nat->Bool}{v:Nat}(a:∀w,g w=(!decide (w=v)&&f w)):∀l,v∉l->prW s g l=prW s f l
 | [],_=>rfl
 |w::l,h=>by
  rw[z7,bg]at h;rw[prW,prW,a w,zN (λe=>h.1 e.symm),sj,uT,IL a l h.2]
theorem IM{s:Nat->Nat}{f g:Nat->Bool}{v:Nat}(a:∀w,g w=(!decide (w=v)&&f w))(hf:f v=true):∀l:List Nat,l.Nodup->v∈l->prW s f l=s v*prW s g l
 | [],_,h=>by cases h
 |w::l,b,h=>by
  rw[px]at b;by_cases e:w=v
  .subst e
   rw[prW,prW,ip hf,a w,zR rfl,IL a l b.1];rfl
  .have c:=IM (s:=s) a hf l b.2 ((z7.1 h).resolve_left λq=>e q.symm)
   rw[prW,prW,a w,zN e,sj,uT,c];split
   .exact Nat.mul_left_comm ..
   .rfl
theorem MI(h0:(yV c fs).2.2=0):∀m p n,POk c fs p->(lw c fs m p n).length+1<=2*prW (szV c fs) (pI c fs p) (List.range (ctV c fs))
 |0,p,n,d=>by
  have:=Ux (s:=szV c fs) (f:=pI c fs p) (λw h=>by simp only[pI,zF,zO]at h;omega) (List.range (ctV c fs));rw[lw];split<;>simp<;>omega
 |m+1,p,n,d=>by
  have o:=Ux (s:=szV c fs) (f:=pI c fs p) (λw h=>by simp only[pI,zF,zO]at h;omega) (List.range (ctV c fs));rw[lw];split
  .simp;omega
  .split
   .simp;omega
   .rename_i v e
    obtain⟨q,l,_⟩:=fi e;have u:2<=szV c fs v:=by simp only[pI,zF,zO]at l;omega
    have t:∀k,k<szV c fs v->∀w,pI c fs (pu c fs p v k) w=(!decide (w=v)&&pI c fs p w):=λk a w=>by
     unfold pI;rw[PL d h0 q a];cases decide (w=v)<;>cases decide (1<szV c fs w)<;>cases deV c fs p w<;>rfl
    have j:∀k,k<szV c fs v->prW (szV c fs) (pI c fs (pu c fs p v k)) (List.range (ctV c fs))=prW (szV c fs) (λw=> !decide (w=v)&&pI c fs p w) (List.range (ctV c fs)):=λk a=>by
     congr 1;funext w;exact t k a w
    have b:=IM (s:=szV c fs) (f:=pI c fs p) (g:=λw=> !decide (w=v)&&pI c fs p w) (λw=>rfl) l (List.range (ctV c fs)) List.nodup_range (yz.2 q);rw[b];generalize prW (szV c fs) (λw=> !decide (w=v)&&pI c fs p w) (List.range (ctV c fs))=W at j;have key:∀k,k<=szV c fs v->(pp (λk i=>lw c fs m (pu c fs p v k) i) k (n+1)).2.length+k<=2*(k*W):=λk a=>by
     induction k with
     |zero=>simp[pp]
     |succ k r=>
      have r:=r ow;have:=MI h0 m (pu c fs p v k) (n+1+(pp (λk i=>lw c fs m (pu c fs p v k) i) k (n+1)).2.length) (d.dec ow);rw[j k ow]at this;rw[pp,zQ,qx,pU];omega
    have:=key _ (zC _);rw[zx];omega
def prL:List Nat->Nat
 | []=>1
 |r::l=>r*prL l
theorem IJ:∀{l:List Nat},(∀r∈l,0<r)->0<prL l
 | [],_=>Nat.one_pos
 |r::l,h=>Yf (h r qO) (IJ λq a=>h q (z8 _ a))
def zAY{l m:List Nat}(h:l.Sublist m):(∀r∈m,0<r)->prL l<=prL m:=by
 induction h with
 |slnil=>exact λ_=>zC _
 |cons a h d=>exact λb=>zb (d λq c=>b q (z8 _ c)) (jt _ (b a qO))
 |cons_cons a h d=>exact λb=>mO _ (d λq c=>b q (z8 _ c))
theorem I3:∀{l:List Nat}{n:Nat},(∀r∈l,0<r)->(Hm l n<=4096\/n*prL l<=4096)->Hm l n=n*prL l
 | [],n,_,_=>by rw[Hm,prL,wn]
 |r::l,n,b,h=>by
  have h1:=IJ λq a=>b q (z8 _ a);rw[Hm]at h⊢;rw[prL,<-Nat.mul_assoc]at h⊢;have c:n*r<=n*r*prL l:=Nat.le_mul_of_pos_right _ h1;split
  .rename_i q
   rw[ip q]at h;rcases h with h|h<;>omega
  .rename_i q
   rw[iq q]at h;exact I3 (λq a=>b q (z8 _ a)) h
def P6{l:List Nat}(a:∀r∈l,0<r)(h:L7 l<=4096\/prL l<=4096):L7 l=prL l:=by
 unfold L7 at h⊢;have h0:¬(l.any (· ==0))=true:=λq=>by
  obtain⟨r,hr,e⟩:=yu.1 q;have:=a r hr;simp at e;omega
 rw[iq h0]at h⊢;rw[I3 a (by rwa [pU]),pU]
theorem IK{s:Nat->Nat}{f:Nat->Bool} :∀l:List Nat,(∀w∈l,0<s w)->prW s f l<=prL (l.map s)
 | [],_=>zC _
 |w::l,h=>by
  have a:=IK (f:=f) l λq b=>h q (z8 _ b);rw[prW,qe,prL];split
  .exact mO _ a
  .exact zb a (jt _ (h w qO))
def BD:We c (tV c fs) (oV c fs)=(List.range (ctV c fs)).map (szV c fs):=by
 refine List.ext_getElem (by simp[We,ctV]) λi h1 a=> ?_;rw[tW,List.getElem_range];unfold szV;simp only[We]at h1⊢;split
 .rename_i q
  rw[List.getElem_append_left (by simpa using q),tW,zE,zB q];rfl
 .rename_i q
  rw[List.getElem_append_right (by simpa using q),tW]
def zAa(h:∀v,v<ctV c fs->0<szV c fs v):∀r∈We c (tV c fs) (oV c fs),0<r:=λr hr=>by
 rw[BD]at hr;obtain⟨v,a,rfl⟩:=zS.1 hr;exact h v (yz.1 a)
def R5(h:qi c fs=0):(fJ c fs).length<=8191:=by
 have h0:=bI h;by_cases b:∀v,v<ctV c fs->0<szV c fs v
 .have h1:=MI h0 (ctV c fs) (nO c fs) 0 (rX c fs _)
  have g:=IK (s:=szV c fs) (f:=pI c fs (nO c fs)) (List.range (ctV c fs)) λw i=>b w (yz.1 i);rw[<-BD]at g;have h3:=P6 (zAa b) (.inl (Nn h));have d:=Nn h;unfold BM at d;unfold fJ;have h5:L7 (We c (tV c fs) (oV c fs))<=4096:=d;omega
 .have:∃v,v<ctV c fs/\szV c fs v=0:=by
   refine lP λq=>b λv a=>Nat.pos_of_ne_zero λe=>q ⟨v,a,e⟩
  obtain⟨v,a,e⟩:=this;have h1:=(I1 h0 a e).2 (jl (nO c fs));cases e2:Qn c fs (nO c fs)with
  |none=>exact absurd (sw.1 e2) h1
  |some x=>unfold fJ;rw[(Qh e2 _ _).2];simp
def V3{y:Cho}(W:Whole c fs y):(yV c fs).2.2=0:=by
 have:=Qi.2 W;unfold qN at this;split at this
 .rename_i q;rw[this]at q;exact absurd q jD
 .rename_i q;simpa using q
def TM(h:(yV c fs).2.2=0):tV c fs=(Z8 fs).map λf=>ofL c f.e:=by
 unfold tV;unfold yV at h⊢;by_cases q:(!((wb c fs).2==0))=true
 .rw[ip q]at h
  have:(wb c fs).2≠0:=by simpa using q
  exact absurd h this
 .rw[iq q]at h⊢
  rw[gx h,yU]
def Whole.full{q:Part}(W:Whole c fs (jl q)):Full c fs q:=by
 have h0:=V3 W;have g:=TM h0;have n:oV c fs=rV fs []:=aH h0;have k:q.ts.length=(tV c fs).length:=by
  have:=W.tl;rw[g,zI,<-this];show _=(q.ts.map jy).length;rw[zI]
 have ol:q.own.length=(oV c fs).length:=by rw[n];exact W.ol
 have l:∀i (h:i<q.ts.length),q.ts[i]∈(tV c fs).getD i []:=λi h=>by
  have h1:i<(Z8 fs).length:=by rw[k,g,zI]at h;exact h
  have:=W.ts i (by show i<(q.ts.map jy).length;rwa [zI]) _ (zB h1);have e:((jl q).ts[i]'(by show i<(q.ts.map jy).length;rwa [zI])).ts=q.ts[i]:=by
   show((q.ts.map jy)[i]'(by rwa [zI])).ts=_;rw[tW,Yj]
  rw[e]at this;rw[g,zE,zm,zB h1];exact this
 have m:∀s∈q.own,∃x∈c.ls,x.name=s:=λs f=>by
  obtain⟨x,j,e⟩:=yu.1 (W.own s f);exact⟨x,j,by simpa using e⟩
 refine⟨⟨k,ol,λi a e=> ?_,λs f=>.inr (m s f)⟩,λv o=> ?_⟩
 .obtain⟨h1,rfl⟩:=zK.1 e
  exact .inr (l i h1)
 .unfold deV
  split
  .rename_i h1
   have b:v<q.ts.length:=by rw[k];exact h1
   have d:(tV c fs).getD v []∈tV c fs:=by rw[zE,zB h1];exact zH _
   have:=((pM _ d).2.ts _ (l v b)).1;rw[zE,zB b];exact zR (zy.2 this)
  .rename_i h1
   have b:v- (tV c fs).length<q.own.length:=by rw[ol];unfold ctV at o;omega
   obtain⟨x,j,e⟩:=m _ (zH b);have:=J4 W.cat j;rw[zE,zB b];rw[e]at this;simp[this]
theorem jQ:∀{l:List Fac}{o:List (List UInt8)},o.Nodup->(rV l o).Nodup
 | [],o,h=>h
 |f::fs,o,h=>by
  rw[rV];split
  .exact jQ h
  .split
   .refine jQ ?_
    split
    .exact h
    .rename_i q
     rw[List.nodup_append];refine⟨h,jS,λa d b c e=>q ?_⟩;rw[zo]at c;subst c;exact yu.2 ⟨a,d,by simpa using e⟩
   .exact jQ h
theorem W8{fs:List Fac} :∀{I:List Nat}(k:Nat),(∀i∈I,k<=i)->I.Pairwise (· < ·)->(I.filterMap λi=>fs[i]?).Sublist (fs.drop k)
 | [],k,_,_=>List.nil_sublist _
 |i::I,k,h,a=>by
  rw[s9]at a;have c:=W8 (fs:=fs) (i+1) (λj g=>a.1 j g) a.2;have l:=h i qO;have b:(fs.drop i).Sublist (fs.drop k):=by
   rw[show i=k+(i-k) by omega,<-uC];exact List.drop_sublist _ _
  rw[mL];cases e:fs[i]? with
  |none=>
   refine(c.trans ?_).trans b;rw[show i+1=i+1 from rfl,<-uC]
   exact List.drop_sublist _ _
  |some f=>
   obtain⟨d,rfl⟩:=zK.1 e;refine List.Sublist.trans ?_ b;rw[yi d];exact c.cons_cons _
def InI.sub(H:InI fs I):(uH fs I).Sublist fs:=by
 have:=W8 (fs:=fs) 0 (λi _=>yM i) H.inc
 rwa [wN]at this
section
variable{c:Cat}{fs:List Fac}
def zAb(h0:(yV c fs).2.2=0)(d:gs.Sublist fs)(b:(yV c gs).2.2=0):(We c (tV c gs) (oV c gs)).Sublist (We c (tV c fs) (oV c fs)):=by
 unfold We;refine List.Sublist.append ?_ ?_
 .rw[TM h0,TM b]
  exact((d.filter _).map _).map _
 .have e1:oV c gs=rV gs []:=aH b
  have e2:oV c fs=rV fs []:=aH h0;rw[e1,e2,List.map_const',List.map_const',List.replicate_sublist_replicate];refine List.Nodup.length_le_of_subset (jQ lR) λs a=> ?_;rcases kN.1 a with q| ⟨f,hf,g,e⟩
  .cases q
  .exact kN.2 (.inr ⟨f,d.subset hf,g,e⟩)
end
variable{c:Cat}{fs:List Fac}
theorem Jc:∀(n:Nat)(e:Ex),e.size<=n->e.Fit c->c.ls.length≠0
 |0,.mk k a x l d,h,_=>by simp only[Ex.size]at h;omega
 |n+1,.mk k a x l d,h,hf=>by
  obtain⟨h1,b⟩:=hf.self;have h1:cP k a x l.length=0:=h1;have b:P7 c (.mk k a x l d)=0:=b;unfold cP at h1;split at h1
  .split at h1
   .exact absurd h1 jD
   .split at h1
    .exact absurd h1 jD
    .rename_i q
     intro h0;unfold P7 at b;split at b
     .exact absurd b jD
     .rename_i f
      have i:a≠[]:=λe=>by subst e;exact q (by simp[oY])
      have g:Wb c a x=true:=by
       simp only[Ex.name,Ex.exc]at f;simp[i]at f;exact f
      unfold Wb at g
      have:nq c a=none:=by
       unfold nq;split
       .rfl
       .split
        .rw[ye.1 h0];rfl
        .rfl
      simp[this]at g
  .split at h1
   .split at h1
    .exact absurd h1 jD
    .rename_i q
     simp only[yn,zO,bg]at q;cases l with
     |nil=>exact absurd (by simp:((([]:List Ex).length:Nat):Int)<2) q.1.1
     |cons e l=>
      refine Jc n e ?_ (hf.kid (by simp[Ex.kids]));simp only[Ex.size,qR]at h;omega
   .exact absurd h1 jD
def J7(h:mZ c e=0):c.ls.length≠0:=by
 unfold mZ at h;split at h
 .rename_i q
  exact Jc _ e (zC _) (Nt (by simpa using q)).2.2
 .rename_i q;rw[h]at q;exact absurd rfl q
def P8(h:(yV c fs).2.2=0):((wb c fs).2=0)/\∀f∈fs,f.kind=1->mZ c f.e=0:=by
 unfold yV at h;by_cases q:(!((wb c fs).2==0))=true
 .rw[ip q]at h
  have:(wb c fs).2≠0:=by simpa using q
  exact absurd h this
 .rw[iq q,aF]at h
  exact⟨by simpa using q,h⟩
def Fh(h:(yV c fs).2.2=0)(a:gs.Sublist fs):(yV c gs).2.2=0:=by
 obtain⟨h1,b⟩:=P8 h;obtain⟨e1,e2,e3⟩:=kq.1 h1
 have:(wb c gs).2=0:=kq.2 ⟨e1,by have:=a.length_le;omega,λf hf=>e3 f (a.subset hf)⟩;unfold yV;rw[iq (by rw[this];decide)];exact aF.2 λf hf=>b f (a.subset hf)
def JT(h:qi c fs=0)(i:gs.Sublist fs):qi c gs=0:=by
 have h0:=bI h;have b:=Fh h0 i;have key:BM c gs<=4096:=by
  show L7 (We c (tV c gs) (oV c gs))<=4096;by_cases g:c.ls.length=0
  .have e1:tV c gs= []:=by
    rw[TM b];cases e:Z8 gs with
    |nil=>rfl
    |cons f l=>
     obtain⟨hf,k⟩:=rM.1 (show f∈gs.filter λf=>f.kind==1 from by
      have:f∈Z8 gs:=by rw[e];exact qO
      exact this)
     exact absurd g (J7 ((P8 b).2 f hf (by simpa using k)))
   rw[e1];unfold We;cases oV c gs with
   |nil=>show L7 []<=4096;decide
   |cons s l=>simp[L7,g]
  .have d:∀fs:List Fac,∀r∈We c (tV c fs) (oV c fs),0<r:=λfs r hr=>by
    rcases qB.1 hr with q|q
    .obtain⟨a,j,rfl⟩:=zS.1 q
     exact zy.2 (pM _ j).2.ne
    .obtain⟨s,_,rfl⟩:=zS.1 q
     omega
   have h1:=P6 (d fs) (.inl (Nn h));have m:L7 (We c (tV c fs) (oV c fs))<=4096:=Nn h;have h3:=zAY (zAb h0 i b) (d fs);have h5:=P6 (d gs) (.inr ow);omega
 unfold qi;rw[iq (by rw[b];decide),iq jO]
end Go.V
