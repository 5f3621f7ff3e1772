/- A machine of abstract values for programs of the model, further rules, part 5. No condition. -/
import Derived.Test.YtkenagjlanhnmaaGreatDoorW39
set_option linter.all false
set_option maxHeartbeats 8000000
namespace Go.V
section
variable{P:Program}{W:Nat->(Nat->Prop)->Heap->Prop}{V:(Nat->Prop)->Heap->Prop}{n:Nat}{L:LRec}{el:Nat->List D}
variable{f:FuncId}{args:List D}{h:Heap}{S U:Nat->Prop}{fr:Frm}
def He{b:Nat}(O:h.next=b){B C D:(Nat->Prop)->Heap->Prop}{Q:Exit->Frm->Heap->Prop}(v:Lcl W)(X:Lcl λ_=>V)(p:Lcl λ_=>B)(J:Lcl λ_=>C)(K:Lcl λ_=>D)(T:L.st=.ready)(R:L.pending=none)(N:W 0 S h)(I:B U h)(Z:∀i,S i->¬U i)
  (y:Yld P b n el (YLp b L W) (ZLp b L V)->YLp b L W 0 (λi=>i=b\/S i) (h.new b (.loop L))->B U (h.new b (.loop L))->(∀i,(i=b\/S i)->¬U i)->zE P f args (h.new b (.loop L)) λ_ h'=>∃S' a,(∀j,S' j->(j=b\/S j)\/(h.new b (.loop L)).next<=j)/\(∀j,a j->U j\/(h.new b (.loop L)).next<=j)/\(∀i,S' i->¬a i)/\But (λi=>(i=b\/S i)\/U i) (h.new b (.loop L)) h'/\((YLp b L W n S' h'/\C a h')\/(ZLp b L V S' h'/\D a h')))
  (go:∀k S0 h3,k<n->b<h3.next->h3.at' b=some (.loop L)->W k S0 h3->¬S0 b->uC P b (el k) h3 (LpZ b L W V k S0 h3))
  (H:∀S' a d,(∀j,S' j->S j\/b<=j)->(∀j,a j->U j\/b<=j)->(∀i,S' i->¬a i)->But (λi=>S i\/U i) h d->W n S' d->C a d->Q .normal fr d)
  (t:∀S' a d,(∀j,S' j->S j\/b<=j)->(∀j,a j->U j\/b<=j)->(∀i,S' i->¬a i)->But (λi=>S i\/U i) h d->V S' d->D a d->Q .ret fr d):
  zE P f args (h.new b (.loop L)) λ_ h'=>∃r,h'.at' b=some (.loop r)/\r.st≠ .busy/\Va r.pending Q fr (h'.del b):=by
 subst O;have hn:(h.new h.next (.loop L)).next=h.next+1:=za _ _;have M:¬S h.next:=λe=>wK _ (v.here _ _ _ N _ e);have u:¬U h.next:=λe=>wK _ (p.here 0 _ _ I _ e);refine(y (YLp.yldZ v X go) ⟨ow,z5 _ _ _,S,v.loc _ _ _ _ N ow λi c=>zg (by have:=v.here _ _ _ N _ c;omega),M,λi=>Iff.rfl⟩ (p.loc 0 _ _ _ I ow λi c=>zg (by have:=p.here 0 _ _ I _ c;omega)) (λi c=>by
  rcases c with rfl|c
  .exact u
  .exact Z i c)).mono ?_
 have key:∀(S' a S0:Nat->Prop)(d:Heap),(∀j,S' j->(j=h.next\/S j)\/(h.new h.next (.loop L)).next<=j)->(∀j,a j->U j\/(h.new h.next (.loop L)).next<=j)->(∀i,S' i->¬a i)->But (λi=>(i=h.next\/S i)\/U i) (h.new h.next (.loop L)) d->¬S0 h.next->(∀i,S' i↔(i=h.next\/S0 i))->(∀j,S0 j->S j\/h.next<=j)/\(∀j,a j->U j\/h.next<=j)/\(∀i,S0 i->¬a i)/\But (λi=>S i\/U i) h (d.del h.next)/\¬a h.next:=by
  intro S' a S0 d A l g w m o;refine⟨λj z=> ?_,λj z=>(l j z).imp (λq=>q) λq=>by omega,λi c=>g i ((o i).2 (.inr c)),⟨by have:=w.1;show h.next<=d.next;omega,λi c x=> ?_⟩,g _ ((o _).2 (.inl rfl))⟩
  .rcases A j ((o j).2 (.inr z))with(q|q)|q
   .subst q;exact absurd z m
   .exact .inl q
   .exact .inr ow
  .have s:i≠h.next:=ow
   rw[wQ s,w.2 i ow (λe=>e.elim (λe=>e.elim s λq=>x (.inl q)) λq=>x (.inr q)),zg s]
 rintro r d ⟨S',a,A,l,g,w,⟨⟨Y,E,S0,F,m,o⟩,G⟩ | ⟨⟨Y,E,S0,F,m,o⟩,G⟩⟩
 .obtain⟨k1,k2,k3,k4,k5⟩:=key S' a S0 d A l g w m o
  refine⟨L,E,(by rw[T];intro q;cases q),?_⟩;rw[R,pM];exact H S0 a _ k1 k2 k3 k4 (v.loc _ _ _ _ F (zD _) λi c=>wQ λe=>by subst e;exact m c) (J.loc 0 _ _ _ G (zD _) λi c=>wQ λe=>by subst e;exact k5 c)
 .obtain⟨k1,k2,k3,k4,k5⟩:=key S' a S0 d A l g w m o
  refine⟨_,E,(by intro q;cases q),?_⟩;simp only[aX];exact t S0 a _ k1 k2 k3 k4 (X.loc 0 _ _ _ F (zD _) λi c=>wQ λe=>by subst e;exact m c) (K.loc 0 _ _ _ G (zD _) λi c=>wQ λe=>by subst e;exact k5 c)
end
open Go.Proofs
set_option maxRecDepth 100000
def Yu(c:Cat)(fs:List Fac)(p:Part):Option Vio:=(pW c fs (oP p)).head?
structure Nd where
 var:Int
 kids:List Int
 vio:Option Vio
def pX(c:Cat)(fs:List Fac):Nat->Part->List Part
 |0,p=>if(Yu c fs p).isSome=true then []else [p]
 |m+1,p=>if(Yu c fs p).isSome=true then []else match nxV c fs p with
  |none=>[p]
  |some v=>(List.range (szV c fs v)).flatMap λk=>pX c fs m (pY c fs p v k)
def ug(f:Nat->Nat->List Nd):Nat->Nat->List Int×List Nd
 |0,_=>([],[])
 |k+1,n=>((ug f k n).1++ [((n+(ug f k n).2.length:Nat):Int)],(ug f k n).2++f k (n+(ug f k n).2.length))
def pP(c:Cat)(fs:List Fac):Nat->Part->Nat->List Nd
 |0,p,_=>match Yu c fs p with
  |some v=>[⟨-1,[],some v⟩]
  |none=>[]
 |m+1,p,n=>match Yu c fs p with
  |some v=>[⟨-1,[],some v⟩]
  |none=>match nxV c fs p with
   |none=>[]
   |some v=>⟨(v:Int),(ug (λk n'=>pP c fs m (pY c fs p v k) n') (szV c fs v) (n+1)).1,none⟩ ::(ug (λk n'=>pP c fs m (pY c fs p v k) n') (szV c fs v) (n+1)).2
def opn(c:Cat)(fs:List Fac)(p:Part):Nat:=((List.range (ctV c fs)).filter (pL c fs p)).length
variable{c:Cat}{fs gs:List Fac}{p:Part}{f:FuncId}{args:List D}{h h' g:Heap}{S U S0:Nat->Prop}{fr:Frm}{xs:List (List D)}{sz i nid j:Nat}{d:D}{I:List Nat}{e:Ex}
def l8{v:Nat}(h:nxV c fs p=some v):v<ctV c fs/\pL c fs p v=true/\∀j,j<v->pL c fs p j=false:=by
 unfold nxV at h;rw[sn]at h;obtain⟨h1,i,b,a,h3⟩:=h;simp at a b;subst a;exact⟨b,h1,λj d=>by have:=h3 j d;simp at this;exact this⟩
def zEN(h:(yV c fs).2.2=0):pR c=0:=by
 unfold yV at h;split at h
 .rename_i q
  rw[h]at q;exact absurd q jD
 .rename_i q
  exact NP (by simpa using q)
def Hl(h:pR c=0){x:Lic}(b:x∈c.ls):x.name≠[]:=λe=>by
 have h1:c.e1=0:=by
  unfold pR at h;split at h
  .exact absurd h jD
  .split at h
   .rename_i q;rw[h]at q;exact absurd q jD
   .simp_all
 obtain⟨i,a,rfl⟩:=zy.1 b;have:=aH h1 i a;unfold atE at this;rw[zB a]at this;simp only[aQ]at this;rw[ip (by rw[e];rfl)]at this;cases this
def NW(h:POk c fs p)(h0:(yV c fs).2.2=0){v k:Nat}(j:v<ctV c fs)(a:k<szV c fs v)(w:Nat):deV c fs (pY c fs p v k) w=(decide (w=v)||deV c fs p w):=by
 unfold pY;unfold szV at a;by_cases f:v<(tV c fs).length
 .rw[ip f]at a⊢
  unfold deV;by_cases b:w<(tV c fs).length
  .simp only[ip b]
   by_cases e:w=v
   .subst e
    have d:w<p.ts.length:=by rw[h.tl];exact b
    rw[zR rfl,oD,zC,gQ d,zA,zP];have g:((tV c fs).getD w []).getD k []≠[]:=by
     rw[zC (l:=(tV c fs).getD w []),zB a];have i:(tV c fs).getD w []∈tV c fs:=by rw[zC,zB b];exact zI _
     exact((rz _ i).2.ts _ (zI a)).1
    exact z7.2 g
   .rw[zO e,t7,zC,pT (λq=>e q.symm),<-zC]
  .simp only[iq b]
   rw[zO (show¬w=v by omega),t7]
 .rw[iq f]at a⊢
  unfold deV;by_cases b:w<(tV c fs).length
  .simp only[ip b]
   rw[zO (show¬w=v by omega),t7]
  .simp only[iq b]
   by_cases e:w=v
   .subst e
    have d:w- (tV c fs).length<p.own.length:=by rw[h.ol];unfold ctV at j;omega
    rw[zR rfl,oD,zC,gQ d,zA,df a];have:=Hl (zEN h0) (zI a);simp[this]
   .rw[zO e,t7,zC,pT ow,<-zC]
def We(g:POk c fs p)(h0:(yV c fs).2.2=0){v k:Nat}(i:nxV c fs p=some v)(f:k<szV c fs v):opn c fs (pY c fs p v k)<opn c fs p:=by
 obtain⟨h1,d,_⟩:=l8 i;have key:∀l:List Nat,(l.filter (pL c fs (pY c fs p v k))).length<=(l.filter (pL c fs p)).length/\(v∈l->(l.filter (pL c fs (pY c fs p v k))).length<(l.filter (pL c fs p)).length):=λl=>by
  induction l with
  |nil=>exact⟨zD _,λh=>by cases h⟩
  |cons w l a=>
   have b:pL c fs (pY c fs p v k) w=(!decide (w=v)&&pL c fs p w):=by
    unfold pL;rw[NW g h0 h1 f];cases decide (w=v)<;>cases decide (1<szV c fs w)<;>cases deV c fs p w<;>rfl
   by_cases e:w=v
   .subst e
    rw[tB,tB,b,d];simp only[bC,oQ,wR,zf,yr,qK,zu];exact⟨ow,λ_=>by omega⟩
   .rw[tB,tB,b,zO e,sN,tH]
    split
    .simp only[zu]
     exact⟨ow,λh=>by have:=a.2 ((yE.1 h).resolve_left λq=>e q.symm);omega⟩
    .exact⟨a.1,λh=>a.2 ((yE.1 h).resolve_left λq=>e q.symm)⟩
 exact(key _).2 (yn.2 h1)
open Go.Proofs.Tryz
def Ek:∀{a j:Nat}{x:List D},(∀y∈xs,y.length=sz)->xs[a]? =some x->j<sz->xs.flatten[a*sz+j]? =x[j]? :=by
 induction xs with
 |nil=>intro a j x _ h;cases h
 |cons z xs e=>
  intro a j x b h d;have c:=b z qZ;cases a with
  |zero=>cases h;rw[yH,sr,yP,yi ow]
  |succ a=>
   rw[yH,yT (by rw[qp];omega),c,show(a+1)*sz+j-sz=a*sz+j by rw[qp];omega]
   grind
def El{w:D} :∀{a j:Nat}{x:List D},(∀y∈xs,y.length=sz)->xs[a]? =some x->j<sz->xs.flatten.set (a*sz+j) w=(xs.set a (x.set j w)).flatten:=by
 induction xs with
 |nil=>intro a j x _ h;cases h
 |cons z xs e=>
  intro a j x b h c;have d:=b z qZ;cases a with
  |zero=>cases h;rw[yH,sr,yP,List.set_append_left _ _ ow];rfl
  |succ a=>
   grind
def KK:Option Vio->List D
 |none=>[.int .i64 0,.nilsl]
 |some v=>v.cells
def ndC(m:Nd×D):List D:=.int .i64 m.1.var::m.2::KK m.1.vio
theorem Hm(m:Nd×D):(ndC m).length=4:=by obtain⟨⟨v,k,o⟩,d⟩:=m;cases o<;>rfl
def dh(M:List (Nd×D)):∀x∈M.map ndC,x.length=4:=by grind [Hm]
def zAB(h:Heap)(xs:List (List D))(d:D):Prop:=rY h 1 xs d/\(xs= []->d=.nilsl)
def zAB.tok(o:zAB h xs d)(a:sQ d i):i<h.next/\h.at' i=some .tok:=o.1.tok a
def zAB.loc(o:zAB h xs d)(b:h.next<=h'.next)(a:∀i,sQ d i->h'.at' i=h.at' i):zAB h' xs d:=⟨o.1.loc b a,o.2⟩
def NdH(nid:Nat)(L:List Nd)(S:Nat->Prop)(h:Heap):Prop:=
 nid<h.next/\∃ (d:D) (M:List (Nd×D)),h.at' nid=some (.row [d])/\Pv h 4 (M.map ndC) d/\¬bR d nid/\M.map Prod.fst=L/\(∀m∈M,zAB h (wC m.1.kids) m.2)/\(∀(a b:Nat) m m' i,M[a]? =some m->M[b]? =some m'->sQ m.2 i->sQ m'.2 i->a=b)/\∀i,S i↔(i=nid\/bR d i\/∃m∈M,sQ m.2 i)
def Pv.row(o:Pv h sz xs d)(a:bR d i):i<h.next/\d=.rs i sz 0 xs.length/\h.at' i=some (.row xs.flatten):=by grind [Pv,bR]
def NdH.here{L:List Nd}(H:NdH nid L S h)(i:Nat)(c:S i):i<h.next:=by
 obtain⟨h0,d,M,h1,a,h3,f,h5,g,b⟩:=H;rcases(b i).1 c with rfl|q| ⟨m,e,q⟩
 .exact h0
 .exact(a.row q).1
 .exact((h5 m e).tok q).1
def NdH.loc{L:List Nd}(H:NdH nid L S h)(f:h.next<=h'.next)(c:∀i,S i->h'.at' i=h.at' i):NdH nid L S h':=by
 obtain⟨h0,d,M,h1,g,h3,j,h5,k,a⟩:=H;exact⟨ow,d,M,by rw[c _ ((a _).2 (.inl rfl))];exact h1,g.loc f λi b=>c i ((a i).2 (.inr (.inl b))),h3,j,λm e=>(h5 m e).loc f λi b=>c i ((a i).2 (.inr (.inr ⟨m,e,b⟩))),k,a⟩
def NdH.len{L:List Nd}(H:NdH nid L S h):∃d,h.at' nid=some (.row [d])/\∀h',o5 prog 32 d h'=some (.int .i64 L.length):=by
 obtain⟨h0,d,M,h1,a,h3,rfl,h5,b,c⟩:=H;refine⟨d,h1,λh'=> ?_⟩;rw[zH];rcases a with⟨rfl,e⟩ | ⟨id,rfl,_⟩
 .have:M= []:=by simpa using e
  subst this;exact wL (yg.nil (sz:=4)) underlying32
 .simp_all [oC,zH]
def NdH.app{L:List Nd}(H:NdH nid L S h)(v:Int)(o:Option Vio)(J:L.length<1048576):
  ∃d,h.at' nid=some (.row [d])/\(∀z,t6 d z h=h)/\∃r G t,qg prog true h.next 32 d (.sl 4 [ndC (⟨v,[],o⟩,.nilsl)] .full) h=some (r,G)/\yR prog 32 (.ptr nid 0) r G=some t/\G.at' nid=some (.row [d])/\(∀i,i<h.next->¬S i->G.at' i=h.at' i)/\∃S',NdH nid (L++ [⟨v,[],o⟩]) S' t/\(∀i,S' i->S i\/h.next<=i)/\But S h t:=by
 obtain⟨h0,d,M,h1,u,h3,rfl,h5,O,C⟩:=H;have k:(M.map ndC).length=M.length:=zH ..;rw[zH]at J;obtain⟨g,f,x,A⟩:=Pv.app (P:=prog) (nid:=h.next) (tk:=.full) u dT Dk lT ow (λcs=>pN underlying139) (dh M) (ys:=[ndC (⟨v,[],o⟩,.nilsl)]) (λy K=>by rw[zi.1 K];exact Hm _) jS (by rw[k,Kj];unfold lim;simp;omega) (by rw[k];unfold lim;simp;omega);have B:M.map ndC++ [ndC (⟨v,[],o⟩,.nilsl)]=(M++ [((⟨v,[],o⟩:Nd),D.nilsl)]).map ndC:=jS;rw[B]at f
 obtain⟨G,E,F,w,c⟩:∃G:Heap,g.new h.next (.row ((M++ [((⟨v,[],o⟩:Nd),D.nilsl)]).map ndC).flatten)=G/\G.next=h.next+1/\G.at' h.next=some (.row ((M++ [((⟨v,[],o⟩:Nd),D.nilsl)]).map ndC).flatten)/\∀i,i<h.next->¬bR d i->G.at' i=h.at' i:=
  ⟨_,rfl,by rw[<-x,za],z5 _ _ _,λi j s=>by rw[zg ow,A i s]⟩
 rw[E]at f;have l:G.at' nid=some (.row [d]):=by rw[c _ h0 h3,h1]
 have I:∀n:Nat,(M++ [((⟨v,[],o⟩:Nd),D.nilsl)]).map ndC≠[]:=λ_=>by simp
 refine⟨d,h1,u.trunc (dh M),_,G,G.set nid (.row [.rs h.next 4 0 ((M++ [((⟨v,[],o⟩:Nd),D.nilsl)]).map ndC).length]),f,by rw[yM l A1 jS rfl rfl];rfl,l,λi j s=>c i j λe=>s ((C _).2 (.inr (.inl e))),λi=>i=nid\/i=h.next\/∃m∈M,sQ m.2 i,⟨by rw[yc];omega,_,M++ [((⟨v,[],o⟩:Nd),D.nilsl)],zU _ _ _,.inr ⟨h.next,rfl,by rw[zW ow];exact w,by rw[yc];omega,I 0⟩,λe=>by cases e;omega,jS,λm p=> ?_,λa b m Q i e1 e2 t1 t2=> ?_,λi=> ?_⟩,λi j=> ?_,⟨by rw[yc];omega,λi j s=> ?_⟩⟩
 .rcases yv.1 p with q|q
  .refine(h5 m q).loc (by rw[yc];omega) λi j=> ?_
   obtain⟨t1,t2⟩:=(h5 m q).tok j;have N:i≠nid:=by grind
   rw[zW N,c i t1 λe=>by rw[(u.row e).2.2]at t2;cases t2]
  .rw[zi.1 q];exact⟨.inl ⟨rfl,rfl⟩,λ_=>rfl⟩
 .grind [sQ]
 .constructor
  .rintro(q|q| ⟨m,p,q⟩)
   .exact .inl q
   .exact .inr (.inl q)
   .grind
  .rintro(q|q| ⟨m,p,q⟩)
   .exact .inl q
   .exact .inr (.inl q)
   .rcases yv.1 p with h|h
    .grind
    .rw[zi.1 h]at q;exact q.elim
 all_goals grind [zW]
def NdH.kid{L:List Nd}(H:NdH nid L S h){a:Nat}{nd:Nd}(W:L[a]? =some nd)(n:Int)(hl:nd.kids.length<1048576):
  ∃f N,h.at' nid=some (.row [.rs f 4 0 N])/\nid<h.next/\f<h.next/\N=L.length/\∃cs J,h.at' f=some (.row cs)/\cs[a*4+1]? =some J/\∃g G z,qg prog false h.next 30 J (.sl 1 [[.int .i64 n]] .full) h=some (g,G)/\yR prog 30 (.ptr f (a*4+1)) g G=some z/\G.at' nid=some (.row [.rs f 4 0 N])/\G.at' f=some (.row cs)/\∃S',NdH nid (L.set a { nd with kids:=nd.kids++ [n] }) S' z/\(∀i,S' i->S i\/h.next<=i)/\But S h z:=by
 obtain⟨h0,d,M,h1,U,h3,rfl,h5,V,y⟩:=H;rw[zh]at W;obtain⟨m,r,rfl⟩:∃m,M[a]? =some m/\m.1=nd:=by grind
 have o:=zj r;have X:=(zK.1 r).1;rcases U with⟨rfl,e⟩ | ⟨f,rfl,r1,r2,r3⟩
 .have:M= []:=by simpa using e
  subst this;cases r
 have s:(M.map ndC)[a]? =some (ndC m):=by rw[zh,r];rfl
 obtain⟨g,G,e1,e2,e3,v,e5,R,T⟩:=(h5 m o).1.app4 (P:=prog) (x:=.sl 1 [[.int .i64 n]] .full) (ys:=wC [n]) qS ZQ uz ow aM (.inr ⟨by simp[wC],.full,rfl⟩) (by rw[wG,mV];unfold lim;simp[wC];omega) (by rw[wG];unfold lim;simp[wC];omega);have D:wC m.1.kids++wC [n]=wC (m.1.kids++ [n]):=by simp[wC]
 rw[D]at e2;have K:∀i O,h.at' i=some (.row O)->¬sQ m.2 i:=λi O e t=>by rw[((h5 m o).tok t).2]at e;cases e
 have F:G.at' nid=some (.row [.rs f 4 0 (M.map ndC).length]):=by rw[v _ h0 (K _ _ h1),h1]
 have w:G.at' f=some (.row (M.map ndC).flatten):=by rw[v _ r2 (K _ _ r1),r1]
 have E:nid≠f:=λe=>h3 e;have C:(M.map ndC).flatten.length=M.length*4:=by rw[uu (dh M),zH]
 have u:(M.map ndC).flatten.set (a*4+1) g=((M.set a ({ m.1 with kids:=m.1.kids++ [n] },g)).map ndC).flatten:=by
  rw[El (dh M) s ow,tN];rfl
 refine⟨f,_,h1,h0,r2,jS,(M.map ndC).flatten,m.2,r1,by rw[Ek (dh M) s ow];rfl,g,G,G.set f (.row ((M.set a ({ m.1 with kids:=m.1.kids++ [n] },g)).map ndC).flatten),e1,by rw[yM w zIo (by rw[C];omega) R T,u],F,w,λi=>i=nid\/i=f\/∃k∈M.set a ({ m.1 with kids:=m.1.kids++ [n] },g),sQ k.2 i,⟨by rw[yc];omega,_,M.set a ({ m.1 with kids:=m.1.kids++ [n] },g),by rw[zW E];exact F,.inr ⟨f,jS,zU _ _ _,by rw[yc];omega,by rw[tN];simpa using r3⟩,h3,by rw[tN],λk l=> ?_,λQ b' m1 m2 i q1 q2 t1 t2=> ?_,λi=>Iff.rfl⟩,λi j=> ?_,⟨by rw[yc];exact e3,λi j I=> ?_⟩⟩
 .rcases sO l with q|rfl
  .obtain⟨b,Y,rfl⟩:=zy.1 l
   rw[List.getElem_set]at q⊢;split
   .exact⟨e2.loc (by rw[yc];exact zD _) λi j=>(by rw[zW λe=>by have:=(e2.tok j).2;rw[e,w]at this;cases this]),λe=>(by simp[wC]at e)⟩
   .rename_i A
    have B:b<M.length:=by simpa using Y
    have p:M[b]∈M:=zI _;refine(h5 _ p).loc (by rw[yc];exact e3) λi j=> ?_;obtain⟨t1,t2⟩:=(h5 _ p).tok j;rw[zW (λe=>by rw[e,r1]at t2;cases t2),v i t1 λt=>A (V a b m _ i r (zB B) t j)]
  .exact⟨e2.loc (by rw[yc];exact zD _) λi j=>(by rw[zW λe=>by have:=(e2.tok j).2;rw[e,w]at this;cases this]),λe=>(by simp[wC]at e)⟩
 .have key:∀(c:Nat) k,(M.set a ({ m.1 with kids:=m.1.kids++ [n] },g))[c]? =some k->sQ k.2 i->(c=a/\h.next<=i)\/(c≠a/\M[c]? =some k/\i<h.next):=λc k e t=>by
   rw[pI]at e;split at e
   .grind
   .rename_i q
    exact .inr ⟨λe=>q e.symm,e,((h5 k (zj e)).tok t).1⟩
  rcases key Q m1 q1 t1 with⟨k1,k2⟩ | ⟨k1,k2,k3⟩ <;>rcases key b' m2 q2 t2 with⟨Z,l2⟩ | ⟨Z,l2,l3⟩
  all_goals grind
 .rcases j with rfl|rfl| ⟨k,l,t⟩
  .exact .inl ((y _).2 (.inl rfl))
  .exact .inl ((y _).2 (.inr (.inl rfl)))
  .grind
 .rw[zW (λe=>I ((y _).2 (.inr (.inl e)))),v i j λt=>I ((y _).2 (.inr (.inr ⟨m,o,t⟩)))]
abbrev Bs(p:Part):D:=.agg [tsD p,owD p]
theorem Qp(f:Nat->Nat->List Nd):∀k n,(ug f k n).1.length=k
 |0,_=>rfl
 |k+1,n=>by rw[ug,zS,Qp f k n];rfl
def JI(f:Nat->Nat->List Nd)(n:Nat):∀{k m:Nat},k<=m->(ug f k n).2.length<=(ug f m n).2.length:=λ{k m} h=>by
 induction m with
 |zero=>rw[Nat.le_zero.1 h];exact zD _
 |succ m a=>
  rcases Nat.lt_or_eq_of_le h with q|rfl
  .refine zY (a ow) ?_
   rw[ug,zS];omega
  .exact zD _
section
variable{c:Cat}{fs:List Fac}{ca cb ce cp x td od:D}
def POk.alt(S:SpD c fs ca cb ce cp x td od)(b:POk c fs p):∀t∈p.ts,t.length<=64:=λt e=>by
 obtain⟨i,a,rfl⟩:=zy.1 e;rcases b.t i _ (zB a)with q|q
 .rw[q];exact yD _
 .have f:i<(tV c fs).length:=by rw[<-b.tl];exact a
  have d:(tV c fs).getD i []∈tV c fs:=by rw[zC,zB f];exact zI _
  exact((S.t64 _ d).2.ts _ q).2
def POk.cin(S:SpD c fs ca cb ce cp x td od)(b:POk c fs p):CIn c fs (oP p) (.agg [ca,cb,ce,cp]) x (Bs p):=
 ⟨S.cat,S.sm,S.x,by have:=S.few.1.2;omega,S.few.1.1,S.ok,⟨_,_,rfl,yg.mk .no,yg.mk .no⟩,⟨by have:=S.tl;have:=b.tl;show(p.ts.map kJ).length<=_;rw[zH];omega,by have:=S.ol;have:=b.ol;show p.own.length<=_;omega,λa d=>by
  obtain⟨t,e,rfl⟩:=zN.1 d;exact⟨by rw[ZY];exact J3 t,by rw[ZY];have:=b.alt S t e;omega⟩⟩⟩
def POk.err(S:SpD c fs ca cb ce cp x td od)(b:POk c fs p):qP c fs (oP p) true=0:=by
 have h1:(oP p).ts.length=(tV c fs).length:=by show(p.ts.map kJ).length=_;rw[zH,b.tl]
 have e:(oP p).own.length=(oV c fs).length:=b.ol;have e1:gI (mN (tV c fs) (oP p).ts true) (oP p).ts.length=0:=tg λi a=>by
  rw[h1,<-b.tl]at a;unfold mN
  have:(oP p).ts[i]? =some (kJ p.ts[i]):=by show(p.ts.map kJ)[i]? =_;rw[zh,zB a];rfl
  rw[this];simp only[ZY];rcases b.t i _ (zB a)with q|q
  .rw[q];rfl
  .split
   .rfl
   .rw[iq]
    simp only[qH,pG,qF];simpa using⟨_,q,(ly _ _).2 rfl⟩
 have e2:gI (Ps c (oP p).own true) (oP p).own.length=0:=tg λi a=>by
  unfold Ps;have d:(oP p).own[i]∈p.own:=zI a;rw[zB a];generalize(oP p).own[i]=s at d;rcases b.o s d with q| ⟨y,f,q⟩
  .rw[q];rfl
  .split
   .rename_i h;cases h
   .rename_i h
    cases h;split
    .rfl
    .rw[iq]
     simp only[qH,pG,qF];simpa using⟨y,f,q⟩
 unfold qP;rw[iq (by rw[S.v0];decide),iq (by rw[h1,e];unfold tV oV;simp),iq (by rw[show gI (mN (yV c fs).1 (oP p).ts true) (oP p).ts.length=0 from e1];decide)]
 exact e2
def zGN(S:SpD c fs ca cb ce cp x td od)(a:POk c fs p):YY c fs (oP p)=.tuple [.agg (KK (Yu c fs p)),.bool (Yu c fs p).isSome,.int .i64 0]:=by
 unfold YY;rw[a.err S,XY];unfold Yu vcs;cases pW c fs (oP p)<;>rfl
end
abbrev vfN(yid nid vid:Nat)(sp:List D):D:=.fn (.func 89) [] [.iptr [.ptr nid 0] 0,.iptr [.iptr sp 0] 0,.iptr [.yld yid] 0,.ptr vid 0]
abbrev elP(Lw:List Part)(k:Nat):List D:=[Bs (Lw.getD k ⟨[],[]⟩)]
def zJU(Y:Nat->(Nat->Prop)->Heap->Prop)(Z:(Nat->Prop)->Heap->Prop)(nid:Nat)(S1 S2:Nat->Prop)(h:Heap)(k:Nat)(L:List Nd)(r:D)(h':Heap):Prop:=
 ∃S1' S2',(∀i,S1' i->S1 i\/h.next<=i)/\(∀i,S2' i->S2 i\/h.next<=i)/\(∀i,S1' i->¬S2' i)/\But (λi=>S1 i\/S2 i) h h'/\((r=.bool true/\Y k S1' h'/\NdH nid L S2' h')\/(r=.bool false/\Z S1' h'/\∃L',NdH nid L' S2' h'))
variable{c:Cat}{fs:List Fac}
def jV{v:Vio}(e:Yu c fs p=some v)(m n:Nat):pX c fs m p= []/\pP c fs m p n= [⟨-1,[],some v⟩]:=by
 cases m<;>simp[pX,pP,e]
def VG(e:Yu c fs p=none)(e2:nxV c fs p=none)(m n:Nat):pX c fs m p= [p]/\pP c fs m p n= []:=by
 cases m<;>simp[pX,pP,e,e2]
def Heap.two(i j:Nat)(h:Heap):Heap:=⟨0,λk=>if k=i\/k=j then h.at' k else none⟩
def Gu(i j:Nat)(h:Heap):(Heap.two i j h).at' i=h.at' i:=ip (.inl rfl)
def Gv(i j:Nat)(h:Heap):(Heap.two i j h).at' j=h.at' j:=ip (.inr rfl)
def Ta(h1:h'.at' i=h.at' i)(a:h'.at' j=h.at' j):HLe (Heap.two i j h) h':=λk b e=>by grind [Heap.two]
section
variable{c:Cat}{fs:List Fac}{ca cb ce cp x td od:D}
theorem ET(S:SpD c fs ca cb ce cp x td od){w nid vid:Nat}{Lw:List Part}{Y:Nat->(Nat->Prop)->Heap->Prop}{Z:(Nat->Prop)->Heap->Prop}(y:Yld prog w Lw.length (elP Lw) Y Z):∀(m:Nat)(p:Part),POk c fs p->opn c fs p<=m->∀k,(∀j q,(pX c fs m p)[j]? =some q->Lw[k+j]? =some q)->∀L S1 W h,Y k S1 h->NdH nid L W h->(∀i,S1 i->¬W i)->vid<h.next->¬S1 vid->¬W vid->h.at' vid=some (.row [vfN w nid vid [ca,cb,ce,cp,x,td,od]])->L.length+(pP c fs m p L.length).length<=1048576->zE prog 89 [Bs p,.iptr [.ptr nid 0] 0,.iptr [.iptr [ca,cb,ce,cp,x,td,od] 0] 0,.iptr [.yld w] 0,.ptr vid 0] h (zJU Y Z nid S1 W h (k+(pX c fs m p).length) (L++pP c fs m p L.length)):=by
 intro m
 induction m using Nat.strongRecOn with
 |ind m ih=>
 intro p hp hm k hk L S1 W h hY hN hd v0 v1 v2 hv hB;have de:∀h,HLe Heap.emp h:=λh i ob e=>by cases e
 have dr:yQ true 4 [ca,cb,ce,cp,x,td,od] 0=some (.agg [ca,cb,ce,cp]):=rfl;have u:=Kq (hp.cin S);rw[zGN S hp]at u;obtain⟨d,n1,n2⟩:=hN.len;refine xP λQ hQ=> ?_;cases e0:Yu c fs p with
 |some v=>
  obtain⟨T,U⟩:=jV e0 m L.length;rw[T,U]at hQ;rw[U]at hB;rw[e0]at u;simp only[KK,Vio.cells,Option.isSome]at u;have b7:yR prog 137 (.ptr h.next 0) (.agg [.int .i64 v.row,.sl 1 (wC v.facts) .no]) (h.new h.next (.row [.int .i64 0,.nilsl]))=some (h.new h.next (.row [.int .i64 v.row,.sl 1 (wC v.facts) .no])):=yo t5 ow rfl rfl rfl;have hb:qX prog 139 [(0,.int .i64 (-1)),(2,.agg [.int .i64 v.row,.sl 1 (wC v.facts) .no])]=some (.agg (ndC (⟨-1,[],some v⟩,.nilsl))):=by
   simp[qX,Wi,ZP,uc,wg,ndC,KK,Vio.cells,D.cells,D.notTuple]
  have b0:∀nid H,yA prog false nid 32 1 [(0,.agg (ndC (⟨-1,[],some v⟩,.nilsl)))] H=some (.sl 4 [ndC (⟨-1,[],some v⟩,.nilsl)] .full,H):=λnid H=>qD (x:=.agg (ndC (⟨-1,[],some v⟩,.nilsl))) dT ZP lT rfl rfl ow ow rfl rfl;obtain⟨G,hG,hE,bs,c2⟩:∃G:Heap,h.new h.next (.row [.int .i64 v.row,.sl 1 (wC v.facts) .no])=G/\Ext h G/\G.next=h.next+1/\G.at' h.next=some (.row [.int .i64 v.row,.sl 1 (wC v.facts) .no]):=⟨_,rfl,(Ext.refl h).new (zD _) _,za _ _,z5 _ _ _⟩;rw[hG]at b7;have A:=hN.loc hE.1 λi o=>hE.2 i (hN.here i o)
  obtain⟨d',a1,a2,r,G1,G2,a3,a4,b1,b2,J,a5,a6,X⟩:=A.app (-1) (some v) (by simp at hB;omega);rw[bs]at a3;have z:=y.ext hY hE;have ad:Q (.bool true) G2:=hQ _ _ ⟨S1,J,λi o=>.inl o,λi o=>(a6 i o).imp id λq=>by omega,λi h1 O=>by
   rcases a6 i O with q|q
   .exact hd i h1 q
   .have:=y.here _ _ _ hY i h1;omega,(hE.but _).trans ⟨X.1,λi o hn=>X.2 i o λq=>hn (.inr q)⟩ λi o=>.inl o,.inl ⟨rfl,y.loc _ _ _ _ z X.1 λi o=>X.2 i (by have:=y.here _ _ _ z i o;omega) (hd i o),a5⟩⟩
  have C:HLe (Heap.two nid h.next G) G:=Ta rfl rfl;have ag:HLe (Heap.two nid h.next G) G1:=Ta (by rw[b1,a1]) (b2 _ ow λq=>wK _ (hN.here _ q));have t1:(Heap.two nid h.next G).at' nid=some (.row [d']):=by rw[Gu];exact a1
  have t2:(Heap.two nid h.next G).at' h.next=some (.row [.int .i64 v.row,.sl 1 (wC v.facts) .no]):=by rw[Gv];exact c2
  clear hQ hY hN hd v0 v1 v2 hv hB T U e0 hk hm ih A z hG a5 a6 X b1 b2;refine zo zJr ?_;simp only[f89,zA]
  repeat' first|simp only[go_sem, *]|apply bc<;>intro B
  refine yp Heap.emp ((0,.st,true)::((4,.st,true)::((8,.st,true)::(pwt [1,2] ((3,.st,true)::(pwt [5,6] ((7,.st,true)::((9,.st,true)::(pwt [10,11,12,13,14,15,16,17] []))))))))) kr kr (λi ob e=>by cases e) ?_
  repeat' first|simp only[go_sem, *]|apply bc<;>intro B
  refine kS _ (λH=>u H) ?_
  repeat' first|simp only[go_sem, *]|apply bc<;>intro B
  refine yp (Heap.two nid h.next G) ((0,.st,true)::(pwt [1,4,2,3,5,6,7,8] (pwf [9] []))) kr kr C ?_
  repeat' first|simp only[go_sem, *]|apply bc<;>intro B
 |none=>
  rw[e0]at u;simp only[KK,Option.isSome]at u;have M:=zAl S hp;have b7:yR prog 137 (.ptr h.next 0) (.agg [.int .i64 0,.nilsl]) (h.new h.next (.row [.int .i64 0,.nilsl]))=some (h.new h.next (.row [.int .i64 0,.nilsl])):=yo t5 ow rfl rfl rfl;obtain⟨G,hG,hE,bs⟩:∃G:Heap,h.new h.next (.row [.int .i64 0,.nilsl])=G/\Ext h G/\G.next=h.next+1:=⟨_,rfl,(Ext.refl h).new (zD _) _,za _ _⟩;rw[hG]at b7;have z:=y.ext hY hE;have A:=hN.loc hE.1 λi o=>hE.2 i (hN.here i o);cases e1:nxV c fs p with
  |none=>
   obtain⟨T,U⟩:=VG e0 e1 m L.length;rw[T,U,yC]at hQ;rw[T]at hk;rw[e1]at M;have b6:Lw[k]? =some p:=hk 0 p rfl;have b5:=(zK.1 b6).1;have b4:=y.go k S1 G b5 z;rw[elP,zC,b6,zA]at b4;have ad:∀r h',(∃S',(∀i,S' i->S1 i\/G.next<=i)/\But S1 G h'/\((r=.bool true/\Y (k+1) S' h')\/(r=.bool false/\Z S' h')))->Q r h':=by
    rintro r h' ⟨S',q1,q2,q3⟩;refine hQ _ _ ⟨S',W,λi o=>(q1 i o).imp id λq=>by omega,λi o=>.inl o,λi h1 O=> ?_,(hE.but _).trans ⟨q2.1,λi o hn=>q2.2 i o λq=>hn (.inl q)⟩ λi o=>.inl o,?_⟩
    .rcases q1 i h1 with q|q
     .exact hd i q O
     .have:=hN.here i O;omega
    .have ck:=A.loc q2.1 λi o=>q2.2 i (A.here i o) λq=>hd i q o
     rcases q3 with⟨rfl,q⟩ | ⟨rfl,q⟩
     .exact .inl ⟨rfl,q,ck⟩
     .exact .inr ⟨rfl,q,_,ck⟩
   clear hQ hY hN hd v0 v1 v2 hv hB T U e0 e1 hk b6 b5 hm ih A z;refine zo zJr ?_;simp only[f89,zA]
   repeat' first|simp only[go_sem, *]|apply bc<;>intro B
   refine yp Heap.emp ((0,.st,true)::((4,.st,true)::((8,.st,true)::(pwt [1,2] ((3,.st,true)::(pwt [5,6] ((7,.st,true)::((9,.st,true)::(pwt [10,11,12,13,14,15,16,17] []))))))))) kr kr (λi ob e=>by cases e) ?_
   repeat' first|simp only[go_sem, *]|apply bc<;>intro B
   refine kS _ (λH=>u H) ?_
   repeat' first|simp only[go_sem, *]|apply bc<;>intro B|(refine zE.mono (M _) ?_;rintro r h ⟨hq,rfl⟩)
   subst hq
   repeat' first|simp only[go_sem, *]|apply bc<;>intro B
   refine b4.mono λr h' hq=> ?_;have hq:=ad r h' hq;clear ad b4
   repeat' first|simp only[go_sem, *]|apply bc<;>intro B
  |some v=>
   obtain⟨b8,cw,_⟩:=l8 e1;obtain⟨E,rfl⟩:∃E,m=E+1:=⟨m-1,by
    have:0<opn c fs p:=z7.2 (List.ne_nil_of_mem (wO.2 ⟨yn.2 b8,cw⟩));omega⟩
   have T:pX c fs (E+1) p=(List.range (szV c fs v)).flatMap λk=>pX c fs E (pY c fs p v k):=by simp[pX,e0,e1]
   have U:∀n,pP c fs (E+1) p n= ⟨(v:Int),(ug (λk n'=>pP c fs E (pY c fs p v k) n') (szV c fs v) (n+1)).1,none⟩ ::(ug (λk n'=>pP c fs E (pY c fs p v k) n') (szV c fs v) (n+1)).2:=λn=>by simp[pP,e0,e1]
   rw[T,U]at hQ;rw[U,zu]at hB;rw[T]at hk;have ih:=ih E ow;have cu:=λi o=>We hp S.v0 (v:=v) (k:=i) e1 o;have dk:szV c fs v<=1048576:=by
    unfold szV;split
    .rename_i q
     have hm:(tV c fs).getD v []∈tV c fs:=by rw[zC,zB q];exact zI _
     have:=(S.t64 _ hm).1;omega
    .exact S.sm.ls.1
   generalize hF:(λk n'=>pP c fs E (pY c fs p v k) n')=F at *
   have bo:∀k n',pP c fs E (pY c fs p v k) n'=F k n':=λk n'=>by rw[<-hF]
   generalize hK:(λi=>jq (List.range (szV c fs v)) (λk=>pX c fs E (pY c fs p v k)) i)=K;have cc:K 0=0:=by rw[<-hK];exact Zj _ _
   have ch:∀i,i<szV c fs v->K (i+1)=K i+(pX c fs E (pY c fs p v i)).length:=λi o=>by rw[<-hK];exact lF (by simp[o])
   have cf:K (szV c fs v)=((List.range (szV c fs v)).flatMap λk=>pX c fs E (pY c fs p v k)).length:=by
    have:=aG (List.range (szV c fs v)) (λk=>pX c fs E (pY c fs p v k));rw[uA]at this;rw[<-hK];exact this
   have cg:∀i,i<szV c fs v->∀j q,(pX c fs E (pY c fs p v i))[j]? =some q->Lw[k+K i+j]? =some q:=λi o j q hj=>by
    have h1:=TU (l:=List.range (szV c fs v)) (f:=λk=>pX c fs E (pY c fs p v k)) (a:=i) (x:=i) (b:=j) (by simp[o]) (zK.1 hj).1;rw[qn];refine hk _ q ?_;rw[<-hK];exact h1.trans hj
   rw[<-cf]at hQ;rw[e1]at M;obtain⟨d',a1,a2,r,G1,G2,a3,a4,b1,b2,J,a5,a6,X⟩:=A.app (v:Int) none ow;rw[bs]at a3;have hb:qX prog 139 [(0,.int .i64 (v:Int))]=some (.agg (ndC (⟨(v:Int),[],none⟩,.nilsl))):=by
    simp[qX,Wi,ZP,uc,wg,ndC,KK,D.cells,D.notTuple]
   have b0:∀nid H,yA prog false nid 32 1 [(0,.agg (ndC (⟨(v:Int),[],none⟩,.nilsl)))] H=some (.sl 4 [ndC (⟨(v:Int),[],none⟩,.nilsl)] .full,H):=λnid H=>qD (x:=.agg (ndC (⟨(v:Int),[],none⟩,.nilsl))) dT ZP lT rfl rfl ow ow rfl rfl;have C:HLe (Heap.one nid (.row [d'])) G:=by rw[lH];exact a1
   have ag:HLe (Heap.one nid (.row [d'])) G1:=by rw[lH];exact b1
   obtain⟨I,hI⟩:∃I:Nat->Heap->Prop,∀i h',I i h'↔∃bk J,(∀i,bk i->S1 i\/h.next<=i)/\(∀i,J i->W i\/h.next<=i)/\(∀i,bk i->¬J i)/\But (λi=>S1 i\/W i) h h'/\Y (k+K i) bk h'/\NdH nid (L++ ⟨(v:Int),(ug F i (L.length+1)).1,none⟩ ::(ug F i (L.length+1)).2) J h':=⟨_,λ_ _=>Iff.rfl⟩;have bx:I 0 G2:=(hI _ _).2 ⟨S1,J,λi o=>.inl o,λi o=>(a6 i o).imp id λq=>by omega,λi h1 O=>by
    rcases a6 i O with q|q
    .exact hd i h1 q
    .have:=y.here _ _ _ hY i h1;omega,(hE.but _).trans ⟨X.1,λi o hn=>X.2 i o λq=>hn (.inr q)⟩ λi o=>.inl o,by rw[cc];exact y.loc _ _ _ _ z X.1 λi o=>X.2 i (by have:=y.here _ _ _ z i o;omega) (hd i o),a5⟩
   have R:∀h',I (szV c fs v) h'->Q (.bool true) h':=λh' q=>by
    obtain⟨T1,T2,q1,q2,q3,q4,q5,q6⟩:=(hI _ _).1 q;exact hQ _ _ ⟨T1,T2,q1,q2,q3,q4,.inl ⟨rfl,q5,q6⟩⟩
   have hR:∀i h',i<szV c fs v->I i h'->∃s N cs kd ak G3 V,h'.at' nid=some (.row [.rs s 4 0 N])/\h'.at' s=some (.row cs)/\cs[L.length*4+1]? =some kd/\L.length<N/\qg prog false h'.next 30 kd (.sl 1 [[.int .i64 (N:Int)]] .full) h'=some (ak,G3)/\yR prog 30 (.ptr s (L.length*4+1)) ak G3=some V/\G3.at' nid=some (.row [.rs s 4 0 N])/\G3.at' s=some (.row cs)/\V.at' vid=some (.row [vfN w nid vid [ca,cb,ce,cp,x,td,od]])/\zE prog 89 [Bs (pY c fs p v i),.iptr [.ptr nid 0] 0,.iptr [.iptr [ca,cb,ce,cp,x,td,od] 0] 0,.iptr [.yld w] 0,.ptr vid 0] V λr O=>(r=.bool true/\I (i+1) O)\/(r=.bool false/\Q (.bool false) O):=λi h' o q=>by
    obtain⟨T1,T2,q1,q2,q3,q4,q5,q6⟩:=(hI _ _).1 q;have b5:=Qp F i (L.length+1);have db:=JI F (L.length+1) (k:=i+1) (m:=szV c fs v) o;have dd:(ug F (i+1) (L.length+1)).2.length=(ug F i (L.length+1)).2.length+(F i (L.length+1+(ug F i (L.length+1)).2.length)).length:=by rw[ug,zS]
    have c7:ug F (i+1) (L.length+1)=((ug F i (L.length+1)).1++ [((L.length+1+(ug F i (L.length+1)).2.length:Nat):Int)],(ug F i (L.length+1)).2++F i (L.length+1+(ug F i (L.length+1)).2.length)):=by rw[ug]
    generalize ug F i (L.length+1)=KN at *
    obtain⟨ks,rest⟩:=KN;simp only at *
    have c3:(L++ ⟨(v:Int),ks,none⟩ ::rest).length=L.length+1+rest.length:=by rw[zS,zu];omega
    obtain⟨s,N,r1,r2,r3,r4,cs,kd,r5,r6,ak,G3,V,r7,r8,r9,r10,S3,r11,r12,r13⟩:=q6.kid (a:=L.length) (nd:=⟨(v:Int),ks,none⟩) jS ((L.length+1+rest.length:Nat):Int) (by show ks.length<_;omega);rw[c3]at r4;subst r4;have cv:(L++ ⟨(v:Int),ks,none⟩ ::rest).set L.length ⟨(v:Int),ks++ [((L.length+1+rest.length:Nat):Int)],none⟩ =L++ ⟨(v:Int),ks++ [((L.length+1+rest.length:Nat):Int)],none⟩ ::rest:=by
     rw[gh _ _ (zD _),lv];rfl
    simp only[cv]at r11;have b9:¬T1 vid/\¬T2 vid:=⟨λe=>(q1 vid e).elim v1 ow,λe=>(q2 vid e).elim v2 ow⟩;have da:h'.at' vid=some (.row [vfN w nid vid [ca,cb,ce,cp,x,td,od]]):=by rw[q4.2 vid v0 (λe=>e.elim v1 v2)];exact hv
    have cx:vid<h'.next:=zl v0 q4.1;have bb:V.at' vid=some (.row [vfN w nid vid [ca,cb,ce,cp,x,td,od]]):=by rw[r13.2 vid cx b9.2];exact da
    have c4:Y (k+K i) T1 V:=y.loc _ _ _ _ q5 r13.1 λi o=>r13.2 i (y.here _ _ _ q5 i o) (q3 i o);have c5:∀i,T1 i->¬S3 i:=λi h1 O=>by
     rcases r12 i O with q|q
     .exact q3 i h1 q
     .have:=y.here _ _ _ q5 i h1;omega
    refine⟨s,_,cs,kd,ak,G3,V,r1,r5,r6,ow,r7,r8,r9,r10,bb,?_⟩;have a9:(L++ ⟨(v:Int),ks++ [((L.length+1+rest.length:Nat):Int)],none⟩ ::rest).length=L.length+1+rest.length:=by rw[zS,zu];omega
    have t:=ih (pY c fs p v i) (hp.dec o) (by have:=cu i o;omega) (k+K i) (cg i o) _ T1 S3 V c4 r11 c5 (zl cx r13.1) b9.1 (λe=>(r12 vid e).elim b9.2 ow) bb (by rw[a9,bo];omega);rw[a9,bo]at t;refine t.mono ?_;rintro r O ⟨U1,U2,u1,u2,u3,u4,u5⟩;have ai:∀i,U1 i->S1 i\/h.next<=i:=λi o=>by
     rcases u1 i o with q|q
     .exact q1 i q
     .have:=r13.1;have:=q4.1;exact .inr ow
    have aj:∀i,U2 i->W i\/h.next<=i:=λi o=>by
     have e1:=r13.1;have e2:=q4.1;rcases u2 i o with q|q
     .rcases r12 i q with q|q
      .exact q2 i q
      .exact .inr ow
     .exact .inr ow
    have ba:But (λi=>S1 i\/W i) h O:=by
     have e1:=r13.1;have e2:=q4.1;have b1:But (λi=>S1 i\/W i) h V:=q4.trans r13 λi o=>(q2 i o).imp .inr id;refine b1.trans u4 λi o=> ?_;rcases o with q|q
     .exact(q1 i q).imp .inl id
     .rcases r12 i q with q|q
      .exact(q2 i q).imp .inr id
      .exact .inr ow
    rcases u5 with⟨rfl,T,U⟩ | ⟨rfl,T,L',U⟩
    .refine .inl ⟨rfl,(hI _ _).2 ⟨U1,U2,ai,aj,u3,ba,by rw[ch i o,<-qn];exact T,?_⟩⟩
     rw[c7];simpa using U
    .exact .inr ⟨rfl,hQ _ _ ⟨U1,U2,ai,aj,u3,ba,.inr ⟨rfl,T,L',U⟩⟩⟩
   have a8:=TK S v;have a0:=λi o g=>Xs (t1:=.no) (t2:=.no) S hp (v:=v) (k:=i) b8 o g;clear a5 a6 X b1 b2 z A hE hQ hY hN hd v0 v1 v2 hv hB T U e0 e1 hk hm ih cu ch cc cf cg bo hI b8 cw;refine zo zJr ?_;simp only[f89,zA]
   repeat' first|simp only[go_sem, *]|apply bc<;>intro B
   refine yp Heap.emp ((0,.st,true)::((4,.st,true)::((8,.st,true)::(pwt [1,2] ((3,.st,true)::(pwt [5,6] ((7,.st,true)::((9,.st,true)::(pwt [10,11,12,13,14,15,16,17] []))))))))) kr kr (λi ob e=>by cases e) ?_
   repeat' first|simp only[go_sem, *]|apply bc<;>intro B
   refine kS _ (λH=>u H) ?_
   repeat' first|simp only[go_sem, *]|apply bc<;>intro B|(refine zE.mono (M _) ?_;rintro r h ⟨hq,rfl⟩)
   subst hq
   repeat' first|simp only[go_sem, *]|apply bc<;>intro B
   refine yp (Heap.one nid (.row [d'])) ((0,.st,true)::(pwt [1,2,3,4,5,6,7,8] (pwf [9] []))) kr kr C ?_
   repeat' first|simp only[go_sem, *]|apply bc<;>intro B|(refine zE.mono (a8 _) ?_;rintro r h ⟨hq,rfl⟩)
   subst hq;refine zZ (λi fr h'=>fr 1=.iptr [.ptr nid 0] 0/\fr 2=.iptr [.iptr [ca,cb,ce,cp,x,td,od] 0] 0/\fr 3=.iptr [.yld w] 0/\fr 4=.ptr vid 0/\fr 5=.iptr [tsD p,owD p] 0/\fr 7=.int .i64 (L.length:Int)/\fr 11=.int .i64 (v:Int)/\fr 64=.int .i64 (szV c fs v:Int)/\fr 65=.int .i64 (i:Int)/\I i h') (szV c fs v) ow ?_ ?_ ?_
   .clear R hR a0 a8 M u
    simp only[go_sem,zQ,zT,zG];exact bx
   .clear R u M a8 a1 a2 a3 a4 C ag bx n1 n2
    rintro i fr h' cm ec ew ⟨f1,f2,f3,f4,f5,f7,c0,f64,c1,hI⟩;obtain⟨s,N,cs,kd,ak,G3,V,r1,r2,r3,r4,r5,r6,r7,r8,r9,t⟩:=hR i h' cm hI;have b3:=a0 i cm;have di:∀H,o5 prog 32 (.rs s 4 0 N) H=some (.int .i64 (N:Int)):=λH=>oC underlying32;have c6:=qG (P:=prog) (sz:=4) (id:=s) dT lT (k:=.i64) r4;have b0:∀nid H,yA prog false nid 30 1 [(0,.int .i64 (N:Int))] H=some (.sl 1 [[.int .i64 (N:Int)]] .full,H):=λnid H=>qD (x:=.int .i64 (N:Int)) qS s8 uz rfl rfl ow ow rfl rfl;have cl:HLe (Heap.two nid s h') h':=Ta rfl rfl;have c8:HLe (Heap.two nid s h') G3:=Ta (by rw[r7,r1]) (by rw[r8,r2])
    have t1:(Heap.two nid s h').at' nid=some (.row [.rs s 4 0 N]):=by rw[Gu];exact r1
    have t2:(Heap.two nid s h').at' s=some (.row cs):=by rw[Gv];exact r2
    have c9:HLe (Heap.one vid (.row [vfN w nid vid [ca,cb,ce,cp,x,td,od]])) V:=by rw[lH];exact r9
    clear hR a0 hI r4 r7 r8
    repeat' first|simp only[go_sem, *]|apply bc<;>intro B
    refine yp (Heap.two nid s h') ((0,.st,true)::(pwt [4,11,1] ((2,.st,true)::(pwt [3,5,6,7,8,9,10,12,13,14,15,16,17,18] (pwf [19] []))))) kr kr cl ?_
    repeat' first|simp only[go_sem, *]|apply bc<;>intro B
    refine yp (Heap.one vid (.row [vfN w nid vid [ca,cb,ce,cp,x,td,od]])) ((0,.st,true)::(pwt [1,2,3,4,5] (pwf [6,7] []))) kr kr c9 ?_;clear cl c8 r1 r2 r3 r5 r6 c6 b0 t1 t2
    repeat' first|simp only[go_sem,jJ, *]|apply bc<;>intro B|(refine zE.mono (b3 _) ?_;rintro r h ⟨hq,rfl⟩)
    subst hq
    repeat' first|simp only[go_sem, *]|apply bc<;>intro B
    refine t.mono ?_;rintro r O (⟨rfl,o⟩ | ⟨rfl,o⟩)
    .clear t b3
     exact au
    .clear t b3
     exact au
   .clear hR u M a8 a1 a2 a3 a4 C ag bx n1 n2 a0
    rintro fr h' ec ⟨f1,f2,f3,f4,f5,f7,c0,f64,c1,hI⟩;have hq:=R _ hI;clear R hI;exact au
end
def FE(sp:List D)(nid:Nat):D:=.fn (.func 88) [] [.iptr [.ptr nid 0] 0,.iptr [.iptr sp 0] 0]
def zAm(a:List D)(nid:Nat)(g:Heap):zE prog 43 [.iptr a 0,.ptr nid 0] g λr h'=>h'=g/\r=FE a nid:=by
 refine zo zPI ?_;simp only[f43,zA];simp only[go_sem,FE, *]
abbrev tQ(c:Cat)(fs:List Fac):List Part:=pX c fs (ctV c fs) (o6 c fs)
abbrev pn(c:Cat)(fs:List Fac):List Nd:=pP c fs (ctV c fs) (o6 c fs) 0
section
variable{c:Cat}{fs:List Fac}{ca cb ce cp x td od:D}
def EU(S:SpD c fs ca cb ce cp x td od)(C:(pn c fs).length<=1048576){a nid:Nat}{Y:Nat->(Nat->Prop)->Heap->Prop}{Z:(Nat->Prop)->Heap->Prop}(y:Yld prog a (tQ c fs).length (elP (tQ c fs)) Y Z)(u:Y 0 U h)(m:NdH nid [] S0 h)(H:∀i,U i->¬S0 i):
  zE prog 88 [.yld a,.iptr [.ptr nid 0] 0,.iptr [.iptr [ca,cb,ce,cp,x,td,od] 0] 0] h λ_ h'=>∃r,zJU Y Z nid U S0 h (tQ c fs).length (pn c fs) r h':=by
 have p:=Im S;have F:∀(t:TypeId)(nid:Nat)(h:Heap),gx t nid h (some .nilfn)=some (.ptr nid 0,h.new nid (.row [.nilfn])):=λ_ _ _=>rfl;have s:yR prog 77 (.ptr h.next 0) (vfN a nid h.next [ca,cb,ce,cp,x,td,od]) (h.new h.next (.row [.nilfn]))=some (h.new h.next (.row [vfN a nid h.next [ca,cb,ce,cp,x,td,od]])):=yo zIq ow rfl rfl rfl;obtain⟨G,D,k,g,l⟩:∃G:Heap,h.new h.next (.row [vfN a nid h.next [ca,cb,ce,cp,x,td,od]])=G/\Ext h G/\G.at' h.next=some (.row [vfN a nid h.next [ca,cb,ce,cp,x,td,od]])/\h.next<G.next:=⟨_,rfl,(Ext.refl h).new (zD _) _,z5 _ _ _,by rw[za];omega⟩;rw[D]at s
 have o:opn c fs (o6 c fs)<=ctV c fs:=by
  unfold opn;exact zY (wH _ _) jS
 have d:=ET S y (ctV c fs) (o6 c fs) (tj c fs _) o 0 (λj q e=>by rw[yP];exact e) [] U S0 G (y.ext u k) (m.loc k.1 λi f=>k.2 i (m.here i f)) H l (λe=>wK _ (y.here _ _ _ u _ e)) (λe=>wK _ (m.here _ e)) g (by simpa using C);have b:∀r h',zJU Y Z nid U S0 G (0+(pX c fs (ctV c fs) (o6 c fs)).length) ([]++pP c fs (ctV c fs) (o6 c fs) ([]:List Nd).length) r h'->zJU Y Z nid U S0 h (tQ c fs).length (pn c fs) r h':=by
  rintro r h' ⟨A,B,I,J,K,L,z⟩;rw[yP]at z;exact⟨A,B,λi f=>(I i f).imp id λq=>by omega,λi f=>(J i f).imp id λq=>by omega,K,(k.but _).trans L λi f=>.inl f,z⟩
 have n:HLe (Heap.one h.next (.row [vfN a nid h.next [ca,cb,ce,cp,x,td,od]])) G:=by rw[lH];exact g
 refine xP λQ E=> ?_;have b:=λr h' q=>E (.tuple []) h' ⟨r,b r h' q⟩;refine zo zPW ?_;simp only[f88,zA]
 repeat' first|simp only[go_sem, *]|apply bc<;>intro v
 refine yp (Heap.one h.next (.row [vfN a nid h.next [ca,cb,ce,cp,x,td,od]])) ((0,.st,true)::(pwt [1,2] (pwf [3] []))) kr kr n ?_
 repeat' first|simp only[go_sem,jJ, *]|apply bc<;>intro v|(refine zE.mono (p _) ?_;rintro r h ⟨w,rfl⟩)
 subst w
 repeat' first|simp only[go_sem, *]|apply bc<;>intro v
 refine d.mono λr h' q=> ?_;have w:=b r h' q;exact au
end
structure NdI where
 var:Int
 kids:List Int
 row:Int
 facts:List Int
def zJQ(n:NdI)(cs:List D):Prop:=∃kd fd,cs= [.int .i64 n.var,kd,.int .i64 n.row,fd]/\yg 1 (wC n.kids) kd/\yg 1 (wC n.facts) fd
def ga(ns:List NdI)(d:D):Prop:=∃xs,yg 4 xs d/\xs.length=ns.length/\∀(i:Nat) n,ns[i]? =some n->∃cs,xs[i]? =some cs/\zJQ n cs
protected def Nd.i(n:Nd):NdI:=⟨n.var,n.kids,(n.vio.map Vio.row).getD 0,(n.vio.map Vio.facts).getD []⟩
def tsF(q:Part):D:=if q.ts= []then .nilsl else tsD q
def owF(q:Part):D:=if q.own= []then .nilsl else owD q
def zDn(c:Cat)(fs:List Fac)(r:D):Prop:=(yq c fs≠0/\r=.tuple [.agg [.bool false,.nilsl,.nilsl,.nilsl],.int .i64 (yq c fs)])\/(yq c fs=0/\((∃q,(tQ c fs).head? =some q/\r=.tuple [.agg [.bool true,tsF q,owF q,.nilsl],.int .i64 0])\/(tQ c fs= []/\∃rd,ga ((pn c fs).map Nd.i) rd/\r=.tuple [.agg [.bool false,.nilsl,.nilsl,rd],.int .i64 0])))
def FV(ks:List Int):D:=if ks= []then .nilsl else .sl 1 (wC ks) .no
def ndF(nd:Nd):List D:=.int .i64 nd.var::FV nd.kids::KK nd.vio
def zCF(L:List Nd):D:=if L= []then .nilsl else .sl 4 (L.map ndF) .no
def Jx(c:Cat)(fs:List Fac):D:=if yq c fs=0 then(match(tQ c fs).head? with
 |some q=>.tuple [.agg [.bool true,tsF q,owF q,.nilsl],.int .i64 0]
 |none=>.tuple [.agg [.bool false,.nilsl,.nilsl,zCF (pn c fs)],.int .i64 0])else .tuple [.agg [.bool false,.nilsl,.nilsl,.nilsl],.int .i64 (yq c fs)]
def HY(ks:List Int):yg 1 (wC ks) (FV ks):=by
 unfold FV;split
 .rename_i e;rw[e];exact yg.nil
 .exact yg.mk .no
def GI(L:List Nd):ga (L.map Nd.i) (zCF L):=by
 have a:∀nd:Nd,zJQ nd.i (ndF nd):=λ⟨v,ks,o⟩=>by
  cases o with
  |none=>exact⟨_,.nilsl,rfl,HY ks,yg.nil⟩
  |some w=>exact⟨_,_,rfl,HY ks,yg.mk .no⟩
 unfold zCF;split
 .rename_i e;subst e;exact⟨[],yg.nil,rfl,λi n e=>by simp at e⟩
 .refine⟨L.map ndF,yg.mk .no,jS,λi n e=> ?_⟩
  rw[zh]at e⊢;cases q:L[i]? with
  |none=>rw[q]at e;cases e
  |some nd=>rw[q]at e;cases e;exact⟨_,rfl,a nd⟩
variable{c:Cat}{fs:List Fac}
def zDn.of{r:D}(h:r=Jx c fs):zDn c fs r:=by
 unfold Jx at h;split at h
 .rename_i a
  split at h
  .rename_i q e;exact .inr ⟨a,.inl ⟨q,e,h⟩⟩
  .rename_i e;exact .inr ⟨a,.inr ⟨to.1 e,_,GI _,h⟩⟩
 .rename_i a;exact .inl ⟨a,h⟩
theorem Q7:∀{M:List (Nd×D)},(∀m∈M,zAB h (wC m.1.kids) m.2)->nC 0 (oJ (M.map ndC))/\oJ (M.map ndC)=(M.map Prod.fst).map ndF
 | [],_=>⟨trivial,rfl⟩
 |m::M,b=>by
  obtain⟨h1,g⟩:=Q7 λj i=>b j (yG _ i);obtain⟨o1,o2⟩:=b m qZ;obtain⟨k1,k2⟩:=o1.fin tU;have a:qC m.2=FV m.1.kids:=by
   unfold FV;split
   .rename_i e;rw[o2 (by rw[e];rfl)];rfl
   .rename_i e
    rcases k2 with⟨_,q⟩ |q
    .exact absurd (ue.1 q) e
    .exact q
  have f:qW (KK m.1.vio)=KK m.1.vio/\qM 0 (KK m.1.vio):=by
   obtain⟨⟨v,ks,o⟩,d⟩:=m;cases o with
   |none=>exact⟨rfl,trivial,trivial,trivial⟩
   |some v=>
    have c:=yh (sz:=1) (xs:=wC v.facts) tU .no;refine⟨?_,trivial,c.2,trivial⟩;show [qC _,qC _]=_;rw[c.1];rfl
  have e1:qW (ndC m)=ndF m.1:=by
   show qC _::qC _::qW (KK m.1.vio)=_;rw[f.1,a];rfl
  refine⟨⟨?_,h1⟩,?_⟩
  .rw[e1,ndF,<-a];exact⟨trivial,k1,f.2⟩
  .show qW (ndC m)::oJ (M.map ndC)=_
   rw[e1,g];rfl
def NdH.fin{L:List Nd}(H:NdH nid L S h)(r:Ext g h)(o:∀i,S i->g.next<=i){Q R:D->Heap->Prop}{mk:D->D}(f:∀id cs d,frz id cs (mk d)=mk (frz id cs d))(c:∀d,qC (mk d)=mk (qC d))(b:∀d,below 0 d->below 0 (mk d))
  (l:∀d h',Ext g h'->below g.next (qC (mk d))->qC d=zCF L->Q (mk d) h') (m:∀d h',(Q d h'\/∃id cs,h'.at' id=some (.row cs)/\Q (frz id cs d) (h'.del id))->R d h'):∃d,h.at' nid=some (.row [d])/\d.cells= [d]/\d.notTuple=true/\d.flat=true/\∀h',(∀i,S i->i≠nid->h'.at' i=h.at' i)->Ext g h'->R (mk d) h':=by
 obtain⟨h0,d,M,h1,n,h3,rfl,h5,q,k⟩:=H;obtain⟨k1,k2⟩:=Q7 h5;rcases n with⟨rfl,e⟩ | ⟨id,rfl,r1,r2,r3⟩
 .have:M= []:=by simpa using e
  subst this;exact⟨_,h1,rfl,rfl,rfl,λh' _ a=>m _ _ (.inl (l _ _ a (by rw[c];exact yw (yD _) _ (b _ trivial)) rfl))⟩
 .have hid:g.next<=id:=o id ((k id).2 (.inr (.inl rfl)))
  have j:M.map Prod.fst≠[]:=λe=>r3 (by rw[ue.1 e];rfl);refine⟨_,h1,rfl,rfl,rfl,λh' p a=>m _ _ (.inr ⟨id,_,by rw[p id ((k id).2 (.inr (.inl rfl))) (λe=>h3 (by rw[<-e];rfl))];exact r1,?_⟩)⟩;rw[f,Yb (dh M) rfl rfl];refine l _ _ (a.del hid) ?_ ?_
  .rw[c]
   exact yw (yD _) _ (b _ ⟨k1,trivial⟩)
  .unfold zCF
   rw[iq j,<-k2];rfl
def WSo(n k:Nat)(S:Nat->Prop)(h:Heap):Prop:=k=0/\n+1<h.next/\h.at' n=some (.row [.bool false,.nilsl,.nilsl,.nilsl])/\h.at' (n+1)=some (.row [.int .i64 0])/\∀i,S i↔(i=n\/i=n+1)
def VSo(c:Cat)(fs:List Fac)(n:Nat)(S:Nat->Prop)(h:Heap):Prop:=∃q,(tQ c fs).head? =some q/\n+1<h.next/\h.at' n=some (.row [.bool true,tsF q,owF q,.nilsl])/\h.at' (n+1)=some (.row [.int .i64 0])/\∀i,S i↔(i=n\/i=n+1)
def WSo.lcl(n:Nat):Lcl (WSo n):=by
 refine⟨λk S h y i a=> ?_,λk S h h' y c b=> ?_⟩
 all_goals grind [WSo]
def VSo.lcl(c:Cat)(fs:List Fac)(n:Nat):Lcl λ_=>VSo c fs n:=by
 refine⟨λk S h y i a=> ?_,λk S h h' y d b=> ?_⟩
 all_goals grind [VSo]
def NdH.lcl(nid:Nat)(L:List Nd):Lcl λ_=>NdH nid L:=⟨λk S h y=>y.here,λk S h h' y=>y.loc⟩
def NdHx.lcl(nid:Nat):Lcl λ_ S h=>∃L,NdH nid L S h:=⟨λk S h y=>by obtain⟨L,y⟩:=y;exact y.here,λk S h h' y b a=>by obtain⟨L,y⟩:=y;exact⟨L,y.loc b a⟩⟩
theorem QK{ca cb ce cp x:D}(hc:uL c (.agg [ca,cb,ce,cp]))(hs:c.Sm)(hx:yg 12 (nu fs) x)(hF:Dl fs)(b0:∀f∈fs,f.Ok)(hB:yq c fs=0->(pn c fs).length<=1048576)(g:Heap):
  zE prog 14 [.agg [ca,cb,ce,cp],x] g λr h'=>h'=g/\r=Jx c fs:=by
 refine xU kr λb8=>xS (zE.freezeOr ?_);refine xP λR hR=> ?_;have u:=Il hc hs hx hF b0;have ch:∀a b e p:D,yQ true 4 [a,b,e,p] 0=some (.agg [a,b,e,p]):=λa b e p=>zJ rfl ow;have b9:qX prog 49 []=some (.agg [.bool false,.nilsl,.nilsl,.nilsl]):=by simp[qX,dn,XU,uc,D.notTuple,D.cells]
 have U:∀(h:Heap) d,Ext g h->qC d=d->below 0 d->d=Jx c fs->R d h:=λh d hE e hb q=>hR _ _ (.inl ⟨hE,by rw[e];exact yw (yD _) _ hb,by rw[e];exact q⟩);obtain⟨n,hn⟩:∃n,g.next=n:=⟨_,rfl⟩;obtain⟨G,hG,T,g1,g2,hE⟩:∃G:Heap,(g.new n (.row [.bool false,.nilsl,.nilsl,.nilsl])).new (n+1) (.row [.int .i64 0])=G/\G.next=n+2/\G.at' n=some (.row [.bool false,.nilsl,.nilsl,.nilsl])/\G.at' (n+1)=some (.row [.int .i64 0])/\Ext g G:=
  ⟨_,rfl,by rw[<-hn,qQ _ (by rw[za];exact zD _)],by rw[zg ow,z5],z5 _ _ _,by rw[<-hn];exact((Ext.refl g).new (zD _) _).new ow _⟩
 have cg:(g.new n (.row [.bool false,.nilsl,.nilsl,.nilsl])).next=n+1:=by rw[<-hn];exact za _ _
 by_cases J:yq c fs=0
 case neg=>
  have z:(!(yq c fs==0))=true:=by simpa using J
  have s1:yR prog 49 (.ptr n 0) (.agg [.bool false,.nilsl,.nilsl,.nilsl]) G=some G:=by
   rw[qh g1 (by rw[KE];rfl) rfl jD rfl,uU g1]
  obtain⟨F,hF,f1,f2,a1⟩:∃F,G.set (n+1) (.row [.int .i64 (yq c fs)])=F/\F.at' n=some (.row [.bool false,.nilsl,.nilsl,.nilsl])/\F.at' (n+1)=some (.row [.int .i64 (yq c fs)])/\Ext g F:=⟨_,rfl,by rw[zW ow];exact g1,zU _ _ _,hE.set ow _⟩;have s2:yR prog 39 (.ptr (n+1) 0) (.int .i64 (yq c fs)) G=some F:=by
   rw[yM g2 aw jS rfl rfl,<-hF];rfl
  have o:=U F (.tuple [.agg [.bool false,.nilsl,.nilsl,.nilsl],.int .i64 (yq c fs)]) a1 rfl ⟨⟨trivial,trivial,trivial,trivial,trivial⟩,trivial,trivial⟩ (by unfold Jx;rw[iq J]);have u:∀g,zE prog 42 [.agg [ca,cb,ce,cp],x] g λr h'=>h'=g/\r=.tuple [.nilptr,.int .i64 (yq c fs)]:=λg=>(u g).mono λr h' q=>⟨q.1,by
   rcases q.2 with⟨_,e⟩ | ⟨e,_⟩
   .exact e
   .exact absurd e J⟩
  refine zo zLi ?_;simp only[f14,zA]
  repeat' first|simp only[go_sem, *]|apply bc<;>intro hc|(refine zE.mono (u _) ?_;rintro r h ⟨C,rfl⟩)
 case pos=>
 have hB:=hB J;have u:∀g,zE prog 42 [.agg [ca,cb,ce,cp],x] g λr h'=>h'=g/\∃td od,r=.tuple [.iptr [ca,cb,ce,cp,x,td,od] 0,.int .i64 0]/\SpD c fs ca cb ce cp x td od:=λg=>(u g).mono λr h' q=>⟨q.1,by
   rcases q.2 with⟨e,_⟩ | ⟨_,td,od,e,S,_⟩
   .exact absurd J e
   .exact⟨td,od,e,S⟩⟩
 obtain⟨H,hH,a2,h1,v,h3,O⟩:∃H:Heap,G.new (n+2) (.row [.nilsl])=H/\H.next=n+3/\H.at' n=some (.row [.bool false,.nilsl,.nilsl,.nilsl])/\H.at' (n+1)=some (.row [.int .i64 0])/\H.at' (n+2)=some (.row [.nilsl])/\Ext g H:=⟨_,rfl,by rw[<-T,za,T],by rw[zg ow];exact g1,by rw[zg ow];exact g2,z5 _ _ _,hE.new ow _⟩;refine zo zLi ?_;simp only[f14,zA]
 repeat' first|simp only[go_sem, *]|apply bc<;>intro
 refine(u _).mono ?_;rintro r k ⟨C,td,od,rfl,S⟩;subst C;have b7:=λg=>zAm [ca,cb,ce,cp,x,td,od] (n+2) g
 rename Heap=>G
 repeat' first|simp only[go_sem,FE, *]|apply bc<;>intro hc|(refine zE.mono (b7 _) ?_;rintro r h ⟨C,rfl⟩)
 subst C
 rename Heap=>H
 generalize hL:LRec.mk _ _ _ _ _ _ _=L;have b3:L.pending=none:=by rw[<-hL]
 have b4:L.st=.ready:=by rw[<-hL]
 have a6:WSo n 0 (λj=>j=n\/j=n+1) H:=⟨rfl,ow,h1,v,λ_=>Iff.rfl⟩;have a4:NdH (n+2) [] (λj=>j=n+2) H:=⟨ow,.nilsl,[],h3,.inl ⟨rfl,rfl⟩,λe=>e,rfl,(by intro m M;cases M),(by intro a b m m' i e;cases e),λi=>⟨λe=>.inl e,λe=>e.elim id λe=>e.elim (λe=>e.elim) λ⟨m,M,_⟩=>by cases M⟩⟩
 refine He (n:=(tQ c fs).length) (el:=elP (tQ c fs)) a2 (WSo.lcl n) (VSo.lcl c fs n) (NdH.lcl (n+2) []) (NdH.lcl (n+2) (pn c fs)) (NdHx.lcl (n+2)) b4 b3 a6 a4 (λi h1 v=>by rcases h1 with e|e<;>omega) (λyl bb a5 hd=>(EU S hB yl bb a5 hd).mono λr h' ⟨r',T1,T2,q1,q2,q3,q4,q5⟩=>⟨T1,T2,q1,q2,q3,q4,q5.imp (λq=>⟨q.2.1,q.2.2⟩) λq=>⟨q.2.1,q.2.2⟩⟩) ?_ ?_ ?_
 .intro k S0 h3 hk Z bs aj bx
  have bo:k=0:=aj.1;subst bo;obtain⟨q,C⟩:∃q,(tQ c fs).head? =some q:=by
   cases e:tQ c fs with
   |nil=>rw[e]at hk;exact absurd hk (wK _)
   |cons q l=>exact⟨q,rfl⟩
  have bk:(tQ c fs).getD 0 ⟨[],[]⟩ =q:=by
   rw[zC,<-tn,C];rfl
  simp only[elP,bk];have y:=bs;rw[<-hL]at y;obtain⟨m,M⟩:∃m,h3.next=m:=⟨_,rfl⟩;have E:yR prog 47 (.ptr m 0) (.agg [tsD q,owD q]) (h3.new m (.row [.nilsl,.nilsl]))=some (h3.new m (.row [tsD q,owD q])):=yo ay ow rfl rfl rfl;refine uC.round (g:=zPx) mix y rfl kr kr kr ?_;simp only[go_sem,M,E];refine⟨by rw[zg ow];exact y,?_⟩;generalize a0:LRec.mk .busy _ _ _ _ _ _=B;have a3:({ B with st:=.ready,pending:=none } :LRec)=L:=by rw[<-a0,<-hL]
  obtain⟨_,w1,w2,w3,N⟩:=aj;obtain⟨s,a7,W,V,a8,a9,ba,K⟩:∃s:D->D->Heap,((h3.new m (.row [tsD q,owD q])).set (n+3) (.loop B))=s (tsD q) (owD q)/\(∀a b,(s a b).next=m+1)/\(∀a b,(s a b).at' m=some (.row [a,b]))/\(∀a b,(s a b).at' n=some (.row [.bool false,.nilsl,.nilsl,.nilsl]))/\(∀a b,(s a b).at' (n+1)=some (.row [.int .i64 0]))/\(∀a b,(s a b).at' (n+3)=some (.loop B))/\((∀a b a' b',(s a b).set m (.row [a',b'])=s a' b')/\∀a b,But (λi=>i=n+3) h3 (s a b)):=by
   refine⟨λa b=>((h3.new m (.row [tsD q,owD q])).set (n+3) (.loop B)).set m (.row [a,b]),?_,λa b=>by rw[yc,yc,<-M];exact za _ _,λa b=>zU _ _ _,λa b=>by rw[zW ow,zW ow,zg ow];exact w2,λa b=>by rw[zW ow,zW ow,zg ow];exact w3,λa b=>by rw[zW ow,zU],λa b a' b'=>nU _ _ _ _,λa b=>⟨by rw[yc,yc,<-M,za];omega,λi I hn=>by rw[zW ow,zW hn,zg ow]⟩⟩;exact(uU (by rw[zW ow,z5])).symm
  obtain⟨X,K⟩:=K;rw[a7];have s1:∀a b,yR prog 44 (.ptr m 0) .nilsl (s a b)=some (s .nilsl b):=λa b=>by
   rw[yM (V a b) ax jS rfl rfl];exact congrArg some (X _ _ _ _)
  have s2:∀a b,yR prog 45 (.ptr m 1) .nilsl (s a b)=some (s a .nilsl):=λa b=>by
   rw[yM (V a b) KD jS rfl rfl];exact congrArg some (X _ _ _ _)
  have cc:∀h,o5 prog 44 (tsD q) h=some (.int .i64 (q.ts.length:Int)):=λh=>by
   have:=tA (l:=q.ts.map kJ) (d:=tsD q) (yg.mk .no) h
   rwa [zH]at this
  have cf:∀h,o5 prog 45 (owD q) h=some (.int .i64 (q.own.length:Int)):=λh=>wU (l:=q.own) (d:=owD q) (yg.mk .no) h;have b6:∀a b:D,qX prog 49 [(0,.bool true),(1,.agg [a,b])]=some (.agg [.bool true,a,b,.nilsl]):=λa b=>by simp[qX,dn,XU,uc,wg,D.notTuple,D.cells]
  have o:∀fr,rH (LpZ (n+3) L (WSo n) (VSo c fs n) 0 S0 h3) (n+3) .ret fr (((s (tsF q) (owF q)).set n (.row [.bool true,tsF q,owF q,.nilsl])).set (n+1) (.row [.int .i64 0])):=λfr=>by
   refine Lp.retZ (VSo.lcl c fs n) a3 Z bx (by rw[zW ow,zW ow];exact ba _ _) (S':=S0) (λi I=>.inl I) ⟨by rw[yc,yc,W];omega,λi I z=> ?_⟩ ⟨q,C,by rw[yc,yc,W];omega,by rw[zW ow,zU],zU _ _ _,N⟩;rw[zW λe=>z (.inr ((N i).2 (.inr e))),zW λe=>z (.inr ((N i).2 (.inl e))),(K _ _).2 i I λe=>z (.inl e)]
  have s3:∀a b,a.flat=true->b.flat=true->yR prog 49 (.ptr n 0) (.agg [.bool true,a,b,.nilsl]) (s a b)=some ((s a b).set n (.row [.bool true,a,b,.nilsl])):=λa b h1 v=>qh (a8 a b) (by rw[KE];rfl) rfl jS (by simp[h1,v];exact⟨rfl,rfl⟩);have s4:∀a b r,yR prog 39 (.ptr (n+1) 0) (.int .i64 0) ((s a b).set n (.row r))=some (((s a b).set n (.row r)).set (n+1) (.row [.int .i64 0])):=λa b r=>by
   rw[yM (by rw[zW ow];exact a9 a b) aw jS rfl rfl];rfl
  have e1:((q.ts.length:Int)==0)=decide (q.ts= []):=by cases q.ts<;>simp<;>omega
  have e2:((q.own.length:Int)==0)=decide (q.own= []):=by cases q.own<;>simp<;>omega
  have f1:(tsD q).flat=true:=rfl;have f2:(owD q).flat=true:=rfl;have f3:D.nilsl.flat=true:=rfl;have t1:tsF q=if decide (q.ts= [])=true then .nilsl else tsD q:=by unfold tsF;simp
  have t2:owF q=if decide (q.own= [])=true then .nilsl else owD q:=by unfold owF;simp
  rw[t1,t2]at o;generalize decide (q.ts= [])=b1 at e1 o;generalize decide (q.own= [])=b2 at e2 o;cases b1
  all_goals cases b2
  all_goals simp only[zf,yr,qK]at o
  all_goals
   exact au
  all_goals exact o _
 .intro S' ak v b5 ag Y w hw ad
  obtain⟨w0,w1,w2,w3,N⟩:=hw;have A:Ext g v:=Ext.of_but O w λj hj=>by rcases hj with(rfl|rfl)|rfl<;>omega
  obtain⟨d,d1,d2,d3,d4,d5⟩:=ad.fin (R:=R) (Q:=λd h'=>Ext g h'/\below g.next (qC d)/\qC d=Jx c fs) (mk:=λd=>.tuple [.agg [.bool false,.nilsl,.nilsl,d],.int .i64 0]) A (λi I=>by
   rcases ag i I with q|q<;>omega) (λid cs d=>rfl) (λd=>rfl) (λd h=>⟨⟨trivial,trivial,trivial,h,trivial⟩,trivial,trivial⟩) (λd h' q1 q2 q3=>⟨q1,q2,by unfold Jx;rw[ip J,yN.1 w0,<-q3];rfl⟩) hR
  have b6:qX prog 49 [(2,d)]=some (.agg [.bool false,.nilsl,.nilsl,d]):=by simp[qX,dn,XU,uc,wg,d2,d3,QN,Yd]
  obtain⟨F1,P,r1,r2,E1⟩:∃F,v.set n (.row [.bool false,.nilsl,.nilsl,d])=F/\F.at' n=some (.row [.bool false,.nilsl,.nilsl,d])/\F.at' (n+1)=some (.row [.int .i64 0])/\Ext g F:=⟨_,rfl,zU _ _ _,by rw[zW ow];exact w3,A.set ow _⟩;have s1:yR prog 49 (.ptr n 0) (.agg [.bool false,.nilsl,.nilsl,d]) v=some F1:=by
   rw[qh (cs':=[.bool false,.nilsl,.nilsl,d]) w2 (by rw[KE];rfl) rfl jS (by simp[d4];exact⟨rfl,rfl⟩),P]
  have s2:yR prog 39 (.ptr (n+1) 0) (.int .i64 0) F1=some F1:=by
   rw[yM r2 aw jS rfl rfl];exact congrArg some (uU r2)
  have o:=d5 F1 (λi I z=>by
   rw[<-P,zW λe=>Y i ((N i).2 (.inl e)) I]) E1
  exact au
 .intro S' ak v b5 ag Y w hv ad
  obtain⟨q,C,w1,w2,w3,N⟩:=hv;have A:Ext g v:=Ext.of_but O w λj hj=>by rcases hj with(rfl|rfl)|rfl<;>omega
  have E:qC (tsF q)=tsF q/\below 0 (tsF q):=by
   unfold tsF;split
   .exact⟨rfl,trivial⟩
   .exact yh (sz:=1) (xs:=qe (q.ts.map kJ)) (λx hx=>by
     obtain⟨a,ha,rfl⟩:=zN.1 hx;obtain⟨t,_,rfl⟩:=zN.1 ha;exact dH t) .no
  have ai:qC (owF q)=owF q/\below 0 (owF q):=by
   unfold owF;split
   .exact⟨rfl,trivial⟩
   .exact yh (sz:=1) (xs:=wh q.own) uh .no
  have o:=U v (.tuple [.agg [.bool true,tsF q,owF q,.nilsl],.int .i64 0]) A (by simp only[qC,qW,E.1,ai.1]) ⟨⟨trivial,E.2,ai.2,trivial,trivial⟩,trivial,trivial⟩ (by unfold Jx;rw[ip J,C]);exact au
structure Le(p q:Part):Prop where
 tl:p.ts.length=q.ts.length
 ol:p.own.length=q.own.length
 t:∀(i:Nat) a,p.ts[i]? =some a->a= []\/q.ts[i]? =some a
 o:∀(i:Nat) s,p.own[i]? =some s->s= []\/q.own[i]? =some s
def Le.refl(p:Part):Le p p:=⟨rfl,rfl,λ_ _ h=>.inr h,λ_ _ h=>.inr h⟩
def Le.trans{p q r:Part}(a:Le p q)(b:Le q r):Le p r:=⟨a.tl.trans b.tl,a.ol.trans b.ol,λi x h=>(a.t i x h).elim .inl λh=>b.t i x h,λi x h=>(a.o i x h).elim .inl λh=>b.o i x h⟩
def Le.gap{p q:Part}(h:Le p q):Gap (oP p).ts (oP p).own (oP q) where
 tl:=by show(p.ts.map kJ).length=(q.ts.map kJ).length;rw[zH,zH,h.tl]
 ol:=h.ol
 ts:=λi a e=>by
  have e:(p.ts.map kJ)[i]? =some a:=e;rw[zh]at e;obtain⟨t,e1,rfl⟩:=ze.1 e;rcases h.t i t e1 with rfl|q1
  .exact .inl rfl
  .refine .inr ?_
   show(q.ts.map kJ)[i]? =_;rw[zh,q1];rfl
 own:=h.o
def Le.vios{p q:Part}(h:Le p q)(h0:pW c fs (oP q)= []):Yu c fs p=none:=by
 unfold Yu;cases e:pW c fs (oP p)with
 |nil=>rfl
 |cons v l=>
  have:=h.gap.vios (c:=c) (fs:=fs) (v:=v) (by show v∈pW c fs (oP p);rw[e];exact qZ);rw[h0]at this;cases this
def zKC(c:Cat)(fs:List Fac)(q:Part)(v k:Nat):Prop:=if v<(tV c fs).length then q.ts[v]? =some (((tV c fs).getD v []).getD k [])else q.own[v- (tV c fs).length]? =some ((c.ls.map Lic.name).getD k [])
def Le.dec{p q:Part}(h:Le p q){v k:Nat}(b:zKC c fs q v k):Le (pY c fs p v k) q:=by
 unfold zKC at b;unfold pY;split
 .rename_i h1
  rw[ip h1]at b;refine⟨by rw[uQ];exact h.tl,h.ol,λi a e=> ?_,h.o⟩;rw[pI]at e;split at e
  .rename_i d
   subst d;split at e
   .cases e;exact .inr b
   .cases e
  .exact h.t i a e
 .rename_i h1
  rw[iq h1]at b;refine⟨h.tl,by rw[uQ];exact h.ol,h.t,λi a e=> ?_⟩;rw[pI]at e;split at e
  .rename_i d
   subst d;split at e
   .cases e;exact .inr b
   .cases e
  .exact h.o i a e
structure Full(c:Cat)(fs:List Fac)(q:Part):Prop where
 ok:POk c fs q
 de:∀v,v<ctV c fs->deV c fs q v=true
def Full.val{q:Part}(h:Full c fs q){v:Nat}(f:v<ctV c fs):∃k,k<szV c fs v/\zKC c fs q v k:=by
 have a:=h.de v f;unfold deV at a;unfold zKC szV;by_cases h1:v<(tV c fs).length
 .simp only[ip h1]at a⊢
  have b:v<q.ts.length:=by rw[h.ok.tl];exact h1
  rw[zC,zB b]at a;have g:=(h.ok.t v _ (zB b)).resolve_left λe=>by rw[e]at a;cases a
  obtain⟨k,d,e⟩:=zy.1 g;refine⟨k,d,?_⟩;rw[zB b,zC,zB d,e];rfl
 .simp only[iq h1]at a⊢
  have b:v- (tV c fs).length<q.own.length:=by rw[h.ok.ol];unfold ctV at f;omega
  rw[zC,zB b]at a;obtain⟨y,i,e⟩:=(h.ok.o _ (zI b)).resolve_left λe=>by rw[zA,e]at a;cases a
  obtain⟨k,d,rfl⟩:=zy.1 i;exact⟨k,d,by rw[zB b,df d,e]⟩
theorem PR{q:Part}(h:Full c fs q):∀n,n<=ctV c fs->Le (wm c fs n) q
 |0,_=>by
  have b:∀{α:Type}(i n:Nat)(a:List α),(List.replicate n ([]:List α))[i]? =some a->a= []:=λi n a e=>by
   rw[List.getElem?_replicate]at e;split at e
   .cases e;rfl
   .cases e
  exact⟨by rw[h.ok.tl];exact gf,by rw[h.ok.ol];exact gf,λi a e=>.inl (b _ _ _ e),λi a e=>.inl (b _ _ _ e)⟩
 |n+1,b=>by
  rw[wm];have d:=PR h n ow;split
  .rename_i h1
   obtain⟨k,g,f⟩:=h.val (v:=n) ow
   have:k=0:=ow;subst this;exact d.dec f
  .exact d
theorem Uy(h0:(yV c fs).2.2=0){q:Part}(h:Full c fs q)(d:pW c fs (oP q)= []):∀m p,POk c fs p->Le p q->opn c fs p<=m->pX c fs m p≠[]
 |0,p,g,b,i=>by
  rw[pX,b.vios d];simp
 |m+1,p,g,b,i=>by
  rw[pX,b.vios d];cases e:nxV c fs p with
  |none=>simp
  |some v=>
   obtain⟨j,_,_⟩:=l8 e;obtain⟨k,f,a⟩:=h.val j;have:=Uy h0 h d m _ (g.dec f) (b.dec a) (by have:=We g h0 e f;omega);simp only[Option.isSome,zf,yr];intro e2;rw[oR]at e2;exact this (e2 k (yn.2 f))
def Le.of_dec{v k:Nat}(h:deV c fs p v=false):Le p (pY c fs p v k):=by
 unfold deV at h;unfold pY;split
 .rename_i h1
  rw[ip h1]at h;refine⟨by rw[uQ],rfl,λi a e=> ?_,λi a e=>.inr e⟩;by_cases q:v=i
  .subst q
   rw[zC,e]at h;exact .inl (by simpa using h)
  .exact .inr (by rw[pT q];exact e)
 .rename_i h1
  rw[iq h1]at h;refine⟨rfl,by rw[uQ],λi a e=>.inr e,λi a e=> ?_⟩;by_cases q:v- (tV c fs).length=i
  .subst q
   rw[zC,e]at h;exact .inl (by simpa using h)
  .exact .inr (by rw[pT q];exact e)
theorem VF(h0:(yV c fs).2.2=0){x:Part} :∀m p,POk c fs p->opn c fs p<=m->x∈pX c fs m p->POk c fs x/\Le p x/\Yu c fs x=none/\nxV c fs x=none
 |0,p,b,i,a=>by
  rw[pX]at a;split at a
  .cases a
  .rename_i h
   rw[zi]at a;subst a;refine⟨b,Le.refl _,by simpa using h,?_⟩;cases e:nxV c fs x with
   |none=>rfl
   |some v=>
    obtain⟨h1,f,_⟩:=l8 e
    have:0<opn c fs x:=z7.2 (List.ne_nil_of_mem (wO.2 ⟨yn.2 h1,f⟩));omega
 |m+1,p,b,i,a=>by
  rw[pX]at a;split at a
  .cases a
  .rename_i h
   split at a
   .rename_i e
    rw[zi]at a;subst a;exact⟨b,Le.refl _,by simpa using h,e⟩
   .rename_i v e
    obtain⟨k,d,a⟩:=z6.1 a;have d:=yn.1 d;obtain⟨h1,f,h3,g⟩:=VF h0 m _ (b.dec d) (by have:=We b h0 e d;omega) a;obtain⟨_,e2,_⟩:=l8 e;exact⟨h1,(Le.of_dec (by simp only[pL,zF,qH]at e2;exact e2.2)).trans f,h3,g⟩
def Le.de{p q:Part}(h:Le p q){v:Nat}(b:deV c fs p v=true):deV c fs q v=true:=by
 unfold deV at b⊢;split
 .rename_i h1
  rw[ip h1]at b;cases e:p.ts[v]? with
  |none=>rw[zC,e]at b;exact absurd b jD
  |some a=>
   rcases h.t v a e with rfl|d
   .rw[zC,e]at b;exact absurd b jD
   .rwa [zC,d,<-e,<-zC]
 .rename_i h1
  rw[iq h1]at b;cases e:p.own[v- (tV c fs).length]? with
  |none=>rw[zC,e]at b;exact absurd b jD
  |some a=>
   rcases h.o _ a e with rfl|d
   .rw[zC,e]at b;exact absurd b jD
   .rwa [zC,d,<-e,<-zC]
theorem GL(h0:(yV c fs).2.2=0):∀n,n<=ctV c fs->∀v,v<n->szV c fs v=1->deV c fs (wm c fs n) v=true
 |0,_,v,h,_=>absurd h (ym _)
 |n+1,b,v,h,h1=>by
  have a:=GL h0 n ow v;rw[wm];split
  .rename_i q
   rw[NW (tj c fs n) h0 ow ow];by_cases e:v=n
   .rw[zR e];rfl
   .rw[a ow h1,nh]
  .rename_i q
   refine a (Nat.lt_of_le_of_ne (Nat.le_of_lt_succ h) λe=>q ?_) h1;rw[<-e];exact h1
def Gn(h0:(yV c fs).2.2=0){v:Nat}(d:v<ctV c fs)(a:szV c fs v=0):c.ls.length=0/\∀y:Cho,pW c fs y≠[]:=by
 unfold szV at a;split at a
 .rename_i h1
  have j:(tV c fs).getD v []∈tV c fs:=by rw[zC,zB h1];exact zI _
  exact absurd (yN.1 a) (rz _ j).2.ne
 .rename_i h1
  refine⟨a,λy e=> ?_⟩;have k:oV c fs≠[]:=λe=>by unfold ctV at d;rw[e]at d;simp at d;omega
  obtain⟨s,b⟩:=pa _ k;unfold oV at b;rw[ZE h0]at b;rcases ny.1 b with q| ⟨f,hf,h,_⟩
  .cases q
  .obtain⟨i,g,rfl⟩:=zy.1 hf
   have:(⟨5,jx ([i].map λn:Nat=>(n:Int))⟩:Vio)∈pW c fs y:=ZJ.2 ⟨5,ow,rfl,[i],⟨a,i,by rw[rp g];exact h,rfl⟩,rfl⟩;rw[e]at this;cases this
def Qz(h0:(yV c fs).2.2=0){x:Part}(f:POk c fs x)(d:Le (o6 c fs) x)(hf:Yu c fs x=none)(a:nxV c fs x=none):Full c fs x:=by
 refine⟨f,λv b=> ?_⟩;cases e:deV c fs x v with
 |true=>rfl
 |false=>
  unfold nxV at a;rw[lq]at a;have:=a v (yn.2 b);unfold pL at this;rw[e]at this;have g:¬1<szV c fs v:=by simpa using this
  by_cases h1:szV c fs v=1
  .rw[d.de (GL h0 _ (zD _) v b h1)]at e
   cases e
  .have:=(Gn h0 b ow).2 (oP x)
   unfold Yu at hf;exact absurd (to.1 hf) this
def Qe(h0:(yV c fs).2.2=0):tQ c fs≠[]↔∃q,Full c fs q/\pW c fs (oP q)= []:=by
 have a:opn c fs (o6 c fs)<=ctV c fs:=by
  unfold opn;exact zY (wH _ _) jS
 constructor
 .intro h
  obtain⟨x,g⟩:=pa _ h;obtain⟨h1,d,h3,e⟩:=VF h0 _ _ (tj c fs _) a g;exact⟨x,Qz h0 h1 d h3 e,to.1 h3⟩
 .rintro⟨q,b,f⟩
  exact Uy h0 b f _ _ (tj c fs _) (PR b _ (zD _)) a
def prW(s:Nat->Nat)(f:Nat->Bool):List Nat->Nat
 | []=>1
 |w::l=>if f w=true then s w*prW s f l else prW s f l
theorem T4{s:Nat->Nat}{f:Nat->Bool}(h:∀w,f w=true->0<s w):∀l,0<prW s f l
 | []=>Nat.one_pos
 |w::l=>by
  rw[prW];split
  .rename_i q;exact XW (h w q) (T4 h l)
  .exact T4 h l
theorem GB{s:Nat->Nat}{f g:Nat->Bool}{v:Nat}(a:∀w,g w=(!decide (w=v)&&f w)):∀l,v∉l->prW s g l=prW s f l
 | [],_=>rfl
 |w::l,h=>by
  rw[yE,Wd]at h;rw[prW,prW,a w,zO (λe=>h.1 e.symm),sN,tH,GB a l h.2]
theorem GC{s:Nat->Nat}{f g:Nat->Bool}{v:Nat}(a:∀w,g w=(!decide (w=v)&&f w))(hf:f v=true):∀l:List Nat,l.Nodup->v∈l->prW s f l=s v*prW s g l
 | [],_,h=>by cases h
 |w::l,b,h=>by
  rw[oS]at b;by_cases e:w=v
  .subst e
   rw[prW,prW,ip hf,a w,zR rfl,GB a l b.1];rfl
  .have c:=GC (s:=s) a hf l b.2 ((yE.1 h).resolve_left λq=>e q.symm)
   rw[prW,prW,a w,zO e,sN,tH,c];split
   .exact Nat.mul_left_comm ..
   .rfl
theorem La(h0:(yV c fs).2.2=0):∀m p n,POk c fs p->(pP c fs m p n).length+1<=2*prW (szV c fs) (pL c fs p) (List.range (ctV c fs))
 |0,p,n,d=>by
  have:=T4 (s:=szV c fs) (f:=pL c fs p) (λw h=>by simp only[pL,zF,zP]at h;omega) (List.range (ctV c fs));rw[pP];split<;>simp<;>omega
 |m+1,p,n,d=>by
  have o:=T4 (s:=szV c fs) (f:=pL c fs p) (λw h=>by simp only[pL,zF,zP]at h;omega) (List.range (ctV c fs));rw[pP];split
  .simp;omega
  .split
   .simp;omega
   .rename_i v e
    obtain⟨q,l,_⟩:=l8 e;have u:2<=szV c fs v:=by simp only[pL,zF,zP]at l;omega
    have t:∀k,k<szV c fs v->∀w,pL c fs (pY c fs p v k) w=(!decide (w=v)&&pL c fs p w):=λk a w=>by
     unfold pL;rw[NW d h0 q a];cases decide (w=v)<;>cases decide (1<szV c fs w)<;>cases deV c fs p w<;>rfl
    have j:∀k,k<szV c fs v->prW (szV c fs) (pL c fs (pY c fs p v k)) (List.range (ctV c fs))=prW (szV c fs) (λw=> !decide (w=v)&&pL c fs p w) (List.range (ctV c fs)):=λk a=>by
     congr 1;funext w;exact t k a w
    have b:=GC (s:=szV c fs) (f:=pL c fs p) (g:=λw=> !decide (w=v)&&pL c fs p w) (λw=>rfl) l (List.range (ctV c fs)) List.nodup_range (yn.2 q);rw[b];generalize prW (szV c fs) (λw=> !decide (w=v)&&pL c fs p w) (List.range (ctV c fs))=W at j;have key:∀k,k<=szV c fs v->(ug (λk i=>pP c fs m (pY c fs p v k) i) k (n+1)).2.length+k<=2*(k*W):=λk a=>by
     induction k with
     |zero=>simp[ug]
     |succ k r=>
      have r:=r ow;have:=La h0 m (pY c fs p v k) (n+1+(ug (λk i=>pP c fs m (pY c fs p v k) i) k (n+1)).2.length) (d.dec ow);rw[j k ow]at this;rw[ug,zS,qy,nJ];omega
    have:=key _ (zD _);rw[zu];omega
def prL:List Nat->Nat
 | []=>1
 |r::l=>r*prL l
theorem H9:∀{l:List Nat},(∀r∈l,0<r)->0<prL l
 | [],_=>Nat.one_pos
 |r::l,h=>XW (h r qZ) (H9 λq a=>h q (yG _ a))
def zCB{l m:List Nat}(h:l.Sublist m):(∀r∈m,0<r)->prL l<=prL m:=by
 induction h with
 |slnil=>exact λ_=>zD _
 |cons a h d=>exact λb=>zY (d λq c=>b q (yG _ c)) (gR _ (b a qZ))
 |cons_cons a h d=>exact λb=>my _ (d λq c=>b q (yG _ c))
theorem Gq:∀{l:List Nat}{n:Nat},(∀r∈l,0<r)->(FY l n<=4096\/n*prL l<=4096)->FY l n=n*prL l
 | [],n,_,_=>by rw[FY,prL,wF]
 |r::l,n,b,h=>by
  have h1:=H9 λq a=>b q (yG _ a);rw[FY]at h⊢;rw[prL,<-Nat.mul_assoc]at h⊢;have c:n*r<=n*r*prL l:=Nat.le_mul_of_pos_right _ h1;split
  .rename_i q
   rw[ip q]at h;rcases h with h|h<;>omega
  .rename_i q
   rw[iq q]at h;exact Gq (λq a=>b q (yG _ a)) h
def MO{l:List Nat}(a:∀r∈l,0<r)(h:Je l<=4096\/prL l<=4096):Je l=prL l:=by
 unfold Je at h⊢;have h0:¬(l.any (· ==0))=true:=λq=>by
  obtain⟨r,hr,e⟩:=qF.1 q;have:=a r hr;simp at e;omega
 rw[iq h0]at h⊢;rw[Gq a (by rwa [nJ]),nJ]
theorem GA{s:Nat->Nat}{f:Nat->Bool} :∀l:List Nat,(∀w∈l,0<s w)->prW s f l<=prL (l.map s)
 | [],_=>zD _
 |w::l,h=>by
  have a:=GA (f:=f) l λq b=>h q (yG _ b);rw[prW,qV,prL];split
  .exact my _ a
  .exact zY a (gR _ (h w qZ))
def Au:Vb c (tV c fs) (oV c fs)=(List.range (ctV c fs)).map (szV c fs):=by
 refine List.ext_getElem (by simp[Vb,ctV]) λi h1 a=> ?_;rw[uY,List.getElem_range];unfold szV;simp only[Vb]at h1⊢;split
 .rename_i q
  rw[List.getElem_append_left (by simpa using q),uY,zC,zB q];rfl
 .rename_i q
  rw[List.getElem_append_right (by simpa using q),uY]
def zCD(h:∀v,v<ctV c fs->0<szV c fs v):∀r∈Vb c (tV c fs) (oV c fs),0<r:=λr hr=>by
 rw[Au]at hr;obtain⟨v,a,rfl⟩:=zN.1 hr;exact h v (yn.1 a)
def Wb(h:yq c fs=0):(pn c fs).length<=8191:=by
 have h0:=lx h;by_cases b:∀v,v<ctV c fs->0<szV c fs v
 .have h1:=La h0 (ctV c fs) (o6 c fs) 0 (tj c fs _)
  have g:=GA (s:=szV c fs) (f:=pL c fs (o6 c fs)) (List.range (ctV c fs)) λw i=>b w (yn.1 i);rw[<-Au]at g;have h3:=MO (zCD b) (.inl (Mx h));have d:=Mx h;unfold A4 at d;unfold pn;have h5:Je (Vb c (tV c fs) (oV c fs))<=4096:=d;omega
 .have:∃v,v<ctV c fs/\szV c fs v=0:=by
   refine kF λq=>b λv a=>Nat.pos_of_ne_zero λe=>q ⟨v,a,e⟩
  obtain⟨v,a,e⟩:=this;have h1:=(Gn h0 a e).2 (oP (o6 c fs));cases e2:Yu c fs (o6 c fs)with
  |none=>exact absurd (to.1 e2) h1
  |some x=>unfold pn;rw[(jV e2 _ _).2];simp
def Full.whole(h0:(yV c fs).2.2=0){q:Part}(h:Full c fs q):Whole c fs (oP q):=by
 refine VI.1 ?_;have h1:(oP q).ts.length=(tV c fs).length:=by show(q.ts.map kJ).length=_;rw[zH,h.ok.tl]
 have g:(oP q).own.length=(oV c fs).length:=h.ok.ol;have e1:gI (mN (tV c fs) (oP q).ts false) (oP q).ts.length=0:=tg λi d=>by
  rw[h1]at d;have f:i<q.ts.length:=by rw[h.ok.tl];exact d
  have a:=h.de i (by unfold ctV;omega);unfold deV at a;rw[ip d,zC,zB f]at a;have j:=(h.ok.t i _ (zB f)).resolve_left λe=>by rw[e]at a;cases a
  unfold mN
  have:(oP q).ts[i]? =some (kJ q.ts[i]):=by show(q.ts.map kJ)[i]? =_;rw[zh,zB f];rfl
  rw[this];simp only[ZY,wR,zf,yr];rw[iq];simp only[qH,pG,qF];simpa using⟨_,j,(ly _ _).2 rfl⟩
 have e2:gI (Ps c (oP q).own false) (oP q).own.length=0:=tg λi d=>by
  have a:=h.de ((tV c fs).length+i) (by rw[g]at d;unfold ctV;omega);unfold deV at a;rw[iq ow,uR]at a;unfold Ps;have b:i<q.own.length:=d;rw[zC,zB b]at a;obtain⟨y,l,e⟩:=(h.ok.o _ (zI b)).resolve_left λe=>by rw[zA,e]at a;cases a
  have k:(oP q).own[i]? =some y.name:=by rw[e];exact zB b
  rw[k];simp only[wR,zf,yr];rw[iq];simp only[qH,pG,qF];simpa using⟨y,l,rfl⟩
 unfold qP;rw[iq (by rw[h0];decide),iq (by rw[h1,g];unfold tV oV;simp),iq (by rw[show gI (mN (yV c fs).1 (oP q).ts false) (oP q).ts.length=0 from e1];decide)]
 exact e2
def Jq{y:Cho}(W:Whole c fs y):(yV c fs).2.2=0:=by
 have:=VI.2 W;unfold qP at this;split at this
 .rename_i q;rw[this]at q;exact absurd q jD
 .rename_i q;simpa using q
def RR(h:(yV c fs).2.2=0):tV c fs=(cD fs).map λf=>ofL c f.e:=by
 unfold tV;unfold yV at h⊢;by_cases q:(!((wj c fs).2==0))=true
 .rw[ip q]at h
  have:(wj c fs).2≠0:=by simpa using q
  exact absurd h this
 .rw[iq q]at h⊢
  rw[fp h,yL]
def Whole.full{q:Part}(W:Whole c fs (oP q)):Full c fs q:=by
 have h0:=Jq W;have g:=RR h0;have n:oV c fs=t4 fs []:=ZE h0;have k:q.ts.length=(tV c fs).length:=by
  have:=W.tl;rw[g,zH,<-this];show _=(q.ts.map kJ).length;rw[zH]
 have ol:q.own.length=(oV c fs).length:=by rw[n];exact W.ol
 have l:∀i (h:i<q.ts.length),q.ts[i]∈(tV c fs).getD i []:=λi h=>by
  have h1:i<(cD fs).length:=by rw[k,g,zH]at h;exact h
  have:=W.ts i (by show i<(q.ts.map kJ).length;rwa [zH]) _ (zB h1);have e:((oP q).ts[i]'(by show i<(q.ts.map kJ).length;rwa [zH])).ts=q.ts[i]:=by
   show((q.ts.map kJ)[i]'(by rwa [zH])).ts=_;rw[uY,ZY]
  rw[e]at this;rw[g,zC,zh,zB h1];exact this
 have m:∀s∈q.own,∃x∈c.ls,x.name=s:=λs f=>by
  obtain⟨x,j,e⟩:=qF.1 (W.own s f);exact⟨x,j,by simpa using e⟩
 refine⟨⟨k,ol,λi a e=> ?_,λs f=>.inr (m s f)⟩,λv o=> ?_⟩
 .obtain⟨h1,rfl⟩:=zK.1 e
  exact .inr (l i h1)
 .unfold deV
  split
  .rename_i h1
   have b:v<q.ts.length:=by rw[k];exact h1
   have d:(tV c fs).getD v []∈tV c fs:=by rw[zC,zB h1];exact zI _
   have:=((rz _ d).2.ts _ (l v b)).1;rw[zC,zB b];exact zR (z7.2 this)
  .rename_i h1
   have b:v- (tV c fs).length<q.own.length:=by rw[ol];unfold ctV at o;omega
   obtain⟨x,j,e⟩:=m _ (zI b);have:=Hl W.cat j;rw[zC,zB b];rw[e]at this;simp[this]
theorem j0:∀{l:List Fac}{o:List (List UInt8)},o.Nodup->(t4 l o).Nodup
 | [],o,h=>h
 |f::fs,o,h=>by
  rw[t4];split
  .exact j0 h
  .split
   .refine j0 ?_
    split
    .exact h
    .rename_i q
     rw[kn];refine⟨h,jS,λa d b c e=>q ?_⟩;rw[zi]at c;subst c;exact qF.2 ⟨a,d,by simpa using e⟩
   .exact j0 h
theorem V6{fs:List Fac} :∀{I:List Nat}(k:Nat),(∀i∈I,k<=i)->I.Pairwise (· < ·)->(I.filterMap λi=>fs[i]?).Sublist (fs.drop k)
 | [],k,_,_=>List.nil_sublist _
 |i::I,k,h,a=>by
  rw[sC]at a;have c:=V6 (fs:=fs) (i+1) (λj g=>a.1 j g) a.2;have l:=h i qZ;have b:(fs.drop i).Sublist (fs.drop k):=by
   rw[show i=k+(i-k) by omega,<-uM];exact List.drop_sublist _ _
  rw[cr];cases e:fs[i]? with
  |none=>
   refine(c.trans ?_).trans b;rw[show i+1=i+1 from rfl,<-uM]
   exact List.drop_sublist _ _
  |some f=>
   obtain⟨d,rfl⟩:=zK.1 e;refine List.Sublist.trans ?_ b;rw[z8 d];exact c.cons_cons _
def InI.sub(H:InI fs I):(zw fs I).Sublist fs:=by
 have:=V6 (fs:=fs) 0 (λi _=>yD i) H.inc
 rwa [wS]at this
section
variable{c:Cat}{fs:List Fac}
def zCE(h0:(yV c fs).2.2=0)(d:gs.Sublist fs)(b:(yV c gs).2.2=0):(Vb c (tV c gs) (oV c gs)).Sublist (Vb c (tV c fs) (oV c fs)):=by
 unfold Vb;refine List.Sublist.append ?_ ?_
 .rw[RR h0,RR b]
  exact((d.filter _).map _).map _
 .have e1:oV c gs=t4 gs []:=ZE b
  have e2:oV c fs=t4 fs []:=ZE h0;rw[e1,e2,gg,gg,List.replicate_sublist_replicate];refine List.Nodup.length_le_of_subset (j0 nc) λs a=> ?_;rcases ny.1 a with q| ⟨f,hf,g,e⟩
  .cases q
  .exact ny.2 (.inr ⟨f,d.subset hf,g,e⟩)
def zAE{q:Part}{a:Alt}(h:a∈(oP q).ts):kJ a.ts=a:=by
 obtain⟨t,_,rfl⟩:=zN.1 h;rw[ZY]
def Hz(h0:(yV c fs).2.2=0){q:Part}(n:Full c fs q)(h:pW c fs (oP q)= [])(H:InI fs I):∃f,Full c (zw fs I) f/\pW c (zw fs I) (oP f)= []:=by
 have W:=n.whole h0;have l:I.length<=256:=by
  have h1:=H.sub.length_le;rw[tT H.lt]at h1;have:=W.len;omega
 have b:=JQ W H l;have d:=Tz W H h;have e:oP ⟨(bO (oP q) fs I).ts.map Alt.ts,(bO (oP q) fs I).own⟩ =bO (oP q) fs I:=by
  have:((bO (oP q) fs I).ts.map Alt.ts).map kJ=(bO (oP q) fs I).ts:=by
   rw[wA]
   conv=>rhs;rw[<-List.map_id (bO (oP q) fs I).ts]
   refine wY λa g=> ?_;obtain⟨i,j,rfl⟩:=zN.1 g;obtain⟨m,k⟩:=wO.1 j;exact zAE (zDw W (H.lt i m) (by simpa using k))
  show Cho.mk (((bO (oP q) fs I).ts.map Alt.ts).map kJ) _=_;rw[this]
 rw[<-e]at b d;exact⟨_,b.full,d⟩
def JP(h0:(yV c fs).2.2=0)(g:tQ c fs≠[])(H:InI fs I)(d:(yV c (zw fs I)).2.2=0):tQ c (zw fs I)≠[]:=by
 obtain⟨q,f,e⟩:=(Qe h0).1 g;obtain⟨h,b,a⟩:=Hz h0 f e H;exact(Qe d).2 ⟨h,b,a⟩
end
variable{c:Cat}{fs:List Fac}
theorem HE:∀(n:Nat)(e:Ex),e.size<=n->e.Fit c->c.ls.length≠0
 |0,.mk k a x l d,h,_=>by simp only[Ex.size]at h;omega
 |n+1,.mk k a x l d,h,hf=>by
  obtain⟨h1,b⟩:=hf.self;have h1:bL k a x l.length=0:=h1;have b:MP c (.mk k a x l d)=0:=b;unfold bL at h1;split at h1
  .split at h1
   .exact absurd h1 jD
   .split at h1
    .exact absurd h1 jD
    .rename_i q
     intro h0;unfold MP at b;split at b
     .exact absurd b jD
     .rename_i f
      have i:a≠[]:=λe=>by subst e;exact q (by simp[nP])
      have g:VY c a x=true:=by
       simp only[Ex.name,Ex.exc]at f;simp[i]at f;exact f
      unfold VY at g
      have:mY c a=none:=by
       unfold mY;split
       .rfl
       .split
        .rw[yN.1 h0];rfl
        .rfl
      simp[this]at g
  .split at h1
   .split at h1
    .exact absurd h1 jD
    .rename_i q
     simp only[qN,zP,Wd]at q;cases l with
     |nil=>exact absurd (by simp:((([]:List Ex).length:Nat):Int)<2) q.1.1
     |cons e l=>
      refine HE n e ?_ (hf.kid (by simp[Ex.kids]));simp only[Ex.size,qd]at h;omega
   .exact absurd h1 jD
def Hp(h:lJ c e=0):c.ls.length≠0:=by
 unfold lJ at h;split at h
 .rename_i q
  exact HE _ e (zD _) (M5 (by simpa using q)).2.2
 .rename_i q;rw[h]at q;exact absurd rfl q
def MQ(h:(yV c fs).2.2=0):((wj c fs).2=0)/\∀f∈fs,f.kind=1->lJ c f.e=0:=by
 unfold yV at h;by_cases q:(!((wj c fs).2==0))=true
 .rw[ip q]at h
  have:(wj c fs).2≠0:=by simpa using q
  exact absurd h this
 .rw[iq q,ZC]at h
  exact⟨by simpa using q,h⟩
def DZ(h:(yV c fs).2.2=0)(a:gs.Sublist fs):(yV c gs).2.2=0:=by
 obtain⟨h1,b⟩:=MQ h;obtain⟨e1,e2,e3⟩:=jd.1 h1
 have:(wj c gs).2=0:=jd.2 ⟨e1,by have:=a.length_le;omega,λf hf=>e3 f (a.subset hf)⟩;unfold yV;rw[iq (by rw[this];decide)];exact ZC.2 λf hf=>b f (a.subset hf)
def NT(h:yq c fs=0)(i:gs.Sublist fs):yq c gs=0:=by
 have h0:=lx h;have b:=DZ h0 i;have key:A4 c gs<=4096:=by
  show Je (Vb c (tV c gs) (oV c gs))<=4096;by_cases g:c.ls.length=0
  .have e1:tV c gs= []:=by
    rw[RR b];cases e:cD gs with
    |nil=>rfl
    |cons f l=>
     obtain⟨hf,k⟩:=wO.1 (show f∈gs.filter λf=>f.kind==1 from by
      have:f∈cD gs:=by rw[e];exact qZ
      exact this)
     exact absurd g (Hp ((MQ b).2 f hf (by simpa using k)))
   rw[e1];unfold Vb;cases oV c gs with
   |nil=>show Je []<=4096;decide
   |cons s l=>simp[Je,g]
  .have d:∀fs:List Fac,∀r∈Vb c (tV c fs) (oV c fs),0<r:=λfs r hr=>by
    rcases yv.1 hr with q|q
    .obtain⟨a,j,rfl⟩:=zN.1 q
     exact z7.2 (rz _ j).2.ne
    .obtain⟨s,_,rfl⟩:=zN.1 q
     omega
   have h1:=MO (d fs) (.inl (Mx h));have m:Je (Vb c (tV c fs) (oV c fs))<=4096:=Mx h;have h3:=zCB (zCE h0 i b) (d fs);have h5:=MO (d gs) (.inr ow);omega
 unfold yq;rw[iq (by rw[b];decide),iq jO]
end Go.V
