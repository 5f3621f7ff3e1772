/- Rules of the machine of abstract values, part 10. No condition. -/
import Derived.Test.YtmkfpfodpehkoaaGreatDoorW35
set_option linter.all false
set_option maxHeartbeats 8000000
namespace Go.V
structure Lcl(W:Nat->(Nat->Prop)->Heap->Prop):Prop where
 here:∀k S h,W k S h->∀i,S i->i<h.next
 loc:∀k S h h',W k S h->h.next<=h'.next->(∀i,S i->h'.at' i=h.at' i)->W k S h'
def YLp(id:Nat)(L:LRec)(W:Nat->(Nat->Prop)->Heap->Prop)(k:Nat)(S:Nat->Prop)(h:Heap):Prop:=
 id<h.next/\h.at' id=some (.loop L)/\∃S0,W k S0 h/\¬S0 id/\∀i,S i↔(i=id\/S0 i)
def LpK(id:Nat)(L:LRec)(W:Nat->(Nat->Prop)->Heap->Prop)(k:Nat)(S0:Nat->Prop)(h:Heap)(r:D)(h':Heap):Prop:=
 r=.bool true/\∃S',(∀i,S' i->S0 i\/h.next<=i)/\But (λi=>i=id\/S0 i) h h'/\h'.at' id=some (.loop L)/\W (k+1) S' h'
section
variable{P:Program}{W:Nat->(Nat->Prop)->Heap->Prop}{id n:Nat}{L:LRec}{el:Nat->List D}
def YLp.yld(p:Lcl W)(go:∀k S0 h3,k<n->id<h3.next->h3.at' id=some (.loop L)->W k S0 h3->¬S0 id->uN P id (el k) h3 (LpK id L W k S0 h3)):Yld P id n el (YLp id L W) λ_ _=>False:=by
 refine⟨λk S h y i b=> ?_,λk S h h' y l g=> ?_,λS h m=>m.elim,λS h h' m=>m.elim,λk S h g y=> ?_⟩
 ·obtain⟨c,_,S0,d,_,a⟩:=y;rcases(a i).1 b with rfl|u
  ·exact c
  ·exact p.here _ _ _ d i u
 ·obtain⟨c,j,S0,d,f,a⟩:=y;exact⟨by omega,by rw[g id ((a id).2 (.inl rfl))];exact j,S0,p.loc _ _ _ _ d l λi b=>g i ((a i).2 (.inr b)),f,a⟩
 ·obtain⟨c,j,S0,d,f,a⟩:=y;refine(go k S0 h g c j d f).mono ?_;rintro r h' ⟨rfl,S',o,b2,s,t⟩;refine⟨λi=>i=id\/S' i,λi b=> ?_,⟨b2.1,λi b l=>b2.2 i b λe=>l ((a i).2 e)⟩,.inl ⟨rfl,zy c b2.1,s,S',t,λe=> ?_,λi=>Iff.rfl⟩⟩
  ·rcases b with rfl|b
   ·exact .inl ((a _).2 (.inl rfl))
   ·exact(o i b).imp (λq=>(a i).2 (.inr q)) λq=>q
  ·rcases o _ e with q|q
   ·exact f q
   ·omega
variable{S0 S':Nat->Prop}{k:Nat}{fr:Frm}
def Lp.fin(f:Lcl W){B:LRec}(b:({ B with st:=.ready,pending:=none } :LRec)=L){h3 a:Heap}(d:id<h3.next)(j:¬S0 id)(hid:a.at' id=some (.loop B))(c:∀i,S' i->S0 i\/h3.next<=i)(g:But (λi=>i=id\/S0 i) h3 a)(l:W (k+1) S' a) :
  rq (LpK id L W k S0 h3) id .normal fr a:=by
 refine sV hid ⟨rfl,S',c,g.set (.inl (.inl rfl)) _,by rw[zi,b],f.loc _ _ _ _ l (zD _) λi h=>zx λe=> ?_⟩;subst e;rcases c _ h with q|q
 ·exact j q
 ·omega
variable{f:FuncId}{args:List D}{h:Heap}{S:Nat->Prop}
def pL{a:Nat}(s:h.next=a){Q:Exit->Frm->Heap->Prop}(d:Lcl W)(v:L.st=.ready)(u:L.pending=none)(p:W 0 S h)
  (g:Yld P a n el (YLp a L W) (λ_ _=>False)->YLp a L W 0 (λi=>i=a\/S i) (h.new a (.loop L))->zB P f args (h.new a (.loop L)) λ_ h'=>∃S',(∀j,S' j->(j=a\/S j)\/(h.new a (.loop L)).next<=j)/\But (λi=>i=a\/S i) (h.new a (.loop L)) h'/\YLp a L W n S' h')
  (go:∀k S0 h3,k<n->a<h3.next->h3.at' a=some (.loop L)->W k S0 h3->¬S0 a->uN P a (el k) h3 (LpK a L W k S0 h3))
  (m:∀S' c,(∀j,S' j->S j\/a<=j)->But S h c->W n S' c->Q .normal fr c):
  zB P f args (h.new a (.loop L)) λ_ h'=>∃r,h'.at' a=some (.loop r)/\r.st≠ .busy/\UI r.pending Q fr (h'.del a):=by
 subst s;have D:(h.new h.next (.loop L)).next=h.next+1:=yA _ _;have o:¬S h.next:=λe=>uB _ (d.here _ _ _ p _ e);refine(g (YLp.yld d go) ⟨by omega,yQ _ _ _,S,d.loc _ _ _ _ p ow λi l=>zz (by have:=d.here _ _ _ p _ l;omega),o,λi=>Iff.rfl⟩).mono ?_;rintro r c ⟨S',B,x,C,b2,S0,z,w,A⟩;refine⟨L,b2,(by rw[v];intro q;cases q),?_⟩;rw[u,nw];refine m S0 _ (λj y=> ?_) ⟨by have:=x.1;show h.next<=c.next;omega,λi l t=> ?_⟩ (d.loc _ _ _ _ z (zD _) λi l=>uK λe=>by subst e;exact w l)
 ·rcases B j ((A j).2 (.inr y))with(q|q)|q
  ·subst q;exact absurd y w
  ·exact .inl q
  ·exact .inr ow
 ·have b:i≠h.next:=ow;rw[uK b,x.2 i ow (λe=>e.elim b t),zz b]
end
def WK(m1:Nat)(o1:Obj)(m2:Nat)(o2:Obj)(W:Nat->(Nat->Prop)->Heap->Prop)(k:Nat)(S:Nat->Prop)(h:Heap):Prop:=
 ∃S1,W k S1 h/\(m1<h.next/\m2<h.next)/\(h.at' m1=some o1/\h.at' m2=some o2)/\(¬S1 m1/\¬S1 m2)/\∀i,S i↔(i=m1\/i=m2\/S1 i)
def WK.lcl{m1 m2:Nat}{o1 o2:Obj}{W:Nat->(Nat->Prop)->Heap->Prop}(j:Lcl W):Lcl (WK m1 o1 m2 o2 W):=by
 refine⟨λk S h y i d=> ?_,λk S h h' y n e=> ?_⟩
 ·obtain⟨S1,b,⟨f,g⟩,_,_,c⟩:=y;rcases(c i).1 d with rfl|rfl|q
  ·exact f
  ·exact g
  ·exact j.here _ _ _ b i q
 ·obtain⟨S1,b,⟨f,g⟩,⟨l,c⟩,m,a⟩:=y;exact⟨S1,j.loc _ _ _ _ b n λi d=>e i ((a i).2 (.inr (.inr d))),⟨by omega,by omega⟩,⟨by rw[e m1 ((a m1).2 (.inl rfl))];exact l,by rw[e m2 ((a m2).2 (.inr (.inl rfl)))];exact c⟩,m,a⟩
variable{k i id:Nat}{S S0 S':Nat->Prop}{h h' g:Heap}{fr:Frm}{f:FuncId}{args cap sc:List D}{α β:Type}{c:Cat}{d y x z:D}{e:Ex}{fs:List Fac}
def WK.start{m1 m2:Nat}{o1 o2:Obj}{W:Nat->(Nat->Prop)->Heap->Prop}(b:W k S h)(h1:m1<h.next)(a:m2<h.next)(e1:h.at' m1=some o1)(e2:h.at' m2=some o2)(c:¬S m1)(d:¬S m2):WK m1 o1 m2 o2 W k (λi=>i=m1\/i=m2\/S i) h:=
 ⟨S,b,⟨h1,a⟩,⟨e1,e2⟩,⟨c,d⟩,λ_=>Iff.rfl⟩
def WK.stop{m1 m2:Nat}{o1 o2:Obj}{W:Nat->(Nat->Prop)->Heap->Prop}(e1:h.at' m1=some o1)(e2:h.at' m2=some o2)(m:∀i,S' i->(i=m1\/i=m2\/S i)\/h.next<=i)(b:But (λi=>i=m1\/i=m2\/S i) h h')(n:WK m1 o1 m2 o2 W k S' h'):
  ∃S1,(∀i,S1 i->S i\/h.next<=i)/\But S h h'/\W k S1 h':=by
 obtain⟨S1,c,_,⟨d,f⟩,⟨g,j⟩,l⟩:=n;refine⟨S1,λi a=> ?_,⟨b.1,λi a r=> ?_⟩,c⟩
 ·rcases m i ((l i).2 (.inr (.inr a)))with(rfl|rfl|q)|q
  ·exact absurd a g
  ·exact absurd a j
  ·exact .inl q
  ·exact .inr q
 ·by_cases o:i=m1
  ·subst o;rw[d,e1]
  ·by_cases p:i=m2
   ·subst p;rw[f,e2]
   ·exact b.2 i a λe=>by rcases e with q|q|q<;>contradiction
def WK.st{m1 m2:Nat}{o1 o2:Obj}{W:Nat->(Nat->Prop)->Heap->Prop}(c:WK m1 o1 m2 o2 W k S h):(h.at' m1=some o1/\h.at' m2=some o2)/\(m1<h.next/\m2<h.next):=by
 obtain⟨S1,_,b,a,_⟩:=c;exact⟨a,b⟩
def gL{α β:Type}(l:List α)(f:α->List β)(a:Nat):Nat:=((l.take a).flatMap f).length
def Mh{l:List α}{f:α->List β}{a:Nat}(h:a<l.length):gL l f (a+1)=gL l f a+(f l[a]).length:=by
 unfold gL;rw[zH h,tS,zM];simp
def Mi(l:List α)(f:α->List β):gL l f 0=0:=by simp[gL]
def Tc(l:List α)(f:α->List β):gL l f l.length=(l.flatMap f).length:=by simp[gL]
def EX{l:List α}{f:α->List β}{a b:Nat}(h:a<l.length)(c:b<(f l[a]).length):(l.flatMap f)[gL l f a+b]? =some (f l[a])[b]:=by
 have:l.flatMap f=(l.take a).flatMap f++(f l[a]++(l.drop (a+1)).flatMap f):=by
  conv=>lhs;rw[<-yp a l,z6 h,tS,tP]
 rw[this,yf (by unfold gL;omega)];unfold gL;rw[pq,yk c,zE]
def zGX{l:List α}{f:α->List β}{a b:Nat}(h:a<l.length)(c:b<(f l[a]).length):gL l f a+b<(l.flatMap f).length:=(zR.1 (EX h c)).1
open Go.Proofs.Tryz
open Go.Proofs
set_option maxRecDepth 100000
def WH:Option (List (List Trm))->D
 |some l=>.tuple [.sl 1 (qJ (l.map mkA)) .no,.int .i64 0]
 |none=>.tuple [.nilsl,.int .i64 10]
def aV(l:List (List Trm)):RY l=WH (szd l):=by
 unfold RY szd;split<;>rfl
def VA(l:List (List Trm)):wD (.sl 1 (qJ (l.map mkA)) .no)=.sl 1 (qJ (l.map mkA)) .no/\below 0 (.sl 1 (qJ (l.map mkA)) .no):=qg (NB l) .no
def kU(o:Option (List (List Trm)))(n:Nat):wD (WH o)=WH o/\below n (WH o):=by
 cases o with
 |none=>exact⟨rfl,by simp[WH,below,qZ]⟩
 |some l=>
  obtain⟨h1,a⟩:=VA l;refine⟨?_,?_⟩
  ·simp only[WH,wD,wU]at h1⊢;rw[h1]
  ·simp only[WH,below,qZ];exact⟨qw (yg _) _ a,trivial,trivial⟩
def Nb(s x:List UInt8):Alt:=⟨[⟨s,x⟩],.sl 2 [[.str s,.str x]] .full⟩
def Cy(s x:List UInt8):(Nb s x).Ok:=⟨ye.mk .full,by simp[Nb],by simp[Nb]⟩
def Ar(s x:List UInt8):wO prog 112 [(0,.str s),(1,.str x)]=some (.agg [.str s,.str x]):=by simp[wO,oM,so,tp,D.notTuple,D.cells,uG]
def Aq(s:List UInt8):wO prog 112 [(0,.str s)]=some (.agg [.str s,.str []]):=by simp[wO,oM,so,tp,D.notTuple,D.cells,uG]
def JK(s x:List UInt8)(nid:Nat)(h:Heap):yB prog false nid 108 1 [(0,.agg [.str s,.str x])] h=some (.sl 2 [[.str s,.str x]] .full,h):=
 wP (P:=prog) (x:=.agg [.str s,.str x]) uO so uo rfl rfl ow ow rfl rfl
def fe(c:Cat)(e:Ex):D:=WH (rB c e)
def MK(e:uM c d){n x:List UInt8}(g:Heap):
  zB prog 148 [d,.agg [.int .i64 0,.str n,.str x,y]] g λr h'=>h'=g/\r=WH (some [[⟨n,x⟩]]):=by
 refine xU kr λa=>xS ?_;refine xP λQ b=> ?_;obtain⟨f,i,ce,j,rfl,_,_,_,_⟩:=e;have h1:=Ar n x;have k:=JK n x;have h3:=λnid h=>dz (.sl 2 [[.str n,.str x]] .full) nid h rfl rfl rfl;have l:=b (.tuple [.sl 1 [[.sl 2 [[.str n,.str x]] .full]] .full,.int .i64 0]) g ⟨Ext.refl g,by
  simp[wD,wU,oB,below,qZ,lA],by simp[wD,wU,oB,WH,qJ,mkA,wW,Trm.cells]⟩
 refine z5 Hv ?_;simp only[f148,zA];exact au
def ML(j:uM c d)(W:c.Sm){n x:List UInt8}{z:Lic}(hf:sE c n=some z)(g:Heap):
  zB prog 148 [d,.agg [.int .i64 1,.str n,.str x,y]] g λr h'=>h'=g/\r=WH (szd (yO ((pz c z).map λs=>[⟨s,[]⟩]))):=by
 have w:=DT j W hf;have ai:=W.ls.1;have p:=Yj hf;have ad:(pz c z).length<=c.ls.length:=by rw[pz,zI];exact qM _ _
 refine xU kr λV=>xS ?_;refine xP λQ R=> ?_;obtain⟨ca,cb,ce,cp,rfl,_,_,_,_⟩:=j;have P:=Own.start (Ext.refl g) 1;have A:∀(b:List (List UInt8))(h:Heap),js prog 31 (.sl 1 (uH b) .no) h=some (.int .i64 b.length):=λb h=>wd (ye.mk .no) h;have l:∀(b:List (List UInt8))(i:Nat)(U:i<b.length),yP prog 31 (.sl 1 (uH b) .no) (.int .i64 (i:Int))=some (.iptr [.str b[i]] 0):=λb i U=>t9 (ye.mk .no) U;refine z5 Hv ?_;simp only[f148,zA]
 repeat' first|simp only[go_sem, *]|apply bc<;>intro j
 refine(w _).mono ?_;rintro r h ⟨k,b,I,rfl⟩;subst k;have ag:b.length<=1048576:=by rw[I.length_eq];omega
 have G:b≠[]:=λe=>by subst e;exact p (cL.1 I)
 have ab:=A b;clear A w
 repeat' first|simp only[go_sem, *]|apply bc<;>intro j
 refine zV (λi fr O=>∃o,fr 35=.sl 1 (uH b) .no/\fr 36=.int .i64 (b.length:Int)/\fr 37=.int .i64 (i:Int)/\fr 6=o/\Own h O 1 (qJ ((b.take i).map λs=>Nb s [])) o) b.length ow ?_ ?_ ?_
 ·simp only[go_sem,zQ,zS,zF];exact⟨_,rfl,P⟩
 ·rintro i fr O C Z ew ⟨o,K,L,N,f6,q⟩;have a1:=l b i C;have J:(b.take (i+1)).map (λs=>Nb s [])=(b.take i).map (λs=>Nb s [])++ [Nb b[i] []]:=by rw[zH C,yX];rfl
  have B:((b.take i).map λs=>Nb s []).length=i:=by rw[zI,z7];omega
  rw[J];clear J R l I;generalize b[i]=s at *
  generalize(b.take i).map (λs=>Nb s [])=pre at *
  have b1:=Aq s;have b2:=JK s [];have b3:=λnid h=>dz (.sl 2 [[.str s,.str []]] .full) nid h rfl rfl rfl
  repeat' first|simp only[go_sem, *]|apply bc<;>intro j
  refine q.appH (ys:=qJ [Nb s []]) uc p7 uT ow (rE _) (by simp[qJ]) (by rw[ym,tt,B];unfold lim;simp[qJ];omega) (by rw[ym,B];unfold lim;simp[qJ];omega) λY h' H=> ?_;have S:Own h h' 1 (qJ (pre++ [Nb s []])) Y:=by
   have:qJ (pre++ [Nb s []])=qJ pre++qJ [Nb s []]:=by simp[qJ]
   rw[this];exact H
  clear q H
  repeat' first|simp only[go_sem, *]|apply bc<;>intro j
  exact⟨_,rfl,S⟩
 ·rintro fr O Z ⟨o,K,L,N,f6,q⟩;rw[zb]at q;have m:=YS q.isSl (by simpa using G) (by rw[zI];omega) (λa ha=>by
   obtain⟨s,_,rfl⟩:=zT.1 ha;exact Cy s [])
  have F:yO ((b.map λs=>Nb s []).map Alt.ts)=yO ((pz c z).map λs=>[⟨s,[]⟩]):=by
   rw[qm];exact bC (I.map _)
  rw[F]at m;have D:yO ((pz c z).map λs=>[⟨s,[]⟩])≠[]:=XF (by simpa using p);have E:(yO ((pz c z).map λs=>[⟨s,[]⟩])).length<=1048576:=by
   refine za (gQ _) ?_;rw[zI];omega
  generalize yO ((pz c z).map λs=>[⟨s,[]⟩])=M at *
  have f:=QZ E;rw[aV]at f;have t:∀h',Ext h h'->Q (WH (szd M)) h':=λh' he=>R _ _ ⟨he,by rw[(kU _ 0).1];exact(kU _ _).2,by rw[(kU _ 0).1]⟩;have u:=q.1;clear R F I l p G q;have v:∀r,Fin 1 (qJ (M.map mkA)) r->r=.sl 1 (qJ (M.map mkA)) .no:=λr hr=>by
   rcases hr with⟨_,e⟩ |e
   ·exact absurd (by simpa [qJ]using e) D
   ·exact e
  repeat' first|simp only[go_sem, *]|apply bc<;>intro j
  refine(m _).mono ?_;rintro r h3 ⟨k,hr⟩;subst k;have T:=v r hr;subst T;have k:=t _ u;clear t hr m u D E;cases X:szd M with
  |none=>
   rw[X]at f k;simp only[WH]at f k
   repeat' first|simp only[go_sem, *]|apply bc<;>intro j|refine zB.use (f _) ?_
  |some M'=>
   rw[X]at f k;simp only[WH]at f k
   repeat' first|simp only[go_sem, *]|apply bc<;>intro j|refine zB.use (f _) ?_
def Kh{l:List (List Trm)}(h0:l≠[]){r:D}(hr:Fin 1 (qJ (l.map mkA)) r):r=.sl 1 (qJ (l.map mkA)) .no:=by
 rcases hr with⟨_,e⟩ |e
 ·exact absurd (by simpa [qJ]using e) h0
 ·exact e
def UC{m:Nat}{l:List (List Trm)}(h:∀t∈l,t≠[]/\t.length<=m)(b:m<=4096):∀q∈l.map mkA,q.Ok:=λq c=>by
 obtain⟨t,a,rfl⟩:=zT.1 c;exact NX (h t a).1 (za (h t a).2 b)
def Ef(l:List (List Trm)):(l.map mkA).map Alt.ts=l:=by rw[qm];exact List.map_id _
structure MInv(c:Cat)(k:Int)(l:List Ex)(R:Option (List (List Trm)))(g:Heap)(i:Nat)(out:List (List Trm))(o:D)(h:Heap):Prop where
 hE:Ext g h
 hK:oK c k (l.drop i) (i==0) out=R
 hor:k=3->Own g h 1 (qJ (out.map mkA)) o
 hand:k≠3->(i=0/\out= [])\/(out≠[]/\o=.sl 1 (qJ (out.map mkA)) .no/\out.length<=64)
 hts:∀t∈out,t≠[]/\t.length<=yt (l.take i)
 hol:out.length<=64*i+64
theorem Lu(D:uM c d)(hs:c.Sm):∀(n:Nat)(e:Ex),e.size<=n->e.size<=64->e.Fit c->e.Ok->∀g:Heap,
  zB prog 148 [d,.agg e.cells] g λr h'=>h'=g/\r=fe c e:=by
 intro n
 induction n with
 |zero=>intro e h;cases e;simp only[Ex.size]at h;omega
 |succ n ih=>
 intro e hn W J S g;obtain⟨k,nm,x,l,dd⟩:=e;have I:(Ex.mk k nm x l dd).cells= [.int .i64 k,.str nm,.str x,dd]:=rfl;rw[I];simp only[Ex.size]at hn W;have F:∀(i:Nat)(hi:i<l.length),l[i].Fit c/\l[i].Ok/\∀g:Heap,zB prog 148 [d,.agg l[i].cells] g λr h'=>h'=g/\r=fe c l[i]:=λi hi=>by
  have Z:=zG hi;have h1:l[i].Fit c:=J.kid (e:=.mk k nm x l dd) Z;have h2:l[i].Ok:=pS (by simp only[Ex.Ok]at S;exact S.2.2.2.2) _ Z;have h3:=uP Z;exact⟨h1,h2,ih _ ow ow h1 h2⟩
 rcases Zm J with⟨hk,hl,hx,y,hy⟩ | ⟨hk,b7⟩
 ·rcases hk with rfl|rfl
  ·refine(MK D (n:=nm) (x:=x) (y:=dd) g).mono λr h' ⟨q1,q2⟩=>⟨q1,?_⟩;rw[q2];simp[fe,rB]
  ·refine(ML D hs hy (x:=x) (y:=dd) g).mono λr h' ⟨q1,q2⟩=>⟨q1,?_⟩;rw[q2];simp[fe,rB,hy]
 have e0:(k==0)=false:=by rcases hk with rfl|rfl<;>rfl
 have e1:(k==1)=false:=by rcases hk with rfl|rfl<;>rfl
 have hR:rB c (.mk k nm x l dd)=match oK c k l true []with
  |none=>none
  |some out=>szd (yO out):=by rw[rB,iq (by rw[e0];exact zf),iq (by rw[e1];exact zf)];try (cases oK c k l true []<;>rfl)
 have N:∀R,oK c k l true []=some R->AltsOk 64 R/\R.length<=64*l.length:=λR hR=>by
  have:=(Qy (c:=c) (yt l)).2 k l (zD _) (λe he=>J.kid (e:=.mk k nm x l dd) he) 0 true [] R (λt V=>by cases V) (by simp) (λe=>by subst e;simp at b7) hR;exact⟨this.1.mono ow,by simpa using this.2⟩
 have cl:l.length<=64:=by
  have:∀l:List Ex,l.length<=yt l:=λl=>by
   induction l with
   |nil=>simp
   |cons e l ih=>simp only[yt,zm];cases e;simp only[Ex.size];omega
  have:=this l;omega
 have a5:ye 4 (exs l) dd:=by simp only[Ex.Ok]at S;exact S.1
 have z:=λ(e:Ex) (he:e.Fit c) (l:List (List Trm)) (hl:rB c e=some l)=>(Qy (c:=c) e.size).1 e (zD _) he l hl;have a2:∀i (hi:i<l.length),yt (l.take (i+1))=yt (l.take i)+l[i].size/\yt (l.take (i+1))<=yt l:=λi hi=>by
  have app:∀a b:List Ex,yt (a++b)=yt a+yt b:=λa b=>by
   induction a with
   |nil=>simp[yt]
   |cons e a ih=>simp only[z9,yt,ih];omega
  refine⟨by rw[zH hi,app];simp[yt],?_⟩;have:=app (l.take (i+1)) (l.drop (i+1));rw[yp]at this;omega
 obtain⟨R,eR⟩:∃R,oK c k l true []=R:=⟨_,rfl⟩;refine xU kr λcg=>xS ?_;refine xP λQ hQ=> ?_;have p:∀h',Ext g h'->Q (fe c (.mk k nm x l dd)) h':=λh' he=>hQ _ _ ⟨he,by unfold fe;rw[(kU _ 0).1];exact(kU _ _).2,by unfold fe;rw[(kU _ 0).1]⟩;unfold fe at p;rw[hR,eR]at p;rw[eR]at N;clear hQ hR J S ih I;obtain⟨ca,cb,ce,cp,rfl,_,_,_,_⟩:=D;have cf:=pR a5;have b5:=Own.start (Ext.refl g) 1;refine z5 Hv ?_;simp only[f148,zA]
 repeat' first|simp only[go_sem, *]|apply bc<;>intro D
 refine zV (λi fr h=>∃out o,fr 2=.iptr [ca,cb,ce,cp] 0/\fr 3=.iptr [.int .i64 k,.str nm,.str x,dd] 0/\fr 54=dd/\fr 55=.int .i64 (l.length:Int)/\fr 56=.int .i64 (i:Int)/\fr 6=o/\MInv c k l R g i out o h) l.length ow ?_ ?_ ?_
 ·have h0:MInv c k l R g 0 [] .nilsl g:=⟨Ext.refl g,eR,λ_=>b5,λ_=>.inl ⟨rfl,rfl⟩,λt V=>(by cases V),by simp⟩;simp only[go_sem,zQ,zS,zF];exact⟨_,_,rfl,h0⟩
 ·rintro i fr h Y ec ew ⟨out,o,f2,f3,b1,b3,b4,f6,⟨hE,j,T,s,w,ab⟩⟩;have a1:=kG a5 Y;obtain⟨kf,ko,kc⟩:=F i Y;obtain⟨s1,s2⟩:=a2 i Y;have b9:=Jq l[i] (Ex.flat ko) h h.next;have K:=hE.new hE.1 (.row l[i].cells);have bk:(h.new h.next (.row l[i].cells)).at' h.next=some (.row l[i].cells):=yQ _ _ _;rw[z6 Y,oK]at j;have ad:=z _ kf;have ag:Ext h (h.new h.next (.row l[i].cells)):=(Ext.refl h).new (zD _) _;have A:k=3->Own g (h.new h.next (.row l[i].cells)) 1 (qJ (out.map mkA)) o:=λe=>(T e).ext ag;generalize hy:l[i]=y at *
  simp only[Ex.cells]at a1 kc b9 K bk A ag;generalize hH:h.new h.next (.row [.int .i64 y.kind,.str y.name,.str y.exc,y.d])=H at *
  clear F a2 z T;have a7:((i:Int)==0)=(i==0):=by cases i<;>rfl
  have ch:(i+1==0)=false:=rfl;cases Z:rB c y with
  |none=>
   rw[Z]at j;simp only at j;have m:=p H K;rw[<-j]at m;simp only[WH]at m;have O:fe c y=.tuple [.nilsl,.int .i64 10]:=by unfold fe;rw[Z];rfl
   rw[O]at kc;clear O p A s w j
   repeat' first|simp only[go_sem, *]|apply bc<;>intro D|(refine zB.mono (kc _) ?_;rintro r h ⟨m,rfl⟩)
  |some C=>
   rw[Z]at j;simp only at j;obtain⟨W,u⟩:=ad C Z;have O:fe c y=.tuple [.sl 1 (qJ (C.map mkA)) .no,.int .i64 0]:=by unfold fe;rw[Z];rfl
   rw[O]at kc;clear O ad;cases q3:(k==3)with
   |true=>
    rw[ip q3]at j;have v:k=3:=by simpa using q3
    have bb:=A v;clear s A p
    repeat' first|simp only[go_sem, *]|apply bc<;>intro D|(refine zB.mono (kc _) ?_;rintro r h ⟨m,rfl⟩)
    subst m;refine bb.appH (ys:=qJ (C.map mkA)) uc p7 uT ow (rE _) (by simpa [qJ]using u.ne) (by rw[ym,ym,zI,zI,tt];unfold lim;omega) (by rw[ym,ym,zI,zI];unfold lim;omega) λd' h' a9=> ?_;have a0:Own g h' 1 (qJ ((out++C).map mkA)) d':=by
     have:qJ ((out++C).map mkA)=qJ (out.map mkA)++qJ (C.map mkA):=by simp[qJ]
     rw[this];exact a9
    have B:MInv c k l R g (i+1) (out++C) d' h':=⟨a0.1,j,λ_=>a0,λq=>absurd v q,λt V=>by
     rcases yD.1 V with q|q
     ·exact⟨(w t q).1,za (w t q).2 ow⟩
     ·exact⟨(u.ts t q).1,za (u.ts t q).2 ow⟩,by rw[zM];omega⟩
    clear a9 bb j w ab u a0 v
    repeat' first|simp only[go_sem, *]|apply bc<;>intro D
    exact⟨_,_,rfl,B⟩
   |false=>
    rw[iq (by rw[q3];exact zf)]at j;have v:k≠3:=by simpa using q3
    have E:=s v;clear s A;cases q0:(i==0)with
    |true=>
     rw[ip q0]at j;have B:MInv c k l R g (i+1) C (.sl 1 (qJ (C.map mkA)) .no) H:=⟨K,j,λq=>absurd q v,λ_=>.inr ⟨u.ne,rfl,W⟩,λt V=>⟨(u.ts t V).1,za (u.ts t V).2 ow⟩,by omega⟩;clear j w ab u E p;rw[q0]at a7
     repeat' first|simp only[go_sem, *]|apply bc<;>intro D|(refine zB.mono (kc _) ?_;rintro r h ⟨m,rfl⟩)
     subst m;exact⟨_,_,rfl,B⟩
    |false=>
     rw[iq (by rw[q0];exact zf)]at j;rw[q0]at a7;obtain⟨ai,ho,ba⟩:out≠[]/\o=.sl 1 (qJ (out.map mkA)) .no/\out.length<=64:=by
      rcases E with⟨q,_⟩ |q
      ·subst q;exact absurd q0 (by decide)
      ·exact q
     subst ho;have U:=AltsOk.pairs ⟨ai,w⟩ u;have bx:=UC w ow;have b0:=UC u.ts ow;have a4:=DX (ye.mk (sz:=1) (xs:=qJ (out.map mkA)) .no) (ye.mk (sz:=1) (xs:=qJ (C.map mkA)) .no);have ak:=MF (ye.mk (sz:=1) (xs:=qJ (out.map mkA)) .no) (ye.mk (sz:=1) (xs:=qJ (C.map mkA)) .no) bx b0 (by rw[zI];omega) (by rw[zI];omega);have bd:gT (out.map mkA) (C.map mkA)=pZ out C:=rfl;rw[bd]at ak;have cm:(pZ out C).length<=4096:=by
      rw[Wr];exact za (dD ba W) ow
     have G:=YS (ye.mk (sz:=1) (xs:=qJ ((pZ out C).map mkA)) .no) (by simpa using U.ne) (by rw[zI];omega) (UC U.ts ow);rw[Ef]at G;have z:=U.min;have a8:=z.ne;have au:(yO (pZ out C)).length<=1048576:=za (gQ _) ow;have a6:=λr hr=>Kh U.ne (r:=r) hr;have L:=λr hr=>Kh z.ne (r:=r) hr;generalize pZ out C=P at *
     generalize hM:yO P=M at *
     have f:=QZ au;rw[aV]at f;clear bd U bx b0 w ab u E ai
     repeat' first|simp only[go_sem, *]|apply bc<;>intro D|(refine zB.mono (kc _) ?_;rintro r h ⟨m,rfl⟩)
     subst m;clear kc;refine(a4 _).mono ?_;rintro r h1 ⟨m,rfl⟩;subst m;clear a4
     repeat' first|simp only[go_sem, *]|apply bc<;>intro D
     refine(ak _).mono ?_;rintro r h2 ⟨m,hr⟩;subst m;have hr:=a6 r hr;subst hr;clear ak
     repeat' first|simp only[go_sem, *]|apply bc<;>intro D
     refine(G _).mono ?_;rintro r h3 ⟨m,hr⟩;subst m;have hr:=L r hr;subst hr;clear G a6 L;cases hz:szd M with
     |none=>
      rw[hz]at j f;simp only at j;have m:=p _ K;rw[<-j]at m;simp only[WH]at m f;clear p j z a8
      repeat' first|simp only[go_sem, *]|apply bc<;>intro D|refine zB.use (f _) ?_
     |some M'=>
      obtain⟨rfl,a3⟩:=nj hz;rw[hz]at j f;simp only at j;simp only[WH]at f;have B:MInv c k l R g (i+1) M' (.sl 1 (qJ (M'.map mkA)) .no) h3:=⟨K,j,λq=>absurd q v,λ_=>.inr ⟨a8,rfl,a3⟩,λt V=>by rw[s1];exact z.ts t V,by omega⟩;clear p j z
      repeat' first|simp only[go_sem, *]|apply bc<;>intro D|refine zB.use (f _) ?_
      exact⟨_,_,rfl,B⟩
 ·rintro fr h ec ⟨out,o,f2,f3,b1,b3,b4,f6,⟨hE,j,T,s,w,ab⟩⟩;have b6:l.drop l.length= []:=tr;rw[b6,oK]at j;obtain⟨X,cc⟩:=N out j.symm;have bs:ye 1 (qJ (out.map mkA)) o:=by
   by_cases v:k=3
   ·exact(T v).isSl
   ·rcases s v with⟨q,_⟩ | ⟨_,q,_⟩
    ·omega
    ·rw[q];exact ye.mk .no
  have G:=YS bs (by simpa using X.ne) (by rw[zI];omega) (UC X.ts ow);rw[Ef]at G;have L:=λr hr=>Kh X.min.ne (r:=r) hr;have au:(yO out).length<=1048576:=za (gQ _) ow;have f:=QZ au;rw[aV]at f;have m:=p _ hE;rw[<-j]at m;simp only at m;clear p N T s w X bs F z a2 j;generalize yO out=M at *
  repeat' first|simp only[go_sem, *]|apply bc<;>intro D
  refine(G _).mono ?_;rintro r h3 ⟨b8,hr⟩;subst b8;have hr:=L r hr;subst hr;clear G L;cases hz:szd M with
  |none=>
   rw[hz]at f m;simp only[WH]at m f
   repeat' first|simp only[go_sem, *]|apply bc<;>intro D|refine zB.use (f _) ?_
  |some M'=>
   rw[hz]at f m;simp only[WH]at m f
   repeat' first|simp only[go_sem, *]|apply bc<;>intro D|refine zB.use (f _) ?_
def ofD(c:Cat)(e:Ex):D:=if(tT c e==0)=true then fe c e else .tuple [.nilsl,.int .i64 (tT c e)]
def DG(i:uM c d)(o:c.Sm)(k:e.Ok)(m:e.size<=1048576)(g:Heap):
  zB prog 96 [d,.agg e.cells] g λr h'=>h'=g/\r=ofD c e:=by
 have b:=YR i o k m;have j:=λ(h:tT c e=0)=>Lu i o e.size e (zD _) (Tb h).2.1 (Tb h).2.2 k;obtain⟨s,t,ce,u,rfl,_,_,_,_⟩:=i;refine xP λQ p=> ?_;have f:=p (ofD c e) g ⟨rfl,rfl⟩;unfold ofD at f;simp only[Ex.cells]at b j⊢;refine z5 zJZ ?_;simp only[f96,zA];cases q:(tT c e==0)with
 |false=>
  rw[iq (by rw[q];exact zf)]at f
  repeat' first|simp only[go_sem, *]|apply bc<;>intro i|refine zB.use (b _) ?_
 |true=>
  rw[ip q]at f;have a:=j (by simpa using q);unfold fe at f a;cases n:rB c e with
  |none=>
   rw[n]at f a;simp only[WH]at f a
   repeat' first|simp only[go_sem, *]|apply bc<;>intro i|refine zB.use (b _) ?_|refine zB.use (a _) ?_
  |some l=>
   rw[n]at f a;simp only[WH]at f a
   repeat' first|simp only[go_sem, *]|apply bc<;>intro i|refine zB.use (b _) ?_|refine zB.use (a _) ?_
def IU(l:List (List Trm)):D:=.sl 1 (qJ (l.map mkA)) .no
def R0(l:List (List (List Trm))):List (List D):=l.map λa=>[IU a]
def mJ(l:List (List (List Trm))):(R0 l).length=l.length:=zI ..
def Im{l:List (List (List Trm))}(h:i<l.length):(R0 l)[i]? =some [IU l[i]]:=by simp[R0,h]
def In(l:List (List (List Trm))):∀x∈R0 l,x.length=1:=λx a=>by
 obtain⟨s,_,rfl⟩:=zT.1 a;rfl
def MA(l:List (List (List Trm))):∀x∈R0 l,sH x:=λx b=>by
 obtain⟨s,_,rfl⟩:=zT.1 b;obtain⟨h1,a⟩:=VA s;exact⟨rfl,by simp only[qZ];exact⟨a,trivial⟩,by simp only[wU,IU];rw[h1]⟩
def Hl{l:List (List (List Trm))}(a:ye 1 (R0 l) d)(h:Heap):js prog 96 d h=some (.int .i64 l.length):=by rw[uV a underlying96,mJ]
def DE{l:List (List (List Trm))}(a:ye 1 (R0 l) d)(b:i<l.length):yP prog 96 d (.int .i64 (i:Int))=some (.iptr [IU l[i]] 0):=qA a fJ Xj (Im b)
def nK(c:Cat)(e:Ex):Int:=if(tT c e==0)=true then(match rB c e with
 |some _=>0
 |none=>10)else tT c e
def ofL(c:Cat)(e:Ex):List (List Trm):=(rB c e).getD []
abbrev Ad:=List (List (List Trm)) ×List (List UInt8) ×Int
def bl(c:Cat):List Fac->List (List (List Trm))->List (List UInt8)->Ad
 | [],t,o=>(t,o,0)
 |f::fs,t,o=>if(f.kind==1)=true then(if(nK c f.e==0)=true then bl c fs (t++ [ofL c f.e]) o else([],[],nK c f.e))
  else if(f.kind==2)=true then bl c fs t (if(o.any (· ==f.out))=true then o else o++ [f.out])else bl c fs t o
def wZ(c:Cat)(l:List Fac):Ad:=if(!((uC c l).2==0))=true then([],[],(uC c l).2)else bl c l [] []
def zCs(h:(nK c e==0)=true):ofD c e=.tuple [IU (ofL c e),.int .i64 0]:=by
 unfold nK at h;unfold ofD ofL fe;split at h
 ·rename_i q;rw[ip q];split at h
  ·rename_i l a;rw[a];rfl
  ·exact absurd h (by decide)
 ·rename_i q;exact absurd h q
def Cv(h:(nK c e==0)=false):ofD c e=.tuple [.nilsl,.int .i64 (nK c e)]:=by
 unfold nK at h⊢;unfold ofD fe;split at h
 ·rename_i q;rw[ip q,ip q];split at h
  ·exact absurd h (by decide)
  ·rename_i a;rw[a];rfl
 ·rename_i q;rw[iq q,iq q]
def Cz(a:List (List Trm))(nid:Nat)(h:Heap):yB prog false nid 96 1 [(0,IU a)] h=some (.sl 1 [[IU a]] .full,h):=
 wP (P:=prog) (x:=IU a) fJ N6 Xj rfl rfl ow ow rfl rfl
structure ValI(c:Cat)(l:List Fac)(R:Ad)(g:Heap)(i:Nat)(t:List (List (List Trm)))(o:List (List UInt8))(td od:D)(h:Heap):Prop where
 own:Own2 g h 1 (R0 t) td 1 (uH o) od
 eq:bl c (l.drop i) t o=R
 tl:t.length<=i
 ol:o.length<=i
theorem HL(q:uM c d)(hs:c.Sm){l:List Fac}(Z:ye 12 (dj l) x)(hl:l.length<=1048576)(z:∀f∈l,f.Ok)(g:Heap):
  zB prog 49 [d,x] g λr h'=>h'=g/\∃u s,r=.tuple [u,s,.int .i64 (wZ c l).2.2]/\Fin 1 (R0 (wZ c l).1) u/\Fin 1 (uH (wZ c l).2.1) s:=by
 have B:=QB q hs Z hl z;have V:=λf (hf:f∈l)=>DG q hs (z f hf).e (z f hf).es;have ab:=rh Z;have ag:=cH;obtain⟨ca,cb,ce,cp,rfl,_,_,_,_⟩:=q;refine xU kr λad=>xS ?_;refine xP λQ K=> ?_;have T:=Own2.start (Ext.refl g) 1 1;refine z5 zJE ?_;simp only[f49,zA];cases q1:((uC c l).2==0)with
 |false=>
  have E:wZ c l=([],[],(uC c l).2):=by unfold wZ;rw[q1];rfl
  have A:=K (.tuple [.nilsl,.nilsl,.int .i64 (uC c l).2]) g ⟨Ext.refl g,by simp[wD,wU,below,qZ],.nilsl,.nilsl,by rw[E];rfl,.inl ⟨rfl,by rw[E];rfl⟩,.inl ⟨rfl,by rw[E];rfl⟩⟩
  repeat' first|simp only[go_sem, *]|apply bc<;>intro q|refine zB.use (B _) ?_
 |true=>
 have E:wZ c l=bl c l [] []:=by unfold wZ;rw[q1];rfl
 obtain⟨R,eR⟩:∃R,bl c l [] []=R:=⟨_,rfl⟩;rw[E,eR]at K
 repeat' first|simp only[go_sem, *]|apply bc<;>intro q|(refine zB.mono (B _) ?_;rintro r h ⟨A,rfl⟩)
 refine zV (λi fr h=>∃t o u s,fr 2=.iptr [ca,cb,ce,cp] 0/\fr 24=x/\fr 25=.int .i64 (l.length:Int)/\fr 26=.int .i64 (i:Int)/\fr 9=u/\fr 10=s/\ValI c l R g i t o u s h) l.length ow ?_ ?_ ?_
 ·have h0:ValI c l R g 0 [] [] .nilsl .nilsl g:=⟨T,eR,zD _,zD _⟩;simp only[go_sem,zQ,zS,zF];exact⟨_,_,_,_,rfl,rfl,h0⟩
 ·clear B;rintro i fr w y ec ew ⟨t,o,u,s,f2,O,P,S,f9,N,⟨n,m,Y,W⟩⟩;have a1:=wR Z y;have U:=z _ (zG y);have v:=V _ (zG y);have X:=Rc U w w.next;rw[z6 y,bl]at m;have J:(w.new w.next (.row l[i].cells)).at' w.next=some (.row l[i].cells):=yQ _ _ _;have j:=n.ext ((Ext.refl w).new (zD _) (.row l[i].cells));have p:=λ(h:Heap)=>kx n.b.isSl (by omega:o.length<=1048576) l[i].out h;generalize l[i]=f at *
  simp only[Fac.cells,Ex.cells]at a1 X J j v;generalize hH:w.new w.next (.row [.int .i64 f.kind,.str f.comp,.str f.out,.int .i64 f.rel,.int .i64 f.way,.int .i64 f.duty,.bool f.chg,.int .i64 f.e.kind,.str f.e.name,.str f.e.exc,f.e.d,f.d])=H at *
  have ai:yN true 4 [.int .i64 f.kind,.str f.comp,.str f.out,.int .i64 f.rel,.int .i64 f.way,.int .i64 f.duty,.bool f.chg,.int .i64 f.e.kind,.str f.e.name,.str f.e.exc,f.e.d,f.d] 7=some (.agg [.int .i64 f.e.kind,.str f.e.name,.str f.e.exc,f.e.d]):=rfl;cases q2:(f.kind==1)with
  |true=>
   rw[ip q2]at m;cases D:(nK c f.e==0)with
   |true=>
    rw[ip D]at m;rw[zCs D]at v;have I:=Cz (ofL c f.e)
    repeat' first|simp only[go_sem, *]|apply bc<;>intro q|(refine zB.mono (v _) ?_;rintro r h ⟨A,rfl⟩)
    subst A;refine j.appH (zs:=R0 [ofL c f.e]) fJ IP Xj ow (In _) (by simp[R0]) (by rw[mJ,mJ,U3];unfold lim;simp;omega) (by rw[mJ,mJ];unfold lim;simp;omega) λM h' C=> ?_;have k:ValI c l R g (i+1) (t++ [ofL c f.e]) o M s h':=⟨by
     have:R0 (t++ [ofL c f.e])=R0 t++R0 [ofL c f.e]:=by simp[R0]
     rw[this];exact C,m,by simp;omega,by omega⟩
    repeat' first|simp only[go_sem, *]|apply bc<;>intro q
    exact⟨_,_,_,_,rfl,rfl,k⟩
   |false=>
    rw[iq (by rw[D];exact zf)]at m;rw[Cv D]at v;have A:=K (.tuple [.nilsl,.nilsl,.int .i64 (nK c f.e)]) H ⟨j.a.1,by simp[wD,wU,below,qZ],.nilsl,.nilsl,by rw[<-m];rfl,.inl ⟨rfl,by rw[<-m];rfl⟩,.inl ⟨rfl,by rw[<-m];rfl⟩⟩
    repeat' first|simp only[go_sem, *]|apply bc<;>intro q|refine zB.use (v _) ?_
  |false=>
   rw[iq (by rw[q2];exact zf)]at m;cases D:(f.kind==2)with
   |true=>
    rw[ip D]at m;cases L:(o.any (· ==f.out))with
    |true=>
     rw[ip L]at m;rw[L]at p;have k:ValI c l R g (i+1) t o u s H:=⟨j,m,by omega,by omega⟩
     repeat' first|simp only[go_sem, *]|apply bc<;>intro q|(refine zB.mono (p _) ?_;rintro r h ⟨A,rfl⟩)
     subst A;exact⟨_,_,_,_,rfl,rfl,k⟩
    |false=>
     rw[iq (by rw[L];exact zf)]at m;rw[L]at p;have I:=jN f.out
     repeat' first|simp only[go_sem, *]|apply bc<;>intro q|(refine zB.mono (p _) ?_;rintro r h ⟨A,rfl⟩)
     subst A;refine j.swap.appH (zs:=uH [f.out]) t5 VN md ow UX (by simp[uH]) (by rw[wK,kw];unfold lim;simp[uH];omega) (by rw[wK];unfold lim;simp[uH];omega) λM h' C=> ?_;have k:ValI c l R g (i+1) t (o++ [f.out]) u M h':=⟨by
      have:uH (o++ [f.out])=uH o++uH [f.out]:=by simp[uH]
      rw[this];exact C.swap,m,by omega,by simp;omega⟩
     repeat' first|simp only[go_sem, *]|apply bc<;>intro q
     exact⟨_,_,_,_,rfl,rfl,k⟩
   |false=>
    rw[iq (by rw[D];exact zf)]at m;have k:ValI c l R g (i+1) t o u s H:=⟨j,m,by omega,by omega⟩
    repeat' first|simp only[go_sem, *]|apply bc<;>intro q
    exact⟨_,_,_,_,rfl,rfl,k⟩
 ·rintro fr w ec ⟨t,o,u,s,f2,O,P,S,f9,N,⟨n,m,Y,W⟩⟩;rw[tr,bl]at m;have F:=n.a.2.1.fin (MA t);have G:=n.b.2.1.fin (sw (l:=o));have A:=K (.tuple [u,s,.int .i64 0]) w ⟨n.a.1,by
   simp only[wD,wU,below,qZ];exact⟨qw (yg _) _ F.1,qw (yg _) _ G.1,trivial,trivial⟩,wD u,wD s,by rw[<-m];rfl,by rw[<-m];exact F.2,by rw[<-m];exact G.2⟩
  exact au
def cJ(a b:List Trm):Bool:=ZB yI a b==0
def oX(a b:List Trm):cJ a b=true↔a=b:=by
 unfold cJ;constructor
 ·intro h;exact Vx mO _ _ (by simpa using h)
 ·rintro rfl;simp[sI.list.refl]
def J1(x y:Trm)(c:Bool):fV prog .neq 112 c (.agg [.str x.a,.str x.b]) (.agg [.str y.a,.str y.b])=some (.bool (!(yI x y==0))):=by
 have d:eqT prog 112=some [.s,.s]:=kr;rw[kI];simp only[fV,d,LD,eqK,qo,qd,oA]
def I0{a b:List Trm}(B:ye 2 (wW a) x)(C:ye 2 (wW b) y)(K:a.length<=1048576)(g:Heap):
  zB prog 52 [x,y] g λr h'=>h'=g/\r=.bool (cJ a b):=by
 have L:=wT B;have M:=wT C;refine xP λQ s=> ?_;have j:=s _ _ ⟨rfl,rfl⟩;clear s;refine z5 zJH ?_;simp only[f52,zA];cases q:((a.length:Int)==(b.length:Int))with
 |false=>
  have p:cJ a b=false:=by
   cases h:cJ a b with
   |false=>rfl
   |true=>rw[(oX _ _).1 h]at q;simp at q
  rw[p]at j;simp only[go_sem, *]
 |true=>
 have o:a.length<=b.length/\b.length<=a.length:=by have:=zg q;omega
 obtain⟨t,w⟩:=o;simp only[go_sem, *];refine zV (λi fr h=>fr 0=x/\fr 1=y/\fr 12=.int .i64 (a.length:Int)/\fr 13=.int .i64 (i:Int)/\h=g/\a.take i=b.take i) a.length ow ?_ ?_ ?_
 ·simp only[go_sem,zQ,zS,zF];rfl
 ·rintro i fr h f F J ⟨G,H,l,m,rfl,d⟩;have c:i<b.length:=ow;have D:=rA B f;have E:=rA C c;have z:=J1 a[i] b[i];have h1:∀(e:(yI a[i] b[i]==0)=true),a.take (i+1)=b.take (i+1):=λe=>by
   have I:=mO a[i] b[i] (by simpa using e);rw[zH f,zH c,d,I]
  have n:∀(e:(yI a[i] b[i]==0)=false),cJ a b=false:=λe=>by
   cases h:cJ a b with
   |false=>rfl
   |true=>
    have:=(oX _ _).1 h;subst this;rw[sI.refl]at e;exact absurd e (by decide)
  generalize a[i]=u at *
  generalize b[i]=v at *
  simp only[Trm.cells]at D E;cases k:(yI u v==0)with
  |true=>
   have A:=h1 k;rw[k]at z;clear h1 n d j;simp only[go_sem, *];refine zd kr ?_;simp only[go_sem, *]
  |false=>
   rw[n k]at j;rw[k]at z;clear h1 n d;simp only[go_sem, *];refine zd kr ?_;exact au
 ·rintro fr h F ⟨G,H,l,m,rfl,d⟩
  have:a=b:=by
   rw[zb,show a.length=b.length by omega,zb]at d;exact d
  rw[(oX _ _).2 this]at j;clear d this;exact au
def zF1{a b:List Trm}(e:ye 2 (wW a) x)(f:ye 2 (wW b) y)(d:a.length<=1048576)(h:g.at' id=some (.row [x])):
  zB prog 51 [y,.ptr id 0] g λr h'=>h'=g/\r=.bool (cJ a b):=by
 have c:=I0 e f d;refine z5 zJG ?_;simp only[f51,zA]
 repeat' first|simp only[go_sem, *]|apply bc<;>intro c|refine zB.use (c _) ?_
def TE{l:List Lic}(n:ye 4 (jJ l) d)(C:l.length<=1048576){p:Lic->Bool}(z:∀s∈l,zB prog f ([]++ [.agg s.cells]++cap) g λr h'=>h'=g/\r=.bool (p s)):
  zB prog 98 [d,.fn (.func f) [] cap] g λr h'=>h'=g/\r=.int .i64 (cK p l):=by
 have o:=pK n;refine z5 zJb ?_;simp only[f98,zA]
 repeat' first|simp only[go_sem, *]|apply bc<;>intro m
 refine zV (λi fr h=>fr 1=.fn (.func f) [] cap/\fr 0=d/\fr 6=d/\fr 7=.int .i64 (l.length:Int)/\fr 8=.int .i64 (i:Int)/\h=g/\∀j (b:j<l.length),j<i->p l[j]=false) l.length ow ?_ ?_ ?_
 ·simp only[go_sem,zQ,zS,zF];exact λj b h0=>by omega
 ·rintro i fr h a e1 B ⟨u,t,v,w,x,rfl,b⟩;have q:=pu n a;have e:=z _ (zG a);simp only[yT,z9,Lic.cells]at e;simp only[Lic.cells]at q;cases k:p l[i]with
  |true=>
   have A:=lX a b k;rw[k]at e
   repeat' first|simp only[go_sem, *]|apply bc<;>intro m|refine zB.use e ?_
  |false=>
   have y:=qp (p:=p) a b k;rw[k]at e
   repeat' first|simp only[go_sem, *]|apply bc<;>intro m|refine zB.use e ?_
   exact y
 ·rintro fr h e1 ⟨u,t,v,w,x,rfl,b⟩;have A:=lY (p:=p) λj c=>b j c c;exact au
def YM{l:List Lic}(b:ye 4 (jJ l) d)(e:l.length<=1048576){p:Lic->Bool}(h:∀s∈l,zB prog f ([]++ [.agg s.cells]++cap) g λr h'=>h'=g/\r=.bool (p s)):
  zB prog 53 [d,.fn (.func f) [] cap] g λr h'=>h'=g/\r=.bool (l.any p):=by
 have a:=TE b e h;have c:=jE (l:=l) (p:=p);refine z5 zJI ?_;simp only[f53,zA]
 repeat' first|simp only[go_sem, *]|apply bc<;>intro i|refine zB.use a ?_
def zF2(x:Lic)(s:List UInt8)(a:g.at' id=some (.row [.str s])):
  zB prog 54 [.agg x.cells,.ptr id 0] g λr h'=>h'=g/\r=.bool (x.name==s):=by
 refine z5 zJJ ?_;simp only[f54,zA];simp only[Lic.cells];exact au
structure Cho where
 ts:List Alt
 own:List (List UInt8)
structure Alt.Sm(a:Alt):Prop where
 sl:ye 2 (wW a.ts) a.d
 len:a.ts.length<=1048576
def ZR(y:Cho)(d:D):Prop:=∃a b,d=.agg [a,b]/\ye 1 (qJ y.ts) a/\ye 1 (uH y.own) b
structure Cho.Sm(y:Cho):Prop where
 tl:y.ts.length<=1048576
 ol:y.own.length<=1048576
 ts:∀a∈y.ts,a.Sm
def nk(v:List (List (List Trm)))(ts:List Alt)(p:Bool)(i:Nat):Int:=match ts[i]? with
 |none=>0
 |some a=>if(p&&((a.ts.length:Int)==0))=true then 0 else if(!((v.getD i []).any λb=>cJ a.ts b))=true then 1 else 0
def RE(c:Cat)(own:List (List UInt8))(p:Bool)(i:Nat):Int:=match own[i]? with
 |none=>0
 |some s=>if(p&&(s== []))=true then 0 else if(!(c.ls.any λx=>x.name==s))=true then 7 else 0
def qR(c:Cat)(l:List Fac)(y:Cho)(p:Bool):Int:=
 if(!((wZ c l).2.2==0))=true then(wZ c l).2.2
 else if(!((y.ts.length:Int)==((wZ c l).1.length:Int))|| !((y.own.length:Int)==((wZ c l).2.1.length:Int)))=true then 9
 else if(!(ml (nk (wZ c l).1 y.ts p) y.ts.length==0))=true then ml (nk (wZ c l).1 y.ts p) y.ts.length
 else ml (RE c y.own p) y.own.length
def zCu(h:(nK c e==0)=true):(ofL c e).length<=64/\AltsOk 64 (ofL c e):=by
 unfold nK at h;unfold ofL;split at h
 ·rename_i q;obtain⟨_,b,h3⟩:=Tb (show tT c e=0 by simpa using q);split at h
  ·rename_i l a;have:=(Qy (c:=c) e.size).1 e (zD _) h3 l a;rw[a];exact⟨this.1,this.2.mono b⟩
  ·exact absurd h (by decide)
 ·rename_i q;exact absurd h q
theorem Uc:∀{l:List Fac}{t:List (List (List Trm))}{o:List (List UInt8)},(∀a∈t,a.length<=64/\AltsOk 64 a)->∀a∈(bl c l t o).1,a.length<=64/\AltsOk 64 a
 | [],t,o,h=>by rw[bl];exact h
 |f::fs,t,o,h=>by
  rw[bl];split
  ·split
   ·rename_i q;exact Uc λa b=>by
     rcases yD.1 b with g|g
     ·exact h a g
     ·cases zY.1 g;exact zCu q
   ·intro a b;cases b
  ·split
   ·exact Uc h
   ·exact Uc h
def Rm{l:List Fac} :∀a∈(wZ c l).1,a.length<=64/\AltsOk 64 a:=by
 unfold wZ;split
 ·intro a b;cases b
 ·exact Uc λa b=>by cases b
theorem VZ(C:uM c d)(hs:c.Sm){l:List Fac}(hx:ye 12 (dj l) x)(hl:l.length<=1048576)(a5:∀f∈l,f.Ok){y:Cho}(hy:ZR y z)(a8:y.Sm)(p:Bool)(g:Heap):
  zB prog 21 [d,x,z,.bool p] g λr h'=>h'=g/\r=.int .i64 (qR c l y p):=by
 have V:=HL C hs hx hl a5;have bb:=C;obtain⟨ca,cb,ce,cp,rfl,a3,_,_,_⟩:=C;obtain⟨ya,yb,rfl,P,hb⟩:=hy;obtain⟨y1,y2,y3⟩:=a8;have bk:=tf P;have bs:=wd hb;refine xU kr λa9=> ?_;refine xP λQ hQ=> ?_;obtain⟨E,w⟩:∃E,qR c l y p=E:=⟨_,rfl⟩;have m:∀h',Ext g h'->Q (.int .i64 E) h':=λh' I=>hQ _ _ ⟨I,trivial,by rw[w]⟩;clear hQ;unfold qR at w;refine z5 zI4 ?_;simp only[f21,zA]
 repeat' first|simp only[go_sem, *]|apply bc<;>intro C
 refine(V _).mono ?_;rintro r h ⟨B,td,od,rfl,J,M⟩;subst B;clear V;have X:=Ext.refl h;have J:ye 1 (R0 (wZ c l).1) td:=J.isSl;have M:ye 1 (uH (wZ c l).2.1) od:=M.isSl;have a4:=Hl J;have bd:=wd M;have a7:∀a∈(wZ c l).1,a.length<=1048576:=λa P=>za (Rm a P).1 ow;cases q1:((wZ c l).2.2==0)with
 |false=>
  rw[ip (by rw[q1];rfl)]at w;have B:=m h X;rw[<-w]at B;clear m w
  repeat' first|simp only[go_sem, *]|apply bc<;>intro C
 |true=>
 rw[iq (by rw[q1];decide)]at w;generalize wZ c l=v at *
 cases R:((y.ts.length:Int)==(v.1.length:Int))with
 |false=>
  rw[ip (by rw[R];rfl)]at w;have B:=m h X;rw[<-w]at B;clear m w
  repeat' first|simp only[go_sem, *]|apply bc<;>intro C
 |true=>
 cases q3:((y.own.length:Int)==(v.2.1.length:Int))with
 |false=>
  rw[ip (by rw[R,q3];rfl)]at w;have B:=m h X;rw[<-w]at B;clear m w
  repeat' first|simp only[go_sem, *]|apply bc<;>intro C
 |true=>
 rw[iq (by rw[R,q3];decide)]at w;have T:y.ts.length<=v.1.length:=by have:=zg R;omega
 obtain⟨F,S⟩:∃F,ml (nk v.1 y.ts p) y.ts.length=F:=⟨_,rfl⟩;rw[S]at w
 repeat' first|simp only[go_sem, *]|apply bc<;>intro C
 clear q1;refine zV (λi fr u=>fr 3=.bool p/\fr 4=.iptr [ca,cb,ce,cp] 0/\fr 6=.iptr [ya,yb] 0/\fr 9=td/\fr 41=ya/\fr 42=.int .i64 (y.ts.length:Int)/\fr 43=.int .i64 (i:Int)/\Ext h u/\∀j,j<i->nk v.1 y.ts p j=0) y.ts.length ow ?_ ?_ ?_
 ·have h0:∀j,j<0->nk v.1 y.ts p j=0:=λj D=>absurd D (zj _);simp only[go_sem,zQ,zS,zF];exact⟨X,h0⟩
 ·rintro i fr u G ec ew ⟨Y,Z,f6,f9,ab,ad,ag,I,D⟩;have a1:=ru P G;have a2:=DE J (show i<v.1.length by omega);have sm:=y3 _ (zG G);have k:nk v.1 y.ts p i=if(p&&((y.ts[i].ts.length:Int)==0))=true then 0 else if(!(v.1[i].any λb=>cJ y.ts[i].ts b))=true then 1 else 0:=by
   unfold nk;rw[zE G];simp only;rw[zK,zE ow];rfl
  have q:=λ(e:nk v.1 y.ts p i=0)=>um (f:=nk v.1 y.ts p) D e;have o:=λ(e:nk v.1 y.ts p i≠0)=>pQ (f:=nk v.1 y.ts p) G D e;rw[S]at o;have N:(u.new u.next (.row [y.ts[i].d])).at' u.next=some (.row [y.ts[i].d]):=yQ _ _ _;have K:=I.new I.1 (.row [y.ts[i].d]);have n:=gB (l:=v.1[i].map mkA) (d:=IU v.1[i]) (ye.mk .no) (by rw[zI];exact a7 _ (zG _)) (f:=51) (cap:=[.ptr u.next 0]) (p:=λb=>cJ y.ts[i].ts b.ts) (g:=u.new u.next (.row [y.ts[i].d])) (λs hs=>by
   obtain⟨t,ht,rfl⟩:=zT.1 hs;exact⟨ye.mk .no,zF1 sm.sl (ye.mk .no) sm.len N⟩)
  have O:(v.1[i].map mkA).any (λb=>cJ y.ts[i].ts b.ts)=v.1[i].any λb=>cJ y.ts[i].ts b:=by rw[ah];rfl
  rw[O]at n;clear O;obtain⟨k1,k2,k3⟩:=yR sm.sl;have bx:=wT sm.sl;generalize y.ts[i]=a at *
  generalize v.1[i]=b at *
  have a6:qP prog 108 (.ptr u.next 0) a.d (u.new u.next (.row [.nilsl]))=some (u.new u.next (.row [a.d])):=by
   rw[qO (off:=0) (yQ _ _ _) uT (by simp) k1 k3,dy];rfl
  have ba:(IU b).notTuple=true:=rfl;generalize u.new u.next (.row [a.d])=H at *
  clear D S P hb J M y3 sm R q3;cases U:p with
  |true=>
   subst U;cases W:((a.ts.length:Int)==0)with
   |true=>
    have L:=q (by rw[k,W];rfl);clear q o k n m w
    repeat' first|simp only[go_sem, *]|apply bc<;>intro C
    exact L
   |false=>
    rw[iq (by rw[W];decide)]at k;cases A:(b.any λt=>cJ a.ts t)with
    |true=>
     have L:=q (by rw[k,A];rfl);rw[A]at n;clear q o k m w
     repeat' first|simp only[go_sem, *]|apply bc<;>intro C|(refine zB.mono n ?_;rintro r h ⟨B,rfl⟩)
     subst B;exact L
    |false=>
     have h1:F=1:=by rw[o (by rw[k,A];decide),k,A];rfl
     subst h1;rw[ip (by decide)]at w;have B:=m H K;rw[<-w]at B;rw[A]at n;clear q o k m w
     repeat' first|simp only[go_sem, *]|apply bc<;>intro C|refine zB.use n ?_
  |false=>
   subst U;rw[iq (by rw[yV];decide)]at k;cases A:(b.any λt=>cJ a.ts t)with
   |true=>
    have L:=q (by rw[k,A];rfl);rw[A]at n;clear q o k m w
    repeat' first|simp only[go_sem, *]|apply bc<;>intro C|(refine zB.mono n ?_;rintro r h ⟨B,rfl⟩)
    subst B;exact L
   |false=>
    have h1:F=1:=by rw[o (by rw[k,A];decide),k,A];rfl
    subst h1;rw[ip (by decide)]at w;have B:=m H K;rw[<-w]at B;rw[A]at n;clear q o k m w
    repeat' first|simp only[go_sem, *]|apply bc<;>intro C|refine zB.use n ?_
 ·rintro fr u ec ⟨Y,Z,f6,f9,ab,ad,ag,I,D⟩;have a0:F=0:=by rw[<-S];exact u9 D
  subst a0;rw[iq (by decide)]at w;clear S D J a4 T R q3
  repeat' first|simp only[go_sem, *]|apply bc<;>intro C
  refine zV (λi fr u=>fr 3=.bool p/\fr 4=.iptr [ca,cb,ce,cp] 0/\fr 63=yb/\fr 64=.int .i64 (y.own.length:Int)/\fr 65=.int .i64 (i:Int)/\Ext h u/\∀j,j<i->RE c y.own p j=0) y.own.length ow ?_ ?_ ?_
  ·have h0:∀j,j<0->RE c y.own p j=0:=λj D=>absurd D (zj _);simp only[go_sem,zQ,zS,zF];exact⟨Y,Z,I,h0⟩
  ·clear I;rintro i fr u G ec ew ⟨Y,Z,ai,f64,ak,I,D⟩;have a1:=t9 hb G;have k:RE c y.own p i=if(p&&(y.own[i]== []))=true then 0 else if(!(c.ls.any λx=>x.name==y.own[i]))=true then 7 else 0:=by
    unfold RE;rw[zE G]
   have q:=λ(e:RE c y.own p i=0)=>um (f:=RE c y.own p) D e;have o:=λ(e:RE c y.own p i≠0)=>pQ (f:=RE c y.own p) G D e;rw[w]at o;generalize y.own[i]=s at *
   have N:(u.new u.next (.row [.str s])).at' u.next=some (.row [.str s]):=yQ _ _ _;have K:=I.new I.1 (.row [.str s]);have n:=YM a3 hs.ls.1 (f:=54) (cap:=[.ptr u.next 0]) (p:=λx=>x.name==s) (g:=u.new u.next (.row [.str s])) (λx _=>zF2 x s N);have a6:qP prog 9 (.ptr u.next 0) (.str s) (u.new u.next (.row [.str []]))=some (u.new u.next (.row [.str s])):=by
    rw[qO (off:=0) (yQ _ _ _) md (by simp) rfl rfl,dy];rfl
   generalize u.new u.next (.row [.str s])=H at *
   clear D w P hb M y3;cases U:p with
   |true=>
    subst U;cases W:(s== [])with
    |true=>
     have L:=q (by rw[k,W];rfl);clear q o k n m
     repeat' first|simp only[go_sem, *]|apply bc<;>intro C
     exact L
    |false=>
     rw[iq (by rw[W];decide)]at k;cases A:(c.ls.any λx=>x.name==s)with
     |true=>
      have L:=q (by rw[k,A];rfl);rw[A]at n;clear q o k m
      repeat' first|simp only[go_sem, *]|apply bc<;>intro C|(refine zB.mono n ?_;rintro r h ⟨B,rfl⟩)
      subst B;exact L
     |false=>
      have h1:E=7:=by rw[o (by rw[k,A];decide),k,A];rfl
      subst h1;have B:=m H K;rw[A]at n;clear q o k m
      repeat' first|simp only[go_sem, *]|apply bc<;>intro C|refine zB.use n ?_
   |false=>
    subst U;rw[iq (by rw[yV];decide)]at k;cases A:(c.ls.any λx=>x.name==s)with
    |true=>
     have L:=q (by rw[k,A];rfl);rw[A]at n;clear q o k m
     repeat' first|simp only[go_sem, *]|apply bc<;>intro C|(refine zB.mono n ?_;rintro r h ⟨B,rfl⟩)
     subst B;exact L
    |false=>
     have h1:E=7:=by rw[o (by rw[k,A];decide),k,A];rfl
     subst h1;have B:=m H K;rw[A]at n;clear q o k m
     repeat' first|simp only[go_sem, *]|apply bc<;>intro C|refine zB.use n ?_
  ·clear I;rintro fr u ec ⟨Y,Z,ai,f64,ak,I,D⟩;have h1:E=0:=by rw[<-w];exact u9 D
   subst h1;have B:=m u I;clear D m w;exact au
def nd(sz:Nat):List (List D)->D
 | []=>.nilsl
 |x::xs=>.sl sz (x::xs) .no
def wV(p:Fac->Bool):List Fac->Nat->List Nat
 | [],_=>[]
 |f::fs,k=>if p f then k::wV p fs (k+1)else wV p fs (k+1)
theorem oY(p:Fac->Bool):∀(l m:List Fac)(k:Nat),wV p (l++m) k=wV p l k++wV p m (k+l.length)
 | [],m,k=>by simp[wV]
 |f::l,m,k=>by
  simp only[z9,wV,oY p l m (k+1),zm];rw[show k+1+l.length=k+(l.length+1) by omega];split<;>simp
theorem pX(p:Fac->Bool):∀(l:List Fac)(k:Nat),∀i∈wV p l k,k<=i/\i<k+l.length
 | [],k,i,h=>by simp[wV]at h
 |f::l,k,i,h=>by
  simp only[wV]at h;have a:=pX p l (k+1);split at h
  ·rcases zt.1 h with rfl|h
   ·simp
   ·have:=a i h;simp;omega
  ·have:=a i h;simp;omega
def LW(p:Fac->Bool)(l:List Fac)(i:Nat):Nat:=(wV p (l.take i) 0).length
def Kr{p:Fac->Bool}{l:List Fac}(h:i<l.length)(a:p l[i]=false):LW p l (i+1)=LW p l i:=by
 unfold LW;rw[zH h,oY];simp[wV,a]
def Hg{p:Fac->Bool}{l:List Fac}(h:i<l.length)(a:p l[i]=true):LW p l (i+1)=LW p l i+1/\(wV p l 0)[LW p l i]? =some i:=by
 constructor
 ·unfold LW;rw[zH h,oY];simp[wV,a]
 ·unfold LW;have e:l=l.take i++l[i]::l.drop (i+1):=by rw[List.getElem_cons_drop,yp]
  have e2:wV p l 0=wV p (l.take i) 0++wV p (l[i]::l.drop (i+1)) (0+(l.take i).length):=by
   rw[<-oY,<-e]
  rw[e2,yf (zD _),an];have e3:(l.take i).length=i:=by rw[z7];omega
  simp[wV,a,e3]
def Hf{p:Fac->Bool}{l:List Fac} :LW p l l.length=(wV p l 0).length:=by
 unfold LW;rw[zb]
def gK(sc:List D)(kind:Int)(hf:D):D:=.fn (.func 282) [] [.iptr [.iptr sc 0] 0,.iptr [.int .i64 kind] 0,.iptr [hf] 0]
def bq(sc:List D)(kind:Int){hf:D}(b:∃f a c,hf=.fn f a c)(h:Heap):zB prog 198 [.iptr sc 0,.int .i64 kind,hf] h λr h'=>h'=h/\r=gK sc kind hf:=by
 obtain⟨fr,a,c,rfl⟩:∃f a c,hf=.fn f a c:=b;refine z5 zDU ?_;simp only[f198,zA];simp only[go_sem,gK]
theorem tW(p:Fac->Bool):∀(l:List Fac)(k:Nat),(wV p l k).length<=l.length
 | [],_=>zD _
 |f::l,k=>by
  simp only[wV];have:=tW p l (k+1);split<;>simp only[zm]<;>omega
def isF(kind:Int)(q:Fac->Bool)(f:Fac):Bool:=f.kind==kind&&q f
def fIx(kind:Int)(q:Fac->Bool)(fs:List Fac):List Nat:=wV (isF kind q) fs 0
abbrev elI(l:List Nat)(k:Nat):List D:=[.int .i64 ((l.getD k 0:Nat):Int)]
def fG{kind:Int}{hf:D}{q:Fac->Bool}(T:sc[4]? =some x)(hx:ye 12 (dj fs) x)(hl:fs.length<=1048576)(P:∀f∈fs,f.Ok){Y:Nat->(Nat->Prop)->Heap->Prop}
  (y:Yld prog id (fIx kind q fs).length (elI (fIx kind q fs)) Y λ_ _=>False)
  {S R:Nat->Prop} (hR:∀i,R i->i<h.next/\(¬S i\/∀k S h',Y k S h'->h'.at' i=h.at' i)) (hq:∀f∈fs,∀o:Heap,(∀i,R i->o.at' i=h.at' i)->ao prog hf [.agg f.cells] o λr h3=>h3=o/\r=.bool (q f)) (hY:Y 0 S h):
  zB prog 282 [.yld id,.iptr [.iptr sc 0] 0,.iptr [.int .i64 kind] 0,.iptr [hf] 0] h λ_ h'=>∃S',(∀j,S' j->S j\/h.next<=j)/\But S h h'/\Y (fIx kind q fs).length S' h':=by
 refine z5 zDn ?_;simp only[f282,zA];have N:=rh hx;simp only[go_sem,qH,T,N];refine qx (λi fr h'=>fr 0=.yld id/\fr 2=.iptr [.int .i64 kind] 0/\fr 3=.iptr [hf] 0/\fr 10=x/\fr 11=.int .i64 fs.length/\fr 12=.int .i64 (i:Int)/\∃S',(∀j,S' j->S j\/h.next<=j)/\But S h h'/\Y (LW (isF kind q) fs i) S' h') fs.length ?_ ?_
 ·simp only[go_sem,zQ,zS,zF];exact⟨S,λj n=>.inl n,But.refl S h,hY⟩
 rintro i fr h' W ⟨t,u,v,c,d,e,S',w,l,g⟩;simp only[go_sem,t,u,v,c,d,e];by_cases b:i<fs.length
 ·rw[zN (show(i:Int)<fs.length by exact_mod_cast b)];have X:fs[i]∈fs:=zG b;have V:=wR hx b;have Z:yN true 12 fs[i].cells 0=some (.agg fs[i].cells):=zJ rfl ow;have C:=Rc (P _ X);have m:Ext h' (h'.new h'.next (.row fs[i].cells)):=(Ext.refl h').new (zD _) _;have a:But S h (h'.new h'.next (.row fs[i].cells)):=l.trans (m.but S) λi W=>.inl W;have A:fs[i].cells[0]? =some (.int .i64 fs[i].kind):=rfl;have G:IntKind.i64.wrap ((i:Int)+1)=((i+1:Nat):Int):=qT (by unfold lim;omega);cases F:(fs[i].kind==kind)with
  |false=>
   simp only[go_sem,t,u,v,c,d,e,V,Z,C,A,F,G,zQ];refine⟨b,S',w,a,?_⟩;rw[Kr b (by simp[isF,F])];exact y.ext g m
  |true=>
   simp only[go_sem,t,u,v,c,d,e,V,Z,C,A,F];refine ao.mono (Q:=λr h3=>h3=h'.new h'.next (.row fs[i].cells)/\r=.bool (q fs[i])) ?_ (hq _ X _ λj n=> ?_)
   rotate_left
   ·obtain⟨h1,o|o⟩:=hR j n
    ·exact a.2 j h1 o
    ·have:=l.1;rw[zz ow,o _ _ _ g]
   rintro r h3 ⟨rfl,rfl⟩;cases B:q fs[i]with
   |false=>
    simp only[go_sem,t,u,v,c,d,e,G,zQ];refine⟨b,S',w,a,?_⟩;rw[Kr b (by simp[isF,B])];exact y.ext g m
   |true=>
    obtain⟨n1,n2⟩:=Hg (p:=isF kind q) b (by simp[isF,F,B]);have O:=(zR.1 n2).1;have L:(fIx kind q fs).getD (LW (isF kind q) fs i) 0=i:=by rw[zK,fIx,n2];rfl
    have z:=y.go _ S' _ O (y.ext g m);simp only[elI,L]at z;simp only[go_sem,t,u,v,c,d,e];refine z.mono ?_;rintro r h3 ⟨U,H,K,hr⟩;have s:But S h h3:=a.trans K w;have E:∀j,U j->S j\/h.next<=j:=λj n=>by
     rcases H j n with n|n
     ·exact w j n
     ·have h1:=a.1;exact .inr ow
    rcases hr with⟨rfl,I⟩ | ⟨rfl,J⟩
    ·simp only[go_sem,t,u,v,c,d,e,vun,G,zQ];exact⟨b,U,E,s,by rw[n1];exact I⟩
    ·exact J.elim
 ·have M:i=fs.length:=ow;subst M;rw[zO ow];simp only[go_sem];rw[Hf]at g;exact⟨S',w,l,g⟩
end Go.V
