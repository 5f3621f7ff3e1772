/- Contracts of functions that the law reaches, part 4. No condition. -/
import Derived.Test.YtkenagjlanhnmaaGreatDoorW41
set_option linter.all false
set_option maxHeartbeats 8000000
namespace Go.V
open Go.Proofs.Tryz
open Go.Proofs
variable{k n i id j:Nat}{α:Type}{p:Part}{fs gs:List Fac}{x d z y:D}{I:List Nat}{xs:List (List D)}{U:Nat->Prop}{h g:Heap}{c:Cat}{b:Bool}{f:FuncId}{cap cs:List D}{P:Program}
def GS{c:List D}(h:Shp prog k 29 c):∃d fs,c= [d]/\yg 12 (nu fs) d/\fs.length<=1048576/\(∀f∈fs,f.Ok0)/\ShF fs:=by
 obtain⟨b,o,m,rfl,_,j,_,a,h1⟩:=cV underlying29 cZ h;have e:=h1;obtain⟨l,rfl,n⟩:=jw (f:=Fac.cells) λy i=>zCP (h1 y i);rw[zH]at a;exact⟨b,l,rfl,j,a,n,⟨λc g=>⟨m,e c g⟩⟩⟩
set_option maxRecDepth 100000
def zBc{l:List α}{a:α}(h:k<l.length):l.getD k a∈l:=by rw[zC,zB h];exact zI _
def NdI.v(n:NdI):Vio:=⟨n.row,n.facts⟩
def mL(c:Cat)(fs:List Fac)(m i:Nat)(n:NdI):Bool:=
 n.kids.all (λk=> !(decide (k<=(i:Int))||decide (k>=(m:Int))))&&(if(n.var== -1)=true then(n.kids.length:Int)==0 else decide (n.var>=0)&&decide (n.var<(ctV c fs:Int))&&decide ((szV c fs n.var.toNat:Int)>1)&&((n.kids.length:Int)==(szV c fs n.var.toNat:Int))&&n.row==0&&(n.facts.length:Int)==0)
abbrev nd0:NdI:=⟨0,[],0,[]⟩
def lvL(c:Cat)(fs:List Fac)(ns:List NdI):Nat->Nat->Part->List (Nat×Part)
 |0,_,_=>[]
 |m+1,i,p=>if((ns.getD i nd0).var== -1||deV c fs p (ns.getD i nd0).var.toNat)=true then [(i,p)]else(List.range (ns.getD i nd0).kids.length).flatMap λk=>lvL c fs ns m ((ns.getD i nd0).kids.getD k 0).toNat (pY c fs p (ns.getD i nd0).var.toNat k)
abbrev lvR(c:Cat)(fs:List Fac)(ns:List NdI):List (Nat×Part):=lvL c fs ns ns.length 0 (o6 c fs)
def Ld(c:Cat)(fs:List Fac)(ns:List NdI)(l:Nat×Part):Bool:=(ns.getD l.1 nd0).var== -1&&fG c fs (oP l.2) (ns.getD l.1 nd0).v==0
def fY(c:Cat)(fs:List Fac)(ns:List NdI):Bool:= !(ns.length==0)&&(List.range ns.length).all (λi=>mL c fs ns.length i (ns.getD i nd0))&&(lvR c fs ns).all (Ld c fs ns)
section
variable{c:Cat}{fs:List Fac}{ca cb ce cp x td od:D}
def M9{m i:Nat}{n:NdI}(h:mL c fs m i n=true):(∀k∈n.kids,(i:Int)<k/\k<(m:Int))/\(n.var≠ -1->0<=n.var/\n.var.toNat<ctV c fs/\1<szV c fs n.var.toNat/\n.kids.length=szV c fs n.var.toNat):=by
 unfold mL at h;rw[zF,zb]at h;refine⟨λk b=>by have:=h.1 k b;simp at this;omega,λd=> ?_⟩;have a:=h.2;rw[iq (by simpa using d)]at a;simp only[zF,zP,qj]at a;omega
end
section
variable{c:Cat}{fs:List Fac}{ca cb ce cp x td od:D}
theorem Zl{F:Nat->Nat->List Nd} :∀s,(ug F s n).1.length=s
 |0=>rfl
 |s+1=>by simp only[ug,zS,Zl s,wX]
theorem LJ{F:Nat->Nat->List Nd}(n:Nat):∀{s k:Nat},k<s->∃o,(ug F s n).1[k]? =some ((n+o:Nat):Int)/\∃pre post,(ug F s n).2=pre++F k (n+o)++post/\pre.length=o
 |s+1,k,c=>by
  have b:=Zl (F:=F) (n:=n) s;simp only[ug];by_cases e:k=s
  .subst e
   refine⟨(ug F k n).2.length,?_,(ug F k n).2,[],jS,rfl⟩;rw[yT ow,b];simp
  .obtain⟨o,h1,pre,post,a,h3⟩:=LJ n (s:=s) (k:=k) ow
   refine⟨o,?_,pre,post++F s (n+(ug F s n).2.length),by rw[a];simp,h3⟩;rw[yi ow];exact h1
theorem Qq{F:Nat->Nat->List Nd}(n:Nat):∀{s i:Nat},i<(ug F s n).2.length->∃k,k<s/\∃o pre post,(ug F s n).2=pre++F k (n+o)++post/\pre.length=o/\o<=i/\i<o+(F k (n+o)).length
 |0,i,h=>by simp[ug]at h
 |s+1,i,h=>by
  simp only[ug,zS]at h⊢;by_cases e:i<(ug F s n).2.length
  .obtain⟨k,c,o,pre,post,a,h3,b,h5⟩:=Qq n e
   exact⟨k,ow,o,pre,post++F s (n+(ug F s n).2.length),by rw[a];simp,h3,b,h5⟩
  .exact⟨s,ow,_,(ug F s n).2,[],jS,rfl,ow,ow⟩
def UC(S:SpD c fs ca cb ce cp x td od){v:Vio}(d:POk c fs p)(e:Yu c fs p=some v){ns:List NdI}(b:ns.getD n nd0=(⟨-1,[],some v⟩:Nd).i):
  mL c fs ns.length n (ns.getD n nd0)=true/\∀M,0<M->∀l∈lvL c fs ns M n p,Ld c fs ns l=true:=by
 refine⟨by rw[b];simp[mL,Nd.i],λM hM l a=> ?_⟩;obtain⟨M,rfl⟩:∃k,M=k+1:=⟨M-1,ow⟩;unfold lvL at a;rw[b,ip (by simp[Nd.i])]at a;rw[zi]at a;subst a;unfold Ld;simp only[b];have:=(K5 (d.err S) v).2 (Ng e);simp[Nd.i,NdI.v,this]
theorem PQ(S:SpD c fs ca cb ce cp x td od){ns:List NdI} :∀m p n pre post,POk c fs p->opn c fs p<=m->pX c fs m p= []->ns=pre++(pP c fs m p n).map Nd.i++post->pre.length=n->
  0<(pP c fs m p n).length/\(∀j,j<(pP c fs m p n).length->mL c fs ns.length (n+j) (ns.getD (n+j) nd0)=true)/\∀M,ns.length<=n+M->∀l∈lvL c fs ns M n p,Ld c fs ns l=true
 |0,p,n,pre,post,z,N,B,b,D=>by
  cases g:Yu c fs p with
  |none=>simp[pX,g]at B
  |some v=>
   simp only[pP,g]at b⊢;have s:ns.getD n nd0=(⟨-1,[],some v⟩:Nd).i:=by rw[b];simp[zC,<-D]
   obtain⟨h1,h⟩:=UC S z g s;refine⟨jS,λj t=> ?_,λM hM=>h M ?_⟩
   .have:j=0:=by simpa using t
    subst this;exact h1
   .have:=congrArg List.length b
    simp at this;omega
 |m+1,p,n,pre,post,z,N,B,b,D=>by
  cases g:Yu c fs p with
  |some v=>
   simp only[pP,g]at b⊢;have s:ns.getD n nd0=(⟨-1,[],some v⟩:Nd).i:=by rw[b];simp[zC,<-D]
   obtain⟨h1,h⟩:=UC S z g s;refine⟨jS,λj t=> ?_,λM hM=>h M ?_⟩
   .have:j=0:=by simpa using t
    subst this;exact h1
   .have:=congrArg List.length b
    simp at this;omega
  |none=>
   cases C:nxV c fs p with
   |none=>simp[pX,g,C]at B
   |some v=>
    simp only[pP,g,C]at b⊢;obtain⟨F,E⟩:∃F,(λk Q=>pP c fs m (pY c fs p v k) Q)=F:=⟨_,rfl⟩;rw[E]at b⊢;obtain⟨v1,I,_⟩:=l8 C;unfold pL at I;simp only[zF,zP,qH]at I;have H:∀k,k<szV c fs v->pX c fs m (pY c fs p v k)= []:=λk e=>by
     simp only[pX,g,C]at B;exact oR.1 (by simpa using B) k (yn.2 e)
    have J:∀k o d a,k<szV c fs v->(ug F (szV c fs v) (n+1)).2=d++F k (n+1+o)++a->d.length=o->
      0<(F k (n+1+o)).length/\(∀j,j<(F k (n+1+o)).length->mL c fs ns.length (n+1+o+j) (ns.getD (n+1+o+j) nd0)=true)/\∀M,ns.length<=n+1+o+M->∀l∈lvL c fs ns M (n+1+o) (pY c fs p v k),Ld c fs ns l=true:=λk o d a e e1 e2=>by
     have:=PQ S (ns:=ns) m (pY c fs p v k) (n+1+o) (pre++ [(⟨v,(ug F (szV c fs v) (n+1)).1,none⟩:Nd).i]++d.map Nd.i) (a.map Nd.i++post) (z.dec e) (by have:=We z S.v0 C e;omega) (H k e);rw[<-E]at e1 b⊢;exact this (by rw[b,qV,e1];simp[E]) jO
    have s:ns.getD n nd0=(⟨v,(ug F (szV c fs v) (n+1)).1,none⟩:Nd).i:=by rw[b];simp[zC,<-D]
    have y:=congrArg List.length b;simp only[zS,zH,zu]at y;have u:=Zl (F:=F) (n:=n+1) (szV c fs v);have A:((v:Int)== -1)=false:=yf.2 ow;have q:∀k,k<szV c fs v->∃o,(ug F (szV c fs v) (n+1)).1.getD k 0=((n+1+o:Nat):Int)/\n+1+o<ns.length/\∀M,ns.length<=n+1+o+M->∀l∈lvL c fs ns M (n+1+o) (pY c fs p v k),Ld c fs ns l=true:=λk e=>by
     obtain⟨o,h1,d,a,h,h3⟩:=LJ (F:=F) (n+1) e;obtain⟨T,_,P⟩:=J k o d a e h h3;refine⟨o,by rw[zC,h1];rfl,?_,P⟩;have:=congrArg List.length h;simp at this;omega
    refine⟨jS,λj t=> ?_,λM hM l f=> ?_⟩
    .cases j with
     |zero=>
      rw[wZ,s];simp only[mL,Nd.i,zF,zb];refine⟨λK L=> ?_,?_⟩
      .obtain⟨k,e,rfl⟩:=zy.1 L
       obtain⟨o,e1,e2,_⟩:=q k ow;rw[zC,zB e,zA]at e1;rw[e1];simp;omega
      .simp only[A,zf,yr]
       simp[u];omega
     |succ j=>
      have G:j<(ug F (szV c fs v) (n+1)).2.length:=by simpa using t
      obtain⟨k,e,o,d,a,h,h3,R,h5⟩:=Qq (F:=F) (n+1) G;obtain⟨_,O,_⟩:=J k o d a e h h3;have:=O (j-o) ow
      rwa [show n+1+o+(j-o)=n+(j+1) by omega]at this
    .obtain⟨M,rfl⟩:∃k,M=k+1:=⟨M-1,ow⟩
     unfold lvL at f;have r:((ns.getD n nd0).var== -1||deV c fs p (ns.getD n nd0).var.toNat)=false:=by rw[s];simp[Nd.i,I.2,A]
     rw[r,iq zV,s]at f;simp only[Nd.i]at f;obtain⟨k,e,w⟩:=z6.1 f;rw[u]at e;obtain⟨o,e1,_,e3⟩:=q k (yn.1 e);rw[e1,wE,wE]at w;exact e3 M ow l w
def Uc(S:SpD c fs ca cb ce cp x td od)(e:tQ c fs= []):fY c fs ((pn c fs).map Nd.i)=true:=by
 obtain⟨h1,a,h3⟩:=PQ S (ns:=(pn c fs).map Nd.i) (ctV c fs) (o6 c fs) 0 [] [] (tj c fs _) Ls e (by simp[pn]) rfl;unfold fY;simp only[zF,zb,yn,qH,yf];refine⟨⟨by rw[zH];exact Nat.ne_of_gt h1,λi b=> ?_⟩,λl d=> ?_⟩
 .have:=a i (by simpa using b)
  rwa [yP]at this
 .exact h3 _ ow l d
end
def zB0:PC prog Br f48=true:=kr
def muI(t:Tmp):Br.mu t=List.contains (α:=Nat) [] t:=(rfl)
def US(i:Nat):wC (nI (List.range (i+1)))=wC (nI (List.range i))++ [[.int .i64 (i:Int)]]:=by
 rw[rg];simp[wC]
variable{fs:List Fac}{x:D}{c:Cat}
def zD4(t:yg 12 (nu fs) x)(z:fs.length<=1048576)(g:Heap):zE prog 48 [x] g λr h'=>h'=g/\Fin 1 (wC (nI (List.range fs.length))) r:=by
 refine xU kr λk=>xS ?_;refine xP λR o=> ?_;have s:=pp t;refine xO mix func48 zB0 rfl rfl ?_;simp only[f48,zA];simp only[go_sem,muI, *];refine zZ (λi fr h=>fr 6=.int .i64 (fs.length:Int)/\fr 7=.int .i64 (i:Int)/\Own g h 1 (wC (nI (List.range i))) (fr 3)) fs.length ow ?_ ?_ ?_
 .simp only[go_sem,zQ,zT,zG]
  exact Own.start (Ext.refl g) 1
 .rintro i fr h q l w ⟨m,n,c⟩
  obtain⟨e,f⟩:∃d,fr 3=d:=⟨_,rfl⟩;rw[f]at c;have p:∀nid H,yA prog false nid 30 1 [(0,.int .i64 (i:Int))] H=some (.sl 1 [[.int .i64 (i:Int)]] .full,H):=λnid H=>qD (x:=.int .i64 (i:Int)) qS s8 uz rfl rfl ow ow rfl rfl;have b:(wC (nI (List.range i))).length=i:=by simp[wC]
  simp only[go_sem,muI, *];refine c.appH (ys:=[_]) qS ZQ uz ow (λy u=>by rw[zi.1 u];rfl) jS (by rw[b,mV];unfold lim;simp;omega) (by rw[b];unfold lim;simp;omega) λv h' a=> ?_;rw[<-US]at a;simp only[go_sem,muI, *];rw[rg]at a;exact a
 .rintro fr h l ⟨m,n,c⟩
  obtain⟨e,f⟩:∃d,fr 3=d:=⟨_,rfl⟩;rw[f]at c;have j:=o e h (c.fin tU);simp only[go_sem,muI, *]
abbrev wN(I:List Nat):D:=.sl 1 (wC (nI I)) .no
def V2(a:i<I.length)(b:I.length<=1048576)(g:Heap):zE prog 35 [wN I,.int .i64 (i:Int)] g λr h'=>h'=g/\r=wN (I.eraseIdx i):=by
 refine(bu (ks:=nI I) (d:=wN I) (i:=i) (by rw[zH];exact a) (by rw[zH];exact b) (by simp only[Us,qK];rw[show wC (nI I)=(nI I).map λn=>[D.int .i64 n]from rfl,aF]) (λc=>by rw[uj (yg.mk .no) underlying30];rfl)).mono λr h' q=>⟨q.1,?_⟩
 rw[q.2];exact congrArg (D.sl 1 · .no) (by rw[lz];first|rfl|exact congrArg _ (I9 _ _ _))
def JM:PC prog Br f79=true:=kr
def XA{l:List Int} :∀x∈wC l,x.length=1:=λx a=>by
 obtain⟨n,_,rfl⟩:=zN.1 a;rfl
def IG(h0:I≠[])(m:I.length<=1048576)(k:yg 1 (wC (nI I)) d)(h:Heap):zE prog 79 [d] h λr h'=>h'=h/\r=wN I:=by
 refine xU kr λ_=>xS ?_;have f:wC (nI I)≠[]:=λe=>h0 (by simpa [wC]using e);have a:(wC (nI I)).length=I.length:=by simp[wC]
 obtain⟨tk,rfl⟩:∃tk,d=.sl 1 (wC (nI I)) tk:=by
  rcases k with⟨_,e⟩ |h
  .exact absurd e f
  .exact h
 have l:∀c,jR prog .eql 30 c (.sl 1 (wC (nI I)) tk) .nilsl=some (.bool false):=λc=>by rw[uj (yg.mk tk) underlying30];rfl
 have j:(wC (nI I)).length*8<=lim:=by rw[a];unfold lim;omega
 have i:(wC (nI I)).length<=lim:=by rw[a];unfold lim;omega
 refine xO mix func79 JM rfl rfl ?_;simp only[f79,zA];simp only[go_sem,Nat.reduceEqDiff,↓reduceIte,l,muI,uP,Nat.reduceBEq,wa qS s8 uz rfl rfl (by omega:0<1)];rw[kD qS ZQ uz ow XA (by rw[mV];exact j) i];rw[iq (λe=>f (yN.1 e))];simp only[go_sem,(yh (sz:=1) tU _).1];have b:below h.next (.sl 1 (wC (nI I)) .no):=yw (yD _) _ (yh tU .no).2;refine⟨(Ext.refl h).new (zD _) _,?_,?_⟩
 .first|exact b|simpa [below]using b
 .first|trivial|rfl
def FT(c:Cat)(fs:List Fac):List D:=if yq c fs=0 then(match(tQ c fs).head? with
 |some q=>[tsF q,owF q]
 |none=>[.nilsl,.nilsl])else [.nilsl,.nilsl]
def Z1(c:Cat)(fs:List Fac):D:=if yq c fs=0 then(match(tQ c fs).head? with
 |some q=>.nilsl
 |none=>zCF (pn c fs))else .nilsl
def nV(c:Cat)(fs:List Fac):∃b ta oa,Jx c fs=.tuple [.agg [.bool b,ta,oa,Z1 c fs],.int .i64 (yq c fs)]/\FT c fs= [ta,oa]/\ta.flat=true/\oa.flat=true/\(Z1 c fs).flat=true:=by
 obtain⟨b,ta,oa,rd,e,_,⟨h1,d,h3⟩,_⟩:=RJ (c:=c) (gs:=fs)
 have:rd=Z1 c fs/\FT c fs= [ta,oa]:=by
  unfold Jx at e;unfold Z1 FT;split at e
  .rename_i a
   rw[ip a,ip a];split at e
   .rename_i q eq
    rw[eq];have e1:=D.agg.inj (bg (D.tuple.inj e)).1;cases e1;exact⟨rfl,rfl⟩
   .rename_i eq
    rw[eq];have e1:=D.agg.inj (bg (D.tuple.inj e)).1;cases e1;exact⟨rfl,rfl⟩
  .rename_i a
   rw[iq a,iq a];have e1:=D.agg.inj (bg (D.tuple.inj e)).1;cases e1;exact⟨rfl,rfl⟩
 obtain⟨rfl,e2⟩:=this;exact⟨b,ta,oa,e,e2,h1,d,h3⟩
def Hn(nd:Nd):wl (ndF nd):=by
 obtain⟨v,ks,o⟩:=nd;have b:(FV ks).flat=true/\below 0 (FV ks)/\qC (FV ks)=FV ks:=by
  unfold FV;split
  .exact⟨rfl,trivial,rfl⟩
  .have a:=yh (sz:=1) (xs:=wC ks) tU .no
   exact⟨rfl,a.2,a.1⟩
 obtain⟨k1,k2,k3⟩:=b;cases o with
 |none=>exact⟨by simp[ndF,KK,k1];exact⟨rfl,rfl,rfl⟩,⟨trivial,k2,trivial,trivial,trivial⟩,by simp[ndF,KK,qW,qC,k3]⟩
 |some w=>
  have a:=yh (sz:=1) (xs:=wC w.facts) tU .no;exact⟨by simp[ndF,KK,Vio.cells,k1];exact⟨rfl,rfl,rfl⟩,⟨trivial,k2,trivial,a.2,trivial⟩,by show [qC _,qC _,qC _,qC _]=_;rw[k3,a.1];rfl⟩
def Z2(c:Cat)(fs:List Fac):qC (Z1 c fs)=Z1 c fs/\below 0 (Z1 c fs):=by
 unfold Z1;split
 .split
  .exact⟨rfl,trivial⟩
  .unfold zCF
   split
   .exact⟨rfl,trivial⟩
   .exact yh (sz:=4) (xs:=(pn c fs).map ndF) (λx a=>by
     obtain⟨nd,_,rfl⟩:=zN.1 a;exact Hn nd) .no
 .exact⟨rfl,trivial⟩
def Ze(c:Cat)(fs:List Fac):wl (FT c fs):=by
 have e:wl [.nilsl,.nilsl]:=⟨rfl,⟨trivial,trivial,trivial⟩,rfl⟩;unfold FT;split
 .split
  .rename_i q _
   have d:(tsF q).flat=true/\qC (tsF q)=tsF q/\below 0 (tsF q):=by
    unfold tsF;split
    .exact⟨rfl,rfl,trivial⟩
    .exact⟨rfl,yh (sz:=1) (xs:=qe (q.ts.map kJ)) (λx g=>by
      obtain⟨a,f,rfl⟩:=zN.1 g;obtain⟨t,_,rfl⟩:=zN.1 f;exact dH t) .no⟩
   have b:(owF q).flat=true/\qC (owF q)=owF q/\below 0 (owF q):=by
    unfold owF;split
    .exact⟨rfl,rfl,trivial⟩
    .exact⟨rfl,yh (sz:=1) (xs:=wh q.own) uh .no⟩
   exact⟨by simp[d.1,b.1],⟨d.2.2,b.2.2,trivial⟩,by show [qC _,qC _]=_;rw[d.2.1,b.2.1]⟩
  .exact e
 .exact e
def o7(c:Cat)(fs:List Fac)(F:List Nat)(i:Nat):List (List D):=(List.range i).map λj=>FT c (zw fs (F.eraseIdx j))
def Jr(c:Cat)(fs:List Fac)(F:List Nat)(i:Nat):o7 c fs F (i+1)=o7 c fs F i++ [FT c (zw fs (F.eraseIdx i))]:=by
 unfold o7;rw[rg];simp
section
variable{c:Cat}{fs:List Fac}{ca cb ce cp x:D}
theorem Mo(K:KIn c fs ca cb ce cp x)(H:InI fs I)(h0:I≠[]){f:D}(g:Heap)(s:∀h,Ext g h->zE prog 79 [f] h λr h'=>h'=h/\r=wN I):zE prog 49 [.agg [ca,cb,ce,cp],x,f] g λr h'=>h'=g/\∃wd,r=.agg [wN (PY c fs I),Z1 c (zw fs (PY c fs I)),wd]/\Fin 2 (o7 c fs (PY c fs I) (PY c fs I).length) wd:=by
 have hl:I.length<=24:=by
  have h1:=H.sub.length_le;rw[tT H.lt]at h1;have:=K.h16;omega
 refine xU kr λb5=>xS ?_;refine xP λR V=> ?_;have b8:∀h,HLe Heap.emp h:=λh i ob e=>by cases e
 obtain⟨n,hn⟩:∃n,g.next=n:=⟨_,rfl⟩;obtain⟨G,hG,ai,g1,hE⟩:∃G:Heap,g.new n (.row [.nilsl,.nilsl,.nilsl])=G/\G.next=n+1/\G.at' n=some (.row [.nilsl,.nilsl,.nilsl])/\Ext g G:=⟨_,rfl,by rw[<-hn];exact za _ _,z5 _ _ _,by rw[<-hn];exact(Ext.refl g).new (zD _) _⟩;have s:=s G hE;have b7:∀(J:List Nat) h,o5 prog 30 (wN J) h=some (.int .i64 (J.length:Int)):=λJ h=>by
  have:=tr (l:=nI J) (d:=wN J) (yg.mk .no) h
  rwa [zH]at this
 have cg:IntKind.i64.wrap ((I.length:Int)-1)=(I.length:Int)-1:=qJ ow ow;refine zo zPL ?_;simp only[f49,zA]
 repeat' first|simp only[go_sem, *]|apply bc<;>intro v|(refine zE.mono s ?_;rintro r h ⟨L,rfl⟩)
 subst L
 rename Heap=>G
 refine zZ (λi fr h=>fr 1=x/\fr 3=.iptr [ca,cb,ce,cp] 0/\fr 6=.ptr n 0/\fr 8=.int .i64 ((I.length:Int)-1- (i:Int))/\h=G/\∃J,fr 7=wN J/\J.Sublist I/\I.length-i<=J.length/\L6 c fs (I.length-i) J=PY c fs I) I.length ow ?_ ?_ ?_
 .clear V s
  simp only[go_sem,zQ,zT,zG];exact⟨by rw[Int.sub_zero],I,rfl,List.Sublist.refl _,zD _,rfl⟩
 .clear V s
  rintro i fr h bo ec ew ⟨f1,f3,f6,f8,L,J,f7,S,jl,u⟩;subst L;obtain⟨k,hk⟩:∃k,I.length-i=k+1:=⟨I.length-i-1,ow⟩;have Y:(I.length:Int)-1- (i:Int)=(k:Int):=ow;rw[Y]at f8;have b6:decide ((k:Int)>=0)=true:=zR ow;have hw:IntKind.i64.wrap ((k:Int)-1)=(I.length:Int)-1- ((i+1:Nat):Int):=by rw[qJ ow ow];omega
  rw[hk]at u jl;have F:I.length- (i+1)=k:=ow;have W:=S.length_le;have A:=V2 (I:=J) (i:=k) ow ow;have o:(J.eraseIdx k).Sublist I:=(wW _ _).trans S;have M:=dM K (H.mono o) (f:=wN (J.eraseIdx k)) (yg.mk .no) (by have:=o.length_le;omega);have P:k<=(J.eraseIdx k).length:=by rw[mP];split<;>omega
  have hs:L6 c fs (k+1) J=L6 c fs k (if fT c (zw fs (J.eraseIdx k))=true then J.eraseIdx k else J):=rfl
  rw[hs]at u;cases hb:fT c (zw fs (J.eraseIdx k))with
  |true=>
   rw[hb,ip rfl]at u;rw[hb]at M;have O:∃E,wN (J.eraseIdx k)=wN E/\E.Sublist I/\I.length- (i+1)<=E.length/\L6 c fs (I.length- (i+1)) E=PY c fs I:=⟨_,rfl,o,ow,by rw[F];exact u⟩;clear u hs hk Y S jl o P hb W F
   repeat' first|simp only[go_sem, *]|apply bc<;>intro v|(refine zE.mono (A _) ?_;rintro r h ⟨L,rfl⟩)|(refine zE.mono (M _) ?_;rintro r h ⟨L,rfl⟩)
  |false=>
   rw[hb,iq zV]at u;rw[hb]at M;have O:∃E,wN J=wN E/\E.Sublist I/\I.length- (i+1)<=E.length/\L6 c fs (I.length- (i+1)) E=PY c fs I:=⟨_,rfl,S,ow,by rw[F];exact u⟩;clear u hs hk Y S jl o P hb W F
   repeat' first|simp only[go_sem, *]|apply bc<;>intro v|(refine zE.mono (A _) ?_;rintro r h ⟨L,rfl⟩)|(refine zE.mono (M _) ?_;rintro r h ⟨L,rfl⟩)
 .rintro fr h ec ⟨f1,f3,f6,f8,L,J,f7,S,jl,u⟩
  subst L;have bo:decide ((I.length:Int)-1- (I.length:Int)>=0)=false:=zO ow;rw[lv]at u;have u:J=PY c fs I:=u;rw[<-u]at V;have HF:InI fs J:=H.mono S;have W:=S.length_le;have cf:qX prog 35 [(0,wN J)]=some (.agg [wN J,.nilsl,.nilsl]):=by simp[qX,Zy,XT,uc,wg,D.cells,D.notTuple]
  obtain⟨B,aj,a1,a2,aE,aN⟩:∃B,h.new (n+1) (.row [wN J,.nilsl,.nilsl])=B/\B.at' (n+1)=some (.row [wN J,.nilsl,.nilsl])/\B.at' n=some (.row [.nilsl,.nilsl,.nilsl])/\Ext g B/\B.next=n+2:=⟨_,rfl,z5 _ _ _,by rw[zg ow];exact g1,hE.new ow _,by rw[<-ai,za,ai]⟩;have s1:yR prog 35 (.ptr (n+1) 0) (.agg [wN J,.nilsl,.nilsl]) (h.new (n+1) (.row [.nilsl,.nilsl,.nilsl]))=some B:=by
   rw[<-aj];exact yo fj ow rfl rfl rfl
  have w:=TI K.x K.sh (I:=J) (f:=wN J) (yg.mk .no) HF.lt ow;have t:=K.solve HF;obtain⟨b,ta,oa,es,ad,x1,x2,x3⟩:=nV c (zw fs J);obtain⟨p1,p2⟩:=Z2 c (zw fs J);rw[es]at t;generalize Z1 c (zw fs J)=p at *
  obtain⟨C,ak,b0,b1,b2,bE,bN⟩:∃C,B.new (n+2) (.row [.bool b,ta,oa,p])=C/\C.at' (n+2)=some (.row [.bool b,ta,oa,p])/\C.at' (n+1)=some (.row [wN J,.nilsl,.nilsl])/\C.at' n=some (.row [.nilsl,.nilsl,.nilsl])/\Ext g C/\C.next=n+3:=⟨_,rfl,z5 _ _ _,by rw[zg ow];exact a1,by rw[zg ow];exact a2,aE.new ow _,by rw[<-aN,za,aN]⟩;have s2:yR prog 49 (.ptr (n+2) 0) (.agg [.bool b,ta,oa,p]) (B.new (n+2) (.row [.bool false,.nilsl,.nilsl,.nilsl]))=some C:=by
   rw[<-ak];exact KA B x1 x2 x3
  obtain⟨T,a0,d1,d2,dE,dN⟩:∃T,C.set (n+1) (.row [wN J,p,.nilsl])=T/\T.at' (n+1)=some (.row [wN J,p,.nilsl])/\T.at' n=some (.row [.nilsl,.nilsl,.nilsl])/\Ext g T/\T.next=n+3:=⟨_,rfl,zU _ _ _,by rw[zW ow];exact b2,bE.set ow _,by rw[yc];exact bN⟩;have s3:yR prog 32 (.ptr (n+1) 1) p C=some T:=by
   rw[yM b1 A1 jS (by
    cases p<;>first|rfl|cases x3) x3,<-a0];rfl
  clear u hG g1 aj ak a0 bE aE hE es
  repeat' first|simp only[go_sem, *]|apply bc<;>intro v
  refine yp Heap.emp ((0,.st,true)::(pwt [1,2] ((3,.st,true)::((4,.st,true)::(pwt [5,6,7,8,9,10] []))))) kr kr (λi ob e=>by cases e) ?_
  repeat' first|simp only[go_sem, *]|apply bc<;>intro v
  refine kS _ (λH=>w H) ?_
  repeat' first|simp only[go_sem, *]|apply bc<;>intro v
  refine kS _ (λH=>t H) ?_
  repeat' first|simp only[go_sem, *]|apply bc<;>intro v
  clear w t s1 s2 s3 a1 a2 b0 b1 b2;refine zZ (λj fr h'=>fr 1=x/\fr 3=.iptr [ca,cb,ce,cp] 0/\fr 6=.ptr n 0/\fr 7=wN J/\fr 10=.ptr (n+1) 0/\fr 47=.int .i64 (J.length:Int)/\fr 48=.int .i64 (j:Int)/\n+1<h'.next/\h'.at' n=some (.row [.nilsl,.nilsl,.nilsl])/\∃e,h'.at' (n+1)=some (.row [wN J,p,e])/\Own g h' 2 (o7 c fs J j) e) J.length ow ?_ ?_ ?_
  .clear V
   simp only[go_sem,zQ,zT,zG];exact⟨f1,f3,f6,f7,ow,d2,.nilsl,d1,Own.start dE 2⟩
  .clear V s f1 f3 f6 f7 f8 d1 d2 dE dN
   rintro j fr h' a5 ad ew ⟨f1,f3,f6,f7,a8,a9,ba,bx,a1,e,a2,ho⟩;have A:=V2 (I:=J) (i:=j) a5 ow;have o:(J.eraseIdx j).Sublist J:=wW _ _;have b9:=o.length_le;have w:=TI K.x K.sh (I:=J.eraseIdx j) (f:=wN (J.eraseIdx j)) (yg.mk .no) (HF.mono o).lt ow;have t:=K.solve (HF.mono o);obtain⟨b,ta,oa,es,ag,x1,x2,x3⟩:=nV c (zw fs (J.eraseIdx j));rw[es]at t;have z:=Jr c fs J j;rw[ag]at z;have a7:(o7 c fs J j).length=j:=by simp[o7]
   generalize Z1 c (zw fs (J.eraseIdx j))=rB at *
   obtain⟨m,hm⟩:∃m,h'.next=m:=⟨_,rfl⟩;obtain⟨N,a3,b0,b1,b2,bN,a6⟩:∃N,h'.new m (.row [.bool b,ta,oa,rB])=N/\N.at' m=some (.row [.bool b,ta,oa,rB])/\N.at' (n+1)=some (.row [wN J,p,e])/\N.at' n=some (.row [.nilsl,.nilsl,.nilsl])/\N.next=m+1/\Own g N 2 (o7 c fs J j) e:=⟨_,rfl,z5 _ _ _,by rw[zg ow];exact a2,by rw[zg ow];exact a1,by rw[<-hm,za],ho.ext (by rw[<-hm];exact(Ext.refl h').new (zD _) _)⟩;have s4:yR prog 49 (.ptr m 0) (.agg [.bool b,ta,oa,rB]) (h'.new m (.row [.bool false,.nilsl,.nilsl,.nilsl]))=some N:=by
    rw[<-a3];exact KA h' x1 x2 x3
   have bb:∀nid H,yA prog false nid 33 1 [(0,.agg [ta,oa])] H=some (.sl 2 [[ta,oa]] .full,H):=λnid H=>qD (x:=.agg [ta,oa]) Y4 KW ay rfl rfl ow ow rfl rfl;have b3:yQ true 2 [.bool b,ta,oa,rB] 1=some (.agg [ta,oa]):=rfl;clear a3 ho es ag o
   repeat' first|simp only[go_sem, *]|apply bc<;>intro v
   refine yp Heap.emp ((0,.st,true)::(pwt [1,2,3] ((4,.st,true)::((5,.st,true)::((6,.st,true)::(pwt [7,8,9,10,11,12] [])))))) kr kr (λi ob e=>by cases e) ?_
   repeat' first|simp only[go_sem, *]|apply bc<;>intro v
   refine kS _ (λH=>A H) ?_
   repeat' first|simp only[go_sem, *]|apply bc<;>intro v
   refine kS _ (λH=>w H) ?_
   repeat' first|simp only[go_sem, *]|apply bc<;>intro v
   refine kS _ (λH=>t H) ?_
   repeat' first|simp only[go_sem, *]|apply bc<;>intro v
   rw[<-bN];refine a6.appK (ys:=[[ta,oa]]) Y4 zCq ay ow jS jS (by rw[a7,J9];unfold lim;simp;omega) (by rw[a7];unfold lim;simp;omega) λe' h5 Z bs X=> ?_;have c1:h5.at' (n+1)=some (.row [wN J,p,e]):=by rw[X _ ow (by rw[b1];intro q;cases q)];exact b1
   have c2:h5.at' n=some (.row [.nilsl,.nilsl,.nilsl]):=by rw[X _ ow (by rw[b2];intro q;cases q)];exact b2
   obtain⟨y1,y2,y3⟩:=Z.flat;have s5:yR prog 33 (.ptr (n+1) 2) e' h5=some (h5.set (n+1) (.row [wN J,p,e'])):=by
    rw[yM c1 zIp jS y2 y1];rfl
   have O:n+1<h5.next:=ow;have bk:(h5.set (n+1) (.row [wN J,p,e'])).at' n=some (.row [.nilsl,.nilsl,.nilsl]):=by rw[zW ow];exact c2
   have Q:=Z.setK ow c1 (by intro q;cases q) (.row [wN J,p,e']);clear A w t a6 Z X bs b0 b1 b2 c1 c2 bb b3 s4 z
   repeat' first|simp only[go_sem, *]|apply bc<;>intro v
   first|exact⟨e',rfl,Q⟩ |exact⟨bk,e',rfl,Q⟩
  .clear s f1 f3 f6 f7 f8 d1 d2 dE dN
   rintro fr h' ad ⟨f1,f3,f6,f7,a8,a9,ba,bx,a1,e,a2,ho⟩;obtain⟨q1,q2,q3⟩:=ho.fin λy hy=>by
    obtain⟨i,_,rfl⟩:=zN.1 hy;exact Ze _ _
   obtain⟨y1,y2,y3⟩:=ho.flat;obtain⟨U,a4,c1,c2,cE⟩:∃U,h'.set n (.row [wN J,p,e])=U/\U.at' n=some (.row [wN J,p,e])/\U.at' (n+1)=some (.row [wN J,p,e])/\Ext g U:=⟨_,rfl,zU _ _ _,by rw[zW ow];exact a2,q1.set ow _⟩;have cc:∀a b c:D,yQ true 3 [a,b,c] 0=some (.agg [a,b,c]):=λa b c=>zJ rfl ow;have s6:yR prog 35 (.ptr n 0) (.agg [wN J,p,e]) h'=some U:=by
    rw[<-a4];exact qh a1 (by rw[fj];rfl) rfl jS (by simp[x3,y1];rfl)
   have hp:=yh (sz:=1) (xs:=wC (nI J)) tU .no;have b4:R (.agg [wN J,p,e]) U:=V _ _ ⟨cE,⟨yw (yD _) _ (by rw[hp.1];exact hp.2),by rw[p1];exact yw (yD _) _ p2,q2,trivial⟩,qC e,by simp only[qC,qW,p1];rw[show D.sl 1 (oJ (wC (nI J))) Tk.no=wN J from hp.1],q3⟩
   clear V a4 cE q1 q2 q3 ho hp p1 p2;exact au
end
def Zh(fs:List Fac):zw fs (List.range fs.length)=fs:=by
 apply tR;intro j;rw[dV (λi a=>yn.1 a)];by_cases h:j<fs.length
 .rw[tX h];rfl
 .rw[wx jO,wx ow];rfl
def Rp(fs:List Fac):InI fs (List.range fs.length):=⟨λi a=>yn.1 a,List.pairwise_lt_range⟩
abbrev Y3(c:Cat)(fs:List Fac):List Nat:=PY c fs (List.range fs.length)
def A9(c:Cat)(fs:List Fac)(r:D):Prop:=
 (yq c fs≠0/\r=.tuple [.agg [.nilsl,.nilsl,.nilsl],.int .i64 (yq c fs)])\/
 (yq c fs=0/\fT c fs=false/\r=.tuple [.agg [.nilsl,.nilsl,.nilsl],.int .i64 14])\/
 (fT c fs=true/\∃wd,r=.tuple [.agg [wN (Y3 c fs),Z1 c (zw fs (Y3 c fs)),wd],.int .i64 0]/\Fin 2 (o7 c fs (Y3 c fs) (Y3 c fs).length) wd)
section
variable{c:Cat}{fs:List Fac}{ca cb ce cp x:D}
theorem zD2(K:KIn c fs ca cb ce cp x)(g:Heap):zE prog 18 [.agg [ca,cb,ce,cp],x] g λr h'=>h'=g/\A9 c fs r:=by
 have hl:=K.h16;refine xU kr λT=>xS ?_;refine xP λR F=> ?_;have Z:∀a b c:D,yQ true 3 [a,b,c] 0=some (.agg [a,b,c]):=λa b c=>zJ rfl ow;have Y:∀h,HLe Heap.emp h:=λh i O e=>by cases e
 have l:=Zb K.cat K.sm K.x ow K.ok;unfold cQ at l;obtain⟨n,S⟩:∃n,g.next=n:=⟨_,rfl⟩;obtain⟨G,hG,W,C,u⟩:∃G:Heap,g.new n (.row [.nilsl,.nilsl,.nilsl])=G/\G.next=n+1/\G.at' n=some (.row [.nilsl,.nilsl,.nilsl])/\Ext g G:=⟨_,rfl,by rw[<-S];exact za _ _,z5 _ _ _,by rw[<-S];exact(Ext.refl g).new (zD _) _⟩;have ad:qX prog 35 []=some (.agg [.nilsl,.nilsl,.nilsl]):=by simp[qX,Zy,XT,uc,D.cells,D.notTuple]
 have s0:yR prog 35 (.ptr n 0) (.agg [.nilsl,.nilsl,.nilsl]) G=some G:=by
  rw[qh C (by rw[fj];rfl) rfl jS rfl,uU C]
 have V:∀e:Int,below g.next (qC (.tuple [.agg [.nilsl,.nilsl,.nilsl],.int .i64 e])):=λe=>⟨⟨trivial,trivial,trivial,trivial⟩,trivial,trivial⟩;cases A:(yq c fs==0)with
 |false=>
  have L:yq c fs≠0:=by simpa using A
  have o:R (.tuple [.agg [.nilsl,.nilsl,.nilsl],.int .i64 (yq c fs)]) G:=F _ _ ⟨u,V _,.inl ⟨L,rfl⟩⟩;rw[iq (by rw[A];exact zV)]at l;refine zo zHF ?_;simp only[f18,zA]
  repeat' first|simp only[go_sem, *]|apply bc<;>intro m|(refine zE.mono (l _) ?_;rintro r h ⟨j,rfl⟩)
 |true=>
  have h0:yq c fs=0:=eq_of_beq A;rw[ip A]at l;have p:=zD4 K.x ow;have d:=λ(f:D) (hf:yg 1 (wC (nI (List.range fs.length))) f) g=>dM K (Rp fs) hf (by rw[uA];omega) g;rw[Zh]at d;cases t:fT c fs with
  |false=>
   have o:R (.tuple [.agg [.nilsl,.nilsl,.nilsl],.int .i64 14]) G:=F _ _ ⟨u,V _,.inr (.inl ⟨h0,t,rfl⟩)⟩;rw[t]at d;refine zo zHF ?_;simp only[f18,zA]
   repeat' first|simp only[go_sem, *]|apply bc<;>intro m|(refine zE.mono (l _) ?_;rintro r h ⟨j,rfl⟩)
   subst j
   rename Heap=>G
   refine yp Heap.emp ((0,.st,true)::(pwt [1,2,3,4,5] [])) kr kr (λi O e=>by cases e) ?_
   repeat' first|simp only[go_sem, *]|apply bc<;>intro m
   refine(p _).mono ?_;rintro r h ⟨j,hf⟩;subst j;have d:=d r hf.isSl
   repeat' first|simp only[go_sem, *]|apply bc<;>intro m|(refine zE.mono (d _) ?_;rintro r h ⟨j,rfl⟩)
  |true=>
   have v:List.range fs.length≠[]:=λe=>by
    obtain⟨s,M⟩:=LW t;unfold uK at M
    have:fs= []:=by
     have:=congrArg List.length e;rw[uA]at this;exact yN.1 this
    rw[this]at M;cases M
   have q:=λ(f:D) (hf:yg 1 (wC (nI (List.range fs.length))) f) g=>Mo K (Rp fs) v g λh _=>IG v (by rw[uA];omega) hf h;obtain⟨p1,p2⟩:=Z2 c (zw fs (Y3 c fs));obtain⟨_,_,_,_,_,_,_,x3⟩:=nV c (zw fs (Y3 c fs));have U:=yh (sz:=1) (xs:=wC (nI (Y3 c fs))) tU .no;have I:∀k h,Ext g h->Fin 2 (o7 c fs (Y3 c fs) (Y3 c fs).length) k->R (.tuple [.agg [wN (Y3 c fs),Z1 c (zw fs (Y3 c fs)),k],.int .i64 0]) h:=λk h u w=>by
    have z:qC k=k/\below 0 k:=by
     rcases w with⟨rfl,_⟩ |rfl
     .exact⟨rfl,trivial⟩
     .exact yh (sz:=2) (λy hy=>by
       obtain⟨i,_,rfl⟩:=zN.1 hy;exact Ze _ _) .no
    have Q:qC (.tuple [.agg [wN (Y3 c fs),Z1 c (zw fs (Y3 c fs)),k],.int .i64 0])=.tuple [.agg [wN (Y3 c fs),Z1 c (zw fs (Y3 c fs)),k],.int .i64 0]:=by
     simp only[qC,qW,p1,z.1];rw[show D.sl 1 (oJ (wC (nI (Y3 c fs)))) Tk.no=wN (Y3 c fs)from U.1]
    refine F _ _ ⟨u,?_,?_⟩
    .rw[Q]
     exact⟨⟨yw (yD _) _ U.2,yw (yD _) _ p2,yw (yD _) _ z.2,trivial⟩,trivial,trivial⟩
    .rw[Q];exact .inr (.inr ⟨t,k,rfl,w⟩)
   rw[t]at d;generalize Z1 c (zw fs (Y3 c fs))=P at *
   have J:(wN (Y3 c fs)).flat=true:=rfl;generalize wN (Y3 c fs)=B at *
   refine zo zHF ?_;simp only[f18,zA]
   repeat' first|simp only[go_sem, *]|apply bc<;>intro m|(refine zE.mono (l _) ?_;rintro r h ⟨j,rfl⟩)
   subst j
   rename Heap=>G
   refine yp Heap.emp ((0,.st,true)::(pwt [1,2,3,4,5] [])) kr kr (λi O e=>by cases e) ?_
   repeat' first|simp only[go_sem, *]|apply bc<;>intro m
   refine(p _).mono ?_;rintro r h ⟨j,hf⟩;subst j;have d:=d r hf.isSl
   rename Heap=>G
   repeat' first|simp only[go_sem, *]|apply bc<;>intro m|(refine zE.mono (d _) ?_;rintro r h ⟨j,rfl⟩)
   subst j
   rename Heap=>G
   refine yp Heap.emp ((0,.st,true)::(pwt [1,2,3,4,5,6] [])) kr kr (λi O e=>by cases e) ?_
   repeat' first|simp only[go_sem, *]|apply bc<;>intro m
   refine(p _).mono ?_;rintro r h ⟨j,hf⟩;subst j
   rename Heap=>G
   have q:=q r hf.isSl
   repeat' first|simp only[go_sem, *]|apply bc<;>intro m
   refine(q _).mono ?_;rintro r h ⟨j,k,rfl,w⟩;subst j;have N:k.flat=true:=by
    rcases w with⟨rfl,_⟩ |rfl<;>rfl
   obtain⟨H,X,h1,E⟩:∃H,h.set n (.row [B,P,k])=H/\H.at' n=some (.row [B,P,k])/\Ext g H:=⟨_,rfl,zU _ _ _,u.set ow _⟩;have s1:yR prog 35 (.ptr n 0) (.agg [B,P,k]) h=some H:=by
    rw[<-X];exact qh C (by rw[fj];rfl) rfl jS (by simp[J,x3,N])
   have o:=I k H E w;exact au
end
structure FewR(ns:List NdI):Prop where
 len:ns.length<=8191
 kids:∀n∈ns,n.kids.length<=1048576
 facts:∀n∈ns,n.facts.length<=24
def X9{ns:List NdI}(a:i<ns.length):ns.getD i nd0=ns[i]:=by rw[zC,zB a];rfl
section
variable{c:Cat}{fs:List Fac}{ca cb ce cp x td od:D}
theorem Ii(S:SpD c fs ca cb ce cp x td od){ns:List NdI}(Z:ga ns d)(X:FewR ns)(E:i<ns.length)(g:Heap):zE prog 121 [.iptr [ca,cb,ce,cp,x,td,od] 0,d,.int .i64 (i:Int)] g λr h'=>h'=g/\r=.bool (mL c fs ns.length i (ns.getD i nd0)):=by
 refine xU kr λad=> ?_;refine xP λR T=> ?_;have U:=Z.sl.2;obtain⟨cs,a1,A,B,rfl,k1,k2⟩:=Z.at E;obtain⟨N,hN⟩:∃N,g.next=N:=⟨_,rfl⟩;obtain⟨G,hG,W,hE⟩:∃G:Heap,g.new N (.row [.int .i64 ns[i].var,A,.int .i64 ns[i].row,B])=G/\G.at' N=some (.row [.int .i64 ns[i].var,A,.int .i64 ns[i].row,B])/\Ext g G:=⟨_,rfl,z5 _ _ _,by rw[<-hN];exact(Ext.refl g).new (zD _) _⟩;have ak:yR prog 139 (.ptr N 0) (.agg [.int .i64 ns[i].var,A,.int .i64 ns[i].row,B]) (g.new N (.row [.int .i64 0,.nilsl,.int .i64 0,.nilsl]))=some G:=by
  rw[<-hG];exact yo lT ow rfl rfl (by simp[(zp k1).2.2,(zp k2).2.2];exact⟨rfl,rfl⟩)
 have z:HLe (Heap.one N (.row [.int .i64 ns[i].var,A,.int .i64 ns[i].row,B])) G:=by rw[lH];exact W
 obtain⟨Q,y⟩:∃Q:D->Prop,∀b,Q (.bool b)↔R (.bool b) G:=⟨λd=>R d G,λ_=>Iff.rfl⟩;have K:∀r,(∃b,r=.bool b/\b=mL c fs ns.length i (ns.getD i nd0))->Q r:=λr ⟨b,e1,e2⟩=>by rw[e1];exact(y b).2 (T _ _ ⟨hE,trivial,by rw[e2]⟩)
 have hk:=tr k1;have ag:=tr k2;have aj:ns[i].kids.length<=1048576:=X.kids _ (zI E);have H:=X.len;have C:=TJ S;have t:=TK S;rw[X9 E]at K;generalize ns[i]=n at *
 obtain⟨m,hm,E,H⟩:∃m,ns.length=m/\i<m/\m<=8191:=⟨_,rfl,E,H⟩;rw[hm]at K U;have u:∀j (s:j<n.kids.length),(decide (n.kids[j]<=(i:Int))||decide (n.kids[j]>=(m:Int)))=true->R (.bool false) G:=λj s e=>(y _).1 (K _ ⟨_,rfl,by
  have:mL c fs m i n=false:=by
   unfold mL;rw[gY];refine .inl (sZ.2 λh=> ?_);have:=zb.1 h _ (zI s);rw[e]at this;cases this
  rw[this]⟩)
 have l:(∀j (s:j<n.kids.length),(decide (n.kids[j]<=(i:Int))||decide (n.kids[j]>=(m:Int)))=false)->∀b,b=(if(n.var== -1)=true then(n.kids.length:Int)==0 else decide (n.var>=0)&&decide (n.var<(ctV c fs:Int))&&decide ((szV c fs n.var.toNat:Int)>1)&&((n.kids.length:Int)==(szV c fs n.var.toNat:Int))&&n.row==0&&(n.facts.length:Int)==0)->R (.bool b) G:=λh b e=>(y _).1 (K _ ⟨_,rfl,by
  have:mL c fs m i n=b:=by
   unfold mL;rw[e,show n.kids.all (λk=> !(decide (k<=(i:Int))||decide (k>=(m:Int))))=true from ?_,tH]
   refine zb.2 λk hk=> ?_;obtain⟨j,s,rfl⟩:=zy.1 hk;rw[h j s];rfl
  rw[this]⟩)
 have au:∀a b e p:D,yQ true 4 [a,b,e,p] 0=some (.agg [a,b,e,p]):=λa b e p=>zJ rfl ow;refine zo zGu ?_;simp only[f121,zA]
 repeat' first|simp only[go_sem, *]|apply bc<;>intro w
 refine zZ (λj fr h=>fr 0=.iptr [ca,cb,ce,cp,x,td,od] 0/\fr 1=d/\fr 2=.int .i64 (i:Int)/\fr 7=.ptr N 0/\fr 15=A/\fr 16=.int .i64 (n.kids.length:Int)/\fr 17=.int .i64 (j:Int)/\h=G/\∀q (f:q<n.kids.length),q<j->(decide (n.kids[q]<=(i:Int))||decide (n.kids[q]>=(m:Int)))=false) n.kids.length ow ?_ ?_ ?_
 .clear u l C t
  simp only[go_sem,zQ,zT,zG];exact λq f h0=>by omega
 .rintro j fr h F ec ew ⟨f0,f1,f2,f7,M,O,P,f,s⟩
  subst f;have ai:=oe k1 F;have Y:=u j F;have I:(decide (n.kids[j]<=(i:Int))||decide (n.kids[j]>=(m:Int)))=false->∀q (f:q<n.kids.length),q<j+1->(decide (n.kids[q]<=(i:Int))||decide (n.kids[q]>=(m:Int)))=false:=λh q f V=>by
   rcases zx.1 V with e|rfl
   .exact s q f e
   .exact h
  generalize n.kids[j]=J at *
  cases e1:decide (J<=(i:Int))with
  |true=>
   rw[e1]at Y
   repeat' first|simp only[go_sem, *]|apply bc<;>intro w
  |false=>
   cases e2:decide (J>=(m:Int))with
   |true=>
    rw[e1,e2]at Y
    repeat' first|simp only[go_sem, *]|apply bc<;>intro w
   |false=>
    rw[e1,e2]at I;have hn:=I rfl
    repeat' first|simp only[go_sem, *]|apply bc<;>intro w
    exact hn
 .rintro fr h ec ⟨f0,f1,f2,f7,M,O,P,f,s⟩
  subst f;have o:=l λq f=>s q f f;cases L:(n.var== -1)with
  |true=>
   rw[L,ip rfl]at o;have o:=o _ rfl
   repeat' first|simp only[go_sem, *]|apply bc<;>intro w
  |false=>
   rw[L,iq zV]at o;cases e1:decide (n.var>=0)with
   |false=>
    rw[e1]at o;have o:=o false jS
    repeat' first|simp only[go_sem, *]|apply bc<;>intro w
    refine yp (Heap.one N (.row [.int .i64 n.var,A,.int .i64 n.row,B])) (pwt [0,1,2,3,4] ((5,.st,true)::(pwt [6,7,8,9,10,11,12,13,14,15,16,17,18] ((19,.st,true)::(pwt [20,21,22,23,24,25,26,27,28,29,30,31,32,33,34,35,36,37,38,39,40] []))))) kr kr z ?_
    repeat' first|simp only[go_sem,jJ, *]|apply bc<;>intro w
   |true=>
    obtain⟨v,hv⟩:∃v:Nat,n.var=(v:Int):=⟨n.var.toNat,by have:=yB e1;omega⟩;rw[hv,wE]at o;rw[hv]at e1 L W z;have t:=t v;rw[e1]at o
    repeat' first|simp only[go_sem, *]|apply bc<;>intro w
    refine yp (Heap.one N (.row [.int .i64 (v:Int),A,.int .i64 n.row,B])) (pwt [0,1,2,3,4] ((5,.st,true)::(pwt [6,7,8,9,10,11,12,13,14,15,16,17,18] ((19,.st,true)::(pwt [20,21,22,23,24,25,26,27,28,29,30,31,32,33,34,35,36,37,38,39,40] []))))) kr kr z ?_
    repeat' first|simp only[go_sem,jJ, *]|apply bc<;>intro w|(refine zE.mono (C _) ?_;rintro r h ⟨f,rfl⟩)|(refine zE.mono (t _) ?_;rintro r h ⟨f,rfl⟩)
end
abbrev Hf(yid vid:Nat)(d:D)(sp:List D):D:=.fn (.func 185) [] [.iptr [d] 0,.iptr [.iptr sp 0] 0,.iptr [.yld yid] 0,.ptr vid 0]
abbrev elV(xs:List (List D))(Lw:List (Nat×Part))(k:Nat):List D:=[.agg (xs.getD (Lw.getD k (0,⟨[],[]⟩)).1 []),Bs (Lw.getD k (0,⟨[],[]⟩)).2]
def LvQ(Y:Nat->(Nat->Prop)->Heap->Prop)(Z:(Nat->Prop)->Heap->Prop)(S1:Nat->Prop)(h:Heap)(k:Nat)(r:D)(h':Heap):Prop:=
 ∃S1',(∀i,S1' i->S1 i\/h.next<=i)/\But S1 h h'/\((r=.bool true/\Y k S1' h')\/(r=.bool false/\Z S1' h'))
structure RefD(ns:List NdI)(d:D)(xs:List (List D)):Prop where
 sl:yg 4 xs d
 at':∀(i:Nat),i<ns.length->∃cs,xs[i]? =some cs/\zJQ (ns.getD i nd0) cs
section
variable{c:Cat}{fs:List Fac}{ca cb ce cp x td od:D}
theorem zEI(S:SpD c fs ca cb ce cp x td od){ns:List NdI}(hd:RefD ns d xs)(hR:FewR ns)(hf:∀i,i<ns.length->mL c fs ns.length i (ns.getD i nd0)=true){s vid:Nat}{Lw:List (Nat×Part)}{Y:Nat->(Nat->Prop)->Heap->Prop}{Z:(Nat->Prop)->Heap->Prop}(y:Yld prog s Lw.length (elV xs Lw) Y Z):∀(m i:Nat)(p:Part),i<ns.length->ns.length<=i+m->POk c fs p->∀k,(∀j q,(lvL c fs ns m i p)[j]? =some q->Lw[k+j]? =some q)->∀S1 h,Y k S1 h->vid<h.next->¬S1 vid->h.at' vid=some (.row [Hf s vid d [ca,cb,ce,cp,x,td,od]])->zE prog 185 [.int .i64 (i:Int),Bs p,.iptr [d] 0,.iptr [.iptr [ca,cb,ce,cp,x,td,od] 0] 0,.iptr [.yld s] 0,.ptr vid 0] h (LvQ Y Z S1 h (k+(lvL c fs ns m i p).length))
 |0,i,p,t,hm,hp,k,hk,S1,h,hY,v0,v1,J=>by omega
 |m+1,i,p,t,hm,hp,k,hk,S1,h,hY,v0,v1,J=>by
  have b6:∀a b e p:D,yQ true 4 [a,b,e,p] 0=some (.agg [a,b,e,p]):=λa b e p=>zJ rfl ow;obtain⟨cs,W,kd,fd,e,k1,k2⟩:=hd.at' i t;have a1:yj prog 32 d (.int .i64 (i:Int))=some (.iptr cs 0):=yW hd.sl dT lT W;obtain⟨f1,f2⟩:=M9 (hf i t);have ba:(ns.getD i nd0).kids.length<=1048576:=by rw[X9 t];exact hR.kids _ (zI t)
  have ih:=zEI S hd hR hf (vid:=vid) y m;obtain⟨n,hn⟩:∃n,ns.getD i nd0=n:=⟨_,rfl⟩;have eL:lvL c fs ns (m+1) i p=if(n.var== -1||deV c fs p n.var.toNat)=true then [(i,p)]else(List.range n.kids.length).flatMap λk=>lvL c fs ns m (n.kids.getD k 0).toNat (pY c fs p n.var.toNat k):=by rw[<-hn];rfl
  rw[hn]at e k1 k2 f1 f2 ba;refine xP λQ O=> ?_;rw[eL]at O hk;subst e;obtain⟨N,hN⟩:∃N,h.next=N:=⟨_,rfl⟩;obtain⟨G,hG,g1,hE,a5⟩:∃G:Heap,h.new N (.row [.int .i64 n.var,kd,.int .i64 n.row,fd])=G/\G.at' N=some (.row [.int .i64 n.var,kd,.int .i64 n.row,fd])/\Ext h G/\G.next=N+1:=⟨_,rfl,z5 _ _ _,by rw[<-hN];exact(Ext.refl h).new (zD _) _,by rw[<-hN];exact za _ _⟩;have a4:yR prog 139 (.ptr N 0) (.agg [.int .i64 n.var,kd,.int .i64 n.row,fd]) (h.new N (.row [.int .i64 0,.nilsl,.int .i64 0,.nilsl]))=some G:=by
   rw[<-hG];exact yo lT ow rfl rfl (by simp[(zp k1).2.2,(zp k2).2.2];exact⟨rfl,rfl⟩)
  have M:∀r h',LvQ Y Z S1 G _ r h'->Q r h':=λr h' ⟨T,q1,q2,q3⟩=>O r h' ⟨T,λi t=>(q1 i t).imp (λq=>q) λq=>by omega,(hE.but _).trans q2 λi t=>.inl t,q3⟩;have R:=y.ext hY hE;have ak:¬S1 N:=λe=>by have:=y.here _ _ _ hY N e;omega
  have b5:=tr k1;have o:=λv (J:v<ctV c fs) g=>Vz S hp J g;cases L:(n.var== -1||deV c fs p n.var.toNat)with
  |true=>
   rw[L,ip rfl]at M hk;have a2:Lw[k]? =some (i,p):=hk 0 _ rfl;have E:=y.go k S1 G (zK.1 a2).1 R;simp only[elV,zC,a2,W,zA]at E;have C:∀r h',(∃S',(∀i,S' i->S1 i\/G.next<=i)/\But S1 G h'/\((r=.bool true/\Y (k+1) S' h')\/(r=.bool false/\Z S' h')))->Q r h':=λr h' q=>M _ _ q;clear M O hY R ak v0 v1 J hk a2 hn eL hd ih hf t hm W ba hG hE a5;cases e1:(n.var== -1)with
   |true=>
    clear o f1 f2 L;refine zo E6 ?_;simp only[f185,zA]
    repeat' first|simp only[go_sem, *]|apply bc<;>intro V
    refine E.mono λr h' A=> ?_;have A:=C r h' A;clear C E
    repeat' first|simp only[go_sem, *]|apply bc<;>intro V
   |false=>
    obtain⟨b1,g2,g3,g4⟩:=f2 (by simpa using e1);rw[e1,t7]at L;obtain⟨v,J⟩:∃v:Nat,n.var=(v:Int):=⟨n.var.toNat,ow⟩;rw[J,wE]at g2 L;have o:=o v g2;rw[L]at o;rw[J]at e1 E a1 g1 a4;clear f1 f2 b1 g2 g3 g4 L;clear J;refine zo E6 ?_;simp only[f185,zA]
    repeat' first|simp only[go_sem, *]|apply bc<;>intro V|(refine zE.mono (o _) ?_;rintro r h ⟨A,rfl⟩)
    subst A
    repeat' first|simp only[go_sem, *]|apply bc<;>intro V
    refine E.mono λr h' A=> ?_;have A:=C r h' A;clear C E
    repeat' first|simp only[go_sem, *]|apply bc<;>intro V
  |false=>
   rw[L,iq zV]at M hk;rw[sT]at L;obtain⟨e1,e2⟩:=L;obtain⟨b1,g2,g3,g4⟩:=f2 (by simpa using e1);obtain⟨v,bo⟩:∃v:Nat,n.var=(v:Int):=⟨n.var.toNat,ow⟩;have bk:n.var.toNat=v:=ow;rw[bk]at g2 g3 g4 e2 M hk;rw[bo]at e1 a1 g1 a4;have o:=o v g2;rw[e2]at o;generalize hK:(λj=>jq (List.range n.kids.length) (λk=>lvL c fs ns m (n.kids.getD k 0).toNat (pY c fs p v k)) j)=K;have a6:K 0=0:=by rw[<-hK];exact Zj _ _
   have a9:∀j,j<n.kids.length->K (j+1)=K j+(lvL c fs ns m (n.kids.getD j 0).toNat (pY c fs p v j)).length:=λj H=>by rw[<-hK];exact lF (by simp[H])
   have a7:K n.kids.length=((List.range n.kids.length).flatMap λk=>lvL c fs ns m (n.kids.getD k 0).toNat (pY c fs p v k)).length:=by
    have:=aG (List.range n.kids.length) (λk=>lvL c fs ns m (n.kids.getD k 0).toNat (pY c fs p v k));rw[uA]at this;rw[<-hK];exact this
   have a8:∀j,j<n.kids.length->∀q z,(lvL c fs ns m (n.kids.getD j 0).toNat (pY c fs p v j))[q]? =some z->Lw[k+K j+q]? =some z:=λj H q z A=>by
    have h1:=TU (l:=List.range n.kids.length) (f:=λk=>lvL c fs ns m (n.kids.getD k 0).toNat (pY c fs p v k)) (a:=j) (x:=j) (b:=q) (by simp[H]) (zK.1 A).1;rw[qn];refine hk _ z ?_;rw[<-hK];exact h1.trans A
   rw[<-a7]at M;obtain⟨I,F⟩:∃I:Nat->Heap->Prop,∀j h',I j h'↔∃S',(∀i,S' i->S1 i\/G.next<=i)/\But S1 G h'/\Y (k+K j) S' h':=⟨_,λ_ _=>Iff.rfl⟩;have ai:I 0 G:=(F _ _).2 ⟨S1,λi t=>.inl t,But.refl S1 G,by rw[a6];exact R⟩;have B:∀h',I n.kids.length h'->Q (.bool true) h':=λh' q=>by
    obtain⟨T,q1,q2,q3⟩:=(F _ _).1 q;exact M _ _ ⟨T,q1,q2,.inl ⟨rfl,q3⟩⟩
   have P:∀j (H:j<n.kids.length) h',I j h'->h'.at' vid=some (.row [Hf s vid d [ca,cb,ce,cp,x,td,od]])/\h'.at' N=some (.row [.int .i64 (v:Int),kd,.int .i64 n.row,fd])/\zE prog 185 [.int .i64 n.kids[j],Bs (pY c fs p v j),.iptr [d] 0,.iptr [.iptr [ca,cb,ce,cp,x,td,od] 0] 0,.iptr [.yld s] 0,.ptr vid 0] h' λr h2=>(r=.bool true/\I (j+1) h2)\/(r=.bool false/\Q (.bool false) h2):=λj H h' q=>by
    obtain⟨T,q1,q2,q3⟩:=(F _ _).1 q;have b0:n.kids.getD j 0=n.kids[j]:=by rw[zC,zB H];rfl
    obtain⟨b1,b2⟩:=f1 _ (zI H);have b3:n.kids[j]=(((n.kids.getD j 0).toNat:Nat):Int):=by rw[b0];omega
    have bb:h'.at' vid=some (.row [Hf s vid d [ca,cb,ce,cp,x,td,od]]):=by rw[q2.2 vid ow v1,hE.2 vid v0];exact J
    refine⟨bb,by rw[q2.2 N ow ak];exact g1,?_⟩;rw[b3];refine(ih (n.kids.getD j 0).toNat (pY c fs p v j) ow ow (hp.dec ow) (k+K j) (a8 j H) T h' q3 (by have:=q2.1;omega) (λe=>(q1 vid e).elim v1 ow) bb).mono ?_;rintro r h2 ⟨U,u1,u2,u3⟩;have ag:∀i,U i->S1 i\/G.next<=i:=λi t=>by
     have:=q2.1;rcases u1 i t with q|q
     .exact q1 i q
     .exact .inr ow
    have ad:But S1 G h2:=q2.trans u2 q1;rcases u3 with⟨rfl,w⟩ | ⟨rfl,w⟩
    .exact .inl ⟨rfl,(F _ _).2 ⟨U,ag,ad,by rw[a9 j H,<-qn];exact w⟩⟩
    .exact .inr ⟨rfl,M _ _ ⟨U,ag,ad,.inr ⟨rfl,w⟩⟩⟩
   have X:=λj (H:j<n.kids.length) g=>Xs (t1:=.no) (t2:=.no) S hp (v:=v) (k:=j) g2 ow g;clear M O hY R ak v0 v1 J hk hn eL hd ih hf t hm W hK a6 a9 a7 a8 F f1 f2 b1 g2 g3 g4 e2 bo bk hG hE a5;refine zo E6 ?_;simp only[f185,zA]
   repeat' first|simp only[go_sem, *]|apply bc<;>intro V|(refine zE.mono (o _) ?_;rintro r h ⟨A,rfl⟩)
   subst A
   repeat' first|simp only[go_sem, *]|apply bc<;>intro V
   refine zZ (λj fr h'=>fr 2=.iptr [d] 0/\fr 3=.iptr [.iptr [ca,cb,ce,cp,x,td,od] 0] 0/\fr 4=.iptr [.yld s] 0/\fr 5=.ptr vid 0/\fr 7=.iptr [tsD p,owD p] 0/\fr 9=.ptr N 0/\fr 31=kd/\fr 32=.int .i64 (n.kids.length:Int)/\fr 33=.int .i64 (j:Int)/\I j h') n.kids.length ow ?_ ?_ ?_
   .clear B P X
    simp only[go_sem,zQ,zT,zG];exact ai
   .clear B ai o g1 a4
    rintro j fr h' a3 ec ew ⟨f2,f3,f4,f5,f7,f9,bs,f32,bx,F⟩;obtain⟨r9,r10,u⟩:=P j a3 h' F;have a0:=X j a3;have aj:=oe k1 a3;have b4:HLe (Heap.one vid (.row [Hf s vid d [ca,cb,ce,cp,x,td,od]])) h':=by rw[lH];exact r9
    clear P X F r9;generalize n.kids[j]=b7 at *
    repeat' first|simp only[go_sem, *]|apply bc<;>intro V
    refine yp (Heap.one vid (.row [Hf s vid d [ca,cb,ce,cp,x,td,od]])) ((0,.st,true)::(pwt [2,3,1,4,5,6,7] (pwf [8,9] []))) kr kr b4 ?_
    repeat' first|simp only[go_sem,jJ, *]|apply bc<;>intro V|(refine zE.mono (a0 _) ?_;rintro r h ⟨A,rfl⟩)
    subst A
    repeat' first|simp only[go_sem, *]|apply bc<;>intro V
    refine u.mono ?_;rintro r h2 (⟨rfl,t⟩ | ⟨rfl,t⟩)
    .clear u a0
     exact au
    .clear u a0
     exact au
   .clear P X ai o
    rintro fr h' ec ⟨f2,f3,f4,f5,f7,f9,bs,f32,bx,F⟩;have A:=B _ F;clear B F;exact au
def XD(sp:List D)(d:D):D:=.fn (.func 184) [] [.iptr [d] 0,.iptr [.iptr sp 0] 0]
def Ij(a:List D)(b:yg 4 xs d)(g:Heap):zE prog 122 [.iptr a 0,d] g λr h'=>h'=g/\r=XD a d:=by
 rcases b with⟨rfl,_⟩ | ⟨_,rfl⟩
 .refine zo zBt ?_
  simp only[f122,zA];simp only[go_sem,XD, *]
 .refine zo zBt ?_
  simp only[f122,zA];simp only[go_sem,XD, *]
def K1(S:SpD c fs ca cb ce cp x td od){ns:List NdI}(D:RefD ns d xs)(B:FewR ns)(h0:0<ns.length)(hf:∀i,i<ns.length->mL c fs ns.length i (ns.getD i nd0)=true){a:Nat}{Y:Nat->(Nat->Prop)->Heap->Prop}{Z:(Nat->Prop)->Heap->Prop}(y:Yld prog a (lvR c fs ns).length (elV xs (lvR c fs ns)) Y Z)(s:Y 0 U h):
  zE prog 184 [.yld a,.iptr [d] 0,.iptr [.iptr [ca,cb,ce,cp,x,td,od] 0] 0] h λ_ h'=>∃r,LvQ Y Z U h (lvR c fs ns).length r h':=by
 have n:=Im S;have C:∀(t:TypeId)(nid:Nat)(h:Heap),gx t nid h (some .nilfn)=some (.ptr nid 0,h.new nid (.row [.nilfn])):=λ_ _ _=>rfl;have o:yR prog 259 (.ptr h.next 0) (Hf a h.next d [ca,cb,ce,cp,x,td,od]) (h.new h.next (.row [.nilfn]))=some (h.new h.next (.row [Hf a h.next d [ca,cb,ce,cp,x,td,od]])):=yo zCd ow rfl rfl rfl;obtain⟨G,z,p,g,k⟩:∃G:Heap,h.new h.next (.row [Hf a h.next d [ca,cb,ce,cp,x,td,od]])=G/\Ext h G/\G.at' h.next=some (.row [Hf a h.next d [ca,cb,ce,cp,x,td,od]])/\h.next<G.next:=⟨_,rfl,(Ext.refl h).new (zD _) _,z5 _ _ _,by rw[za];omega⟩;rw[z]at o
 have b:=zEI S D B hf y ns.length 0 (o6 c fs) h0 ow (tj c fs _) 0 (λj q e=>by rw[yP];exact e) U G (y.ext s p) k (λe=>wK _ (y.here _ _ _ s _ e)) g;have f:∀r h',LvQ Y Z U G (0+(lvR c fs ns).length) r h'->LvQ Y Z U h (lvR c fs ns).length r h':=by
  rintro r h' ⟨T,E,F,w⟩;rw[yP]at w;exact⟨T,λi l=>(E i l).imp (λq=>q) λq=>by omega,(p.but _).trans F λi l=>.inl l,w⟩
 have m:HLe (Heap.one h.next (.row [Hf a h.next d [ca,cb,ce,cp,x,td,od]])) G:=by rw[lH];exact g
 refine xP λQ A=> ?_;have f:=λr h' q=>A (.tuple []) h' ⟨r,f r h' q⟩;rw[show((0:Nat):Int)=0 from rfl]at b
 refine zo zHH ?_;simp only[f184,zA]
 repeat' first|simp only[go_sem, *]|apply bc<;>intro u
 refine yp (Heap.one h.next (.row [Hf a h.next d [ca,cb,ce,cp,x,td,od]])) ((0,.st,true)::(pwt [1,2] (pwf [3] []))) kr kr m ?_
 repeat' first|simp only[go_sem,jJ, *]|apply bc<;>intro u|(refine zE.mono (n _) ?_;rintro r h ⟨v,rfl⟩)
 subst v
 repeat' first|simp only[go_sem, *]|apply bc<;>intro u
 refine b.mono λr h' q=> ?_;have v:=f r h' q;exact au
end
def ga.refD{ns:List NdI}(h:ga ns d):∃xs,RefD ns d xs:=by
 obtain⟨xs,h1,b,h3⟩:=h;exact⟨xs,h1,λi a=>h3 i _ (by rw[X9 a];exact zB a)⟩
abbrev zJi(c:Cat)(fs:List Fac)(ns:List NdI)(k:Nat):Nat×Part:=(lvR c fs ns).getD k (0,⟨[],[]⟩)
def WRi(c:Cat)(fs:List Fac)(ns:List NdI)(n k:Nat)(S:Nat->Prop)(h:Heap):Prop:=n<h.next/\h.at' n=some (.row [.bool false])/\(∀j,j<k->Ld c fs ns (zJi c fs ns j)=true)/\∀i,S i↔i=n
def VRi(c:Cat)(fs:List Fac)(ns:List NdI)(n:Nat)(S:Nat->Prop)(h:Heap):Prop:=n<h.next/\h.at' n=some (.row [.bool false])/\(lvR c fs ns).all (Ld c fs ns)=false/\∀i,S i↔i=n
def WRi.lcl(c:Cat)(fs:List Fac)(ns:List NdI)(n:Nat):Lcl (WRi c fs ns n):=by
 refine⟨λk S h y i f=> ?_,λk S h h' y j g=> ?_⟩
 .obtain⟨b,d,e,a⟩:=y
  rw[(a i).1 f];exact b
 .obtain⟨b,d,e,a⟩:=y
  exact⟨ow,by rw[g _ ((a _).2 rfl)];exact d,e,a⟩
def VRi.lcl(c:Cat)(fs:List Fac)(ns:List NdI)(n:Nat):Lcl λ_=>VRi c fs ns n:=by
 refine⟨λk S h y i f=> ?_,λk S h h' y j g=> ?_⟩
 .obtain⟨b,d,e,a⟩:=y
  rw[(a i).1 f];exact b
 .obtain⟨b,d,e,a⟩:=y
  exact⟨ow,by rw[g _ ((a _).2 rfl)];exact d,e,a⟩
section
variable{c:Cat}{fs:List Fac}{ca cb ce cp x td od:D}
theorem zGg{ns:List NdI}(hf:∀i,i<ns.length->mL c fs ns.length i (ns.getD i nd0)=true):∀m i p,i<ns.length->POk c fs p->∀l∈lvL c fs ns m i p,l.1<ns.length/\POk c fs l.2
 |0,i,p,b,e,l,a=>by cases a
 |m+1,i,p,b,e,l,a=>by
  obtain⟨h,j⟩:=M9 (hf i b);unfold lvL at a;split at a
  .rw[zi]at a
   subst a;exact⟨b,e⟩
  .rename_i f
   rw[qN,Wd]at f;obtain⟨n,o,q,r⟩:=j (by simpa using f.1);obtain⟨k,g,a⟩:=z6.1 a;rw[yn]at g;have d:(ns.getD i nd0).kids.getD k 0∈(ns.getD i nd0).kids:=zBc g;obtain⟨k1,k2⟩:=h _ d;exact zGg hf m _ _ ow (e.dec ow) l a
theorem ES(S:SpD c fs ca cb ce cp x td od){ns:List NdI}(hd:ga ns d)(hR:FewR ns)(g:Heap):zE prog 73 [.iptr [ca,cb,ce,cp,x,td,od] 0,d] g λr h'=>h'=g/\r=.bool (fY c fs ns):=by
 refine xU kr λb9=> ?_;refine xP λR bb=> ?_;have X:∀(h:Heap) b,Ext g h->b=fY c fs ns->R (.bool b) h:=λh b K e=>bb _ _ ⟨K,trivial,by rw[e]⟩;obtain⟨n,hn⟩:∃n,g.next=n:=⟨_,rfl⟩;obtain⟨G,hG,ba,g1,K⟩:∃G:Heap,g.new n (.row [.bool false])=G/\G.next=n+1/\G.at' n=some (.row [.bool false])/\Ext g G:=⟨_,rfl,by rw[<-hn];exact za _ _,z5 _ _ _,by rw[<-hn];exact(Ext.refl g).new (zD _) _⟩;have s0:yR prog 4 (.ptr n 0) (.bool false) G=some G:=by
  rw[yM g1 RN jS rfl rfl];exact congrArg some (uU g1)
 have cc:∀(nid:Nat)(h:Heap),gx 4 nid h (some (.bool false))=some (.ptr nid 0,h.new nid (.row [.bool false])):=λ_ _=>rfl;have cg:=hd.sl.2;cases e0:((ns.length:Int)==0)with
 |true=>
  have s:=X G false K (by
   have:ns.length=0:=by have:=eq_of_beq e0;omega
   unfold fY;rw[this];rfl)
  refine zo zM8 ?_;simp only[f73,zA]
  repeat' first|simp only[go_sem, *]|apply bc<;>intro z
 |false=>
 have h0:0<ns.length:=by
  rcases lu ns.length with q|q
  .rw[q]at e0;cases e0
  .exact q
 have ch:=hR.len;have a1:=λi (o:i<ns.length)=>Ii S hd hR o;have M:∀i,i<ns.length->mL c fs ns.length i (ns.getD i nd0)=false->R (.bool false) G:=λi o e=>X G false K (by
  have:(List.range ns.length).all (λi=>mL c fs ns.length i (ns.getD i nd0))=false:=sZ.2 λh=>by
   have:=zb.1 h i (yn.2 o);rw[e]at this;cases this
  unfold fY;rw[this];simp)
 have f:(∀i,i<ns.length->mL c fs ns.length i (ns.getD i nd0)=true)->∀h b,Ext g h->(lvR c fs ns).all (Ld c fs ns)=b->R (.bool b) h:=λh H b K e=>X H b K (by
  have h1:(List.range ns.length).all (λi=>mL c fs ns.length i (ns.getD i nd0))=true:=zb.2 λi o=>h i (yn.1 o);have I:(ns.length==0)=false:=yf.2 ow;unfold fY;rw[h1,I,e];rfl)
 obtain⟨xs,ai⟩:=hd.refD;have Z:=Ij [ca,cb,ce,cp,x,td,od] ai.sl;refine zo zM8 ?_;simp only[f73,zA]
 repeat' first|simp only[go_sem, *]|apply bc<;>intro z
 refine zZ (λj fr h=>fr 1=d/\fr 2=.iptr [.iptr [ca,cb,ce,cp,x,td,od] 0] 0/\fr 4=.ptr n 0/\fr 12=.int .i64 (ns.length:Int)/\fr 13=.int .i64 (j:Int)/\h=G/\∀q,q<j->mL c fs ns.length q (ns.getD q nd0)=true) ns.length ow ?_ ?_ ?_
 .clear M f a1 Z
  simp only[go_sem,zQ,zT,zG];exact λq s=>absurd s (ym _)
 .clear f Z
  rintro j fr h a4 ec ew ⟨f1,f2,f4,a7,a8,s,w⟩;subst s;have E:=a1 j a4;have hb:=M j a4;cases ef:mL c fs ns.length j (ns.getD j nd0)with
  |false=>
   rw[ef]at E;have hb:=hb ef
   repeat' first|simp only[go_sem, *]|apply bc<;>intro z|(refine zE.mono (E _) ?_;rintro r h ⟨s,rfl⟩)
  |true=>
   rw[ef]at E;have hn:∀q,q<j+1->mL c fs ns.length q (ns.getD q nd0)=true:=λq s=>by
    rcases zx.1 s with e|rfl
    .exact w q e
    .exact ef
   repeat' first|simp only[go_sem, *]|apply bc<;>intro z|(refine zE.mono (E _) ?_;rintro r h ⟨s,rfl⟩)
   subst s
   repeat' first|simp only[go_sem, *]|apply bc<;>intro z
   exact hn
 rintro fr h ec ⟨f1,f2,f4,a7,a8,s,hf⟩;subst s;have f:=f hf
 repeat' first|simp only[go_sem,XD, *]|apply bc<;>intro z|(refine zE.mono (Z _) ?_;rintro r h ⟨s,rfl⟩)
 subst s
 rename Heap=>G
 generalize y:LRec.mk _ _ _ _ _ _ _=L;have b4:L.pending=none:=by rw[<-y]
 have b5:L.st=.ready:=by rw[<-y]
 have bk:WRi c fs ns n 0 (λj=>j=n) G:=⟨ow,g1,λj w=>absurd w (ym _),λ_=>Iff.rfl⟩;refine Q3 (W:=WRi c fs ns n) (V:=VRi c fs ns n) (n:=(lvR c fs ns).length) (el:=elV xs (lvR c fs ns)) ba (WRi.lcl c fs ns n) (VRi.lcl c fs ns n) b5 b4 bk (λyl bo=>(K1 S ai hR h0 hf yl bo).mono λr h' ⟨r',T,q1,q2,q3⟩=>⟨T,q1,q2,q3.imp (λq=>q.2) λq=>q.2⟩) ?_ ?_ ?_
 .intro k S0 h3 hk A a2 b8 a5
  have N:=a2;rw[<-y]at N;obtain⟨w1,w2,w3,w4⟩:=b8;obtain⟨l,Y⟩:∃l,zJi c fs ns k=l:=⟨_,rfl⟩;have a3:l∈lvR c fs ns:=by rw[<-Y,zJi,zC,zB hk];exact zI _
  obtain⟨i1,i2⟩:=zGg hf _ _ _ h0 (tj c fs _) l a3;obtain⟨i,q⟩:=l;simp only at i1 i2;obtain⟨cs,bs,kd,P,e,k1,k2⟩:=ai.at' i i1;have bx:elV xs (lvR c fs ns) k= [.agg cs,Bs q]:=by
   simp only[elV];rw[show(lvR c fs ns).getD k (0,⟨[],[]⟩)=(i,q)from Y,zC,bs];rfl
  rw[bx];have cf:(ns.getD i nd0).facts.length<=24:=by rw[X9 i1];exact hR.facts _ (zI i1)
  have a0:=Kp (i2.cin S) (v:=(ns.getD i nd0).v) (cv:=[.int .i64 (ns.getD i nd0).row,P]) ⟨P,rfl,k2,by show(ns.getD i nd0).facts.length<=_;omega⟩;have b3:Ld c fs ns (i,q)=((ns.getD i nd0).var== -1&&fG c fs (oP q) (ns.getD i nd0).v==0):=rfl;have cl:∀a b e p:D,yQ true 4 [a,b,e,p] 0=some (.agg [a,b,e,p]):=λa b e p=>zJ rfl ow;have cm:yQ true 4 [ca,cb,ce,cp,x,td,od] 0=some (.agg [ca,cb,ce,cp]):=rfl;have cu:∀a b e p:D,yQ true 2 [a,b,e,p] 2=some (.agg [e,p]):=λa b e p=>rfl;subst e;obtain⟨m,hm⟩:∃m,h3.next=m:=⟨_,rfl⟩
  obtain⟨J,b0,u2,u3,u4⟩:∃J:Heap,h3.new m (.row [.int .i64 (ns.getD i nd0).var,kd,.int .i64 (ns.getD i nd0).row,P])=J/\J.next=m+1/\J.at' m=some (.row [.int .i64 (ns.getD i nd0).var,kd,.int .i64 (ns.getD i nd0).row,P])/\Ext h3 J:=⟨_,rfl,by rw[<-hm];exact za _ _,z5 _ _ _,by rw[<-hm];exact(Ext.refl h3).new (zD _) _⟩;obtain⟨h5,b1,p1,p2,p3⟩:∃h5:Heap,J.new (m+1) (.row [tsD q,owD q])=h5/\h5.at' (m+1)=some (.row [tsD q,owD q])/\h5.at' m=some (.row [.int .i64 (ns.getD i nd0).var,kd,.int .i64 (ns.getD i nd0).row,P])/\Ext h3 h5:=⟨_,rfl,z5 _ _ _,by rw[zg ow];exact u3,u4.new ow _⟩
  have b6:yR prog 139 (.ptr m 0) (.agg [.int .i64 (ns.getD i nd0).var,kd,.int .i64 (ns.getD i nd0).row,P]) (h3.new m (.row [.int .i64 0,.nilsl,.int .i64 0,.nilsl]))=some J:=by
   rw[<-b0];exact yo lT ow rfl rfl (by simp[(zp k1).2.2,(zp k2).2.2];exact⟨rfl,rfl⟩)
  have b7:yR prog 47 (.ptr (m+1) 0) (.agg [tsD q,owD q]) (J.new (m+1) (.row [.nilsl,.nilsl]))=some h5:=by
   rw[<-b1];exact yo ay ow rfl rfl rfl
  have b2:h5.at' (n+1)=some (.loop L):=by rw[p3.2 _ A];exact a2
  have O:=b2;rw[<-y]at O;have ak:Ld c fs ns (i,q)=false->(lvR c fs ns).all (Ld c fs ns)=false:=λe=>sZ.2 λh=>by
   have:=zb.1 h _ a3;rw[e]at this;cases this
  refine uC.round (g:=zAx) mix N rfl kr kr kr ?_;simp only[go_sem,hm,u2,b6,b7];refine⟨O,?_⟩;generalize a9:LRec.mk .busy _ _ _ _ _ _=B;have aj:({ B with st:=.ready,pending:=none } :LRec)=L:=by rw[<-a9,<-y]
  obtain⟨u,U,t1,t2,t3⟩:∃u,h5.set (n+1) (.loop B)=u/\u.at' n=some (.row [.bool false])/\u.at' (n+1)=some (.loop B)/\But (λi=>i=n+1) h3 u:=⟨_,rfl,by rw[zW ow,p3.2 n w1];exact w2,zU _ _ _,by rw[yc];exact p3.1,λi Y o=>by rw[zW o];exact p3.2 i Y⟩;have v1:u.at' m=some (.row [.int .i64 (ns.getD i nd0).var,kd,.int .i64 (ns.getD i nd0).row,P]):=by rw[<-U,zW ow];exact p2
  have v2:u.at' (m+1)=some (.row [tsD q,owD q]):=by rw[<-U,zW ow];exact p1
  rw[U];have s1:yR prog 4 (.ptr n 0) (.bool false) u=some u:=by
   rw[yM t1 RN jS rfl rfl];exact congrArg some (uU t1)
  have a6:n<u.next:=zl w1 t3.1;have ag:Ld c fs ns (i,q)=true->∀fr,rH (LpZ (n+1) L (WRi c fs ns n) (VRi c fs ns n) k S0 h3) (n+1) .normal fr u:=λho fr=>
   Lp.finZ (WRi.lcl c fs ns n) aj A a5 t2 (S':=S0) (λi o=>.inl o) ⟨t3.1,λi o ad=>t3.2 i o λe=>ad (.inl e)⟩ ⟨a6,t1,λj w=>by
    rcases zx.1 w with e|rfl
    .exact w3 j e
    .rw[Y];exact ho,w4⟩
  have C:Ld c fs ns (i,q)=false->∀fr,rH (LpZ (n+1) L (WRi c fs ns n) (VRi c fs ns n) k S0 h3) (n+1) .ret fr u:=λho fr=>
   Lp.retZ (VRi.lcl c fs ns n) aj A a5 t2 (S':=S0) (λi o=>.inl o) ⟨t3.1,λi o ad=>t3.2 i o λe=>ad (.inl e)⟩ ⟨a6,t1,ak ho,w4⟩
  rw[b3]at ag C;generalize ns.getD i nd0=nd at *
  generalize fG c fs (oP q) nd.v=ck at *
  cases e1:(nd.var== -1)with
  |false=>
   rw[e1]at C;have t:=C rfl
   repeat' first|simp only[go_sem, *]|apply bc<;>intro z
   refine yp Heap.emp (pwf [0,1,2,3,4,8,12,5,6,7,9,10,11,13,14,15,16,17] []) kr kr (λi ob e=>by cases e) ?_
   repeat' first|simp only[go_sem, *]|apply bc<;>intro z
  |true=>
   cases e2:(ck==0)with
   |false=>
    rw[e1,e2]at C;have t:=C rfl
    repeat' first|simp only[go_sem, *]|apply bc<;>intro z
    refine yp Heap.emp (pwf [0,1,2,3,4,8,12,5,6,7,9,10,11,13,14,15,16,17] []) kr kr (λi ob e=>by cases e) ?_
    repeat' first|simp only[go_sem, *]|apply bc<;>intro z|(refine zE.mono (a0 _) ?_;rintro r h ⟨s,rfl⟩)
   |true=>
    rw[e1,e2]at ag;have t:=ag rfl
    repeat' first|simp only[go_sem, *]|apply bc<;>intro z
    refine yp Heap.emp (pwf [0,1,2,3,4,8,12,5,6,7,9,10,11,13,14,15,16,17] []) kr kr (λi ob e=>by cases e) ?_
    repeat' first|simp only[go_sem, *]|apply bc<;>intro z|(refine zE.mono (a0 _) ?_;rintro r h ⟨s,rfl⟩)
 .intro S' I hs hb hw
  obtain⟨w1,w2,w3,w4⟩:=hw;have Q:Ext g I:=Ext.of_but K hb λj w=>by subst w;omega
  obtain⟨F,hF,E1,f1⟩:∃F,I.set n (.row [.bool true])=F/\Ext g F/\F.at' n=some (.row [.bool true]):=⟨_,rfl,Q.set ow _,zU _ _ _⟩;have s1:yR prog 4 (.ptr n 0) (.bool true) I=some F:=by
   rw[yM w2 RN jS rfl rfl,<-hF];rfl
  have t:=f F true E1 (zb.2 λl Y=>by
   obtain⟨j,w,rfl⟩:=zy.1 Y;have:=w3 j w
   rwa [zJi,zC,zB w]at this)
  exact au
 .intro S' I hs hb hw
  obtain⟨w1,w2,w3,w4⟩:=hw;have Q:Ext g I:=Ext.of_but K hb λj w=>by subst w;omega
  have t:=f I false Q w3;exact au
end
def YU(c:Cat)(fs:List Fac)(y:Cho):Bool:=if(!(qP c fs y false==0))=true then false else !(Px c fs y).head?.isSome
def QV(c:Cat)(fs:List Fac)(y:Cho):YW c fs y=.tuple [.bool (YU c fs y),.int .i64 (qP c fs y false)]:=by
 unfold YW YU;split
 .rfl
 .rename_i h
  have:qP c fs y false=0:=by simpa using h
  rw[this]
def PW(c:Cat)(fs:List Fac)(b:Bool)(y:Cho)(ns:List NdI):Int:=
 if(!(yq c fs==0))=true then yq c fs else
 if b=true then(if(decide ((ns.length:Int)>0)|| !(qP c fs y false==0)|| !(YU c fs y))=true then 18 else 0)
 else if(decide ((y.ts.length:Int)+(y.own.length:Int)>0)|| !(fY c fs ns))=true then 18 else 0
variable{c:Cat}{fs:List Fac}{x:D}
def ER{ca cb ce cp x:D}(l:uL c (.agg [ca,cb,ce,cp]))(A:c.Sm)(B:yg 12 (nu fs) x)(t:Dl fs)(p:∀f∈fs,f.Ok){y:Cho}{ta oa rd:D}(C:Pu y (.agg [ta,oa]))(n:y.Sm){ns:List NdI}(z:ga ns rd)(E:FewR ns)(g:Heap):
  zE prog 32 [.agg [ca,cb,ce,cp],x,.agg [.bool b,ta,oa,rd]] g λr h'=>h'=g/\r=.int .i64 (PW c fs b y ns):=by
 refine xP λQ u=> ?_;have i:∀v,v=PW c fs b y ns->Q (.int .i64 v) g:=λv e=>u _ _ ⟨rfl,by rw[e]⟩;unfold PW at i;have I:CIn c fs y (.agg [ca,cb,ce,cp]) x (.agg [ta,oa]):=⟨l,A,B,by have:=t.1.2;omega,t.1.1,p,C,n⟩;have o:=bq I;rw[QV]at o;have d:=Il l A B t p;have F:=z.sl.2;have L:∀a b c e:D,yQ true 2 [a,b,c,e] 1=some (.agg [b,c]):=λa b c e=>rfl;obtain⟨R,P,e,K,J⟩:=C;cases e;have H:=tA K;have G:=wU J;have T:IntKind.i64.wrap ((y.ts.length:Int)+(y.own.length:Int))=(y.ts.length:Int)+(y.own.length:Int):=by
  have:=n.tl;have:=n.ol;exact qJ ow ow
 cases s:(yq c fs==0)with
 |false=>
  have w:yq c fs≠0:=by simpa using s
  rw[s,ip (by rfl)]at i;have j:=i _ rfl;have d:∀g,zE prog 42 [.agg [ca,cb,ce,cp],x] g λr h'=>h'=g/\r=.tuple [.nilptr,.int .i64 (yq c fs)]:=λg=>(d g).mono λr h' q=>⟨q.1,by
   rcases q.2 with⟨_,e⟩ | ⟨e,_⟩
   .exact e
   .exact absurd e w⟩
  refine zo zJp ?_;simp only[f32,zA]
  repeat' first|simp only[go_sem, *]|apply bc<;>intro l|(refine zE.mono (d _) ?_;rintro r h ⟨j,rfl⟩)
 |true=>
  rw[s,iq jD]at i;have d:∀g,zE prog 42 [.agg [ca,cb,ce,cp],x] g λr h'=>h'=g/\∃td od,r=.tuple [.iptr [ca,cb,ce,cp,x,td,od] 0,.int .i64 0]/\SpD c fs ca cb ce cp x td od:=λg=>(d g).mono λr h' q=>⟨q.1,by
   rcases q.2 with⟨e,_⟩ | ⟨_,td,od,e,S,_⟩
   .exact absurd (eq_of_beq s) e
   .exact⟨td,od,e,S⟩⟩
  have m:∀td od,SpD c fs ca cb ce cp x td od->∀g,zE prog 73 [.iptr [ca,cb,ce,cp,x,td,od] 0,rd] g λr h'=>h'=g/\r=.bool (fY c fs ns):=λtd od S g=>ES S z E g;generalize YU c fs y=M at *
  generalize qP c fs y false=N at *
  generalize fY c fs ns=O at *
  cases b with
  |true=>
   rw[ip rfl]at i;refine zo zJp ?_;simp only[f32,zA]
   repeat' first|simp only[go_sem, *]|apply bc<;>intro l
   refine(d _).mono ?_;rintro r k ⟨j,td,od,rfl,S⟩;subst j;cases e1:decide ((ns.length:Int)>0)<;>cases e2:(N==0)<;>cases M<;>rw[e1,e2]at i<;>have j:=i _ rfl<;>clear i<;>simp only[oQ,sN,nh,oD,pH,t7,ln,zf,qK,yr]at j
   all_goals
    repeat' first|simp only[go_sem, *]|apply bc<;>intro l|(refine zE.mono (o _) ?_;rintro r h ⟨j,rfl⟩)
  |false=>
   rw[iq zV]at i;refine zo zJp ?_;simp only[f32,zA]
   repeat' first|simp only[go_sem, *]|apply bc<;>intro l
   refine(d _).mono ?_;rintro r k ⟨j,td,od,rfl,S⟩;subst j;have m:=m td od S;cases e1:decide ((y.ts.length:Int)+(y.own.length:Int)>0)<;>cases O<;>rw[e1]at i<;>have j:=i _ rfl<;>clear i<;>simp only[oQ,sN,nh,oD,pH,t7,ln,zf,qK,yr]at j
   all_goals
    repeat' first|simp only[go_sem, *]|apply bc<;>intro l|(refine zE.mono (m _) ?_;rintro r h ⟨j,rfl⟩)
def zAA(ys:List Cho)(d:D):Prop:=∃xs,yg 2 xs d/\xs.length=ys.length/\∀(i:Nat) y,ys[i]? =some y->∃ta oa,xs[i]? =some [ta,oa]/\Pu y (.agg [ta,oa])
def okW(c:Cat)(fs:List Fac)(I:List Nat)(i:Nat)(y:Cho):Bool:=qP c (zw fs (I.eraseIdx i)) y false==0&&YU c (zw fs (I.eraseIdx i)) y
structure GoodI(c:Cat)(fs:List Fac)(I:List Nat)(ns:List NdI)(ys:List Cho):Prop where
 h:InI fs I
 s:PW c (zw fs I) false ⟨[],[]⟩ ns=0
 l:ys.length=I.length
 w:∀(i:Nat) y,ys[i]? =some y->okW c fs I i y=true
def Fb(c:Cat)(fs:List Fac)(ks:List Int)(ns:List NdI)(ys:List Cho):Prop:=∃I,ks=nI I/\GoodI c fs I ns ys
def zNg(c:Cat)(fs:List Fac)(ks:List Int)(ns:List NdI)(ys:List Cho)(e:Int):Prop:=(yq c fs≠0/\e=yq c fs)\/(yq c fs=0/\(Fb c fs ks ns ys/\e=0\/¬Fb c fs ks ns ys/\e=18))
def Hk{I J:List Nat}(h:nI I=nI J):I=J:=by
 have:=congrArg (List.map Int.toNat) h;simpa [nI,wA,nE]using this
theorem Aj{ks:List Int}(h:zDl ks):∀(j i:Nat)(b:j<ks.length)(a:i<j),ks[i]'ow<ks[j]
 |j+1,i,b,a=>by
  have h1:=h j b;by_cases e:i=j
  .subst e;exact h1
  .have:=Aj h j i ow ow
   omega
def H0{ks:List Int}(h1:ks.any (VQ (nu fs).length)=false)(g:zDl ks):∃I,ks=nI I/\InI fs I:=by
 have b:=HQ h1;have e:ks=nI (ks.map Int.toNat):=by
  rw[nI,wA];exact(List.map_id' ks).symm.trans (wY λk d=>by have:=(b k d).1;simp[nE];omega)
 refine⟨_,e,⟨λi a=> ?_,?_⟩⟩
 .obtain⟨k,d,rfl⟩:=zN.1 a
  have:=(b k d).2
  rwa [lD]at this
 .rw[uo]
  intro i j a f c;simp only[zH]at a f;have:=Aj g j i f c;have:=(b _ (zI a)).1;simp only[uY];omega
def Qi(H:InI fs I):(nI I).any (VQ (nu fs).length)=false/\zDl (nI I):=by
 refine⟨nF.2 λk b=> ?_,λi a=> ?_⟩
 .obtain⟨i,a,rfl⟩:=zN.1 b
  have:=H.lt i a;rw[lD];simp[VQ];omega
 .simp only[zH]at a
  have:=uo.1 H.inc i (i+1) ow a ow;simp;omega
def zNM(b:c.Sm)(v:Nat):szV c fs v<=1048576:=by
 unfold szV;split
 .rename_i h
  have a:(tV c fs).getD v []∈tV c fs:=by rw[zC,zB h];exact zI _
  exact zY (rz _ a).1 jD
 .exact b.ls.1
section
variable{c:Cat}{fs:List Fac}{ca cb ce cp x td od:D}
def Df(S:SpD c fs ca cb ce cp x td od)(f:yq c fs=0)(h:tQ c fs= []):FewR ((pn c fs).map Nd.i):=by
 have hr:=Uc S h;unfold fY at hr;simp only[zF,zb,yn]at hr;refine⟨by rw[zH];exact Wb f,λn b=> ?_,λn b=> ?_⟩
 .obtain⟨i,e,rfl⟩:=zy.1 b
  have h1:=hr.1.2 i e;rw[X9 e]at h1;unfold mL at h1;rw[zF]at h1;have a:=h1.2;split at a
  .have:(((pn c fs).map Nd.i)[i].kids.length:Int)=0:=by simpa using a
   omega
  .simp only[zF,zP,qj]at a
   have:=zNM S.sm (fs:=fs) ((pn c fs).map Nd.i)[i].var.toNat;omega
 .obtain⟨nd,d,rfl⟩:=zN.1 b
  rcases Zs _ _ _ (tj c fs _) nd d with⟨v,j,rfl,g⟩ | ⟨v,ks,rfl⟩
  .exact zY (KL g).2.2 jD
  .exact yD _
def GQ(S:SpD c fs ca cb ce cp x td od)(a:yq c fs=0)(b:tQ c fs= []):PW c fs false ⟨[],[]⟩ ((pn c fs).map Nd.i)=0:=by
 unfold PW;rw[iq (by rw[a];decide),iq zV,iq];rw[Uc S b];decide
def chA(c:Cat)(fs:List Fac):Cho:=match(tQ c fs).head? with
 |some q=>oP q
 |none=>⟨[],[]⟩
def zGG(S:SpD c fs ca cb ce cp x td od)(f:yq c fs=0)(j:tQ c fs≠[]):(∃ta oa,FT c fs= [ta,oa]/\Pu (chA c fs) (.agg [ta,oa]))/\(chA c fs).Sm/\qP c fs (chA c fs) false=0/\YU c fs (chA c fs)=true:=by
 have h0:=S.v0;have a:opn c fs (o6 c fs)<=ctV c fs:=by
  unfold opn;exact zY (wH _ _) jS
 obtain⟨q,b⟩:∃q,(tQ c fs).head? =some q:=by
  cases e:tQ c fs with
  |nil=>exact absurd e j
  |cons q l=>exact⟨q,rfl⟩
 obtain⟨h1,g,h3,h⟩:=VF h0 _ _ (tj c fs _) a (re b);have hf:=Qz h0 h1 g h3 h;have i:pW c fs (oP q)= []:=to.1 h3;have d:qP c fs (oP q) false=0:=VI.2 (hf.whole h0);have e1:chA c fs=oP q:=by unfold chA;rw[b]
 have e2:FT c fs= [tsF q,owF q]:=by unfold FT;rw[ip f,b]
 have I:=h1.cin S;rw[e1,e2];refine⟨⟨_,_,rfl,_,_,rfl,?_,?_⟩,I.ysm,d,?_⟩
 .unfold tsF
  split
  .rename_i e
   rw[show(oP q).ts= [] by show q.ts.map kJ= [];rw[e];rfl];exact yg.nil
  .exact yg.mk .no
 .unfold owF
  split
  .rename_i e
   rw[show(oP q).own= []from e]
   exact yg.nil
  .exact yg.mk .no
 .unfold YU
  rw[iq (by rw[d];decide),XY,i];rfl
end
section
variable{c:Cat}{fs:List Fac}{ca cb ce cp x:D}
def KIn.sp(K:KIn c fs ca cb ce cp x)(H:InI fs I)(h0:yq c (zw fs I)=0):SpD c (zw fs I) ca cb ce cp (Nv fs I) (.sl 1 (Vp (tV c (zw fs I))) .no) (.sl 1 (wh (oV c (zw fs I))) .no):=by
 have a:=X2 K.few K.h16 H.sub;obtain⟨b,d⟩:=dx (c:=c) (l:=zw fs I);have e:=a.1.2;exact⟨K.cat,K.sm,Tx I,a,λf hf=>K.ok f (oF hf),lx h0,yg.mk .no,yg.mk .no,by unfold tV;omega,by unfold oV;omega,rz (c:=c) (l:=zw fs I)⟩
def wtA(c:Cat)(fs:List Fac)(J:List Nat):List Cho:=(List.range J.length).map λj=>chA c (zw fs (J.eraseIdx j))
def ndA(c:Cat)(gs:List Fac):List NdI:=(pn c gs).map Nd.i
def DH(h:fT c gs=true):yq c gs=0/\tQ c gs= []:=by
 unfold fT at h;rw[zF,List.isEmpty_iff]at h;exact⟨eq_of_beq h.1,h.2⟩
def Fh(h0:yq c gs=0)(h:fT c gs=false):tQ c gs≠[]:=λe=>by
 unfold fT at h;rw[h0,e]at h;cases h
def L7(K:KIn c fs ca cb ce cp x){J:List Nat}(H:InI fs J)(h0:yq c fs=0)(hr:fT c (zw fs J)=true)(n:∀j,j<J.length->fT c (zw fs (J.eraseIdx j))=false):GoodI c fs J (ndA c (zw fs J)) (wtA c fs J)/\FewR (ndA c (zw fs J))/\(∀y∈wtA c fs J,y.Sm)/\zAA (wtA c fs J) (.sl 2 (o7 c fs J J.length) .no)/\ga (ndA c (zw fs J)) (Z1 c (zw fs J)):=by
 obtain⟨d,k⟩:=DH hr;have S:=K.sp H d;have f:∀j,j<J.length->InI fs (J.eraseIdx j)/\yq c (zw fs (J.eraseIdx j))=0/\tQ c (zw fs (J.eraseIdx j))≠[]:=λj a=>by
  have l:=H.mono (wW J j);have h1:=NT h0 l.sub;exact⟨l,h1,Fh h1 (n j a)⟩
 have h:=λj a=>zGG (K.sp (f j a).1 (f j a).2.1) (f j a).2.1 (f j a).2.2;have b:∀j y,(wtA c fs J)[j]? =some y->j<J.length/\y=chA c (zw fs (J.eraseIdx j)):=λj y e=>by
  unfold wtA at e;rw[zh]at e;obtain⟨i,e1,rfl⟩:=ze.1 e;obtain⟨m,e2⟩:=zK.1 e1;simp at m e2;subst e2;exact⟨m,rfl⟩
 refine⟨⟨H,GQ S d k,by simp[wtA],λj y e=> ?_⟩,Df S d k,λy o=> ?_,⟨_,yg.mk .no,by simp[o7,wtA],λj y e=> ?_⟩,?_⟩
 .obtain⟨a,rfl⟩:=b j y e
  obtain⟨_,_,h1,g⟩:=h j a;unfold okW;rw[h1,g];rfl
 .obtain⟨j,a,rfl⟩:=zN.1 o
  exact(h j (yn.1 a)).2.1
 .obtain⟨a,rfl⟩:=b j y e
  obtain⟨⟨ta,oa,h1,g⟩,_⟩:=h j a;refine⟨ta,oa,?_,g⟩;unfold o7;rw[zh,tX a];exact congrArg some h1
 .unfold ndA Z1
  rw[ip d,k];exact GI _
end
abbrev iC(l:List Int):List D:=l.map (D.int .i64)
def zLP{l:List Int}(a:i<l.length)(r:List D):(iC l++r)[i]? =some (.int .i64 l[i]):=by
 rw[yi (by simpa using a),zh,zB a];rfl
theorem Tb:∀l:List Int,(wC l).flatten=iC l
 | []=>rfl
 |x::l=>by
  have:=Tb l;simp only[wC,qV,yH]at this⊢;rw[this];rfl
def R6{l:List Int}{r:List D}(E:l.length<=1048576){p:Int->Bool}(C:g.at' id=some (.row (iC l++r)))(y:∀s∈l,zE prog f ([]++ [.int .i64 s]++cap) g λr h'=>h'=g/\r=.bool (p s)):
  zE prog 86 [.rs id 1 0 l.length,.fn (.func f) [] cap] g λr h'=>h'=g/\r=.int .i64 (Y7 p l):=by
 have n:=oC (P:=prog) (id:=id) (off:=0) (sz:=1) (len:=l.length) (h:=g) underlying30;refine zo zJq ?_;simp only[f86,zA]
 repeat' first|simp only[go_sem, *]|apply bc<;>intro m
 refine zZ (λi fr h=>fr 1=.fn (.func f) [] cap/\fr 0=.rs id 1 0 l.length/\fr 6=.rs id 1 0 l.length/\fr 7=.int .i64 (l.length:Int)/\fr 8=.int .i64 (i:Int)/\h=g/\∀j (b:j<l.length),j<i->p l[j]=false) l.length ow ?_ ?_ ?_
 .simp only[go_sem,zQ,zT,zG]
  exact λj b h0=>by omega
 .rintro i fr h a e1 B ⟨t,q,u,v,w,rfl,b⟩
  have o:=qG (P:=prog) (sz:=1) (id:=id) qS uz (k:=.i64) a;rw[wF]at o;have A:=zLP a r;have d:=y _ (zI a);simp only[yL,zq]at d;cases e:p l[i]with
  |true=>
   have z:=kL a b e;rw[e]at d
   repeat' first|simp only[go_sem, *]|apply bc<;>intro m|refine zE.use d ?_
  |false=>
   have x:=uq (p:=p) a b e;rw[e]at d
   repeat' first|simp only[go_sem, *]|apply bc<;>intro m|refine zE.use d ?_
   exact x
 .rintro fr h e1 ⟨t,q,u,v,w,rfl,b⟩
  have z:=kM (p:=p) λj c=>b j c c;exact au
def Jh{t e:TypeId}{id m n:Nat}(c:ur P t=some e)(f:uw P e=some z)(b:z.notTuple=true)(a:z.cells.length=1)(d:h.at' id=some (.row cs))(g:m<=n)(i:n<=cs.length):
  ∃rest,lW P t (.rs id 1 m (n-m)) h=some (h.set id (.row (cs.take m++rest))):=by
 by_cases h0:n-m=0
 .refine⟨cs.drop m,?_⟩
  rw[yk,uU d];simp only[lW,c,f,h0,qK]
 .refine⟨ma (n-m) z.cells++cs.drop (m+(ma (n-m) z.cells).length),?_⟩
  simp only[lW,c,f];rw[iq h0,ip (by simp[b,a]),d];simp only;rw[ip ow,wg,yY]
def Qa{l:List Int}{q:Int->Bool}(a:j<l.length):(l.take (j+1)).filter q=(l.take j).filter q++if q l[j]=true then [l[j]]else []:=by
 rw[zM a,t8];congr 1;cases h:q l[j]<;>simp[h]
variable{x:D}{fs:List Fac}{c:Cat}
def zCJ{A B:List D}{m:Nat}(h:A.length=m):(A++x::B).set m y=A++y::B:=by
 subst h;simp
theorem TG{l:List Int}{r:List D}(hl:l.length<=1048576){p:Int->Bool}(B:g.at' id=some (.row (iC l++r)))(E:∀s∈l,∀cs,zE prog f ([]++ [.int .i64 s]++cap) (g.set id (.row cs)) λr h'=>h'=g.set id (.row cs)/\r=.bool (p s)):
  zE prog 52 [.rs id 1 0 l.length,.fn (.func f) [] cap] g λr h'=>∃rest,r=.rs id 1 0 (l.filter λs=> !p s).length/\h'=g.set id (.row (iC (l.filter λs=> !p s)++rest)):=by
 have v:=R6 hl B (λs S=>by have:=E s S (iC l++r);rwa [uU B]at this);refine xP λQ z=> ?_;have R:∀h,o5 prog 30 (.rs id 1 0 l.length) h=some (.int .i64 (l.length:Int)):=λh=>oC (P:=prog) (id:=id) (off:=0) (sz:=1) (len:=l.length) (h:=h) underlying30;cases hf:l.findIdx? p with
 |none=>
  have U:Y7 p l= -1:=by simp only[Y7,hf]
  have A:(l.filter λs=> !p s)=l:=by
   rw[wq]at hf;exact List.filter_eq_self.2 λs S=>by rw[hf s S];rfl
  have K:Q (.rs id 1 0 l.length) g:=z _ _ ⟨r,by rw[A],by rw[A,uU B]⟩;rw[U]at v;clear z E hf U A;refine zo zM6 ?_;simp only[f52,zA]
  repeat' first|simp only[go_sem, *]|apply bc<;>intro W|refine zE.use v ?_
 |some b=>
  have U:Y7 p l=(b:Int):=by simp only[Y7,hf]
  obtain⟨L,ad,w⟩:=qi.1 hf;have a5:IntKind.i64.wrap ((b:Int)+1)=((b+1:Nat):Int):=by rw[qJ ow ow];omega
  have aj:((b:Int)== -1)=false:=yf.2 ow;rw[U]at v;clear hf U;refine zo zM6 ?_;simp only[f52,zA]
  repeat' first|simp only[go_sem, *]|apply bc<;>intro W|refine zE.use v ?_
  refine ql (λk fr h=>fr 0=.rs id 1 0 l.length/\fr 1=.fn (.func f) [] cap/\fr 6=.int .i64 ((b+1+k:Nat):Int)/\b+1+k<=l.length/\∃F X,fr 5=.int .i64 ((F.length:Nat):Int)/\F=((l.take (b+1+k)).filter λs=> !p s)/\F.length+X.length=b+1+k/\X≠[]/\h=g.set id (.row (iC F++X++iC (l.drop (b+1+k))++r))) (l.length-b) ?_ ?_
  .clear z R
   simp only[go_sem,zQ,zT,zG];have m:(l.take (b+1)).filter (λs=> !p s)=l.take b:=by
    rw[Qa L,ad];simp only[oQ,zf,yr,yC];rw[List.filter_eq_self];intro s S;obtain⟨j,C,rfl⟩:=zy.1 S;rw[yK]at C;rw[List.getElem_take];have:=w j ow;simpa using this
   refine⟨ow,l.take b,[.int .i64 l[b]],?_,m.symm,?_,jS,?_⟩
   .rw[yK,oU ow]
   .rw[yK,wX];omega
   .have:iC (l.take b)++ [.int .i64 l[b]]++iC (l.drop (b+1))=iC l:=by
     rw[show [D.int .i64 l[b]]=iC [l[b]]from rfl,<-qf,<-qf,<-zM L,yk]
    rw[this,uU B]
  .rintro k fr h hk ⟨f0,f1,f6,M,F,X,f5,m,e,I,n⟩
   obtain⟨j,C⟩:∃j,b+1+k=j:=⟨_,rfl⟩;rw[C]at f6 m e n M;obtain⟨cs,c⟩:∃cs,iC F++X++iC (l.drop j)++r=cs:=⟨_,rfl⟩;rw[c]at n;have J:h.at' id=some (.row cs):=by rw[n];exact zU _ _ _
   have ag:F.length<j:=by
    have:=z7.2 I;omega
   by_cases a:j<l.length
   .have hd:decide ((j:Int)<(l.length:Int))=true:=zR ow
    have a1:=qG (P:=prog) (sz:=1) (id:=id) qS uz (k:=.i64) a;have a3:=qG (P:=prog) (sz:=1) (id:=id) qS uz (k:=.i64) (show F.length<l.length by omega);rw[wF]at a1 a3;have a2:cs[j]? =some (.int .i64 l[j]):=by
     rw[<-c,yY,yT jO,show j- (iC F++X).length=0 by simp;omega,z8 a];rfl
    have G:=E _ (zI a) cs;rw[<-n]at G;simp only[yL,zq]at G;have hw:IntKind.i64.wrap ((j:Int)+1)=((j+1:Nat):Int):=by rw[qJ ow ow];omega
    have ai:b+1+(k+1)=j+1:=ow;have O:k<l.length-b:=ow;have u:iC (l.drop j)=.int .i64 l[j]::iC (l.drop (j+1)):=by rw[z8 a];rfl
    have i:=Qa (q:=λs=> !p s) a;rw[<-m]at i;cases V:p l[j]with
    |true=>
     have H:∃o d,D.int .i64 ((F.length:Nat):Int)=.int .i64 ((o.length:Nat):Int)/\o=((l.take (j+1)).filter λs=> !p s)/\o.length+d.length=j+1/\d≠[]/\h=g.set id (.row (iC o++d++iC (l.drop (j+1))++r)):=by
      refine⟨F,X++ [.int .i64 l[j]],rfl,?_,by rw[zS,wX];omega,jS,?_⟩
      .rw[i,V];simp
      .rw[n,<-c,u];simp only[yY,zq,yL]
     rw[V]at G;clear z E c n i m I B w C e u
     repeat' first|simp only[go_sem, *]|apply bc<;>intro W|refine zE.use G ?_
     first|exact⟨O,a,H⟩ |exact⟨a,H⟩ |exact a
    |false=>
     obtain⟨x,d,rfl⟩:∃x d,X=x::d:=by
      cases X with
      |nil=>exact absurd rfl I
      |cons x d=>exact⟨x,d,rfl⟩
     have Y:F.length<cs.length:=by rw[<-c];simp
     have a4:=yM (P:=prog) (t:=3) (x:=.int .i64 l[j]) J uz Y rfl rfl;have y:cs.set F.length (.int .i64 l[j])=iC (F++ [l[j]])++(d++ [.int .i64 l[j]])++iC (l.drop (j+1))++r:=by
      rw[<-c,u];simp only[yY,zq];rw[zCJ jS];simp only[qf,yY,zq,yL,qV,oE]
     have H:∃o d,D.int .i64 ((F.length+1:Nat):Int)=.int .i64 ((o.length:Nat):Int)/\o=((l.take (j+1)).filter λs=> !p s)/\o.length+d.length=j+1/\d≠[]/\h.set id (.row (cs.set F.length (.int .i64 l[j])))=g.set id (.row (iC o++d++iC (l.drop (j+1))++r)):=by
      refine⟨F++ [l[j]],d++ [.int .i64 l[j]],jS,?_,by simp only[zS,zu,qO]at e⊢;omega,jS,?_⟩
      .rw[i,V];simp
      .rw[n,nU,y]
     have a6:IntKind.i64.wrap ((F.length:Int)+1)=((F.length+1:Nat):Int):=by rw[qJ ow ow];omega
     rw[V]at G;clear z E c n i m I B w C e y u
     repeat' first|simp only[go_sem, *]|apply bc<;>intro W|refine zE.use G ?_
     first|exact⟨O,a,H⟩ |exact⟨a,H⟩ |exact a
   .have N:j=l.length:=ow
    have hd:decide ((j:Int)<(l.length:Int))=false:=zO ow;rw[N,zt]at m;have Z:l.length<=cs.length:=by rw[<-c];simp;omega
    obtain⟨rest,W⟩:=Jh (P:=prog) (t:=30) qS s8 rfl rfl J (show F.length<=l.length by omega) Z;have ak:∀h,ww prog 30 (.rs id 1 0 l.length) (some (.int .i64 (F.length:Int))) none none h=some (.rs id 1 F.length (l.length-F.length)):=λh=>by
     have:=pC (P:=prog) (h:=h) (id:=id) (k:=.i64) (t:=30) Xb qS uz (show F.length<=l.length by omega)
     rwa [wF]at this
    have a0:∀h,ww prog 30 (.rs id 1 0 l.length) none (some (.int .i64 (F.length:Int))) none h=some (.rs id 1 0 F.length):=λh=>oN (P:=prog) (h:=h) (id:=id) (k:=.i64) (t:=30) Xb qS uz (show F.length<=l.length by omega);have T:cs.take F.length=iC F:=by rw[<-c,yY,yY,qm jS,yO jS]
    have K:Q (.rs id 1 0 F.length) (h.set id (.row (cs.take F.length++rest))):=z _ _ ⟨rest,by rw[<-m],by rw[T,<-m,n,nU]⟩;clear z E c n m I B w C e T N a M hk;exact au
def zBb{id sz len:Nat}{cs rest:List D}(a:∀x∈xs,x.length=sz)(c:xs.length=len)(b:cs=xs.flatten++rest):frz id cs (.rs id sz 0 len)=.sl sz xs .no:=by
 subst b c;simp only[frz];have hf:=uu a;rw[ip ⟨trivial,by rw[zS,hf];omega⟩,wS,qm (by rw[hf];omega),yO (by rw[hf];omega),p4 a]
def IF(h0:I≠[])(e:I.length<=1048576)(g:Us 1 d h=some (iC (nI I)))(f:∀c,jR prog .eql 30 c d .nilsl=some (.bool false)):zE prog 79 [d] h λr h'=>h'=h/\r=wN I:=by
 refine xU kr λ_=>xS (zE.freezeD ?_);have a:(iC (nI I)).length=I.length:=jS;refine(Mk g (by rw[a];exact z7.2 h0) (by rw[a];exact e) f).mono λr h' q=> ?_;obtain⟨rfl,rfl⟩:=q;refine⟨h.next,_,z5 _ _ _,?_⟩;rw[a,Yb (xs:=wC (nI I)) XA (by simp[wC]) (Tb _).symm];have b:=yh (sz:=1) (xs:=wC (nI I)) tU (.no);rw[b.1];exact⟨((Ext.refl h).new (zD _) _).del (zD _),yw (yD _) _ b.2,rfl⟩
def Km(h0:I≠[])(a:I.length<=1048576){r:List D}(hr:h.at' id=some (.row (iC (nI I)++r))):zE prog 79 [.rs id 1 0 I.length] h λr h'=>h'=h/\r=wN I:=
 IF h0 a (by simp[Us,hr]) λc=>VA underlying30
section
variable{c:Cat}{fs:List Fac}{ca cb ce cp x:D}
def NK(K:KIn c fs ca cb ce cp x)(a:qM 0 [ca,cb,ce,cp])(b:below 0 x)(H:InI fs I)(d:I.length<=1048576){r:List D}(hr:h.at' id=some (.row (iC (nI I)++r))):zE prog 47 [.agg [ca,cb,ce,cp],x,.rs id 1 0 I.length] h λr h'=>h'=h/\r=.bool (fT c (zw fs I)):=by
 have f:=yh (sz:=1) (xs:=wC (nI I)) tU .no;have e:cR id (iC (nI I)++r) [.agg [ca,cb,ce,cp],x,.rs id 1 0 I.length]= [.agg [ca,cb,ce,cp],x,wN I]:=by
  show [D.agg (cR id _ [ca,cb,ce,cp]),frz id _ x,frz id _ (.rs id 1 0 I.length)]=_;rw[rm _ _ _ a,dX _ _ _ b,zBb (xs:=wC (nI I)) (rest:=r) XA (by simp[wC]) (by rw[Tb])]
 refine zE.borrow (GJ _) hr ?_ ?_
 .rw[e];exact⟨a,b,f.2,trivial⟩
 .rw[e]
  exact(dM K H (yg.mk .no) d _).mono λr h' q=>q.2
end
def JV{e:TypeId}(a:P.underlying e=some (.int .i64)):oH P e cs=.row cs:=by simp[oH,a]
variable{fs:List Fac}{x:D}{c:Cat}
def zD5(u:yg 12 (nu fs) x)(A:fs.length<=1048576)(g:Heap):zE prog 48 [x] g λr h'=>YK g h' 1 (wC (nI (List.range fs.length))) r:=by
 refine xP λR l=> ?_;have p:=pp u;refine zo zPK ?_;simp only[f48,zA];simp only[go_sem, *];refine zZ (λi fr h=>∃s,fr 6=.int .i64 (fs.length:Int)/\fr 7=.int .i64 (i:Int)/\fr 3=s/\YK g h 1 (wC (nI (List.range i))) s) fs.length ow ?_ ?_ ?_
 .have q:=YK.start (Ext.refl g) 1
  simp only[go_sem,zQ,zT,zG];exact⟨_,rfl,q⟩
 .rintro i fr h o e z ⟨s,j,k,f,c⟩
  have n:∀nid H,yA prog false nid 30 1 [(0,.int .i64 (i:Int))] H=some (.sl 1 [[.int .i64 (i:Int)]] .full,H):=λnid H=>qD (x:=.int .i64 (i:Int)) qS s8 uz rfl rfl ow ow rfl rfl;have b:(wC (nI (List.range i))).length=i:=by simp[wC]
  obtain⟨w,G,m,a,t⟩:=c.app (P:=prog) (ys:=[[.int .i64 (i:Int)]]) (tk:=.full) qS ZQ uz ow (λcs=>JV underlying3) XA (λy v=>by rw[zi.1 v];rfl) jS (by rw[b,mV];unfold lim;simp;omega) (by rw[b];unfold lim;simp;omega);rw[<-US]at a;simp only[go_sem, *];rw[rg]at a;exact⟨_,rfl,a⟩
 .rintro fr h e ⟨s,j,k,f,c⟩
  have d:=l s h c;exact au
def aJ(l:List Int):Nat->KM Int
 |0=>[]
 |k+1=>d9 (l.getD k 0) (.bool true) (aJ l k)
theorem Qh{l:List Int}(s:Int):∀k,k<=l.length->gS s (aJ l k)=if(l.take k).contains s=true then some (.bool true)else none
 |0,_=>by simp[aJ,gS]
 |k+1,h=>by
  have a:=Qh (l:=l) s k ow;rw[aJ,WI,a,zM (show k<l.length by omega),zC,zB (show k<l.length by omega)];simp only[zA,List.contains_append,uP,List.contains_nil,pH];by_cases e:(s==l[k])=true
  .simp[e]
  .simp[e]
def Kx{J:List Int}{n m:Nat}(h1:g.at' n=some (.row [.map m]))(c:g.at' m=some (.map (kmD (D.int .i64) (aJ J J.length))))(s:Int):zE prog 53 ([]++ [.int .i64 s]++ [.ptr n 0]) g λr h'=>h'=g/\r=.bool (J.contains s):=by
 have a:=Ut (P:=prog) (t:=104) Et c LQ LI FN s jS false;rw[Qh s _ (zD _),zt]at a;simp only[yL,zq];cases b:J.contains s with
 |true=>
  rw[b,ip rfl]at a;simp only[gO]at a;refine zo zM7 ?_;simp only[f53,zA];simp only[go_sem, *]
 |false=>
  rw[b,iq zV]at a;simp only[gO]at a;refine zo zM7 ?_;simp only[f53,zA];exact au
abbrev lg(I J:List Nat):List Nat:=I.filter λi=> !J.contains i
def kT(c:Cat)(fs:List Fac):Nat->List Nat->List (List Nat)
 |0,_=>[]
 |k+1,I=>if fT c (zw fs I)=true then PY c fs I::kT c fs k (lg I (PY c fs I))else []
abbrev Tw(c:Cat)(fs:List Fac):List (List Nat):=kT c fs fs.length (List.range fs.length)
def pkC(c:Cat)(fs:List Fac)(J:List Nat):List D:=[wN J,Z1 c (zw fs J),.sl 2 (o7 c fs J J.length) .no]
def zKX(c:Cat)(fs:List Fac)(r:D):Prop:=(yq c fs≠0/\r=.tuple [.nilsl,.int .i64 (yq c fs)])\/(yq c fs=0/\∃d,Fin 3 ((Tw c fs).map (pkC c fs)) d/\r=.tuple [d,.int .i64 0])
def Lk(c:Cat)(fs:List Fac)(J:List Nat):wl (pkC c fs J):=by
 obtain⟨e,f⟩:=Z2 c (zw fs J);obtain⟨_,_,_,_,_,_,_,g⟩:=nV c (zw fs J);have a:=yh (sz:=1) (xs:=wC (nI J)) tU .no;have b:=yh (sz:=2) (xs:=o7 c fs J J.length) (λy d=>by
  obtain⟨i,_,rfl⟩:=zN.1 d;exact Ze _ _) .no
 exact⟨by simp[pkC,g];exact⟨rfl,rfl⟩,⟨a.2,f,b.2,trivial⟩,by simp only[pkC,qW,e,a.1,b.1]⟩
def Wo(h:fT c (zw fs I)=true):I≠[]:=λe=>by
 obtain⟨s,a⟩:=LW h;subst e;unfold uK at a;simp[zw]at a
def Ey(I J:List Nat):((nI I).filter λs=> !(nI J).contains s)=nI (lg I J):=by
 rw[List.filter_map];congr 1;apply List.filter_congr;intro i _;congr 1;simp only[Function.comp_apply,sU,zN,Int.ofNat_inj,exists_eq_right]
def LM{I J:List Nat}(h0:J≠[])(b:J.Sublist I):(lg I J).length<I.length:=by
 obtain⟨j,a⟩:=pa _ h0;rw[List.length_filter_lt_length_iff_exists];exact⟨j,b.subset a,by simp[a]⟩
structure PkI(c:Cat)(fs:List Fac)(g:Heap)(n m k:Nat)(I:List Nat)(ps:List (List Nat))(h:Heap)(d o:D):Prop where
 hi:InI fs I
 hl:I.length+k<=fs.length
 hp:Tw c fs=ps++kT c fs (fs.length-k) I
 pl:ps.length=k
 ho:Own g h 3 (ps.map (pkC c fs)) o
 hd:(I= []/\d=.nilsl)\/∃id r,d=.rs id 1 0 I.length/\h.at' id=some (.row (iC (nI I)++r))/\g.next<=id/\id<m
 hn:h.at' n=some (.row [.map m])
 hm:∃es,h.at' m=some (.map es)
 gm:g.next<=m/\m<n/\n<h.next
section
variable{c:Cat}{fs:List Fac}{ca cb ce cp x:D}
theorem IC(K:KIn c fs ca cb ce cp x)(b8:qM 0 [ca,cb,ce,cp])(cm:below 0 x)(g:Heap):zE prog 21 [.agg [ca,cb,ce,cp],x] g λr h'=>h'=g/\zKX c fs r:=by
 have hl:=K.h16;refine xU kr λcu=>xS ?_;refine xP λR hR=> ?_;have c8:∀a b c:D,yQ true 3 [a,b,c] 0=some (.agg [a,b,c]):=λa b c=>zJ rfl ow;have A:=Zb K.cat K.sm K.x ow K.ok;unfold cQ at A;cases e0:(yq c fs==0)with
 |false=>
  have u:yq c fs≠0:=by simpa using e0
  have a8:R (.tuple [.nilsl,.int .i64 (yq c fs)]) g:=hR _ _ ⟨Ext.refl g,⟨trivial,trivial,trivial⟩,.inl ⟨u,rfl⟩⟩;rw[iq (by rw[e0];exact zV)]at A;clear hR u;refine zo zJo ?_;simp only[f21,zA]
  repeat' first|simp only[go_sem, *]|apply bc<;>intro W|(refine zE.mono (A _) ?_;rintro r h ⟨N,rfl⟩)
 |true=>
  have h0:yq c fs=0:=eq_of_beq e0;rw[ip e0]at A;have S:∀d h,Own g h 3 ((Tw c fs).map (pkC c fs)) d->R (.tuple [d,.int .i64 0]) h:=λd h ho=>by
   obtain⟨q1,q2,q3⟩:=ho.fin λy hy=>by
    obtain⟨J,_,rfl⟩:=zN.1 hy;exact Lk c fs J
   exact hR _ _ ⟨q1,⟨q2,trivial,trivial⟩,.inr ⟨h0,_,q3,rfl⟩⟩
  have a5:=zD5 K.x ow;clear hR;refine zo zJo ?_;simp only[f21,zA]
  repeat' first|simp only[go_sem, *]|apply bc<;>intro W|(refine zE.mono (A _) ?_;rintro r h ⟨N,rfl⟩)
  subst N
  rename Heap=>g
  refine(a5 _).mono ?_;rintro r h ho;clear A a5;obtain⟨m,hm⟩:∃m,h.next=m:=⟨_,rfl⟩;obtain⟨Y,b5,a1,aN,aE⟩:∃Y,h.new m (.map [])=Y/\Y.at' m=some (.map [])/\Y.next=m+1/\Ext h Y:=⟨_,rfl,z5 _ _ _,by rw[<-hm,za],by rw[<-hm];exact(Ext.refl h).new (zD _) _⟩;obtain⟨V,aj,b0,b1,bN,bE⟩:∃V,Y.new (m+1) (.row [.map m])=V/\V.at' (m+1)=some (.row [.map m])/\V.at' m=some (.map [])/\V.next=m+2/\Ext h V:=⟨_,rfl,z5 _ _ _,by rw[zg ow];exact a1,by rw[<-aN,za,aN],aE.new ow _⟩;have ch:yR prog 104 (.ptr (m+1) 0) (.map m) (Y.new (m+1) (.row [.nilmap]))=some V:=by
   rw[<-aj];exact yo zCc ow rfl rfl rfl
  have hI:PkI c fs g (m+1) m 0 (List.range fs.length) [] V r .nilsl:=by
   refine⟨Rp fs,jS,by simp[Tw],rfl,Own.start (ho.1.trans bE) 3,?_,b0,⟨_,b1⟩,by have:=ho.1.1;omega,ow,ow⟩;rcases ho.2 with⟨rfl,e⟩ | ⟨id,rfl,e1,e2,e3,e4⟩
   .refine .inl ⟨?_,rfl⟩
    have:=congrArg List.length e;simp[wC]at this;rw[this];rfl
   .refine .inr ⟨id,[],by simp[wC],?_,e2,ow⟩
    rw[bE.2 _ e3,e1,Tb,yC]
  clear ho a1 b0 b1;have a6:∀(nid:Nat)(h:Heap),gx 104 nid h (some .nilmap)=some (.ptr nid 0,h.new nid (.row [.nilmap])):=λ_ _=>rfl
  repeat' first|simp only[go_sem, *]|apply bc<;>intro W
  refine ql (λk fr h=>fr 1=x/\fr 2=.iptr [ca,cb,ce,cp] 0/\fr 10=.ptr (m+1) 0/\∃I O d o,fr 8=o/\fr 9=d/\PkI c fs g (m+1) m k I O h d o) fs.length ?_ ?_
  .clear S
   simp only[go_sem,zQ,zT,zG];exact⟨_,_,_,_,rfl,rfl,hI⟩
  clear hI ch b5 aj aN aE bN bE a6;clear hm;rintro k fr h hk ⟨f1,f2,B,I,O,d,o,f8,f9,P⟩;have b6:I.length<=24:=by have:=P.hl;omega
  have G:zE prog 47 [.agg [ca,cb,ce,cp],x,d] h λr h'=>h'=h/\r=.bool (fT c (zw fs I)):=by
   rcases P.hd with⟨rfl,rfl⟩ | ⟨id,r,rfl,hr,_⟩
   .exact dM K P.hi yg.nil jS h
   .exact NK K b8 cm P.hi ow hr
  cases Z:fT c (zw fs I)with
  |false=>
   have bk:Tw c fs=O:=by
    rw[P.hp]
    have:∀k,kT c fs k I= []:=λk=>by
     cases k with
     |zero=>rfl
     |succ k=>rw[kT,Z];rfl
    rw[this,yC]
   have a8:=S o h (by rw[bk];exact P.ho);rw[Z]at G;clear S P bk
   repeat' first|simp only[go_sem, *]|apply bc<;>intro W|(refine zE.mono G ?_;rintro r h ⟨N,rfl⟩)
  |true=>
   have u:=Wo Z;rcases P.hd with⟨e,_⟩ | ⟨id,rr,rfl,hr,a9,b9⟩
   .exact absurd e u
   obtain⟨ag,cc,c5⟩:=P.gm;obtain⟨es,a7⟩:=P.hm;have ai:=Mo K P.hi u (f:=.rs id 1 0 I.length) h (λh' hE=>Km u ow (by rw[hE.2 _ ow];exact hr));obtain⟨J,hJ⟩:∃J,PY c fs I=J:=⟨_,rfl⟩;have a2:J.Sublist I:=hJ▸YA _ _;have a0:J≠[]:=Wo (c:=c) (fs:=fs) (by rw[<-hJ];exact Z9 _ _ Z);have c4:=LM a0 a2;have cw:k<fs.length:=by have:=P.hl;omega
   have cg:Tw c fs=(O++ [J])++kT c fs (fs.length- (k+1)) (lg I J):=by
    rw[P.hp,show fs.length-k=(fs.length- (k+1))+1 by omega,kT,ip Z,hJ,yY];rfl
   have n:∀h' X rest,h'.at' id=some (.row (iC (nI (lg I J))++rest))->Own g h' 3 ((O++ [J]).map (pkC c fs)) X->h'.at' (m+1)=some (.row [.map m])->(∃es,h'.at' m=some (.map es))->m+1<h'.next->PkI c fs g (m+1) m (k+1) (lg I J) (O++ [J]) h' (.rs id 1 0 (lg I J).length) X:=λh' X rest q1 q2 q3 q4 q5=>
    ⟨P.hi.mono px,by have:=P.hl;omega,cg,by simp[P.pl],q2,.inr ⟨id,rest,rfl,q1,a9,b9⟩,q3,q4,ag,cc,q5⟩
   rw[Z]at G;rw[hJ]at ai;have cv:J.length<=24:=zY a2.length_le b6;have bs:o7 c fs J J.length≠[]:=by
    unfold o7;simpa using a0
   have c6:O.length<=24:=by rw[P.pl];omega
   have a4:=P.ho;have a3:=P.hn
   repeat' first|simp only[go_sem, *]|apply bc<;>intro W|(refine zE.mono G ?_;rintro r h ⟨N,rfl⟩)
   subst N
   rename Heap=>h
   refine ai.mono ?_;rintro r h2 ⟨N,wd,rfl,hw⟩;subst N
   rename Heap=>h
   obtain rfl:wd=.sl 2 (o7 c fs J J.length) .no:=by
    rcases hw with⟨_,e⟩ |e
    .exact absurd e bs
    .exact e
   have U:pkC c fs J= [wN J,Z1 c (zw fs J),.sl 2 (o7 c fs J J.length) .no]:=rfl;have w:=Lk c fs J;rw[U]at w;rw[qf,List.map_singleton,U]at n;obtain⟨_,_,_,_,_,_,_,x3⟩:=nV c (zw fs J);generalize Z1 c (zw fs J)=L at *
   obtain⟨z,bx,wf⟩:∃z,D.sl 2 (o7 c fs J J.length) .no=z/\z.flat=true:=⟨_,rfl,rfl⟩;rw[bx]at U w n⊢;obtain⟨p,hp⟩:∃p,h.next=p:=⟨_,rfl⟩;obtain⟨Q,ak,c0,c1,c2,c3,cN,cO⟩:∃Q,h.new p (.row [wN J,L,z])=Q/\Q.at' p=some (.row [wN J,L,z])/\Q.at' (m+1)=some (.row [.map m])/\Q.at' m=some (.map es)/\Q.at' id=some (.row (iC (nI I)++rr))/\Q.next=p+1/\Own g Q 3 (O.map (pkC c fs)) o:=⟨_,rfl,z5 _ _ _,by rw[zg ow];exact a3,by rw[zg ow];exact a7,by rw[zg ow];exact hr,by rw[<-hp,za],a4.ext (by rw[<-hp];exact(Ext.refl h).new (zD _) _)⟩
   have bo:yR prog 35 (.ptr p 0) (.agg [wN J,L,z]) (h.new p (.row [.nilsl,.nilsl,.nilsl]))=some Q:=by
    rw[<-ak];exact yo fj ow rfl rfl (by simp[x3,wf];rfl)
   have b7:∀nid H,yA prog false nid 65 1 [(0,.agg [wN J,L,z])] H=some (.sl 3 [[wN J,L,z]] .full,H):=λnid H=>qD (x:=.agg [wN J,L,z]) Y5 XT fj rfl rfl ow ow rfl rfl;have cx:∀h,o5 prog 30 (wN J) h=some (.int .i64 (J.length:Int)):=λh=>by
    have:=tr (l:=nI J) (d:=wN J) (h:=h) (yg.mk .no)
    rwa [zH]at this
   have c7:p≠m+1/\m+1<p:=ow;have ck:=underlying104;clear ai S P ak a4 a3 hr a7 G U hw bs bx Z u
   repeat' first|simp only[go_sem, *]|apply bc<;>intro W
   rw[<-cN];refine cO.appK (ys:=[[wN J,L,z]]) Y5 zCp fj ow jS jS (by rw[zH,J8];unfold lim;simp;omega) (by rw[zH];unfold lim;simp;omega) λX h5 bb cf E=> ?_;have k0:h5.at' p=some (.row [wN J,L,z]):=by rw[E _ ow (by rw[c0];intro q;cases q)];exact c0
   have k1:h5.at' (m+1)=some (.row [.map m]):=by rw[E _ ow (by rw[c1];intro q;cases q)];exact c1
   have k2:h5.at' m=some (.map es):=by rw[E _ ow (by rw[c2];intro q;cases q)];exact c2
   have k3:h5.at' id=some (.row (iC (nI I)++rr)):=by rw[E _ ow (by rw[c3];intro q;cases q)];exact c3
   have T:=Jg (P:=prog) (t:=104) k2 ck;obtain⟨M,ba,d0,d1,d2,d3,dN,dO⟩:∃M,h5.set m (.map [])=M/\M.at' p=some (.row [wN J,L,z])/\M.at' (m+1)=some (.row [.map m])/\M.at' m=some (.map (kmD (D.int .i64) (aJ (nI J) 0)))/\M.at' id=some (.row (iC (nI I)++rr))/\m+1<M.next/\Own g M 3 (O.map (pkC c fs)++ [[wN J,L,z]]) X:=⟨_,rfl,by rw[zW ow];exact k0,by rw[zW ow];exact k1,zU _ _ _,by rw[zW ow];exact k3,by rw[yc];omega,bb.setK ag k2 (by intro q;cases q) _⟩;rw[ba]at T;clear bb E cf c0 c1 c2 c3 cN cO k2 k3 ba b7 bo
   repeat' first|simp only[go_sem, *]|apply bc<;>intro W
   refine zZ (λj fr h'=>fr 1=x/\fr 2=.iptr [ca,cb,ce,cp] 0/\fr 8=X/\fr 9=.rs id 1 0 I.length/\fr 10=.ptr (m+1) 0/\fr 40=wN J/\fr 41=.int .i64 (J.length:Int)/\fr 42=.int .i64 (j:Int)/\h'=M.set m (.map (kmD (D.int .i64) (aJ (nI J) j)))) J.length ow ?_ ?_ ?_
   .clear n T k0 k1
    have hs:=(uU d2).symm;simp only[go_sem,zQ,zT,zG];exact⟨f1,f2,f9,B,hs⟩
   .clear n T k0 k1 f1 f2 f8 f9 B
    rintro j fr h' F ec ew ⟨f1,f2,f8,f9,B,b2,b3,b4,C⟩;have a1:=oe (l:=nI J) (d:=wN J) (i:=j) (yg.mk .no) (by simpa using F);have e1:h'.at' (m+1)=some (.row [.map m]):=by rw[C,zW ow];exact d1
    have e2:h'.at' m=some (.map (kmD (D.int .i64) (aJ (nI J) j))):=by rw[C];exact zU _ _ _
    have cl:=ZK (P:=prog) (t:=104) Et e2 LQ LI ((nI J)[j]'(by simpa using F)) (.bool true);have hg:d9 ((nI J)[j]'(by simpa using F)) (.bool true) (aJ (nI J) j)=aJ (nI J) (j+1):=by
     rw[aJ,zC,zB (by simpa using F)];rfl
    rw[hg]at cl;have n:h'.set m (.map (kmD (D.int .i64) (aJ (nI J) (j+1))))=M.set m (.map (kmD (D.int .i64) (aJ (nI J) (j+1)))):=by rw[C,nU]
    generalize((nI J)[j]'(by simpa using F))=v at *
    clear hg C d0 d1 d2 d3 dO;exact au
   .clear f1 f2 f8 f9 B T k0 k1
    rintro fr h' ec ⟨f1,f2,f8,f9,B,b2,b3,b4,C⟩;have e1:h'.at' (m+1)=some (.row [.map m]):=by rw[C,zW ow];exact d1
    have e2:h'.at' m=some (.map (kmD (D.int .i64) (aJ (nI J) (nI J).length))):=by rw[C,zH];exact zU _ _ _
    have e3:h'.at' id=some (.row (iC (nI I)++rr)):=by rw[C,zW ow];exact d3
    have e4:m+1<h'.next:=by rw[C,yc];exact dN
    have e5:Own g h' 3 (O.map (pkC c fs)++ [[wN J,L,z]]) X:=by rw[C];exact dO.setK ag d2 (by intro q;cases q) _
    have ad:=TG (l:=nI I) (id:=id) (r:=rr) (f:=53) (cap:=[.ptr (m+1) 0]) (p:=λs=>(nI J).contains s) (g:=h') (by rw[zH];omega) e3 (λs _ cs=>Kx (by rw[zW ow];exact e1) (by rw[zW ow];exact e2) s);rw[Ey,zH,zH]at ad;have n:=λrest=>n (h'.set id (.row (iC (nI (lg I J))++rest))) X rest (zU _ _ _) (e5.setK a9 e3 (by intro q;cases q) _) (by rw[zW ow];exact e1) ⟨_,by rw[zW ow];exact e2⟩ (by rw[yc];exact e4);clear d0 d1 d2 d3 dN dO C e2 e3 e4 e5 e1
    repeat' first|simp only[go_sem, *]|apply bc<;>intro W
    refine ad.mono ?_;rintro r h2 ⟨rest,rfl,N⟩;have n:=n rest;rw[<-N]at n;clear ad N
    repeat' first|simp only[go_sem, *]|apply bc<;>intro W
    exact⟨_,_,_,_,rfl,rfl,n⟩
end
def NM{l:List (List UInt8)}(b:yg 1 (wh l) d)(q:l.length<=1048576)(g:Heap):zE prog 100 [d,d] g λr h'=>h'=g/\r=.bool true:=by
 have k:=wU b;have m:((l.length:Int)==l.length)=true:=jS;refine zo zLT ?_;simp only[f100,zA];simp only[go_sem, *];refine zZ (λi fr h=>fr 0=d/\fr 1=d/\fr 5=.int .i64 (i:Int)/\h=g) l.length ow ?_ ?_ ?_
 .simp only[go_sem,zQ,zT,zG]
 .rintro i fr h a c p ⟨e,f,j,n⟩
  have o:=sw b a;have t:(l[i]==l[i])=true:=jS;generalize l[i]=s at *
  simp only[go_sem, *];refine yF kr ?_;exact au
 .rintro fr h c ⟨e,f,j,n⟩
  exact au
def NL{l:List Trm}(b:yg 2 (wp l) d)(u:l.length<=1048576)(g:Heap):zE prog 156 [d,d] g λr h'=>h'=g/\r=.bool true:=by
 have n:=WN b;have o:((l.length:Int)==l.length)=true:=jS;refine zo zLm ?_;simp only[f156,zA];simp only[go_sem, *];refine zZ (λi fr h=>fr 0=d/\fr 1=d/\fr 5=.int .i64 (i:Int)/\h=g) l.length ow ?_ ?_ ?_
 .simp only[go_sem,zQ,zT,zG]
 .rintro i fr h a f t ⟨j,k,m,p⟩
  have e:=U9 b a;have q:=λc=>Gs l[i] l[i] c;rw[jK.refl]at q;simp only[Trm.cells]at e;generalize l[i]=s at *
  simp only[go_sem, *];refine yF kr ?_;exact au
 .rintro fr h f ⟨j,k,m,p⟩
  exact au
def EV{l:List Alt}(f:yg 1 (qe l) d)(w:l.length<=1048576)(t:∀a∈l,a.Sm)(g:Heap):zE prog 99 [d,d] g λr h'=>h'=g/\r=.bool true:=by
 have o:=tA f;have p:((l.length:Int)==l.length)=true:=jS;refine zo zQQ ?_;simp only[f99,zA]
 repeat' first|simp only[go_sem, *]|apply bc<;>intro e
 refine zZ (λi fr h=>fr 0=d/\fr 1=d/\fr 5=.int .i64 (i:Int)/\h=g) l.length ow ?_ ?_ ?_
 .simp only[go_sem,zQ,zT,zG]
 .rintro i fr h b j v ⟨k,m,n,q⟩
  have u:=oc f b;obtain⟨s1,s2⟩:=t _ (zI b);have c:=λg=>NL s1 s2 g;obtain⟨k1,k2,k3⟩:=zp s1;generalize l[i].d=s at *
  repeat' first|simp only[go_sem, *]|apply bc<;>intro e
  refine yF kr ?_
  repeat' first|simp only[go_sem, *]|apply bc<;>intro e|refine zE.use (c _) ?_
 .rintro fr h j ⟨k,m,n,q⟩
  exact au
def QL{y:Cho}(i:Pu y z)(c:y.Sm)(g:Heap):zE prog 56 [z,z] g λr h'=>h'=g/\r=.bool true:=by
 obtain⟨a,b,rfl,e,f⟩:=i;have h1:=λg=>EV e c.tl c.ts g;have d:=λg=>NM f c.ol g;have h:yQ true 2 [a,b] 0=some (.agg [a,b]):=zJ rfl ow;refine zo zQE ?_;simp only[f56,zA]
 repeat' first|simp only[go_sem, *]|apply bc<;>intro j|refine zE.use (h1 _) ?_|refine zE.use (d _) ?_
def zLO(n:Nat)(h:Heap):HLe ⟨n,λ_=>none⟩ h=True:=eq_true λi a e=>by cases e
noncomputable def zA1:Cfg:=zm [] [(6,[(0,.no),(1,.no),(2,.no),(3,.st),(4,.no),(5,.no),(6,.no),(7,.st),(8,.al 0),(9,.al 1),(10,.no),(11,.no)])]
def zJl(t:Tmp):zA1.mu t=List.contains (α:=Nat) [] t:=(rfl)
def zQT:PC prog zA1 f55=true:=kr
def In{ns:List NdI}(B:ga ns d)(hl:ns.length<=1048576)(A:FewR ns)(g:Heap):zE prog 55 [d,d] g λr h'=>h'=g/\r=.bool true:=by
 have Y:=B.sl.2;have ad:((ns.length:Int)==ns.length)=true:=jS;refine xU kr λ_=> ?_;refine xP λQ u=> ?_;have s:∀h,Ext g h->Q (.bool true) h:=λh f=>u _ _ ⟨f,trivial,rfl⟩;have o:=Ext.refl g;refine xO mix func55 zQT rfl rfl ?_;simp only[f55,zA]
 repeat' first|simp only[go_sem,zJl, *]|apply bc<;>intro x
 refine zZ (λi fr h=>fr 0=d/\fr 1=d/\fr 5=.int .i64 (i:Int)/\Ext g h) ns.length ow ?_ ?_ ?_
 .clear s
  simp only[go_sem,zQ,zT,zG];exact o
 .clear s
  rintro i fr h j N ew ⟨O,R,S,f⟩;obtain⟨cs,a1,c,b,rfl,k1,k2⟩:=B.at j;have k:=λg=>fE k1 k1 (by have:=A.kids _ (zI j);omega) g;have l:=λg=>fE k2 k2 (by have:=A.facts _ (zI j);omega) g;rw[Wl.refl]at k l;have q1:=(zp k1).2.2;have C:=(zp k2).2.2;have hv:(ns[i].var==ns[i].var)=true:=jS;have hr:(ns[i].row==ns[i].row)=true:=jS;generalize ns[i].var=v at *
  generalize ns[i].row=w at *
  obtain⟨a,Z⟩:∃n,h.next=n:=⟨_,rfl⟩;have W:g.next<=a:=by have:=f.1;omega
  have ag:yQ true 4 [.int .i64 v,c,.int .i64 w,b] 0=some (.agg [.int .i64 v,c,.int .i64 w,b]):=zJ rfl ow;obtain⟨J,T,E⟩:∃G,h.bump 2=G/\Ext g G:=⟨_,rfl,zY f.1 (Nat.le_add_right _ _),λi X=>f.2 i X⟩;obtain⟨K,U,r1,F⟩:∃G,J.new a (.row [.int .i64 0,.nilsl,.int .i64 0,.nilsl])=G/\G.at' a=some (.row [.int .i64 0,.nilsl,.int .i64 0,.nilsl])/\Ext g G:=⟨_,rfl,z5 _ _ _,E.new ow _⟩
  obtain⟨L,V,r2,C,H⟩:∃G,K.new (a+1) (.row [.int .i64 0,.nilsl,.int .i64 0,.nilsl])=G/\G.at' a=some (.row [.int .i64 0,.nilsl,.int .i64 0,.nilsl])/\G.at' (a+1)=some (.row [.int .i64 0,.nilsl,.int .i64 0,.nilsl])/\Ext g G:=⟨_,rfl,by rw[zg ow];exact r1,z5 _ _ _,F.new ow _⟩;have m: [D.int .i64 v,c,.int .i64 w,b].all D.flat=true:=by simp[q1,(zp k2).2.2];exact⟨rfl,rfl⟩
  have y:=qh (P:=prog) (t:=139) (cs':=[.int .i64 v,c,.int .i64 w,b]) r2 lT rfl (by show 0<4;omega) m;obtain⟨M,p,r3,q3,I⟩:∃G,L.set a (.row [.int .i64 v,c,.int .i64 w,b])=G/\G.at' a=some (.row [.int .i64 v,c,.int .i64 w,b])/\G.at' (a+1)=some (.row [.int .i64 0,.nilsl,.int .i64 0,.nilsl])/\Ext g G:=⟨_,rfl,zU _ _ _,by rw[zW ow];exact C,H.set ow _⟩;rw[p]at y;have z:=qh (P:=prog) (t:=139) (cs':=[.int .i64 v,c,.int .i64 w,b]) q3 lT rfl (by show 0<4;omega) m
  obtain⟨G4,q,r4,q4,E4⟩:∃G,M.set (a+1) (.row [.int .i64 v,c,.int .i64 w,b])=G/\G.at' a=some (.row [.int .i64 v,c,.int .i64 w,b])/\G.at' (a+1)=some (.row [.int .i64 v,c,.int .i64 w,b])/\Ext g G:=⟨_,rfl,by rw[zW ow];exact r3,zU _ _ _,I.set ow _⟩;rw[q]at z
  repeat' first|simp only[go_sem,zJl, *]|apply bc<;>intro x
  refine FD 1 (λ_=>none) (pwt [0,1,2] ((3,.st,true)::(pwt [4,5,6] ((7,.st,true)::((8,.al 0,true)::((9,.al 1,true)::(pwt [10,11] []))))))) kr kr (λ_ _ e=>by cases e) ?_
  repeat' first|simp only[go_sem,zJl,zLO,wZ, *]|apply bc<;>intro x|refine zE.use (k _) ?_|refine zE.use (l _) ?_
  done
 .rintro fr h N ⟨O,R,S,f⟩
  have hq:=s h f
  repeat' first|simp only[go_sem,zJl, *]|apply bc<;>intro x
def Ew(I J K:List Nat):lg I (J++K)=lg (lg I J) K:=by
 rw[lg,lg,lg,List.filter_filter];apply List.filter_congr;intro i _;rw[List.contains_append,Bool.not_or,Bool.and_comm]
section
variable{c:Cat}{fs:List Fac}
structure PkJ(c:Cat)(fs:List Fac)(J:List Nat):Prop where
 h:InI fs J
 r:fT c (zw fs J)=true
 m:∀j,j<J.length->fT c (zw fs (J.eraseIdx j))=false
theorem Lj(h0:yq c fs=0):∀k I,InI fs I->∀J∈kT c fs k I,PkJ c fs J
 |0,_,_,J,a=>by cases a
 |k+1,I,H,J,a=>by
  rw[kT]at a;split at a
  .rename_i hr
   rcases yE.1 a with rfl|a
   .exact⟨H.mono (YA _ _),Z9 _ _ hr,λj b=>MD h0 _ _ H (zD _) (λj h1 d=>by omega) j b⟩
   .exact Lj h0 k _ (H.mono px) J a
  .cases a
theorem UM:∀k I,I.Nodup->(kT c fs k I).flatten.Nodup/\∀x∈(kT c fs k I).flatten,x∈I
 |0,_,_=>⟨nc,λx d=>by cases d⟩
 |k+1,I,g=>by
  rw[kT];split
  .have h:=YA (c:=c) (fs:=fs) I.length I
   obtain⟨h1,f⟩:=UM k (lg I (PY c fs I)) (g.sublist px);rw[yH];refine⟨kn.2 ⟨g.sublist h,h1,λa i b j e=> ?_⟩,λx d=> ?_⟩
   .have:=(wO.1 (f b j)).2
    subst e;simp[i]at this
   .rcases yv.1 d with d|d
    .exact h.subset d
    .exact(wO.1 (f x d)).1
  .exact⟨nc,λx d=>by cases d⟩
theorem Lh:∀k I,I.length<=k->fT c (zw fs (lg I (kT c fs k I).flatten))=false
 |0,I,h=>by
  have:I= []:=yN.1 ow;subst this;cases hr:fT c (zw fs [])with
  |false=>exact hr
  |true=>exact absurd rfl (Wo (I:=[]) hr)
 |k+1,I,h=>by
  rw[kT];split
  .rename_i hr
   have b:(lg I (PY c fs I)).length<I.length:=LM (Wo (c:=c) (fs:=fs) (Z9 I.length _ hr)) (YA I.length I);rw[yH,Ew];exact Lh k (lg I (PY c fs I)) ow
  .rename_i hr
   have:lg I []=I:=List.filter_eq_self.2 λa _=>by simp
   rw[mJ,this];simpa using hr
theorem Li:∀k I,(kT c fs k I).length<=k
 |0,_=>zD _
 |k+1,I=>by
  rw[kT];split
  .have:=Li k (lg I (PY c fs I))
   simp;omega
  .simp
def Hw:∀k I,I.length<=k->fT c (zw fs I)=true->∃L,kT c fs k I=PY c fs I::L
 |0,I,h,hr=>absurd (yN.1 ow) (Wo hr)
 |k+1,I,h,hr=>⟨_,by rw[kT,ip hr]⟩
def Hx:∀k I,fT c (zw fs I)=false->kT c fs k I= []
 |0,_,_=>rfl
 |k+1,I,hr=>by rw[kT,hr];rfl
end
def lZ(n:Nat)(S:List Nat):List D:=(List.range n).map λi=>.bool (S.contains i)
def LB{S:List Nat}(a:i<n):(lZ n S)[i]? =some (.bool (S.contains i)):=by
 unfold lZ;rw[zh,tX a];rfl
def HN(n:Nat)(S:List Nat):(lZ n S).length=n:=by simp[lZ]
def HO{S:List Nat} :(lZ n S).set i (.bool true)=lZ n (S++ [i]):=by
 unfold lZ;apply tR;intro j;rw[pI,zh,zh];by_cases h:i=j
 .subst h
  rw[ip rfl,zH,uA];by_cases a:i<n
  .rw[ip a,tX a];simp
  .rw[iq a,wx jO];rfl
 .rw[iq h]
  by_cases b:j<n
  .have:([i].contains j)=false:=by simp;exact λe=>h e.symm
   rw[tX b];simp only[qt,List.contains_append,this,pH]
  .rw[wx jO];rfl
section
variable{c:Cat}{ca cb ce cp x:D}
variable{fs:List Fac}
def Kk(e:uL c (.agg [ca,cb,ce,cp]))(k:c.Sm)(l:yg 12 (nu fs) x)(j:fs.length<=65536)(d:∀f∈fs,f.Ok)(b:yq c fs≠0)(g:Heap):zE prog 21 [.agg [ca,cb,ce,cp],x] g λr h'=>h'=g/\r=.tuple [.nilsl,.int .i64 (yq c fs)]:=by
 have a:=Zb e k l j d;unfold cQ at a;have i:(yq c fs==0)=false:=yf.2 b;rw[iq (by rw[i];exact zV)]at a;refine zo zJo ?_;simp only[f21,zA]
 repeat' first|simp only[go_sem, *]|apply bc<;>intro e|(refine zE.mono (a _) ?_;rintro r h ⟨m,rfl⟩)
def EW{ks:List Int}{ns:List NdI}{ys:List Cho}{f rd e:D}(hf:yg 1 (wC ks) f)(n:ks.length<=1048576)(A:ga ns rd)(x:FewR ns)(I:zAA ys e)(w:∀y∈ys,y.Sm)(J:ys.length<=1048576)(g:Heap):zE prog 22 [.agg [f,rd,e],.agg [f,rd,e]] g λr h'=>h'=g/\r=.bool true:=by
 have H:∀a b c:D,yQ true 3 [a,b,c] 0=some (.agg [a,b,c]):=λa b c=>zJ rfl ow;have l:=λg=>fE hf hf n g;rw[Wl.refl]at l;have p:=λg=>In A (by have:=x.len;omega) x g;obtain⟨P,Q,R⟩:=zp hf;obtain⟨r1,r2,r3⟩:rd.cells= [rd]/\rd.notTuple=true/\rd.flat=true:=by
  obtain⟨_,h,_⟩:=(λq=>q) A;exact zp h
 obtain⟨xs,d,u,s⟩:=I;obtain⟨S,T,U⟩:=zp d;have C:∀h,o5 prog 33 e h=some (.int .i64 (ys.length:Int)):=λh=>by rw[wL d underlying33,u]
 have E:((ys.length:Int)==ys.length)=true:=jS;refine zo zP4 ?_;simp only[f22,zA]
 repeat' first|simp only[go_sem, *]|apply bc<;>intro z|refine zE.use (l _) ?_|refine zE.use (p _) ?_
 refine zZ (λi fr h=>fr 2=.iptr [f,rd,e] 0/\fr 3=.iptr [f,rd,e] 0/\fr 5=.int .i64 (i:Int)/\h=g) ys.length ow ?_ ?_ ?_
 .simp only[go_sem,zQ,zT,zG]
 .rintro i fr h m B O ⟨K,L,M,F⟩
  have v:ys[i]? =some ys[i]:=zB m;obtain⟨ta,oa,t,j⟩:=s i _ v;have o:=λg=>QL j (w _ (zI m)) g;have N:=yW (k:=.i64) d Y4 ay t;have G:yQ true 2 [ta,oa] 0=some (.agg [ta,oa]):=zJ rfl ow
  repeat' first|simp only[go_sem, *]|apply bc<;>intro z
  refine yF kr ?_
  repeat' first|simp only[go_sem, *]|apply bc<;>intro z|refine zE.use (o _) ?_
 .rintro fr h B ⟨K,L,M,F⟩
  exact au
end
def K3{f:D}(hf:yg 1 (wC (nI I)) f)(a:i<I.length)(b:I.length<=1048576)(g:Heap):zE prog 35 [f,.int .i64 (i:Int)] g λr h'=>h'=g/\r=wN (I.eraseIdx i):=by
 obtain⟨tk,rfl⟩:∃tk,f=.sl 1 (wC (nI I)) tk:=by
  rcases hf with⟨_,e⟩ |h
  .have:I= []:=by simpa [wC]using e
   subst this;cases a
  .exact h
 refine(bu (ks:=nI I) (d:=.sl 1 (wC (nI I)) tk) (i:=i) (by rw[zH];exact a) (by rw[zH];exact b) (by simp only[Us,qK];rw[show wC (nI I)=(nI I).map λn=>[D.int .i64 n]from rfl,aF]) (λc=>by rw[uj (yg.mk tk) underlying30];rfl)).mono λr h' q=>⟨q.1,?_⟩
 rw[q.2];exact congrArg (D.sl 1 · .no) (by rw[lz];first|rfl|exact congrArg _ (I9 _ _ _))
def zIy{ns:List NdI}{rd:D}(h:ga ns rd):qX prog 49 [(2,rd)]=some (.agg [.bool false,.nilsl,.nilsl,rd]):=by
 obtain⟨_,h,_⟩:=h;rcases h with⟨rfl,_⟩ | ⟨tk,rfl⟩ <;>simp[qX,dn,XU,uc,wg,D.cells,D.notTuple]
section
variable{c:Cat}{fs:List Fac}{ca cb ce cp x:D}
theorem Ku(K:KIn c fs ca cb ce cp x){ks:List Int}{f rd wd:D}{ns:List NdI}{ys:List Cho}(hf:yg 1 (wC ks) f)(ak:ks.length<=1048576)(W:∀n∈ks,fits .i64 n)(hd:ga ns rd)(hR:FewR ns)(hw:zAA ys wd)(a7:∀y∈ys,y.Sm)(b6:ys.length<=1048576)(g:Heap):zE prog 11 [.agg [ca,cb,ce,cp],x,.agg [f,rd,wd]] g λr h'=>h'=g/\∃e,r=.int .i64 e/\zNg c fs ks ns ys e:=by
 refine xU kr λbb=> ?_;refine xP λR o=> ?_;have M:∀h e,Ext g h->zNg c fs ks ns ys e->R (.int .i64 e) h:=λh e L v=>o _ _ ⟨L,trivial,e,rfl,v⟩;have b3:∀a b c:D,yQ true 3 [a,b,c] 0=some (.agg [a,b,c]):=λa b c=>zJ rfl ow;have hl:=K.h16;have u:=Zb K.cat K.sm K.x ow K.ok;unfold cQ at u;have a2:=zD3 K.x K.sh.s hf ak W;obtain⟨f1,f2,f3⟩:=zp hf;obtain⟨r1,r2,r3⟩:rd.cells= [rd]/\rd.notTuple=true/\rd.flat=true:=by
  obtain⟨_,h,_⟩:=(λq=>q) hd;exact zp h
 obtain⟨xs,Q,a6,a4⟩:=hw;obtain⟨w1,w2,w3⟩:=zp Q;have b0:∀h,o5 prog 33 wd h=some (.int .i64 (ys.length:Int)):=λh=>by rw[wL Q underlying33,a6]
 cases e0:(yq c fs==0)with
 |false=>
  have a0:yq c fs≠0:=by simpa using e0
  have m:=M g _ (Ext.refl g) (.inl ⟨a0,rfl⟩);rw[iq (by rw[e0];exact zV)]at u;refine zo zLZ ?_;simp only[f11,zA]
  repeat' first|simp only[go_sem, *]|apply bc<;>intro v|(refine zE.mono (u _) ?_;rintro r h ⟨E,rfl⟩)
 |true=>
  have h0:yq c fs=0:=eq_of_beq e0;rw[ip e0]at u;have d:¬Fb c fs ks ns ys->∀h,Ext g h->R (.int .i64 18) h:=λA h L=>M h _ L (.inr ⟨h0,.inr ⟨A,rfl⟩⟩);have o:Fb c fs ks ns ys->∀h,Ext g h->R (.int .i64 0) h:=λA h L=>M h _ L (.inr ⟨h0,.inl ⟨A,rfl⟩⟩);refine zo zLZ ?_;simp only[f11,zA]
  repeat' first|simp only[go_sem, *]|apply bc<;>intro v|(refine zE.mono (u _) ?_;rintro r h ⟨E,rfl⟩)
  subst E
  rename Heap=>g
  refine(a2 _).mono ?_;rintro r h ⟨E,Z⟩;subst E
  rename Heap=>g
  rcases Z with⟨A,rfl⟩ | ⟨A,hi,rfl⟩ | ⟨A,hi,p,Z,rfl⟩
  .have m:=d (λ⟨I,e,G⟩=>by rw[e,(Qi G.h).1]at A;cases A) g (Ext.refl g)
   exact au
  .have m:=d (λ⟨I,e,G⟩=>hi (by rw[e];exact(Qi G.h).2)) g (Ext.refl g)
   exact au
  .obtain⟨I,rfl,H⟩:=H0 A hi
   rw[Zx H.lt]at Z;obtain⟨p1,p2,p3⟩:=zp Z.isSl;have F:=H.sub;have B:=λg=>ER K.cat K.sm Z.isSl (X2 K.few K.h16 F) (λf hf=>K.ok f (oF hf)) (b:=false) (y:=⟨[],[]⟩) (ta:=.nilsl) (oa:=.nilsl) ⟨_,_,rfl,yg.nil,yg.nil⟩ ⟨jD,jD,λa ha=>by cases ha⟩ hd hR g;have b4:=zIy hd;have bx:∀h,o5 prog 30 f h=some (.int .i64 (I.length:Int)):=λh=>by
    have:=tr hf (h:=h)
    rwa [zH]at this
   have bo:I.length<=24:=by
    have h1:=F.length_le;rw[tT H.lt]at h1;omega
   cases e1:(PW c (zw fs I) false ⟨[],[]⟩ ns==0)with
   |false=>
    have m:=d (λ⟨J,e,G⟩=>by
     cases Hk e;rw[G.s]at e1;cases e1) g (Ext.refl g)
    generalize PW c (zw fs I) false ⟨[],[]⟩ ns=se at *
    repeat' first|simp only[go_sem, *]|apply bc<;>intro v|(refine zE.mono (B _) ?_;rintro r h ⟨E,rfl⟩)
   |true=>
   have e2:=eq_of_beq e1;rw[e2]at B;cases e3:((ys.length:Int)==(I.length:Int))with
   |false=>
    have m:=d (λ⟨J,e,G⟩=>by
     cases Hk e;rw[G.l]at e3;simp at e3) g (Ext.refl g)
    repeat' first|simp only[go_sem, *]|apply bc<;>intro v|(refine zE.mono (B _) ?_;rintro r h ⟨E,rfl⟩)
   |true=>
   have b5:ys.length<=I.length/\I.length<=ys.length:=by have:=yB e3;omega
   have d:∀i y,ys[i]? =some y->okW c fs I i y=false->∀h,Ext g h->R (.int .i64 18) h:=λi y q1 q2=>d λ⟨J,e,G⟩=>by
    cases Hk e;rw[G.w i y q1]at q2;cases q2
   have o:(∀i y,ys[i]? =some y->okW c fs I i y=true)->∀h,Ext g h->R (.int .i64 0) h:=λq=>o ⟨I,rfl,H,e2,ow,q⟩;have L:=Ext.refl g
   repeat' first|simp only[go_sem, *]|apply bc<;>intro v|(refine zE.mono (B _) ?_;rintro r h ⟨E,rfl⟩)
   subst E
   rename Heap=>g
   refine zZ (λi fr h=>fr 1=x/\fr 3=.iptr [ca,cb,ce,cp] 0/\fr 5=.iptr [f,rd,wd] 0/\fr 52=wd/\fr 53=.int .i64 (ys.length:Int)/\fr 54=.int .i64 (i:Int)/\Ext g h/\∀j y,j<i->ys[j]? =some y->okW c fs I j y=true) ys.length ow ?_ ?_ ?_
   .have ag:∀j y,j<0->ys[j]? =some y->okW c fs I j y=true:=λj y h=>absurd h (ym _)
    simp only[go_sem,zQ,zT,zG];exact⟨L,ag⟩
   .rintro i fr h X ec ew ⟨q1,q3,q5,a8,a9,ba,z,V⟩
    have S:ys[i]? =some ys[i]:=zB X;obtain⟨ta,oa,a5,C⟩:=a4 i _ S;have a3:=a7 _ (zI X);have O:=d i _ S;have Y:okW c fs I i ys[i]=true->∀j y,j<i+1->ys[j]? =some y->okW c fs I j y=true:=λhk j y aj e=>by
     rcases zx.1 aj with q|rfl
     .exact V j y q e
     .rw[S]at e;cases e;exact hk
    have a1:=yW (k:=.i64) Q Y4 ay a5;have b2:yQ true 2 [ta,oa] 0=some (.agg [ta,oa]):=zJ rfl ow;obtain⟨_,_,he,ht,ho⟩:=id C;cases he;have ai: [ta,oa].all D.flat=true:=by simp[(zp ht).2.2,(zp ho).2.2]
    have P:=K3 hf (i:=i) ow ow;have ad:(I.eraseIdx i).Sublist I:=wW _ _;have H2:=H.mono ad;have N:=TI K.x K.sh (I:=I.eraseIdx i) (f:=wN (I.eraseIdx i)) (yg.mk .no) H2.lt (by have:=ad.length_le;omega);have T:=X2 K.few K.h16 H2.sub;have t:=bq (⟨K.cat,K.sm,Tx (I.eraseIdx i),by have:=T.1.2;omega,T.1.1,λf hf=>K.ok f (oF hf),C,a3⟩:CIn c (zw fs (I.eraseIdx i)) ys[i] (.agg [ca,cb,ce,cp]) (Nv fs (I.eraseIdx i)) (.agg [ta,oa]));rw[QV]at t;unfold okW at O Y;obtain⟨n,hn⟩:∃n,h.next=n:=⟨_,rfl⟩
    obtain⟨G,hG,bk,U⟩:∃G:Heap,h.new n (.row [ta,oa])=G/\G.at' n=some (.row [ta,oa])/\Ext g G:=⟨_,rfl,z5 _ _ _,by rw[<-hn];exact z.new (by have:=z.1;omega) _⟩;have b1:yR prog 47 (.ptr n 0) (.agg [ta,oa]) (h.new n (.row [.nilsl,.nilsl]))=some G:=by
     rw[<-hG];exact yo ay ow rfl rfl ai
    generalize ys[i]=y at *
    generalize YU c (zw fs (I.eraseIdx i)) y=kb at *
    generalize qP c (zw fs (I.eraseIdx i)) y false=ke at *
    repeat' first|simp only[go_sem, *]|apply bc<;>intro v
    refine yp G ((0,.st,true)::((7,.st,true)::(pwt [1,2,3,4,5,6] (pwf [8,9,10,11,12,13] [])))) kr kr (λ_ _ e=>e) ?_;have bs:HLe G G:=λ_ _ e=>e;cases k1:(ke==0)with
    |false=>
     have m:=O (by rw[k1];rfl) G U
     repeat' first|simp only[go_sem, *]|apply bc<;>intro v|refine zE.use (P _) ?_|refine zE.use (N _) ?_|refine zE.use (t _) ?_
    |true=>
    have k2:=eq_of_beq k1;rw[k2]at t;cases kb with
    |false=>
     have m:=O (by rw[k1];rfl) G U
     repeat' first|simp only[go_sem, *]|apply bc<;>intro v|refine zE.use (P _) ?_|refine zE.use (N _) ?_|refine zE.use (t _) ?_
    |true=>
     have V:=Y (by rw[k1];rfl)
     repeat' first|simp only[go_sem, *]|apply bc<;>intro v|refine zE.use (P _) ?_|refine zE.use (N _) ?_|refine zE.use (t _) ?_
     exact V
   .rintro fr h ec ⟨q1,q3,q5,a8,a9,ba,z,V⟩
    have m:=o (λi y e=>V i y (zK.1 e).1 e) h z;exact au
end
variable{c:Cat}{fs:List Fac}{x:D}
def IB{m x:D}(j:uL c m)(p:c.Sm)(s:yg 12 (nu fs) x)(t:fs.length<=1048576)(k:∀f∈fs,f.Ok0)(g:Heap):zE prog 9 [m,x] g λr h'=>h'=g/\∃b,r=.bool b/\(b=true->Dm fs/\c.ls.length<=40):=by
 refine xP λQ n=> ?_;have hf:Q (.bool false) g:=n _ _ ⟨rfl,_,rfl,λq=>by cases q⟩;have l:=NI j p s t k;have i:=λ(d:Dm fs/\c.ls.length<=40)=>EF j p d.2 s d.1.1.2 (λf h=>(k f h).ok (d.1.2 f h)) d.1.2;have e:Dm fs/\c.ls.length<=40->∀b,Q (.bool b) g:=λd b=>n _ _ ⟨rfl,b,rfl,λ_=>d⟩;obtain⟨ca,cb,ce,cp,rfl,u,_,_,_⟩:=j;refine zo ok9 ?_;simp only[f9,zA]
 repeat' first|simp only[go_sem, *]|apply bc<;>intro j
 refine(l _).mono ?_;rintro r h ⟨o,b,rfl,d⟩;subst o;cases b with
 |false=>
  repeat' first|simp only[go_sem, *]|apply bc<;>intro j
 |true=>
 have d:=d rfl;have i:=i d;have e:=e d
 repeat' first|simp only[go_sem, *]|apply bc<;>intro j|(refine zE.mono (i _) ?_;rintro r h ⟨o,a,b,rfl⟩)
variable{c:Cat}{fs gs:List Fac}
def zAL{ca cb ce cp x:D}(j:uL c (.agg [ca,cb,ce,cp]))(u:c.Sm)(y:yg 12 (nu fs) x)(t:fs.length<=65536)(e:∀f∈fs,f.Ok)(h0:yq c fs≠0)(g:Heap):zE prog 18 [.agg [ca,cb,ce,cp],x] g λr h'=>h'=g/\r=.tuple [.agg [.nilsl,.nilsl,.nilsl],.int .i64 (yq c fs)]:=by
 refine xU kr λm=>xS ?_;refine xP λR s=> ?_;have v:∀a b c:D,yQ true 3 [a,b,c] 0=some (.agg [a,b,c]):=λa b c=>zJ rfl ow;have d:=Zb j u y t e;unfold cQ at d;obtain⟨n,l⟩:∃n,g.next=n:=⟨_,rfl⟩;obtain⟨G,z,q,i,p⟩:∃G:Heap,g.new n (.row [.nilsl,.nilsl,.nilsl])=G/\G.next=n+1/\G.at' n=some (.row [.nilsl,.nilsl,.nilsl])/\Ext g G:=⟨_,rfl,by rw[<-l];exact za _ _,z5 _ _ _,by rw[<-l];exact(Ext.refl g).new (zD _) _⟩;have w:qX prog 35 []=some (.agg [.nilsl,.nilsl,.nilsl]):=by simp[qX,Zy,XT,uc,D.cells,D.notTuple]
 have B:yR prog 35 (.ptr n 0) (.agg [.nilsl,.nilsl,.nilsl]) G=some G:=by
  rw[qh i (by rw[fj];rfl) rfl jS rfl,uU i]
 have o:(yq c fs==0)=false:=yf.2 h0;have k:R (.tuple [.agg [.nilsl,.nilsl,.nilsl],.int .i64 (yq c fs)]) G:=s _ _ ⟨p,⟨⟨trivial,trivial,trivial,trivial⟩,trivial,trivial⟩,rfl⟩;rw[iq (by rw[o];exact zV)]at d;refine zo zHF ?_;simp only[f18,zA]
 repeat' first|simp only[go_sem, *]|apply bc<;>intro j|(refine zE.mono (d _) ?_;rintro r h ⟨A,rfl⟩)
def E5{a:List (List Nat)}(h:a.flatten.Nodup)(d:k<a.length)(c:j<a[k].length):((a.take k).flatten++a[k].take j).contains a[k][j]=false:=by
 have e:a.flatten=((a.take k).flatten++a[k].take j)++a[k][j]::(a[k].drop (j+1)++(a.drop (k+1)).flatten):=by
  conv=>lhs;rw[<-yk k a,z8 d,mv,yH,<-yk j a[k],z8 c]
  simp only[yY,zq,yk]
 rw[e,kn]at h;cases b:((a.take k).flatten++a[k].take j).contains a[k][j]with
 |false=>rfl
 |true=>exact absurd rfl (h.2.2 _ (List.contains_iff_mem.1 b) _ qZ)
def Vi{a:List (List Nat)}(b:k<a.length):(a.take (k+1)).flatten=(a.take k).flatten++a[k]:=by
 rw[zM b,mv,yH,mJ,yC]
def HP(n:Nat):ma n [D.bool false]=lZ n []:=by
 unfold ma lZ;rw[List.flatten_replicate_singleton];simp[gg]
def zBl(b:n<=1048576)(nid:Nat)(H:Heap):uk prog true nid 69 (.int .i64 (n:Int)) (.int .i64 (n:Int)) H=some (.rs nid 1 0 n,H.new nid (.row (lZ n []))):=by
 rw[<-HP];have h1:n*1<=lim:=jL;have a:n<=lim:=jL;simp only[uk,TQ,FN,RN,Fy];rw[ip (by simp[D.notTuple,D.cells];omega)];simp[D.cells]
def GK(fs:List Fac)(S:List Nat)(a:i<fs.length):zw fs ((List.range (i+1)).filter λj=> !S.contains j)=zw fs ((List.range i).filter λj=> !S.contains j)++if S.contains i=true then []else [fs[i]]:=by
 rw[rg,t8];unfold zw;rw[gb];congr 1;cases h:S.contains i with
 |true=>rw[tB,h];rfl
 |false=>
  rw[tB,h];simp only[sN,qK,List.filter_nil,cr,zB a,List.filterMap_nil,zf,yr]
def HD{r:D}(h0:yq c fs=0)(h:A9 c fs r):∃ (f a w:D) (e:Int) (b:Bool),r=.tuple [.agg [f,a,w],.int .i64 e]/\f.flat=true/\a.flat=true/\w.flat=true/\(e==0)=b/\(b=false->Tw c fs= [])/\(b=true->∃J L,Tw c fs=J::L/\[f,a,w]=pkC c fs J):=by
 rcases h with⟨e,_⟩ | ⟨_,d,rfl⟩ | ⟨d,k,rfl,j⟩
 .exact absurd h0 e
 .exact⟨_,_,_,_,false,rfl,rfl,rfl,rfl,rfl,λ_=>Hx _ _ (by rw[Zh];exact d),λq=>by cases q⟩
 .rw[<-Zh fs]at d
  obtain⟨L,i⟩:=Hw fs.length (List.range fs.length) jS d;have g:Y3 c fs≠[]:=Wo (c:=c) (fs:=fs) (Z9 _ _ d);obtain⟨_,_,_,_,_,_,_,l⟩:=nV c (zw fs (Y3 c fs));obtain rfl:k=.sl 2 (o7 c fs (Y3 c fs) (Y3 c fs).length) .no:=by
   rcases j with⟨_,e⟩ |e
   .exact absurd e (by unfold o7;simpa using g)
   .exact e
  exact⟨_,_,_,_,true,rfl,rfl,l,rfl,rfl,(λq=>by cases q),λ_=>⟨_,L,i,rfl⟩⟩
theorem Xf(E:uL c d)(hs:c.Sm)(hx:yg 12 (nu fs) x)(hl:fs.length<=1048576)(ad:∀f∈fs,f.Ok0)(c0:ShF fs)(cu:below 0 d)(ds:below 0 x)(g:Heap):zE prog 6 [d,x] g λr _=>r=.bool true:=by
 refine xP λQ hQ=> ?_;have hT:∀h,Q (.bool true) h:=λh=>hQ _ _ rfl;have cl:=Yq;have cv:=IB E hs hx hl ad;have de:=pp hx;obtain⟨ca,cb,ce,cp,rfl,_,_,_,_⟩:=id E;have d5:∀a b c:D,yQ true 3 [a,b,c] 0=some (.agg [a,b,c]):=λa b c=>zJ rfl ow;clear hQ;refine zo ok6 ?_;simp only[f6,zA]
 repeat' first|simp only[go_sem, *]|apply bc<;>intro E|(refine zE.mono (cl _) ?_;rintro r h ⟨rfl,hq⟩)
 refine(cv _).mono ?_;rintro r h ⟨hq,b,rfl,hL⟩;subst hq;clear cl cv;cases b with
 |false=>
  clear hL
  repeat' first|simp only[go_sem, *]|apply bc<;>intro E
 |true=>
 have hF:=(hL rfl).1.few;have a6:=(hL rfl).1.1.1;have o:∀f∈fs,f.Ok:=λf hf=>(ad f hf).ok (hF.2 f hf);have G:∀(fd rd wd:D)(h:Heap)(n:Nat),fd.flat=true->rd.flat=true->wd.flat=true->yR prog 35 (.ptr n 0) (.agg [fd,rd,wd]) (h.new n (.row [.nilsl,.nilsl,.nilsl]))=some (h.new n (.row [fd,rd,wd])):=λfd rd wd h n h1 M h3=>yo fj ow rfl rfl (by simp[h1,M,h3]);have bb:∀H,o5 prog 65 .nilsl H=some (.int .i64 0):=λH=>wL (yg.nil (sz:=3)) underlying65;by_cases h0:yq c fs=0
 case neg=>
  have a3:=zAL E hs hx (by have:=hF.1.2;omega) o h0;have a4:=Kk E hs hx (by have:=hF.1.2;omega) o h0;have e0:(yq c fs==0)=false:=yf.2 h0;have e1:(yq c fs==yq c fs)=true:=jS;obtain⟨n,hn⟩:∃n,h.next=n:=⟨_,rfl⟩;have d0:=G .nilsl .nilsl .nilsl h n rfl rfl rfl;clear G hF ad o h0 hL a6 cu
  repeat' first|simp only[go_sem, *]|apply bc<;>intro E|(refine zE.mono (a4 _) ?_;rintro r h ⟨hq,rfl⟩)|(refine zE.mono (a3 _) ?_;rintro r h ⟨hq,rfl⟩)
 case pos=>
 have d2:fs.length<=16:=by
  have:=Xu (MQ (lx h0)).1;rcases a6 with q|q<;>omega
 have K:KIn c fs ca cb ce cp x:=⟨E,hs,hx,hF,ow,o,c0⟩;have a3:∀g,zE prog 18 [.agg [ca,cb,ce,cp],x] g λr h'=>h'=g/\A9 c fs r:=λg=>zD2 K g;have a4:=IC K cu ds
 repeat' first|simp only[go_sem, *]|apply bc<;>intro E
 refine(a4 _).mono ?_;rintro r M ⟨hq,hr⟩;subst hq
 rename Heap=>h
 rcases hr with⟨e,_⟩ | ⟨_,ld,Z,rfl⟩
 .exact absurd h0 e
 obtain⟨p,a7⟩:∃p,Tw c fs=p:=⟨_,rfl⟩;have ai:=UM (c:=c) (fs:=fs) fs.length (List.range fs.length) List.nodup_range;have u:=Lh (c:=c) (fs:=fs) fs.length (List.range fs.length) jS;have B:=Lj h0 fs.length _ (Rp fs);have a5:=Li (c:=c) (fs:=fs) fs.length (List.range fs.length);have a9:=λr=>HD (r:=r) h0;rw[a7]at Z a9;rw[show kT c fs fs.length (List.range fs.length)=p from a7]at ai u B a5
 have X:=Z.isSl;have cw:∀H,o5 prog 65 ld H=some (.int .i64 (p.length:Int)):=λH=>by rw[wL X underlying65,zH]
 clear a4 a6
 repeat' first|simp only[go_sem, *]|apply bc<;>intro E
 refine(a3 _).mono ?_;rintro r M ⟨hq,hr⟩;subst hq
 rename Heap=>h
 obtain⟨kf,ka,kw,e,b,rfl,c2,c1,c3,eb,ak,a0⟩:=a9 _ hr;obtain⟨n,hn⟩:∃n,h.next=n:=⟨_,rfl⟩;have ag:=G kf ka kw h n c2 c1 c3;obtain⟨F,w,g1⟩:∃F,h.new n (.row [kf,ka,kw])=F/\F.at' n=some (.row [kf,ka,kw]):=⟨_,rfl,z5 _ _ _⟩;rw[w]at ag;clear a9 hr w a3
 repeat' first|simp only[go_sem, *]|apply bc<;>intro E
 refine gD (λfr h'=>fr 1=x/\fr 2=.iptr [ca,cb,ce,cp] 0/\fr 5=ld/\fr 65=.bool false) ?_ ?_
 .clear G bb ai u a5 ad o ag de
  have du:neB false false=false:=rfl;have dv:neB true true=false:=rfl;cases b with
  |false=>
   have dk:=ak rfl;subst dk;have hB:decide ((([]:List (List Nat)).length:Int)>0)=false:=rfl;clear ak a0 B Z X K
   repeat' first|simp only[go_sem, *]|apply bc<;>intro E
   refine yp _ (pwf [0,1,2,3,4,5,6,7,8,9,10,14,11,12,13,15,16,17,18] []) kr kr (λ_ _ e=>e) ?_
   repeat' first|simp only[go_sem, *]|apply bc<;>intro E
  |true=>
   obtain⟨J,L,e1,e2⟩:=a0 rfl;simp only[pkC,sd]at e2;obtain⟨rfl,rfl,rfl,_⟩:=e2;have T:=B J (by rw[e1];exact qZ);obtain⟨q1,q2,q3,q4,q5⟩:=L7 K T.h h0 T.r T.m;have c9:J.length<=24:=by
    have:=T.h.sub.length_le;rw[tT T.h.lt]at this;omega
   have dr:=λg=>EW (ks:=nI J) (f:=wN J) (yg.mk .no) (by rw[zH];omega) q5 q2 q4 q3 (by simp[wtA];omega) g;have a1:yj prog 65 ld (.int .i64 0)=some (.iptr (pkC c fs J) 0):=yW (k:=.i64) (i:=0) X Y5 fj (show _=some (pkC c fs J) by rw[e1];rfl);rw[pkC]at a1;have hB:decide ((p.length:Int)>0)=true:=zR (by rw[e1];simp);generalize Z1 c (zw fs J)=rA at *
   generalize wN J=fD at *
   generalize D.sl 2 (o7 c fs J J.length) .no=wD at *
   clear ak a0 B Z X K e1 q1 q2 q3 q4 q5 T
   repeat' first|simp only[go_sem, *]|apply bc<;>intro E
   refine yp _ (pwf [0,1,2,3,4,5,6,7,8,9,10,14,11,12,13,15,16,17,18] []) kr kr (λ_ _ e=>e) ?_
   repeat' first|simp only[go_sem, *]|apply bc<;>intro E|refine zE.use (dr _) ?_
 clear c2 c1 c3 ag g1 eb ak a0 hn;rintro fr h ⟨f1,V,f5,cg⟩;obtain⟨C,bo⟩:∃C,h.next=C:=⟨_,rfl⟩;obtain⟨G0,ch,g0,gN⟩:∃G0,h.new C (.row (lZ fs.length []))=G0/\G0.at' C=some (.row (lZ fs.length []))/\C<G0.next:=⟨_,rfl,z5 _ _ _,by rw[<-bo,za];omega⟩;have bk:=zBl hl C h;rw[ch]at bk;clear ch
 repeat' first|simp only[go_sem, *]|apply bc<;>intro E
 refine zZ (λk fr h=>fr 1=x/\fr 2=.iptr [ca,cb,ce,cp] 0/\fr 9=.rs C 1 0 fs.length/\fr 69=ld/\fr 70=.int .i64 (p.length:Int)/\fr 71=.int .i64 (k:Int)/\C<h.next/\h.at' C=some (.row (lZ fs.length (p.take k).flatten))) p.length ow ?_ ?_ ?_
 .simp only[go_sem,zQ,zT,zG]
  exact⟨f1,V,gN,by rw[pc];exact g0⟩
 .clear f1 V f5 cg bk g0 gN bo
  rintro k fr h A ec ew ⟨f1,V,f9,N,O,R,hN,Y⟩;have T:=B _ (zI A);have U:∀(j:Nat)(hj:j<p[k].length),p[k][j]<fs.length:=λj hj=>T.h.lt _ (zI hj);have aj:=λ(j:Nat) (hj:j<p[k].length)=>E5 ai.1 A hj;have ck:p[k].length≠0:=λe=>Wo T.r (yN.1 e);have b7:=Vi A;obtain⟨q1,q2,q3,q4,q5⟩:=L7 K T.h h0 T.r T.m;obtain⟨J,a2⟩:∃J,p[k]=J:=⟨_,rfl⟩;have a1:yj prog 65 ld (.int .i64 (k:Int))=some (.iptr (pkC c fs p[k]) 0):=yW (k:=.i64) (i:=k) X Y5 fj (by rw[zh,zB A];rfl);have U:∀(j:Nat)(hj:j<J.length),J[j]<fs.length:=by subst a2;exact U
  have aj:∀(j:Nat)(hj:j<J.length),((p.take k).flatten++J.take j).contains J[j]=false:=by subst a2;exact aj
  rw[a2]at a1 q1 q2 q3 q4 q5 ck T b7;have c9:J.length<=24:=by
   have:=T.h.sub.length_le;rw[tT T.h.lt]at this;omega
  have cs:∀g,zE prog 11 [.agg [ca,cb,ce,cp],x,.agg [wN J,Z1 c (zw fs J),.sl 2 (o7 c fs J J.length) .no]] g λr h'=>h'=g/\r=.int .i64 0:=λg=>(Ku K (ks:=nI J) (f:=wN J) (yg.mk .no) (by rw[zH];omega) (λz hz=>by
   obtain⟨i,hi,rfl⟩:=zN.1 hz;have:=T.h.lt i hi;exact Nf ow) q5 q2 q4 q3 (by simp[wtA];omega) g).mono λr h' q=>⟨q.1,by
    obtain⟨e,rfl,hq⟩:=q.2;rcases hq with⟨e1,_⟩ | ⟨_,⟨_,rfl⟩ | ⟨e1,_⟩⟩
    .exact absurd h0 e1
    .rfl
    .exact absurd ⟨J,rfl,q1⟩ e1⟩
  obtain⟨_,_,_,_,_,_,_,x3⟩:=nV c (zw fs J);obtain⟨n1,bs⟩:∃n1,h.next=n1:=⟨_,rfl⟩;have ag:=G (wN J) (Z1 c (zw fs J)) (.sl 2 (o7 c fs J J.length) .no) h n1 rfl x3 rfl;have d3:∀h,o5 prog 30 (wN J) h=some (.int .i64 (J.length:Int)):=λh=>by
   have:=tr (l:=nI J) (d:=wN J) (h:=h) (yg.mk .no)
   rwa [zH]at this
  have d6:((J.length:Int)==0)=false:=yf.2 ow;have a8:∀(j:Nat)(hj:j<J.length),yj prog 30 (wN J) (.int .i64 (j:Int))=some (.iptr [.int .i64 (J[j]:Int)] 0):=λj hj=>by
   have:=oe (l:=nI J) (d:=wN J) (i:=j) (yg.mk .no) (by simpa using hj)
   rwa [uY]at this
  rw[pkC]at a1;obtain⟨F,w,k1,k2,kN⟩:∃F,h.new n1 (.row [wN J,Z1 c (zw fs J),.sl 2 (o7 c fs J J.length) .no])=F/\F.at' n1=some (.row [wN J,Z1 c (zw fs J),.sl 2 (o7 c fs J J.length) .no])/\F.at' C=some (.row (lZ fs.length (p.take k).flatten))/\C<F.next:=⟨_,rfl,z5 _ _ _,by rw[zg ow];exact Y,by rw[<-bs,za];omega⟩;rw[w]at ag;generalize Z1 c (zw fs J)=rA at *
  generalize D.sl 2 (o7 c fs J J.length) .no=wD at *
  clear G bb ai u B a5 Z X ad o K T a2 q1 q2 q3 q4 q5 ck
  repeat' first|simp only[go_sem, *]|apply bc<;>intro E|refine zE.use (cs _) ?_
  clear ag w k1 cs a1 x3;refine zZ (λj fr h=>fr 1=x/\fr 2=.iptr [ca,cb,ce,cp] 0/\fr 9=.rs C 1 0 fs.length/\fr 69=ld/\fr 70=.int .i64 (p.length:Int)/\fr 71=.int .i64 (k:Int)/\fr 87=wN J/\fr 88=.int .i64 (J.length:Int)/\fr 89=.int .i64 (j:Int)/\C<h.next/\h.at' C=some (.row (lZ fs.length ((p.take k).flatten++J.take j)))) J.length ow ?_ ?_ ?_
  .simp only[go_sem,zQ,zT,zG]
   exact⟨f1,V,f9,N,O,R,kN,by rw[pc,yC];exact k2⟩
  .clear f1 V f9 N O R hN Y k2 kN bs b7 cw
   rintro j fr M W c4 d1 ⟨f1,V,f9,N,O,R,c6,c7,c8,hN,Y⟩;have b1:=a8 j W;have b2:decide ((J[j]:Int)<0)=false:=zO ow;have b3:decide ((J[j]:Int)>=(fs.length:Int))=false:=zO (by have:=U j W;omega);have b4:=qG (P:=prog) (sz:=1) (id:=C) TQ RN (k:=.i64) (U j W);rw[wF]at b4;have b5:=LB (S:=(p.take k).flatten++J.take j) (U j W);rw[aj j W]at b5;have b6:=yM (P:=prog) (t:=4) (x:=.bool true) Y RN (by rw[HN];exact U j W) rfl rfl;rw[HO]at b6;have I:(p.take k).flatten++J.take (j+1)=(p.take k).flatten++J.take j++ [J[j]]:=by rw[zM W,yY]
   have dt:C<(M.set C (.row (lZ fs.length ((p.take k).flatten++J.take j++ [J[j]])))).next/\(M.set C (.row (lZ fs.length ((p.take k).flatten++J.take j++ [J[j]])))).at' C=some (.row (lZ fs.length ((p.take k).flatten++J.take (j+1)))):=⟨by rw[yc];exact hN,by rw[I];exact zU _ _ _⟩;generalize M.set C (.row (lZ fs.length ((p.take k).flatten++J.take j++ [J[j]])))=H2 at *
   generalize lZ fs.length ((p.take k).flatten++J.take j)=row at *
   generalize lZ fs.length ((p.take k).flatten++J.take (j+1))=zJ6 at *
   generalize J[j]=v at *
   clear a8 aj U I hN;exact au
  .clear f1 V f9 N O R hN Y k2 kN bs a8 aj U
   rintro fr M c4 ⟨f1,V,f9,N,O,R,c6,c7,c8,hN,Y⟩;rw[zt]at Y;clear b7;exact au
 .clear f1 V f5 cg bk g0 gN bo
  rintro fr h ec ⟨f1,V,f9,N,O,R,hN,Y⟩;rw[zt]at Y;obtain⟨S,hS⟩:∃S,p.flatten=S:=⟨_,rfl⟩;rw[hS]at Y u;clear G bb ai B a5 Z X cw a7 hS;have b0:=Own.start (Ext.refl h) 12
  repeat' first|simp only[go_sem, *]|apply bc<;>intro E
  refine zZ (λi fr h'=>fr 2=.iptr [ca,cb,ce,cp] 0/\fr 9=.rs C 1 0 fs.length/\fr 112=x/\fr 113=.int .i64 (fs.length:Int)/\fr 114=.int .i64 (i:Int)/\∃d,fr 14=d/\Own h h' 12 (nu (zw fs ((List.range i).filter λj=> !S.contains j))) d) fs.length ow ?_ ?_ ?_
  .clear u
   simp only[go_sem,zQ,zT,zG];exact⟨V,f9,_,rfl,b0⟩
  .clear f1 V f9 N O R b0 u
   rintro i fr M A ec ew ⟨V,f9,b9,cc,cf,d,c5,ho⟩;have a1:=tZ hx A;have I:=GK fs S A;have b4:=qG (P:=prog) (sz:=1) (id:=C) TQ RN (k:=.i64) A;rw[wF]at b4;have b5:=LB (S:=S) A;obtain⟨n2,bx⟩:∃n2,M.next=n2:=⟨_,rfl⟩;have G:=Ui (o _ (zI A)) M n2;have dd:fs[i].cells.all D.flat=true:=by
    have:=c0.s _ (List.mem_map_of_mem (zI A));exact(rD _ _ _ this.choose_spec).1
   have hw:yQ true 12 fs[i].cells 0=some (.agg fs[i].cells):=zJ rfl ow;obtain⟨F,w,k1,k2,kN,kO⟩:∃F,M.new n2 (.row fs[i].cells)=F/\F.at' n2=some (.row fs[i].cells)/\F.at' C=some (.row (lZ fs.length S))/\F.next=n2+1/\Own h F 12 (nu (zw fs ((List.range i).filter λj=> !S.contains j))) d:=⟨_,rfl,z5 _ _ _,by rw[zg (by have:=ho.1.1;omega),ho.1.2 _ hN];exact Y,by rw[<-bx,za],ho.ext (by rw[<-bx];exact(Ext.refl M).new (zD _) _)⟩;rw[w]at G;cases hb:S.contains i with
   |true=>
    rw[hb,ip rfl,yC]at I;rw[hb]at b5;rw[I];generalize fs[i].cells=cells at *
    clear I dd w ho Y o
    repeat' first|simp only[go_sem, *]|apply bc<;>intro E
    exact⟨d,rfl,kO⟩
   |false=>
    rw[hb,iq zV]at I;rw[hb]at b5;rw[I];have da:∀nid H,yA prog false nid 29 1 [(0,.agg fs[i].cells)] H=some (.sl 12 [fs[i].cells] .full,H):=λnid H=>qD (x:=.agg fs[i].cells) dS KY cZ rfl rfl ow ow rfl rfl;have ba:(zw fs ((List.range i).filter λj=> !S.contains j)).length<=24:=by
     have:=List.length_filterMap_le (λj=>fs[j]?) ((List.range i).filter λj=> !S.contains j);have:=wH (λj=> !S.contains j) (List.range i);rw[uA]at this;unfold zw;omega
    have db:fs[i].cells.length=12:=rfl;have cx:nu (zw fs ((List.range i).filter λj=> !S.contains j)++ [fs[i]])=nu (zw fs ((List.range i).filter λj=> !S.contains j))++ [fs[i].cells]:=by simp[nu]
    rw[cx];have ba:(nu (zw fs ((List.range i).filter λj=> !S.contains j))).length<=24:=by rw[lD];exact ba
    clear I w ho Y o cx;generalize nu (zw fs ((List.range i).filter λj=> !S.contains j))=L at *
    generalize fs[i].cells=cells at *
    repeat' first|simp only[go_sem, *]|apply bc<;>intro E
    rw[<-kN];refine kO.appH (ys:=[cells]) dS FP cZ ow (λy hy=>by rw[zi.1 hy];exact db) jS (by rw[Rt];unfold lim;simp;omega) (by unfold lim;simp;omega) λd' h' di=> ?_;clear kO G k1 k2 da ba
    repeat' first|simp only[go_sem, *]|apply bc<;>intro E
    exact⟨d',rfl,di⟩
  .clear f1 V f9 N O R b0
   rintro fr M ec ⟨V,f9,b9,cc,cf,d,c5,ho⟩;have HI:InI fs (lg (List.range fs.length) S):=(Rp fs).mono px;have b8:=QK K.cat K.sm ho.isSl (X2 K.few K.h16 HI.sub) (λf hf=>K.ok f (oF hf)) (λe=>by have:=Wb e;omega);obtain⟨b,ta,oa,rd,es,eb,⟨x1,x2,x3⟩,_⟩:=RJ (c:=c) (gs:=zw fs (lg (List.range fs.length) S));have cm:=NT h0 HI.sub;rw[es]at b8;rw[u]at eb;rw[cm]at b8 eb;have hb:b=true:=by
    cases b
    .cases eb
    .rfl
   subst hb;obtain⟨n2,bx⟩:∃n2,M.next=n2:=⟨_,rfl⟩;obtain⟨F,w,k1⟩:∃F,M.new n2 (.row [.bool true,ta,oa,rd])=F/\F.at' n2=some (.row [.bool true,ta,oa,rd]):=⟨_,rfl,z5 _ _ _⟩;have d4:yR prog 49 (.ptr n2 0) (.agg [.bool true,ta,oa,rd]) (M.new n2 (.row [.bool false,.nilsl,.nilsl,.nilsl]))=some F:=by
    rw[<-w];exact KA M x1 x2 x3
   clear w ho u eb es Y K ad o HI cm
   repeat' first|simp only[go_sem, *]|apply bc<;>intro E|refine zE.use (b8 _) ?_
end Go.V
