/- None, part 3. No condition. -/
import Derived.Test.YtmkfpfodpehkoaaGreatDoorW43
set_option linter.all false
set_option maxHeartbeats 8000000
namespace Go.V
open Go.Proofs.Tryz
open Go.Proofs
set_option maxRecDepth 100000
theorem Hy(n:Int)(nid:Nat)(h:Heap):yB prog false nid 40 1 [(0,.int .i64 n)] h=some (.sl 1 [[.int .i64 n]] .full,h):=wP (x:=.int .i64 n) uL nO pj rfl rfl ow ow rfl rfl
theorem Yt(l:List Int):∀x∈uq l,sH x:=λx a=>by
 obtain⟨n,_,rfl⟩:=zT.1 a;exact⟨rfl,by simp[qZ,below],rfl⟩
theorem Own.int{G h:Heap}{d:D}{l:List Int}{n:Int}{K:D->Heap->Prop}{w:HidR K}(e:Own G h 1 (uq l) d)(f:l.length<=1048576)(c:∀a h',Own G h' 1 (uq (l++ [n])) a->K a h'):Ei (qh prog false h.next 40 d (.sl 1 [[.int .i64 n]] .full) h) K w:=by
 refine e.appH (ys:=uq [n]) uL Ey pj ow (by simp[uq]) (by simp[uq]) (by rw[sA,Po];unfold lim;simp[uq];omega) (by rw[sA];unfold lim;simp[uq];omega) λa h' b=> ?_;refine c a h' ?_
 have:uq (l++ [n])=uq l++uq [n]:=by simp[uq]
 rw[this];exact b
theorem Dw(a b:Int):(wm a b==0)=(a==b):=TT a b
theorem L6{l:List Int}{d:D}(H:ye 1 (uq l) d)(W:l.length<=65536)(n:Int)(g:Heap):zB prog 113 [d,.int .i64 n] g λr h'=>h'=g/\Fin 1 (uq (Zq wm l n false)) r:=by
 refine xU kr λB=>xS ?_;refine xP λQ G=> ?_;have I:=rF H;have s:=Hy;have A:=Vt (c:=wm) l n false;have j:∀d h,Own g h 1 (uq (Zq wm l n false)) d->Q d h:=λd h k=>G _ _ (k.fin (Yt _));obtain⟨R,u⟩:∃R,Zq wm l n false=R:=⟨_,rfl⟩;rw[u]at j A;clear G B;refine z5 zGj ?_;simp only[f113,zA]
 repeat' first|simp only[go_sem, *]|apply bc<;>intro p
 refine zV (λi fr h=>fr 0=d/\fr 1=.int .i64 n/\fr 7=.int .i64 (i:Int)/\∃ (b:Bool) (m:List Int),fr 6=.bool b/\Own g h 1 (uq m) (fr 5)/\m++Zq wm (l.drop i) n b=R) l.length ow ?_ ?_ ?_
 ·have C:∃ (b:Bool) (m:List Int),D.bool false=.bool b/\Own g g 1 (uq m) .nilsl/\m++Zq wm (l.drop 0) n b=R:=⟨false,[],rfl,Own.start (Ext.refl g) 1,u⟩;clear j u;simp only[go_sem,zQ,zS,zF];exact C
 ·clear u;rintro i fr h v J U ⟨K,L,N,b,m,M,k,a⟩;obtain⟨o,z⟩:∃o,fr 5=o:=⟨_,rfl⟩;rw[z]at k;have E:m.length<=65537:=by have:=congrArg List.length a;rw[zM]at this;omega
  rw[z6 v,Zq,Dw,bv]at a;have S:=nG H v;generalize l.drop (i+1)=rest at *
  generalize l[i]=x at *
  have e:∀(b:Bool){h:Heap}{d:D}{us:List Int},Own g h 1 (uq us) d->us++Zq wm rest n b=R->∃ (b':Bool) (m:List Int),D.bool b=.bool b'/\Own g h 1 (uq m) d/\m++Zq wm rest n b'=R:=λb h d us O P=>⟨b,us,rfl,O,P⟩;clear j;cases b with
  |true=>
   rw[iq (by simp),qy]at a;have e:=λh d q=>e true (h:=h) (d:=d) (us:=m++ [x]) q (by rw[z8];exact a);clear a;cases t:(x==n)with
   |_=>
    repeat' first|simp only[go_sem, *]|apply bc<;>intro p
    refine k.int ow λy h' f=> ?_;have e:=e _ _ f;clear k f
    repeat' first|simp only[go_sem, *]|apply bc<;>intro p
  |false=>
  rw[qe]at a;cases t:(x==n)with
  |true=>
   rw[t,iq (by simp)]at a;have e:=λh d q=>e true (h:=h) (d:=d) (us:=m++ [x]) q (by rw[z8];exact a);clear a
   repeat' first|simp only[go_sem, *]|apply bc<;>intro p
   refine k.int ow λy h' f=> ?_;have e:=e _ _ f;clear k f
   repeat' first|simp only[go_sem, *]|apply bc<;>intro p
  |false=>
  rw[t,qY,yL]at a;cases F:decide (n<x)with
  |true=>
   rw[ip F]at a;have e:=λh d q=>e true (h:=h) (d:=d) (us:=m++ [n]++ [x]) q (by rw[z8,z8];exact a);clear a
   repeat' first|simp only[go_sem, *]|apply bc<;>intro p
   refine k.int ow λy h' f=> ?_;clear k
   repeat' first|simp only[go_sem, *]|apply bc<;>intro p
   refine f.int (by simp;omega) λT V w=> ?_;have e:=e _ _ w;clear f w
   repeat' first|simp only[go_sem, *]|apply bc<;>intro p
  |false=>
   rw[iq (by rw[F];decide)]at a;have e:=λh d q=>e false (h:=h) (d:=d) (us:=m++ [x]) q (by rw[z8];exact a);clear a
   repeat' first|simp only[go_sem, *]|apply bc<;>intro p
   refine k.int ow λy h' f=> ?_;have e:=e _ _ f;clear k f;exact au
 ·clear u;rintro fr h J ⟨K,L,N,b,m,M,k,a⟩;obtain⟨o,z⟩:∃o,fr 5=o:=⟨_,rfl⟩;rw[z]at k;rw[tr,Zq]at a;cases b with
  |true=>
   rw[ip rfl,zp]at a;rw[a]at k;have j:=j _ _ k;clear s k a
   repeat' first|simp only[go_sem, *]|apply bc<;>intro p
  |false=>
   rw[iq (by decide)]at a;have E:m.length<=65537:=by have:=congrArg List.length a;rw[zM]at this;omega
   repeat' first|simp only[go_sem, *]|apply bc<;>intro p
   refine k.int ow λy h' f=> ?_;rw[a]at f;have j:=j _ _ f;clear s k f a;exact au
def uh(P:Vio->Prop)(n:Nat)(r:D):Prop:=∃ws:List Vio,Fin 2 (vcs ws) r/\ws.Pairwise (λa b=>nS a b<0)/\(∀x,x∈ws↔P x)/\ws.length<=n/\∀v∈ws,v.facts.length<=65536
theorem uh.congr{P a:Vio->Prop}{n m:Nat}{r:D}(h:uh P n r)(c:∀x,P x↔a x)(f:n<=m):uh a m r:=by
 obtain⟨d,h1,b,h3,e,h5⟩:=h;exact⟨d,h1,b,λx=>(h3 x).trans (c x),by omega,h5⟩
theorem fW(l:List Vio):∀x∈vcs l,sH x:=λx b=>by
 obtain⟨v,_,rfl⟩:=zT.1 b;have a:=qg (sz:=1) (xs:=uq v.facts) (Yt _) .no;exact⟨rfl,by simp only[Vio.cells,qZ,zS];exact⟨trivial,a.2⟩,by simp only[Vio.cells,wU,a.1];rfl⟩
theorem fX(l:List Vio):∀x∈vcs l,x.length=2:=λx a=>by
 obtain⟨v,_,rfl⟩:=zT.1 a;rfl
theorem J7(l m:List Vio):vcs (l++m)=vcs l++vcs m:=by simp[vcs]
theorem Own.ofNew{h0 h:Heap}{sz:Nat}{xs:List (List D)}(a:Ext h0 h):Own h0 (h.new h.next .tok) sz xs (.sl sz xs (.own h.next)):=
 ⟨a.new a.1 .tok,.inr ⟨h.next,rfl,yQ _ _ _,by rw[yA];omega⟩,λi b=>by
  have:i=h.next:=b;rw[this];exact a.1⟩
theorem MC(v w:Vio):VV v w=decide (nS v w<0):=by
 have h1:=bv v.row w.row;have c:=TT v.row w.row;unfold VV nS;rw[<-h1,<-c];generalize wm v.row w.row=a;generalize tc v.facts w.facts=b;simp only[orL];by_cases e:a=0
 ·by_cases e2:b=0<;>simp[e,e2]
 ·simp[e]
theorem zCp{l:List Int}(h:l≠[]):wa l≠[]:=λe=>by
 cases l with
 |nil=>exact h rfl
 |cons a l=>
  have:a∈wa (a::l):=(UD (c:=wm) Yd).2 (by simp);rw[e]at this;cases this
theorem JB:wa []= []:=by
 cases h:wa []with
 |nil=>rfl
 |cons a l=>
  have:a∈wa []:=by rw[h];simp
  exact absurd ((UD (c:=wm) Yd).1 this) (by simp)
theorem tH{P:Program}{g:Cfg}{n:Nat}{ro:Option Nat}{a b:Code}{Q:Exit->Frm->Heap->Prop}{fr:Frm}{h:Heap}(R:Frm->Heap->Prop)(h1:vwp P g n ro a (gm R λ_ _ _=>False) fr h)(c:∀fr h,R fr h->vwp P g n ro b Q fr h):vwp P g n ro (.seq a b) Q fr h:=by
 rw[rV];exact rz R h1 c
theorem Cj{c:List Vio}{v:Vio}{k:Nat}(D:k<=c.length)(l:c.Pairwise λa b=>nS a b<0)(n:∀i (h:i<c.length),k<=i->nS v c[i]<0)(m:∀(h:0<k),¬nS v (c[k-1]'ow)<0)(g:∀(h:0<k),nS v (c[k-1]'ow)≠0):
  (c.take k++ [v]++c.drop k).Pairwise (λa b=>nS a b<0):=by
 have h0:=l;rw[<-yp k c]at h0;obtain⟨t,u,w⟩:=wg.1 h0;have o:∀y∈c.drop k,nS v y<0:=λy s=>by
  obtain⟨j,f,rfl⟩:=yH.1 s;rw[List.getElem_drop];exact n _ (by rw[uw]at f;omega) ow
 have p:∀x∈c.take k,nS x v<0:=λx r=>by
  obtain⟨j,f,rfl⟩:=yH.1 r;rw[List.getElem_take];rw[z7]at f;have h1:nS (c[k-1]'ow) v<0:=by
   have z:=m ow;have A:=g ow;have B:=aO.anti v (c[k-1]'ow);have C:=aO.anti (c[k-1]'ow) v;omega
  rcases j6 j (k-1)with q|q
  ·have:=ua.1 l j (k-1) ow ow q;exact aO.ltle this ow
  ·have:j=k-1:=ow;subst this;exact h1
 refine wg.2 ⟨wg.2 ⟨t,tD _ _,λa e b d=> ?_⟩,u,λa e b d=> ?_⟩
 ·cases zY.1 d;exact p a e
 ·rcases yD.1 e with q|q
  ·exact w a q b d
  ·cases zY.1 q;exact o b d
theorem br{P:Vio->Prop}{n:Nat}{l:D}(hl:uh P n l)(hn:n<=1073741000){row:Int}{facts:List Int}{d:D}(hd:ye 1 (uq facts) d)(hf:facts≠[])(b7:facts.length<=16)(g:Heap):
  zB prog 64 [l,.int .i64 row,d] g λr h'=>h'=g/\uh (λx=>P x\/x= ⟨row,wa facts⟩) (n+1) r:=by
 refine xU kr λcg=>xS ?_;refine xP λQ hQ=> ?_;have cc:=rF hd;have I:∀i (hi:i<facts.length)(o:D),Fin 1 (uq (wa (facts.take i))) o->∀h,zB prog 113 [o,.int .i64 facts[i]] h λr h'=>h'=h/\Fin 1 (uq (wa (facts.take (i+1)))) r:=λi hi o J h=>by
  have:=L6 J.isSl (by have:=bD (facts.take i);rw[z7]at this;omega) facts[i] h
  rwa [show Zq wm (wa (facts.take i)) facts[i] false=wa (facts.take (i+1)) by rw[zH hi];exact NI aN Yd _ _]at this
 obtain⟨c,N,ab,ad,cl,X⟩:=hl;have a0:∀vs:List Vio,below g.next (.sl 2 (vcs vs) .no):=λvs=>qw (yg _) _ (qg (fW vs) .no).2;have bb:=Vv N.isSl;refine z5 zKc ?_;simp only[f64,zA];refine tH (λfr h=>fr 0=l/\fr 1=.int .i64 row/\fr 2=d/\h=g) ?_ ?_
 ·clear I hQ;exact au
 rintro fr h ⟨B,C,Z,s⟩;subst s;refine tH (λfr h'=>fr 0=l/\fr 1=.int .i64 row/\fr 2=d/\fr 7=.nilsl/\h'=h) ?_ ?_
 ·clear I hQ;exact au
 clear B C Z fr;rintro fr h1 ⟨B,C,Z,E,s⟩;subst s;refine tH (λfr h'=>fr 0=l/\fr 1=.int .i64 row/\Fin 1 (uq (wa facts)) (fr 7)/\h'=h1) ?_ ?_
 ·repeat' first|simp only[go_sem, *]|apply bc<;>intro O
  refine zV (λi fr h=>fr 0=l/\fr 1=.int .i64 row/\fr 2=d/\fr 8=.int .i64 (i:Int)/\h=h1/\Fin 1 (uq (wa (facts.take i))) (fr 7)) facts.length ow ?_ ?_ ?_
  ·have M:Fin 1 (uq (wa (facts.take 0))) .nilsl:=.inl ⟨rfl,by rw[ss,JB];rfl⟩;clear I hQ;simp only[go_sem,zQ,zS,zF,B,C,Z,E];exact M
  ·clear B C Z E fr;rintro i fr h a4 ec ew ⟨B,C,Z,f8,s,J⟩;subst s;obtain⟨o,E⟩:∃o,fr 7=o:=⟨_,rfl⟩;rw[E]at J;have a1:=nG hd a4;have ha:=I i a4 o J h;generalize facts.take (i+1)=A at *
   generalize facts[i]=x at *
   clear I hQ J;exact au
  ·clear B C Z E fr;rintro fr h ec ⟨B,C,Z,f8,s,J⟩;subst s;rw[zb]at J;clear I hQ;exact au
 clear B C Z E fr;rintro fr h ⟨B,C,J,s⟩;subst s;obtain⟨o,E⟩:∃o,fr 7=o:=⟨_,rfl⟩;rw[E]at J;have hF:=zCp hf;have a9:=bD facts;clear I;obtain⟨F,a8⟩:∃F,wa facts=F:=⟨_,rfl⟩;rw[a8]at J hF a9 hQ;have bd:o=.sl 1 (uq F) .no:=by
  rcases J with⟨_,e⟩ |e
  ·exact absurd (qU.1 e) hF
  ·exact e
 subst bd;have bs:wO prog 42 [(0,.int .i64 row),(1,.sl 1 (uq F) .no)]=some (.agg [.int .i64 row,.sl 1 (uq F) .no]):=by
  simp[wO,aK,ja,tp,uG,D.cells,D.notTuple]
 have M:qP prog 42 (.ptr h.next 0) (.agg [.int .i64 row,.sl 1 (uq F) .no]) (h.new h.next (.row [.int .i64 0,.nilsl]))=some (h.new h.next (.row [.int .i64 row,.sl 1 (uq F) .no])):=qk tY ow rfl rfl rfl;obtain⟨G,hG,ba,hE,a5⟩:∃G:Heap,h.new h.next (.row [.int .i64 row,.sl 1 (uq F) .no])=G/\G.at' h.next=some (.row [.int .i64 row,.sl 1 (uq F) .no])/\Ext h G/\h.next<G.next:=⟨_,rfl,yQ _ _ _,(Ext.refl h).new (zD _) _,by rw[yA];omega⟩;rw[hG]at M;have p:∀H,Ext G H->H.at' h.next=some (.row [.int .i64 row,.sl 1 (uq F) .no]):=λH hE=>by rw[hE.2 _ a5];exact ba
 have ch:yN true 2 [.int .i64 row,.sl 1 (uq F) .no] 0=some (.agg [.int .i64 row,.sl 1 (uq F) .no]):=zJ rfl ow;have y:∀vs r H,Ext G H->wD r=.sl 2 (vcs vs) .no->vs.Pairwise (λa b=>nS a b<0)->(∀x,x∈vs↔P x\/x= ⟨row,F⟩)->vs.length<=n+1->(∀v∈vs,v.facts.length<=65536)->Q r H:=λvs r H h1 h2 h3 h4 h5 h6=>hQ _ _ ⟨hE.trans h1,by rw[h2];exact a0 _,vs,by rw[h2];exact .inr rfl,h3,h4,h5,h6⟩;clear hQ hG;generalize cf:h.next=n0 at *
 refine tH (λfr H=>fr 0=l/\fr 1=.int .i64 row/\fr 7=.sl 1 (uq F) .no/\fr 9=.ptr n0 0/\H=G) ?_ ?_
 ·clear y p;exact au
 clear B C E fr M bs;rintro fr H ⟨B,C,E,f9,s⟩;subst s;refine tH (λfr Y=>fr 0=l/\fr 1=.int .i64 row/\fr 7=.sl 1 (uq F) .no/\fr 9=.ptr n0 0/\fr 10=.int .i64 (c.length:Int)/\Y=H) ?_ ?_
 ·clear y p;exact au
 clear B C E f9 fr;rintro fr G ⟨B,C,E,f9,K,s⟩;subst s;refine tH (λfr Y=>fr 0=l/\fr 1=.int .i64 row/\fr 7=.sl 1 (uq F) .no/\fr 9=.ptr n0 0/\Y=G/\∃k:Nat,fr 10=.int .i64 (k:Int)/\k<=c.length/\(∀i (h:i<c.length),k<=i->nS ⟨row,F⟩ c[i]<0)/\∀h:k-1<c.length,0<k->¬nS ⟨row,F⟩ c[k-1]<0) ?_ ?_
 ·repeat' first|simp only[go_sem, *]|apply bc<;>intro O
  refine qx (λj fr H=>fr 0=l/\fr 1=.int .i64 row/\fr 7=.sl 1 (uq F) .no/\fr 9=.ptr n0 0/\fr 10=.int .i64 ((c.length-j:Nat):Int)/\H=G/\∀i (h:i<c.length),c.length-j<=i->nS ⟨row,F⟩ c[i]<0) c.length ?_ ?_
  ·have h0:∀i (h:i<c.length),c.length-0<=i->nS ⟨row,F⟩ c[i]<0:=λi h1 h2=>by omega
   clear y p;simp only[go_sem,zQ,zS,zF,B,C,E,f9,K];exact⟨by rw[tv],h0⟩
  clear B C E f9 K fr;rintro j fr H hj ⟨B,C,E,f9,K,s,V⟩;subst s;obtain⟨k,hk⟩:∃k,c.length-j=k:=⟨_,rfl⟩;rw[hk]at K V;have L:k<=c.length:=ow;have cb:∀h,HLe Heap.emp h:=λh i ob e=>by cases e
  cases k with
  |zero=>
   have h0:decide (((0:Nat):Int)>0)=false:=rfl;have a3:∃k:Nat,D.int .i64 ((0:Nat):Int)=.int .i64 (k:Int)/\k<=c.length/\(∀i (h:i<c.length),k<=i->nS ⟨row,F⟩ c[i]<0)/\∀h:k-1<c.length,0<k->¬nS ⟨row,F⟩ c[k-1]<0:=⟨0,rfl,by omega,V,λ_ h=>absurd h (uB _)⟩;clear y p V
   repeat' first|simp only[go_sem, *]|apply bc<;>intro O
   refine zd kr ?_
   repeat' first|simp only[go_sem, *]|apply bc<;>intro O
  |succ k=>
   have S:k<c.length:=ow;have h0:decide (((k+1:Nat):Int)>0)=true:=zN ow;have bx:IntKind.i64.wrap (((k+1:Nat):Int)-1)=(k:Int):=by rw[qE ow ow];omega
   have a1:=Pn N.isSl S;have b1:yN true 2 c[k].cells 0=some (.agg c[k].cells):=zJ rfl ow;have R:=QU (v:=⟨row,F⟩) (w:=c[k]) (cv:=[.int .i64 row,.sl 1 (uq F) .no]) (cw:=c[k].cells) ⟨_,rfl,ye.mk .no,by show F.length<=_;omega⟩ ⟨_,rfl,ye.mk .no,by have:=X _ (zG S);omega⟩;rw[MC]at R;have p:=p H (Ext.refl H);cases hb:decide (nS ⟨row,F⟩ c[k]<0)with
   |true=>
    rw[hb]at R;have hn:∀i (h:i<c.length),k<=i->nS ⟨row,F⟩ c[i]<0:=λi h1 h2=>by
     rcases j6 k i with q|q
     ·exact V i h1 q
     ·have:i=k:=ow;subst this;exact zg hb
    have b9:c.length- (j+1)=k:=ow;have b8:j<c.length:=ow;clear y V hb;generalize c[k]=z at *
    repeat' first|simp only[go_sem, *]|apply bc<;>intro O
    refine zd kr ?_
    repeat' first|simp only[go_sem, *]|apply bc<;>intro O|(refine zB.mono (R _) ?_;rintro r h ⟨s,rfl⟩)
    exact hn
   |false=>
    rw[hb]at R;have a3:∃m:Nat,D.int .i64 ((k+1:Nat):Int)=.int .i64 (m:Int)/\m<=c.length/\(∀i (h:i<c.length),m<=i->nS ⟨row,F⟩ c[i]<0)/\∀h:m-1<c.length,0<m->¬nS ⟨row,F⟩ c[m-1]<0:=⟨k+1,rfl,by omega,V,λh _=>zq hb⟩;clear y V hb;generalize c[k]=z at *
    repeat' first|simp only[go_sem, *]|apply bc<;>intro O
    refine zd kr ?_
    repeat' first|simp only[go_sem, *]|apply bc<;>intro O|(refine zB.mono (R _) ?_;rintro r h ⟨s,rfl⟩)
 clear B C E f9 K fr;rintro fr H ⟨B,C,E,f9,s,k,K,L,V,hA⟩;subst s;have b3:yB prog false H.next 36 0 [] H=some (.sl 2 [] .full,H):=by simp[yB,wc,ja,tY,D.notTuple,D.cells,nz,tp,wY]
 have b4:∀H:Heap,yB prog false H.next 36 1 [(0,.agg [.int .i64 row,.sl 1 (uq F) .no])] H=some (.sl 2 [[.int .i64 row,.sl 1 (uq F) .no]] .full,H):=λH=>wP (x:=.agg [.int .i64 row,.sl 1 (uq F) .no]) wc ja tY rfl rfl ow ow rfl rfl;obtain⟨d1,b5,ak⟩:∃d1,(∀h,wi prog 36 l none (some (.int .i64 (k:Int))) none h=some d1)/\ye 2 (vcs (c.take k)) d1:=by
  rcases N with⟨rfl,e⟩ |rfl
  ·have:c= []:=qU.1 e;subst this;have ag:k=0:=by simpa using L
   subst ag;exact⟨.nilsl,λh=>by simp[wi,dc,mj,wc,tY,to,Zo,Xy],.inl ⟨rfl,rfl⟩⟩
  ·refine⟨.sl 2 ((vcs c).take k) (Vh k (vcs c).length .no),λh=>by simp[wi,dc,mj,wc,tY,to,Zo,Xy,wG,L],?_⟩
   have:(vcs c).take k=vcs (c.take k):=by simp[vcs,nW]
   rw[this];exact ye.mk _
 obtain⟨d2,b6,a7⟩:∃d2,(∀h,wi prog 36 l (some (.int .i64 (k:Int))) none none h=some d2)/\ye 2 (vcs (c.drop k)) d2:=by
  rcases N with⟨rfl,e⟩ |rfl
  ·have:c= []:=qU.1 e;subst this;have ag:k=0:=by simpa using L
   subst ag;exact⟨.nilsl,λh=>by simp[wi,dc,mj,wc,tY,to,Zo,Xy],.inl ⟨rfl,rfl⟩⟩
  ·refine⟨.sl 2 (((vcs c).take (vcs c).length).drop k) (Vh (vcs c).length (vcs c).length .no),λh=>by simp[wi,dc,mj,wc,tY,to,Zo,Xy,wG,L],?_⟩
   have:((vcs c).take (vcs c).length).drop k=vcs (c.drop k):=by rw[zb];simp[vcs,List.map_drop]
   rw[this];exact ye.mk _
 have u:(c.take k).length+1+(c.drop k).length<=1073741001:=by
  have:=congrArg List.length (yp k c);rw[zM]at this;omega
 have f:(∀h:k-1<c.length,0<k->nS ⟨row,F⟩ c[k-1]≠0)->∀r Y,Own H Y 2 (vcs (c.take k)++vcs [⟨row,F⟩]++vcs (c.drop k)) r->Q r Y:=λW r Y J=>by
  rw[<-J7,<-J7]at J;have M:wD r=.sl 2 (vcs (c.take k++ [⟨row,F⟩]++c.drop k)) .no:=by
   rcases(J.fin (fW _)).2.2 with⟨_,e⟩ |e
   ·have:=qU.1 e;simp at this
   ·exact e
  have ai:(c.take k++ [(⟨row,F⟩:Vio)]++c.drop k).Perm (⟨row,F⟩ ::c):=by
   simp only[z8,jz];refine nE.trans (.of_eq ?_);rw[yp]
  refine y _ r Y J.1 M (Cj L ab V (λh=>hA ow h) λh=>W ow h) (λx=> ?_) ?_ λv hv=> ?_
  ·rw[ai.mem_iff,zt,ad];exact or_comm
  ·rw[ai.length_eq,zm];omega
  ·rcases zt.1 (ai.mem_iff.1 hv)with rfl|q
   ·show F.length<=_;omega
   ·exact X v q
 have t:(∃h:k-1<c.length,c[k-1]= ⟨row,F⟩)->Q l H:=λ⟨h,e⟩=>by
  have hm:(⟨row,F⟩:Vio)∈c:=by rw[<-e];exact zG h
  have hl:l=.sl 2 (vcs c) .no:=by
   rcases N with⟨_,e⟩ |e
   ·have:c= []:=qU.1 e;rw[this]at hm;cases hm
   ·exact e
  refine y c l H (Ext.refl H) ?_ ab (λx=> ?_) ow X
  ·rw[hl];exact(qg (fW c) .no).1
  ·rw[<-ad];constructor
   ·exact .inl
   ·rintro(q|rfl)
    ·exact q
    ·exact hm
 have ca:=ak;clear y V hA bb;have U:=p;have b0:∀x∈vcs [⟨row,F⟩],x.length=2:=fX _;have bk:vcs [⟨row,F⟩]= [[.int .i64 row,.sl 1 (uq F) .no]]:=rfl;cases k with
 |zero=>
  have h0:decide (((0:Nat):Int)>0)=false:=rfl;have f:=f λ_ h=>absurd h (uB _);have e1:∀H:Heap,qh prog false H.next 36 (.sl 2 [] .full) d1 H=some (.sl 2 [] .full,H):=λH=>by
   rcases ak with⟨rfl,_⟩ | ⟨tk,rfl⟩
   ·simp[qh,wc,jb,tY,LF,th]
   ·rw[lN wc jb tY ow (fX _) (by simp[vcs,lim]) (by simp[vcs,lim])];rfl
  have e2:∀H:Heap,qh prog false H.next 36 (.sl 2 [] .full) (.sl 2 [[.int .i64 row,.sl 1 (uq F) .no]] .full) H=some (.sl 2 [[.int .i64 row,.sl 1 (uq F) .no]] (.own H.next),H.new H.next .tok):=λH=>by
   rw[<-bk,lN wc jb tY ow (fX _) (by rw[mK];simp[vcs,lim]) (by simp[vcs,lim])];rfl
  have p:=p H (Ext.refl H);have hO:Own H (H.new H.next .tok) 2 (vcs (c.take 0)++vcs [⟨row,F⟩]) (.sl 2 [[.int .i64 row,.sl 1 (uq F) .no]] (.own H.next)):=Own.ofNew (Ext.refl H);clear t U
  repeat' first|simp only[go_sem, *]|apply bc<;>intro O
  refine hO.appI (ys:=vcs (c.drop 0)) wc jb tY ow (fX _) a7 (by rw[zM,wG,wG,wG,mK];unfold lim;simp at u⊢;omega) (by rw[zM,wG,wG,wG];unfold lim;simp at u⊢;omega) λd' h' T=> ?_;have s:=f _ _ T;clear f T hO
  repeat' first|simp only[go_sem, *]|apply bc<;>intro O
 |succ k=>
  have S:k<c.length:=ow;have h0:decide (((k+1:Nat):Int)>0)=true:=zN ow;have bx:IntKind.i64.wrap (((k+1:Nat):Int)-1)=(k:Int):=by rw[qE ow ow];omega
  have a1:=Pn N.isSl S;have k0:c[k].cells[0]? =some (.int .i64 c[k].row):=rfl;have k1:c[k].cells[1]? =some (.sl 1 (uq c[k].facts) .no):=rfl;have a2:=gD (ye.mk (xs:=uq c[k].facts) .no) (ye.mk (xs:=uq F) .no) (by have:=X _ (zG S);omega);have heq:(c[k].row==row&&tc c[k].facts F==0)=(nS ⟨row,F⟩ c[k]==0):=by
   rw[tR,zC,yU,yU,yU];constructor
   ·rintro⟨q1,q2⟩;have q3:=Ye _ _ q2
    have:(⟨row,F⟩:Vio)=c[k]:=by
     rw[<-q1,<-q3]
    rw[this];exact aO.refl _
   ·intro q;have:=Qd _ _ q;rw[<-this];exact⟨rfl,d8.refl _⟩
  replace t:(nS ⟨row,F⟩ c[k]==0)=true->Q l H:=λq=>t ⟨by omega,(Qd _ _ (by simpa using q)).symm⟩;replace f:(nS ⟨row,F⟩ c[k]==0)=false->_:=λq=>f λ_ _=>by simpa using q
  rw[<-heq]at t f;clear heq;cases hr:(c[k].row==row&&tc c[k].facts F==0)with
  |true=>
   have s:=t hr;simp only[zC]at hr;obtain⟨r1,r2⟩:=hr;clear t f;generalize c[k]=z at *
   repeat' first|simp only[go_sem, *]|apply bc<;>intro O|(refine zB.mono (a2 _) ?_;rintro r h ⟨s,rfl⟩)
  |false=>
   replace f:=f hr;have W:0<(c.take (k+1)).length:=by rw[z7];omega
   have e1:∀H:Heap,qh prog false H.next 36 (.sl 2 [] .full) d1 H=some (.sl 2 (vcs (c.take (k+1))) (.own H.next),H.new H.next .tok):=λH=>by
    rcases ak with⟨_,e⟩ | ⟨tk,rfl⟩
    ·rw[qU.1 e]at W;cases W
    ·rw[lN wc jb tY ow (fX _) (by rw[wG,mK];unfold lim;omega) (by rw[wG];unfold lim;omega),iq (by rw[wG];omega)]
   have hO:Own H (H.new H.next .tok) 2 (vcs (c.take (k+1))) (.sl 2 (vcs (c.take (k+1))) (.own H.next)):=Own.ofNew (Ext.refl H);have p:=p _ ((Ext.refl H).new (zD _) .tok);clear t U;generalize c[k]=z at *
   cases r1:(z.row==row)
   all_goals
    try rw[r1,yL]at hr
    repeat' first|simp only[go_sem, *]|apply bc<;>intro O|(refine zB.mono (a2 _) ?_;rintro r h ⟨s,rfl⟩)
    refine hO.appH (ys:=vcs [⟨row,F⟩]) wc jb tY ow b0 (by simp[vcs]) (by rw[wG,wG,mK];unfold lim;simp at u⊢;omega) (by rw[wG,wG];unfold lim;simp at u⊢;omega) λd' h' T=> ?_;clear hO
    repeat' first|simp only[go_sem, *]|apply bc<;>intro O
    refine T.appI (ys:=vcs (c.drop (k+1))) wc jb tY ow (fX _) a7 (by rw[zM,wG,wG,wG,mK];unfold lim;simp at u⊢;omega) (by rw[zM,wG,wG,wG];unfold lim;simp at u⊢;omega) λd3 h3 a6=> ?_;have s:=f _ _ a6;clear f T a6;exact au
end Go.V
