/- Contracts of functions that the law reaches, part 4. No condition. -/
import Derived.Test.YtkenagjlanhnmaaGreatDoorW41
set_option linter.all false
set_option maxHeartbeats 8000000
namespace Go.V
open Go.Proofs.Tryz
open Go.Proofs
variable{k i:Nat}{α:Type}{d:D}{xs:List (List D)}{U:Nat->Prop}{h:Heap}{c:Cat}{fs:List Fac}{b:Bool}
def Ia{c:List D}(h:Shp prog k 29 c):∃d fs,c= [d]/\yZ 12 (sL fs) d/\fs.length<=1048576/\(∀f∈fs,f.Ok0)/\ShF fs:=by
 obtain⟨b,o,m,rfl,_,j,_,a,h1⟩:=nh underlying29 dm h;have e:=h1;obtain⟨l,rfl,n⟩:=oZ (f:=Fac.cells) λy i=>zAp (h1 y i);rw[zI]at a;exact⟨b,l,rfl,j,a,n,⟨λc g=>⟨m,e c g⟩⟩⟩
set_option maxRecDepth 100000
def Jj{l:List α}{a:α}(h:k<l.length):l.getD k a∈l:=by rw[zE,zB h];exact zH _
def NdI.v(n:NdI):Vio:=⟨n.row,n.facts⟩
def kK(c:Cat)(fs:List Fac)(m i:Nat)(n:NdI):Bool:=
 n.kids.all (λk=> !(decide (k<=(i:Int))||decide (k>=(m:Int))))&&(if(n.var== -1)=true then(n.kids.length:Int)==0 else decide (n.var>=0)&&decide (n.var<(ctV c fs:Int))&&decide ((szV c fs n.var.toNat:Int)>1)&&((n.kids.length:Int)==(szV c fs n.var.toNat:Int))&&n.row==0&&(n.facts.length:Int)==0)
abbrev nd0:NdI:=⟨0,[],0,[]⟩
def lvL(c:Cat)(fs:List Fac)(ns:List NdI):Nat->Nat->Part->List (Nat×Part)
 |0,_,_=>[]
 |m+1,i,p=>if((ns.getD i nd0).var== -1||deV c fs p (ns.getD i nd0).var.toNat)=true then [(i,p)]else(List.range (ns.getD i nd0).kids.length).flatMap λk=>lvL c fs ns m ((ns.getD i nd0).kids.getD k 0).toNat (pu c fs p (ns.getD i nd0).var.toNat k)
abbrev lvR(c:Cat)(fs:List Fac)(ns:List NdI):List (Nat×Part):=lvL c fs ns ns.length 0 (nO c fs)
def J8(c:Cat)(fs:List Fac)(ns:List NdI)(l:Nat×Part):Bool:=(ns.getD l.1 nd0).var== -1&&gM c fs (jl l.2) (ns.getD l.1 nd0).v==0
def dc(c:Cat)(fs:List Fac)(ns:List NdI):Bool:= !(ns.length==0)&&(List.range ns.length).all (λi=>kK c fs ns.length i (ns.getD i nd0))&&(lvR c fs ns).all (J8 c fs ns)
section
variable{c:Cat}{fs:List Fac}{ca cb ce cp x td od:D}
def UW{m i:Nat}{n:NdI}(h:kK c fs m i n=true):(∀k∈n.kids,(i:Int)<k/\k<(m:Int))/\(n.var≠ -1->0<=n.var/\n.var.toNat<ctV c fs/\1<szV c fs n.var.toNat/\n.kids.length=szV c fs n.var.toNat):=by
 unfold kK at h;rw[zF,zT]at h;refine⟨λk b=>by have:=h.1 k b;simp at this;omega,λd=> ?_⟩;have a:=h.2;rw[iq (by simpa using d)]at a;simp only[zF,zO,qz]at a;omega
theorem R0(S:SpD c fs ca cb ce cp x td od){q:Part}(o:Full c fs q){a:List NdI}(hf:∀i,i<a.length->kK c fs a.length i (a.getD i nd0)=true):∀m i p,i<a.length->a.length<=i+m->POk c fs p->Le p q->(∀l∈lvL c fs a m i p,J8 c fs a l=true)->pq c fs (jl q)≠[]
 |0,i,p,n,v,h,d,e=>by omega
 |m+1,i,p,n,v,h,d,e=>by
  obtain⟨r,s⟩:=UW (hf i n);unfold lvL at e;split at e
  .have:=e _ qO
   unfold J8 at this;rw[zF,qz,qz]at this;exact lF (d.mem ((LO (h.err S) _).1 this.2))
  .rename_i j
   rw[yn,bg]at j;obtain⟨w,t,y,z⟩:=s (by simpa using j.1);obtain⟨k,u,f⟩:=o.val t;have b:k<(a.getD i nd0).kids.length:=ow;have g:(a.getD i nd0).kids.getD k 0∈(a.getD i nd0).kids:=Jj b;obtain⟨k1,k2⟩:=r _ g;exact R0 S o hf m _ (pu c fs p (a.getD i nd0).var.toNat k) ow ow (h.dec u) (d.dec f) λl d=>e l (zt.2 ⟨k,yz.2 b,d⟩)
def Lq(S:SpD c fs ca cb ce cp x td od){b:List NdI}(h:dc c fs b=true):rZ c fs= []:=by
 unfold dc at h;simp only[zF,zT,qI,yv,yz]at h;obtain⟨⟨h1,d⟩,h3⟩:=h;refine lP λf=> ?_;obtain⟨q,a,e⟩:=(Rb S.v0).1 f;exact R0 S a d b.length 0 (nO c fs) ow ow (rX c fs _) (X1 a _ (zC _)) h3 e
end
structure FewR(ns:List NdI):Prop where
 len:ns.length<=8191
 kids:∀n∈ns,n.kids.length<=1048576
 facts:∀n∈ns,n.facts.length<=24
def Bd{a:List NdI}(t:kY a d)(G:a.length<=1048576)(g:Heap):zD prog 30 [d] g λr h'=>h'=g/\∃b,r=.bool b/\(b=true->FewR a):=by
 refine xP λQ p=> ?_;have hf:Q (.bool false) g:=p _ _ ⟨rfl,_,rfl,λq=>by cases q⟩;have A:=t.sl.2;cases B:decide ((a.length:Int)>300)with
 |true=>
  refine zj zNd ?_;simp only[f30,zA];simp only[go_sem, *]
 |false=>
 have h3:a.length<=300:=by have:=yA B;omega
 have s:(∀n∈a,n.kids.length<=40/\n.facts.length<=12)->Q (.bool true) g:=λh=>p _ _ ⟨rfl,_,rfl,λ_=>⟨zb h3 jD,λn c=>zb (h n c).1 jD,λn c=>zb (h n c).2 jD⟩⟩;refine zj zNd ?_;simp only[f30,zA];simp only[go_sem, *];refine zY (λi fr h=>fr 0=d/\fr 3=.int .i64 (i:Int)/\h=g/\∀j (e:j<a.length),j<i->a[j].kids.length<=40/\a[j].facts.length<=12) a.length ow ?_ ?_ ?_
 .clear s
  simp only[go_sem,zM,zV,zG];exact λj e h0=>by omega
 .rintro i fr h m w D ⟨x,y,rfl,e⟩
  obtain⟨cs,C,I,E,rfl,k1,k2⟩:=t.at m;have F:=t8 k1;have z:=t8 k2;have o:a[i].kids.length<=40/\a[i].facts.length<=12->∀j (e:j<a.length),j<i+1->a[j].kids.length<=40/\a[j].facts.length<=12:=λh j l k=>by
   rcases zp.1 k with q|rfl
   .exact e j l q
   .exact h
  cases u:decide ((a[i].kids.length:Int)>40)with
  |true=>
   simp only[go_sem, *]
  |false=>
   cases v:decide ((a[i].facts.length:Int)>12)with
   |true=>
    simp only[go_sem, *]
   |false=>
    have c:=o ⟨by have:=yA u;omega,by have:=yA v;omega⟩;simp only[go_sem, *];exact c
 .rintro fr h w ⟨x,y,rfl,e⟩
  have H:=s λn c=>by
   obtain⟨j,f,rfl⟩:=zz.1 c;exact e j f f
  exact au
def Ub{a:List NdI}(b:i<a.length):a.getD i nd0=a[i]:=by rw[zE,zB b];rfl
section
variable{c:Cat}{fs:List Fac}{ca cb ce cp x td od:D}
theorem K8(S:SpD c fs ca cb ce cp x td od){f:List NdI}(hd:kY f d)(Y:FewR f)(F:i<f.length)(g:Heap):zD prog 121 [.iptr [ca,cb,ce,cp,x,td,od] 0,d,.int .i64 (i:Int)] g λr h'=>h'=g/\r=.bool (kK c fs f.length i (f.getD i nd0)):=by
 refine xU kr λad=> ?_;refine xP λR U=> ?_;have V:=hd.sl.2;obtain⟨cs,a1,B,C,rfl,k1,k2⟩:=hd.at F;obtain⟨N,hN⟩:∃N,g.next=N:=⟨_,rfl⟩;obtain⟨G,hG,X,hE⟩:∃G:Heap,g.new N (.row [.int .i64 f[i].var,B,.int .i64 f[i].row,C])=G/\G.at' N=some (.row [.int .i64 f[i].var,B,.int .i64 f[i].row,C])/\Ext g G:=⟨_,rfl,z5 _ _ _,by rw[<-hN];exact(Ext.refl g).new (zC _) _⟩;have ak:yW prog 139 (.ptr N 0) (.agg [.int .i64 f[i].var,B,.int .i64 f[i].row,C]) (g.new N (.row [.int .i64 0,.nilsl,.int .i64 0,.nilsl]))=some G:=by
  rw[<-hG];exact ym lq ow rfl rfl (by simp[(zw k1).2.2,(zw k2).2.2];exact⟨rfl,rfl⟩)
 have A:HLe (Heap.one N (.row [.int .i64 f[i].var,B,.int .i64 f[i].row,C])) G:=by rw[mV];exact X
 obtain⟨Q,z⟩:∃Q:D->Prop,∀b,Q (.bool b)↔R (.bool b) G:=⟨λd=>R d G,λ_=>Iff.rfl⟩;have L:∀r,(∃b,r=.bool b/\b=kK c fs f.length i (f.getD i nd0))->Q r:=λr ⟨b,e1,e2⟩=>by rw[e1];exact(z b).2 (U _ _ ⟨hE,trivial,by rw[e2]⟩)
 have hk:=t8 k1;have ag:=t8 k2;have aj:f[i].kids.length<=1048576:=Y.kids _ (zH F);have I:=Y.len;have E:=UK S;have u:=UL S;rw[Ub F]at L;generalize f[i]=n at *
 obtain⟨m,hm,F,I⟩:∃m,f.length=m/\i<m/\m<=8191:=⟨_,rfl,F,I⟩;rw[hm]at L V;have w:∀j (t:j<n.kids.length),(decide (n.kids[j]<=(i:Int))||decide (n.kids[j]>=(m:Int)))=true->R (.bool false) G:=λj t e=>(z _).1 (L _ ⟨_,rfl,by
  have:kK c fs m i n=false:=by
   unfold kK;rw[jz];refine .inl (oK.2 λh=> ?_);have:=zT.1 h _ (zH t);rw[e]at this;cases this
  rw[this]⟩)
 have o:(∀j (t:j<n.kids.length),(decide (n.kids[j]<=(i:Int))||decide (n.kids[j]>=(m:Int)))=false)->∀b,b=(if(n.var== -1)=true then(n.kids.length:Int)==0 else decide (n.var>=0)&&decide (n.var<(ctV c fs:Int))&&decide ((szV c fs n.var.toNat:Int)>1)&&((n.kids.length:Int)==(szV c fs n.var.toNat:Int))&&n.row==0&&(n.facts.length:Int)==0)->R (.bool b) G:=λh b e=>(z _).1 (L _ ⟨_,rfl,by
  have:kK c fs m i n=b:=by
   unfold kK;rw[e,show n.kids.all (λk=> !(decide (k<=(i:Int))||decide (k>=(m:Int))))=true from ?_,uT]
   refine zT.2 λk hk=> ?_;obtain⟨j,t,rfl⟩:=zz.1 hk;rw[h j t];rfl
  rw[this]⟩)
 have au:∀a b e p:D,yO true 4 [a,b,e,p] 0=some (.agg [a,b,e,p]):=λa b e p=>zJ rfl ow;refine zj zFE ?_;simp only[f121,zA]
 repeat' first|simp only[go_sem, *]|apply bc<;>intro y
 refine zY (λj fr h=>fr 0=.iptr [ca,cb,ce,cp,x,td,od] 0/\fr 1=d/\fr 2=.int .i64 (i:Int)/\fr 7=.ptr N 0/\fr 15=B/\fr 16=.int .i64 (n.kids.length:Int)/\fr 17=.int .i64 (j:Int)/\h=G/\∀q (l:q<n.kids.length),q<j->(decide (n.kids[q]<=(i:Int))||decide (n.kids[q]>=(m:Int)))=false) n.kids.length ow ?_ ?_ ?_
 .clear w o E u
  simp only[go_sem,zM,zV,zG];exact λq l h0=>by omega
 .rintro j fr h H ec ew ⟨f0,f1,f2,f7,O,P,T,l,t⟩
  subst l;have ai:=lX k1 H;have Z:=w j H;have J:(decide (n.kids[j]<=(i:Int))||decide (n.kids[j]>=(m:Int)))=false->∀q (l:q<n.kids.length),q<j+1->(decide (n.kids[q]<=(i:Int))||decide (n.kids[q]>=(m:Int)))=false:=λh q l W=>by
   rcases zp.1 W with e|rfl
   .exact t q l e
   .exact h
  generalize n.kids[j]=K at *
  cases e1:decide (K<=(i:Int))with
  |true=>
   rw[e1]at Z
   repeat' first|simp only[go_sem, *]|apply bc<;>intro y
  |false=>
   cases e2:decide (K>=(m:Int))with
   |true=>
    rw[e1,e2]at Z
    repeat' first|simp only[go_sem, *]|apply bc<;>intro y
   |false=>
    rw[e1,e2]at J;have hn:=J rfl
    repeat' first|simp only[go_sem, *]|apply bc<;>intro y
    exact hn
 .rintro fr h ec ⟨f0,f1,f2,f7,O,P,T,l,t⟩
  subst l;have s:=o λq l=>t q l l;cases M:(n.var== -1)with
  |true=>
   rw[M,ip rfl]at s;have s:=s _ rfl
   repeat' first|simp only[go_sem, *]|apply bc<;>intro y
  |false=>
   rw[M,iq zd]at s;cases e1:decide (n.var>=0)with
   |false=>
    rw[e1]at s;have s:=s false jS
    repeat' first|simp only[go_sem, *]|apply bc<;>intro y
    refine yq (Heap.one N (.row [.int .i64 n.var,B,.int .i64 n.row,C])) (pwt [0,1,2,3,4] ((5,.st,true)::(pwt [6,7,8,9,10,11,12,13,14,15,16,17,18] ((19,.st,true)::(pwt [20,21,22,23,24,25,26,27,28,29,30,31,32,33,34,35,36,37,38,39,40] []))))) kr kr A ?_
    repeat' first|simp only[go_sem,kM, *]|apply bc<;>intro y
   |true=>
    obtain⟨v,hv⟩:∃v:Nat,n.var=(v:Int):=⟨n.var.toNat,by have:=yE e1;omega⟩;rw[hv,wV]at s;rw[hv]at e1 M X A;have u:=u v;rw[e1]at s
    repeat' first|simp only[go_sem, *]|apply bc<;>intro y
    refine yq (Heap.one N (.row [.int .i64 (v:Int),B,.int .i64 n.row,C])) (pwt [0,1,2,3,4] ((5,.st,true)::(pwt [6,7,8,9,10,11,12,13,14,15,16,17,18] ((19,.st,true)::(pwt [20,21,22,23,24,25,26,27,28,29,30,31,32,33,34,35,36,37,38,39,40] []))))) kr kr A ?_
    repeat' first|simp only[go_sem,kM, *]|apply bc<;>intro y|(refine zD.mono (E _) ?_;rintro r h ⟨l,rfl⟩)|(refine zD.mono (u _) ?_;rintro r h ⟨l,rfl⟩)
end
abbrev Jy(yid vid:Nat)(d:D)(sp:List D):D:=.fn (.func 185) [] [.iptr [d] 0,.iptr [.iptr sp 0] 0,.iptr [.yld yid] 0,.ptr vid 0]
abbrev elV(xs:List (List D))(Lw:List (Nat×Part))(k:Nat):List D:=[.agg (xs.getD (Lw.getD k (0,⟨[],[]⟩)).1 []),CD (Lw.getD k (0,⟨[],[]⟩)).2]
def LvQ(Y:Nat->(Nat->Prop)->Heap->Prop)(Z:(Nat->Prop)->Heap->Prop)(S1:Nat->Prop)(h:Heap)(k:Nat)(r:D)(h':Heap):Prop:=
 ∃S1',(∀i,S1' i->S1 i\/h.next<=i)/\But S1 h h'/\((r=.bool true/\Y k S1' h')\/(r=.bool false/\Z S1' h'))
structure RefD(ns:List NdI)(d:D)(xs:List (List D)):Prop where
 sl:yZ 4 xs d
 at':∀(i:Nat),i<ns.length->∃cs,xs[i]? =some cs/\BS (ns.getD i nd0) cs
section
variable{c:Cat}{fs:List Fac}{ca cb ce cp x td od:D}
theorem zCb(S:SpD c fs ca cb ce cp x td od){s:List NdI}(hd:RefD s d xs)(hR:FewR s)(hf:∀i,i<s.length->kK c fs s.length i (s.getD i nd0)=true){t vid:Nat}{Lw:List (Nat×Part)}{Y:Nat->(Nat->Prop)->Heap->Prop}{Z:(Nat->Prop)->Heap->Prop}(y:Yld prog t Lw.length (elV xs Lw) Y Z):∀(m i:Nat)(p:Part),i<s.length->s.length<=i+m->POk c fs p->∀k,(∀j q,(lvL c fs s m i p)[j]? =some q->Lw[k+j]? =some q)->∀S1 h,Y k S1 h->vid<h.next->¬S1 vid->h.at' vid=some (.row [Jy t vid d [ca,cb,ce,cp,x,td,od]])->zD prog 185 [.int .i64 (i:Int),CD p,.iptr [d] 0,.iptr [.iptr [ca,cb,ce,cp,x,td,od] 0] 0,.iptr [.yld t] 0,.ptr vid 0] h (LvQ Y Z S1 h (k+(lvL c fs s m i p).length))
 |0,i,p,u,hm,hp,k,hk,S1,h,hY,v0,v1,L=>by omega
 |m+1,i,p,u,hm,hp,k,hk,S1,h,hY,v0,v1,L=>by
  have b8:∀a b e p:D,yO true 4 [a,b,e,p] 0=some (.agg [a,b,e,p]):=λa b e p=>zJ rfl ow;obtain⟨cs,X,kd,fd,e,k1,k2⟩:=hd.at' i u;have a1:yc prog 32 d (.int .i64 (i:Int))=some (.iptr cs 0):=yR hd.sl fV lq X;obtain⟨f1,f2⟩:=UW (hf i u);have bb:(s.getD i nd0).kids.length<=1048576:=by rw[Ub u];exact hR.kids _ (zH u)
  have ih:=zCb S hd hR hf (vid:=vid) y m;obtain⟨n,hn⟩:∃n,s.getD i nd0=n:=⟨_,rfl⟩;have eL:lvL c fs s (m+1) i p=if(n.var== -1||deV c fs p n.var.toNat)=true then [(i,p)]else(List.range n.kids.length).flatMap λk=>lvL c fs s m (n.kids.getD k 0).toNat (pu c fs p n.var.toNat k):=by rw[<-hn];rfl
  rw[hn]at e k1 k2 f1 f2 bb;refine xP λQ P=> ?_;rw[eL]at P hk;subst e;obtain⟨N,hN⟩:∃N,h.next=N:=⟨_,rfl⟩;obtain⟨G,hG,g1,hE,a6⟩:∃G:Heap,h.new N (.row [.int .i64 n.var,kd,.int .i64 n.row,fd])=G/\G.at' N=some (.row [.int .i64 n.var,kd,.int .i64 n.row,fd])/\Ext h G/\G.next=N+1:=⟨_,rfl,z5 _ _ _,by rw[<-hN];exact(Ext.refl h).new (zC _) _,by rw[<-hN];exact za _ _⟩;have a5:yW prog 139 (.ptr N 0) (.agg [.int .i64 n.var,kd,.int .i64 n.row,fd]) (h.new N (.row [.int .i64 0,.nilsl,.int .i64 0,.nilsl]))=some G:=by
   rw[<-hG];exact ym lq ow rfl rfl (by simp[(zw k1).2.2,(zw k2).2.2];exact⟨rfl,rfl⟩)
  have O:∀r h',LvQ Y Z S1 G _ r h'->Q r h':=λr h' ⟨T,q1,q2,q3⟩=>P r h' ⟨T,λi u=>(q1 i u).imp (λq=>q) λq=>by omega,(hE.but _).trans q2 λi u=>.inl u,q3⟩;have V:=y.ext hY hE;have a0:¬S1 N:=λe=>by have:=y.here _ _ _ hY N e;omega
  have b7:=t8 k1;have o:=λv (L:v<ctV c fs) g=>W0 S hp L g;cases M:(n.var== -1||deV c fs p n.var.toNat)with
  |true=>
   rw[M,ip rfl]at O hk;have a3:Lw[k]? =some (i,p):=hk 0 _ rfl;have F:=y.go k S1 G (zK.1 a3).1 V;simp only[elV,zE,a3,X,zA]at F;have E:∀r h',(∃S',(∀i,S' i->S1 i\/G.next<=i)/\But S1 G h'/\((r=.bool true/\Y (k+1) S' h')\/(r=.bool false/\Z S' h')))->Q r h':=λr h' q=>O _ _ q;clear O P hY V a0 v0 v1 L hk a3 hn eL hd ih hf u hm X bb hG hE a6;cases e1:(n.var== -1)with
   |true=>
    clear o f1 f2 M;refine zj FD ?_;simp only[f185,zA]
    repeat' first|simp only[go_sem, *]|apply bc<;>intro W
    refine F.mono λr h' B=> ?_;have B:=E r h' B;clear E F
    repeat' first|simp only[go_sem, *]|apply bc<;>intro W
   |false=>
    obtain⟨b1,g2,g3,g4⟩:=f2 (by simpa using e1);rw[e1,uw]at M;obtain⟨v,L⟩:∃v:Nat,n.var=(v:Int):=⟨n.var.toNat,ow⟩;rw[L,wV]at g2 M;have o:=o v g2;rw[M]at o;rw[L]at e1 F a1 g1 a5;clear f1 f2 b1 g2 g3 g4 M;clear L;refine zj FD ?_;simp only[f185,zA]
    repeat' first|simp only[go_sem, *]|apply bc<;>intro W|(refine zD.mono (o _) ?_;rintro r h ⟨B,rfl⟩)
    subst B
    repeat' first|simp only[go_sem, *]|apply bc<;>intro W
    refine F.mono λr h' B=> ?_;have B:=E r h' B;clear E F
    repeat' first|simp only[go_sem, *]|apply bc<;>intro W
  |false=>
   rw[M,iq zd]at O hk;rw[rv]at M;obtain⟨e1,e2⟩:=M;obtain⟨b1,g2,g3,g4⟩:=f2 (by simpa using e1);obtain⟨v,bs⟩:∃v:Nat,n.var=(v:Int):=⟨n.var.toNat,ow⟩;have bo:n.var.toNat=v:=ow;rw[bo]at g2 g3 g4 e2 O hk;rw[bs]at e1 a1 g1 a5;have o:=o v g2;rw[e2]at o;generalize hK:(λj=>jI (List.range n.kids.length) (λk=>lvL c fs s m (n.kids.getD k 0).toNat (pu c fs p v k)) j)=K;have a7:K 0=0:=by rw[<-hK];exact an _ _
   have ba:∀j,j<n.kids.length->K (j+1)=K j+(lvL c fs s m (n.kids.getD j 0).toNat (pu c fs p v j)).length:=λj J=>by rw[<-hK];exact mT (by simp[J])
   have a8:K n.kids.length=((List.range n.kids.length).flatMap λk=>lvL c fs s m (n.kids.getD k 0).toNat (pu c fs p v k)).length:=by
    have:=bP (List.range n.kids.length) (λk=>lvL c fs s m (n.kids.getD k 0).toNat (pu c fs p v k));rw[oQ]at this;rw[<-hK];exact this
   have a9:∀j,j<n.kids.length->∀q z,(lvL c fs s m (n.kids.getD j 0).toNat (pu c fs p v j))[q]? =some z->Lw[k+K j+q]? =some z:=λj J q z B=>by
    have h1:=UV (l:=List.range n.kids.length) (f:=λk=>lvL c fs s m (n.kids.getD k 0).toNat (pu c fs p v k)) (a:=j) (x:=j) (b:=q) (by simp[J]) (zK.1 B).1;rw[qf];refine hk _ z ?_;rw[<-hK];exact h1.trans B
   rw[<-a8]at O;obtain⟨I,H⟩:∃I:Nat->Heap->Prop,∀j h',I j h'↔∃S',(∀i,S' i->S1 i\/G.next<=i)/\But S1 G h'/\Y (k+K j) S' h':=⟨_,λ_ _=>Iff.rfl⟩;have ak:I 0 G:=(H _ _).2 ⟨S1,λi u=>.inl u,But.refl S1 G,by rw[a7];exact V⟩;have C:∀h',I n.kids.length h'->Q (.bool true) h':=λh' q=>by
    obtain⟨T,q1,q2,q3⟩:=(H _ _).1 q;exact O _ _ ⟨T,q1,q2,.inl ⟨rfl,q3⟩⟩
   have R:∀j (J:j<n.kids.length) h',I j h'->h'.at' vid=some (.row [Jy t vid d [ca,cb,ce,cp,x,td,od]])/\h'.at' N=some (.row [.int .i64 (v:Int),kd,.int .i64 n.row,fd])/\zD prog 185 [.int .i64 n.kids[j],CD (pu c fs p v j),.iptr [d] 0,.iptr [.iptr [ca,cb,ce,cp,x,td,od] 0] 0,.iptr [.yld t] 0,.ptr vid 0] h' λr h2=>(r=.bool true/\I (j+1) h2)\/(r=.bool false/\Q (.bool false) h2):=λj J h' q=>by
    obtain⟨T,q1,q2,q3⟩:=(H _ _).1 q;have b4:n.kids.getD j 0=n.kids[j]:=by rw[zE,zB J];rfl
    obtain⟨b1,b2⟩:=f1 _ (zH J);have b5:n.kids[j]=(((n.kids.getD j 0).toNat:Nat):Int):=by rw[b4];omega
    have bk:h'.at' vid=some (.row [Jy t vid d [ca,cb,ce,cp,x,td,od]]):=by rw[q2.2 vid ow v1,hE.2 vid v0];exact L
    refine⟨bk,by rw[q2.2 N ow a0];exact g1,?_⟩;rw[b5];refine(ih (n.kids.getD j 0).toNat (pu c fs p v j) ow ow (hp.dec ow) (k+K j) (a9 j J) T h' q3 (by have:=q2.1;omega) (λe=>(q1 vid e).elim v1 ow) bk).mono ?_;rintro r h2 ⟨U,u1,u2,u3⟩;have ai:∀i,U i->S1 i\/G.next<=i:=λi u=>by
     have:=q2.1;rcases u1 i u with q|q
     .exact q1 i q
     .exact .inr ow
    have ag:But S1 G h2:=q2.trans u2 q1;rcases u3 with⟨rfl,w⟩ | ⟨rfl,w⟩
    .exact .inl ⟨rfl,(H _ _).2 ⟨U,ai,ag,by rw[ba j J,<-qf];exact w⟩⟩
    .exact .inr ⟨rfl,O _ _ ⟨U,ai,ag,.inr ⟨rfl,w⟩⟩⟩
   have ad:=λj (J:j<n.kids.length) g=>Y3 (t1:=.no) (t2:=.no) S hp (v:=v) (k:=j) g2 ow g;clear O P hY V a0 v0 v1 L hk hn eL hd ih hf u hm X hK a7 ba a8 a9 H f1 f2 b1 g2 g3 g4 e2 bs bo hG hE a6;refine zj FD ?_;simp only[f185,zA]
   repeat' first|simp only[go_sem, *]|apply bc<;>intro W|(refine zD.mono (o _) ?_;rintro r h ⟨B,rfl⟩)
   subst B
   repeat' first|simp only[go_sem, *]|apply bc<;>intro W
   refine zY (λj fr h'=>fr 2=.iptr [d] 0/\fr 3=.iptr [.iptr [ca,cb,ce,cp,x,td,od] 0] 0/\fr 4=.iptr [.yld t] 0/\fr 5=.ptr vid 0/\fr 7=.iptr [tsD p,owD p] 0/\fr 9=.ptr N 0/\fr 31=kd/\fr 32=.int .i64 (n.kids.length:Int)/\fr 33=.int .i64 (j:Int)/\I j h') n.kids.length ow ?_ ?_ ?_
   .clear C R ad
    simp only[go_sem,zM,zV,zG];exact ak
   .clear C ak o g1 a5
    rintro j fr h' a4 ec ew ⟨f2,f3,f4,f5,f7,f9,bx,f32,b3,H⟩;obtain⟨r9,r10,A⟩:=R j a4 h' H;have a2:=ad j a4;have aj:=lX k1 a4;have b6:HLe (Heap.one vid (.row [Jy t vid d [ca,cb,ce,cp,x,td,od]])) h':=by rw[mV];exact r9
    clear R ad H r9;generalize n.kids[j]=b9 at *
    repeat' first|simp only[go_sem, *]|apply bc<;>intro W
    refine yq (Heap.one vid (.row [Jy t vid d [ca,cb,ce,cp,x,td,od]])) ((0,.st,true)::(pwt [2,3,1,4,5,6,7] (pwf [8,9] []))) kr kr b6 ?_
    repeat' first|simp only[go_sem,kM, *]|apply bc<;>intro W|(refine zD.mono (a2 _) ?_;rintro r h ⟨B,rfl⟩)
    subst B
    repeat' first|simp only[go_sem, *]|apply bc<;>intro W
    refine A.mono ?_;rintro r h2 (⟨rfl,u⟩ | ⟨rfl,u⟩)
    .clear A a2
     exact au
    .clear A a2
     exact au
   .clear R ad ak o
    rintro fr h' ec ⟨f2,f3,f4,f5,f7,f9,bx,f32,b3,H⟩;have B:=C _ H;clear C H;exact au
def YM(sp:List D)(d:D):D:=.fn (.func 184) [] [.iptr [d] 0,.iptr [.iptr sp 0] 0]
def K9(a:List D)(b:yZ 4 xs d)(g:Heap):zD prog 122 [.iptr a 0,d] g λr h'=>h'=g/\r=YM a d:=by
 rcases b with⟨rfl,_⟩ | ⟨_,rfl⟩
 .refine zj zAG ?_
  simp only[f122,zA];simp only[go_sem,YM, *]
 .refine zj zAG ?_
  simp only[f122,zA];simp only[go_sem,YM, *]
def LK(S:SpD c fs ca cb ce cp x td od){b:List NdI}(E:RefD b d xs)(C:FewR b)(h0:0<b.length)(hf:∀i,i<b.length->kK c fs b.length i (b.getD i nd0)=true){a:Nat}{Y:Nat->(Nat->Prop)->Heap->Prop}{Z:(Nat->Prop)->Heap->Prop}(y:Yld prog a (lvR c fs b).length (elV xs (lvR c fs b)) Y Z)(u:Y 0 U h):
  zD prog 184 [.yld a,.iptr [d] 0,.iptr [.iptr [ca,cb,ce,cp,x,td,od] 0] 0] h λ_ h'=>∃r,LvQ Y Z U h (lvR c fs b).length r h':=by
 have o:=JB S;have D:∀(t:TypeId)(nid:Nat)(h:Heap),dS t nid h (some .nilfn)=some (.ptr nid 0,h.new nid (.row [.nilfn])):=λ_ _ _=>rfl;have p:yW prog 259 (.ptr h.next 0) (Jy a h.next d [ca,cb,ce,cp,x,td,od]) (h.new h.next (.row [.nilfn]))=some (h.new h.next (.row [Jy a h.next d [ca,cb,ce,cp,x,td,od]])):=ym zA4 ow rfl rfl rfl;obtain⟨G,A,s,k,l⟩:∃G:Heap,h.new h.next (.row [Jy a h.next d [ca,cb,ce,cp,x,td,od]])=G/\Ext h G/\G.at' h.next=some (.row [Jy a h.next d [ca,cb,ce,cp,x,td,od]])/\h.next<G.next:=⟨_,rfl,(Ext.refl h).new (zC _) _,z5 _ _ _,by rw[za];omega⟩;rw[A]at p
 have f:=zCb S E C hf y b.length 0 (nO c fs) h0 ow (rX c fs _) 0 (λj q e=>by rw[yH];exact e) U G (y.ext u s) l (λe=>wH _ (y.here _ _ _ u _ e)) k;have g:∀r h',LvQ Y Z U G (0+(lvR c fs b).length) r h'->LvQ Y Z U h (lvR c fs b).length r h':=by
  rintro r h' ⟨T,F,H,z⟩;rw[yH]at z;exact⟨T,λi m=>(F i m).imp (λq=>q) λq=>by omega,(s.but _).trans H λi m=>.inl m,z⟩
 have n:HLe (Heap.one h.next (.row [Jy a h.next d [ca,cb,ce,cp,x,td,od]])) G:=by rw[mV];exact k
 refine xP λQ B=> ?_;have g:=λr h' q=>B (.tuple []) h' ⟨r,g r h' q⟩;rw[show((0:Nat):Int)=0 from rfl]at f
 refine zj zFa ?_;simp only[f184,zA]
 repeat' first|simp only[go_sem, *]|apply bc<;>intro v
 refine yq (Heap.one h.next (.row [Jy a h.next d [ca,cb,ce,cp,x,td,od]])) ((0,.st,true)::(pwt [1,2] (pwf [3] []))) kr kr n ?_
 repeat' first|simp only[go_sem,kM, *]|apply bc<;>intro v|(refine zD.mono (o _) ?_;rintro r h ⟨w,rfl⟩)
 subst w
 repeat' first|simp only[go_sem, *]|apply bc<;>intro v
 refine f.mono λr h' q=> ?_;have w:=g r h' q;exact au
end
def kY.refD{b:List NdI}(h:kY b d):∃xs,RefD b d xs:=by
 obtain⟨xs,h1,c,h3⟩:=h;exact⟨xs,h1,λi a=>h3 i _ (by rw[Ub a];exact zB a)⟩
abbrev zH9(c:Cat)(fs:List Fac)(ns:List NdI)(k:Nat):Nat×Part:=(lvR c fs ns).getD k (0,⟨[],[]⟩)
def WRi(c:Cat)(fs:List Fac)(ns:List NdI)(n k:Nat)(S:Nat->Prop)(h:Heap):Prop:=n<h.next/\h.at' n=some (.row [.bool false])/\(∀j,j<k->J8 c fs ns (zH9 c fs ns j)=true)/\∀i,S i↔i=n
def VRi(c:Cat)(fs:List Fac)(ns:List NdI)(n:Nat)(S:Nat->Prop)(h:Heap):Prop:=n<h.next/\h.at' n=some (.row [.bool false])/\(lvR c fs ns).all (J8 c fs ns)=false/\∀i,S i↔i=n
def WRi.lcl(c:Cat)(fs:List Fac)(j:List NdI)(n:Nat):Lcl (WRi c fs j n):=by
 refine⟨λk S h y i f=> ?_,λk S h h' y l g=> ?_⟩
 .obtain⟨b,d,e,a⟩:=y
  rw[(a i).1 f];exact b
 .obtain⟨b,d,e,a⟩:=y
  exact⟨ow,by rw[g _ ((a _).2 rfl)];exact d,e,a⟩
def VRi.lcl(c:Cat)(fs:List Fac)(j:List NdI)(n:Nat):Lcl λ_=>VRi c fs j n:=by
 refine⟨λk S h y i f=> ?_,λk S h h' y l g=> ?_⟩
 .obtain⟨b,d,e,a⟩:=y
  rw[(a i).1 f];exact b
 .obtain⟨b,d,e,a⟩:=y
  exact⟨ow,by rw[g _ ((a _).2 rfl)];exact d,e,a⟩
section
variable{c:Cat}{fs:List Fac}{ca cb ce cp x td od:D}
theorem zE0{b:List NdI}(hf:∀i,i<b.length->kK c fs b.length i (b.getD i nd0)=true):∀m i p,i<b.length->POk c fs p->∀l∈lvL c fs b m i p,l.1<b.length/\POk c fs l.2
 |0,i,p,d,f,l,a=>by cases a
 |m+1,i,p,d,f,l,a=>by
  obtain⟨j,n⟩:=UW (hf i d);unfold lvL at a;split at a
  .rw[zo]at a
   subst a;exact⟨d,f⟩
  .rename_i g
   rw[yn,bg]at g;obtain⟨o,q,r,s⟩:=n (by simpa using g.1);obtain⟨k,h,a⟩:=zt.1 a;rw[yz]at h;have e:(b.getD i nd0).kids.getD k 0∈(b.getD i nd0).kids:=Jj h;obtain⟨k1,k2⟩:=j _ e;exact zE0 hf m _ _ ow (f.dec ow) l a
theorem Gd(S:SpD c fs ca cb ce cp x td od){f:List NdI}(hd:kY f d)(hR:FewR f)(g:Heap):zD prog 73 [.iptr [ca,cb,ce,cp,x,td,od] 0,d] g λr h'=>h'=g/\r=.bool (dc c fs f):=by
 refine xU kr λcf=> ?_;refine xP λR bk=> ?_;have Y:∀(h:Heap) b,Ext g h->b=dc c fs f->R (.bool b) h:=λh b M e=>bk _ _ ⟨M,trivial,by rw[e]⟩;obtain⟨n,hn⟩:∃n,g.next=n:=⟨_,rfl⟩;obtain⟨G,hG,bb,g1,M⟩:∃G:Heap,g.new n (.row [.bool false])=G/\G.next=n+1/\G.at' n=some (.row [.bool false])/\Ext g G:=⟨_,rfl,by rw[<-hn];exact za _ _,z5 _ _ _,by rw[<-hn];exact(Ext.refl g).new (zC _) _⟩;have s0:yW prog 4 (.ptr n 0) (.bool false) G=some G:=by
  rw[yN g1 I0 jS rfl rfl];exact congrArg some (sC g1)
 have cg:∀(nid:Nat)(h:Heap),dS 4 nid h (some (.bool false))=some (.ptr nid 0,h.new nid (.row [.bool false])):=λ_ _=>rfl;have cl:=hd.sl.2;cases e0:((f.length:Int)==0)with
 |true=>
  have t:=Y G false M (by
   have:f.length=0:=by have:=eq_of_beq e0;omega
   unfold dc;rw[this];rfl)
  refine zj zLS ?_;simp only[f73,zA]
  repeat' first|simp only[go_sem, *]|apply bc<;>intro A
 |false=>
 have h0:0<f.length:=by
  rcases lH f.length with q|q
  .rw[q]at e0;cases e0
  .exact q
 have cm:=hR.len;have a2:=λi (s:i<f.length)=>K8 S hd hR s;have N:∀i,i<f.length->kK c fs f.length i (f.getD i nd0)=false->R (.bool false) G:=λi s e=>Y G false M (by
  have:(List.range f.length).all (λi=>kK c fs f.length i (f.getD i nd0))=false:=oK.2 λh=>by
   have:=zT.1 h i (yz.2 s);rw[e]at this;cases this
  unfold dc;rw[this];simp)
 have o:(∀i,i<f.length->kK c fs f.length i (f.getD i nd0)=true)->∀h b,Ext g h->(lvR c fs f).all (J8 c fs f)=b->R (.bool b) h:=λh H b M e=>Y H b M (by
  have h1:(List.range f.length).all (λi=>kK c fs f.length i (f.getD i nd0))=true:=zT.2 λi s=>h i (yz.1 s);have J:(f.length==0)=false:=yv.2 ow;unfold dc;rw[h1,J,e];rfl)
 obtain⟨xs,aj⟩:=hd.refD;have ad:=K9 [ca,cb,ce,cp,x,td,od] aj.sl;refine zj zLS ?_;simp only[f73,zA]
 repeat' first|simp only[go_sem, *]|apply bc<;>intro A
 refine zY (λj fr h=>fr 1=d/\fr 2=.iptr [.iptr [ca,cb,ce,cp,x,td,od] 0] 0/\fr 4=.ptr n 0/\fr 12=.int .i64 (f.length:Int)/\fr 13=.int .i64 (j:Int)/\h=G/\∀q,q<j->kK c fs f.length q (f.getD q nd0)=true) f.length ow ?_ ?_ ?_
 .clear N o a2 ad
  simp only[go_sem,zM,zV,zG];exact λq t=>absurd t (yX _)
 .clear o ad
  rintro j fr h a5 ec ew ⟨f1,f2,f4,a8,a9,t,y⟩;subst t;have I:=a2 j a5;have hb:=N j a5;cases ef:kK c fs f.length j (f.getD j nd0)with
  |false=>
   rw[ef]at I;have hb:=hb ef
   repeat' first|simp only[go_sem, *]|apply bc<;>intro A|(refine zD.mono (I _) ?_;rintro r h ⟨t,rfl⟩)
  |true=>
   rw[ef]at I;have hn:∀q,q<j+1->kK c fs f.length q (f.getD q nd0)=true:=λq t=>by
    rcases zp.1 t with e|rfl
    .exact y q e
    .exact ef
   repeat' first|simp only[go_sem, *]|apply bc<;>intro A|(refine zD.mono (I _) ?_;rintro r h ⟨t,rfl⟩)
   subst t
   repeat' first|simp only[go_sem, *]|apply bc<;>intro A
   exact hn
 rintro fr h ec ⟨f1,f2,f4,a8,a9,t,hf⟩;subst t;have o:=o hf
 repeat' first|simp only[go_sem,YM, *]|apply bc<;>intro A|(refine zD.mono (ad _) ?_;rintro r h ⟨t,rfl⟩)
 subst t
 rename Heap=>G
 generalize z:LRec.mk _ _ _ _ _ _ _=L;have b6:L.pending=none:=by rw[<-z]
 have b7:L.st=.ready:=by rw[<-z]
 have bo:WRi c fs f n 0 (λj=>j=n) G:=⟨ow,g1,λj y=>absurd y (yX _),λ_=>Iff.rfl⟩;refine Rz (W:=WRi c fs f n) (V:=VRi c fs f n) (n:=(lvR c fs f).length) (el:=elV xs (lvR c fs f)) bb (WRi.lcl c fs f n) (VRi.lcl c fs f n) b7 b6 bo (λyl bs=>(LK S aj hR h0 hf yl bs).mono λr h' ⟨r',T,q1,q2,q3⟩=>⟨T,q1,q2,q3.imp (λq=>q.2) λq=>q.2⟩) ?_ ?_ ?_
 .intro k S0 h3 hk C a3 cc a6
  have O:=a3;rw[<-z]at O;obtain⟨w1,w2,w3,w4⟩:=cc;obtain⟨l,Z⟩:∃l,zH9 c fs f k=l:=⟨_,rfl⟩;have a4:l∈lvR c fs f:=by rw[<-Z,zH9,zE,zB hk];exact zH _
  obtain⟨i1,i2⟩:=zE0 hf _ _ _ h0 (rX c fs _) l a4;obtain⟨i,q⟩:=l;simp only at i1 i2;obtain⟨cs,bx,kd,Q,e,k1,k2⟩:=aj.at' i i1;have b1:elV xs (lvR c fs f) k= [.agg cs,CD q]:=by
   simp only[elV];rw[show(lvR c fs f).getD k (0,⟨[],[]⟩)=(i,q)from Z,zE,bx];rfl
  rw[b1];have ch:(f.getD i nd0).facts.length<=24:=by rw[Ub i1];exact hR.facts _ (zH i1)
  have a1:=M8 (i2.cin S) (v:=(f.getD i nd0).v) (cv:=[.int .i64 (f.getD i nd0).row,Q]) ⟨Q,rfl,k2,by show(f.getD i nd0).facts.length<=_;omega⟩;have b5:J8 c fs f (i,q)=((f.getD i nd0).var== -1&&gM c fs (jl q) (f.getD i nd0).v==0):=rfl;have cu:∀a b e p:D,yO true 4 [a,b,e,p] 0=some (.agg [a,b,e,p]):=λa b e p=>zJ rfl ow;have cw:yO true 4 [ca,cb,ce,cp,x,td,od] 0=some (.agg [ca,cb,ce,cp]):=rfl;have cx:∀a b e p:D,yO true 2 [a,b,e,p] 2=some (.agg [e,p]):=λa b e p=>rfl;subst e;obtain⟨m,hm⟩:∃m,h3.next=m:=⟨_,rfl⟩
  obtain⟨K,b2,u2,u3,u4⟩:∃K:Heap,h3.new m (.row [.int .i64 (f.getD i nd0).var,kd,.int .i64 (f.getD i nd0).row,Q])=K/\K.next=m+1/\K.at' m=some (.row [.int .i64 (f.getD i nd0).var,kd,.int .i64 (f.getD i nd0).row,Q])/\Ext h3 K:=⟨_,rfl,by rw[<-hm];exact za _ _,z5 _ _ _,by rw[<-hm];exact(Ext.refl h3).new (zC _) _⟩;obtain⟨h5,b3,p1,p2,p3⟩:∃h5:Heap,K.new (m+1) (.row [tsD q,owD q])=h5/\h5.at' (m+1)=some (.row [tsD q,owD q])/\h5.at' m=some (.row [.int .i64 (f.getD i nd0).var,kd,.int .i64 (f.getD i nd0).row,Q])/\Ext h3 h5:=⟨_,rfl,z5 _ _ _,by rw[zf ow];exact u3,u4.new ow _⟩
  have b8:yW prog 139 (.ptr m 0) (.agg [.int .i64 (f.getD i nd0).var,kd,.int .i64 (f.getD i nd0).row,Q]) (h3.new m (.row [.int .i64 0,.nilsl,.int .i64 0,.nilsl]))=some K:=by
   rw[<-b2];exact ym lq ow rfl rfl (by simp[(zw k1).2.2,(zw k2).2.2];exact⟨rfl,rfl⟩)
  have b9:yW prog 47 (.ptr (m+1) 0) (.agg [tsD q,owD q]) (K.new (m+1) (.row [.nilsl,.nilsl]))=some h5:=by
   rw[<-b3];exact ym Zu ow rfl rfl rfl
  have b4:h5.at' (n+1)=some (.loop L):=by rw[p3.2 _ C];exact a3
  have P:=b4;rw[<-z]at P;have a0:J8 c fs f (i,q)=false->(lvR c fs f).all (J8 c fs f)=false:=λe=>oK.2 λh=>by
   have:=zT.1 h _ a4;rw[e]at this;cases this
  refine wo.round (g:=AK) mix O rfl kr kr kr ?_;simp only[go_sem,hm,u2,b8,b9];refine⟨P,?_⟩;generalize ba:LRec.mk .busy _ _ _ _ _ _=B;have ak:({ B with st:=.ready,pending:=none } :LRec)=L:=by rw[<-ba,<-z]
  obtain⟨w,X,t1,t2,t3⟩:∃w,h5.set (n+1) (.loop B)=w/\w.at' n=some (.row [.bool false])/\w.at' (n+1)=some (.loop B)/\But (λi=>i=n+1) h3 w:=⟨_,rfl,by rw[zX ow,p3.2 n w1];exact w2,zW _ _ _,by rw[yY];exact p3.1,λi Z s=>by rw[zX s];exact p3.2 i Z⟩;have v1:w.at' m=some (.row [.int .i64 (f.getD i nd0).var,kd,.int .i64 (f.getD i nd0).row,Q]):=by rw[<-X,zX ow];exact p2
  have v2:w.at' (m+1)=some (.row [tsD q,owD q]):=by rw[<-X,zX ow];exact p1
  rw[X];have s1:yW prog 4 (.ptr n 0) (.bool false) w=some w:=by
   rw[yN t1 I0 jS rfl rfl];exact congrArg some (sC t1)
  have a7:n<w.next:=zl w1 t3.1;have ai:J8 c fs f (i,q)=true->∀fr,sf (LpZ (n+1) L (WRi c fs f n) (VRi c fs f n) k S0 h3) (n+1) .normal fr w:=λho fr=>
   Lp.finZ (WRi.lcl c fs f n) ak C a6 t2 (S':=S0) (λi s=>.inl s) ⟨t3.1,λi s ag=>t3.2 i s λe=>ag (.inl e)⟩ ⟨a7,t1,λj y=>by
    rcases zp.1 y with e|rfl
    .exact w3 j e
    .rw[Z];exact ho,w4⟩
  have E:J8 c fs f (i,q)=false->∀fr,sf (LpZ (n+1) L (WRi c fs f n) (VRi c fs f n) k S0 h3) (n+1) .ret fr w:=λho fr=>
   Lp.retZ (VRi.lcl c fs f n) ak C a6 t2 (S':=S0) (λi s=>.inl s) ⟨t3.1,λi s ag=>t3.2 i s λe=>ag (.inl e)⟩ ⟨a7,t1,a0 ho,w4⟩
  rw[b5]at ai E;generalize f.getD i nd0=nd at *
  generalize gM c fs (jl q) nd.v=ck at *
  cases e1:(nd.var== -1)with
  |false=>
   rw[e1]at E;have u:=E rfl
   repeat' first|simp only[go_sem, *]|apply bc<;>intro A
   refine yq Heap.emp (pwf [0,1,2,3,4,8,12,5,6,7,9,10,11,13,14,15,16,17] []) kr kr (λi ob e=>by cases e) ?_
   repeat' first|simp only[go_sem, *]|apply bc<;>intro A
  |true=>
   cases e2:(ck==0)with
   |false=>
    rw[e1,e2]at E;have u:=E rfl
    repeat' first|simp only[go_sem, *]|apply bc<;>intro A
    refine yq Heap.emp (pwf [0,1,2,3,4,8,12,5,6,7,9,10,11,13,14,15,16,17] []) kr kr (λi ob e=>by cases e) ?_
    repeat' first|simp only[go_sem, *]|apply bc<;>intro A|(refine zD.mono (a1 _) ?_;rintro r h ⟨t,rfl⟩)
   |true=>
    rw[e1,e2]at ai;have u:=ai rfl
    repeat' first|simp only[go_sem, *]|apply bc<;>intro A
    refine yq Heap.emp (pwf [0,1,2,3,4,8,12,5,6,7,9,10,11,13,14,15,16,17] []) kr kr (λi ob e=>by cases e) ?_
    repeat' first|simp only[go_sem, *]|apply bc<;>intro A|(refine zD.mono (a1 _) ?_;rintro r h ⟨t,rfl⟩)
 .intro S' J hs hb hw
  obtain⟨w1,w2,w3,w4⟩:=hw;have U:Ext g J:=Ext.of_but M hb λj y=>by subst y;omega
  obtain⟨F,hF,E1,f1⟩:∃F,J.set n (.row [.bool true])=F/\Ext g F/\F.at' n=some (.row [.bool true]):=⟨_,rfl,U.set ow _,zW _ _ _⟩;have s1:yW prog 4 (.ptr n 0) (.bool true) J=some F:=by
   rw[yN w2 I0 jS rfl rfl,<-hF];rfl
  have u:=o F true E1 (zT.2 λl Z=>by
   obtain⟨j,y,rfl⟩:=zz.1 Z;have:=w3 j y
   rwa [zH9,zE,zB y]at this)
  exact au
 .intro S' J hs hb hw
  obtain⟨w1,w2,w3,w4⟩:=hw;have U:Ext g J:=Ext.of_but M hb λj y=>by subst y;omega
  have u:=o J false U w3;exact au
end
def Zf(c:Cat)(fs:List Fac)(y:Cho):Bool:=if(!(qN c fs y false==0))=true then false else !(Qr c fs y).head?.isSome
def RT(c:Cat)(fs:List Fac)(y:Cho):Zg c fs y=.tuple [.bool (Zf c fs y),.int .i64 (qN c fs y false)]:=by
 unfold Zg Zf;split
 .rfl
 .rename_i h
  have:qN c fs y false=0:=by simpa using h
  rw[this]
def Pt(c:Cat)(fs:List Fac)(b:Bool)(y:Cho)(ns:List NdI):Int:=
 if(!(qi c fs==0))=true then qi c fs else
 if b=true then(if(decide ((ns.length:Int)>0)|| !(qN c fs y false==0)|| !(Zf c fs y))=true then 18 else 0)
 else if(decide ((y.ts.length:Int)+(y.own.length:Int)>0)|| !(dc c fs ns))=true then 18 else 0
variable{c:Cat}{fs:List Fac}
def Gc{ca cb ce cp x:D}(l:uB c (.agg [ca,cb,ce,cp]))(B:c.Sm)(C:yZ 12 (sL fs) x)(u:Hp fs)(s:∀f∈fs,f.Ok){y:Cho}{ta oa rd:D}(E:V7 y (.agg [ta,oa]))(n:y.Sm){o:List NdI}(A:kY o rd)(F:FewR o)(g:Heap):
  zD prog 32 [.agg [ca,cb,ce,cp],x,.agg [.bool b,ta,oa,rd]] g λr h'=>h'=g/\r=.int .i64 (Pt c fs b y o):=by
 refine xP λQ w=> ?_;have i:∀v,v=Pt c fs b y o->Q (.int .i64 v) g:=λv e=>w _ _ ⟨rfl,by rw[e]⟩;unfold Pt at i;have I:CIn c fs y (.agg [ca,cb,ce,cp]) x (.agg [ta,oa]):=⟨l,B,C,by have:=u.1.2;omega,u.1.1,s,E,n⟩;have p:=bD I;rw[RT]at p;have d:=JA l B C u s;have G:=A.sl.2;have M:∀a b c e:D,yO true 2 [a,b,c,e] 1=some (.agg [b,c]):=λa b c e=>rfl;obtain⟨T,R,e,L,K⟩:=E;cases e;have J:=uh L;have H:=wO K;have U:IntKind.i64.wrap ((y.ts.length:Int)+(y.own.length:Int))=(y.ts.length:Int)+(y.own.length:Int):=by
  have:=n.tl;have:=n.ol;exact qP ow ow
 cases t:(qi c fs==0)with
 |false=>
  have z:qi c fs≠0:=by simpa using t
  rw[t,ip (by rfl)]at i;have j:=i _ rfl;have d:∀g,zD prog 42 [.agg [ca,cb,ce,cp],x] g λr h'=>h'=g/\r=.tuple [.nilptr,.int .i64 (qi c fs)]:=λg=>(d g).mono λr h' q=>⟨q.1,by
   rcases q.2 with⟨_,e⟩ | ⟨e,_⟩
   .exact e
   .exact absurd e z⟩
  refine zj zIF ?_;simp only[f32,zA]
  repeat' first|simp only[go_sem, *]|apply bc<;>intro l|(refine zD.mono (d _) ?_;rintro r h ⟨j,rfl⟩)
 |true=>
  rw[t,iq jD]at i;have d:∀g,zD prog 42 [.agg [ca,cb,ce,cp],x] g λr h'=>h'=g/\∃td od,r=.tuple [.iptr [ca,cb,ce,cp,x,td,od] 0,.int .i64 0]/\SpD c fs ca cb ce cp x td od:=λg=>(d g).mono λr h' q=>⟨q.1,by
   rcases q.2 with⟨e,_⟩ | ⟨_,td,od,e,S,_⟩
   .exact absurd (eq_of_beq t) e
   .exact⟨td,od,e,S⟩⟩
  have m:∀td od,SpD c fs ca cb ce cp x td od->∀g,zD prog 73 [.iptr [ca,cb,ce,cp,x,td,od] 0,rd] g λr h'=>h'=g/\r=.bool (dc c fs o):=λtd od S g=>Gd S A F g;generalize Zf c fs y=N at *
  generalize qN c fs y false=O at *
  generalize dc c fs o=P at *
  cases b with
  |true=>
   rw[ip rfl]at i;refine zj zIF ?_;simp only[f32,zA]
   repeat' first|simp only[go_sem, *]|apply bc<;>intro l
   refine(d _).mono ?_;rintro r k ⟨j,td,od,rfl,S⟩;subst j;cases e1:decide ((o.length:Int)>0)<;>cases e2:(O==0)<;>cases N<;>rw[e1,e2]at i<;>have j:=i _ rfl<;>clear i<;>simp only[nj,sj,nC,pd,nk,uw,lC,zg,qF,yp]at j
   all_goals
    repeat' first|simp only[go_sem, *]|apply bc<;>intro l|(refine zD.mono (p _) ?_;rintro r h ⟨j,rfl⟩)
  |false=>
   rw[iq zd]at i;refine zj zIF ?_;simp only[f32,zA]
   repeat' first|simp only[go_sem, *]|apply bc<;>intro l
   refine(d _).mono ?_;rintro r k ⟨j,td,od,rfl,S⟩;subst j;have m:=m td od S;cases e1:decide ((y.ts.length:Int)+(y.own.length:Int)>0)<;>cases P<;>rw[e1]at i<;>have j:=i _ rfl<;>clear i<;>simp only[nj,sj,nC,pd,nk,uw,lC,zg,qF,yp]at j
   all_goals
    repeat' first|simp only[go_sem, *]|apply bc<;>intro l|(refine zD.mono (m _) ?_;rintro r h ⟨j,rfl⟩)
end Go.V
