/- Contracts of functions that the law reaches, part 6. No condition. -/
import Derived.Test.YtmkfpfodpehkoaaGreatDoorW45
import Derived.Test.YtmkfpfodpehkoaaGreatDoorW27
set_option linter.all false
set_option maxHeartbeats 8000000
namespace Go.V
open Go.Proofs.Tryz
open Go.Proofs
set_option maxRecDepth 100000
def MT:∀(n:Nat){e:Ex},e.size<=n->e.Ok->e.size<=1048576->∀g:Heap,zB prog 47 [.agg e.cells] g λr h'=>h'=g/\r=.int .i64 (e.size:Int):=by
 intro n
 induction n with
 |zero=>intro e h;cases e;simp only[Ex.size]at h;omega
 |succ n y=>
 intro e H f o g;obtain⟨k,z,x,l,d⟩:=e;simp only[Ex.size,Ex.Ok]at H f o;obtain⟨u,L,_,_,j⟩:=f;have v:=pR u;have E:(Ex.mk k z x l d).size=yt l+1:=by simp only[Ex.size]
 rw[E];refine z5 zKU ?_;simp only[f47,zA];simp only[Ex.cells,Ex.kind,Ex.name,Ex.exc,Ex.d]
 repeat' first|simp only[go_sem, *]|apply bc<;>intro F
 refine zV (λi fr h=>fr 1=.iptr [.int .i64 k,.str z,.str x,d] 0/\fr 4=.int .i64 (i:Int)/\fr 3=.int .i64 ((yt (l.take i)+1:Nat):Int)/\h=g) l.length ow ?_ ?_ ?_
 ·have J:yt (l.take 0)+1=1:=by simp[yt]
  simp only[go_sem,zQ,zS,zF,J];rfl
 ·rintro i fr h c B K ⟨C,D,q,rfl⟩;have A:=kG u c;have m:l[i]∈l:=zG c;have w:=y (e:=l[i]) (by have:=uP m;omega) (pS j _ m) (by have:=uP m;omega);have p:yt (l.take (i+1))=yt (l.take i)+l[i].size:=by rw[zH c,fU]
  have G:yt (l.take (i+1))<=yt l:=by
   have:=yp (i+1) l;have key:∀a b:List Ex,yt a<=yt (a++b):=λa b=>by
    induction a with
    |nil=>simp[yt]
    |cons x a y=>simp only[z9,yt];omega
   have s:=key (l.take (i+1)) (l.drop (i+1));rw[this]at s;exact s
  have t:IntKind.i64.wrap (((yt (l.take i)+1:Nat):Int)+(l[i].size:Int))=((yt (l.take (i+1))+1:Nat):Int):=by rw[p,qE ow ow];omega
  simp only[Ex.cells]at A w
  repeat' first|simp only[go_sem, *]|apply bc<;>intro F|(refine zB.mono (w _) ?_;rintro r h ⟨I,rfl⟩)
 ·rintro fr h B ⟨C,D,q,rfl⟩;rw[zb]at q;exact au
variable{c:Cat}{d x:D}{fs:List Fac}{k:Nat}
def QX(l:uM c d)(H:c.Sm)(C:ye 12 (dj fs) x)(R:fs.length<=1048576)(s:∀f∈fs,f.Ok0)(g:Heap):zB prog 19 [d,x] g λr h'=>h'=g/\∃b,r=.bool b/\(b=true->Ez fs/\c.ls.length<=40):=by
 refine xP λQ E=> ?_;have hf:Q (.bool false) g:=E _ _ ⟨rfl,_,rfl,λq=>by cases q⟩;have k:Ez fs/\c.ls.length<=40->∀b,Q (.bool b) g:=λU b=>E _ _ ⟨rfl,b,rfl,λ_=>U⟩;have S:=rh C;have B:=KD l H C R s;have p:=H.cs;obtain⟨I,J,ce,K,rfl,_,_,F,_⟩:=l;have O:=jX;have W:=nb F;have X:=p.1;have V:=isI;refine z5 zKD ?_;simp only[f19,zA]
 repeat' first|simp only[go_sem, *]|apply bc<;>intro l
 refine(B _).mono ?_;rintro r h ⟨j,b,rfl,P⟩;subst j;cases b with
 |false=>
  repeat' first|simp only[go_sem, *]|apply bc<;>intro l
 |true=>
 have v:=P rfl;have k:=k v;have v:=v.1
 repeat' first|simp only[go_sem, *]|apply bc<;>intro l
 refine zV (λi fr h'=>fr 1=x/\fr 2=.iptr [I,J,ce,K] 0/\fr 7=.int .i64 (i:Int)/\IsI (fr 5)/\IsI (fr 6)/\h'=h) c.cs.length ow ?_ ?_ ?_
 ·simp only[go_sem,zQ,zS,zF,isI]
 ·rintro i fr h a z L ⟨m,A,M,⟨t,n⟩,⟨u,o⟩,j⟩;subst j;have w:=lV F a;have o1:=wd (p.2 _ (zG a)).1;generalize c.cs[i]=y at *
  simp only[Cla.cells]at w;exact au
 rintro fr h z ⟨m,A,M,⟨t,n⟩,⟨u,o⟩,j⟩;subst j
 repeat' first|simp only[go_sem, *]|apply bc<;>intro l
 refine zV (λi fr h'=>fr 1=x/\fr 8=.int .i64 (i:Int)/\IsI (fr 5)/\IsI (fr 6)/\h'=h) fs.length ow ?_ ?_ ?_
 ·simp only[go_sem,zQ,zS,zF,isI,m,n,o]
 ·clear m A n o t u;rintro i fr h a z L ⟨m,N,⟨t,n⟩,⟨u,o⟩,j⟩;subst j;have w:=wR C a;have G:=zG a;have D:=MT _ (zD _) (s _ G).e (by have:=v.2 _ G;omega);generalize fs[i]=f at *
  simp only[Fac.cells]at w;simp only[Ex.cells]at D
  repeat' first|simp only[go_sem, *]|apply bc<;>intro l|(refine zB.mono (D _) ?_;rintro r h ⟨T,rfl⟩)
 ·clear m A n o t u;rintro fr h z ⟨m,N,⟨t,n⟩,⟨u,o⟩,j⟩;subst j;exact au
def MU(i:uM c d)(k:c.Sm)(l:ye 12 (dj fs) x)(j:fs.length<=1048576)(a:∀f∈fs,f.Ok0)(g:Heap):zB prog 19 [d,x] g λr h'=>h'=g/\∃b,r=.bool b/\(b=true->Ez fs):=
 (QX i k l j a g).mono λ_ _ ⟨h,b,e,q⟩=>⟨h,b,e,λz=>(q z).1⟩
theorem zLB{m:Int}{l:List Int}{a d e:D}(o:ye 1 (uq l) a)(w:l.length<=1048576)(j:ye 2 [[.int .i64 m,a]] d)(k:ye 2 [[.int .i64 m,a]] e)(g:Heap):
  zB prog 11 [d,e] g λr h'=>h'=g/\r=.bool true:=by
 have f:=gD o o w;have b:tc l l=0:=d8.refl l;rw[b]at f;have y:(m==m)=true:=wM m;have B:∀h,js prog 36 d h=some (.int .i64 1):=λh=>uV j underlying36;have C:∀h,js prog 36 e h=some (.int .i64 1):=λh=>uV k underlying36;have z:yP prog 36 d (.int .i64 0)=some (.iptr [.int .i64 m,a] 0):=qA (i:=0) j wc tY rfl;have A:yP prog 36 e (.int .i64 0)=some (.iptr [.int .i64 m,a] 0):=qA (i:=0) k wc tY rfl;obtain⟨E,F,_⟩:=yR j;obtain⟨G,H,_⟩:=yR k;clear o j k b;refine z5 zLI ?_;simp only[f11,zA]
 repeat' first|simp only[go_sem, *]|apply bc<;>intro p
 refine zV (λi fr h'=>fr 0=d/\fr 1=e/\fr 5=.int .i64 (i:Int)/\g=h') 1 ow ?_ ?_ ?_
 ·simp only[go_sem,zQ,zS,zF]
 ·rintro i fr h' x e1 s ⟨t,u,c,n⟩;subst n;have v:i=0:=ow;subst v;replace c:fr 5=.int .i64 0:=c;have s:IntKind.i64.wrap ((0:Int)+1)=((0+1:Nat):Int):=rfl;have q:decide ((0:Int)<1)=true:=rfl;clear e1
  repeat' first|simp only[go_sem, *]|apply bc<;>intro p
  refine zd kr ?_
  repeat' first|simp only[go_sem, *]|apply bc<;>intro p|(refine zB.mono (f _) ?_;rintro r h ⟨n,rfl⟩)
 ·rintro fr h' e1 ⟨t,u,c,n⟩;subst n;replace c:fr 5=.int .i64 1:=c;have q:decide ((1:Int)<1)=false:=rfl;clear e1;exact au
theorem zK9(c:Cat)(fs:List Fac)(y:Cho):∃m l a b n,zK5 c fs y=.tuple [.agg [.int .i64 m,a],.bool b,.int .i64 n]/\ye 1 (uq l) a/\l.length<=1048576:=by
 unfold zK5;split
 ·exact⟨0,[],.nilsl,_,_,rfl,ye.nil,by simp⟩
 ·rw[U1];have f:=N1 (c:=c) (fs:=fs) (y:=y);generalize ly c fs y=e at *
  cases e with
  |nil=>exact⟨0,[],.nilsl,_,_,rfl,ye.nil,by simp⟩
  |cons v e=>
   obtain⟨d,_,_,h3⟩:=f v (by simp);exact⟨v.row,v.facts,.sl 1 (uq v.facts) .no,_,_,rfl,ye.mk _,h3⟩
theorem zLF(m:Int)(a:D)(nid:Nat)(h:Heap):yB prog false nid 36 1 [(0,.agg [.int .i64 m,a])] h=some (.sl 2 [[.int .i64 m,a]] .full,h):=wP wc ja tY rfl rfl ow ow rfl rfl
theorem DL{c:Cat}{d x yd:D}(a:uM c d)(u:c.Sm){fs:List Fac}(v:ye 12 (dj fs) x)(t:fs.length<=1048576)(i:∀f∈fs,f.Ok0){y:Cho}(p:ZR y yd)(m:y.Sm)(l:∀s∈y.own,s.length<=1048576)(g:Heap):
  zB prog 6 [d,x,yd] g λr h'=>h'=g/\∃b,r=.bool b/\(b=true->Ez fs):=by
 refine xP λQ e=> ?_;have h1:=MU a u v t i;have n:=Lw p m l;have hf:Q (.bool false) g:=e _ _ ⟨rfl,_,rfl,λq=>by cases q⟩;have k:Ez fs->∀b,Q (.bool b) g:=λh b=>e _ _ ⟨rfl,b,rfl,λ_=>h⟩;obtain⟨w,z,ce,A,rfl,_,_,_,_⟩:=a;obtain⟨C,B,rfl,_,_⟩:=p;clear e;refine z5 ok6 ?_;simp only[f6,zA]
 repeat' first|simp only[go_sem, *]|apply bc<;>intro a
 refine(h1 _).mono ?_;rintro r h ⟨j,b,rfl,o⟩;subst j;cases b with
 |false=>
  clear n k o
  repeat' first|simp only[go_sem, *]|apply bc<;>intro a
 |true=>
  have k:=k (o rfl)
  repeat' first|simp only[go_sem, *]|apply bc<;>intro a
  refine(n _).mono ?_;rintro r h' ⟨j,b2,rfl⟩;subst j;exact au
theorem X6{c:Cat}{d x yd:D}(a:uM c d)(F:c.Sm){fs:List Fac}(H:ye 12 (dj fs) x)(L:fs.length<=1048576)(u:∀f∈fs,f.Ok0){y:Cho}(z:ZR y yd)(o:y.Sm)(I:∀s∈y.own,s.length<=1048576){v:Vio}{cv:List D}(M:v.Is cv)(g:Heap):zB prog 4 [d,x,yd,.agg cv] g λr _=>r=.bool true:=by
 refine xP λQ K=> ?_;have hT:∀h,Q (.bool true) h:=λh=>K _ _ rfl;have p:=ZT;have t:=DL a F H L u z o I;have C:Ez fs->RIn c fs y d x yd/\CIn c fs y d x yd:=λj=>by
  have l:∀f∈fs,f.Ok:=λf hf=>(u f hf).ok (j.2 f hf);have O:=j.1;exact⟨⟨a,F,H,j.1,l,j.2,z,o⟩,⟨a,F,H,L,by omega,l,z,o⟩⟩
 have m:=M;obtain⟨vd,rfl,G,V⟩:=M;have T:=rF G;obtain⟨X,Y,ce,Z,rfl,_,_,_,_⟩:=a;obtain⟨ta,oa,rfl,_,_⟩:=z;clear K;refine z5 ok4 ?_;simp only[f4,zA]
 repeat' first|simp only[go_sem, *]|apply bc<;>intro a|(refine zB.mono (p _) ?_;rintro r h ⟨rfl,w⟩)
 refine(t _).mono ?_;rintro r h ⟨w,b,rfl,j⟩;subst w;clear p t;cases b with
 |false=>
  clear j C
  repeat' first|simp only[go_sem, *]|apply bc<;>intro a
 |true=>
 obtain⟨A,B⟩:=C (j rfl);clear j C;cases W:decide ((v.facts.length:Int)>12)with
 |true=>
  repeat' first|simp only[go_sem, *]|apply bc<;>intro a
 |false=>
 have h1:=Vb B;have J:=QP A;have h3:=MG B m;have N:=HB A m;obtain⟨b,n,q⟩:∃b n,gG c fs y=.tuple [.bool b,.int .i64 n]:=by
  unfold gG;split<;>exact⟨_,_,rfl⟩
 rw[q]at h1 J;generalize dJ c fs y v=k at *
 clear A B m q;have U:(n==n)=true:=wM n;have R:(k==k)=true:=wM k;have P:zGW b b=true:=by cases b<;>rfl
 repeat' first|simp only[go_sem, *]|apply bc<;>intro a|(refine zB.mono (h1 _) ?_;rintro r h ⟨w,rfl⟩)|(refine zB.mono (J _) ?_;rintro r h ⟨E,rfl⟩)
 have S:=zIz
 all_goals
  refine qD Heap.emp [(0,.no,true),(2,.no,true),(3,.no,true),(5,.st,true),(7,.st,true),(8,.st,true),(1,.no,true),(6,.no,true),(4,.no,true),(9,.no,true),(10,.no,true),(11,.no,true),(12,.no,true),(13,.no,true),(14,.no,true),(15,.no,true),(16,.no,true),(17,.no,true),(18,.no,true),(19,.no,true),(20,.no,true),(21,.no,true)] kr kr (λi ob e=>by cases e) ?_
  repeat' first|simp only[go_sem, *]|apply bc<;>intro a|(refine zB.mono (h3 _) ?_;rintro r h ⟨w,rfl⟩)|(refine zB.mono (N _) ?_;rintro r h ⟨E,rfl⟩)
def BG{c:List D}(h:Shp prog k 112 c):∃n:Trm,c=n.cells/\True:=by
 obtain⟨j,_,hf⟩:=sv underlying112 h;obtain⟨d,r1,rfl,h1,hf⟩:=qB hf;obtain⟨e,r2,rfl,a,hf⟩:=qB hf;obtain rfl:=oZ hf;obtain⟨s1,rfl,b⟩:=rx underlying9 h1;obtain⟨s2,rfl,b2⟩:=rx underlying9 a;exact⟨⟨s1,s2⟩,rfl,trivial⟩
def C8{c:List D}(h:Shp prog k 108 c):∃a:Alt,c= [a.d]/\a.Sm:=by
 obtain⟨d,xs,j,rfl,_,f,_,b,h1⟩:=gg underlying108 uo h;obtain⟨l,rfl,_⟩:=nI λy e=>BG (h1 y e);rw[zI]at b;exact⟨⟨l,d⟩,rfl,f,b⟩
def BB{c:List D}(h:Shp prog k 33 c):∃ (y:Cho) (a b:D),c= [a,b]/\ZR y (.agg [a,b])/\y.Sm/\∀s∈y.own,s.length<=1048576:=by
 obtain⟨j,_,hf⟩:=sv underlying33 h;obtain⟨t,r1,rfl,h1,hf⟩:=qB hf;obtain⟨u,r2,rfl,e,hf⟩:=qB hf;obtain rfl:=oZ hf;obtain⟨l,x,v,rfl,_,n,_,i,h1⟩:=gg underlying30 uT h1;obtain⟨m,z,w,rfl,_,o,_,b2,e⟩:=gg underlying31 md e;obtain⟨q,rfl,k1⟩:=nI (f:=λa:Alt=>[a.d]) λy g=>C8 (h1 y g);obtain⟨r,rfl,k2⟩:=nI (f:=λs:List UInt8=>[.str s]) (p:=λs=>s.length<=1048576) λy g=>by
  obtain⟨s,rfl,b⟩:=rx underlying9 (e y g);exact⟨s,rfl,b⟩
 rw[zI]at i b2;exact⟨⟨q,r⟩,l,m,rfl,⟨l,m,rfl,n,o⟩,⟨i,b2,k1⟩,k2⟩
theorem zLC{c:Cat}{fs:List Fac}{y:Cho}{l m:D}(h1:zK4 c fs y=0->Fin 2 (Ig c fs y) l)(f:zK4 c fs y≠0->l=.nilsl)(h3:zK4 c fs y=0->Fin 2 (vcs (ly c fs y)) m)(g:zK4 c fs y≠0->m=.nilsl):∃a:List Vio,ye 2 (vcs a) l/\ye 2 (vcs a) m/\a.length<=1073741824/\∀w∈a,w.facts.length<=1048576:=by
 by_cases h:zK4 c fs y=0
 ·have e:=h1 h;rw[U1]at e;refine⟨ly c fs y,e.isSl,(h3 h).isSl,?_,λw b=> ?_⟩
  ·unfold zK4 at h;split at h
   ·rename_i q;rw[h]at q;exact absurd q (by decide)
   ·split at h
    ·cases h
    ·rename_i q;rw[U1,wG]at q
     have:¬(((ly c fs y).length:Int)>1024):=by simpa using q
     omega
  ·obtain⟨d,_,_,h3⟩:=N1 w b;exact h3
 ·rw[f h,g h];exact⟨[],ye.nil,ye.nil,by simp,λw b=>by cases b⟩
theorem zK6{c:Cat}{d x yd:D}(i:uM c d)(S:c.Sm){fs:List Fac}(U:ye 12 (dj fs) x)(hl:fs.length<=1048576)(A:∀f∈fs,f.Ok0){y:Cho}(I:ZR y yd)(q:y.Sm)(V:∀s∈y.own,s.length<=1048576)(g:Heap):zB prog 3 [d,x,yd] g λr _=>r=.bool true:=by
 refine xP λQ Z=> ?_;have hT:∀h,Q (.bool true) h:=λh=>Z _ _ rfl;have v:=ZT;have z:=DL i S U hl A I q V;have M:Ez fs->RIn c fs y d x yd/\CIn c fs y d x yd:=λk=>by
  have o:∀f∈fs,f.Ok:=λf hf=>(A f hf).ok (k.2 f hf);have ag:=k.1;exact⟨⟨i,S,U,k.1,o,k.2,I,q⟩,⟨i,S,U,hl,by omega,o,I,q⟩⟩
 obtain⟨ca,cb,ce,cp,rfl,_,_,_,_⟩:=i;obtain⟨ta,oa,rfl,_,_⟩:=I;clear Z;refine z5 ok3 ?_;simp only[f3,zA]
 repeat' first|simp only[go_sem, *]|apply bc<;>intro i|(refine zB.mono (v _) ?_;rintro r h ⟨rfl,e⟩)
 refine(z _).mono ?_;rintro r h ⟨e,b,rfl,k⟩;subst e;clear v z;cases b with
 |false=>
  clear k M
  repeat' first|simp only[go_sem, *]|apply bc<;>intro i
 |true=>
 obtain⟨J,K⟩:=M (k rfl);clear k M;have h1:=zK7 K;have X:=zK8 J;have h3:=zLA K;have Y:=zLE J;obtain⟨m,l0,a,L,W,w,ha,O⟩:=zK9 c fs y;rw[w]at h3 Y;have C:=λ{l m} =>zLC (c:=c) (fs:=fs) (y:=y) (l:=l) (m:=m);generalize zK4 c fs y=E at *
 clear J K w
 repeat' first|simp only[go_sem, *]|apply bc<;>intro i
 refine(h1 _).mono ?_;rintro r h ⟨e,l1,rfl,q1,q2⟩;subst e
 repeat' first|simp only[go_sem, *]|apply bc<;>intro i
 refine(X _).mono ?_;rintro r h ⟨e,l2,rfl,q3,q4⟩;subst e;obtain⟨ws,e1,e2,e3,e4⟩:=C q1 q2 q3 q4;have B:=zLD e1 e2 e3 e4;clear h1 X q1 q2 q3 q4 C
 rename Heap=>g
 obtain⟨n1,P⟩:∃n,g.next=n:=⟨_,rfl⟩;obtain⟨z1,z2,z3⟩:=yR ha;have p:([.int .i64 m,a]:List D).all D.flat=true:=by
  show(true&&(a.flat&&true))=true;rw[z3];rfl
 have F:qP prog 42 (.ptr g.next 0) (.agg [.int .i64 m,a]) (g.new g.next (.row [.int .i64 0,.nilsl]))=some (g.new g.next (.row [.int .i64 m,a])):=qk tY ow rfl rfl p;obtain⟨j,t,r1,n2⟩:∃G:Heap,g.new g.next (.row [.int .i64 m,a])=G/\G.at' g.next=some (.row [.int .i64 m,a])/\g.next<G.next:=⟨_,rfl,yQ _ _ _,by rw[yA];omega⟩;rw[t]at F;have H:qP prog 42 (.ptr j.next 0) (.agg [.int .i64 m,a]) (j.new j.next (.row [.int .i64 0,.nilsl]))=some (j.new j.next (.row [.int .i64 m,a])):=qk tY ow rfl rfl p
 obtain⟨G2,u,r2,r3⟩:∃G:Heap,j.new j.next (.row [.int .i64 m,a])=G/\G.at' g.next=some (.row [.int .i64 m,a])/\G.at' j.next=some (.row [.int .i64 m,a]):=⟨_,rfl,by rw[zz ow];exact r1,yQ _ _ _⟩;rw[u]at H;have ab:=zLF m a;have T:=zLB ha O (ye.mk (xs:=[[.int .i64 m,a]]) .full) (ye.mk (xs:=[[.int .i64 m,a]]) .full);obtain⟨n3,R⟩:∃n,j.next=n:=⟨_,rfl⟩;rw[R]at H r3;rw[P]at F r2;clear t u r1 n2 p;have ak:(W==W)=true:=wM W;have ad:(E==E)=true:=wM E;have ai:zGW L L=true:=by cases L<;>rfl
 repeat' first|simp only[go_sem, *]|apply bc<;>intro i|(refine zB.mono (h3 _) ?_;rintro r h ⟨e,rfl⟩)
 refine(Y _).mono ?_;rintro r h5 ⟨e,rfl⟩;subst e
 repeat' first|simp only[go_sem, *]|apply bc<;>intro i
 refine(B _).mono ?_;rintro r h6 ⟨e,b,rfl,hb⟩;have N:b=true:=hb.2 rfl;subst N;subst e;clear hb B
 repeat' first|simp only[go_sem, *]|apply bc<;>intro i|(refine zB.mono (T _) ?_;rintro r h ⟨e,rfl⟩)
end Go.V
