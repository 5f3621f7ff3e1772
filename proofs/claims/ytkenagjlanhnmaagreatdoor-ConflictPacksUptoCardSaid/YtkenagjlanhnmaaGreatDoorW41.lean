/- Contracts of functions that the law reaches, part 3. No condition. -/
import Derived.Test.YtkenagjlanhnmaaGreatDoorW40
import Derived.Test.YtkenagjlanhnmaaGreatDoorW26
set_option linter.all false
set_option maxHeartbeats 8000000
namespace Go.V
open Go.Proofs.Tryz
open Go.Proofs
set_option maxRecDepth 100000
def K0:∀(n:Nat){e:Ex},e.size<=n->e.Ok->e.size<=1048576->∀g:Heap,zE prog 70 [.agg e.cells] g λr h'=>h'=g/\r=.int .i64 (e.size:Int):=by
 intro n
 induction n with
 |zero=>intro e h;cases e;simp only[Ex.size]at h;omega
 |succ n y=>
 intro e H f o g;obtain⟨k,z,x,l,d⟩:=e;simp only[Ex.size,Ex.Ok]at H f o;obtain⟨u,L,_,_,j⟩:=f;have v:=p5 u;have E:(Ex.mk k z x l d).size=qd l+1:=by simp only[Ex.size]
 rw[E];refine zo zQN ?_;simp only[f70,zA];simp only[Ex.cells,Ex.kind,Ex.name,Ex.exc,Ex.d]
 repeat' first|simp only[go_sem, *]|apply bc<;>intro F
 refine zZ (λi fr h=>fr 1=.iptr [.int .i64 k,.str z,.str x,d] 0/\fr 4=.int .i64 (i:Int)/\fr 3=.int .i64 ((qd (l.take i)+1:Nat):Int)/\h=g) l.length ow ?_ ?_ ?_
 .have J:qd (l.take 0)+1=1:=by simp[qd]
  simp only[go_sem,zQ,zT,zG,J];rfl
 .rintro i fr h c B K ⟨C,D,q,rfl⟩
  have A:=kq u c;have m:l[i]∈l:=zI c;have w:=y (e:=l[i]) (by have:=uG m;omega) (p6 j _ m) (by have:=uG m;omega);have p:qd (l.take (i+1))=qd (l.take i)+l[i].size:=by rw[zM c,dw]
  have G:qd (l.take (i+1))<=qd l:=by
   have:=yk (i+1) l;have key:∀a b:List Ex,qd a<=qd (a++b):=λa b=>by
    induction a with
    |nil=>simp[qd]
    |cons x a y=>simp only[zq,qd];omega
   have s:=key (l.take (i+1)) (l.drop (i+1));rw[this]at s;exact s
  have t:IntKind.i64.wrap (((qd (l.take i)+1:Nat):Int)+(l[i].size:Int))=((qd (l.take (i+1))+1:Nat):Int):=by rw[p,qJ ow ow];omega
  simp only[Ex.cells]at A w
  repeat' first|simp only[go_sem, *]|apply bc<;>intro F|(refine zE.mono (w _) ?_;rintro r h ⟨I,rfl⟩)
 .rintro fr h B ⟨C,D,q,rfl⟩
  rw[zt]at q;exact au
variable{c:Cat}{d x:D}{fs gs:List Fac}{i sz n k j:Nat}{tk:Tk}{K:D->Heap->Prop}{xs:List (List D)}{ts:List Trm}{e:Ex}{b:Bool}{p:Part}{α β:Type}{I:List Nat}
def NI(l:uL c d)(H:c.Sm)(C:yg 12 (nu fs) x)(N:fs.length<=1048576)(s:∀f∈fs,f.Ok0)(g:Heap):zE prog 28 [d,x] g λr h'=>h'=g/\∃b,r=.bool b/\(b=true->Dm fs/\c.ls.length<=40):=by
 refine xP λQ E=> ?_;have hf:Q (.bool false) g:=E _ _ ⟨rfl,_,rfl,λq=>by cases q⟩;have k:Dm fs/\c.ls.length<=40->∀b,Q (.bool b) g:=λR b=>E _ _ ⟨rfl,b,rfl,λ_=>R⟩;have O:=pp C;have B:=If l H C N s;have p:=H.cs;obtain⟨ca,cb,ce,cp,rfl,_,_,F,_⟩:=l;have L:=gA;have T:=ju F;have U:=p.1;have S:=isI;refine zo zP7 ?_;simp only[f28,zA]
 repeat' first|simp only[go_sem, *]|apply bc<;>intro l
 refine(B _).mono ?_;rintro r h ⟨j,b,rfl,M⟩;subst j;cases b with
 |false=>
  repeat' first|simp only[go_sem, *]|apply bc<;>intro l
 |true=>
 have v:=M rfl;have k:=k v;have v:=v.1
 repeat' first|simp only[go_sem, *]|apply bc<;>intro l
 refine zZ (λi fr h'=>fr 1=x/\fr 2=.iptr [ca,cb,ce,cp] 0/\fr 7=.int .i64 (i:Int)/\IsI (fr 5)/\IsI (fr 6)/\h'=h) c.cs.length ow ?_ ?_ ?_
 .simp only[go_sem,zQ,zT,zG,isI]
 .rintro i fr h a z I ⟨m,A,J,⟨t,n⟩,⟨u,o⟩,j⟩
  subst j;have w:=gy F a;have o1:=wU (p.2 _ (zI a)).1;generalize c.cs[i]=y at *
  simp only[Cla.cells]at w;exact au
 rintro fr h z ⟨m,A,J,⟨t,n⟩,⟨u,o⟩,j⟩;subst j
 repeat' first|simp only[go_sem, *]|apply bc<;>intro l
 refine zZ (λi fr h'=>fr 1=x/\fr 8=.int .i64 (i:Int)/\IsI (fr 5)/\IsI (fr 6)/\h'=h) fs.length ow ?_ ?_ ?_
 .simp only[go_sem,zQ,zT,zG,isI,m,n,o]
 .clear m A n o t u
  rintro i fr h a z I ⟨m,K,⟨t,n⟩,⟨u,o⟩,j⟩;subst j;have w:=tZ C a;have G:=zI a;have D:=K0 _ (zD _) (s _ G).e (by have:=v.2 _ G;omega);generalize fs[i]=f at *
  simp only[Fac.cells]at w;simp only[Ex.cells]at D
  repeat' first|simp only[go_sem, *]|apply bc<;>intro l|(refine zE.mono (D _) ?_;rintro r h ⟨P,rfl⟩)
 .clear m A n o t u
  rintro fr h z ⟨m,K,⟨t,n⟩,⟨u,o⟩,j⟩;subst j;exact au
def QB(x y:Trm)(g:Heap):zE prog 395 [.agg x.cells,.agg y.cells] g λr h'=>h'=g/\∃b,r=.bool b:=by
 refine xP λQ c=> ?_;have a:∀b,Q (.bool b) g:=λb=>c _ _ ⟨rfl,b,rfl⟩;refine zo zM1 ?_;simp only[f395,zA];simp only[Trm.cells];exact au
def DC(x:Trm)(nid:Nat)(h:Heap):yA prog false nid 194 1 [(0,.agg [.str x.a,.str x.b])] h=some (.sl 2 [[.str x.a,.str x.b]] .full,h):=qD X1 sj ui rfl rfl ow ow rfl rfl
def WN{l:List Trm}(a:yg 2 (wp l) d)(h:Heap):o5 prog 194 d h=some (.int .i64 l.length):=by rw[wL a underlying194,wk]
def U9{l:List Trm}(a:yg 2 (wp l) d)(b:i<l.length):yj prog 194 d (.int .i64 (i:Int))=some (.iptr l[i].cells 0):=yW a X1 ui (XQ b)
def OwT(G h:Heap)(d:D)(m:Nat):Prop:=∃ts,Own G h 2 (wp ts) d/\ts.length<=m
def Uo(l:List Trm):∀x∈wp l,wl x:=λx a=>by
 obtain⟨y,_,rfl⟩:=zN.1 a;exact⟨rfl,by simp[Trm.cells,qM,below],by simp[Trm.cells,qW,qC]⟩
def OwT.app{G h:Heap}{m:Nat}{x:Trm}{w:HidR K}(i:OwT G h d m)(k:m<=1048576)(g:∀c h',OwT G h' c (m+1)->K c h'):Hs (qg prog false h.next 194 d (.sl 2 [[.str x.a,.str x.b]] tk) h) K w:=by
 obtain⟨f,h1,j⟩:=i;refine h1.appH (ys:=wp [x]) X1 XV ui ow (pv _) (by simp[wp]) (by rw[wk,kx];unfold lim;simp[wp];omega) (by rw[wk];unfold lim;simp[wp];omega) λc h' e=> ?_;refine g c h' ⟨f++ [x],?_,jO⟩
 have:wp (f++ [x])=wp f++wp [x]:=by simp[wp]
 rw[this];exact e
def OwT.fin{G h:Heap}{m:Nat}(g:OwT G h d m):Ext G h/\below G.next (qC d)/\∃a,Fin 2 (wp a) (qC d)/\a.length<=m:=by
 obtain⟨a,h1,f⟩:=g;obtain⟨b,c,e⟩:=h1.fin (Uo _);exact⟨b,c,a,e,f⟩
def zEF{l:List Trm}(C:yg 2 (wp l) d)(X:l.length<=65536)(t:Trm)(g:Heap):zE prog 393 [d,.agg t.cells] g λr h'=>h'=g/\∃p,Fin 2 (wp p) r/\p.length<=l.length+1:=by
 refine xU kr λS=>xS ?_;refine xP λQ P=> ?_;have E:=WN C;have s:=QB;have F:=DC;have f:∀d h,OwT g h d (l.length+1)->Q d h:=λd h j=>by
  obtain⟨J,K,p,v,L⟩:=j.fin;exact P _ _ ⟨J,K,p,v,L⟩
 have R:=Pe;simp only[Trm.cells]at s⊢;refine zo zMz ?_;simp only[f393,zA];simp only[go_sem, *];refine zZ (λi fr h=>fr 0=d/\fr 3=.iptr [.str t.a,.str t.b] 0/\fr 7=.int .i64 (i:Int)/\∃b:Bool,fr 6=.bool b/\OwT g h (fr 5) (i+b.toNat)) l.length ow ?_ ?_ ?_
 .have A:OwT g g .nilsl (0+false.toNat):=⟨[],Own.start (Ext.refl g) 2,jS⟩
  simp only[go_sem,zQ,zT,zG];exact⟨false,rfl,A⟩
 .rintro i fr h y H W ⟨I,v,N,b,M,j⟩
  obtain⟨o,w⟩:∃o,fr 5=o:=⟨_,rfl⟩;rw[w]at j;have G:=U9 C y;generalize l[i]=x at *
  simp only[Trm.cells]at G;simp only[go_sem, *];refine yp Heap.emp (pwf [4,0,1,2,3,5] []) kr kr (λi Y e=>by cases e) ?_;cases b with
  |true=>
   simp only[Bool.toNat_true]at j;cases B:(x.a==t.a&&x.b==t.b)with
   |_=>
    simp only[go_sem, *];refine yF kr ?_;simp only[go_sem, *];refine j.app ow λu h' c=> ?_;simp only[go_sem, *];exact⟨true,rfl,by simpa using c⟩
  |false=>
   simp only[Bool.toNat_false,wZ]at j;have k:∀{h d},OwT g h d (i+1)->∃b:Bool,(D.bool true)=.bool b/\OwT g h d (i+1+b.toNat):=λ⟨p,U,Z⟩=>⟨true,rfl,p,U,jO⟩;have m:∀{h d},OwT g h d (i+1+1)->∃b:Bool,(D.bool true)=.bool b/\OwT g h d (i+1+b.toNat):=λq=>⟨true,rfl,q⟩;have n:∀{h d},OwT g h d (i+1)->∃b:Bool,(D.bool false)=.bool b/\OwT g h d (i+1+b.toNat):=λq=>⟨false,rfl,q⟩;cases B:(x.a==t.a&&x.b==t.b)with
   |true=>
    simp only[go_sem, *];refine yF kr ?_;simp only[go_sem, *];refine j.app ow λu h' c=> ?_;have k:=k c;simp only[go_sem, *]
   |false=>
    simp only[go_sem, *];refine yF kr ?_;simp only[go_sem, *];refine(s _ _ _).mono ?_;rintro r O ⟨T,b,rfl⟩;subst T;cases b with
    |true=>
     simp only[go_sem, *];refine j.app ow λu h' c=> ?_;simp only[go_sem, *];refine c.app ow λV O z=> ?_;have m:=m z;simp only[go_sem, *]
    |false=>
     simp only[go_sem, *];refine j.app ow λu h' c=> ?_;have n:=n c;exact au
 .rintro fr h H ⟨I,v,N,b,M,j⟩
  obtain⟨o,w⟩:∃o,fr 5=o:=⟨_,rfl⟩;rw[w]at j;cases b with
  |true=>
   have f:=f _ _ j;simp only[go_sem, *]
  |false=>
   simp only[Bool.toNat_false,wZ]at j;simp only[go_sem, *];refine j.app ow λu h' c=> ?_;have f:=f _ _ c;exact au
def IW{a b:List Trm}{d e:D}(E:yg 2 (wp a) d)(F:yg 2 (wp b) e)(N:a.length+b.length<=65536)(g:Heap):zE prog 358 [d,e] g λr h'=>h'=g/\∃c,Fin 2 (wp c) r/\c.length<=a.length+b.length:=by
 refine xP λQ K=> ?_;have L:=ua E;have M:=ua F;have k:=λ(c:List Trm) (d:D) h1 A t h=>zEF (l:=c) (d:=d) h1 A t h;simp only[Trm.cells]at k;refine zo zMr ?_;simp only[f358,zA];simp only[go_sem, *];refine zZ (λi fr h=>fr 0=d/\fr 1=e/\fr 6=.int .i64 (i:Int)/\h=g/\∃c,Fin 2 (wp c) (fr 5)/\c.length<=i) a.length ow ?_ ?_ ?_
 .have s:∃c,Fin 2 (wp c) .nilsl/\c.length<=0:=⟨[],.inl ⟨rfl,rfl⟩,jS⟩
  simp only[go_sem,zQ,zT,zG];exact s
 .rintro i fr h p z G ⟨H,v,I,j,c,f,w⟩
  subst j;obtain⟨o,m⟩:∃o,fr 5=o:=⟨_,rfl⟩;rw[m]at f;have y:=og E p;have B:=k c o f.isSl ow a[i] h;generalize a[i]=x at *
  simp only[Trm.cells]at y;simp only[go_sem, *];refine B.mono ?_;rintro r A ⟨j,u,q,C⟩;subst j;have n:∃c,Fin 2 (wp c) r/\c.length<=i+1:=⟨u,q,ow⟩;exact au
 rintro fr h z ⟨H,v,I,j,c,f,w⟩;subst j;obtain⟨o,m⟩:∃o,fr 5=o:=⟨_,rfl⟩;rw[m]at f;have s:∃c,Fin 2 (wp c) o/\c.length<=a.length+0:=⟨c,f,ow⟩;simp only[go_sem, *];refine zZ (λi fr h'=>fr 1=e/\fr 7=.int .i64 (i:Int)/\h'=h/\∃c,Fin 2 (wp c) (fr 5)/\c.length<=a.length+i) b.length ow ?_ ?_ ?_
 .clear k
  simp only[go_sem,zQ,zT,zG,v,m];exact s
 .rintro i fr h p z G ⟨v,J,j,c,f,w⟩
  subst j;obtain⟨o,m⟩:∃o,fr 5=o:=⟨_,rfl⟩;rw[m]at f;have y:=og F p;have B:=k c o f.isSl ow b[i] h;generalize b[i]=x at *
  simp only[Trm.cells]at y;simp only[go_sem, *];refine B.mono ?_;rintro r A ⟨j,u,q,C⟩;subst j;have n:∃c,Fin 2 (wp c) r/\c.length<=a.length+(i+1):=⟨u,q,ow⟩;exact au
 .rintro fr h z ⟨v,J,j,c,f,w⟩
  subst j;obtain⟨o,m⟩:∃o,fr 5=o:=⟨_,rfl⟩;rw[m]at f;have n:=K o h ⟨rfl,c,f,w⟩;exact au
def zEG{l:List Trm}(j:yg 2 (wp l) d)(z:l.length<=1048576)(t:Trm)(g:Heap):zE prog 394 [d,.agg t.cells] g λr h'=>h'=g/\∃b,r=.bool b:=by
 refine xP λQ u=> ?_;have m:=WN j;have k:∀b,Q (.bool b) g:=λb=>u _ _ ⟨rfl,b,rfl⟩;have w:=Pe;simp only[Trm.cells];refine zo zM0 ?_;simp only[f394,zA]
 repeat' first|simp only[go_sem, *]|apply bc<;>intro v
 refine zZ (λi fr h=>fr 0=d/\fr 3=.iptr [.str t.a,.str t.b] 0/\fr 5=.int .i64 (i:Int)/\h=g) l.length ow ?_ ?_ ?_
 .simp only[go_sem,zQ,zT,zG]
 .rintro i fr h c o y ⟨p,q,s,f⟩
  subst f;have n:=U9 j c;generalize l[i]=x at *
  simp only[Trm.cells]at n
  repeat' first|simp only[go_sem, *]|apply bc<;>intro v
  refine yp Heap.emp (pwf [4,0,1,2,3,5] []) kr kr (λi A e=>by cases e) ?_;exact au
 .rintro fr h o ⟨p,q,s,f⟩
  subst f;exact au
def NF{a b:List Trm}{d e:D}(y:yg 2 (wp a) d)(k:yg 2 (wp b) e)(f:a.length<=1048576)(z:b.length<=1048576)(g:Heap):zE prog 359 [d,e] g λr h'=>h'=g/\∃b,r=.bool b:=by
 refine xP λQ u=> ?_;have n:=ua k;have l:∀b,Q (.bool b) g:=λb=>u _ _ ⟨rfl,b,rfl⟩;have m:=zEG y f;simp only[Trm.cells]at m;refine zo zMs ?_;simp only[f359,zA]
 repeat' first|simp only[go_sem, *]|apply bc<;>intro v
 refine zZ (λi fr h=>fr 0=d/\fr 1=e/\fr 5=.int .i64 (i:Int)/\h=g) b.length ow ?_ ?_ ?_
 .simp only[go_sem,zQ,zT,zG]
 .rintro i fr h j p A ⟨q,s,t,c⟩
  subst c;have o:=og k j;generalize b[i]=x at *
  simp only[Trm.cells]at o
  repeat' first|simp only[go_sem, *]|apply bc<;>intro v|(refine zE.mono (m _ _) ?_;rintro r h ⟨c,w,rfl⟩)
 .rintro fr h p ⟨q,s,t,c⟩
  subst c;exact au
def Kz{a b:List Trm}{d e:D}(o:yg 2 (wp a) d)(p:yg 2 (wp b) e)(F:a.length<=1048576)(G:b.length<=1048576)(g:Heap):zE prog 360 [d,e] g λr h'=>h'=g/\∃n,r=.int .i64 n:=by
 refine xP λQ C=> ?_;have s:=ua o;have k:=ua p;have q:∀b,Q (.int .i64 b) g:=λb=>C _ _ ⟨rfl,b,rfl⟩;have c:=QB;simp only[Trm.cells]at c;refine zo zMt ?_;simp only[f360,zA];cases H:((a.length:Int)==(b.length:Int))with
 |false=>
  repeat' first|simp only[go_sem, *]|apply bc<;>intro j
 |true=>
 have E:a.length<=b.length:=by have:=qj.1 H;omega
 repeat' first|simp only[go_sem, *]|apply bc<;>intro j
 refine zZ (λi fr h=>fr 0=d/\fr 1=e/\fr 5=.int .i64 (i:Int)/\h=g) a.length ow ?_ ?_ ?_
 .simp only[go_sem,zQ,zT,zG]
 .rintro i fr h l v I ⟨z,A,B,f⟩
  subst f;have t:=og o l;have u:=og p (show i<b.length by omega);generalize a[i]=x at *
  generalize b[i]=y at *
  simp only[Trm.cells]at t u
  repeat' first|simp only[go_sem, *]|apply bc<;>intro j
  refine yF kr ?_
  repeat' first|simp only[go_sem, *]|apply bc<;>intro j|(refine zE.mono (c _ _ _) ?_;rintro r h ⟨m,w,rfl⟩)
  refine yF kr ?_
  repeat' first|simp only[go_sem, *]|apply bc<;>intro j|(refine zE.mono (c _ _ _) ?_;rintro r h ⟨m,w,rfl⟩)
 .rintro fr h v ⟨z,A,B,f⟩
  subst f;exact au
structure AltB(m:Nat)(a:Alt):Prop where
 sl:yg 2 (wp a.ts) a.d
 len:a.ts.length<=m
 pl:wl [a.d]
def AltB.io{m:Nat}{a:Alt}(h:AltB m a):yg 2 (wp a.ts) a.d/\a.ts.length<=m:=⟨h.sl,h.len⟩
def AltB.mono{m n:Nat}{a:Alt}(h:AltB m a)(b:m<=n):AltB n a:=⟨h.sl,zY h.len b,h.pl⟩
def jG(h:Fin sz xs d)(b:∀x∈xs,wl x):wl [d]:=by
 rcases h with⟨rfl,_⟩ |rfl
 .exact⟨rfl,by simp[qM,below],rfl⟩
 .have a:=yh (sz:=sz) b .no
  exact⟨rfl,by simp only[qM,zT];exact a.2,by simp only[qW,a.1]⟩
def AltB.of{m:Nat}(h:Fin 2 (wp ts) d)(a:ts.length<=m):AltB m ⟨ts,d⟩:=⟨h.isSl,a,jG h (Uo _)⟩
def Ts{m:Nat}{a:Alt}(b:AltB m a)(nid:Nat)(h:Heap):yA prog false nid 44 1 [(0,a.d)] h=some (.sl 1 [[a.d]] .full,h):=by
 obtain⟨k1,k2,k3⟩:=zp b.sl;exact bM a.d nid h k1 k2 k3
theorem Zd{m:Nat}{l:List Alt}(hd:yg 1 (qe l) d)(hl:l.length<=65536)(hm:m<=65536)(I:∀a∈l,yg 2 (wp a.ts) a.d/\a.ts.length<=m)(g:Heap):zE prog 279 [d] g λr h'=>h'=g/\∃l',Fin 1 (qe l') r/\l'.length<=l.length/\∀a∈l',AltB m a:=by
 refine xU kr λcm=>xS (zE.freezeOr ?_);have v:=tA hd;refine xP λQ T=> ?_;refine zo zMM ?_;simp only[f279,zA]
 repeat' first|simp only[go_sem, *]|apply bc<;>intro B
 refine zZ (λi fr h=>fr 0=d/\fr 4=.int .i64 (i:Int)/\∃all,Own g h 1 (qe all) (fr 3)/\all.length=i/\∀a∈all,AltB m a) l.length ow ?_ ?_ ?_
 .have u:∃all,Own g g 1 (qe all) .nilsl/\all.length=0/\∀a∈all,AltB m a:=⟨[],Own.start (Ext.refl g) 1,rfl,λa h=>by cases h⟩
  clear T v;simp only[go_sem,zQ,zT,zG];exact u
 .rintro i fr h F ec ew ⟨f0,f4,all,q,E,f⟩
  obtain⟨o,C⟩:∃o,fr 3=o:=⟨_,rfl⟩;rw[C]at q;have a1:=oc hd F;have ag:=I _ (zI F);have cx:=ag.2;have hj:=IW (b:=[]) (e:=.nilsl) ag.1 (.inl ⟨rfl,rfl⟩) jO;generalize l[i]=a at *
  obtain⟨k1,k2,k3⟩:=zp ag.1;clear T I hd
  repeat' first|simp only[go_sem, *]|apply bc<;>intro B
  refine(hj _).mono ?_;rintro r h2 ⟨K,ts,b0,cc⟩;subst K;have a5:=AltB.of (m:=m) b0 (by simp at cc;omega);have bk:=Ts a5;obtain⟨q1,q2,q3⟩:=zp b0.isSl;clear hj
  repeat' first|simp only[go_sem, *]|apply bc<;>intro B
  refine q.appH (ys:=qe [⟨ts,r⟩]) uS pw uZ ow (sv _) (by simp[qe]) (by rw[qB,tS];unfold lim;simp[qe];omega) (by rw[qB];unfold lim;simp[qe];omega) λd' h' ba=> ?_;have cl:∃al,Own g h' 1 (qe al) d'/\al.length=i+1/\∀a∈al,AltB m a:=⟨all++ [⟨ts,r⟩],by
   have:qe (all++ [⟨ts,r⟩])=qe all++qe [⟨ts,r⟩]:=by simp[qe]
   rw[this];exact ba,by simp[E],λx hx=>by
   rcases yv.1 hx with h1|h1
   .exact f x h1
   .cases zi.1 h1;exact a5⟩
  clear q ba f;exact au
 rintro fr G ec ⟨f0,f4,all,q,E,f⟩;obtain⟨o,C⟩:∃o,fr 3=o:=⟨_,rfl⟩;rw[C]at q;have hE:=q.1;have ad:=q.isSl;have ca:=tA ad;have ck:all.length<=l.length:=ow;clear q E
 repeat' first|simp only[go_sem, *]|apply bc<;>intro B
 refine zZ (λi fr h=>fr 3=o/\fr 6=.int .i64 (i:Int)/\∃out,YK G h 1 (qe out) (fr 5)/\out.length<=i/\∀a∈out,AltB m a) all.length ow ?_ ?_ ?_
 .have u:∃out,YK G G 1 (qe out) .nilsl/\out.length<=0/\∀a∈out,AltB m a:=⟨[],YK.start (Ext.refl G) 1,jS,λa h=>by cases h⟩
  clear T v;simp only[go_sem,zQ,zT,zG,C];exact u
 .clear C f0 f4 ec fr
  rintro i fr h F ec ew ⟨C,X,out,q,N,p⟩;obtain⟨od,S⟩:∃o,fr 5=o:=⟨_,rfl⟩;rw[S]at q;obtain⟨z1,z2,z3⟩:=q.flat;have a1:=oc ad F;have z:=f _ (zI F);have b6:=z.len;have b9:=ua z.sl;have hB:=zBg;clear T v hd I;obtain⟨L,a6⟩:∃a,all[i]=a:=⟨_,rfl⟩;rw[a6]at a1 z b6 b9
  repeat' first|simp only[go_sem, *]|apply bc<;>intro B
  refine zZ (λk fr h'=>fr 3=o/\fr 6=.int .i64 (i:Int)/\fr 8=.int .i64 (k:Int)/\Ju (fr 7)/\fr 5=od/\h'=h) all.length ow ?_ ?_ ?_
  .simp only[go_sem,zQ,zT,zG,zBg,C,X,S]
  .clear C X S fr
   rintro k fr h W b1 cu ⟨C,X,f8,⟨b7,f7⟩,S,K⟩;subst K;have a2:=oc ad W;have Y:=f _ (zI W);have cv:=Y.len;have cw:=ua Y.sl;have b3:=NF z.sl Y.sl ow ow;generalize all[k]=ak at *
   clear f p q N
   repeat' first|simp only[go_sem, *]|apply bc<;>intro B
   refine yF kr ?_
   repeat' first|simp only[go_sem, *]|apply bc<;>intro B|(refine zE.mono (b3 _) ?_;rintro r h ⟨K,w,rfl⟩)
  rintro fr h2 b1 ⟨C,X,f8,⟨b7,f7⟩,S,K⟩;subst K;cases b7 with
  |false=>
   have u:∃out,YK G h2 1 (qe out) od/\out.length<=i+1/\∀a∈out,AltB m a:=⟨out,q,ow,p⟩;clear f p q N
   repeat' first|simp only[go_sem, *]|apply bc<;>intro B
  |true=>
  have bk:=Ts z h2.next h2;obtain⟨q1,q2,q3⟩:=zp z.sl;obtain⟨d',H,M,bb,cf⟩:=q.app (P:=prog) (ys:=qe [L]) (tk:=.full) uS pw uZ ow (λcs=>Wu underlying195) (sv _) (sv _) (by simp[qe]) (by rw[qB,tS];unfold lim;simp[qe];omega) (by rw[qB];unfold lim;simp[qe];omega);have E:qe [L]= [[L.d]]:=rfl;have U:qe out++qe [L]=qe (out++ [L]):=by simp[qe]
  rw[U]at bb;rw[E]at M cf;have s:∀a∈out++ [L],AltB m a:=λx hx=>by
   rcases yv.1 hx with h1|h1
   .exact p x h1
   .cases zi.1 h1;exact z
  have cp:(out++ [L]).length<=i+1:=jO;have bo:0<(out++ [L]).length:=jS;generalize out++ [L]=c at *
  obtain⟨b2,Z⟩:=bb;rcases Z with⟨_,e⟩ | ⟨id,rfl,y,hid,V,_⟩
  .exact absurd bo (by rw[show c.length=(qe c).length from(qB _).symm,e];simp)
  rw[qB]at M;have a0:IntKind.i64.wrap ((c.length:Int)-1)=((c.length-1:Nat):Int):=by rw[qJ ow ow];omega
  have cb:=λh=>oC (P:=prog) (t:=44) (sz:=1) (id:=id) (off:=0) (len:=c.length) (h:=h) underlying44;clear f p q N U
  repeat' first|simp only[go_sem, *]|apply bc<;>intro B
  refine ql (λj fr h=>fr 3=o/\fr 6=.int .i64 (i:Int)/\fr 9=.int .i64 ((c.length-1-j:Nat):Int)/\fr 5=.rs id 1 0 c.length/\∃xs,xs.length=c.length/\h=H.set id (.row (qe xs).flatten)/\∀a∈xs,AltB m a) (c.length-1) ?_ ?_
  .have u:∃xs:List Alt,xs.length=c.length/\H=H.set id (.row (qe xs).flatten)/\∀a∈xs,AltB m a:=⟨c,rfl,(uU y).symm,s⟩
   clear s a0 cb;simp only[go_sem,zQ,zT,zG,C,X];exact⟨by rw[tO],u⟩
  rintro j fr h hj ⟨C,X,f9,S,xs,a3,rfl,D⟩;have J:(H.set id (.row (qe xs).flatten)).at' id=some (.row (qe xs).flatten):=zU _ _ _;have aj:∃out,YK G (H.set id (.row (qe xs).flatten)) 1 (qe out) (.rs id 1 0 c.length)/\out.length<=i+1/\∀a∈out,AltB m a:=⟨xs,⟨b2.set hid _,.inr ⟨id,by rw[qB,a3],J,hid,by rw[yc];exact V,λe=>by
   have:(qe xs).length=0:=by rw[e];rfl
   rw[qB]at this;omega⟩⟩,ow,D⟩
  obtain⟨k,hk⟩:∃k,c.length-1-j=k:=⟨_,rfl⟩;rw[hk]at f9;cases k with
  |zero=>
   have h0:decide (((0:Nat):Int)>0)=false:=rfl;clear s D a0 y M
   repeat' first|simp only[go_sem, *]|apply bc<;>intro B
   refine yF kr ?_
   repeat' first|simp only[go_sem, *]|apply bc<;>intro B
  |succ k=>
   have h0:decide (((k+1:Nat):Int)>0)=true:=zR ow;have c3:IntKind.i64.wrap (((k+1:Nat):Int)-1)=(k:Int):=by rw[qJ ow ow];omega
   have a9:k+1<xs.length:=ow;have c1:(qe xs).flatten[k+1]? =some xs[k+1].d:=by rw[oY];simp[a9]
   have c2:(qe xs).flatten[k]? =some xs[k].d:=by rw[oY];simp[show k<xs.length by omega]
   have O:=D _ (zI a9);have R:=D _ (zI (show k<xs.length by omega));have i1:yj prog 44 (.rs id 1 0 c.length) (.int .i64 ((k+1:Nat):Int))=some (.ptr id (k+1)):=by
    have:=qG (P:=prog) (sz:=1) (id:=id) uS uZ (k:=.i64) (show k+1<c.length by omega)
    rwa [wF]at this
   have i2:yj prog 44 (.rs id 1 0 c.length) (.int .i64 (k:Int))=some (.ptr id k):=by
    have:=qG (P:=prog) (sz:=1) (id:=id) uS uZ (k:=.i64) (show k<c.length by omega)
    rwa [wF]at this
   have a7:=Kz O.sl R.sl (by have:=O.len;omega) (by have:=R.len;omega);have b4:(qe xs).flatten=xs.map Alt.d:=oY xs;have bx:((qe xs).flatten.set (k+1) xs[k].d).set k xs[k+1].d=(qe ((xs.set (k+1) xs[k]).set k xs[k+1])).flatten:=by rw[oY,oY,tN,tN]
   have bs:∀a∈(xs.set (k+1) xs[k]).set k xs[k+1],AltB m a:=λa ha=>by
    rcases sO ha with h1|rfl
    .rcases sO h1 with h2|rfl
     .exact D a h2
     .exact R
    .exact O
   have A:∀hh,hh=H.set id (.row (((qe xs).flatten.set (k+1) xs[k].d).set k xs[k+1].d))->(j<c.length-1/\∃ys:List Alt,ys.length=c.length/\hh=H.set id (.row (qe ys).flatten)/\∀a∈ys,AltB m a):=λhh e=>⟨ow,_,by rw[uQ,uQ];exact a3,by rw[e,bx],bs⟩;have b8:c.length-1- (j+1)=k:=ow;obtain⟨u1,u2,u3⟩:=zp O.sl;obtain⟨v1,v2,v3⟩:=zp R.sl;have a8:(qe xs).flatten.length=c.length:=by rw[oY,zH,a3]
   have cg:yR prog 195 (.ptr id (k+1)) xs[k].d (H.set id (.row (qe xs).flatten))=some (H.set id (.row ((qe xs).flatten.set (k+1) xs[k].d))):=by
    rw[yM J uZ ow v1 v3,nU]
   have ch:yR prog 195 (.ptr id k) xs[k+1].d (H.set id (.row ((qe xs).flatten.set (k+1) xs[k].d)))=some (H.set id (.row (((qe xs).flatten.set (k+1) xs[k].d).set k xs[k+1].d))):=by
    rw[yM (zU _ _ _) uZ (by rw[uQ];omega) u1 u3,nU]
   generalize xs[k+1]=x1 at *
   generalize xs[k]=x2 at *
   clear s D a0 y M bx bs b4 a8;generalize(qe xs).flatten=row at *
   repeat' first|simp only[go_sem, *]|apply bc<;>intro B
   refine yF kr ?_
   repeat' first|simp only[go_sem, *]|apply bc<;>intro B
   refine(a7 _).mono ?_;rintro r h3 ⟨K,n,rfl⟩;subst K;cases hn:decide (n<0)with
   |false=>
    clear A cg ch b8
    repeat' first|simp only[go_sem, *]|apply bc<;>intro B
   |true=>
    clear aj a7
    repeat' first|simp only[go_sem, *]|apply bc<;>intro B
    have A:=A _ rfl;refine yF kr ?_;exact au
 .rintro fr h ec ⟨C,X,out,q,N,p⟩
  obtain⟨od,S⟩:∃o,fr 5=o:=⟨_,rfl⟩;rw[S]at q;obtain⟨a4,Z⟩:=q;rcases Z with⟨rfl,e⟩ | ⟨id,rfl,y,hid,V,c0⟩
  .have K:=T .nilsl h (.inl ⟨hE.trans a4,by simp[qC,below],[],.inl ⟨rfl,rfl⟩,jS,λa h=>by cases h⟩)
   clear T v hd I f p;exact au
  .have b5:frz id (qe out).flatten (.rs id 1 0 (qe out).length)=.sl 1 (qe out) .no:=X8 (rest:=[]) (sv _) rfl jS
   have u:=yh (sz:=1) (xs:=qe out) (λx hx=>by
    obtain⟨a,ha,rfl⟩:=zN.1 hx;exact(p a ha).pl) .no
   have K:=T (.rs id 1 0 (qe out).length) h (.inr ⟨id,_,y,by
    rw[b5,u.1];exact⟨(hE.trans a4).del (by have:=hE.1;omega),yw (yD _) _ u.2,out,.inr rfl,ow,p⟩⟩)
   clear T v hd I f p;exact au
def QF{m:Nat}{a b:List Alt}{d e:D}(A:yg 1 (qe a) d)(B:yg 1 (qe b) e)(H:a.length+b.length<=65536)(E:m<=65536)(o:∀x∈a,yg 2 (wp x.ts) x.d/\x.ts.length<=m)(z:∀x∈b,yg 2 (wp x.ts) x.d/\x.ts.length<=m)(g:Heap):zE prog 280 [d,e] g λr h'=>h'=g/\∃k,Fin 1 (qe k) r/\k.length<=a.length+b.length/\∀x∈k,AltB m x:=by
 refine xU kr λt=> ?_;refine xP λQ y=> ?_;have c:∀h l d,Own g h 1 (qe l) d->l.length=a.length+b.length->(∀x∈l,yg 2 (wp x.ts) x.d/\x.ts.length<=m)->zE prog 279 [d] h λr h'=>Q r h':=λh l d s C j=>(Zd (m:=m) s.isSl ow E j h).mono λr h' ⟨F,k,u,J,v⟩=>by
  subst F;refine y _ _ ⟨s.1,?_,k,u,ow,v⟩;have:=jG u (λx j=>by
   obtain⟨a,o,rfl⟩:=zN.1 j;exact(v a o).pl)
  have n:=this.2.1;simp only[qM,zT]at n;exact yw (yD _) _ n
 have h0:=Own.start (Ext.refl g) 1;refine zo zMN ?_;simp only[f280,zA];simp only[go_sem, *];refine h0.appI (ys:=qe a) uS pw uZ ow (sv _) A (by rw[qB,tS];unfold lim;simp;omega) (by rw[qB];unfold lim;simp;omega) λG h1 f=> ?_;rw[yL]at f;simp only[go_sem, *];refine f.appI (ys:=qe b) uS pw uZ ow (sv _) B (by rw[qB,qB,tS];unfold lim;omega) (by rw[qB,qB];unfold lim;omega) λw n i=> ?_;have p:qe a++qe b=qe (a++b):=by simp[qe]
 rw[p]at i;have I:=c n (a++b) w i jS (λx j=>by
  rcases yv.1 j with q|q
  .exact o x q
  .exact z x q)
 exact au
def zAf{m n:Nat}{a b:List Alt}{d e:D}(M:yg 1 (qe a) d)(V:yg 1 (qe b) e)(N:a.length<=64)(O:b.length<=64)(hm:m+n<=65536)(H:∀x∈a,AltB m x)(hb:∀x∈b,AltB n x)(g:Heap):zE prog 281 [d,e] g λr h'=>h'=g/\∃G,Fin 1 (qe G) r/\G.length<=a.length*b.length/\∀x∈G,AltB (m+n) x:=by
 have L:a.length*b.length<=4096:=zY (kG N O) ow;refine xU kr λX=> ?_;refine xP λQ T=> ?_;have p:∀h l d,Own g h 1 (qe l) d->l.length=a.length*b.length->(∀x∈l,AltB (m+n) x)->zE prog 279 [d] h λr h'=>Q r h':=λh l d j ak F=>(Zd (m:=m+n) j.isSl ow hm (λx h=>(F x h).io) h).mono λr h' ⟨q1,G,S,q3,q4⟩=>by
  subst q1;refine T _ _ ⟨j.1,?_,G,S,ow,q4⟩;have:=jG S (λx F=>by
   obtain⟨a,H,rfl⟩:=zN.1 F;exact(q4 a H).pl)
  have K:=this.2.1;simp only[qM,zT]at K;exact yw (yD _) _ K
 have P:=tA M;have R:=tA V;clear T;refine zo zMO ?_;simp only[f281,zA];simp only[go_sem, *];refine zZ (λi fr h=>fr 0=d/\fr 1=e/\fr 6=.int .i64 (i:Int)/\∃all,Own g h 1 (qe all) (fr 5)/\all.length=i*b.length/\∀x∈all,AltB (m+n) x) a.length ow ?_ ?_ ?_
 .have q:∃all,Own g g 1 (qe all) .nilsl/\all.length=0*b.length/\∀x∈all,AltB (m+n) x:=⟨[],Own.start (Ext.refl g) 1,jS,λa h=>by cases h⟩
  clear p;simp only[go_sem,zQ,zT,zG];exact q
 .rintro i fr h w ec ew ⟨y,z,A,all,j,f,c⟩
  obtain⟨o,s⟩:∃o,fr 5=o:=⟨_,rfl⟩;rw[s]at j;have a1:=oc M w;have v:=H _ (zI w);have aj:i*b.length+b.length<=4096:=by rw[<-qp];exact zY (yt _ w) L
  generalize a[i]=ai at *
  obtain⟨k1,k2,k3⟩:=zp v.sl;have U:=v.len;have q:∃all,Own g h 1 (qe all) o/\all.length=i*b.length+0/\∀x∈all,AltB (m+n) x:=⟨all,j,f,c⟩;clear p H M j f c;simp only[go_sem, *];refine zZ (λk fr h=>fr 0=d/\fr 1=e/\fr 6=.int .i64 (i:Int)/\fr 7=.int .i64 (k:Int)/\∃all,Own g h 1 (qe all) (fr 5)/\all.length=i*b.length+k/\∀x∈all,AltB (m+n) x) b.length ow ?_ ?_ ?_
  .simp only[go_sem,zQ,zT,zG,y,z,s,A]
   exact q
  .clear y z s A q fr h
   rintro k fr h u J ad ⟨y,z,A,f7,all,j,f,c⟩;obtain⟨o,s⟩:∃o,fr 5=o:=⟨_,rfl⟩;rw[s]at j;have a2:=oc V u;have B:=hb _ (zI u);have ag:=B.len;have W:=IW v.sl B.sl ow;generalize b[k]=bk at *
   simp only[go_sem, *];refine yF kr ?_;simp only[go_sem, *];refine(W _).mono ?_;rintro r K ⟨Z,I,E,a0⟩;subst Z;have t:=AltB.of (m:=m+n) E ow;have Y:=Ts t;obtain⟨q1,S,q3⟩:=zp E.isSl;clear W;simp only[go_sem, *];refine j.appH (ys:=qe [⟨I,r⟩]) uS pw uZ ow (sv _) (by simp[qe]) (by rw[qB,tS];unfold lim;simp[qe];omega) (by rw[qB];unfold lim;simp[qe];omega) λd' h' C=> ?_;have p:∃al,Own g h' 1 (qe al) d'/\al.length=i*b.length+(k+1)/\∀a∈al,AltB (m+n) a:=⟨all++ [⟨I,r⟩],by
    have:qe (all++ [⟨I,r⟩])=qe all++qe [⟨I,r⟩]:=by simp[qe]
    rw[this];exact C,jO,λx F=>by
    rcases yv.1 F with h1|h1
    .exact c x h1
    .cases zi.1 h1;exact t⟩
   clear j C c f;exact au
  .clear y z s A q fr h
   rintro fr h J ⟨y,z,A,f7,all,j,f,c⟩;obtain⟨o,s⟩:∃o,fr 5=o:=⟨_,rfl⟩;rw[s]at j;have q:∃all,Own g h 1 (qe all) o/\all.length=(i+1)*b.length/\∀x∈all,AltB (m+n) x:=⟨all,j,by rw[qp];exact f,c⟩;clear j f c;exact au
 .rintro fr h ec ⟨y,z,A,all,j,f,c⟩
  obtain⟨o,s⟩:∃o,fr 5=o:=⟨_,rfl⟩;rw[s]at j;have Z:=p h all o j f c;clear p j f c;exact au
def zAk:∀(n:Nat){e:Ex},e.size<=n->e.Ok->e.size<=1048576->∀g:Heap,zE prog 354 [.agg e.cells] g λr h'=>h'=g/\IsI r:=by
 intro n
 induction n with
 |zero=>intro e h;cases e;simp only[Ex.size]at h;omega
 |succ n B=>
 intro e y b m g;obtain⟨k,C,x,l,d⟩:=e;simp only[Ex.size,Ex.Ok]at y b m;obtain⟨o,G,_,_,c⟩:=b;have p:=p5 o;have F:=isI;refine zo zMo ?_;simp only[f354,zA];simp only[Ex.cells,Ex.kind,Ex.name,Ex.exc,Ex.d]
 repeat' first|simp only[go_sem, *]|apply bc<;>intro v
 refine zZ (λi fr h=>fr 1=.iptr [.int .i64 k,.str C,.str x,d] 0/\fr 4=.int .i64 (i:Int)/\IsI (fr 3)/\h=g) l.length ow ?_ ?_ ?_
 .simp only[go_sem,zQ,zT,zG,isI]
 .rintro i fr h a q E ⟨s,u,⟨z,t⟩,j⟩
  have D:=kq o a;have f:l[i]∈l:=zI a;have j:=B (e:=l[i]) (by have:=uG f;omega) (p6 c _ f) (by have:=uG f;omega)
  repeat' first|simp only[go_sem, *]|apply bc<;>intro v|(refine zE.mono (j _) ?_;rintro r h ⟨A,w,rfl⟩)
 .rintro fr h q ⟨s,u,⟨z,t⟩,j⟩
  exact au
def EG:∀(n:Nat){e:Ex},e.size<=n->e.Ok->e.size<=1048576->∀g:Heap,zE prog 355 [.agg e.cells] g λr h'=>h'=g/\IsI r:=by
 intro n
 induction n with
 |zero=>intro e h;cases e;simp only[Ex.size]at h;omega
 |succ n B=>
 intro e y b o g;obtain⟨k,C,x,l,d⟩:=e;simp only[Ex.size,Ex.Ok]at y b o;obtain⟨p,H,_,_,f⟩:=b;have q:=p5 p;have F:=isI;refine zo zMp ?_;simp only[f355,zA];simp only[Ex.cells,Ex.kind,Ex.name,Ex.exc,Ex.d];simp only[go_sem, *];refine zZ (λi fr h=>fr 1=.iptr [.int .i64 k,.str C,.str x,d] 0/\fr 4=.int .i64 (i:Int)/\IsI (fr 3)/\h=g) l.length ow ?_ ?_ ?_
 .simp only[go_sem,zQ,zT,zG,isI]
 .rintro i fr h a s E ⟨t,v,⟨z,u⟩,m⟩
  have D:=kq p a;have j:l[i]∈l:=zI a;have m:=B (e:=l[i]) (by have:=uG j;omega) (p6 f _ j) (by have:=uG j;omega);simp only[go_sem, *];refine(m _).mono ?_;rintro r h ⟨A,w,rfl⟩;obtain⟨c,G⟩:=zJA z w;exact au
 .rintro fr h s ⟨t,v,⟨z,u⟩,m⟩
  exact au
def EI:∀(n:Nat){e:Ex},e.size<=n->e.Ok->e.size<=1048576->∀{e2:Ex},e2.Ok->∀g:Heap,zE prog 351 [.agg e.cells,.agg e2.cells] g λr h'=>h'=g/\Ju r:=by
 intro n
 induction n with
 |zero=>intro e h;cases e;simp only[Ex.size]at h;omega
 |succ n R=>
 intro e N m y e2 a g;refine xP λQ K=> ?_;have B:∀n,Q (.bool n) g:=λn=>K _ _ ⟨rfl,n,rfl⟩;obtain⟨k,S,x,l,d⟩:=e;obtain⟨k2,z,T,p,F⟩:=e2;simp only[Ex.size,Ex.Ok]at N m y a;obtain⟨A,W,_,_,s⟩:=m;obtain⟨c,M,_,_,f⟩:=a;have C:=p5 A;have t:=p5 c;have V:=zBg;refine zo zMl ?_;simp only[f351,zA];simp only[Ex.cells,Ex.kind,Ex.name,Ex.exc,Ex.d];cases O:((l.length:Int)==(p.length:Int))with
 |false=>
  repeat' first|simp only[go_sem, *]|apply bc<;>intro q
 |true=>
 have L:l.length<=p.length:=by have:=qj.1 O;omega
 repeat' first|simp only[go_sem, *]|apply bc<;>intro q
 refine zZ (λi fr h=>fr 2=.iptr [.int .i64 k,.str S,.str x,d] 0/\fr 3=.iptr [.int .i64 k2,.str z,.str T,F] 0/\fr 5=.int .i64 (i:Int)/\h=g) l.length ow ?_ ?_ ?_
 .simp only[go_sem,zQ,zT,zG]
 .rintro i fr h j G U ⟨H,I,J,b⟩
  subst b;have D:=kq A j;have E:=kq c (show i<p.length by omega);have u:l[i]∈l:=zI j;have v:p[i]'ow∈p:=zI ow;have o:=R (e:=l[i]) (by have:=uG u;omega) (p6 s _ u) (by have:=uG u;omega) (p6 f _ v);simp only[Ex.cells]at D E o
  repeat' first|simp only[go_sem, *]|apply bc<;>intro q
  refine yF kr ?_
  repeat' first|simp only[go_sem, *]|apply bc<;>intro q|(refine zE.mono (o _) ?_;rintro r h ⟨P,w,rfl⟩)
 .rintro fr h G ⟨H,I,J,b⟩
  subst b;exact au
def IY(s:List UInt8)(b:s.length<=1048576)(g:Heap):zE prog 392 [.str s] g λr h'=>h'=g/\Ju r:=by
 refine xP λQ e=> ?_;have a:∀n,Q (.bool n) g:=by grind [Ju]
 have c:=jc s b;refine zo zMy ?_;simp only[f392,zA]
 repeat' first|simp only[go_sem, *]|apply bc<;>intro f|(refine zE.mono (c _) ?_;rintro r h ⟨d,w,rfl⟩)
mutual
def Ex.Kd:Ex->Prop
 |.mk k _ _ l _=>(0<=k/\k<=3)/\kdL l
def kdL:List Ex->Prop
 | []=>True
 |e::l=>e.Kd/\kdL l
end
theorem Nl:∀{l:List Ex},kdL l↔∀e∈l,e.Kd
 | []=>by simp[kdL]
 |x::l=>by simp[kdL,Nl (l:=l)]
def zAh:∀(n:Nat){e:Ex},e.size<=n->e.Ok->e.size<=1048576->∀g:Heap,zE prog 356 [.agg e.cells] g λr h'=>h'=g/\∃n,r=.int .i64 n/\(n=0->e.Kd):=by
 intro n
 induction n with
 |zero=>intro e h;cases e;simp only[Ex.size]at h;omega
 |succ n R=>
 intro e t u D g;refine xP λQ F=> ?_;have a:∀n,(n==0)=false->Q (.int .i64 n) g:=λn t=>F _ _ ⟨rfl,n,rfl,λq=>by simp[q]at t⟩;have E:=a 1 rfl;have T:=a 2 rfl;obtain⟨k,I,x,l,d⟩:=e;simp only[Ex.size,Ex.Ok]at t u D;obtain⟨G,U,y,z,v⟩:=u;have H:=p5 G;have B:=IY I y;have C:=IY x z;cases k1:decide (k<0)with
 |true=>
  refine zo zBz ?_;simp only[f356,zA];simp only[Ex.cells,Ex.kind,Ex.name,Ex.exc,Ex.d]
  repeat' first|simp only[go_sem, *]|apply bc<;>intro o
 |false=>
 cases k2:decide (k>3)with
 |true=>
  refine zo zBz ?_;simp only[f356,zA];simp only[Ex.cells,Ex.kind,Ex.name,Ex.exc,Ex.d]
  repeat' first|simp only[go_sem, *]|apply bc<;>intro o
 |false=>
 have b:(∀e∈l,e.Kd)->Q (.int .i64 0) g:=λO=>F _ _ ⟨rfl,0,rfl,λ_=>by
  rw[Ex.Kd];have:=yJ k1;have:=yJ k2;exact⟨ow,Nl.2 O⟩⟩
 refine zo zBz ?_;simp only[f356,zA];simp only[Ex.cells,Ex.kind,Ex.name,Ex.exc,Ex.d]
 repeat' first|simp only[go_sem, *]|apply bc<;>intro o|(refine zE.mono (B _) ?_;rintro r h ⟨c,w,rfl⟩)|(refine zE.mono (C _) ?_;rintro r h ⟨c,w,rfl⟩)
 all_goals
  refine zZ (λi fr h=>fr 1=.iptr [.int .i64 k,.str I,.str x,d] 0/\fr 3=.int .i64 (i:Int)/\h=g/\∀j (f:j<l.length),j<i->l[j].Kd) l.length ow ?_ ?_ ?_
  .simp only[go_sem,zQ,zT,zG]
   exact λj f h0=>by omega
  .rintro i fr h s K S ⟨E,L,m,f⟩
   subst m;have J:=kq G s;have A:l[i]∈l:=zI s;have m:=R (e:=l[i]) (by have:=uG A;omega) (p6 v _ A) (by have:=uG A;omega);simp only[Ex.cells]at J m
   repeat' first|simp only[go_sem, *]|apply bc<;>intro o
   refine(m _).mono ?_;rintro r h ⟨c,w,rfl,P⟩;subst c;cases w0:(w==0)with
   |false=>
    have hf:=a w w0
    repeat' first|simp only[go_sem, *]|apply bc<;>intro o
   |true=>
    have t:∀j (f:j<l.length),j<i+1->l[j].Kd:=λj h1 M=>by
     rcases zx.1 M with h|rfl
     .exact f j h1 h
     .exact P (by simpa using w0)
    repeat' first|simp only[go_sem, *]|apply bc<;>intro o
    exact t
  .rintro fr h K ⟨E,L,m,f⟩
   subst m;have hf:=b λe N=>by
    obtain⟨j,p,rfl⟩:=zy.1 N;exact f j p p
   exact au
def QE(a:e.Ok)(c:e.size<=1048576)(g:Heap):zE prog 277 [.agg e.cells] g λr h'=>h'=g/\∃n,r=.int .i64 n/\(n=0->e.Kd):=by
 refine xP λQ f=> ?_;have h1:=zAk _ (zD _) a c;have i:=EG _ (zD _) a c;have h3:=zAh _ (zD _) a c;have l:Q (.int .i64 10) g:=f _ _ ⟨rfl,10,rfl,λq=>by cases q⟩;have m:Q (.int .i64 11) g:=f _ _ ⟨rfl,11,rfl,λq=>by cases q⟩;simp only[Ex.cells]at h1 i h3⊢;have d:∀n,(n=0->e.Kd)->Q (.int .i64 n) g:=λn j=>f _ _ ⟨rfl,n,rfl,j⟩;refine zo zMK ?_;simp only[f277,zA]
 repeat' first|simp only[go_sem, *]|apply bc<;>intro o|(refine zE.mono (h1 _) ?_;rintro r h ⟨b,w,rfl⟩)|(refine zE.mono (i _) ?_;rintro r h ⟨b,w,rfl⟩)
 refine(h3 _).mono ?_;rintro r h ⟨b,w,rfl,k⟩;subst b;have hf:=d w k;exact au
def EK(f:uL c d)(z:c.Sm)(t:Trm)(g:Heap):zE prog 316 [d,.agg t.cells] g λr h'=>h'=g/\∃q b,r=.tuple [q,.bool b]:=by
 refine xP λQ y=> ?_;have m:∀q b,Q (.tuple [q,.bool b]) g:=λq b=>y _ _ ⟨rfl,q,b,rfl⟩;obtain⟨a,b,e,p,rfl,C,l,D,E⟩:=f;have n:=dc l;have A:=z.es.1;simp only[Trm.cells];refine zo zMa ?_;simp only[f316,zA];cases h0:(t.b== [])with
 |true=>
  repeat' first|simp only[go_sem, *]|apply bc<;>intro f
 |false=>
 repeat' first|simp only[go_sem, *]|apply bc<;>intro f
 refine zZ (λi fr h=>fr 2=.iptr [a,b,e,p] 0/\fr 3=.iptr [.str t.a,.str t.b] 0/\fr 6=.int .i64 (i:Int)/\h=g) c.es.length ow ?_ ?_ ?_
 .simp only[go_sem,zQ,zT,zG]
 .rintro i fr h j s B ⟨u,v,w,k⟩
  subst k;have o:=bA l j;generalize c.es[i]=x at *
  simp only[Exc.cells]at o
  repeat' first|simp only[go_sem, *]|apply bc<;>intro f
  refine yF kr ?_;exact au
 .rintro fr h s ⟨u,v,w,k⟩
  subst k;exact au
def EJ(f:uL c d)(j:c.Sm)(t:Trm)(g:Heap):zE prog 357 [d,.agg t.cells] g λr h'=>h'=g/\Ju r:=by
 refine xP λQ m=> ?_;have l:∀b,Q (.bool b) g:=λb=>m _ _ ⟨rfl,b,rfl⟩;have h1:=mW f j;have k:=fF f j t.a;have h3:=EK f j t;obtain⟨a,b,e,p,rfl,s,u,v,x⟩:=f;simp only[Trm.cells]at h3⊢;generalize Y7 _ _=z at k;refine zo zMq ?_;simp only[f357,zA]
 repeat' first|simp only[go_sem, *]|apply bc<;>intro f
 refine(h1 _).mono ?_;rintro r h ⟨o,n,rfl,_⟩;subst o
 repeat' first|simp only[go_sem, *]|apply bc<;>intro f|(refine zE.mono (k _) ?_;rintro r h ⟨i,rfl⟩)|(refine zE.mono (h3 _) ?_;rintro r h ⟨i,q,w,rfl⟩)
def IX{v:D}(f:uL c v)(L:c.Sm):∀(n:Nat){e:Ex},e.size<=n->e.Ok->e.size<=1048576->∀g:Heap,zE prog 278 [v,.agg e.cells] g λr h'=>h'=g/\Ju r:=by
 intro n
 induction n with
 |zero=>intro e h;cases e;simp only[Ex.size]at h;omega
 |succ n N=>
 intro e K p u g;refine xP λQ H=> ?_;have z:∀n,Q (.bool n) g:=λn=>H _ _ ⟨rfl,n,rfl⟩;have m:=λa b=>EJ f L ⟨a,b⟩;obtain⟨ca,cb,ce,cp,rfl,_,_,_,_⟩:=f;obtain⟨k,O,x,l,d⟩:=e;simp only[Ex.size,Ex.Ok]at K p u;obtain⟨y,R,I,J,q⟩:=p;have A:=p5 y;have M:∀a b:List UInt8,qX prog 197 [(0,.str a),(1,.str b)]=some (.agg [.str a,.str b]):=λa b=>by simp[qX,nQ,sj,uc,wg,D.notTuple,D.cells]
 simp only[Trm.cells]at m;refine zo zML ?_;simp only[f278,zA];simp only[Ex.cells,Ex.kind,Ex.name,Ex.exc,Ex.d];cases h0:decide (k<2)with
 |true=>
  repeat' first|simp only[go_sem, *]|apply bc<;>intro f|(refine zE.mono (m _ _ _) ?_;rintro r h ⟨t,w,rfl⟩)
 |false=>
 repeat' first|simp only[go_sem, *]|apply bc<;>intro f
 refine zZ (λi fr h=>fr 2=.iptr [ca,cb,ce,cp] 0/\fr 3=.iptr [.int .i64 k,.str O,.str x,d] 0/\fr 5=.int .i64 (i:Int)/\h=g) l.length ow ?_ ?_ ?_
 .simp only[go_sem,zQ,zT,zG]
 .rintro i fr h o C P ⟨E,F,G,j⟩
  subst j;have B:=kq y o;have s:l[i]∈l:=zI o;have j:=N (e:=l[i]) (by have:=uG s;omega) (p6 q _ s) (by have:=uG s;omega);simp only[Ex.cells]at B j
  repeat' first|simp only[go_sem, *]|apply bc<;>intro f
  refine yF kr ?_
  repeat' first|simp only[go_sem, *]|apply bc<;>intro f|(refine zE.mono (j _) ?_;rintro r h ⟨t,w,rfl⟩)
 .rintro fr h C ⟨E,F,G,j⟩
  subst j;exact au
def QD{i:D}(a:uL c i)(k:c.Sm)(d:e.Ok)(f:e.size<=1048576)(g:Heap):zE prog 224 [i,.agg e.cells] g λr h'=>h'=g/\∃n,r=.int .i64 n/\(n=0->e.Kd):=by
 refine xP λQ u=> ?_;have s:Q (.int .i64 1) g:=by grind
 have t:Q (.int .i64 7) g:=by grind
 have h1:=mW a k;have l:=QE d f;have h3:=IX a k _ (zD _) d f;obtain⟨ca,cb,ce,cp,rfl,_,_,_,_⟩:=a;have b:∀n,(n=0->e.Kd)->Q (.int .i64 n) g:=by grind
 refine zo zL5 ?_;simp only[f224,zA]
 repeat' first|simp only[go_sem, *]|apply bc<;>intro a
 refine(h1 _).mono ?_;rintro r h ⟨p,n,rfl,_⟩;cases v:(n==0)with
 |false=>
  repeat' first|simp only[go_sem, *]|apply bc<;>intro a
 |true=>
 repeat' first|simp only[go_sem, *]|apply bc<;>intro a
 refine(l _).mono ?_;rintro r h ⟨p,m,rfl,j⟩;have hf:=b m j;cases m0:(m==0)with
 |false=>
  repeat' first|simp only[go_sem, *]|apply bc<;>intro a
 |true=>
 have o:=b 0 λ_=>j (by simpa using m0)
 repeat' first|simp only[go_sem, *]|apply bc<;>intro a|(refine zE.mono (h3 _) ?_;rintro r h ⟨q,w,rfl⟩)
def zJR(k:Int)(i n:Nat):Prop:=n<=64*i/\(k=2->n<=64)
def Rk(m:Nat)(r:D):Prop:=∃q b,r=.tuple [q,.bool b]/\∃l,Fin 1 (qe l) q/\(b=true->l.length<=64)/\∀a∈l,AltB m a
def XZ{m:Nat}{l:List Alt}(h:∀a∈l,AltB m a):∀x∈qe l,wl x:=λx c=>by
 obtain⟨a,b,rfl⟩:=zN.1 c;exact(h a b).pl
def Rk.pl{m:Nat}{r:D}(h:Rk m r)(n:Nat):qC r=r/\below n r:=by
 obtain⟨q,b,rfl,l,hf,_,c⟩:=h;obtain⟨h1,a,h3⟩:=jG hf (XZ c);simp only[qM,zT]at a;simp only[qW,sd,zT]at h3;exact⟨by simp[qC,qW,h3],by simp only[below,qM,zT];exact yw (yD _) _ a⟩
def Rk.none(m:Nat):Rk m (.tuple [.nilsl,.bool false]):=⟨.nilsl,false,rfl,[],.inl ⟨rfl,rfl⟩,(λq=>by cases q),(λa h=>by cases h)⟩
def DB(s x:List UInt8)(nid:Nat)(h:Heap):yA prog false nid 195 1 [(0,.agg [.str s,.str x])] h=some (.sl 2 [[.str s,.str x]] .full,h):=qD uD sj ui rfl rfl ow ow rfl rfl
def DO{l:List Ex}(a:i<l.length):qd (l.take (i+1))=qd (l.take i)+l[i].size:=by rw[zM a,dw]
def RD(l:List Ex)(i:Nat):qd (l.take i)<=qd l:=by
 have a:=af (l.take i) (l.drop i);rw[yk]at a;omega
theorem zAi{D0:D}(hc:uL c D0)(hs:c.Sm)(ai:c.ls.length<=40):∀(n:Nat){e:Ex},e.size<=n->e.Ok->e.Kd->e.size<=120->∀g:Heap,zE prog 225 [D0,.agg e.cells] g λr h'=>h'=g/\Rk e.size r:=by
 intro n
 induction n with
 |zero=>intro e h;cases e;simp only[Ex.size]at h;omega
 |succ n ih=>
 intro e hn Y T a8 g;refine xU kr λbo=>xS ?_;refine xP λQ hQ=> ?_;have a3:=Vy hc hs ai;obtain⟨ca,cb,ce,cp,rfl,_,_,_,_⟩:=hc;obtain⟨k,nm,x,l,d⟩:=e;have hR:(Ex.mk k nm x l d).size=qd l+1:=by simp only[Ex.size]
 rw[hR]at hQ hn a8;simp only[Ex.Ok,Ex.Kd]at Y T;obtain⟨hd,hl,_,_,a2⟩:=Y;obtain⟨⟨b0,b1⟩,a0⟩:=T;have I:∀r h,Ext g h->Rk (qd l+1) r->Q r h:=λr h N hr=>hQ _ _ ⟨N,by rw[(hr.pl 0).1];exact(hr.pl _).2,by rw[(hr.pl 0).1];exact hr⟩;have C:=λh N=>I _ h N (Rk.none _);have bk:=p5 hd;have b8:∀a b:List UInt8,qX prog 197 [(0,.str a),(1,.str b)]=some (.agg [.str a,.str b]):=λa b=>by simp[qX,nQ,sj,uc,wg,D.notTuple,D.cells]
 have bs:∀a:List UInt8,qX prog 197 [(0,.str a)]=some (.agg [.str a,.str []]):=λa=>by simp[qX,nQ,sj,uc,wg,D.notTuple,D.cells]
 have b5:=DB;have b6:=λs x nid h=>bM (.sl 2 [[.str s,.str x]] .full) nid h rfl rfl rfl;cases k0:(k==0)with
 |true=>
  have f:Q (.tuple [.sl 1 [[.sl 2 [[.str nm,.str x]] .full]] .full,.bool true]) g:=hQ _ _ ⟨Ext.refl g,by simp[qC,qW,oJ,below,qM,nC],by
   refine⟨.sl 1 (qe [mkA [⟨nm,x⟩]]) .no,true,by simp[qC,qW,oJ,qe,mkA,wp,Trm.cells],_,.inr rfl,λ_=>by simp,λa ha=> ?_⟩;cases zi.1 ha;exact⟨.inr ⟨_,rfl⟩,by simp[mkA],aU _⟩⟩
  refine zo zBy ?_;simp only[f225,zA];simp only[Ex.cells,Ex.kind,Ex.name,Ex.exc,Ex.d];simp only[go_sem, *]
 |false=>
 cases k1:(k==1)with
 |true=>
  refine zo zBy ?_;simp only[f225,zA];simp only[Ex.cells,Ex.kind,Ex.name,Ex.exc,Ex.d];simp only[go_sem, *];refine(a3 _ _).mono ?_;rintro r h ⟨f,ps,q,m,rfl,ad,b7⟩;subst f;have b4:=wU ad;simp only[go_sem, *];refine zZ (λi fr h'=>fr 7=q/\fr 9=.int .i64 (i:Int)/\∃all,Own h h' 1 (qe all) (fr 6)/\all.length=i/\∀a∈all,yg 2 (wp a.ts) a.d/\a.ts.length<=qd l+1) ps.length ow ?_ ?_ ?_
  .have u:∃all,Own h h 1 (qe all) .nilsl/\all.length=0/\∀a∈all,yg 2 (wp a.ts) a.d/\a.ts.length<=qd l+1:=⟨[],Own.start (Ext.refl h) 1,rfl,λa h=>by cases h⟩
   simp only[go_sem,zQ,zT,zG];exact u
  .rintro i fr h2 B ec ew ⟨f7,f9,all,p,J,A⟩
   obtain⟨o,H⟩:∃o,fr 6=o:=⟨_,rfl⟩;rw[H]at p;have a1:=sw ad B;generalize ps[i]=s at *
   simp only[go_sem, *];refine p.appH (ys:=qe [⟨[⟨s,[]⟩],.sl 2 [[.str s,.str []]] .full⟩]) uS pw uZ ow (sv _) (by simp[qe]) (by rw[qB,tS];unfold lim;simp[qe];omega) (by rw[qB];unfold lim;simp[qe];omega) λd' h' a7=> ?_;have bb:∃al,Own h h' 1 (qe al) d'/\al.length=i+1/\∀a∈al,yg 2 (wp a.ts) a.d/\a.ts.length<=qd l+1:=⟨all++ [⟨[⟨s,[]⟩],.sl 2 [[.str s,.str []]] .full⟩],by
    have:∀z:Alt,qe (all++ [z])=qe all++qe [z]:=λz=>by simp[qe]
    rw[this];exact a7,by simp[J],λx hx=>by
    rcases yv.1 hx with h1|h1
    .exact A x h1
    .cases zi.1 h1;exact⟨.inr ⟨_,rfl⟩,jS⟩⟩
   exact au
  .rintro fr h2 ec ⟨f7,f9,all,p,J,A⟩
   obtain⟨o,H⟩:∃o,fr 6=o:=⟨_,rfl⟩;rw[H]at p;have a6:=Zd (m:=qd l+1) p.isSl ow ow A;have W:=tA p.isSl;rw[J]at W;have N:=p.1;have ba:all.length<=ps.length:=ow;simp only[go_sem, *];refine(a6 _).mono ?_;rintro r h3 ⟨f,l',hf,b2,aj⟩;subst f;have f:=I (.tuple [r,.bool (decide ((ps.length:Int)<=64))]) h3 N ⟨r,_,rfl,l',hf,λq=>by have:=yB q;omega,aj⟩;simp only[go_sem, *]
 |false=>
 have hk:k=2\/k=3:=by
  have h0:k≠0:=by simpa using k0
  have h1:k≠1:=by simpa using k1
  omega
 have b3:l.length<=120:=by
  have:∀l:List Ex,l.length<=qd l:=λl=>by
   induction l with
   |nil=>simp
   |cons e l ih=>simp only[qd,zu];cases e;simp only[Ex.size];omega
  have:=this l;omega
 have U:∀i (hi:i<l.length) g,zE prog 225 [.agg [ca,cb,ce,cp],.agg l[i].cells] g λr h'=>h'=g/\Rk l[i].size r:=λi hi=>by
  have hm:=zI hi;have:=uG hm;exact ih ow (p6 a2 _ hm) (Nl.1 a0 _ hm) ow
 refine zo zBy ?_;simp only[f225,zA];simp only[Ex.cells,Ex.kind,Ex.name,Ex.exc,Ex.d];simp only[go_sem, *];refine zZ (λi fr h=>fr 2=.iptr [ca,cb,ce,cp] 0/\fr 3=.iptr [.int .i64 k,.str nm,.str x,d] 0/\fr 10=.int .i64 (i:Int)/\h=g/\∃out,Fin 1 (qe out) (fr 6)/\zJR k i out.length/\∀a∈out,AltB (qd (l.take i)) a) l.length ow ?_ ?_ ?_
 .have u:∃out,Fin 1 (qe out) .nilsl/\zJR k 0 out.length/\∀a∈out,AltB (qd (l.take 0)) a:=⟨[],.inl ⟨rfl,rfl⟩,⟨jS,λ_=>by simp⟩,λa h=>by cases h⟩
  simp only[go_sem,zQ,zT,zG];exact u
 .rintro i fr h B ec ew ⟨f2,f3,ag,f,out,p,F,j⟩
  subst f;obtain⟨o,H⟩:∃o,fr 6=o:=⟨_,rfl⟩;rw[H]at p;have a1:=kq hd B;have S:=U i B;have a9:=DO B;have a4:=RD l (i+1);have C:=C h (Ext.refl h);generalize l[i]=y at *
  simp only[Ex.cells]at a1 S;rw[a9]at a4⊢;simp only[go_sem, *];refine yF kr ?_;simp only[go_sem, *];refine(S _).mono ?_;rintro r h2 ⟨f,q,b,rfl,l2,L,M,O⟩;subst f;cases b with
  |false=>
   simp only[go_sem, *]
  |true=>
  have M:=M rfl;have E:∀a∈out,AltB (qd (l.take i)+y.size) a:=λa h=>(j a h).mono ow;have G:∀a∈l2,AltB (qd (l.take i)+y.size) a:=λa h=>(O a h).mono ow;rcases hk with rfl|rfl
  .have X:out.length<=64:=F.2 rfl
   have P:∀r v,Fin 1 (qe v) r->(∀a∈v,AltB (qd (l.take i)+y.size) a)->v.length<=64->∃out,Fin 1 (qe out) r/\zJR 2 (i+1) out.length/\∀a∈out,AltB (qd (l.take i)+y.size) a:=λr v q1 q2 q3=>⟨v,q1,⟨ow,λ_=>q3⟩,q2⟩;cases i0:((i:Int)==0)with
   |true=>
    have bx:i<=0:=by have:=qj.1 i0;omega
    have Z:=F.1;have K:=QF (m:=qd (l.take i)+y.size) p.isSl L.isSl ow ow (λa h=>(E a h).io) (λa h=>(G a h).io);simp only[go_sem, *];refine(K _).mono ?_;rintro r h3 ⟨f,v,t,V,w⟩;subst f;have u:=P r v t w ow;have a5:=tA t.isSl;have R:decide ((v.length:Int)>64)=false:=zO ow;simp only[go_sem, *]
   |false=>
    have ak:=zAf (m:=qd (l.take i)) (n:=y.size) p.isSl L.isSl X M ow j O;simp only[go_sem, *];refine(ak _).mono ?_;rintro r h3 ⟨f,v,t,V,w⟩;subst f;have a5:=tA t.isSl;cases R:decide ((v.length:Int)>64)with
    |true=>
     simp only[go_sem, *]
    |false=>
     have u:=P r v t w (by have:=yJ R;omega);exact au
  .have Z:=F.1
   have K:=QF (m:=qd (l.take i)+y.size) p.isSl L.isSl ow ow (λa h=>(E a h).io) (λa h=>(G a h).io);simp only[go_sem, *];refine(K _).mono ?_;rintro r h3 ⟨f,v,t,V,w⟩;subst f;have u:∃out,Fin 1 (qe out) r/\zJR 3 (i+1) out.length/\∀a∈out,AltB (qd (l.take i)+y.size) a:=⟨v,t,⟨ow,λq=>by cases q⟩,w⟩;exact au
 .rintro fr h ec ⟨f2,f3,ag,f,out,p,F,j⟩
  subst f;obtain⟨o,H⟩:∃o,fr 6=o:=⟨_,rfl⟩;rw[H]at p;have W:=tA p.isSl;rw[zt]at j;have f:=I (.tuple [o,.bool (decide ((out.length:Int)<=64))]) h (Ext.refl h) ⟨o,_,rfl,out,p,λq=>by have:=yB q;omega,λa h=>(j a h).mono ow⟩;exact au
def OfR(r:D):Prop:=∃q n,r=.tuple [q,.int .i64 n]/\∃l m,Fin 1 (qe l) q/\l.length<=64/\∀a∈l,AltB m a
def zK4{o:D}(k:uL c o)(t:c.Sm)(j:c.ls.length<=40)(i:e.Ok)(m:e.size<=120)(g:Heap):zE prog 183 [o,.agg e.cells] g λr h'=>h'=g/\OfR r:=by
 refine xP λQ p=> ?_;have h1:=QD k t i ow;have d:=λv=>zAi k t j _ (zD _) i v m;obtain⟨ca,cb,ce,cp,rfl,_,_,_,_⟩:=k;have s:∀n,Q (.tuple [.nilsl,.int .i64 n]) g:=λn=>p _ _ ⟨rfl,.nilsl,n,rfl,[],0,.inl ⟨rfl,rfl⟩,jS,λa h=>by cases h⟩;have f:∀q l,Fin 1 (qe l) q->l.length<=64->(∀a∈l,AltB e.size a)->Q (.tuple [q,.int .i64 0]) g:=λq l h1 d h3=>p _ _ ⟨rfl,q,0,rfl,l,_,h1,d,h3⟩;refine zo zL0 ?_;simp only[f183,zA];simp only[go_sem, *];refine(h1 _).mono ?_;rintro r h ⟨y,n,rfl,x⟩;cases z:(n==0)with
 |false=>
  simp only[go_sem, *]
 |true=>
 have d:=d (x (by simpa using z));simp only[go_sem, *];refine(d _).mono ?_;rintro r h ⟨y,q,b,rfl,l,hf,w,u⟩;cases b with
 |false=>
  simp only[go_sem, *]
 |true=>
  have hf:=f q l hf (w rfl) u;exact au
def OwS(s:List UInt8)(G h:Heap)(d:D)(m:Nat):Prop:=∃ps,Own G h 1 (wh ps) d/\ps.length<=m/\∀p∈ps,p.length<=s.length
def OwS.app{s x:List UInt8}{G h:Heap}{m:Nat}{w:HidR K}(f:OwS s G h d m)(k:m<=2097152)(i:x.length<=s.length)(e:∀a h',OwS s G h' a (m+1)->K a h'):Hs (qg prog false h.next 45 d (.sl 1 [[.str x]] tk) h) K w:=by
 obtain⟨c,h1,j,h3⟩:=f;refine h1.appH (ys:=wh [x]) uI ZR p9 ow (by simp[wh]) (by simp[wh]) (by rw[qv,oo];unfold lim;simp[wh];omega) (by rw[qv];unfold lim;simp[wh];omega) λa h' b=> ?_;refine e a h' ⟨c++ [x],?_,jO,λp g=> ?_⟩
 .have:wh (c++ [x])=wh c++wh [x]:=by simp[wh]
  rw[this];exact b
 .rcases yv.1 g with q|q
  .exact h3 p q
  .cases zi.1 q;exact i
def EN(s:List UInt8)(V:s.length<=1048576)(b:Int)(g:Heap):zE prog 352 [.str s,.int .u8 b] g λr h'=>h'=g/\∃v,Fin 1 (wh v) r/\v.length<=s.length+1/\∀p∈v,p.length<=s.length:=by
 refine xU kr λC=>xS ?_;refine xP λQ E=> ?_;have F:∀h,o5 prog 9 (.str s) h=some (.int .i64 s.length):=λh=>sL underlying9;have a:∀d h,OwS s g h d (s.length+1)->Q d h:=λd h ⟨v,h1,A,h3⟩=>by
  obtain⟨y,K,L⟩:=h1.fin uh;exact E _ _ ⟨y,K,v,L,A,h3⟩
 have G:=fS;have l:∀(u w:Nat),u<=w->w<=s.length->∀h,∃x,ww prog 9 (.str s) (some (.int .i64 (u:Int))) (some (.int .i64 (w:Int))) none h=some (.str x)/\x.length<=s.length:=λu w h1 A h=>⟨_,I5 h1 A h,jO⟩;have c:∀(u:Nat),u<=s.length->∀h,∃x,ww prog 9 (.str s) (some (.int .i64 (u:Int))) none none h=some (.str x)/\x.length<=s.length:=λu h1 h=>⟨_,An h1 h,jS⟩;clear E C;refine zo zMm ?_;simp only[f352,zA];simp only[go_sem, *];refine zZ (λi fr h=>fr 0=.str s/\fr 1=.int .u8 b/\fr 7=.int .i64 (i:Int)/\∃st:Nat,fr 6=.int .i64 (st:Int)/\st<=i/\OwS s g h (fr 5) i) s.length ow ?_ ?_ ?_
 .have f:OwS s g g .nilsl 0:=⟨[],Own.start (Ext.refl g) 1,jS,λp h=>by cases h⟩
  clear a l c;simp only[go_sem,zQ,zT,zG];exact⟨0,rfl,ow,f⟩
 .rintro i fr h B I T ⟨J,y,N,st,M,f,k⟩
  obtain⟨o,z⟩:∃o,fr 5=o:=⟨_,rfl⟩;rw[z]at k;have S:mG prog 9 (.str s) (.int .i64 (i:Int))=some (.int .u8 s[i].toNat):=rP underlying9 (zB B);obtain⟨x,O,t⟩:=l st i f ow h;have m:∀{o:D}{h:Heap},OwS s g h o i->∃j:Nat,D.int .i64 (st:Int)=.int .i64 (j:Int)/\j<=i+1/\OwS s g h o (i+1):=λ⟨v,P,W,R⟩=>⟨st,rfl,ow,v,P,ow,R⟩;have n:∀{o:D}{h:Heap},OwS s g h o (i+1)->∃j:Nat,D.int .i64 ((i+1:Nat):Int)=.int .i64 (j:Int)/\j<=i+1/\OwS s g h o (i+1):=λq=>⟨i+1,rfl,ow,q⟩;clear a l c;cases U:((s[i].toNat:Int)==b)with
  |true=>
   clear m;simp only[go_sem, *];refine k.app ow t λH h' e=> ?_;have n:=n e;clear k e;simp only[go_sem, *]
  |false=>
   have m:=m k;clear n k;exact au
 .rintro fr h I ⟨J,y,N,st,M,f,k⟩
  obtain⟨o,z⟩:∃o,fr 5=o:=⟨_,rfl⟩;rw[z]at k;obtain⟨x,O,t⟩:=c st f h;clear l c;simp only[go_sem, *];refine k.app ow t λH h' e=> ?_;have a:=a _ _ e;clear k e;exact au
def zAj(s:List UInt8)(t:s.length<=1048576)(g:Heap):zE prog 353 [.str s] g λr h'=>h'=g/\Ju r:=by
 refine xP λQ k=> ?_;have c:∀b,Q (.bool b) g:=λb=>k _ _ ⟨rfl,b,rfl⟩;have d:∀h,o5 prog 9 (.str s) h=some (.int .i64 s.length):=λh=>sL underlying9;refine zo zMn ?_;simp only[f353,zA];cases h0:decide ((s.length:Int)<1)with
 |true=>
  repeat' first|simp only[go_sem, *]|apply bc<;>intro l
 |false=>
  have j:=yJ h0;have m:0<s.length:=ow;have o:mG prog 9 (.str s) (.int .i64 0)=some (.int .u8 s[0].toNat):=rP (n:=0) underlying9 (zB m);generalize s[0]=z at *
  repeat' first|simp only[go_sem, *]|apply bc<;>intro l
  refine zZ (λi fr h=>fr 0=.str s/\fr 3=.int .i64 (i:Int)/\h=g) s.length ow ?_ ?_ ?_
  .simp only[go_sem,zQ,zT,zG]
  .rintro i fr h a e1 q ⟨e,f,rfl⟩
   have p:mG prog 9 (.str s) (.int .i64 (i:Int))=some (.int .u8 s[i].toNat):=rP underlying9 (zB a);generalize s[i]=y at *
   exact au
  .rintro fr h e1 ⟨e,f,rfl⟩
   exact au
def IZ(s:List UInt8)(u:s.length<=1048576)(g:Heap):zE prog 276 [.str s] g λr h'=>h'=g/\IsI r:=by
 refine xP λQ t=> ?_;have p:∀b,Q (.int .i64 b) g:=λb=>t _ _ ⟨rfl,b,rfl⟩;have q:∀h,o5 prog 9 (.str s) h=some (.int .i64 s.length):=λh=>sL underlying9;have n:=EN s u 47;refine zo zMJ ?_;simp only[f276,zA]
 repeat' first|simp only[go_sem, *]|apply bc<;>intro o
 refine(n _).mono ?_;rintro r h ⟨d,e,hf,x,l⟩;subst d;have c:=hf.isSl;have v:=wU c
 repeat' first|simp only[go_sem, *]|apply bc<;>intro o
 refine zZ (λi fr h'=>fr 14=r/\fr 15=.int .i64 (e.length:Int)/\fr 16=.int .i64 (i:Int)/\h'=h) e.length ow ?_ ?_ ?_
 .simp only[go_sem,zQ,zT,zG]
 .rintro i fr h a e1 B ⟨f,j,k,d⟩
  subst d;have A:=sw c a;have m:=zAj e[i] (by have:=l _ (zI a);omega);generalize e[i]=y at *
  repeat' first|simp only[go_sem, *]|apply bc<;>intro o|(refine zE.mono (m _) ?_;rintro r h ⟨z,w,rfl⟩)
 .rintro fr h e1 ⟨f,j,k,d⟩
  subst d;exact au
def zGd(k:Int):k=0\/k=1\/k=2\/k=3\/k=4\/((k==0)=false/\(k==1)=false/\(k==2)=false/\(k==3)=false/\(k==4)=false):=by
 by_cases h0:k=0
 .exact .inl h0
 by_cases h1:k=1
 .exact .inr (.inl h1)
 by_cases a:k=2
 .exact .inr (.inr (.inl a))
 by_cases h3:k=3
 .exact .inr (.inr (.inr (.inl h3)))
 by_cases b:k=4
 .exact .inr (.inr (.inr (.inr (.inl b))))
 exact .inr (.inr (.inr (.inr (.inr ⟨by simpa using h0,by simpa using h1,by simpa using a,by simpa using h3,by simpa using b⟩))))
def zIz:qX prog 55 []=some (.agg zEx):=by simp[qX,JS,KX,uc,D.notTuple,D.cells]
def EL{f:Fac}(a:f.Ok)(g:Heap):zE prog 275 [.agg f.cells] g λr h'=>h'=g/\Ju r:=by
 refine xP λQ l=> ?_;have i:∀b,Q (.bool b) g:=λb=>l _ _ ⟨rfl,b,rfl⟩;have heq:=EI _ (zD _) a.e a.es (e2:=.mk 0 [] [] [] .nilsl) (by simp[Ex.Ok,okL,exs,yg.nil]);have o:=zIz;have c:=wU a.list;have j:=gA;obtain⟨k,q,z,A,B,s,p,e,y,d⟩:=f;simp only[Fac.cells,Ex.cells,Ex.kind,Ex.name,Ex.exc,Ex.d]at heq c⊢;generalize e.kind=u at *
 generalize e.name=v at *
 generalize e.exc=x at *
 generalize e.d=t at *
 rcases zGd k with rfl|rfl|rfl|rfl|rfl| ⟨k0,k1,k2,k3,k4⟩
 all_goals
  refine zo zMI ?_;simp only[f275,zA]
  repeat' first|simp only[go_sem, *]|apply bc<;>intro m
  refine yF kr ?_
  repeat' first|simp only[go_sem, *]|apply bc<;>intro m|(refine zE.mono (heq _) ?_;rintro r h ⟨n,w,rfl⟩)
def zAg{Y:D}(o:uL c Y)(hs:c.Sm){f:Fac}(j:f.Ok)(g:Heap):zE prog 223 [Y,.agg f.cells] g λr h'=>h'=g/\IsI r:=by
 refine xU kr λad=> ?_;refine xP λQ Z=> ?_;have a:∀b h,Ext g h->Q (.int .i64 b) h:=λb h z=>Z _ _ ⟨z,by simp[below],b,rfl⟩;have B:∀b,Q (.int .i64 b) g:=λb=>a b g (Ext.refl g);have v:=EL j;have t:=IZ f.comp j.comp;have u:=IZ f.out j.out;have p:=QD o hs j.e j.es;have l:=Vx o hs;have bk:=wU j.list;have m:=λi (hi:i<f.list.length)=>sw j.list hi;have bb:=j.ll;have ak:=gA;have aj:=bd;obtain⟨ca,cb,ce,cp,rfl,_,_,_,_⟩:=o;clear Z;obtain⟨k,cm,ot,rl,wy,du,cg,e,I,d⟩:=f;simp only[Fac.cells,Ex.cells,Ex.kind,Ex.name,Ex.exc,Ex.d]at *
 clear j;generalize e.kind=ek at *
 generalize e.name=en at *
 generalize e.exc=ex at *
 generalize e.d=ed at *
 cases k1:decide (k<0)with
 |true=>
  clear v t u p l a;refine zo zBx ?_;simp only[f223,zA]
  repeat' first|simp only[go_sem, *]|apply bc<;>intro o
 |false=>
 cases k2:decide (k>4)with
 |true=>
  clear v t u p l a;refine zo zBx ?_;simp only[f223,zA]
  repeat' first|simp only[go_sem, *]|apply bc<;>intro o
 |false=>
 have hk:k=0\/k=1\/k=2\/k=3\/k=4:=by
  have:=yJ k1;have:=yJ k2;omega
 clear k1 k2;have A:=λ(x:Lic) (h:Heap)=>gL x h h.next;rcases hk with rfl|rfl|rfl|rfl|rfl
 all_goals
  refine zo zBx ?_;simp only[f223,zA]
  repeat' first|simp only[go_sem, *]|apply bc<;>intro o|(refine zE.mono (v _) ?_;rintro r h ⟨G,w,rfl⟩)|(refine zE.mono (t _) ?_;rintro r h ⟨G,w,rfl⟩)|(refine zE.mono (u _) ?_;rintro r h ⟨G,w,rfl⟩)
 all_goals try
  refine(p _).mono ?_;rintro r h ⟨F,n,rfl,_⟩;subst F;clear v t u p l a;exact au
 all_goals
  clear v t u p B;refine zZ (λi fr h=>fr 2=.iptr [ca,cb,ce,cp] 0/\(∃J K L M N O P R S T y,fr 3=.iptr [J,K,L,M,N,O,P,R,S,T,y,d] 0)/\fr 5=.int .i64 (i:Int)/\Ext g h) I.length ow ?_ ?_ ?_
  .have z:=Ext.refl g
   clear a m;simp only[go_sem,zQ,zT,zG];exact⟨⟨_,_,_,_,_,_,_,_,_,_,_,rfl⟩,z⟩
  .rintro i fr h C ec ew ⟨V,⟨J,K,L,M,N,O,P,R,S,T,y,E⟩,W,z⟩
   have b1:=m i C;generalize I[i]=s at *
   have ba:∀h,HLe Heap.emp h:=λh i ob e=>by cases e
   clear m
   repeat' first|simp only[go_sem, *]|apply bc<;>intro o
   refine yp Heap.emp ((0,.st,true)::(pwt [1] ((2,.st,true)::(pwt [3,4] ((5,.st,true)::((6,.sq,true)::(pwt [7,8,9,10,11,12] []))))))) kr kr (λi ob e=>by cases e) ?_
   repeat' first|simp only[go_sem, *]|apply bc<;>intro o
   refine zB1 _ (λH=>l s H) ⟨_,⟨[],[],0,[]⟩,false,rfl,λq=>by cases q⟩ ?_;rintro r ⟨x,b,rfl,_⟩;have ag:=A x h;have X:=z.new z.1 (.row [.str x.name,.str x.fam,.int .i64 x.ver,.str x.text]);cases b with
   |false=>
    have hf:=a 7 _ X;clear l a A
    repeat' first|simp only[go_sem, *]|apply bc<;>intro o
   |true=>
    clear l a A
    repeat' first|simp only[go_sem, *]|apply bc<;>intro o
    exact⟨_,_,_,_,_,_,_,_,_,_,_,rfl⟩
  clear l A;rintro fr h ec ⟨V,⟨J,K,L,M,N,O,P,R,S,T,y,E⟩,W,z⟩
  repeat' first|simp only[go_sem, *]|apply bc<;>intro o
  refine YF (λi fr h'=>fr 3=.iptr [J,K,L,M,N,O,P,R,S,T,y,d] 0/\fr 8=.int .i64 (i:Int)/\h'=h) I.length ow ?_ ?_ ?_
  .simp only[go_sem,zQ,zT,zG,E]
   rfl
  .clear V E W fr
   rintro i fr h' C U ew ai ⟨E,f8,F⟩;subst F;have b1:=m i ow;have b2:=m (i+1) C;have a:=λb=>a b _ z;generalize I[i]=s at *
   generalize I[i+1]=s2 at *
   clear m
   repeat' first|simp only[go_sem, *]|apply bc<;>intro o
   refine yF kr ?_;exact au
  .clear V E W fr
   rintro i fr h' U ⟨E,f8,F⟩;subst F;have a:=λb=>a b _ z;clear m;exact au
def Ky{m x:D}(a:uL c m)(q:c.Sm)(s:yg 12 (nu fs) x)(G:fs.length<=1048576)(l:∀f∈fs,f.Ok)(g:Heap):zE prog 182 [m,x] g λr h'=>h'=g/\∃i n,r=.tuple [.int .i64 i,.int .i64 n]:=by
 refine xP λQ B=> ?_;have o:∀i n,Q (.tuple [.int .i64 i,.int .i64 n]) g:=λi n=>B _ _ ⟨rfl,i,n,rfl⟩;have j:=mW a q;have k:=λi (C:i<fs.length)=>zAg a q (l _ (zI C));have p:=pp s;have A:=bd;obtain⟨ca,cb,ce,cp,rfl,_,_,_,_⟩:=a;refine zo zLz ?_;simp only[f182,zA]
 repeat' first|simp only[go_sem, *]|apply bc<;>intro a
 refine(j _).mono ?_;rintro r h ⟨e,n,rfl,_⟩;subst e
 repeat' first|simp only[go_sem, *]|apply bc<;>intro a
 refine zZ (λi fr h'=>fr 1=x/\fr 2=.iptr [ca,cb,ce,cp] 0/\fr 6=.int .i64 (i:Int)/\h'=h) fs.length ow ?_ ?_ ?_
 .simp only[go_sem,zQ,zT,zG]
 .rintro i fr h' d u F ⟨v,y,z,e⟩
  subst e;have t:=tZ s d;have b:=k i d;generalize fs[i]=f at *
  simp only[Fac.cells]at t b
  repeat' first|simp only[go_sem, *]|apply bc<;>intro a
  refine yF kr ?_
  repeat' first|simp only[go_sem, *]|apply bc<;>intro a|(refine zE.mono (b _) ?_;rintro r h ⟨E,w,rfl⟩)
 .rintro fr h' u ⟨v,y,z,e⟩
  subst e;exact au
def Mn{l:List (List UInt8)}(c:yg 1 (wh l) d)(v:l.length<=1048576)(s:List UInt8)(g:Heap):zE prog 143 [d,.str s] g λr h'=>h'=g/\IsI r:=by
 refine xP λQ p=> ?_;have e:∀n,Q (.int .i64 n) g:=λn=>p _ _ ⟨rfl,n,rfl⟩;have f:=wU c;refine zo zLj ?_;simp only[f143,zA]
 repeat' first|simp only[go_sem, *]|apply bc<;>intro u
 refine zZ (λi fr h=>fr 0=d/\fr 1=.str s/\fr 5=.int .i64 (i:Int)/\h=g) l.length ow ?_ ?_ ?_
 .simp only[go_sem,zQ,zT,zG]
 .rintro i fr h a j t ⟨k,m,o,b⟩
  subst b;have q:=sw c a;generalize l[i]=y at *
  exact au
 .rintro fr h j ⟨k,m,o,b⟩
  subst b;exact au
structure Als where
 l:List Alt
 d:D
structure Als.Ok(a:Als):Prop where
 sl:yg 1 (qe a.l) a.d
 len:a.l.length<=64
 pl:wl [a.d]
def Rq(l:List Als):List (List D):=l.map λa=>[a.d]
def cz(l:List Als):(Rq l).length=l.length:=zH ..
def Fi{l:List Als}(h:i<l.length):(Rq l)[i]? =some [l[i].d]:=by simp[Rq,h]
def Fj(l:List Als):∀x∈Rq l,x.length=1:=λx b=>by
 obtain⟨a,_,rfl⟩:=zN.1 b;rfl
def Eu{l:List Als}(a:yg 1 (Rq l) d)(h:Heap):o5 prog 98 d h=some (.int .i64 l.length):=by rw[wL a underlying98,cz]
def zAJ{l:List Als}(a:yg 1 (Rq l) d)(b:i<l.length):yj prog 98 d (.int .i64 (i:Int))=some (.iptr [l[i].d] 0):=yW a dU ax (Fi b)
def E9(d:D)(nid:Nat)(h:Heap)(h1:d.cells= [d])(a:d.notTuple=true)(h3:d.flat=true):yA prog false nid 98 1 [(0,d)] h=some (.sl 1 [[d]] .full,h):=by
 have:=qD (P:=prog) (nid:=nid) (h:=h) (x:=d) dU KU ax rfl rfl ow ow a (by rw[h1];rfl);rw[h1]at this;exact this
def Ma(m:Nat)(r:D):Prop:=∃ts os tq oq n,r=.tuple [tq,oq,.int .i64 n]/\Fin 1 (Rq ts) tq/\(∀a∈ts,a.Ok)/\ts.length<=m/\Fin 1 (wh os) oq/\os.length<=m
def Ma.nil(m:Nat)(n:Int):Ma m (.tuple [.nilsl,.nilsl,.int .i64 n]):=⟨[],[],.nilsl,.nilsl,n,rfl,.inl ⟨rfl,rfl⟩,(λa h=>by cases h),jS,.inl ⟨rfl,rfl⟩,jS⟩
def XX(g:Heap)(m:Nat)(td od:D)(h:Heap):Prop:=∃ts os,Own2 g h 1 (Rq ts) td 1 (wh os) od/\(∀a∈ts,a.Ok)/\ts.length<=m/\os.length<=m
theorem Ia{D0 x:D}(hc:uL c D0)(hs:c.Sm)(Y:c.ls.length<=40)(P:yg 12 (nu fs) x)(hl:fs.length<=260)(M:∀f∈fs,f.Ok)(H:∀f∈fs,f.e.size<=120)(g:Heap):zE prog 120 [D0,x] g λr h'=>h'=g/\Ma fs.length r:=by
 refine xU kr λa5=>xS ?_;refine xP λQ hQ=> ?_;have ag:=Ky hc hs P ow M;have L:=λi (hi:i<fs.length)=>zK4 hc hs Y (M _ (zI hi)).e (H _ (zI hi));have a4:=pp P;have a7:=bd;have a8:=gA;have d:∀n h,Ext g h->Q (.tuple [.nilsl,.nilsl,.int .i64 n]) h:=λn h Z=>hQ _ _ ⟨Z,by simp[qC,qW,below,qM],by simpa [qC,qW]using Ma.nil _ n⟩;have y:∀td od h,XX g fs.length td od h->Q (.tuple [td,od,.int .i64 0]) h:=λtd od h ⟨j,k,u,h1,X,h3⟩=>by
  obtain⟨T,V,f3⟩:=u.a.fin λx P=>by
   obtain⟨a,ha,rfl⟩:=zN.1 P;exact(h1 a ha).pl
  obtain⟨g1,g2,g3⟩:=u.b.fin uh;exact hQ _ _ ⟨T,by simp[qC,qW,below,qM,V,g2],j,k,qC td,qC od,0,by simp[qC,qW],f3,h1,X,g3,h3⟩
 obtain⟨ca,cb,ce,cp,rfl,_,_,_,_⟩:=hc;have a6:=fS;refine zo zLf ?_;simp only[f120,zA];simp only[go_sem, *];refine(ag _).mono ?_;rintro r h0 ⟨N,n1,n2,rfl⟩;subst N;cases e0:(n2==0)with
 |false=>
  have hn:=d n2 h0 (Ext.refl h0);simp only[go_sem, *]
 |true=>
 have O:XX h0 0 .nilsl .nilsl h0:=⟨[],[],Own2.start (Ext.refl h0) 1 1,(λa h=>by cases h),jS,jS⟩;simp only[go_sem, *];refine zZ (λi fr h=>fr 1=x/\fr 2=.iptr [ca,cb,ce,cp] 0/\fr 11=.int .i64 (i:Int)/\XX h0 i (fr 9) (fr 10) h) fs.length ow ?_ ?_ ?_
 .clear d y L
  simp only[go_sem,zQ,zT,zG];exact O
 .clear O
  rintro i fr h J ec ew ⟨T,V,U,u⟩;obtain⟨td,W⟩:∃o,fr 9=o:=⟨_,rfl⟩;obtain⟨od,B⟩:∃o,fr 10=o:=⟨_,rfl⟩;rw[W,B]at u;have a1:=tZ P J;have A:=L i J;have Z:Ext h0 h:=by obtain⟨_,_,q,_⟩:=u;exact q.a.1
  have d:=λn=>d n h Z;have ai:∀s,zE prog 143 [od,.str s] h λr h'=>h'=h/\IsI r:=λs=>by
   obtain⟨j,k,q,_,_,G⟩:=u;exact Mn q.b.isSl ow s h
  generalize fs[i]=f at *
  simp only[Fac.cells,Ex.cells]at a1 A;have ak:XX h0 (i+1) td od h:=by
   obtain⟨j,k,E,F,R,G⟩:=u;exact⟨j,k,E,F,ow,ow⟩
  have a3:∀t h',XX h0 (i+1) t od h'->∀s,zE prog 143 [od,.str s] h' λr p=>p=h'/\IsI r:=λt h' ⟨j,k,q,_,_,G⟩ s=>Mn q.b.isSl ow s h';have I:∀t h' (K:D->Heap->Prop)(w:HidR K) s,(∃j k,Own2 h0 h' 1 (Rq j) t 1 (wh k) od/\(∀a∈j,a.Ok)/\j.length<=i+1/\k.length<=i)->(∀C p,XX h0 (i+1) t C p->K C p)->Hs (qg prog false h'.next 45 od (.sl 1 [[.str s]] .full) h') K w:=λt h' K w s ⟨j,k,E,F,R,G⟩ hK=>by
   refine E.swap.appH (zs:=wh [s]) uI ZR p9 ow (by simp[wh]) (by simp[wh]) (by rw[qv,oo];unfold lim;simp[wh];omega) (by rw[qv];unfold lim;simp[wh];omega) λS p v=> ?_;refine hK S p ⟨j,k++ [s],?_,F,R,jO⟩
   have:wh (k++ [s])=wh k++wh [s]:=by simp[wh]
   rw[this];exact v.swap
  cases k1:(f.kind==1)with
  |true=>
   have k2:(f.kind==2)=false:=by
    have:=qj.1 k1;rw[this];rfl
   simp only[go_sem, *];refine yF kr ?_;simp only[go_sem, *];refine(A _).mono ?_;rintro r X ⟨N,q,n,rfl,l,m,hf,aj,ad⟩;subst N;cases n0:(n==0)with
   |false=>
    have hn:=d n;simp only[go_sem, *]
   |true=>
   obtain⟨z1,z2,z3⟩:=zp hf.isSl;have a0:=λnid h=>E9 q nid h z1 z2 z3;obtain⟨j,k,E,F,R,G⟩:=u;simp only[go_sem, *];refine E.appH (zs:=Rq [⟨l,q⟩]) dU FO ax ow (Fj _) (by simp[Rq]) (by rw[cz,Rs];unfold lim;simp[Rq];omega) (by rw[cz];unfold lim;simp[Rq];omega) λS h' v=> ?_;have a9:XX h0 (i+1) S od h':=⟨j++ [⟨l,q⟩],k,by
    have:∀z:Als,Rq (j++ [z])=Rq j++Rq [z]:=λz=>by simp[Rq]
    rw[this];exact v,λa ha=>by
    rcases yv.1 ha with h1|h1
    .exact F a h1
    .cases zi.1 h1;exact⟨hf.isSl,aj,jG hf (XZ ad)⟩,jO,ow⟩
   simp only[go_sem, *]
  |false=>
  cases k2:(f.kind==2)with
  |false=>
   simp only[go_sem, *]
  |true=>
  have a2:=λK w s hK=>I td h K w s (by obtain⟨j,k,E,F,R,G⟩:=u;exact⟨j,k,E,F,ow,G⟩) hK;simp only[go_sem, *];refine(ai _).mono ?_;rintro r X ⟨N,w,rfl⟩;subst N;cases w0:decide (w<0)with
  |false=>
   simp only[go_sem, *]
  |true=>
   simp only[go_sem, *];refine a2 _ _ _ λC h' v=> ?_;exact au
 .rintro fr h ec ⟨T,V,U,u⟩
  obtain⟨td,W⟩:∃o,fr 9=o:=⟨_,rfl⟩;obtain⟨od,B⟩:∃o,fr 10=o:=⟨_,rfl⟩;rw[W,B]at u;have hf:=y td od h u;exact au
def HZ{l:List Int}(a:yg 1 (wC l) d)(h:Heap):o5 prog 30 d h=some (.int .i64 l.length):=by rw[wL a underlying30,wG]
def Mh{l:List Int}(a:yg 1 (wC l) d)(b:i<l.length):yj prog 30 d (.int .i64 (i:Int))=some (.iptr [.int .i64 l[i]] 0):=yW a qS uz (by simp[wC,b])
def DA(n:Int)(nid:Nat)(h:Heap):yA prog false nid 30 1 [(0,.int .i64 n)] h=some (.sl 1 [[.int .i64 n]] .full,h):=qD (x:=.int .i64 n) qS s8 uz rfl rfl ow ow rfl rfl
def OwI(G h:Heap)(d:D)(m:Nat):Prop:=∃l,Own G h 1 (wC l) d/\l.length<=m
def OwI.app{G h:Heap}{m:Nat}{n:Int}{w:HidR K}(e:OwI G h d m)(g:m<=2097152)(c:∀a h',OwI G h' a (m+1)->K a h'):Hs (qg prog false h.next 30 d (.sl 1 [[.int .i64 n]] tk) h) K w:=by
 obtain⟨l,h1,f⟩:=e;refine h1.appH (ys:=wC [n]) qS ZQ uz ow (by simp[wC]) (by simp[wC]) (by rw[wG,mV];unfold lim;simp[wC];omega) (by rw[wG];unfold lim;simp[wC];omega) λa h' b=> ?_;refine c a h' ⟨l++ [n],?_,jO⟩
 have:wC (l++ [n])=wC l++wC [n]:=by simp[wC]
 rw[this];exact b
def EM{M x:D}(O:uL c M)(hs:c.Sm)(H:c.ls.length<=40)(hx:yg 12 (nu fs) x)(Z:fs.length<=260)(K:∀f∈fs,f.Ok)(B:∀f∈fs,f.e.size<=120)(g:Heap):zE prog 71 [M,x] g λr h'=>h'=g/\∃q n l,r=.tuple [q,.int .i64 n]/\yg 1 (wC l) q/\l.length<=520:=by
 refine xU kr λP=>xS ?_;refine xP λQ I=> ?_;have C:=Ia O hs H hx Z K B;have k:∀n h,Ext g h->Q (.tuple [.nilsl,.int .i64 n]) h:=λn h X=>I _ _ ⟨X,by simp[qC,qW,below,qM],.nilsl,n,[],by simp[qC,qW],.inl ⟨rfl,rfl⟩,jS⟩;have a:∀d h,OwI g h d 520->Q (.tuple [d,.int .i64 0]) h:=λd h ⟨l,J,h1⟩=>by
  obtain⟨V,s,W⟩:=J.fin (WC _);exact I _ _ ⟨V,by simp[qC,qW,below,qM,s],qC d,0,l,by simp[qC,qW],W.isSl,h1⟩
 obtain⟨ca,cb,ce,cp,rfl,Y,_,_,_⟩:=O;have R:=DA;have ad:=rV Y;clear I;refine zo zQO ?_;simp only[f71,zA];simp only[go_sem, *];refine(C _).mono ?_;rintro r h0 ⟨hq,E,os,tq,T,n,rfl,S,b,a0,J,ak⟩;subst hq;clear C;cases e0:(n==0)with
 |false=>
  have hn:=k n h0 (Ext.refl h0);clear k a b;simp only[go_sem, *]
 |true=>
 have v:OwI h0 h0 .nilsl 0:=⟨[],Own.start (Ext.refl h0) 1,jS⟩;have p:=Eu S.isSl;have ai:=wU J.isSl;clear k;simp only[go_sem, *];refine zZ (λi fr h=>fr 2=.iptr [ca,cb,ce,cp] 0/\fr 6=tq/\fr 7=T/\fr 10=.int .i64 (i:Int)/\OwI h0 h (fr 9) i) E.length ow ?_ ?_ ?_
 .clear a b
  simp only[go_sem,zQ,zT,zG];exact v
 .clear v
  rintro i fr h p A U ⟨s,G,z,u,j⟩;obtain⟨o,m⟩:∃o,fr 9=o:=⟨_,rfl⟩;rw[m]at j;have a1:=zAJ S.isSl p;have L:=b _ (zI p);have ag:=tA L.sl;generalize E[i]=t at *
  clear a b;simp only[go_sem, *];refine j.app ow λN h' w=> ?_;clear j;exact au
 clear v;rintro fr h A ⟨s,G,z,u,j⟩;obtain⟨o,m⟩:∃o,fr 9=o:=⟨_,rfl⟩;rw[m]at j;have y:OwI h0 h o (E.length+0):=j;clear j;simp only[go_sem, *];refine zZ (λi fr h=>fr 2=.iptr [ca,cb,ce,cp] 0/\fr 7=T/\fr 11=.int .i64 (i:Int)/\OwI h0 h (fr 9) (E.length+i)) os.length ow ?_ ?_ ?_
 .clear a b
  simp only[go_sem,zQ,zT,zG,s,z,m];exact y
 .clear y s G z u m A fr h
  rintro i fr h p A U ⟨s,z,F,j⟩;obtain⟨o,m⟩:∃o,fr 9=o:=⟨_,rfl⟩;rw[m]at j;clear a b;simp only[go_sem, *];refine j.app ow λN h' w=> ?_;have aj:OwI h0 h' N (E.length+(i+1)):=w;clear j w;exact au
 .clear y s G z u m A fr h
  rintro fr h A ⟨s,z,F,j⟩;obtain⟨o,m⟩:∃o,fr 9=o:=⟨_,rfl⟩;rw[m]at j;have hf:=a o h (by obtain⟨l,q1,q2⟩:=j;exact⟨l,q1,ow⟩);clear a b j;exact au
def EF{A x:D}(s:uL c A)(K:c.Sm)(v:c.ls.length<=40)(L:yg 12 (nu fs) x)(H:fs.length<=260)(w:∀f∈fs,f.Ok)(p:∀f∈fs,f.e.size<=120)(g:Heap):zE prog 29 [A,x] g λr h'=>h'=g/\∃a b,r=.tuple [.int .i64 a,.int .i64 b]:=by
 refine xP λQ G=> ?_;have y:=EM s K v L H w p;have B:∀a b,Q (.tuple [.int .i64 a,.int .i64 b]) g:=λa b=>G _ _ ⟨rfl,a,b,rfl⟩;obtain⟨ca,cb,ce,cp,rfl,O,_,_,_⟩:=s;refine zo zP8 ?_;simp only[f29,zA]
 repeat' first|simp only[go_sem, *]|apply bc<;>intro s
 refine(y _).mono ?_;rintro r h0 ⟨d,q,n,l,rfl,j,I⟩;subst d;have J:=HZ j
 repeat' first|simp only[go_sem, *]|apply bc<;>intro s
 refine zZ (λi fr h=>fr 6=q/\fr 8=.int .i64 (i:Int)/\h=h0) l.length ow ?_ ?_ ?_
 .simp only[go_sem,zQ,zT,zG]
 .rintro i fr h k o E ⟨m,u,d⟩
  subst d;have C:=Mh j k;generalize l[i]=z at *
  exact au
 rintro fr h o ⟨m,u,d⟩;subst d;have N:=isI
 repeat' first|simp only[go_sem, *]|apply bc<;>intro s
 refine zZ (λi fr h'=>fr 6=q/\fr 10=.int .i64 (i:Int)/\h'=h/\IsI (fr 9)) l.length ow ?_ ?_ ?_
 .simp only[go_sem,zQ,zT,zG,m,isI]
 .clear m u o fr
  rintro i fr h k o E ⟨m,t,d,M,F⟩;subst d;have C:=Mh j k;generalize l[i]=z at *
  exact au
 .clear m u o fr
  rintro fr h o ⟨m,t,d,M,F⟩;subst d;exact au
def ga.sl{ns:List NdI}(h:ga ns d):d.flat=true/\∀H,o5 prog 32 d H=some (.int .i64 ns.length):=by
 obtain⟨xs,h1,a,_⟩:=h;exact⟨(zp h1).2.2,λH=>by rw[wL h1 underlying32,a]⟩
def zNi(c:Cat)(fs:List Fac)(ta oa rd:D)(b:Bool):Prop:=(ta.flat=true/\oa.flat=true/\rd.flat=true)/\((yq c fs≠0/\b=false/\rd=.nilsl)\/(yq c fs=0/\b= !(tQ c fs).isEmpty/\((b=true/\rd=.nilsl)\/(b=false/\ga ((pn c fs).map Nd.i) rd))))
protected def zDn.b{r:D}(h:zDn c fs r):∃b ta oa rd,r=.tuple [.agg [.bool b,ta,oa,rd],.int .i64 (yq c fs)]/\zNi c fs ta oa rd b:=by
 rcases h with⟨h0,rfl⟩ | ⟨h0,⟨q,f,rfl⟩ | ⟨h1,rd,d,rfl⟩⟩
 .exact⟨_,_,_,_,rfl,⟨rfl,rfl,rfl⟩,.inl ⟨h0,rfl,rfl⟩⟩
 .refine⟨_,_,_,_,by rw[h0],⟨by unfold tsF;split<;>rfl,by unfold owF;split<;>rfl,rfl⟩,.inr ⟨h0,?_,.inl ⟨rfl,rfl⟩⟩⟩
  cases e:tQ c fs with
  |nil=>rw[e]at f;cases f
  |cons a l=>rfl
 .exact⟨_,_,_,_,by rw[h0],⟨rfl,rfl,d.sl.1⟩,.inr ⟨h0,by rw[h1];rfl,.inr ⟨rfl,d⟩⟩⟩
def KA(H:Heap){ta oa rd:D}(h1:ta.flat=true)(a:oa.flat=true)(h3:rd.flat=true) :yR prog 49 (.ptr n 0) (.agg [.bool b,ta,oa,rd]) (H.new n (.row [.bool false,.nilsl,.nilsl,.nilsl]))=some (H.new n (.row [.bool b,ta,oa,rd])):=yo KE ow rfl rfl (by simp[h1,a,h3];rfl)
def X2(h:Dl fs)(b:fs.length<=24)(a:gs.Sublist fs):Dl gs:=by
 have:=a.length_le;exact⟨⟨.inl ow,ow⟩,λf hf=>h.2 f (a.subset hf)⟩
section
variable{c:Cat}{fs:List Fac}
theorem LK{F:Nat->Nat->List Nd}(n:Nat):∀{s k:Nat},k<s->∃b,∀x∈F k b,x∈(ug F s n).2
 |s+1,k,h=>by
  rcases zx.1 h with q|rfl
  .obtain⟨b,h⟩:=LK n q
   exact⟨b,λx a=>by rw[ug];exact mQ _ (h x a)⟩
  .exact⟨_,λx a=>by rw[ug];exact rc _ a⟩
end
def ga.at{ns:List NdI}(h:ga ns d)(b:i<ns.length):∃cs,yj prog 32 d (.int .i64 (i:Int))=some (.iptr cs 0)/\zJQ ns[i] cs:=by
 obtain⟨xs,h1,c,h3⟩:=h;obtain⟨cs,a,h5⟩:=h3 i _ (zB b);exact⟨cs,yW h1 dT lT a,h5⟩
section
variable{c:Cat}{fs:List Fac}
def KL{y:Cho}{v:Vio}(s:v∈pW c fs y):(∃h:Nat,(h:Int)∈v.facts/\uK fs h=2)/\(∀x∈v.facts,0<=x/\x.toNat<fs.length)/\v.facts.length<=5:=by
 obtain⟨i,h1,t,l,f,e⟩:=ZJ.1 s;refine⟨?_,λx g=> ?_,?_⟩
 .have key:∃h∈l,uK fs h=2:=by
   rcases i with _|_|_|_|_|i
   .obtain⟨a,b,d,T,_,rfl⟩:=f;exact⟨d,jS,T.kh⟩
   .obtain⟨a,b,d,o,T,_,_,rfl⟩:=f;exact⟨d,jS,T.kh⟩
   .obtain⟨a,b,d,k,T,_,_,_,rfl⟩:=f;exact⟨d,jS,T.kh⟩
   .obtain⟨a,b,d,j,b',m,T,_,_,_,rfl⟩:=f;exact⟨d,jS,T.kh⟩
   .obtain⟨a,d,o,_,_,_,k,_,rfl⟩:=f;exact⟨d,jS,k⟩
   .obtain⟨_,d,k,rfl⟩:=f;exact⟨d,jS,k⟩
  obtain⟨h,q,p⟩:=key;exact⟨h,by rw[<-e,Q9,zN];exact⟨h,q,rfl⟩,p⟩
 .rw[<-e,Q9,zN]at g
  obtain⟨n,r,rfl⟩:=g;exact⟨ow,by have:=f.lt n r;simpa using this⟩
 .rw[<-e]
  refine zY (Wc _) ?_;rw[zH];rcases i with _|_|_|_|_|i
  .obtain⟨a,b,d,T,_,rfl⟩:=f;simp
  .obtain⟨a,b,d,o,T,_,_,rfl⟩:=f;simp
  .obtain⟨a,b,d,k,T,_,_,_,rfl⟩:=f;simp
  .obtain⟨a,b,d,j,b',m,T,_,_,_,rfl⟩:=f;simp
  .obtain⟨a,d,o,_,_,_,k,_,rfl⟩:=f;simp
  .obtain⟨_,d,k,rfl⟩:=f;simp
def Ng{v:Vio}(e:Yu c fs p=some v):v∈pW c fs (oP p):=re (by unfold Yu at e;exact e)
theorem LL{P:Nd->Prop}{F:Nat->Nat->List Nd}(n:Nat):∀{s:Nat},(∀k b,k<s->∀x∈F k b,P x)->∀x∈(ug F s n).2,P x
 |0,h,x,a=>by cases a
 |s+1,h,x,a=>by
  rw[ug]at a;rcases yv.1 a with q|q
  .exact LL n (λk b c=>h k b ow) x q
  .exact h s _ ow x q
theorem Zs:∀m p n,POk c fs p->∀nd∈pP c fs m p n,(∃v f,nd= ⟨-1,[],some v⟩/\v∈pW c fs (oP f))\/∃ (v:Nat) (ks:List Int),nd= ⟨(v:Int),ks,none⟩
 |0,p,n,a,nd,h=>by
  cases e:Yu c fs p with
  |none=>simp[pP,e]at h
  |some v=>rw[(jV e _ _).2,zi]at h;exact .inl ⟨v,p,h,Ng e⟩
 |m+1,p,n,a,nd,h=>by
  cases e:Yu c fs p with
  |some v=>rw[(jV e _ _).2,zi]at h;exact .inl ⟨v,p,h,Ng e⟩
  |none=>
   cases e2:nxV c fs p with
   |none=>rw[(VG e e2 _ _).2]at h;cases h
   |some v=>
    simp only[pP,e,e2]at h;rcases yE.1 h with rfl|h
    .exact .inr ⟨_,_,rfl⟩
    .exact LL (n+1) (λk d b=>Zs m _ d (a.dec b)) nd h
theorem KT(h0:(yV c fs).2.2=0):∀m p n,POk c fs p->opn c fs p<=m->pX c fs m p= []->∃v,(⟨-1,[],some v⟩:Nd)∈pP c fs m p n
 |0,p,n,f,j,a=>by
  cases e:Yu c fs p with
  |none=>simp[pX,e]at a
  |some v=>exact⟨v,by rw[(jV e _ _).2];exact qZ⟩
 |m+1,p,n,f,j,a=>by
  cases e:Yu c fs p with
  |some v=>exact⟨v,by rw[(jV e _ _).2];exact qZ⟩
  |none=>
   cases e2:nxV c fs p with
   |none=>rw[(VG e e2 _ 0).1]at a;cases a
   |some v=>
    obtain⟨l,d,_⟩:=l8 e2;have b:0<szV c fs v:=by simp only[pL,zF,zP]at d;omega
    have g:pX c fs m (pY c fs p v 0)= []:=by
     simp only[pX,e,e2,Option.isSome,zf,yr]at a;exact oR.1 a 0 (yn.2 b)
    obtain⟨h,i⟩:=LK (F:=λk h=>pP c fs m (pY c fs p v k) h) (n+1) b;obtain⟨w,h1⟩:=KT h0 m _ h (f.dec b) (by have:=We f h0 e2 b;omega) g;refine⟨w,?_⟩;simp only[pP,e,e2];exact yG _ (i _ h1)
def Ls:opn c fs (o6 c fs)<=ctV c fs:=by
 unfold opn;exact zY (wH _ _) jS
end
def fT(c:Cat)(fs:List Fac):Bool:=yq c fs==0&&(tQ c fs).isEmpty
def L6(c:Cat)(fs:List Fac):Nat->List Nat->List Nat
 |0,I=>I
 |k+1,I=>L6 c fs k (if fT c (zw fs (I.eraseIdx k))=true then I.eraseIdx k else I)
abbrev PY(c:Cat)(fs:List Fac)(I:List Nat):List Nat:=L6 c fs I.length I
theorem I9(f:α->β):∀(l:List α)(i:Nat),(l.map f).eraseIdx i=(l.eraseIdx i).map f
 | [],_=>rfl
 |_::_,0=>rfl
 |a::l,i+1=>by simp[I9 f l i]
variable{fs:List Fac}{c:Cat}
def zIm(h:gs.Sublist fs):∃I,InI fs I/\zw fs I=gs:=by
 induction h with
 |slnil=>exact⟨[],⟨λi h=>(by cases h),List.Pairwise.nil⟩,rfl⟩
 | @cons f g a h d=>
  obtain⟨I,h1,rfl⟩:=d;refine⟨I.map (· +1),⟨λi b=> ?_,?_⟩,?_⟩
  .obtain⟨j,c,rfl⟩:=zN.1 b
   have:=h1.lt j c;simp;omega
  .rw[nH];exact h1.inc.imp λh=>by omega
  .simp[zw,List.filterMap_map,nE]
 | @cons_cons f g a h d=>
  obtain⟨I,h1,rfl⟩:=d;refine⟨0::I.map (· +1),⟨λi b=> ?_,?_⟩,?_⟩
  .rcases yE.1 b with rfl|b
   .simp
   .obtain⟨j,c,rfl⟩:=zN.1 b
    have:=h1.lt j c;simp;omega
  .rw[sC,nH]
   refine⟨λx e=> ?_,h1.inc.imp λh=>by omega⟩;obtain⟨j,_,rfl⟩:=zN.1 e;omega
  .simp[zw,List.filterMap_map,nE]
section
variable{c:Cat}{fs:List Fac}
def N5:fT c fs=true↔yq c fs=0/\tQ c fs= []:=by
 unfold fT;rw[zF,qj,List.isEmpty_iff]
def DG(h:gs.Sublist fs)(h0:yq c fs=0)(hr:fT c gs=true):fT c fs=true:=by
 obtain⟨I,b,rfl⟩:=zIm h;obtain⟨h1,a⟩:=N5.1 hr;exact N5.2 ⟨h0,kF λd=>JP (lx h0) d b (lx h1) a⟩
def Nc{I J:List Nat}(h:I.Sublist J):(zw fs I).Sublist (zw fs J):=h.filterMap _
def InI.mono{I J:List Nat}(H:InI fs J)(h:I.Sublist J):InI fs I:=⟨λi a=>H.lt i (h.subset a),H.inc.sublist h⟩
def K8(l:List Nat)(h:k<=j):(l.eraseIdx k).eraseIdx j=(l.eraseIdx (j+1)).eraseIdx k:=by
 apply tR;intro i;simp only[List.getElem?_eraseIdx]
 grind
theorem YA:∀k I,(L6 c fs k I).Sublist I
 |0,I=>List.Sublist.refl _
 |k+1,I=>by
  unfold L6;split
  .exact(YA k _).trans (wW _ _)
  .exact YA k _
theorem Z9:∀k I,fT c (zw fs I)=true->fT c (zw fs (L6 c fs k I))=true
 |0,I,h=>h
 |k+1,I,h=>by
  unfold L6;split
  .rename_i q;exact Z9 k _ q
  .exact Z9 k _ h
theorem MD(h0:yq c fs=0):∀k I,InI fs I->k<=I.length->(∀j,k<=j->j<I.length->fT c (zw fs (I.eraseIdx j))=false)->∀j,j<(L6 c fs k I).length->fT c (zw fs ((L6 c fs k I).eraseIdx j))=false
 |0,I,_,_,h,j,b=>h j (yD _) b
 |k+1,I,H,l,h,j,b=>by
  unfold L6 at b⊢;split at b
  .rename_i q
   rw[ip q]at⊢;refine MD h0 k _ (H.mono (wW _ _)) (by rw[mP];split<;>omega) (λi d a=> ?_) j b;rw[mP,ip ow]at a;refine sZ.2 λe=> ?_;have f:((I.eraseIdx k).eraseIdx i).Sublist (I.eraseIdx (i+1)):=by rw[K8 I d];exact wW _ _
   have:=DG (Nc f) (NT h0 (H.mono (wW _ _)).sub) e;rw[h (i+1) ow ow]at this;cases this
  .rename_i q
   rw[iq q]at⊢;refine MD h0 k _ H ow (λi d a=> ?_) j b;rcases Nat.lt_or_eq_of_le d with g|rfl
   .exact h i g a
   .exact sZ.2 q
def LW(hr:fT c fs=true):∃s,uK fs s=2:=by
 obtain⟨h0,f⟩:=N5.1 hr;obtain⟨v,d⟩:=KT (lx h0) _ _ 0 (tj c fs _) Ls f;rcases Zs _ _ _ (tj c fs _) _ d with⟨g,h,e,a⟩ | ⟨g,ks,e⟩
 .obtain⟨⟨x,_,b⟩,_,_⟩:=KL a
  exact⟨x,b⟩
 .cases e
end
abbrev nI(I:List Nat):List Int:=I.map λn:Nat=>(n:Int)
theorem Zx{fs:List Fac} :∀{I:List Nat},(∀i∈I,i<fs.length)->lh (nu fs) (nI I)=nu (zw fs I)
 | [],_=>rfl
 |i::I,h=>by
  have a:=h i qZ;have c:=Zx (fs:=fs) (I:=I) λj b=>h j (yG _ b);have e:zw fs (i::I)=fs[i]::zw fs I:=by simp[zw,zB a]
  rw[e];show(nu fs).getD ((i:Int)).toNat []::lh (nu fs) (nI I)=_;rw[c,wE,zC];simp[nu,zB a]
structure ShF(fs:List Fac):Prop where
 s:∀c∈nu fs,∃k,Shp prog k 57 c
def Nv(fs:List Fac)(I:List Nat):D:=if I= []then .nilsl else .sl 12 (nu (zw fs I)) .no
variable{fs:List Fac}{c:Cat}
def Tx(I:List Nat):yg 12 (nu (zw fs I)) (Nv fs I):=by
 unfold Nv;split
 .rename_i e;rw[e];exact yg.nil
 .exact yg.mk .no
def TI{x f:D}(d:yg 12 (nu fs) x)(a:ShF fs)(hf:yg 1 (wC (nI I)) f)(b:∀i∈I,i<fs.length)(j:I.length<=1048576)(h:Heap):zE prog 34 [x,f] h λr h'=>h'=h/\r=Nv fs I:=by
 have c:=a.s;unfold Nv;split
 .rename_i e;subst e;exact IV d c hf h
 .rename_i e
  refine(Ds d c hf (by rw[zH];exact j) (λn k=> ?_) h).mono λr h' q=>⟨q.1,?_⟩
  .obtain⟨i,g,rfl⟩:=zN.1 k
   refine⟨ow,?_⟩;rw[lD];have:=b i g;omega
  .rw[<-Zx b]
   rcases q.2 with⟨_,q⟩ |q
   .exact absurd (by simpa [lh]using q) e
   .exact q
structure KIn(c:Cat)(fs:List Fac)(ca cb ce cp x:D):Prop where
 cat:uL c (.agg [ca,cb,ce,cp])
 sm:c.Sm
 x:yg 12 (nu fs) x
 few:Dl fs
 h16:fs.length<=24
 ok:∀f∈fs,f.Ok
 sh:ShF fs
section
variable{c:Cat}{fs:List Fac}{ca cb ce cp x:D}
def KIn.solve(K:KIn c fs ca cb ce cp x)(H:InI fs I)(g:Heap):zE prog 14 [.agg [ca,cb,ce,cp],Nv fs I] g λr h'=>h'=g/\r=Jx c (zw fs I):=
 QK K.cat K.sm (Tx I) (X2 K.few K.h16 H.sub) (λf hf=>K.ok f (oF hf)) (λe=>by have:=Wb e;omega) g
def RJ:∃b ta oa rd,Jx c gs=.tuple [.agg [.bool b,ta,oa,rd],.int .i64 (yq c gs)]/\(yq c gs==0&& !b)=fT c gs/\zNi c gs ta oa rd b:=by
 obtain⟨b,ta,oa,rd,e,q⟩:=(zDn.of (c:=c) (fs:=gs) rfl).b;refine⟨b,ta,oa,rd,e,?_,q⟩;unfold fT;rcases q.2 with⟨h1,a,_⟩ | ⟨h1,a,_⟩
 .rw[yf.2 h1];rfl
 .rw[h1,a,Bool.not_not]
def dM(K:KIn c fs ca cb ce cp x)(H:InI fs I){f:D}(hf:yg 1 (wC (nI I)) f)(t:I.length<=1048576)(g:Heap):zE prog 47 [.agg [ca,cb,ce,cp],x,f] g λr h'=>h'=g/\r=.bool (fT c (zw fs I)):=by
 refine xU kr λm=> ?_;refine xP λR a=> ?_;have j:=TI K.x K.sh hf H.lt t;have d:=K.solve H;obtain⟨b,ta,oa,rd,o,n,⟨z,A,B⟩,_⟩:=RJ (c:=c) (gs:=zw fs I);rw[o]at d;rw[<-n]at a;obtain⟨N,s⟩:∃N,g.next=N:=⟨_,rfl⟩;obtain⟨G,q,C,p⟩:∃G:Heap,g.new N (.row [.bool b,ta,oa,rd])=G/\G.at' N=some (.row [.bool b,ta,oa,rd])/\Ext g G:=⟨_,rfl,z5 _ _ _,by rw[<-s];exact(Ext.refl g).new (zD _) _⟩;have w:yR prog 49 (.ptr N 0) (.agg [.bool b,ta,oa,rd]) (g.new N (.row [.bool false,.nilsl,.nilsl,.nilsl]))=some G:=by
  rw[<-q];exact KA g z A B
 have l:∀v,v=(yq c (zw fs I)==0&& !b)->R (.bool v) G:=λv e=>a _ _ ⟨p,trivial,by rw[e]⟩;have u:∀h,HLe Heap.emp h:=λh i y e=>by cases e
 generalize yq c (zw fs I)=ce at *
 refine zo zPJ ?_;simp only[f47,zA]
 repeat' first|simp only[go_sem, *]|apply bc<;>intro k
 refine yp Heap.emp ((0,.st,true)::(pwt [1,2] ((3,.st,true)::((4,.st,true)::(pwt [5,6,7,8,9,10] []))))) kr kr (λi y e=>by cases e) ?_
 repeat' first|simp only[go_sem, *]|apply bc<;>intro k
 refine kS _ (λH=>j H) ?_
 repeat' first|simp only[go_sem, *]|apply bc<;>intro k
 refine kS _ (λH=>d H) ?_;exact au
end
end Go.V
