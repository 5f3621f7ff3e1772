/- Contracts of functions that the law reaches, part 3. No condition. -/
import Derived.Test.YtkenagjlanhnmaaGreatDoorW40
import Derived.Test.YtkenagjlanhnmaaGreatDoorW26
set_option linter.all false
set_option maxHeartbeats 8000000
namespace Go.V
open Go.Proofs.Tryz
open Go.Proofs
set_option maxRecDepth 100000
def LJ:∀(n:Nat){e:Ex},e.size<=n->e.Ok->e.size<=1048576->∀g:Heap,zD prog 70 [.agg e.cells] g λr h'=>h'=g/\r=.int .i64 (e.size:Int):=by
 intro n
 induction n with
 |zero=>intro e h;cases e;simp only[Ex.size]at h;omega
 |succ n y=>
 intro e H f o g;obtain⟨k,z,x,l,d⟩:=e;simp only[Ex.size,Ex.Ok]at H f o;obtain⟨u,L,_,_,j⟩:=f;have v:=pZ u;have E:(Ex.mk k z x l d).size=qR l+1:=by simp only[Ex.size]
 rw[E];refine zj zOq ?_;simp only[f70,zA];simp only[Ex.cells,Ex.kind,Ex.name,Ex.exc,Ex.d]
 repeat' first|simp only[go_sem, *]|apply bc<;>intro F
 refine zY (λi fr h=>fr 1=.iptr [.int .i64 k,.str z,.str x,d] 0/\fr 4=.int .i64 (i:Int)/\fr 3=.int .i64 ((qR (l.take i)+1:Nat):Int)/\h=g) l.length ow ?_ ?_ ?_
 .have J:qR (l.take 0)+1=1:=by simp[qR]
  simp only[go_sem,zM,zV,zG,J];rfl
 .rintro i fr h c B K ⟨C,D,q,rfl⟩
  have A:=l9 u c;have m:l[i]∈l:=zH c;have w:=y (e:=l[i]) (by have:=wu m;omega) (pa j _ m) (by have:=wu m;omega);have p:qR (l.take (i+1))=qR (l.take i)+l[i].size:=by rw[zP c,dB]
  have G:qR (l.take (i+1))<=qR l:=by
   have:=qg (i+1) l;have key:∀a b:List Ex,qR a<=qR (a++b):=λa b=>by
    induction a with
    |nil=>simp[qR]
    |cons x a y=>simp only[yG,qR];omega
   have s:=key (l.take (i+1)) (l.drop (i+1));rw[this]at s;exact s
  have t:IntKind.i64.wrap (((qR (l.take i)+1:Nat):Int)+(l[i].size:Int))=((qR (l.take (i+1))+1:Nat):Int):=by rw[p,qP ow ow];omega
  simp only[Ex.cells]at A w
  repeat' first|simp only[go_sem, *]|apply bc<;>intro F|(refine zD.mono (w _) ?_;rintro r h ⟨I,rfl⟩)
 .rintro fr h B ⟨C,D,q,rfl⟩
  rw[yC]at q;exact au
variable{c:Cat}{d x:D}{fs gs:List Fac}{i sz:Nat}{tk:Tk}{K:D->Heap->Prop}{xs:List (List D)}{ts:List Trm}{e:Ex}{α β:Type}{I:List Nat}
def PC(l:uB c d)(H:c.Sm)(C:yZ 12 (sL fs) x)(N:fs.length<=1048576)(s:∀f∈fs,f.Ok0)(g:Heap):zD prog 28 [d,x] g λr h'=>h'=g/\∃b,r=.bool b/\(b=true->Fx fs/\c.ls.length<=40):=by
 refine xP λQ E=> ?_;have hf:Q (.bool false) g:=E _ _ ⟨rfl,_,rfl,λq=>by cases q⟩;have k:Fx fs/\c.ls.length<=40->∀b,Q (.bool b) g:=λR b=>E _ _ ⟨rfl,b,rfl,λ_=>R⟩;have O:=nu C;have B:=K5 l H C N s;have p:=H.cs;obtain⟨ca,cb,ce,cp,rfl,_,_,F,_⟩:=l;have L:=ja;have T:=jM F;have U:=p.1;have S:=isI;refine zj zOW ?_;simp only[f28,zA]
 repeat' first|simp only[go_sem, *]|apply bc<;>intro l
 refine(B _).mono ?_;rintro r h ⟨j,b,rfl,M⟩;subst j;cases b with
 |false=>
  repeat' first|simp only[go_sem, *]|apply bc<;>intro l
 |true=>
 have v:=M rfl;have k:=k v;have v:=v.1
 repeat' first|simp only[go_sem, *]|apply bc<;>intro l
 refine zY (λi fr h'=>fr 1=x/\fr 2=.iptr [ca,cb,ce,cp] 0/\fr 7=.int .i64 (i:Int)/\IsI (fr 5)/\IsI (fr 6)/\h'=h) c.cs.length ow ?_ ?_ ?_
 .simp only[go_sem,zM,zV,zG,isI]
 .rintro i fr h a z I ⟨m,A,J,⟨t,n⟩,⟨u,o⟩,j⟩
  subst j;have w:=gF F a;have o1:=wO (p.2 _ (zH a)).1;generalize c.cs[i]=y at *
  simp only[Cla.cells]at w;exact au
 rintro fr h z ⟨m,A,J,⟨t,n⟩,⟨u,o⟩,j⟩;subst j
 repeat' first|simp only[go_sem, *]|apply bc<;>intro l
 refine zY (λi fr h'=>fr 1=x/\fr 8=.int .i64 (i:Int)/\IsI (fr 5)/\IsI (fr 6)/\h'=h) fs.length ow ?_ ?_ ?_
 .simp only[go_sem,zM,zV,zG,isI,m,n,o]
 .clear m A n o t u
  rintro i fr h a z I ⟨m,K,⟨t,n⟩,⟨u,o⟩,j⟩;subst j;have w:=tR C a;have G:=zH a;have D:=LJ _ (zC _) (s _ G).e (by have:=v.2 _ G;omega);generalize fs[i]=f at *
  simp only[Fac.cells]at w;simp only[Ex.cells]at D
  repeat' first|simp only[go_sem, *]|apply bc<;>intro l|(refine zD.mono (D _) ?_;rintro r h ⟨P,rfl⟩)
 .clear m A n o t u
  rintro fr h z ⟨m,K,⟨t,n⟩,⟨u,o⟩,j⟩;subst j;exact au
def RC(x y:Trm)(g:Heap):zD prog 395 [.agg x.cells,.agg y.cells] g λr h'=>h'=g/\∃b,r=.bool b:=by
 refine xP λQ c=> ?_;have a:∀b,Q (.bool b) g:=λb=>c _ _ ⟨rfl,b,rfl⟩;refine zj zLN ?_;simp only[f395,zA];simp only[Trm.cells];exact au
def FK(x:Trm)(nid:Nat)(h:Heap):yD prog false nid 194 1 [(0,.agg [.str x.a,.str x.b])] h=some (.sl 2 [[.str x.a,.str x.b]] .full,h):=qd XE sH uO rfl rfl ow ow rfl rfl
def Rv{l:List Trm}(a:yZ 2 (wj l) d)(h:Heap):o9 prog 194 d h=some (.int .i64 l.length):=by rw[wL a underlying194,wc]
def NW{l:List Trm}(a:yZ 2 (wj l) d)(b:i<l.length):yc prog 194 d (.int .i64 (i:Int))=some (.iptr l[i].cells 0):=yR a XE uO (Ya b)
def OwT(G h:Heap)(d:D)(m:Nat):Prop:=∃ts,Own G h 2 (wj ts) d/\ts.length<=m
def Vq(l:List Trm):∀x∈wj l,uA x:=λx a=>by
 obtain⟨y,_,rfl⟩:=zS.1 a;exact⟨rfl,by simp[Trm.cells,qC,below],by simp[Trm.cells,qU,qM]⟩
def OwT.app{G h:Heap}{m:Nat}{x:Trm}{w:HidR K}(i:OwT G h d m)(k:m<=1048576)(g:∀c h',OwT G h' c (m+1)->K c h'):Hk (qS prog false h.next 194 d (.sl 2 [[.str x.a,.str x.b]] tk) h) K w:=by
 obtain⟨f,h1,j⟩:=i;refine h1.appH (ys:=wj [x]) XE Ye uO ow (pQ _) (by simp[wj]) (by rw[wc,kA];unfold lim;simp[wj];omega) (by rw[wc];unfold lim;simp[wj];omega) λc h' e=> ?_;refine g c h' ⟨f++ [x],?_,jO⟩
 have:wj (f++ [x])=wj f++wj [x]:=by simp[wj]
 rw[this];exact e
def OwT.fin{G h:Heap}{m:Nat}(g:OwT G h d m):Ext G h/\below G.next (qM d)/\∃a,Fin 2 (wj a) (qM d)/\a.length<=m:=by
 obtain⟨a,h1,f⟩:=g;obtain⟨b,c,e⟩:=h1.fin (Vq _);exact⟨b,c,a,e,f⟩
def zCY{l:List Trm}(C:yZ 2 (wj l) d)(X:l.length<=65536)(t:Trm)(g:Heap):zD prog 393 [d,.agg t.cells] g λr h'=>h'=g/\∃p,Fin 2 (wj p) r/\p.length<=l.length+1:=by
 refine xU kr λS=>xS ?_;refine xP λQ P=> ?_;have E:=Rv C;have s:=RC;have F:=FK;have f:∀d h,OwT g h d (l.length+1)->Q d h:=λd h j=>by
  obtain⟨J,K,p,v,L⟩:=j.fin;exact P _ _ ⟨J,K,p,v,L⟩
 have R:=QY;simp only[Trm.cells]at s⊢;refine zj zLL ?_;simp only[f393,zA];simp only[go_sem, *];refine zY (λi fr h=>fr 0=d/\fr 3=.iptr [.str t.a,.str t.b] 0/\fr 7=.int .i64 (i:Int)/\∃b:Bool,fr 6=.bool b/\OwT g h (fr 5) (i+b.toNat)) l.length ow ?_ ?_ ?_
 .have A:OwT g g .nilsl (0+false.toNat):=⟨[],Own.start (Ext.refl g) 2,jS⟩
  simp only[go_sem,zM,zV,zG];exact⟨false,rfl,A⟩
 .rintro i fr h y H W ⟨I,v,N,b,M,j⟩
  obtain⟨o,w⟩:∃o,fr 5=o:=⟨_,rfl⟩;rw[w]at j;have G:=NW C y;generalize l[i]=x at *
  simp only[Trm.cells]at G;simp only[go_sem, *];refine yq Heap.emp (pwf [4,0,1,2,3,5] []) kr kr (λi Y e=>by cases e) ?_;cases b with
  |true=>
   simp only[Bool.toNat_true]at j;cases B:(x.a==t.a&&x.b==t.b)with
   |_=>
    simp only[go_sem, *];refine yJ kr ?_;simp only[go_sem, *];refine j.app ow λu h' c=> ?_;simp only[go_sem, *];exact⟨true,rfl,by simpa using c⟩
  |false=>
   simp only[Bool.toNat_false,qo]at j;have k:∀{h d},OwT g h d (i+1)->∃b:Bool,(D.bool true)=.bool b/\OwT g h d (i+1+b.toNat):=λ⟨p,U,Z⟩=>⟨true,rfl,p,U,jO⟩;have m:∀{h d},OwT g h d (i+1+1)->∃b:Bool,(D.bool true)=.bool b/\OwT g h d (i+1+b.toNat):=λq=>⟨true,rfl,q⟩;have n:∀{h d},OwT g h d (i+1)->∃b:Bool,(D.bool false)=.bool b/\OwT g h d (i+1+b.toNat):=λq=>⟨false,rfl,q⟩;cases B:(x.a==t.a&&x.b==t.b)with
   |true=>
    simp only[go_sem, *];refine yJ kr ?_;simp only[go_sem, *];refine j.app ow λu h' c=> ?_;have k:=k c;simp only[go_sem, *]
   |false=>
    simp only[go_sem, *];refine yJ kr ?_;simp only[go_sem, *];refine(s _ _ _).mono ?_;rintro r O ⟨T,b,rfl⟩;subst T;cases b with
    |true=>
     simp only[go_sem, *];refine j.app ow λu h' c=> ?_;simp only[go_sem, *];refine c.app ow λV O z=> ?_;have m:=m z;simp only[go_sem, *]
    |false=>
     simp only[go_sem, *];refine j.app ow λu h' c=> ?_;have n:=n c;exact au
 .rintro fr h H ⟨I,v,N,b,M,j⟩
  obtain⟨o,w⟩:∃o,fr 5=o:=⟨_,rfl⟩;rw[w]at j;cases b with
  |true=>
   have f:=f _ _ j;simp only[go_sem, *]
  |false=>
   simp only[Bool.toNat_false,qo]at j;simp only[go_sem, *];refine j.app ow λu h' c=> ?_;have f:=f _ _ c;exact au
def Kx{a b:List Trm}{d e:D}(E:yZ 2 (wj a) d)(F:yZ 2 (wj b) e)(N:a.length+b.length<=65536)(g:Heap):zD prog 358 [d,e] g λr h'=>h'=g/\∃c,Fin 2 (wj c) r/\c.length<=a.length+b.length:=by
 refine xP λQ K=> ?_;have L:=uI E;have M:=uI F;have k:=λ(c:List Trm) (d:D) h1 A t h=>zCY (l:=c) (d:=d) h1 A t h;simp only[Trm.cells]at k;refine zj zLD ?_;simp only[f358,zA];simp only[go_sem, *];refine zY (λi fr h=>fr 0=d/\fr 1=e/\fr 6=.int .i64 (i:Int)/\h=g/\∃c,Fin 2 (wj c) (fr 5)/\c.length<=i) a.length ow ?_ ?_ ?_
 .have s:∃c,Fin 2 (wj c) .nilsl/\c.length<=0:=⟨[],.inl ⟨rfl,rfl⟩,jS⟩
  simp only[go_sem,zM,zV,zG];exact s
 .rintro i fr h p z G ⟨H,v,I,j,c,f,w⟩
  subst j;obtain⟨o,m⟩:∃o,fr 5=o:=⟨_,rfl⟩;rw[m]at f;have y:=pW E p;have B:=k c o f.isSl ow a[i] h;generalize a[i]=x at *
  simp only[Trm.cells]at y;simp only[go_sem, *];refine B.mono ?_;rintro r A ⟨j,u,q,C⟩;subst j;have n:∃c,Fin 2 (wj c) r/\c.length<=i+1:=⟨u,q,ow⟩;exact au
 rintro fr h z ⟨H,v,I,j,c,f,w⟩;subst j;obtain⟨o,m⟩:∃o,fr 5=o:=⟨_,rfl⟩;rw[m]at f;have s:∃c,Fin 2 (wj c) o/\c.length<=a.length+0:=⟨c,f,ow⟩;simp only[go_sem, *];refine zY (λi fr h'=>fr 1=e/\fr 7=.int .i64 (i:Int)/\h'=h/\∃c,Fin 2 (wj c) (fr 5)/\c.length<=a.length+i) b.length ow ?_ ?_ ?_
 .clear k
  simp only[go_sem,zM,zV,zG,v,m];exact s
 .rintro i fr h p z G ⟨v,J,j,c,f,w⟩
  subst j;obtain⟨o,m⟩:∃o,fr 5=o:=⟨_,rfl⟩;rw[m]at f;have y:=pW F p;have B:=k c o f.isSl ow b[i] h;generalize b[i]=x at *
  simp only[Trm.cells]at y;simp only[go_sem, *];refine B.mono ?_;rintro r A ⟨j,u,q,C⟩;subst j;have n:∃c,Fin 2 (wj c) r/\c.length<=a.length+(i+1):=⟨u,q,ow⟩;exact au
 .rintro fr h z ⟨v,J,j,c,f,w⟩
  subst j;obtain⟨o,m⟩:∃o,fr 5=o:=⟨_,rfl⟩;rw[m]at f;have n:=K o h ⟨rfl,c,f,w⟩;exact au
def zCZ{l:List Trm}(j:yZ 2 (wj l) d)(z:l.length<=1048576)(t:Trm)(g:Heap):zD prog 394 [d,.agg t.cells] g λr h'=>h'=g/\∃b,r=.bool b:=by
 refine xP λQ u=> ?_;have m:=Rv j;have k:∀b,Q (.bool b) g:=λb=>u _ _ ⟨rfl,b,rfl⟩;have w:=QY;simp only[Trm.cells];refine zj zLM ?_;simp only[f394,zA]
 repeat' first|simp only[go_sem, *]|apply bc<;>intro v
 refine zY (λi fr h=>fr 0=d/\fr 3=.iptr [.str t.a,.str t.b] 0/\fr 5=.int .i64 (i:Int)/\h=g) l.length ow ?_ ?_ ?_
 .simp only[go_sem,zM,zV,zG]
 .rintro i fr h c o y ⟨p,q,s,f⟩
  subst f;have n:=NW j c;generalize l[i]=x at *
  simp only[Trm.cells]at n
  repeat' first|simp only[go_sem, *]|apply bc<;>intro v
  refine yq Heap.emp (pwf [4,0,1,2,3,5] []) kr kr (λi A e=>by cases e) ?_;exact au
 .rintro fr h o ⟨p,q,s,f⟩
  subst f;exact au
def Q9{a b:List Trm}{d e:D}(y:yZ 2 (wj a) d)(k:yZ 2 (wj b) e)(f:a.length<=1048576)(z:b.length<=1048576)(g:Heap):zD prog 359 [d,e] g λr h'=>h'=g/\∃b,r=.bool b:=by
 refine xP λQ u=> ?_;have n:=uI k;have l:∀b,Q (.bool b) g:=λb=>u _ _ ⟨rfl,b,rfl⟩;have m:=zCZ y f;simp only[Trm.cells]at m;refine zj zLE ?_;simp only[f359,zA]
 repeat' first|simp only[go_sem, *]|apply bc<;>intro v
 refine zY (λi fr h=>fr 0=d/\fr 1=e/\fr 5=.int .i64 (i:Int)/\h=g) b.length ow ?_ ?_ ?_
 .simp only[go_sem,zM,zV,zG]
 .rintro i fr h j p A ⟨q,s,t,c⟩
  subst c;have o:=pW k j;generalize b[i]=x at *
  simp only[Trm.cells]at o
  repeat' first|simp only[go_sem, *]|apply bc<;>intro v|(refine zD.mono (m _ _) ?_;rintro r h ⟨c,w,rfl⟩)
 .rintro fr h p ⟨q,s,t,c⟩
  subst c;exact au
def LI{a b:List Trm}{d e:D}(o:yZ 2 (wj a) d)(p:yZ 2 (wj b) e)(F:a.length<=1048576)(G:b.length<=1048576)(g:Heap):zD prog 360 [d,e] g λr h'=>h'=g/\∃n,r=.int .i64 n:=by
 refine xP λQ C=> ?_;have s:=uI o;have k:=uI p;have q:∀b,Q (.int .i64 b) g:=λb=>C _ _ ⟨rfl,b,rfl⟩;have c:=RC;simp only[Trm.cells]at c;refine zj zLF ?_;simp only[f360,zA];cases H:((a.length:Int)==(b.length:Int))with
 |false=>
  repeat' first|simp only[go_sem, *]|apply bc<;>intro j
 |true=>
 have E:a.length<=b.length:=by have:=qz.1 H;omega
 repeat' first|simp only[go_sem, *]|apply bc<;>intro j
 refine zY (λi fr h=>fr 0=d/\fr 1=e/\fr 5=.int .i64 (i:Int)/\h=g) a.length ow ?_ ?_ ?_
 .simp only[go_sem,zM,zV,zG]
 .rintro i fr h l v I ⟨z,A,B,f⟩
  subst f;have t:=pW o l;have u:=pW p (show i<b.length by omega);generalize a[i]=x at *
  generalize b[i]=y at *
  simp only[Trm.cells]at t u
  repeat' first|simp only[go_sem, *]|apply bc<;>intro j
  refine yJ kr ?_
  repeat' first|simp only[go_sem, *]|apply bc<;>intro j|(refine zD.mono (c _ _ _) ?_;rintro r h ⟨m,w,rfl⟩)
  refine yJ kr ?_
  repeat' first|simp only[go_sem, *]|apply bc<;>intro j|(refine zD.mono (c _ _ _) ?_;rintro r h ⟨m,w,rfl⟩)
 .rintro fr h v ⟨z,A,B,f⟩
  subst f;exact au
structure AltB(m:Nat)(a:Alt):Prop where
 sl:yZ 2 (wj a.ts) a.d
 len:a.ts.length<=m
 pl:uA [a.d]
def AltB.io{m:Nat}{a:Alt}(h:AltB m a):yZ 2 (wj a.ts) a.d/\a.ts.length<=m:=⟨h.sl,h.len⟩
def AltB.mono{m n:Nat}{a:Alt}(h:AltB m a)(b:m<=n):AltB n a:=⟨h.sl,zb h.len b,h.pl⟩
def kI(h:Fin sz xs d)(b:∀x∈xs,uA x):uA [d]:=by
 rcases h with⟨rfl,_⟩ |rfl
 .exact⟨rfl,by simp[qC,below],rfl⟩
 .have a:=qY (sz:=sz) b .no
  exact⟨rfl,by simp only[qC,zV];exact a.2,by simp only[qU,a.1]⟩
def AltB.of{m:Nat}(h:Fin 2 (wj ts) d)(a:ts.length<=m):AltB m ⟨ts,d⟩:=⟨h.isSl,a,kI h (Vq _)⟩
def Us{m:Nat}{a:Alt}(b:AltB m a)(nid:Nat)(h:Heap):yD prog false nid 44 1 [(0,a.d)] h=some (.sl 1 [[a.d]] .full,h):=by
 obtain⟨k1,k2,k3⟩:=zw b.sl;exact cQ a.d nid h k1 k2 k3
theorem ab{m:Nat}{l:List Alt}(hd:yZ 1 (qT l) d)(hl:l.length<=65536)(hm:m<=65536)(I:∀a∈l,yZ 2 (wj a.ts) a.d/\a.ts.length<=m)(g:Heap):zD prog 279 [d] g λr h'=>h'=g/\∃l',Fin 1 (qT l') r/\l'.length<=l.length/\∀a∈l',AltB m a:=by
 refine xU kr λcp=>xS (zD.freezeOr ?_);have v:=uh hd;refine xP λQ T=> ?_;refine zj zKi ?_;simp only[f279,zA]
 repeat' first|simp only[go_sem, *]|apply bc<;>intro B
 refine zY (λi fr h=>fr 0=d/\fr 4=.int .i64 (i:Int)/\∃all,Own g h 1 (qT all) (fr 3)/\all.length=i/\∀a∈all,AltB m a) l.length ow ?_ ?_ ?_
 .have u:∃all,Own g g 1 (qT all) .nilsl/\all.length=0/\∀a∈all,AltB m a:=⟨[],Own.start (Ext.refl g) 1,rfl,λa h=>by cases h⟩
  clear T v;simp only[go_sem,zM,zV,zG];exact u
 .rintro i fr h F ec ew ⟨f0,f4,all,q,E,f⟩
  obtain⟨o,C⟩:∃o,fr 3=o:=⟨_,rfl⟩;rw[C]at q;have a1:=p4 hd F;have ag:=I _ (zH F);have c0:=ag.2;have hj:=Kx (b:=[]) (e:=.nilsl) ag.1 (.inl ⟨rfl,rfl⟩) jO;generalize l[i]=a at *
  obtain⟨k1,k2,k3⟩:=zw ag.1;clear T I hd
  repeat' first|simp only[go_sem, *]|apply bc<;>intro B
  refine(hj _).mono ?_;rintro r h2 ⟨K,ts,b1,cf⟩;subst K;have a5:=AltB.of (m:=m) b1 (by simp at cf;omega);have bk:=Us a5;obtain⟨q1,q2,q3⟩:=zw b1.isSl;clear hj
  repeat' first|simp only[go_sem, *]|apply bc<;>intro B
  refine q.appH (ys:=qT [⟨ts,r⟩]) uG pR uK ow (sO _) (by simp[qT]) (by rw[yr,tF];unfold lim;simp[qT];omega) (by rw[yr];unfold lim;simp[qT];omega) λd' h' ba=> ?_;have cm:∃al,Own g h' 1 (qT al) d'/\al.length=i+1/\∀a∈al,AltB m a:=⟨all++ [⟨ts,r⟩],by
   have:qT (all++ [⟨ts,r⟩])=qT all++qT [⟨ts,r⟩]:=by simp[qT]
   rw[this];exact ba,by simp[E],λx hx=>by
   rcases qB.1 hx with h1|h1
   .exact f x h1
   .cases zo.1 h1;exact a5⟩
  clear q ba f;exact au
 rintro fr G ec ⟨f0,f4,all,q,E,f⟩;obtain⟨o,C⟩:∃o,fr 3=o:=⟨_,rfl⟩;rw[C]at q;have hE:=q.1;have ad:=q.isSl;have cb:=uh ad;have cl:all.length<=l.length:=ow;clear q E
 repeat' first|simp only[go_sem, *]|apply bc<;>intro B
 refine zY (λi fr h=>fr 3=o/\fr 6=.int .i64 (i:Int)/\∃out,Yg G h 1 (qT out) (fr 5)/\out.length<=i/\∀a∈out,AltB m a) all.length ow ?_ ?_ ?_
 .have u:∃out,Yg G G 1 (qT out) .nilsl/\out.length<=0/\∀a∈out,AltB m a:=⟨[],Yg.start (Ext.refl G) 1,jS,λa h=>by cases h⟩
  clear T v;simp only[go_sem,zM,zV,zG,C];exact u
 .clear C f0 f4 ec fr
  rintro i fr h F ec ew ⟨C,X,out,q,N,p⟩;obtain⟨od,S⟩:∃o,fr 5=o:=⟨_,rfl⟩;rw[S]at q;obtain⟨z1,z2,z3⟩:=q.flat;have a1:=p4 ad F;have z:=f _ (zH F);have b8:=z.len;have ca:=uI z.sl;have hB:=A3;clear T v hd I;obtain⟨L,a6⟩:∃a,all[i]=a:=⟨_,rfl⟩;rw[a6]at a1 z b8 ca
  repeat' first|simp only[go_sem, *]|apply bc<;>intro B
  refine zY (λk fr h'=>fr 3=o/\fr 6=.int .i64 (i:Int)/\fr 8=.int .i64 (k:Int)/\KO (fr 7)/\fr 5=od/\h'=h) all.length ow ?_ ?_ ?_
  .simp only[go_sem,zM,zV,zG,A3,C,X,S]
  .clear C X S fr
   rintro k fr h W b2 cv ⟨C,X,f8,⟨b7,f7⟩,S,K⟩;subst K;have a2:=p4 ad W;have Y:=f _ (zH W);have cw:=Y.len;have cx:=uI Y.sl;have b4:=Q9 z.sl Y.sl ow ow;generalize all[k]=ak at *
   clear f p q N
   repeat' first|simp only[go_sem, *]|apply bc<;>intro B
   refine yJ kr ?_
   repeat' first|simp only[go_sem, *]|apply bc<;>intro B|(refine zD.mono (b4 _) ?_;rintro r h ⟨K,w,rfl⟩)
  rintro fr h2 b2 ⟨C,X,f8,⟨b7,f7⟩,S,K⟩;subst K;cases b7 with
  |false=>
   have u:∃out,Yg G h2 1 (qT out) od/\out.length<=i+1/\∀a∈out,AltB m a:=⟨out,q,ow,p⟩;clear f p q N
   repeat' first|simp only[go_sem, *]|apply bc<;>intro B
  |true=>
  have bk:=Us z h2.next h2;obtain⟨q1,q2,q3⟩:=zw z.sl;obtain⟨d',H,M,bb,cg⟩:=q.app (P:=prog) (ys:=qT [L]) (tk:=.full) uG pR uK ow (λcs=>X2 underlying195) (sO _) (sO _) (by simp[qT]) (by rw[yr,tF];unfold lim;simp[qT];omega) (by rw[yr];unfold lim;simp[qT];omega);have E:qT [L]= [[L.d]]:=rfl;have U:qT out++qT [L]=qT (out++ [L]):=by simp[qT]
  rw[U]at bb;rw[E]at M cg;have s:∀a∈out++ [L],AltB m a:=λx hx=>by
   rcases qB.1 hx with h1|h1
   .exact p x h1
   .cases zo.1 h1;exact z
  have cu:(out++ [L]).length<=i+1:=jO;have bo:0<(out++ [L]).length:=jS;generalize out++ [L]=c at *
  obtain⟨b3,Z⟩:=bb;rcases Z with⟨_,e⟩ | ⟨id,rfl,y,hid,V,_⟩
  .exact absurd bo (by rw[show c.length=(qT c).length from(yr _).symm,e];simp)
  rw[yr]at M;have a0:IntKind.i64.wrap ((c.length:Int)-1)=((c.length-1:Nat):Int):=by rw[qP ow ow];omega
  have cc:=λh=>oz (P:=prog) (t:=44) (sz:=1) (id:=id) (off:=0) (len:=c.length) (h:=h) underlying44;clear f p q N U
  repeat' first|simp only[go_sem, *]|apply bc<;>intro B
  refine qn (λj fr h=>fr 3=o/\fr 6=.int .i64 (i:Int)/\fr 9=.int .i64 ((c.length-1-j:Nat):Int)/\fr 5=.rs id 1 0 c.length/\∃xs,xs.length=c.length/\h=H.set id (.row (qT xs).flatten)/\∀a∈xs,AltB m a) (c.length-1) ?_ ?_
  .have u:∃xs:List Alt,xs.length=c.length/\H=H.set id (.row (qT xs).flatten)/\∀a∈xs,AltB m a:=⟨c,rfl,(sC y).symm,s⟩
   clear s a0 cc;simp only[go_sem,zM,zV,zG,C,X];exact⟨by rw[tD],u⟩
  rintro j fr h hj ⟨C,X,f9,S,xs,a3,rfl,D⟩;have J:(H.set id (.row (qT xs).flatten)).at' id=some (.row (qT xs).flatten):=zW _ _ _;have aj:∃out,Yg G (H.set id (.row (qT xs).flatten)) 1 (qT out) (.rs id 1 0 c.length)/\out.length<=i+1/\∀a∈out,AltB m a:=⟨xs,⟨b3.set hid _,.inr ⟨id,by rw[yr,a3],J,hid,by rw[yY];exact V,λe=>by
   have:(qT xs).length=0:=by rw[e];rfl
   rw[yr]at this;omega⟩⟩,ow,D⟩
  obtain⟨k,hk⟩:∃k,c.length-1-j=k:=⟨_,rfl⟩;rw[hk]at f9;cases k with
  |zero=>
   have h0:decide (((0:Nat):Int)>0)=false:=rfl;clear s D a0 y M
   repeat' first|simp only[go_sem, *]|apply bc<;>intro B
   refine yJ kr ?_
   repeat' first|simp only[go_sem, *]|apply bc<;>intro B
  |succ k=>
   have h0:decide (((k+1:Nat):Int)>0)=true:=zR ow;have c4:IntKind.i64.wrap (((k+1:Nat):Int)-1)=(k:Int):=by rw[qP ow ow];omega
   have a9:k+1<xs.length:=ow;have c1:(qT xs).flatten[k+1]? =some xs[k+1].d:=by rw[pz];simp[a9]
   have c2:(qT xs).flatten[k]? =some xs[k].d:=by rw[pz];simp[show k<xs.length by omega]
   have O:=D _ (zH a9);have R:=D _ (zH (show k<xs.length by omega));have i1:yc prog 44 (.rs id 1 0 c.length) (.int .i64 ((k+1:Nat):Int))=some (.ptr id (k+1)):=by
    have:=qX (P:=prog) (sz:=1) (id:=id) uG uK (k:=.i64) (show k+1<c.length by omega)
    rwa [wn]at this
   have i2:yc prog 44 (.rs id 1 0 c.length) (.int .i64 (k:Int))=some (.ptr id k):=by
    have:=qX (P:=prog) (sz:=1) (id:=id) uG uK (k:=.i64) (show k<c.length by omega)
    rwa [wn]at this
   have a7:=LI O.sl R.sl (by have:=O.len;omega) (by have:=R.len;omega);have b5:(qT xs).flatten=xs.map Alt.d:=pz xs;have bx:((qT xs).flatten.set (k+1) xs[k].d).set k xs[k+1].d=(qT ((xs.set (k+1) xs[k]).set k xs[k+1])).flatten:=by rw[pz,pz,tC,tC]
   have bs:∀a∈(xs.set (k+1) xs[k]).set k xs[k+1],AltB m a:=λa ha=>by
    rcases tp ha with h1|rfl
    .rcases tp h1 with h2|rfl
     .exact D a h2
     .exact R
    .exact O
   have A:∀hh,hh=H.set id (.row (((qT xs).flatten.set (k+1) xs[k].d).set k xs[k+1].d))->(j<c.length-1/\∃ys:List Alt,ys.length=c.length/\hh=H.set id (.row (qT ys).flatten)/\∀a∈ys,AltB m a):=λhh e=>⟨ow,_,by rw[uE,uE];exact a3,by rw[e,bx],bs⟩;have b9:c.length-1- (j+1)=k:=ow;obtain⟨u1,u2,u3⟩:=zw O.sl;obtain⟨v1,v2,v3⟩:=zw R.sl;have a8:(qT xs).flatten.length=c.length:=by rw[pz,zI,a3]
   have ch:yW prog 195 (.ptr id (k+1)) xs[k].d (H.set id (.row (qT xs).flatten))=some (H.set id (.row ((qT xs).flatten.set (k+1) xs[k].d))):=by
    rw[yN J uK ow v1 v3,mi]
   have ck:yW prog 195 (.ptr id k) xs[k+1].d (H.set id (.row ((qT xs).flatten.set (k+1) xs[k].d)))=some (H.set id (.row (((qT xs).flatten.set (k+1) xs[k].d).set k xs[k+1].d))):=by
    rw[yN (zW _ _ _) uK (by rw[uE];omega) u1 u3,mi]
   generalize xs[k+1]=x1 at *
   generalize xs[k]=x2 at *
   clear s D a0 y M bx bs b5 a8;generalize(qT xs).flatten=row at *
   repeat' first|simp only[go_sem, *]|apply bc<;>intro B
   refine yJ kr ?_
   repeat' first|simp only[go_sem, *]|apply bc<;>intro B
   refine(a7 _).mono ?_;rintro r h3 ⟨K,n,rfl⟩;subst K;cases hn:decide (n<0)with
   |false=>
    clear A ch ck b9
    repeat' first|simp only[go_sem, *]|apply bc<;>intro B
   |true=>
    clear aj a7
    repeat' first|simp only[go_sem, *]|apply bc<;>intro B
    have A:=A _ rfl;refine yJ kr ?_;exact au
 .rintro fr h ec ⟨C,X,out,q,N,p⟩
  obtain⟨od,S⟩:∃o,fr 5=o:=⟨_,rfl⟩;rw[S]at q;obtain⟨a4,Z⟩:=q;rcases Z with⟨rfl,e⟩ | ⟨id,rfl,y,hid,V,c3⟩
  .have K:=T .nilsl h (.inl ⟨hE.trans a4,by simp[qM,below],[],.inl ⟨rfl,rfl⟩,jS,λa h=>by cases h⟩)
   clear T v hd I f p;exact au
  .have b6:frz id (qT out).flatten (.rs id 1 0 (qT out).length)=.sl 1 (qT out) .no:=XN (rest:=[]) (sO _) rfl jS
   have u:=qY (sz:=1) (xs:=qT out) (λx hx=>by
    obtain⟨a,ha,rfl⟩:=zS.1 hx;exact(p a ha).pl) .no
   have K:=T (.rs id 1 0 (qT out).length) h (.inr ⟨id,_,y,by
    rw[b6,u.1];exact⟨(hE.trans a4).del (by have:=hE.1;omega),qQ (yM _) _ u.2,out,.inr rfl,ow,p⟩⟩)
   clear T v hd I f p;exact au
def RF{m:Nat}{a b:List Alt}{d e:D}(A:yZ 1 (qT a) d)(B:yZ 1 (qT b) e)(H:a.length+b.length<=65536)(E:m<=65536)(o:∀x∈a,yZ 2 (wj x.ts) x.d/\x.ts.length<=m)(z:∀x∈b,yZ 2 (wj x.ts) x.d/\x.ts.length<=m)(g:Heap):zD prog 280 [d,e] g λr h'=>h'=g/\∃k,Fin 1 (qT k) r/\k.length<=a.length+b.length/\∀x∈k,AltB m x:=by
 refine xU kr λt=> ?_;refine xP λQ y=> ?_;have c:∀h l d,Own g h 1 (qT l) d->l.length=a.length+b.length->(∀x∈l,yZ 2 (wj x.ts) x.d/\x.ts.length<=m)->zD prog 279 [d] h λr h'=>Q r h':=λh l d s C j=>(ab (m:=m) s.isSl ow E j h).mono λr h' ⟨F,k,u,J,v⟩=>by
  subst F;refine y _ _ ⟨s.1,?_,k,u,ow,v⟩;have:=kI u (λx j=>by
   obtain⟨a,o,rfl⟩:=zS.1 j;exact(v a o).pl)
  have n:=this.2.1;simp only[qC,zV]at n;exact qQ (yM _) _ n
 have h0:=Own.start (Ext.refl g) 1;refine zj zKj ?_;simp only[f280,zA];simp only[go_sem, *];refine h0.appI (ys:=qT a) uG pR uK ow (sO _) A (by rw[yr,tF];unfold lim;simp;omega) (by rw[yr];unfold lim;simp;omega) λG h1 f=> ?_;rw[yU]at f;simp only[go_sem, *];refine f.appI (ys:=qT b) uG pR uK ow (sO _) B (by rw[yr,yr,tF];unfold lim;omega) (by rw[yr,yr];unfold lim;omega) λw n i=> ?_;have p:qT a++qT b=qT (a++b):=by simp[qT]
 rw[p]at i;have I:=c n (a++b) w i jS (λx j=>by
  rcases qB.1 j with q|q
  .exact o x q
  .exact z x q)
 exact au
def B0{m n:Nat}{a b:List Alt}{d e:D}(M:yZ 1 (qT a) d)(V:yZ 1 (qT b) e)(N:a.length<=64)(O:b.length<=64)(hm:m+n<=65536)(H:∀x∈a,AltB m x)(hb:∀x∈b,AltB n x)(g:Heap):zD prog 281 [d,e] g λr h'=>h'=g/\∃G,Fin 1 (qT G) r/\G.length<=a.length*b.length/\∀x∈G,AltB (m+n) x:=by
 have L:a.length*b.length<=4096:=zb (lT N O) ow;refine xU kr λX=> ?_;refine xP λQ T=> ?_;have p:∀h l d,Own g h 1 (qT l) d->l.length=a.length*b.length->(∀x∈l,AltB (m+n) x)->zD prog 279 [d] h λr h'=>Q r h':=λh l d j ak F=>(ab (m:=m+n) j.isSl ow hm (λx h=>(F x h).io) h).mono λr h' ⟨q1,G,S,q3,q4⟩=>by
  subst q1;refine T _ _ ⟨j.1,?_,G,S,ow,q4⟩;have:=kI S (λx F=>by
   obtain⟨a,H,rfl⟩:=zS.1 F;exact(q4 a H).pl)
  have K:=this.2.1;simp only[qC,zV]at K;exact qQ (yM _) _ K
 have P:=uh M;have R:=uh V;clear T;refine zj zKk ?_;simp only[f281,zA];simp only[go_sem, *];refine zY (λi fr h=>fr 0=d/\fr 1=e/\fr 6=.int .i64 (i:Int)/\∃all,Own g h 1 (qT all) (fr 5)/\all.length=i*b.length/\∀x∈all,AltB (m+n) x) a.length ow ?_ ?_ ?_
 .have q:∃all,Own g g 1 (qT all) .nilsl/\all.length=0*b.length/\∀x∈all,AltB (m+n) x:=⟨[],Own.start (Ext.refl g) 1,jS,λa h=>by cases h⟩
  clear p;simp only[go_sem,zM,zV,zG];exact q
 .rintro i fr h w ec ew ⟨y,z,A,all,j,f,c⟩
  obtain⟨o,s⟩:∃o,fr 5=o:=⟨_,rfl⟩;rw[s]at j;have a1:=p4 M w;have v:=H _ (zH w);have aj:i*b.length+b.length<=4096:=by rw[<-qh];exact zb (yg _ w) L
  generalize a[i]=ai at *
  obtain⟨k1,k2,k3⟩:=zw v.sl;have U:=v.len;have q:∃all,Own g h 1 (qT all) o/\all.length=i*b.length+0/\∀x∈all,AltB (m+n) x:=⟨all,j,f,c⟩;clear p H M j f c;simp only[go_sem, *];refine zY (λk fr h=>fr 0=d/\fr 1=e/\fr 6=.int .i64 (i:Int)/\fr 7=.int .i64 (k:Int)/\∃all,Own g h 1 (qT all) (fr 5)/\all.length=i*b.length+k/\∀x∈all,AltB (m+n) x) b.length ow ?_ ?_ ?_
  .simp only[go_sem,zM,zV,zG,y,z,s,A]
   exact q
  .clear y z s A q fr h
   rintro k fr h u J ad ⟨y,z,A,f7,all,j,f,c⟩;obtain⟨o,s⟩:∃o,fr 5=o:=⟨_,rfl⟩;rw[s]at j;have a2:=p4 V u;have B:=hb _ (zH u);have ag:=B.len;have W:=Kx v.sl B.sl ow;generalize b[k]=bk at *
   simp only[go_sem, *];refine yJ kr ?_;simp only[go_sem, *];refine(W _).mono ?_;rintro r K ⟨Z,I,E,a0⟩;subst Z;have t:=AltB.of (m:=m+n) E ow;have Y:=Us t;obtain⟨q1,S,q3⟩:=zw E.isSl;clear W;simp only[go_sem, *];refine j.appH (ys:=qT [⟨I,r⟩]) uG pR uK ow (sO _) (by simp[qT]) (by rw[yr,tF];unfold lim;simp[qT];omega) (by rw[yr];unfold lim;simp[qT];omega) λd' h' C=> ?_;have p:∃al,Own g h' 1 (qT al) d'/\al.length=i*b.length+(k+1)/\∀a∈al,AltB (m+n) a:=⟨all++ [⟨I,r⟩],by
    have:qT (all++ [⟨I,r⟩])=qT all++qT [⟨I,r⟩]:=by simp[qT]
    rw[this];exact C,jO,λx F=>by
    rcases qB.1 F with h1|h1
    .exact c x h1
    .cases zo.1 h1;exact t⟩
   clear j C c f;exact au
  .clear y z s A q fr h
   rintro fr h J ⟨y,z,A,f7,all,j,f,c⟩;obtain⟨o,s⟩:∃o,fr 5=o:=⟨_,rfl⟩;rw[s]at j;have q:∃all,Own g h 1 (qT all) o/\all.length=(i+1)*b.length/\∀x∈all,AltB (m+n) x:=⟨all,j,by rw[qh];exact f,c⟩;clear j f c;exact au
 .rintro fr h ec ⟨y,z,A,all,j,f,c⟩
  obtain⟨o,s⟩:∃o,fr 5=o:=⟨_,rfl⟩;rw[s]at j;have Z:=p h all o j f c;clear p j f c;exact au
def B6:∀(n:Nat){e:Ex},e.size<=n->e.Ok->e.size<=1048576->∀g:Heap,zD prog 354 [.agg e.cells] g λr h'=>h'=g/\IsI r:=by
 intro n
 induction n with
 |zero=>intro e h;cases e;simp only[Ex.size]at h;omega
 |succ n B=>
 intro e y b m g;obtain⟨k,C,x,l,d⟩:=e;simp only[Ex.size,Ex.Ok]at y b m;obtain⟨o,G,_,_,c⟩:=b;have p:=pZ o;have F:=isI;refine zj zLA ?_;simp only[f354,zA];simp only[Ex.cells,Ex.kind,Ex.name,Ex.exc,Ex.d]
 repeat' first|simp only[go_sem, *]|apply bc<;>intro v
 refine zY (λi fr h=>fr 1=.iptr [.int .i64 k,.str C,.str x,d] 0/\fr 4=.int .i64 (i:Int)/\IsI (fr 3)/\h=g) l.length ow ?_ ?_ ?_
 .simp only[go_sem,zM,zV,zG,isI]
 .rintro i fr h a q E ⟨s,u,⟨z,t⟩,j⟩
  have D:=l9 o a;have f:l[i]∈l:=zH a;have j:=B (e:=l[i]) (by have:=wu f;omega) (pa c _ f) (by have:=wu f;omega)
  repeat' first|simp only[go_sem, *]|apply bc<;>intro v|(refine zD.mono (j _) ?_;rintro r h ⟨A,w,rfl⟩)
 .rintro fr h q ⟨s,u,⟨z,t⟩,j⟩
  exact au
def GS:∀(n:Nat){e:Ex},e.size<=n->e.Ok->e.size<=1048576->∀g:Heap,zD prog 355 [.agg e.cells] g λr h'=>h'=g/\IsI r:=by
 intro n
 induction n with
 |zero=>intro e h;cases e;simp only[Ex.size]at h;omega
 |succ n B=>
 intro e y b o g;obtain⟨k,C,x,l,d⟩:=e;simp only[Ex.size,Ex.Ok]at y b o;obtain⟨p,H,_,_,f⟩:=b;have q:=pZ p;have F:=isI;refine zj zLB ?_;simp only[f355,zA];simp only[Ex.cells,Ex.kind,Ex.name,Ex.exc,Ex.d];simp only[go_sem, *];refine zY (λi fr h=>fr 1=.iptr [.int .i64 k,.str C,.str x,d] 0/\fr 4=.int .i64 (i:Int)/\IsI (fr 3)/\h=g) l.length ow ?_ ?_ ?_
 .simp only[go_sem,zM,zV,zG,isI]
 .rintro i fr h a s E ⟨t,v,⟨z,u⟩,m⟩
  have D:=l9 p a;have j:l[i]∈l:=zH a;have m:=B (e:=l[i]) (by have:=wu j;omega) (pa f _ j) (by have:=wu j;omega);simp only[go_sem, *];refine(m _).mono ?_;rintro r h ⟨A,w,rfl⟩;obtain⟨c,G⟩:=zHX z w;exact au
 .rintro fr h s ⟨t,v,⟨z,u⟩,m⟩
  exact au
def GT:∀(n:Nat){e:Ex},e.size<=n->e.Ok->e.size<=1048576->∀{e2:Ex},e2.Ok->∀g:Heap,zD prog 351 [.agg e.cells,.agg e2.cells] g λr h'=>h'=g/\KO r:=by
 intro n
 induction n with
 |zero=>intro e h;cases e;simp only[Ex.size]at h;omega
 |succ n R=>
 intro e N m y e2 a g;refine xP λQ K=> ?_;have B:∀n,Q (.bool n) g:=λn=>K _ _ ⟨rfl,n,rfl⟩;obtain⟨k,S,x,l,d⟩:=e;obtain⟨k2,z,T,p,F⟩:=e2;simp only[Ex.size,Ex.Ok]at N m y a;obtain⟨A,W,_,_,s⟩:=m;obtain⟨c,M,_,_,f⟩:=a;have C:=pZ A;have t:=pZ c;have V:=A3;refine zj zK7 ?_;simp only[f351,zA];simp only[Ex.cells,Ex.kind,Ex.name,Ex.exc,Ex.d];cases O:((l.length:Int)==(p.length:Int))with
 |false=>
  repeat' first|simp only[go_sem, *]|apply bc<;>intro q
 |true=>
 have L:l.length<=p.length:=by have:=qz.1 O;omega
 repeat' first|simp only[go_sem, *]|apply bc<;>intro q
 refine zY (λi fr h=>fr 2=.iptr [.int .i64 k,.str S,.str x,d] 0/\fr 3=.iptr [.int .i64 k2,.str z,.str T,F] 0/\fr 5=.int .i64 (i:Int)/\h=g) l.length ow ?_ ?_ ?_
 .simp only[go_sem,zM,zV,zG]
 .rintro i fr h j G U ⟨H,I,J,b⟩
  subst b;have D:=l9 A j;have E:=l9 c (show i<p.length by omega);have u:l[i]∈l:=zH j;have v:p[i]'ow∈p:=zH ow;have o:=R (e:=l[i]) (by have:=wu u;omega) (pa s _ u) (by have:=wu u;omega) (pa f _ v);simp only[Ex.cells]at D E o
  repeat' first|simp only[go_sem, *]|apply bc<;>intro q
  refine yJ kr ?_
  repeat' first|simp only[go_sem, *]|apply bc<;>intro q|(refine zD.mono (o _) ?_;rintro r h ⟨P,w,rfl⟩)
 .rintro fr h G ⟨H,I,J,b⟩
  subst b;exact au
def Kz(s:List UInt8)(b:s.length<=1048576)(g:Heap):zD prog 392 [.str s] g λr h'=>h'=g/\KO r:=by
 refine xP λQ e=> ?_;have a:∀n,Q (.bool n) g:=by grind [KO]
 have c:=kp s b;refine zj zLK ?_;simp only[f392,zA]
 repeat' first|simp only[go_sem, *]|apply bc<;>intro f|(refine zD.mono (c _) ?_;rintro r h ⟨d,w,rfl⟩)
mutual
def Ex.Kd:Ex->Prop
 |.mk k _ _ l _=>(0<=k/\k<=3)/\kdL l
def kdL:List Ex->Prop
 | []=>True
 |e::l=>e.Kd/\kdL l
end
theorem PV:∀{l:List Ex},kdL l↔∀e∈l,e.Kd
 | []=>by simp[kdL]
 |x::l=>by simp[kdL,PV (l:=l)]
def B3:∀(n:Nat){e:Ex},e.size<=n->e.Ok->e.size<=1048576->∀g:Heap,zD prog 356 [.agg e.cells] g λr h'=>h'=g/\∃n,r=.int .i64 n/\(n=0->e.Kd):=by
 intro n
 induction n with
 |zero=>intro e h;cases e;simp only[Ex.size]at h;omega
 |succ n R=>
 intro e t u D g;refine xP λQ F=> ?_;have a:∀n,(n==0)=false->Q (.int .i64 n) g:=λn t=>F _ _ ⟨rfl,n,rfl,λq=>by simp[q]at t⟩;have E:=a 1 rfl;have T:=a 2 rfl;obtain⟨k,I,x,l,d⟩:=e;simp only[Ex.size,Ex.Ok]at t u D;obtain⟨G,U,y,z,v⟩:=u;have H:=pZ G;have B:=Kz I y;have C:=Kz x z;cases k1:decide (k<0)with
 |true=>
  refine zj zAM ?_;simp only[f356,zA];simp only[Ex.cells,Ex.kind,Ex.name,Ex.exc,Ex.d]
  repeat' first|simp only[go_sem, *]|apply bc<;>intro o
 |false=>
 cases k2:decide (k>3)with
 |true=>
  refine zj zAM ?_;simp only[f356,zA];simp only[Ex.cells,Ex.kind,Ex.name,Ex.exc,Ex.d]
  repeat' first|simp only[go_sem, *]|apply bc<;>intro o
 |false=>
 have b:(∀e∈l,e.Kd)->Q (.int .i64 0) g:=λO=>F _ _ ⟨rfl,0,rfl,λ_=>by
  rw[Ex.Kd];have:=yA k1;have:=yA k2;exact⟨ow,PV.2 O⟩⟩
 refine zj zAM ?_;simp only[f356,zA];simp only[Ex.cells,Ex.kind,Ex.name,Ex.exc,Ex.d]
 repeat' first|simp only[go_sem, *]|apply bc<;>intro o|(refine zD.mono (B _) ?_;rintro r h ⟨c,w,rfl⟩)|(refine zD.mono (C _) ?_;rintro r h ⟨c,w,rfl⟩)
 all_goals
  refine zY (λi fr h=>fr 1=.iptr [.int .i64 k,.str I,.str x,d] 0/\fr 3=.int .i64 (i:Int)/\h=g/\∀j (f:j<l.length),j<i->l[j].Kd) l.length ow ?_ ?_ ?_
  .simp only[go_sem,zM,zV,zG]
   exact λj f h0=>by omega
  .rintro i fr h s K S ⟨E,L,m,f⟩
   subst m;have J:=l9 G s;have A:l[i]∈l:=zH s;have m:=R (e:=l[i]) (by have:=wu A;omega) (pa v _ A) (by have:=wu A;omega);simp only[Ex.cells]at J m
   repeat' first|simp only[go_sem, *]|apply bc<;>intro o
   refine(m _).mono ?_;rintro r h ⟨c,w,rfl,P⟩;subst c;cases w0:(w==0)with
   |false=>
    have hf:=a w w0
    repeat' first|simp only[go_sem, *]|apply bc<;>intro o
   |true=>
    have t:∀j (f:j<l.length),j<i+1->l[j].Kd:=λj h1 M=>by
     rcases zp.1 M with h|rfl
     .exact f j h1 h
     .exact P (by simpa using w0)
    repeat' first|simp only[go_sem, *]|apply bc<;>intro o
    exact t
  .rintro fr h K ⟨E,L,m,f⟩
   subst m;have hf:=b λe N=>by
    obtain⟨j,p,rfl⟩:=zz.1 N;exact f j p p
   exact au
def RE(a:e.Ok)(c:e.size<=1048576)(g:Heap):zD prog 277 [.agg e.cells] g λr h'=>h'=g/\∃n,r=.int .i64 n/\(n=0->e.Kd):=by
 refine xP λQ f=> ?_;have h1:=B6 _ (zC _) a c;have i:=GS _ (zC _) a c;have h3:=B3 _ (zC _) a c;have l:Q (.int .i64 10) g:=f _ _ ⟨rfl,10,rfl,λq=>by cases q⟩;have m:Q (.int .i64 11) g:=f _ _ ⟨rfl,11,rfl,λq=>by cases q⟩;simp only[Ex.cells]at h1 i h3⊢;have d:∀n,(n=0->e.Kd)->Q (.int .i64 n) g:=λn j=>f _ _ ⟨rfl,n,rfl,j⟩;refine zj zKg ?_;simp only[f277,zA]
 repeat' first|simp only[go_sem, *]|apply bc<;>intro o|(refine zD.mono (h1 _) ?_;rintro r h ⟨b,w,rfl⟩)|(refine zD.mono (i _) ?_;rintro r h ⟨b,w,rfl⟩)
 refine(h3 _).mono ?_;rintro r h ⟨b,w,rfl,k⟩;subst b;have hf:=d w k;exact au
def GV(f:uB c d)(z:c.Sm)(t:Trm)(g:Heap):zD prog 316 [d,.agg t.cells] g λr h'=>h'=g/\∃q b,r=.tuple [q,.bool b]:=by
 refine xP λQ y=> ?_;have m:∀q b,Q (.tuple [q,.bool b]) g:=λq b=>y _ _ ⟨rfl,q,b,rfl⟩;obtain⟨a,b,e,p,rfl,C,l,D,E⟩:=f;have n:=fe l;have A:=z.es.1;simp only[Trm.cells];refine zj zKw ?_;simp only[f316,zA];cases h0:(t.b== [])with
 |true=>
  repeat' first|simp only[go_sem, *]|apply bc<;>intro f
 |false=>
 repeat' first|simp only[go_sem, *]|apply bc<;>intro f
 refine zY (λi fr h=>fr 2=.iptr [a,b,e,p] 0/\fr 3=.iptr [.str t.a,.str t.b] 0/\fr 6=.int .i64 (i:Int)/\h=g) c.es.length ow ?_ ?_ ?_
 .simp only[go_sem,zM,zV,zG]
 .rintro i fr h j s B ⟨u,v,w,k⟩
  subst k;have o:=cE l j;generalize c.es[i]=x at *
  simp only[Exc.cells]at o
  repeat' first|simp only[go_sem, *]|apply bc<;>intro f
  refine yJ kr ?_;exact au
 .rintro fr h s ⟨u,v,w,k⟩
  subst k;exact au
def GU(f:uB c d)(j:c.Sm)(t:Trm)(g:Heap):zD prog 357 [d,.agg t.cells] g λr h'=>h'=g/\KO r:=by
 refine xP λQ m=> ?_;have l:∀b,Q (.bool b) g:=λb=>m _ _ ⟨rfl,b,rfl⟩;have h1:=nn f j;have k:=gI f j t.a;have h3:=GV f j t;obtain⟨a,b,e,p,rfl,s,u,v,x⟩:=f;simp only[Trm.cells]at h3⊢;generalize UT _ _=z at k;refine zj zLC ?_;simp only[f357,zA]
 repeat' first|simp only[go_sem, *]|apply bc<;>intro f
 refine(h1 _).mono ?_;rintro r h ⟨o,n,rfl,_⟩;subst o
 repeat' first|simp only[go_sem, *]|apply bc<;>intro f|(refine zD.mono (k _) ?_;rintro r h ⟨i,rfl⟩)|(refine zD.mono (h3 _) ?_;rintro r h ⟨i,q,w,rfl⟩)
def Ky{v:D}(f:uB c v)(L:c.Sm):∀(n:Nat){e:Ex},e.size<=n->e.Ok->e.size<=1048576->∀g:Heap,zD prog 278 [v,.agg e.cells] g λr h'=>h'=g/\KO r:=by
 intro n
 induction n with
 |zero=>intro e h;cases e;simp only[Ex.size]at h;omega
 |succ n N=>
 intro e K p u g;refine xP λQ H=> ?_;have z:∀n,Q (.bool n) g:=λn=>H _ _ ⟨rfl,n,rfl⟩;have m:=λa b=>GU f L ⟨a,b⟩;obtain⟨ca,cb,ce,cp,rfl,_,_,_,_⟩:=f;obtain⟨k,O,x,l,d⟩:=e;simp only[Ex.size,Ex.Ok]at K p u;obtain⟨y,R,I,J,q⟩:=p;have A:=pZ y;have M:∀a b:List UInt8,qW prog 197 [(0,.str a),(1,.str b)]=some (.agg [.str a,.str b]):=λa b=>by simp[qW,oc,sH,ua,wS,D.notTuple,D.cells]
 simp only[Trm.cells]at m;refine zj zKh ?_;simp only[f278,zA];simp only[Ex.cells,Ex.kind,Ex.name,Ex.exc,Ex.d];cases h0:decide (k<2)with
 |true=>
  repeat' first|simp only[go_sem, *]|apply bc<;>intro f|(refine zD.mono (m _ _ _) ?_;rintro r h ⟨t,w,rfl⟩)
 |false=>
 repeat' first|simp only[go_sem, *]|apply bc<;>intro f
 refine zY (λi fr h=>fr 2=.iptr [ca,cb,ce,cp] 0/\fr 3=.iptr [.int .i64 k,.str O,.str x,d] 0/\fr 5=.int .i64 (i:Int)/\h=g) l.length ow ?_ ?_ ?_
 .simp only[go_sem,zM,zV,zG]
 .rintro i fr h o C P ⟨E,F,G,j⟩
  subst j;have B:=l9 y o;have s:l[i]∈l:=zH o;have j:=N (e:=l[i]) (by have:=wu s;omega) (pa q _ s) (by have:=wu s;omega);simp only[Ex.cells]at B j
  repeat' first|simp only[go_sem, *]|apply bc<;>intro f
  refine yJ kr ?_
  repeat' first|simp only[go_sem, *]|apply bc<;>intro f|(refine zD.mono (j _) ?_;rintro r h ⟨t,w,rfl⟩)
 .rintro fr h C ⟨E,F,G,j⟩
  subst j;exact au
def RD{i:D}(a:uB c i)(k:c.Sm)(d:e.Ok)(f:e.size<=1048576)(g:Heap):zD prog 224 [i,.agg e.cells] g λr h'=>h'=g/\∃n,r=.int .i64 n/\(n=0->e.Kd):=by
 refine xP λQ u=> ?_;have s:Q (.int .i64 1) g:=by grind
 have t:Q (.int .i64 7) g:=by grind
 have h1:=nn a k;have l:=RE d f;have h3:=Ky a k _ (zC _) d f;obtain⟨ca,cb,ce,cp,rfl,_,_,_,_⟩:=a;have b:∀n,(n=0->e.Kd)->Q (.int .i64 n) g:=by grind
 refine zj zKR ?_;simp only[f224,zA]
 repeat' first|simp only[go_sem, *]|apply bc<;>intro a
 refine(h1 _).mono ?_;rintro r h ⟨p,n,rfl,_⟩;cases v:(n==0)with
 |false=>
  repeat' first|simp only[go_sem, *]|apply bc<;>intro a
 |true=>
 repeat' first|simp only[go_sem, *]|apply bc<;>intro a
 refine(l _).mono ?_;rintro r h ⟨p,m,rfl,j⟩;have hf:=b m j;cases m0:(m==0)with
 |false=>
  repeat' first|simp only[go_sem, *]|apply bc<;>intro a
 |true=>
 have o:=b 0 λ_=>j (by simpa using m0)
 repeat' first|simp only[go_sem, *]|apply bc<;>intro a|(refine zD.mono (h3 _) ?_;rintro r h ⟨q,w,rfl⟩)
def zHr(k:Int)(i n:Nat):Prop:=n<=64*i/\(k=2->n<=64)
def Th(m:Nat)(r:D):Prop:=∃q b,r=.tuple [q,.bool b]/\∃l,Fin 1 (qT l) q/\(b=true->l.length<=64)/\∀a∈l,AltB m a
def Yk{m:Nat}{l:List Alt}(h:∀a∈l,AltB m a):∀x∈qT l,uA x:=λx c=>by
 obtain⟨a,b,rfl⟩:=zS.1 c;exact(h a b).pl
def Th.pl{m:Nat}{r:D}(h:Th m r)(n:Nat):qM r=r/\below n r:=by
 obtain⟨q,b,rfl,l,hf,_,c⟩:=h;obtain⟨h1,a,h3⟩:=kI hf (Yk c);simp only[qC,zV]at a;simp only[qU,rL,zV]at h3;exact⟨by simp[qM,qU,h3],by simp only[below,qC,zV];exact qQ (yM _) _ a⟩
def Th.none(m:Nat):Th m (.tuple [.nilsl,.bool false]):=⟨.nilsl,false,rfl,[],.inl ⟨rfl,rfl⟩,(λq=>by cases q),(λa h=>by cases h)⟩
def FJ(s x:List UInt8)(nid:Nat)(h:Heap):yD prog false nid 195 1 [(0,.agg [.str s,.str x])] h=some (.sl 2 [[.str s,.str x]] .full,h):=qd wp sH uO rfl rfl ow ow rfl rfl
def FU{l:List Ex}(a:i<l.length):qR (l.take (i+1))=qR (l.take i)+l[i].size:=by rw[zP a,dB]
def U9(l:List Ex)(i:Nat):qR (l.take i)<=qR l:=by
 have a:=bt (l.take i) (l.drop i);rw[qg]at a;omega
theorem B4{D0:D}(hc:uB c D0)(hs:c.Sm)(ai:c.ls.length<=40):∀(n:Nat){e:Ex},e.size<=n->e.Ok->e.Kd->e.size<=120->∀g:Heap,zD prog 225 [D0,.agg e.cells] g λr h'=>h'=g/\Th e.size r:=by
 intro n
 induction n with
 |zero=>intro e h;cases e;simp only[Ex.size]at h;omega
 |succ n ih=>
 intro e hn Y T a8 g;refine xU kr λbo=>xS ?_;refine xP λQ hQ=> ?_;have a3:=Wz hc hs ai;obtain⟨ca,cb,ce,cp,rfl,_,_,_,_⟩:=hc;obtain⟨k,nm,x,l,d⟩:=e;have hR:(Ex.mk k nm x l d).size=qR l+1:=by simp only[Ex.size]
 rw[hR]at hQ hn a8;simp only[Ex.Ok,Ex.Kd]at Y T;obtain⟨hd,hl,_,_,a2⟩:=Y;obtain⟨⟨b1,b2⟩,a0⟩:=T;have I:∀r h,Ext g h->Th (qR l+1) r->Q r h:=λr h N hr=>hQ _ _ ⟨N,by rw[(hr.pl 0).1];exact(hr.pl _).2,by rw[(hr.pl 0).1];exact hr⟩;have C:=λh N=>I _ h N (Th.none _);have bk:=pZ hd;have b9:∀a b:List UInt8,qW prog 197 [(0,.str a),(1,.str b)]=some (.agg [.str a,.str b]):=λa b=>by simp[qW,oc,sH,ua,wS,D.notTuple,D.cells]
 have bs:∀a:List UInt8,qW prog 197 [(0,.str a)]=some (.agg [.str a,.str []]):=λa=>by simp[qW,oc,sH,ua,wS,D.notTuple,D.cells]
 have b6:=FJ;have b7:=λs x nid h=>cQ (.sl 2 [[.str s,.str x]] .full) nid h rfl rfl rfl;cases k0:(k==0)with
 |true=>
  have f:Q (.tuple [.sl 1 [[.sl 2 [[.str nm,.str x]] .full]] .full,.bool true]) g:=hQ _ _ ⟨Ext.refl g,by simp[qM,qU,oJ,below,qC,oG],by
   refine⟨.sl 1 (qT [mkA [⟨nm,x⟩]]) .no,true,by simp[qM,qU,oJ,qT,mkA,wj,Trm.cells],_,.inr rfl,λ_=>by simp,λa ha=> ?_⟩;cases zo.1 ha;exact⟨.inr ⟨_,rfl⟩,by simp[mkA],bf _⟩⟩
  refine zj zAL ?_;simp only[f225,zA];simp only[Ex.cells,Ex.kind,Ex.name,Ex.exc,Ex.d];simp only[go_sem, *]
 |false=>
 cases k1:(k==1)with
 |true=>
  refine zj zAL ?_;simp only[f225,zA];simp only[Ex.cells,Ex.kind,Ex.name,Ex.exc,Ex.d];simp only[go_sem, *];refine(a3 _ _).mono ?_;rintro r h ⟨f,ps,q,m,rfl,ad,b8⟩;subst f;have b5:=wO ad;simp only[go_sem, *];refine zY (λi fr h'=>fr 7=q/\fr 9=.int .i64 (i:Int)/\∃all,Own h h' 1 (qT all) (fr 6)/\all.length=i/\∀a∈all,yZ 2 (wj a.ts) a.d/\a.ts.length<=qR l+1) ps.length ow ?_ ?_ ?_
  .have u:∃all,Own h h 1 (qT all) .nilsl/\all.length=0/\∀a∈all,yZ 2 (wj a.ts) a.d/\a.ts.length<=qR l+1:=⟨[],Own.start (Ext.refl h) 1,rfl,λa h=>by cases h⟩
   simp only[go_sem,zM,zV,zG];exact u
  .rintro i fr h2 B ec ew ⟨f7,f9,all,p,J,A⟩
   obtain⟨o,H⟩:∃o,fr 6=o:=⟨_,rfl⟩;rw[H]at p;have a1:=sP ad B;generalize ps[i]=s at *
   simp only[go_sem, *];refine p.appH (ys:=qT [⟨[⟨s,[]⟩],.sl 2 [[.str s,.str []]] .full⟩]) uG pR uK ow (sO _) (by simp[qT]) (by rw[yr,tF];unfold lim;simp[qT];omega) (by rw[yr];unfold lim;simp[qT];omega) λd' h' a7=> ?_;have bb:∃al,Own h h' 1 (qT al) d'/\al.length=i+1/\∀a∈al,yZ 2 (wj a.ts) a.d/\a.ts.length<=qR l+1:=⟨all++ [⟨[⟨s,[]⟩],.sl 2 [[.str s,.str []]] .full⟩],by
    have:∀z:Alt,qT (all++ [z])=qT all++qT [z]:=λz=>by simp[qT]
    rw[this];exact a7,by simp[J],λx hx=>by
    rcases qB.1 hx with h1|h1
    .exact A x h1
    .cases zo.1 h1;exact⟨.inr ⟨_,rfl⟩,jS⟩⟩
   exact au
  .rintro fr h2 ec ⟨f7,f9,all,p,J,A⟩
   obtain⟨o,H⟩:∃o,fr 6=o:=⟨_,rfl⟩;rw[H]at p;have a6:=ab (m:=qR l+1) p.isSl ow ow A;have W:=uh p.isSl;rw[J]at W;have N:=p.1;have ba:all.length<=ps.length:=ow;simp only[go_sem, *];refine(a6 _).mono ?_;rintro r h3 ⟨f,l',hf,b3,aj⟩;subst f;have f:=I (.tuple [r,.bool (decide ((ps.length:Int)<=64))]) h3 N ⟨r,_,rfl,l',hf,λq=>by have:=yE q;omega,aj⟩;simp only[go_sem, *]
 |false=>
 have hk:k=2\/k=3:=by
  have h0:k≠0:=by simpa using k0
  have h1:k≠1:=by simpa using k1
  omega
 have b4:l.length<=120:=by
  have:∀l:List Ex,l.length<=qR l:=λl=>by
   induction l with
   |nil=>simp
   |cons e l ih=>simp only[qR,zx];cases e;simp only[Ex.size];omega
  have:=this l;omega
 have U:∀i (hi:i<l.length) g,zD prog 225 [.agg [ca,cb,ce,cp],.agg l[i].cells] g λr h'=>h'=g/\Th l[i].size r:=λi hi=>by
  have hm:=zH hi;have:=wu hm;exact ih ow (pa a2 _ hm) (PV.1 a0 _ hm) ow
 refine zj zAL ?_;simp only[f225,zA];simp only[Ex.cells,Ex.kind,Ex.name,Ex.exc,Ex.d];simp only[go_sem, *];refine zY (λi fr h=>fr 2=.iptr [ca,cb,ce,cp] 0/\fr 3=.iptr [.int .i64 k,.str nm,.str x,d] 0/\fr 10=.int .i64 (i:Int)/\h=g/\∃out,Fin 1 (qT out) (fr 6)/\zHr k i out.length/\∀a∈out,AltB (qR (l.take i)) a) l.length ow ?_ ?_ ?_
 .have u:∃out,Fin 1 (qT out) .nilsl/\zHr k 0 out.length/\∀a∈out,AltB (qR (l.take 0)) a:=⟨[],.inl ⟨rfl,rfl⟩,⟨jS,λ_=>by simp⟩,λa h=>by cases h⟩
  simp only[go_sem,zM,zV,zG];exact u
 .rintro i fr h B ec ew ⟨f2,f3,ag,f,out,p,F,j⟩
  subst f;obtain⟨o,H⟩:∃o,fr 6=o:=⟨_,rfl⟩;rw[H]at p;have a1:=l9 hd B;have S:=U i B;have a9:=FU B;have a4:=U9 l (i+1);have C:=C h (Ext.refl h);generalize l[i]=y at *
  simp only[Ex.cells]at a1 S;rw[a9]at a4⊢;simp only[go_sem, *];refine yJ kr ?_;simp only[go_sem, *];refine(S _).mono ?_;rintro r h2 ⟨f,q,b,rfl,l2,L,M,O⟩;subst f;cases b with
  |false=>
   simp only[go_sem, *]
  |true=>
  have M:=M rfl;have E:∀a∈out,AltB (qR (l.take i)+y.size) a:=λa h=>(j a h).mono ow;have G:∀a∈l2,AltB (qR (l.take i)+y.size) a:=λa h=>(O a h).mono ow;rcases hk with rfl|rfl
  .have X:out.length<=64:=F.2 rfl
   have P:∀r v,Fin 1 (qT v) r->(∀a∈v,AltB (qR (l.take i)+y.size) a)->v.length<=64->∃out,Fin 1 (qT out) r/\zHr 2 (i+1) out.length/\∀a∈out,AltB (qR (l.take i)+y.size) a:=λr v q1 q2 q3=>⟨v,q1,⟨ow,λ_=>q3⟩,q2⟩;cases i0:((i:Int)==0)with
   |true=>
    have bx:i<=0:=by have:=qz.1 i0;omega
    have Z:=F.1;have K:=RF (m:=qR (l.take i)+y.size) p.isSl L.isSl ow ow (λa h=>(E a h).io) (λa h=>(G a h).io);simp only[go_sem, *];refine(K _).mono ?_;rintro r h3 ⟨f,v,t,V,w⟩;subst f;have u:=P r v t w ow;have a5:=uh t.isSl;have R:decide ((v.length:Int)>64)=false:=zN ow;simp only[go_sem, *]
   |false=>
    have ak:=B0 (m:=qR (l.take i)) (n:=y.size) p.isSl L.isSl X M ow j O;simp only[go_sem, *];refine(ak _).mono ?_;rintro r h3 ⟨f,v,t,V,w⟩;subst f;have a5:=uh t.isSl;cases R:decide ((v.length:Int)>64)with
    |true=>
     simp only[go_sem, *]
    |false=>
     have u:=P r v t w (by have:=yA R;omega);exact au
  .have Z:=F.1
   have K:=RF (m:=qR (l.take i)+y.size) p.isSl L.isSl ow ow (λa h=>(E a h).io) (λa h=>(G a h).io);simp only[go_sem, *];refine(K _).mono ?_;rintro r h3 ⟨f,v,t,V,w⟩;subst f;have u:∃out,Fin 1 (qT out) r/\zHr 3 (i+1) out.length/\∀a∈out,AltB (qR (l.take i)+y.size) a:=⟨v,t,⟨ow,λq=>by cases q⟩,w⟩;exact au
 .rintro fr h ec ⟨f2,f3,ag,f,out,p,F,j⟩
  subst f;obtain⟨o,H⟩:∃o,fr 6=o:=⟨_,rfl⟩;rw[H]at p;have W:=uh p.isSl;rw[yC]at j;have f:=I (.tuple [o,.bool (decide ((out.length:Int)<=64))]) h (Ext.refl h) ⟨o,_,rfl,out,p,λq=>by have:=yE q;omega,λa h=>(j a h).mono ow⟩;exact au
def OfR(r:D):Prop:=∃q n,r=.tuple [q,.int .i64 n]/\∃l m,Fin 1 (qT l) q/\l.length<=64/\∀a∈l,AltB m a
def zJT{o:D}(k:uB c o)(t:c.Sm)(j:c.ls.length<=40)(i:e.Ok)(m:e.size<=120)(g:Heap):zD prog 183 [o,.agg e.cells] g λr h'=>h'=g/\OfR r:=by
 refine xP λQ p=> ?_;have h1:=RD k t i ow;have d:=λv=>B4 k t j _ (zC _) i v m;obtain⟨ca,cb,ce,cp,rfl,_,_,_,_⟩:=k;have s:∀n,Q (.tuple [.nilsl,.int .i64 n]) g:=λn=>p _ _ ⟨rfl,.nilsl,n,rfl,[],0,.inl ⟨rfl,rfl⟩,jS,λa h=>by cases h⟩;have f:∀q l,Fin 1 (qT l) q->l.length<=64->(∀a∈l,AltB e.size a)->Q (.tuple [q,.int .i64 0]) g:=λq l h1 d h3=>p _ _ ⟨rfl,q,0,rfl,l,_,h1,d,h3⟩;refine zj zKM ?_;simp only[f183,zA];simp only[go_sem, *];refine(h1 _).mono ?_;rintro r h ⟨y,n,rfl,x⟩;cases z:(n==0)with
 |false=>
  simp only[go_sem, *]
 |true=>
 have d:=d (x (by simpa using z));simp only[go_sem, *];refine(d _).mono ?_;rintro r h ⟨y,q,b,rfl,l,hf,w,u⟩;cases b with
 |false=>
  simp only[go_sem, *]
 |true=>
  have hf:=f q l hf (w rfl) u;exact au
def OwS(s:List UInt8)(G h:Heap)(d:D)(m:Nat):Prop:=∃ps,Own G h 1 (wg ps) d/\ps.length<=m/\∀p∈ps,p.length<=s.length
def OwS.app{s x:List UInt8}{G h:Heap}{m:Nat}{w:HidR K}(f:OwS s G h d m)(k:m<=2097152)(i:x.length<=s.length)(e:∀a h',OwS s G h' a (m+1)->K a h'):Hk (qS prog false h.next 45 d (.sl 1 [[.str x]] tk) h) K w:=by
 obtain⟨c,h1,j,h3⟩:=f;refine h1.appH (ys:=wg [x]) ww aR pK ow (by simp[wg]) (by simp[wg]) (by rw[qm,p6];unfold lim;simp[wg];omega) (by rw[qm];unfold lim;simp[wg];omega) λa h' b=> ?_;refine e a h' ⟨c++ [x],?_,jO,λp g=> ?_⟩
 .have:wg (c++ [x])=wg c++wg [x]:=by simp[wg]
  rw[this];exact b
 .rcases qB.1 g with q|q
  .exact h3 p q
  .cases zo.1 q;exact i
def GY(s:List UInt8)(V:s.length<=1048576)(b:Int)(g:Heap):zD prog 352 [.str s,.int .u8 b] g λr h'=>h'=g/\∃v,Fin 1 (wg v) r/\v.length<=s.length+1/\∀p∈v,p.length<=s.length:=by
 refine xU kr λC=>xS ?_;refine xP λQ E=> ?_;have F:∀h,o9 prog 9 (.str s) h=some (.int .i64 s.length):=λh=>tm underlying9;have a:∀d h,OwS s g h d (s.length+1)->Q d h:=λd h ⟨v,h1,A,h3⟩=>by
  obtain⟨y,K,L⟩:=h1.fin uj;exact E _ _ ⟨y,K,v,L,A,h3⟩
 have G:=gb;have l:∀(u w:Nat),u<=w->w<=s.length->∀h,∃x,uN prog 9 (.str s) (some (.int .i64 (u:Int))) (some (.int .i64 (w:Int))) none h=some (.str x)/\x.length<=s.length:=λu w h1 A h=>⟨_,JU h1 A h,jO⟩;have c:∀(u:Nat),u<=s.length->∀h,∃x,uN prog 9 (.str s) (some (.int .i64 (u:Int))) none none h=some (.str x)/\x.length<=s.length:=λu h1 h=>⟨_,C7 h1 h,jS⟩;clear E C;refine zj zK8 ?_;simp only[f352,zA];simp only[go_sem, *];refine zY (λi fr h=>fr 0=.str s/\fr 1=.int .u8 b/\fr 7=.int .i64 (i:Int)/\∃st:Nat,fr 6=.int .i64 (st:Int)/\st<=i/\OwS s g h (fr 5) i) s.length ow ?_ ?_ ?_
 .have f:OwS s g g .nilsl 0:=⟨[],Own.start (Ext.refl g) 1,jS,λp h=>by cases h⟩
  clear a l c;simp only[go_sem,zM,zV,zG];exact⟨0,rfl,ow,f⟩
 .rintro i fr h B I T ⟨J,y,N,st,M,f,k⟩
  obtain⟨o,z⟩:∃o,fr 5=o:=⟨_,rfl⟩;rw[z]at k;have S:nS prog 9 (.str s) (.int .i64 (i:Int))=some (.int .u8 s[i].toNat):=ss underlying9 (zB B);obtain⟨x,O,t⟩:=l st i f ow h;have m:∀{o:D}{h:Heap},OwS s g h o i->∃j:Nat,D.int .i64 (st:Int)=.int .i64 (j:Int)/\j<=i+1/\OwS s g h o (i+1):=λ⟨v,P,W,R⟩=>⟨st,rfl,ow,v,P,ow,R⟩;have n:∀{o:D}{h:Heap},OwS s g h o (i+1)->∃j:Nat,D.int .i64 ((i+1:Nat):Int)=.int .i64 (j:Int)/\j<=i+1/\OwS s g h o (i+1):=λq=>⟨i+1,rfl,ow,q⟩;clear a l c;cases U:((s[i].toNat:Int)==b)with
  |true=>
   clear m;simp only[go_sem, *];refine k.app ow t λH h' e=> ?_;have n:=n e;clear k e;simp only[go_sem, *]
  |false=>
   have m:=m k;clear n k;exact au
 .rintro fr h I ⟨J,y,N,st,M,f,k⟩
  obtain⟨o,z⟩:∃o,fr 5=o:=⟨_,rfl⟩;rw[z]at k;obtain⟨x,O,t⟩:=c st f h;clear l c;simp only[go_sem, *];refine k.app ow t λH h' e=> ?_;have a:=a _ _ e;clear k e;exact au
def B5(s:List UInt8)(t:s.length<=1048576)(g:Heap):zD prog 353 [.str s] g λr h'=>h'=g/\KO r:=by
 refine xP λQ k=> ?_;have c:∀b,Q (.bool b) g:=λb=>k _ _ ⟨rfl,b,rfl⟩;have d:∀h,o9 prog 9 (.str s) h=some (.int .i64 s.length):=λh=>tm underlying9;refine zj zK9 ?_;simp only[f353,zA];cases h0:decide ((s.length:Int)<1)with
 |true=>
  repeat' first|simp only[go_sem, *]|apply bc<;>intro l
 |false=>
  have j:=yA h0;have m:0<s.length:=ow;have o:nS prog 9 (.str s) (.int .i64 0)=some (.int .u8 s[0].toNat):=ss (n:=0) underlying9 (zB m);generalize s[0]=z at *
  repeat' first|simp only[go_sem, *]|apply bc<;>intro l
  refine zY (λi fr h=>fr 0=.str s/\fr 3=.int .i64 (i:Int)/\h=g) s.length ow ?_ ?_ ?_
  .simp only[go_sem,zM,zV,zG]
  .rintro i fr h a e1 q ⟨e,f,rfl⟩
   have p:nS prog 9 (.str s) (.int .i64 (i:Int))=some (.int .u8 s[i].toNat):=ss underlying9 (zB a);generalize s[i]=y at *
   exact au
  .rintro fr h e1 ⟨e,f,rfl⟩
   exact au
def K0(s:List UInt8)(u:s.length<=1048576)(g:Heap):zD prog 276 [.str s] g λr h'=>h'=g/\IsI r:=by
 refine xP λQ t=> ?_;have p:∀b,Q (.int .i64 b) g:=λb=>t _ _ ⟨rfl,b,rfl⟩;have q:∀h,o9 prog 9 (.str s) h=some (.int .i64 s.length):=λh=>tm underlying9;have n:=GY s u 47;refine zj zKf ?_;simp only[f276,zA]
 repeat' first|simp only[go_sem, *]|apply bc<;>intro o
 refine(n _).mono ?_;rintro r h ⟨d,e,hf,x,l⟩;subst d;have c:=hf.isSl;have v:=wO c
 repeat' first|simp only[go_sem, *]|apply bc<;>intro o
 refine zY (λi fr h'=>fr 14=r/\fr 15=.int .i64 (e.length:Int)/\fr 16=.int .i64 (i:Int)/\h'=h) e.length ow ?_ ?_ ?_
 .simp only[go_sem,zM,zV,zG]
 .rintro i fr h a e1 B ⟨f,j,k,d⟩
  subst d;have A:=sP c a;have m:=B5 e[i] (by have:=l _ (zH a);omega);generalize e[i]=y at *
  repeat' first|simp only[go_sem, *]|apply bc<;>intro o|(refine zD.mono (m _) ?_;rintro r h ⟨z,w,rfl⟩)
 .rintro fr h e1 ⟨f,j,k,d⟩
  subst d;exact au
def zEv(k:Int):k=0\/k=1\/k=2\/k=3\/k=4\/((k==0)=false/\(k==1)=false/\(k==2)=false/\(k==3)=false/\(k==4)=false):=by
 by_cases h0:k=0
 .exact .inl h0
 by_cases h1:k=1
 .exact .inr (.inl h1)
 by_cases a:k=2
 .exact .inr (.inr (.inl a))
 by_cases h3:k=3
 .exact .inr (.inr (.inr (.inl h3)))
 by_cases b:k=4
 .exact .inr (.inr (.inr (.inr (.inl b))))
 exact .inr (.inr (.inr (.inr (.inr ⟨by simpa using h0,by simpa using h1,by simpa using a,by simpa using h3,by simpa using b⟩))))
def zHM:qW prog 55 []=some (.agg zEx):=by simp[qW,Ln,Mr,ua,D.notTuple,D.cells]
def GW{f:Fac}(a:f.Ok)(g:Heap):zD prog 275 [.agg f.cells] g λr h'=>h'=g/\KO r:=by
 refine xP λQ l=> ?_;have i:∀b,Q (.bool b) g:=λb=>l _ _ ⟨rfl,b,rfl⟩;have heq:=GT _ (zC _) a.e a.es (e2:=.mk 0 [] [] [] .nilsl) (by simp[Ex.Ok,okL,exs,yZ.nil]);have o:=zHM;have c:=wO a.list;have j:=ja;obtain⟨k,q,z,A,B,s,p,e,y,d⟩:=f;simp only[Fac.cells,Ex.cells,Ex.kind,Ex.name,Ex.exc,Ex.d]at heq c⊢;generalize e.kind=u at *
 generalize e.name=v at *
 generalize e.exc=x at *
 generalize e.d=t at *
 rcases zEv k with rfl|rfl|rfl|rfl|rfl| ⟨k0,k1,k2,k3,k4⟩
 all_goals
  refine zj zKe ?_;simp only[f275,zA]
  repeat' first|simp only[go_sem, *]|apply bc<;>intro m
  refine yJ kr ?_
  repeat' first|simp only[go_sem, *]|apply bc<;>intro m|(refine zD.mono (heq _) ?_;rintro r h ⟨n,w,rfl⟩)
def B1{Y:D}(o:uB c Y)(hs:c.Sm){f:Fac}(j:f.Ok)(g:Heap):zD prog 223 [Y,.agg f.cells] g λr h'=>h'=g/\IsI r:=by
 refine xU kr λad=> ?_;refine xP λQ Z=> ?_;have a:∀b h,Ext g h->Q (.int .i64 b) h:=λb h z=>Z _ _ ⟨z,by simp[below],b,rfl⟩;have B:∀b,Q (.int .i64 b) g:=λb=>a b g (Ext.refl g);have v:=GW j;have t:=K0 f.comp j.comp;have u:=K0 f.out j.out;have p:=RD o hs j.e j.es;have l:=Wy o hs;have bk:=wO j.list;have m:=λi (hi:i<f.list.length)=>sP j.list hi;have bb:=j.ll;have ak:=ja;have aj:=cd;obtain⟨ca,cb,ce,cp,rfl,_,_,_,_⟩:=o;clear Z;obtain⟨k,cm,ot,rl,wy,du,cg,e,I,d⟩:=f;simp only[Fac.cells,Ex.cells,Ex.kind,Ex.name,Ex.exc,Ex.d]at *
 clear j;generalize e.kind=ek at *
 generalize e.name=en at *
 generalize e.exc=ex at *
 generalize e.d=ed at *
 cases k1:decide (k<0)with
 |true=>
  clear v t u p l a;refine zj zAK ?_;simp only[f223,zA]
  repeat' first|simp only[go_sem, *]|apply bc<;>intro o
 |false=>
 cases k2:decide (k>4)with
 |true=>
  clear v t u p l a;refine zj zAK ?_;simp only[f223,zA]
  repeat' first|simp only[go_sem, *]|apply bc<;>intro o
 |false=>
 have hk:k=0\/k=1\/k=2\/k=3\/k=4:=by
  have:=yA k1;have:=yA k2;omega
 clear k1 k2;have A:=λ(x:Lic) (h:Heap)=>jo x h h.next;rcases hk with rfl|rfl|rfl|rfl|rfl
 all_goals
  refine zj zAK ?_;simp only[f223,zA]
  repeat' first|simp only[go_sem, *]|apply bc<;>intro o|(refine zD.mono (v _) ?_;rintro r h ⟨G,w,rfl⟩)|(refine zD.mono (t _) ?_;rintro r h ⟨G,w,rfl⟩)|(refine zD.mono (u _) ?_;rintro r h ⟨G,w,rfl⟩)
 all_goals try
  refine(p _).mono ?_;rintro r h ⟨F,n,rfl,_⟩;subst F;clear v t u p l a;exact au
 all_goals
  clear v t u p B;refine zY (λi fr h=>fr 2=.iptr [ca,cb,ce,cp] 0/\(∃J K L M N O P R S T y,fr 3=.iptr [J,K,L,M,N,O,P,R,S,T,y,d] 0)/\fr 5=.int .i64 (i:Int)/\Ext g h) I.length ow ?_ ?_ ?_
  .have z:=Ext.refl g
   clear a m;simp only[go_sem,zM,zV,zG];exact⟨⟨_,_,_,_,_,_,_,_,_,_,_,rfl⟩,z⟩
  .rintro i fr h C ec ew ⟨V,⟨J,K,L,M,N,O,P,R,S,T,y,E⟩,W,z⟩
   have b1:=m i C;generalize I[i]=s at *
   have ba:∀h,HLe Heap.emp h:=λh i ob e=>by cases e
   clear m
   repeat' first|simp only[go_sem, *]|apply bc<;>intro o
   refine yq Heap.emp ((0,.st,true)::(pwt [1] ((2,.st,true)::(pwt [3,4] ((5,.st,true)::((6,.sq,true)::(pwt [7,8,9,10,11,12] []))))))) kr kr (λi ob e=>by cases e) ?_
   repeat' first|simp only[go_sem, *]|apply bc<;>intro o
   refine zAP _ (λH=>l s H) ⟨_,⟨[],[],0,[]⟩,false,rfl,λq=>by cases q⟩ ?_;rintro r ⟨x,b,rfl,_⟩;have ag:=A x h;have X:=z.new z.1 (.row [.str x.name,.str x.fam,.int .i64 x.ver,.str x.text]);cases b with
   |false=>
    have hf:=a 7 _ X;clear l a A
    repeat' first|simp only[go_sem, *]|apply bc<;>intro o
   |true=>
    clear l a A
    repeat' first|simp only[go_sem, *]|apply bc<;>intro o
    exact⟨_,_,_,_,_,_,_,_,_,_,_,rfl⟩
  clear l A;rintro fr h ec ⟨V,⟨J,K,L,M,N,O,P,R,S,T,y,E⟩,W,z⟩
  repeat' first|simp only[go_sem, *]|apply bc<;>intro o
  refine ZS (λi fr h'=>fr 3=.iptr [J,K,L,M,N,O,P,R,S,T,y,d] 0/\fr 8=.int .i64 (i:Int)/\h'=h) I.length ow ?_ ?_ ?_
  .simp only[go_sem,zM,zV,zG,E]
   rfl
  .clear V E W fr
   rintro i fr h' C U ew ai ⟨E,f8,F⟩;subst F;have b1:=m i ow;have b2:=m (i+1) C;have a:=λb=>a b _ z;generalize I[i]=s at *
   generalize I[i+1]=s2 at *
   clear m
   repeat' first|simp only[go_sem, *]|apply bc<;>intro o
   refine yJ kr ?_;exact au
  .clear V E W fr
   rintro i fr h' U ⟨E,f8,F⟩;subst F;have a:=λb=>a b _ z;clear m;exact au
def LH{m x:D}(a:uB c m)(q:c.Sm)(s:yZ 12 (sL fs) x)(G:fs.length<=1048576)(l:∀f∈fs,f.Ok)(g:Heap):zD prog 182 [m,x] g λr h'=>h'=g/\∃i n,r=.tuple [.int .i64 i,.int .i64 n]:=by
 refine xP λQ B=> ?_;have o:∀i n,Q (.tuple [.int .i64 i,.int .i64 n]) g:=λi n=>B _ _ ⟨rfl,i,n,rfl⟩;have j:=nn a q;have k:=λi (C:i<fs.length)=>B1 a q (l _ (zH C));have p:=nu s;have A:=cd;obtain⟨ca,cb,ce,cp,rfl,_,_,_,_⟩:=a;refine zj zKL ?_;simp only[f182,zA]
 repeat' first|simp only[go_sem, *]|apply bc<;>intro a
 refine(j _).mono ?_;rintro r h ⟨e,n,rfl,_⟩;subst e
 repeat' first|simp only[go_sem, *]|apply bc<;>intro a
 refine zY (λi fr h'=>fr 1=x/\fr 2=.iptr [ca,cb,ce,cp] 0/\fr 6=.int .i64 (i:Int)/\h'=h) fs.length ow ?_ ?_ ?_
 .simp only[go_sem,zM,zV,zG]
 .rintro i fr h' d u F ⟨v,y,z,e⟩
  subst e;have t:=tR s d;have b:=k i d;generalize fs[i]=f at *
  simp only[Fac.cells]at t b
  repeat' first|simp only[go_sem, *]|apply bc<;>intro a
  refine yJ kr ?_
  repeat' first|simp only[go_sem, *]|apply bc<;>intro a|(refine zD.mono (b _) ?_;rintro r h ⟨E,w,rfl⟩)
 .rintro fr h' u ⟨v,y,z,e⟩
  subst e;exact au
def Nc{l:List (List UInt8)}(c:yZ 1 (wg l) d)(v:l.length<=1048576)(s:List UInt8)(g:Heap):zD prog 143 [d,.str s] g λr h'=>h'=g/\IsI r:=by
 refine xP λQ p=> ?_;have e:∀n,Q (.int .i64 n) g:=λn=>p _ _ ⟨rfl,n,rfl⟩;have f:=wO c;refine zj zJ6 ?_;simp only[f143,zA]
 repeat' first|simp only[go_sem, *]|apply bc<;>intro u
 refine zY (λi fr h=>fr 0=d/\fr 1=.str s/\fr 5=.int .i64 (i:Int)/\h=g) l.length ow ?_ ?_ ?_
 .simp only[go_sem,zM,zV,zG]
 .rintro i fr h a j t ⟨k,m,o,b⟩
  subst b;have q:=sP c a;generalize l[i]=y at *
  exact au
 .rintro fr h j ⟨k,m,o,b⟩
  subst b;exact au
structure Als where
 l:List Alt
 d:D
structure Als.Ok(a:Als):Prop where
 sl:yZ 1 (qT a.l) a.d
 len:a.l.length<=64
 pl:uA [a.d]
def Tn(l:List Als):List (List D):=l.map λa=>[a.d]
def cD(l:List Als):(Tn l).length=l.length:=zI ..
def Hw{l:List Als}(h:i<l.length):(Tn l)[i]? =some [l[i].d]:=by simp[Tn,h]
def Hx(l:List Als):∀x∈Tn l,x.length=1:=λx b=>by
 obtain⟨a,_,rfl⟩:=zS.1 b;rfl
def FA{l:List Als}(a:yZ 1 (Tn l) d)(h:Heap):o9 prog 98 d h=some (.int .i64 l.length):=by rw[wL a underlying98,cD]
def Ba{l:List Als}(a:yZ 1 (Tn l) d)(b:i<l.length):yc prog 98 d (.int .i64 (i:Int))=some (.iptr [l[i].d] 0):=yR a fW aC (Hw b)
def FH(d:D)(nid:Nat)(h:Heap)(h1:d.cells= [d])(a:d.notTuple=true)(h3:d.flat=true):yD prog false nid 98 1 [(0,d)] h=some (.sl 1 [[d]] .full,h):=by
 have:=qd (P:=prog) (nid:=nid) (h:=h) (x:=d) fW Mq aC rfl rfl ow ow a (by rw[h1];rfl);rw[h1]at this;exact this
def NN(m:Nat)(r:D):Prop:=∃ts os tq oq n,r=.tuple [tq,oq,.int .i64 n]/\Fin 1 (Tn ts) tq/\(∀a∈ts,a.Ok)/\ts.length<=m/\Fin 1 (wg os) oq/\os.length<=m
def NN.nil(m:Nat)(n:Int):NN m (.tuple [.nilsl,.nilsl,.int .i64 n]):=⟨[],[],.nilsl,.nilsl,n,rfl,.inl ⟨rfl,rfl⟩,(λa h=>by cases h),jS,.inl ⟨rfl,rfl⟩,jS⟩
def Yh(g:Heap)(m:Nat)(td od:D)(h:Heap):Prop:=∃ts os,Own2 g h 1 (Tn ts) td 1 (wg os) od/\(∀a∈ts,a.Ok)/\ts.length<=m/\os.length<=m
theorem K1{D0 x:D}(hc:uB c D0)(hs:c.Sm)(Y:c.ls.length<=40)(P:yZ 12 (sL fs) x)(hl:fs.length<=260)(M:∀f∈fs,f.Ok)(H:∀f∈fs,f.e.size<=120)(g:Heap):zD prog 120 [D0,x] g λr h'=>h'=g/\NN fs.length r:=by
 refine xU kr λa5=>xS ?_;refine xP λQ hQ=> ?_;have ag:=LH hc hs P ow M;have L:=λi (hi:i<fs.length)=>zJT hc hs Y (M _ (zH hi)).e (H _ (zH hi));have a4:=nu P;have a7:=cd;have a8:=ja;have d:∀n h,Ext g h->Q (.tuple [.nilsl,.nilsl,.int .i64 n]) h:=λn h Z=>hQ _ _ ⟨Z,by simp[qM,qU,below,qC],by simpa [qM,qU]using NN.nil _ n⟩;have y:∀td od h,Yh g fs.length td od h->Q (.tuple [td,od,.int .i64 0]) h:=λtd od h ⟨j,k,u,h1,X,h3⟩=>by
  obtain⟨T,V,f3⟩:=u.a.fin λx P=>by
   obtain⟨a,ha,rfl⟩:=zS.1 P;exact(h1 a ha).pl
  obtain⟨g1,g2,g3⟩:=u.b.fin uj;exact hQ _ _ ⟨T,by simp[qM,qU,below,qC,V,g2],j,k,qM td,qM od,0,by simp[qM,qU],f3,h1,X,g3,h3⟩
 obtain⟨ca,cb,ce,cp,rfl,_,_,_,_⟩:=hc;have a6:=gb;refine zj zJ2 ?_;simp only[f120,zA];simp only[go_sem, *];refine(ag _).mono ?_;rintro r h0 ⟨N,n1,n2,rfl⟩;subst N;cases e0:(n2==0)with
 |false=>
  have hn:=d n2 h0 (Ext.refl h0);simp only[go_sem, *]
 |true=>
 have O:Yh h0 0 .nilsl .nilsl h0:=⟨[],[],Own2.start (Ext.refl h0) 1 1,(λa h=>by cases h),jS,jS⟩;simp only[go_sem, *];refine zY (λi fr h=>fr 1=x/\fr 2=.iptr [ca,cb,ce,cp] 0/\fr 11=.int .i64 (i:Int)/\Yh h0 i (fr 9) (fr 10) h) fs.length ow ?_ ?_ ?_
 .clear d y L
  simp only[go_sem,zM,zV,zG];exact O
 .clear O
  rintro i fr h J ec ew ⟨T,V,U,u⟩;obtain⟨td,W⟩:∃o,fr 9=o:=⟨_,rfl⟩;obtain⟨od,B⟩:∃o,fr 10=o:=⟨_,rfl⟩;rw[W,B]at u;have a1:=tR P J;have A:=L i J;have Z:Ext h0 h:=by obtain⟨_,_,q,_⟩:=u;exact q.a.1
  have d:=λn=>d n h Z;have ai:∀s,zD prog 143 [od,.str s] h λr h'=>h'=h/\IsI r:=λs=>by
   obtain⟨j,k,q,_,_,G⟩:=u;exact Nc q.b.isSl ow s h
  generalize fs[i]=f at *
  simp only[Fac.cells,Ex.cells]at a1 A;have ak:Yh h0 (i+1) td od h:=by
   obtain⟨j,k,E,F,R,G⟩:=u;exact⟨j,k,E,F,ow,ow⟩
  have a3:∀t h',Yh h0 (i+1) t od h'->∀s,zD prog 143 [od,.str s] h' λr p=>p=h'/\IsI r:=λt h' ⟨j,k,q,_,_,G⟩ s=>Nc q.b.isSl ow s h';have I:∀t h' (K:D->Heap->Prop)(w:HidR K) s,(∃j k,Own2 h0 h' 1 (Tn j) t 1 (wg k) od/\(∀a∈j,a.Ok)/\j.length<=i+1/\k.length<=i)->(∀C p,Yh h0 (i+1) t C p->K C p)->Hk (qS prog false h'.next 45 od (.sl 1 [[.str s]] .full) h') K w:=λt h' K w s ⟨j,k,E,F,R,G⟩ hK=>by
   refine E.swap.appH (zs:=wg [s]) ww aR pK ow (by simp[wg]) (by simp[wg]) (by rw[qm,p6];unfold lim;simp[wg];omega) (by rw[qm];unfold lim;simp[wg];omega) λS p v=> ?_;refine hK S p ⟨j,k++ [s],?_,F,R,jO⟩
   have:wg (k++ [s])=wg k++wg [s]:=by simp[wg]
   rw[this];exact v.swap
  cases k1:(f.kind==1)with
  |true=>
   have k2:(f.kind==2)=false:=by
    have:=qz.1 k1;rw[this];rfl
   simp only[go_sem, *];refine yJ kr ?_;simp only[go_sem, *];refine(A _).mono ?_;rintro r X ⟨N,q,n,rfl,l,m,hf,aj,ad⟩;subst N;cases n0:(n==0)with
   |false=>
    have hn:=d n;simp only[go_sem, *]
   |true=>
   obtain⟨z1,z2,z3⟩:=zw hf.isSl;have a0:=λnid h=>FH q nid h z1 z2 z3;obtain⟨j,k,E,F,R,G⟩:=u;simp only[go_sem, *];refine E.appH (zs:=Tn [⟨l,q⟩]) fW Hb aC ow (Hx _) (by simp[Tn]) (by rw[cD,Tp];unfold lim;simp[Tn];omega) (by rw[cD];unfold lim;simp[Tn];omega) λS h' v=> ?_;have a9:Yh h0 (i+1) S od h':=⟨j++ [⟨l,q⟩],k,by
    have:∀z:Als,Tn (j++ [z])=Tn j++Tn [z]:=λz=>by simp[Tn]
    rw[this];exact v,λa ha=>by
    rcases qB.1 ha with h1|h1
    .exact F a h1
    .cases zo.1 h1;exact⟨hf.isSl,aj,kI hf (Yk ad)⟩,jO,ow⟩
   simp only[go_sem, *]
  |false=>
  cases k2:(f.kind==2)with
  |false=>
   simp only[go_sem, *]
  |true=>
  have a2:=λK w s hK=>I td h K w s (by obtain⟨j,k,E,F,R,G⟩:=u;exact⟨j,k,E,F,ow,G⟩) hK;simp only[go_sem, *];refine(ai _).mono ?_;rintro r X ⟨N,w,rfl⟩;subst N;cases w0:decide (w<0)with
  |false=>
   simp only[go_sem, *]
  |true=>
   simp only[go_sem, *];refine a2 _ _ _ λC h' v=> ?_;exact au
 .rintro fr h ec ⟨T,V,U,u⟩
  obtain⟨td,W⟩:∃o,fr 9=o:=⟨_,rfl⟩;obtain⟨od,B⟩:∃o,fr 10=o:=⟨_,rfl⟩;rw[W,B]at u;have hf:=y td od h u;exact au
def Js{l:List Int}(a:yZ 1 (wt l) d)(h:Heap):o9 prog 30 d h=some (.int .i64 l.length):=by rw[wL a underlying30,wE]
def NV{l:List Int}(a:yZ 1 (wt l) d)(b:i<l.length):yc prog 30 d (.int .i64 (i:Int))=some (.iptr [.int .i64 l[i]] 0):=yR a wA sG (by simp[wt,b])
def FI(n:Int)(nid:Nat)(h:Heap):yD prog false nid 30 1 [(0,.int .i64 n)] h=some (.sl 1 [[.int .i64 n]] .full,h):=qd (x:=.int .i64 n) wA pc sG rfl rfl ow ow rfl rfl
def OwI(G h:Heap)(d:D)(m:Nat):Prop:=∃l,Own G h 1 (wt l) d/\l.length<=m
def OwI.app{G h:Heap}{m:Nat}{n:Int}{w:HidR K}(e:OwI G h d m)(g:m<=2097152)(c:∀a h',OwI G h' a (m+1)->K a h'):Hk (qS prog false h.next 30 d (.sl 1 [[.int .i64 n]] tk) h) K w:=by
 obtain⟨l,h1,f⟩:=e;refine h1.appH (ys:=wt [n]) wA V5 sG ow (by simp[wt]) (by simp[wt]) (by rw[wE,fO];unfold lim;simp[wt];omega) (by rw[wE];unfold lim;simp[wt];omega) λa h' b=> ?_;refine c a h' ⟨l++ [n],?_,jO⟩
 have:wt (l++ [n])=wt l++wt [n]:=by simp[wt]
 rw[this];exact b
def GX{M x:D}(O:uB c M)(hs:c.Sm)(H:c.ls.length<=40)(hx:yZ 12 (sL fs) x)(Z:fs.length<=260)(K:∀f∈fs,f.Ok)(B:∀f∈fs,f.e.size<=120)(g:Heap):zD prog 71 [M,x] g λr h'=>h'=g/\∃q n l,r=.tuple [q,.int .i64 n]/\yZ 1 (wt l) q/\l.length<=520:=by
 refine xU kr λP=>xS ?_;refine xP λQ I=> ?_;have C:=K1 O hs H hx Z K B;have k:∀n h,Ext g h->Q (.tuple [.nilsl,.int .i64 n]) h:=λn h X=>I _ _ ⟨X,by simp[qM,qU,below,qC],.nilsl,n,[],by simp[qM,qU],.inl ⟨rfl,rfl⟩,jS⟩;have a:∀d h,OwI g h d 520->Q (.tuple [d,.int .i64 0]) h:=λd h ⟨l,J,h1⟩=>by
  obtain⟨V,s,W⟩:=J.fin (XS _);exact I _ _ ⟨V,by simp[qM,qU,below,qC,s],qM d,0,l,by simp[qM,qU],W.isSl,h1⟩
 obtain⟨ca,cb,ce,cp,rfl,Y,_,_,_⟩:=O;have R:=FI;have ad:=rF Y;clear I;refine zj zOr ?_;simp only[f71,zA];simp only[go_sem, *];refine(C _).mono ?_;rintro r h0 ⟨hq,E,os,tq,T,n,rfl,S,b,a0,J,ak⟩;subst hq;clear C;cases e0:(n==0)with
 |false=>
  have hn:=k n h0 (Ext.refl h0);clear k a b;simp only[go_sem, *]
 |true=>
 have v:OwI h0 h0 .nilsl 0:=⟨[],Own.start (Ext.refl h0) 1,jS⟩;have p:=FA S.isSl;have ai:=wO J.isSl;clear k;simp only[go_sem, *];refine zY (λi fr h=>fr 2=.iptr [ca,cb,ce,cp] 0/\fr 6=tq/\fr 7=T/\fr 10=.int .i64 (i:Int)/\OwI h0 h (fr 9) i) E.length ow ?_ ?_ ?_
 .clear a b
  simp only[go_sem,zM,zV,zG];exact v
 .clear v
  rintro i fr h p A U ⟨s,G,z,u,j⟩;obtain⟨o,m⟩:∃o,fr 9=o:=⟨_,rfl⟩;rw[m]at j;have a1:=Ba S.isSl p;have L:=b _ (zH p);have ag:=uh L.sl;generalize E[i]=t at *
  clear a b;simp only[go_sem, *];refine j.app ow λN h' w=> ?_;clear j;exact au
 clear v;rintro fr h A ⟨s,G,z,u,j⟩;obtain⟨o,m⟩:∃o,fr 9=o:=⟨_,rfl⟩;rw[m]at j;have y:OwI h0 h o (E.length+0):=j;clear j;simp only[go_sem, *];refine zY (λi fr h=>fr 2=.iptr [ca,cb,ce,cp] 0/\fr 7=T/\fr 11=.int .i64 (i:Int)/\OwI h0 h (fr 9) (E.length+i)) os.length ow ?_ ?_ ?_
 .clear a b
  simp only[go_sem,zM,zV,zG,s,z,m];exact y
 .clear y s G z u m A fr h
  rintro i fr h p A U ⟨s,z,F,j⟩;obtain⟨o,m⟩:∃o,fr 9=o:=⟨_,rfl⟩;rw[m]at j;clear a b;simp only[go_sem, *];refine j.app ow λN h' w=> ?_;have aj:OwI h0 h' N (E.length+(i+1)):=w;clear j w;exact au
 .clear y s G z u m A fr h
  rintro fr h A ⟨s,z,F,j⟩;obtain⟨o,m⟩:∃o,fr 9=o:=⟨_,rfl⟩;rw[m]at j;have hf:=a o h (by obtain⟨l,q1,q2⟩:=j;exact⟨l,q1,ow⟩);clear a b j;exact au
def GR{A x:D}(s:uB c A)(K:c.Sm)(v:c.ls.length<=40)(L:yZ 12 (sL fs) x)(H:fs.length<=260)(w:∀f∈fs,f.Ok)(p:∀f∈fs,f.e.size<=120)(g:Heap):zD prog 29 [A,x] g λr h'=>h'=g/\∃a b,r=.tuple [.int .i64 a,.int .i64 b]:=by
 refine xP λQ G=> ?_;have y:=GX s K v L H w p;have B:∀a b,Q (.tuple [.int .i64 a,.int .i64 b]) g:=λa b=>G _ _ ⟨rfl,a,b,rfl⟩;obtain⟨ca,cb,ce,cp,rfl,O,_,_,_⟩:=s;refine zj zOX ?_;simp only[f29,zA]
 repeat' first|simp only[go_sem, *]|apply bc<;>intro s
 refine(y _).mono ?_;rintro r h0 ⟨d,q,n,l,rfl,j,I⟩;subst d;have J:=Js j
 repeat' first|simp only[go_sem, *]|apply bc<;>intro s
 refine zY (λi fr h=>fr 6=q/\fr 8=.int .i64 (i:Int)/\h=h0) l.length ow ?_ ?_ ?_
 .simp only[go_sem,zM,zV,zG]
 .rintro i fr h k o E ⟨m,u,d⟩
  subst d;have C:=NV j k;generalize l[i]=z at *
  exact au
 rintro fr h o ⟨m,u,d⟩;subst d;have N:=isI
 repeat' first|simp only[go_sem, *]|apply bc<;>intro s
 refine zY (λi fr h'=>fr 6=q/\fr 10=.int .i64 (i:Int)/\h'=h/\IsI (fr 9)) l.length ow ?_ ?_ ?_
 .simp only[go_sem,zM,zV,zG,m,isI]
 .clear m u o fr
  rintro i fr h k o E ⟨m,t,d,M,F⟩;subst d;have C:=NV j k;generalize l[i]=z at *
  exact au
 .clear m u o fr
  rintro fr h o ⟨m,t,d,M,F⟩;subst d;exact au
def kY.sl{a:List NdI}(h:kY a d):d.flat=true/\∀H,o9 prog 32 d H=some (.int .i64 a.length):=by
 obtain⟨xs,h1,b,_⟩:=h;exact⟨(zw h1).2.2,λH=>by rw[wL h1 underlying32,b]⟩
def zOG(c:Cat)(fs:List Fac)(ta oa rd:D)(b:Bool):Prop:=(ta.flat=true/\oa.flat=true/\rd.flat=true)/\((qi c fs≠0/\b=false/\rd=.nilsl)\/(qi c fs=0/\b= !(rZ c fs).isEmpty/\((b=true/\rd=.nilsl)\/(b=false/\kY ((fJ c fs).map Nd.i) rd))))
def zBJ.b{r:D}(h:zBJ c fs r):∃b ta oa rd,r=.tuple [.agg [.bool b,ta,oa,rd],.int .i64 (qi c fs)]/\zOG c fs ta oa rd b:=by
 rcases h with⟨h0,rfl⟩ | ⟨h0,⟨q,f,rfl⟩ | ⟨h1,rd,d,rfl⟩⟩
 .exact⟨_,_,_,_,rfl,⟨rfl,rfl,rfl⟩,.inl ⟨h0,rfl,rfl⟩⟩
 .refine⟨_,_,_,_,by rw[h0],⟨by unfold tsF;split<;>rfl,by unfold owF;split<;>rfl,rfl⟩,.inr ⟨h0,?_,.inl ⟨rfl,rfl⟩⟩⟩
  cases e:rZ c fs with
  |nil=>rw[e]at f;cases f
  |cons a l=>rfl
 .exact⟨_,_,_,_,by rw[h0],⟨rfl,rfl,d.sl.1⟩,.inr ⟨h0,by rw[h1];rfl,.inr ⟨rfl,d⟩⟩⟩
def XF(h:Hp fs)(b:fs.length<=24)(a:gs.Sublist fs):Hp gs:=by
 have:=a.length_le;exact⟨⟨.inl ow,ow⟩,λf hf=>h.2 f (a.subset hf)⟩
section
variable{c:Cat}{fs:List Fac}
def Le.mem{p q:Part}(h:Le p q){v:Vio}(a:v∈pq c fs (jl p)):v∈pq c fs (jl q):=h.gap.vios a
end
def kY.at{a:List NdI}(h:kY a d)(c:i<a.length):∃cs,yc prog 32 d (.int .i64 (i:Int))=some (.iptr cs 0)/\BS a[i] cs:=by
 obtain⟨xs,h1,e,h3⟩:=h;obtain⟨cs,b,h5⟩:=h3 i _ (zB c);exact⟨cs,yR h1 fV lq b,h5⟩
theorem Nx{f g:α->Option β} :∀{l:List α},(∀x∈l,f x=g x)->l.filterMap f=l.filterMap g
 | [],_=>rfl
 |a::l,h=>by rw[mL,mL,h a qO,Nx λx b=>h x (z8 _ b)]
theorem JY(f:α->β):∀(l:List α)(i:Nat),(l.map f).eraseIdx i=(l.eraseIdx i).map f
 | [],_=>rfl
 |_::_,0=>rfl
 |a::l,i+1=>by simp[JY f l i]
section
variable{c:Cat}{fs:List Fac}
def InI.mono{I J:List Nat}(H:InI fs J)(h:I.Sublist J):InI fs I:=⟨λi a=>H.lt i (h.subset a),H.inc.sublist h⟩
def RY{F:List Nat}(H:∀i∈F,i<fs.length)(j:Nat):(uH fs F).eraseIdx j=uH fs (F.eraseIdx j):=by
 have e:∀{F:List Nat},(∀i∈F,i<fs.length)->uH fs F=F.map λi=>fs.getD i ⟨0,[],[],0,0,0,false,.mk 0 [] [] [] .nilsl,[],.nilsl⟩:=λ{F} H=>by
  unfold uH;rw[<-List.filterMap_eq_map];refine Nx λi a=> ?_;have:=H i a;simp[zB this,zE]
 rw[e H,e λi a=>H i (List.mem_of_mem_eraseIdx a),JY]
end
abbrev nI(I:List Nat):List Int:=I.map λn:Nat=>(n:Int)
theorem fp{fs:List Fac} :∀{I:List Nat},(∀i∈I,i<fs.length)->mv (sL fs) (nI I)=sL (uH fs I)
 | [],_=>rfl
 |i::I,h=>by
  have a:=h i qO;have c:=fp (fs:=fs) (I:=I) λj b=>h j (z8 _ b);have e:uH fs (i::I)=fs[i]::uH fs I:=by simp[uH,zB a]
  rw[e];show(sL fs).getD ((i:Int)).toNat []::mv (sL fs) (nI I)=_;rw[c,wV,zE];simp[sL,zB a]
structure ShF(fs:List Fac):Prop where
 s:∀c∈sL fs,∃k,Shp prog k 57 c
def IE(fs:List Fac)(I:List Nat):D:=if I= []then .nilsl else .sl 12 (sL (uH fs I)) .no
variable{fs:List Fac}{c:Cat}
def FN(I:List Nat):yZ 12 (sL (uH fs I)) (IE fs I):=by
 unfold IE;split
 .rename_i e;rw[e];exact yZ.nil
 .exact yZ.mk .no
def Bx{x f:D}(d:yZ 12 (sL fs) x)(a:ShF fs)(hf:yZ 1 (wt (nI I)) f)(b:∀i∈I,i<fs.length)(j:I.length<=1048576)(h:Heap):zD prog 34 [x,f] h λr h'=>h'=h/\r=IE fs I:=by
 have c:=a.s;unfold IE;split
 .rename_i e;subst e;exact Kw d c hf h
 .rename_i e
  refine(F8 d c hf (by rw[zI];exact j) (λn k=> ?_) h).mono λr h' q=>⟨q.1,?_⟩
  .obtain⟨i,g,rfl⟩:=zS.1 k
   refine⟨ow,?_⟩;rw[pY];have:=b i g;omega
  .rw[<-fp b]
   rcases q.2 with⟨_,q⟩ |q
   .exact absurd (by simpa [mv]using q) e
   .exact q
structure KIn(c:Cat)(fs:List Fac)(ca cb ce cp x:D):Prop where
 cat:uB c (.agg [ca,cb,ce,cp])
 sm:c.Sm
 x:yZ 12 (sL fs) x
 few:Hp fs
 h16:fs.length<=24
 ok:∀f∈fs,f.Ok
 sh:ShF fs
end Go.V
