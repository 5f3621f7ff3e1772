/- Contracts of functions that the law reaches, part 2. No condition. -/
import Derived.Test.YtkenagjlanhnmaaGreatDoorW42
import Derived.Test.YtkenagjlanhnmaaGreatDoorW28
set_option linter.all false
set_option maxHeartbeats 8000000
namespace Go.V
open Go.Proofs.Tryz
open Go.Proofs
set_option maxRecDepth 100000
def LK:∀(n:Nat){e:Ex},e.size<=n->e.Ok->e.size<=1048576->∀g:Heap,zE prog 70 [.agg e.cells] g λr h'=>h'=g/\r=.int .i64 (e.size:Int):=by
 intro n
 induction n with
 |zero=>intro e h;cases e;simp only[Ex.size]at h;omega
 |succ n y=>
 intro e H f o g;obtain⟨k,z,x,l,d⟩:=e;simp only[Ex.size,Ex.Ok]at H f o;obtain⟨u,L,_,_,j⟩:=f;have v:=pw u;have E:(Ex.mk k z x l d).size=qZ l+1:=by simp only[Ex.size]
 rw[E];refine zu zOz ?_;simp only[f70,zA];simp only[Ex.cells,Ex.kind,Ex.name,Ex.exc,Ex.d]
 repeat' first|simp only[go_sem, *]|apply bc<;>intro F
 refine zd (λi fr h=>fr 1=.iptr [.int .i64 k,.str z,.str x,d] 0/\fr 4=.int .i64 (i:Int)/\fr 3=.int .i64 ((qZ (l.take i)+1:Nat):Int)/\h=g) l.length ow ?_ ?_ ?_
 ·have J:qZ (l.take 0)+1=1:=by simp[qZ]
  simp only[go_sem,zT,zV,zI,J];rfl
 ·rintro i fr h c B K ⟨C,D,q,rfl⟩;have A:=kX u c;have m:l[i]∈l:=zH c;have w:=y (e:=l[i]) (by have:=uI m;omega) (px j _ m) (by have:=uI m;omega);have p:qZ (l.take (i+1))=qZ (l.take i)+l[i].size:=by rw[zQ c,dC]
  have G:qZ (l.take (i+1))<=qZ l:=by
   have:=qP (i+1) l;have key:∀a b:List Ex,qZ a<=qZ (a++b):=λa b=>by
    induction a with
    |nil=>simp[qZ]
    |cons x a y=>simp only[yE,qZ];omega
   have s:=key (l.take (i+1)) (l.drop (i+1));rw[this]at s;exact s
  have t:IntKind.i64.wrap (((qZ (l.take i)+1:Nat):Int)+(l[i].size:Int))=((qZ (l.take (i+1))+1:Nat):Int):=by rw[p,qU ow ow];omega
  simp only[Ex.cells]at A w
  repeat' first|simp only[go_sem, *]|apply bc<;>intro F|(refine zE.mono (w _) ?_;rintro r h ⟨I,rfl⟩)
 ·rintro fr h B ⟨C,D,q,rfl⟩;rw[z6]at q;exact au
variable{c:Cat}{d x:D}{fs gs:List Fac}{i sz n k j:Nat}{tk:Tk}{K:D->Heap->Prop}{xs:List (List D)}{ts:List Trm}{e:Ex}{b:Bool}{I:List Nat}{α:Type}{p:Part}
def Q5(l:uc c d)(H:c.Sm)(C:yi 12 (mV fs) x)(N:fs.length<=1048576)(s:∀f∈fs,f.Ok0)(g:Heap):zE prog 28 [d,x] g λr h'=>h'=g/\∃b,r=.bool b/\(b=true->Fk fs/\c.ls.length<=40):=by
 refine xP λQ E=> ?_;have hf:Q (.bool false) g:=E _ _ ⟨rfl,_,rfl,λq=>by cases q⟩;have k:Fk fs/\c.ls.length<=40->∀b,Q (.bool b) g:=λR b=>E _ _ ⟨rfl,b,rfl,λ_=>R⟩;have O:=pi C;have B:=K9 l H C N s;have p:=H.cs;obtain⟨ca,cb,ce,cp,rfl,_,_,F,_⟩:=l;have L:=jy;have T:=jb F;have U:=p.1;have S:=isI;refine zu zOf ?_;simp only[f28,zA]
 repeat' first|simp only[go_sem, *]|apply bc<;>intro l
 refine(B _).mono ?_;rintro r h ⟨j,b,rfl,M⟩;subst j;cases b with
 |false=>
  repeat' first|simp only[go_sem, *]|apply bc<;>intro l
 |true=>
 have v:=M rfl;have k:=k v;have v:=v.1
 repeat' first|simp only[go_sem, *]|apply bc<;>intro l
 refine zd (λi fr h'=>fr 1=x/\fr 2=.iptr [ca,cb,ce,cp] 0/\fr 7=.int .i64 (i:Int)/\IsI (fr 5)/\IsI (fr 6)/\h'=h) c.cs.length ow ?_ ?_ ?_
 ·simp only[go_sem,zT,zV,zI,isI]
 ·rintro i fr h a z I ⟨m,A,J,⟨t,n⟩,⟨u,o⟩,j⟩;subst j;have w:=gU F a;have o1:=wh (p.2 _ (zH a)).1;generalize c.cs[i]=y at *
  simp only[Cla.cells]at w;exact au
 rintro fr h z ⟨m,A,J,⟨t,n⟩,⟨u,o⟩,j⟩;subst j
 repeat' first|simp only[go_sem, *]|apply bc<;>intro l
 refine zd (λi fr h'=>fr 1=x/\fr 8=.int .i64 (i:Int)/\IsI (fr 5)/\IsI (fr 6)/\h'=h) fs.length ow ?_ ?_ ?_
 ·simp only[go_sem,zT,zV,zI,isI,m,n,o]
 ·clear m A n o t u;rintro i fr h a z I ⟨m,K,⟨t,n⟩,⟨u,o⟩,j⟩;subst j;have w:=tP C a;have G:=zH a;have D:=LK _ (zD _) (s _ G).e (by have:=v.2 _ G;omega);generalize fs[i]=f at *
  simp only[Fac.cells]at w;simp only[Ex.cells]at D
  repeat' first|simp only[go_sem, *]|apply bc<;>intro l|(refine zE.mono (D _) ?_;rintro r h ⟨P,rfl⟩)
 ·clear m A n o t u;rintro fr h z ⟨m,K,⟨t,n⟩,⟨u,o⟩,j⟩;subst j;exact au
def T9(x y:Trm)(g:Heap):zE prog 395 [.agg x.cells,.agg y.cells] g λr h'=>h'=g/\∃b,r=.bool b:=by
 refine xP λQ c=> ?_;have a:∀b,Q (.bool b) g:=λb=>c _ _ ⟨rfl,b,rfl⟩;refine zu zLg ?_;simp only[f395,zA];simp only[Trm.cells];exact au
def G9(x:Trm)(nid:Nat)(h:Heap):yB prog false nid 194 1 [(0,.agg [.str x.a,.str x.b])] h=some (.sl 2 [[.str x.a,.str x.b]] .full,h):=qW XD sW uq rfl rfl ow ow rfl rfl
def Rs{l:List Trm}(a:yi 2 (wt l) d)(h:Heap):mC prog 194 d h=some (.int .i64 l.length):=by rw[wa a underlying194,wl]
def NR{l:List Trm}(a:yi 2 (wt l) d)(b:i<l.length):yt prog 194 d (.int .i64 (i:Int))=some (.iptr l[i].cells 0):=yn a XD uq (Ye b)
def OwT(G h:Heap)(d:D)(m:Nat):Prop:=∃ts,Own G h 2 (wt ts) d/\ts.length<=m
def Vp(l:List Trm):∀x∈wt l,wr x:=λx a=>by
 obtain⟨y,_,rfl⟩:=zM.1 a;exact⟨rfl,by simp[Trm.cells,qO,below],by simp[Trm.cells,qY,qD]⟩
def OwT.app{G h:Heap}{m:Nat}{x:Trm}{w:HidR K}(i:OwT G h d m)(k:m<=1048576)(g:∀c h',OwT G h' c (m+1)->K c h'):IE (qg prog false h.next 194 d (.sl 2 [[.str x.a,.str x.b]] tk) h) K w:=by
 obtain⟨f,h1,j⟩:=i;refine h1.appH (ys:=wt [x]) XD Yg uq ow (pn _) (by simp[wt]) (by rw[wl,kY];unfold lim;simp[wt];omega) (by rw[wl];unfold lim;simp[wt];omega) λc h' e=> ?_;refine g c h' ⟨f++ [x],?_,by simp;omega⟩
 have:wt (f++ [x])=wt f++wt [x]:=by simp[wt]
 rw[this];exact e
def OwT.fin{G h:Heap}{m:Nat}(g:OwT G h d m):Ext G h/\below G.next (qD d)/\∃a,Fin 2 (wt a) (qD d)/\a.length<=m:=by
 obtain⟨a,h1,f⟩:=g;obtain⟨b,c,e⟩:=h1.fin (Vp _);exact⟨b,c,a,e,f⟩
def zCT{l:List Trm}(C:yi 2 (wt l) d)(X:l.length<=65536)(t:Trm)(g:Heap):zE prog 393 [d,.agg t.cells] g λr h'=>h'=g/\∃p,Fin 2 (wt p) r/\p.length<=l.length+1:=by
 refine xU kr λS=>xS ?_;refine xP λQ P=> ?_;have E:=Rs C;have s:=T9;have F:=G9;have f:∀d h,OwT g h d (l.length+1)->Q d h:=λd h j=>by
  obtain⟨J,K,p,v,L⟩:=j.fin;exact P _ _ ⟨J,K,p,v,L⟩
 have R:=QP;simp only[Trm.cells]at s⊢;refine zu zLe ?_;simp only[f393,zA];simp only[go_sem, *];refine zd (λi fr h=>fr 0=d/\fr 3=.iptr [.str t.a,.str t.b] 0/\fr 7=.int .i64 (i:Int)/\∃b:Bool,fr 6=.bool b/\OwT g h (fr 5) (i+b.toNat)) l.length ow ?_ ?_ ?_
 ·have A:OwT g g .nilsl (0+false.toNat):=⟨[],Own.start (Ext.refl g) 2,by simp⟩;simp only[go_sem,zT,zV,zI];exact⟨false,rfl,A⟩
 ·rintro i fr h y H W ⟨I,v,N,b,M,j⟩;obtain⟨o,w⟩:∃o,fr 5=o:=⟨_,rfl⟩;rw[w]at j;have G:=NR C y;generalize l[i]=x at *
  simp only[Trm.cells]at G;simp only[go_sem, *];refine qH Heap.emp [(4,.no,false),(0,.no,false),(1,.no,false),(2,.no,false),(3,.no,false),(5,.no,false)] kr kr (λi Y e=>by cases e) ?_;cases b with
  |true=>
   simp only[Bool.toNat_true]at j;cases B:(x.a==t.a&&x.b==t.b)with
   |_=>
    simp only[go_sem, *];refine yI kr ?_;simp only[go_sem, *];refine j.app ow λu h' c=> ?_;simp only[go_sem, *];exact⟨true,rfl,by simpa using c⟩
  |false=>
   simp only[Bool.toNat_false,uB]at j;have k:∀{h d},OwT g h d (i+1)->∃b:Bool,(D.bool true)=.bool b/\OwT g h d (i+1+b.toNat):=λ⟨p,U,Z⟩=>⟨true,rfl,p,U,by simp;omega⟩;have m:∀{h d},OwT g h d (i+1+1)->∃b:Bool,(D.bool true)=.bool b/\OwT g h d (i+1+b.toNat):=λq=>⟨true,rfl,q⟩;have n:∀{h d},OwT g h d (i+1)->∃b:Bool,(D.bool false)=.bool b/\OwT g h d (i+1+b.toNat):=λq=>⟨false,rfl,q⟩;cases B:(x.a==t.a&&x.b==t.b)with
   |true=>
    simp only[go_sem, *];refine yI kr ?_;simp only[go_sem, *];refine j.app ow λu h' c=> ?_;have k:=k c;simp only[go_sem, *]
   |false=>
    simp only[go_sem, *];refine yI kr ?_;simp only[go_sem, *];refine(s _ _ _).mono ?_;rintro r O ⟨T,b,rfl⟩;subst T;cases b with
    |true=>
     simp only[go_sem, *];refine j.app ow λu h' c=> ?_;simp only[go_sem, *];refine c.app ow λV O z=> ?_;have m:=m z;simp only[go_sem, *]
    |false=>
     simp only[go_sem, *];refine j.app ow λu h' c=> ?_;have n:=n c;exact au
 ·rintro fr h H ⟨I,v,N,b,M,j⟩;obtain⟨o,w⟩:∃o,fr 5=o:=⟨_,rfl⟩;rw[w]at j;cases b with
  |true=>
   have f:=f _ _ j;simp only[go_sem, *]
  |false=>
   simp only[Bool.toNat_false,uB]at j;simp only[go_sem, *];refine j.app ow λu h' c=> ?_;have f:=f _ _ c;exact au
def K1{a b:List Trm}{d e:D}(E:yi 2 (wt a) d)(F:yi 2 (wt b) e)(N:a.length+b.length<=65536)(g:Heap):zE prog 358 [d,e] g λr h'=>h'=g/\∃c,Fin 2 (wt c) r/\c.length<=a.length+b.length:=by
 refine xP λQ K=> ?_;have L:=uf E;have M:=uf F;have k:=λ(c:List Trm) (d:D) h1 A t h=>zCT (l:=c) (d:=d) h1 A t h;simp only[Trm.cells]at k;refine zu zLW ?_;simp only[f358,zA];simp only[go_sem, *];refine zd (λi fr h=>fr 0=d/\fr 1=e/\fr 6=.int .i64 (i:Int)/\h=g/\∃c,Fin 2 (wt c) (fr 5)/\c.length<=i) a.length ow ?_ ?_ ?_
 ·have s:∃c,Fin 2 (wt c) .nilsl/\c.length<=0:=⟨[],.inl ⟨rfl,rfl⟩,by simp⟩;simp only[go_sem,zT,zV,zI];exact s
 ·rintro i fr h p z G ⟨H,v,I,j,c,f,w⟩;subst j;obtain⟨o,m⟩:∃o,fr 5=o:=⟨_,rfl⟩;rw[m]at f;have y:=oO E p;have B:=k c o f.isSl ow a[i] h;generalize a[i]=x at *
  simp only[Trm.cells]at y;simp only[go_sem, *];refine B.mono ?_;rintro r A ⟨j,u,q,C⟩;subst j;have n:∃c,Fin 2 (wt c) r/\c.length<=i+1:=⟨u,q,by omega⟩;exact au
 rintro fr h z ⟨H,v,I,j,c,f,w⟩;subst j;obtain⟨o,m⟩:∃o,fr 5=o:=⟨_,rfl⟩;rw[m]at f;have s:∃c,Fin 2 (wt c) o/\c.length<=a.length+0:=⟨c,f,by omega⟩;simp only[go_sem, *];refine zd (λi fr h'=>fr 1=e/\fr 7=.int .i64 (i:Int)/\h'=h/\∃c,Fin 2 (wt c) (fr 5)/\c.length<=a.length+i) b.length ow ?_ ?_ ?_
 ·clear k;simp only[go_sem,zT,zV,zI,v,m];exact s
 ·rintro i fr h p z G ⟨v,J,j,c,f,w⟩;subst j;obtain⟨o,m⟩:∃o,fr 5=o:=⟨_,rfl⟩;rw[m]at f;have y:=oO F p;have B:=k c o f.isSl ow b[i] h;generalize b[i]=x at *
  simp only[Trm.cells]at y;simp only[go_sem, *];refine B.mono ?_;rintro r A ⟨j,u,q,C⟩;subst j;have n:∃c,Fin 2 (wt c) r/\c.length<=a.length+(i+1):=⟨u,q,by omega⟩;exact au
 ·rintro fr h z ⟨v,J,j,c,f,w⟩;subst j;obtain⟨o,m⟩:∃o,fr 5=o:=⟨_,rfl⟩;rw[m]at f;have n:=K o h ⟨rfl,c,f,w⟩;exact au
def zCU{l:List Trm}(j:yi 2 (wt l) d)(z:l.length<=1048576)(t:Trm)(g:Heap):zE prog 394 [d,.agg t.cells] g λr h'=>h'=g/\∃b,r=.bool b:=by
 refine xP λQ u=> ?_;have m:=Rs j;have k:∀b,Q (.bool b) g:=λb=>u _ _ ⟨rfl,b,rfl⟩;have w:=QP;simp only[Trm.cells];refine zu zLf ?_;simp only[f394,zA]
 repeat' first|simp only[go_sem, *]|apply bc<;>intro v
 refine zd (λi fr h=>fr 0=d/\fr 3=.iptr [.str t.a,.str t.b] 0/\fr 5=.int .i64 (i:Int)/\h=g) l.length ow ?_ ?_ ?_
 ·simp only[go_sem,zT,zV,zI]
 ·rintro i fr h c o y ⟨p,q,s,f⟩;subst f;have n:=NR j c;generalize l[i]=x at *
  simp only[Trm.cells]at n
  repeat' first|simp only[go_sem, *]|apply bc<;>intro v
  refine qH Heap.emp [(4,.no,false),(0,.no,false),(1,.no,false),(2,.no,false),(3,.no,false),(5,.no,false)] kr kr (λi A e=>by cases e) ?_;exact au
 ·rintro fr h o ⟨p,q,s,f⟩;subst f;exact au
def Q2{a b:List Trm}{d e:D}(y:yi 2 (wt a) d)(k:yi 2 (wt b) e)(f:a.length<=1048576)(z:b.length<=1048576)(g:Heap):zE prog 359 [d,e] g λr h'=>h'=g/\∃b,r=.bool b:=by
 refine xP λQ u=> ?_;have n:=uf k;have l:∀b,Q (.bool b) g:=λb=>u _ _ ⟨rfl,b,rfl⟩;have m:=zCU y f;simp only[Trm.cells]at m;refine zu zLX ?_;simp only[f359,zA]
 repeat' first|simp only[go_sem, *]|apply bc<;>intro v
 refine zd (λi fr h=>fr 0=d/\fr 1=e/\fr 5=.int .i64 (i:Int)/\h=g) b.length ow ?_ ?_ ?_
 ·simp only[go_sem,zT,zV,zI]
 ·rintro i fr h j p A ⟨q,s,t,c⟩;subst c;have o:=oO k j;generalize b[i]=x at *
  simp only[Trm.cells]at o
  repeat' first|simp only[go_sem, *]|apply bc<;>intro v|(refine zE.mono (m _ _) ?_;rintro r h ⟨c,w,rfl⟩)
 ·rintro fr h p ⟨q,s,t,c⟩;subst c;exact au
def LJ{a b:List Trm}{d e:D}(o:yi 2 (wt a) d)(p:yi 2 (wt b) e)(F:a.length<=1048576)(G:b.length<=1048576)(g:Heap):zE prog 360 [d,e] g λr h'=>h'=g/\∃n,r=.int .i64 n:=by
 refine xP λQ C=> ?_;have s:=uf o;have k:=uf p;have q:∀b,Q (.int .i64 b) g:=λb=>C _ _ ⟨rfl,b,rfl⟩;have c:=T9;simp only[Trm.cells]at c;refine zu zLY ?_;simp only[f360,zA];cases H:((a.length:Int)==(b.length:Int))with
 |false=>
  repeat' first|simp only[go_sem, *]|apply bc<;>intro j
 |true=>
 have E:a.length<=b.length:=by have:=qN.1 H;omega
 repeat' first|simp only[go_sem, *]|apply bc<;>intro j
 refine zd (λi fr h=>fr 0=d/\fr 1=e/\fr 5=.int .i64 (i:Int)/\h=g) a.length ow ?_ ?_ ?_
 ·simp only[go_sem,zT,zV,zI]
 ·rintro i fr h l v I ⟨z,A,B,f⟩;subst f;have t:=oO o l;have u:=oO p (show i<b.length by omega);generalize a[i]=x at *
  generalize b[i]=y at *
  simp only[Trm.cells]at t u
  repeat' first|simp only[go_sem, *]|apply bc<;>intro j
  refine yI kr ?_
  repeat' first|simp only[go_sem, *]|apply bc<;>intro j|(refine zE.mono (c _ _ _) ?_;rintro r h ⟨m,w,rfl⟩)
  refine yI kr ?_
  repeat' first|simp only[go_sem, *]|apply bc<;>intro j|(refine zE.mono (c _ _ _) ?_;rintro r h ⟨m,w,rfl⟩)
 ·rintro fr h v ⟨z,A,B,f⟩;subst f;exact au
structure AltB(m:Nat)(a:Alt):Prop where
 sl:yi 2 (wt a.ts) a.d
 len:a.ts.length<=m
 pl:wr [a.d]
def AltB.io{m:Nat}{a:Alt}(h:AltB m a):yi 2 (wt a.ts) a.d/\a.ts.length<=m:=⟨h.sl,h.len⟩
def AltB.mono{m n:Nat}{a:Alt}(h:AltB m a)(b:m<=n):AltB n a:=⟨h.sl,zf h.len b,h.pl⟩
def kn(h:Fin sz xs d)(b:∀x∈xs,wr x):wr [d]:=by
 rcases h with⟨rfl,_⟩ |rfl
 ·exact⟨rfl,by simp[qO,below],rfl⟩
 ·have a:=yj (sz:=sz) b .no;exact⟨rfl,by simp only[qO,zV];exact a.2,by simp only[qY,a.1]⟩
def AltB.of{m:Nat}(h:Fin 2 (wt ts) d)(a:ts.length<=m):AltB m ⟨ts,d⟩:=⟨h.isSl,a,kn h (Vp _)⟩
def Un{m:Nat}{a:Alt}(b:AltB m a)(nid:Nat)(h:Heap):yB prog false nid 44 1 [(0,a.d)] h=some (.sl 1 [[a.d]] .full,h):=by
 obtain⟨k1,k2,k3⟩:=yP b.sl;exact cQ a.d nid h k1 k2 k3
theorem aa{m:Nat}{l:List Alt}(hd:yi 1 (qe l) d)(hl:l.length<=65536)(hm:m<=65536)(I:∀a∈l,yi 2 (wt a.ts) a.d/\a.ts.length<=m)(g:Heap):zE prog 279 [d] g λr h'=>h'=g/\∃l',Fin 1 (qe l') r/\l'.length<=l.length/\∀a∈l',AltB m a:=by
 refine xU kr λcp=>xS (zE.freezeOr ?_);have v:=tn hd;refine xP λQ T=> ?_;refine zu zK1 ?_;simp only[f279,zA]
 repeat' first|simp only[go_sem, *]|apply bc<;>intro B
 refine zd (λi fr h=>fr 0=d/\fr 4=.int .i64 (i:Int)/\∃all,Own g h 1 (qe all) (fr 3)/\all.length=i/\∀a∈all,AltB m a) l.length ow ?_ ?_ ?_
 ·have u:∃all,Own g g 1 (qe all) .nilsl/\all.length=0/\∀a∈all,AltB m a:=⟨[],Own.start (Ext.refl g) 1,rfl,λa h=>by cases h⟩;clear T v;simp only[go_sem,zT,zV,zI];exact u
 ·rintro i fr h F ec ew ⟨f0,f4,all,q,E,f⟩;obtain⟨o,C⟩:∃o,fr 3=o:=⟨_,rfl⟩;rw[C]at q;have a1:=ox hd F;have ag:=I _ (zH F);have c0:=ag.2;have hj:=K1 (b:=[]) (e:=.nilsl) ag.1 (.inl ⟨rfl,rfl⟩) (by simp;omega);generalize l[i]=a at *
  obtain⟨k1,k2,k3⟩:=yP ag.1;clear T I hd
  repeat' first|simp only[go_sem, *]|apply bc<;>intro B
  refine(hj _).mono ?_;rintro r h2 ⟨K,ts,b1,cf⟩;subst K;have a6:=AltB.of (m:=m) b1 (by simp at cf;omega);have bo:=Un a6;obtain⟨q1,q2,q3⟩:=yP b1.isSl;clear hj
  repeat' first|simp only[go_sem, *]|apply bc<;>intro B
  refine q.appH (ys:=qe [⟨ts,r⟩]) uV po ue ow (si _) (by simp[qe]) (by rw[qC,tU];unfold lim;simp[qe];omega) (by rw[qC];unfold lim;simp[qe];omega) λd' h' bb=> ?_;have cm:∃al,Own g h' 1 (qe al) d'/\al.length=i+1/\∀a∈al,AltB m a:=⟨all++ [⟨ts,r⟩],by
   have:qe (all++ [⟨ts,r⟩])=qe all++qe [⟨ts,r⟩]:=by simp[qe]
   rw[this];exact bb,by simp[E],λx hx=>by
   rcases yp.1 hx with h1|h1
   ·exact f x h1
   ·cases ze.1 h1;exact a6⟩
  clear q bb f;exact au
 rintro fr G ec ⟨f0,f4,all,q,E,f⟩;obtain⟨o,C⟩:∃o,fr 3=o:=⟨_,rfl⟩;rw[C]at q;have hE:=q.1;have ad:=q.isSl;have cb:=tn ad;have cl:all.length<=l.length:=ow;clear q E
 repeat' first|simp only[go_sem, *]|apply bc<;>intro B
 refine zd (λi fr h=>fr 3=o/\fr 6=.int .i64 (i:Int)/\∃out,Yi G h 1 (qe out) (fr 5)/\out.length<=i/\∀a∈out,AltB m a) all.length ow ?_ ?_ ?_
 ·have u:∃out,Yi G G 1 (qe out) .nilsl/\out.length<=0/\∀a∈out,AltB m a:=⟨[],Yi.start (Ext.refl G) 1,by simp,λa h=>by cases h⟩;clear T v;simp only[go_sem,zT,zV,zI,C];exact u
 ·clear C f0 f4 ec fr;rintro i fr h F ec ew ⟨C,X,out,q,N,p⟩;obtain⟨od,S⟩:∃o,fr 5=o:=⟨_,rfl⟩;rw[S]at q;obtain⟨z1,z2,z3⟩:=q.flat;have a1:=ox ad F;have z:=f _ (zH F);have b8:=z.len;have ca:=uf z.sl;have hB:=A0;clear T v hd I;obtain⟨L,a7⟩:∃a,all[i]=a:=⟨_,rfl⟩;rw[a7]at a1 z b8 ca
  repeat' first|simp only[go_sem, *]|apply bc<;>intro B
  refine zd (λk fr h'=>fr 3=o/\fr 6=.int .i64 (i:Int)/\fr 8=.int .i64 (k:Int)/\KU (fr 7)/\fr 5=od/\h'=h) all.length ow ?_ ?_ ?_
  ·simp only[go_sem,zT,zV,zI,A0,C,X,S]
  ·clear C X S fr;rintro k fr h W b2 cv ⟨C,X,f8,⟨b7,f7⟩,S,K⟩;subst K;have a2:=ox ad W;have Y:=f _ (zH W);have cw:=Y.len;have cx:=uf Y.sl;have b4:=Q2 z.sl Y.sl ow ow;generalize all[k]=ak at *
   clear f p q N
   repeat' first|simp only[go_sem, *]|apply bc<;>intro B
   refine yI kr ?_
   repeat' first|simp only[go_sem, *]|apply bc<;>intro B|(refine zE.mono (b4 _) ?_;rintro r h ⟨K,w,rfl⟩)
  rintro fr h2 b2 ⟨C,X,f8,⟨b7,f7⟩,S,K⟩;subst K;cases b7 with
  |false=>
   have u:∃out,Yi G h2 1 (qe out) od/\out.length<=i+1/\∀a∈out,AltB m a:=⟨out,q,by omega,p⟩;clear f p q N
   repeat' first|simp only[go_sem, *]|apply bc<;>intro B
  |true=>
  have bo:=Un z h2.next h2;obtain⟨q1,q2,q3⟩:=yP z.sl;obtain⟨d',H,M,bk,cg⟩:=q.app (P:=prog) (ys:=qe [L]) (tk:=.full) uV po ue ow (λcs=>X2 underlying195) (si _) (si _) (by simp[qe]) (by rw[qC,tU];unfold lim;simp[qe];omega) (by rw[qC];unfold lim;simp[qe];omega);have E:qe [L]= [[L.d]]:=rfl;have U:qe out++qe [L]=qe (out++ [L]):=by simp[qe]
  rw[U]at bk;rw[E]at M cg;have s:∀a∈out++ [L],AltB m a:=λx hx=>by
   rcases yp.1 hx with h1|h1
   ·exact p x h1
   ·cases ze.1 h1;exact z
  have cu:(out++ [L]).length<=i+1:=by simp;omega
  have bs:0<(out++ [L]).length:=by simp
  generalize out++ [L]=c at *
  obtain⟨b3,Z⟩:=bk;rcases Z with⟨_,e⟩ | ⟨id,rfl,y,hid,V,_⟩
  ·exact absurd bs (by rw[show c.length=(qe c).length from(qC _).symm,e];simp)
  rw[qC]at M;have a3:IntKind.i64.wrap ((c.length:Int)-1)=((c.length-1:Nat):Int):=by rw[qU ow ow];omega
  have cc:=λh=>nM (P:=prog) (t:=44) (sz:=1) (id:=id) (off:=0) (len:=c.length) (h:=h) underlying44;clear f p q N U
  repeat' first|simp only[go_sem, *]|apply bc<;>intro B
  refine qx (λj fr h=>fr 3=o/\fr 6=.int .i64 (i:Int)/\fr 9=.int .i64 ((c.length-1-j:Nat):Int)/\fr 5=.rs id 1 0 c.length/\∃xs,xs.length=c.length/\h=H.set id (.row (qe xs).flatten)/\∀a∈xs,AltB m a) (c.length-1) ?_ ?_
  ·have u:∃xs:List Alt,xs.length=c.length/\H=H.set id (.row (qe xs).flatten)/\∀a∈xs,AltB m a:=⟨c,rfl,(sR y).symm,s⟩;clear s a3 cc;simp only[go_sem,zT,zV,zI,C,X];exact⟨by rw[sY],u⟩
  rintro j fr h hj ⟨C,X,f9,S,xs,a4,rfl,D⟩;have J:(H.set id (.row (qe xs).flatten)).at' id=some (.row (qe xs).flatten):=zW _ _ _;have a0:∃out,Yi G (H.set id (.row (qe xs).flatten)) 1 (qe out) (.rs id 1 0 c.length)/\out.length<=i+1/\∀a∈out,AltB m a:=⟨xs,⟨b3.set hid _,.inr ⟨id,by rw[qC,a4],J,hid,by rw[ym];exact V,λe=>by
   have:(qe xs).length=0:=by rw[e];rfl
   rw[qC]at this;omega⟩⟩,by omega,D⟩
  obtain⟨k,hk⟩:∃k,c.length-1-j=k:=⟨_,rfl⟩;rw[hk]at f9;cases k with
  |zero=>
   have h0:decide (((0:Nat):Int)>0)=false:=rfl;clear s D a3 y M
   repeat' first|simp only[go_sem, *]|apply bc<;>intro B
   refine yI kr ?_
   repeat' first|simp only[go_sem, *]|apply bc<;>intro B
  |succ k=>
   have h0:decide (((k+1:Nat):Int)>0)=true:=zS ow;have c4:IntKind.i64.wrap (((k+1:Nat):Int)-1)=(k:Int):=by rw[qU ow ow];omega
   have ba:k+1<xs.length:=ow;have c1:(qe xs).flatten[k+1]? =some xs[k+1].d:=by rw[oM];simp[ba]
   have c2:(qe xs).flatten[k]? =some xs[k].d:=by rw[oM];simp[show k<xs.length by omega]
   have O:=D _ (zH ba);have R:=D _ (zH (show k<xs.length by omega));have i1:yt prog 44 (.rs id 1 0 c.length) (.int .i64 ((k+1:Nat):Int))=some (.ptr id (k+1)):=by
    have:=qj (P:=prog) (sz:=1) (id:=id) uV ue (k:=.i64) (show k+1<c.length by omega)
    rwa [ww]at this
   have i2:yt prog 44 (.rs id 1 0 c.length) (.int .i64 (k:Int))=some (.ptr id k):=by
    have:=qj (P:=prog) (sz:=1) (id:=id) uV ue (k:=.i64) (show k<c.length by omega)
    rwa [ww]at this
   have a8:=LJ O.sl R.sl (by have:=O.len;omega) (by have:=R.len;omega);have b5:(qe xs).flatten=xs.map Alt.d:=oM xs;have b0:((qe xs).flatten.set (k+1) xs[k].d).set k xs[k+1].d=(qe ((xs.set (k+1) xs[k]).set k xs[k+1])).flatten:=by rw[oM,oM,tR,tR]
   have bx:∀a∈(xs.set (k+1) xs[k]).set k xs[k+1],AltB m a:=λa ha=>by
    rcases uw ha with h1|rfl
    ·rcases uw h1 with h2|rfl
     ·exact D a h2
     ·exact R
    ·exact O
   have A:∀hh,hh=H.set id (.row (((qe xs).flatten.set (k+1) xs[k].d).set k xs[k+1].d))->(j<c.length-1/\∃ys:List Alt,ys.length=c.length/\hh=H.set id (.row (qe ys).flatten)/\∀a∈ys,AltB m a):=λhh e=>⟨by omega,_,by rw[uQ,uQ];exact a4,by rw[e,b0],bx⟩;have b9:c.length-1- (j+1)=k:=ow;obtain⟨u1,u2,u3⟩:=yP O.sl;obtain⟨v1,v2,v3⟩:=yP R.sl;have a9:(qe xs).flatten.length=c.length:=by rw[oM,zG,a4]
   have ch:yX prog 195 (.ptr id (k+1)) xs[k].d (H.set id (.row (qe xs).flatten))=some (H.set id (.row ((qe xs).flatten.set (k+1) xs[k].d))):=by
    rw[yU J ue ow v1 v3,kM]
   have ck:yX prog 195 (.ptr id k) xs[k+1].d (H.set id (.row ((qe xs).flatten.set (k+1) xs[k].d)))=some (H.set id (.row (((qe xs).flatten.set (k+1) xs[k].d).set k xs[k+1].d))):=by
    rw[yU (zW _ _ _) ue (by rw[uQ];omega) u1 u3,kM]
   generalize xs[k+1]=x1 at *
   generalize xs[k]=x2 at *
   clear s D a3 y M b0 bx b5 a9;generalize(qe xs).flatten=row at *
   repeat' first|simp only[go_sem, *]|apply bc<;>intro B
   refine yI kr ?_
   repeat' first|simp only[go_sem, *]|apply bc<;>intro B
   refine(a8 _).mono ?_;rintro r h3 ⟨K,n,rfl⟩;subst K;cases hn:decide (n<0)with
   |false=>
    clear A ch ck b9
    repeat' first|simp only[go_sem, *]|apply bc<;>intro B
   |true=>
    clear a0 a8
    repeat' first|simp only[go_sem, *]|apply bc<;>intro B
    have A:=A _ rfl;refine yI kr ?_;exact au
 ·rintro fr h ec ⟨C,X,out,q,N,p⟩;obtain⟨od,S⟩:∃o,fr 5=o:=⟨_,rfl⟩;rw[S]at q;obtain⟨a5,Z⟩:=q;rcases Z with⟨rfl,e⟩ | ⟨id,rfl,y,hid,V,c3⟩
  ·have K:=T .nilsl h (.inl ⟨hE.trans a5,by simp[qD,below],[],.inl ⟨rfl,rfl⟩,by simp,λa h=>by cases h⟩);clear T v hd I f p;exact au
  ·have b6:frz id (qe out).flatten (.rs id 1 0 (qe out).length)=.sl 1 (qe out) .no:=XN (rest:=[]) (si _) rfl (by simp);have u:=yj (sz:=1) (xs:=qe out) (λx hx=>by
    obtain⟨a,ha,rfl⟩:=zM.1 hx;exact(p a ha).pl) .no
   have K:=T (.rs id 1 0 (qe out).length) h (.inr ⟨id,_,y,by
    rw[b6,u.1];exact⟨(hE.trans a5).del (by have:=hE.1;omega),qF (yC _) _ u.2,out,.inr rfl,by omega,p⟩⟩)
   clear T v hd I f p;exact au
def RC{m:Nat}{a b:List Alt}{d e:D}(A:yi 1 (qe a) d)(B:yi 1 (qe b) e)(H:a.length+b.length<=65536)(E:m<=65536)(o:∀x∈a,yi 2 (wt x.ts) x.d/\x.ts.length<=m)(z:∀x∈b,yi 2 (wt x.ts) x.d/\x.ts.length<=m)(g:Heap):zE prog 280 [d,e] g λr h'=>h'=g/\∃k,Fin 1 (qe k) r/\k.length<=a.length+b.length/\∀x∈k,AltB m x:=by
 refine xU kr λt=> ?_;refine xP λQ y=> ?_;have c:∀h l d,Own g h 1 (qe l) d->l.length=a.length+b.length->(∀x∈l,yi 2 (wt x.ts) x.d/\x.ts.length<=m)->zE prog 279 [d] h λr h'=>Q r h':=λh l d s C j=>(aa (m:=m) s.isSl ow E j h).mono λr h' ⟨F,k,u,J,v⟩=>by
  subst F;refine y _ _ ⟨s.1,?_,k,u,by omega,v⟩;have:=kn u (λx j=>by
   obtain⟨a,o,rfl⟩:=zM.1 j;exact(v a o).pl)
  have n:=this.2.1;simp only[qO,zV]at n;exact qF (yC _) _ n
 have h0:=Own.start (Ext.refl g) 1;refine zu zK2 ?_;simp only[f280,zA];simp only[go_sem, *];refine h0.appI (ys:=qe a) uV po ue ow (si _) A (by rw[qC,tU];unfold lim;simp;omega) (by rw[qC];unfold lim;simp;omega) λG h1 f=> ?_;rw[yc]at f;simp only[go_sem, *];refine f.appI (ys:=qe b) uV po ue ow (si _) B (by rw[qC,qC,tU];unfold lim;omega) (by rw[qC,qC];unfold lim;omega) λw n i=> ?_;have p:qe a++qe b=qe (a++b):=by simp[qe]
 rw[p]at i;have I:=c n (a++b) w i (by simp) (λx j=>by
  rcases yp.1 j with q|q
  ·exact o x q
  ·exact z x q)
 exact au
def Bt{m n:Nat}{a b:List Alt}{d e:D}(M:yi 1 (qe a) d)(V:yi 1 (qe b) e)(N:a.length<=64)(O:b.length<=64)(hm:m+n<=65536)(H:∀x∈a,AltB m x)(hb:∀x∈b,AltB n x)(g:Heap):zE prog 281 [d,e] g λr h'=>h'=g/\∃G,Fin 1 (qe G) r/\G.length<=a.length*b.length/\∀x∈G,AltB (m+n) x:=by
 have L:a.length*b.length<=4096:=zf (kE N O) ow;refine xU kr λX=> ?_;refine xP λQ T=> ?_;have p:∀h l d,Own g h 1 (qe l) d->l.length=a.length*b.length->(∀x∈l,AltB (m+n) x)->zE prog 279 [d] h λr h'=>Q r h':=λh l d j a0 F=>(aa (m:=m+n) j.isSl ow hm (λx h=>(F x h).io) h).mono λr h' ⟨q1,G,S,q3,q4⟩=>by
  subst q1;refine T _ _ ⟨j.1,?_,G,S,by omega,q4⟩;have:=kn S (λx F=>by
   obtain⟨a,H,rfl⟩:=zM.1 F;exact(q4 a H).pl)
  have K:=this.2.1;simp only[qO,zV]at K;exact qF (yC _) _ K
 have P:=tn M;have R:=tn V;clear T;refine zu zK3 ?_;simp only[f281,zA];simp only[go_sem, *];refine zd (λi fr h=>fr 0=d/\fr 1=e/\fr 6=.int .i64 (i:Int)/\∃all,Own g h 1 (qe all) (fr 5)/\all.length=i*b.length/\∀x∈all,AltB (m+n) x) a.length ow ?_ ?_ ?_
 ·have q:∃all,Own g g 1 (qe all) .nilsl/\all.length=0*b.length/\∀x∈all,AltB (m+n) x:=⟨[],Own.start (Ext.refl g) 1,by simp,λa h=>by cases h⟩;clear p;simp only[go_sem,zT,zV,zI];exact q
 ·rintro i fr h w ec ew ⟨y,z,A,all,j,f,c⟩;obtain⟨o,s⟩:∃o,fr 5=o:=⟨_,rfl⟩;rw[s]at j;have a1:=ox M w;have v:=H _ (zH w);have ak:i*b.length+b.length<=4096:=by rw[<-qf];exact zf (yv _ w) L
  generalize a[i]=ai at *
  obtain⟨k1,k2,k3⟩:=yP v.sl;have U:=v.len;have q:∃all,Own g h 1 (qe all) o/\all.length=i*b.length+0/\∀x∈all,AltB (m+n) x:=⟨all,j,f,c⟩;clear p H M j f c;simp only[go_sem, *];refine zd (λk fr h=>fr 0=d/\fr 1=e/\fr 6=.int .i64 (i:Int)/\fr 7=.int .i64 (k:Int)/\∃all,Own g h 1 (qe all) (fr 5)/\all.length=i*b.length+k/\∀x∈all,AltB (m+n) x) b.length ow ?_ ?_ ?_
  ·simp only[go_sem,zT,zV,zI,y,z,s,A];exact q
  ·clear y z s A q fr h;rintro k fr h u J ad ⟨y,z,A,f7,all,j,f,c⟩;obtain⟨o,s⟩:∃o,fr 5=o:=⟨_,rfl⟩;rw[s]at j;have a2:=ox V u;have B:=hb _ (zH u);have ag:=B.len;have W:=K1 v.sl B.sl ow;generalize b[k]=bk at *
   simp only[go_sem, *];refine yI kr ?_;simp only[go_sem, *];refine(W _).mono ?_;rintro r K ⟨Z,I,E,a3⟩;subst Z;have t:=AltB.of (m:=m+n) E ow;have Y:=Un t;obtain⟨q1,S,q3⟩:=yP E.isSl;clear W;simp only[go_sem, *];refine j.appH (ys:=qe [⟨I,r⟩]) uV po ue ow (si _) (by simp[qe]) (by rw[qC,tU];unfold lim;simp[qe];omega) (by rw[qC];unfold lim;simp[qe];omega) λd' h' C=> ?_;have p:∃al,Own g h' 1 (qe al) d'/\al.length=i*b.length+(k+1)/\∀a∈al,AltB (m+n) a:=⟨all++ [⟨I,r⟩],by
    have:qe (all++ [⟨I,r⟩])=qe all++qe [⟨I,r⟩]:=by simp[qe]
    rw[this];exact C,by simp;omega,λx F=>by
    rcases yp.1 F with h1|h1
    ·exact c x h1
    ·cases ze.1 h1;exact t⟩
   clear j C c f;exact au
  ·clear y z s A q fr h;rintro fr h J ⟨y,z,A,f7,all,j,f,c⟩;obtain⟨o,s⟩:∃o,fr 5=o:=⟨_,rfl⟩;rw[s]at j;have q:∃all,Own g h 1 (qe all) o/\all.length=(i+1)*b.length/\∀x∈all,AltB (m+n) x:=⟨all,j,by rw[qf];exact f,c⟩;clear j f c;exact au
 ·rintro fr h ec ⟨y,z,A,all,j,f,c⟩;obtain⟨o,s⟩:∃o,fr 5=o:=⟨_,rfl⟩;rw[s]at j;have Z:=p h all o j f c;clear p j f c;exact au
def By:∀(n:Nat){e:Ex},e.size<=n->e.Ok->e.size<=1048576->∀g:Heap,zE prog 354 [.agg e.cells] g λr h'=>h'=g/\IsI r:=by
 intro n
 induction n with
 |zero=>intro e h;cases e;simp only[Ex.size]at h;omega
 |succ n E=>
 intro e C c m g;refine xP λQ A=> ?_;have p:∀n,Q (.int .i64 n) g:=λn=>A _ _ ⟨rfl,n,rfl⟩;obtain⟨k,F,x,l,d⟩:=e;simp only[Ex.size,Ex.Ok]at C c m;obtain⟨o,I,_,_,f⟩:=c;have q:=pw o;have H:=isI;refine zu zLT ?_;simp only[f354,zA];simp only[Ex.cells,Ex.kind,Ex.name,Ex.exc,Ex.d]
 repeat' first|simp only[go_sem, *]|apply bc<;>intro B
 refine zd (λi fr h=>fr 1=.iptr [.int .i64 k,.str F,.str x,d] 0/\fr 4=.int .i64 (i:Int)/\IsI (fr 3)/\h=g) l.length ow ?_ ?_ ?_
 ·simp only[go_sem,zT,zV,zI,isI]
 ·rintro i fr h b t G ⟨u,y,⟨z,v⟩,a⟩;subst a;have s:=kX o b;have j:l[i]∈l:=zH b;have a:=E (e:=l[i]) (by have:=uI j;omega) (px f _ j) (by have:=uI j;omega);simp only[Ex.cells]at s a
  repeat' first|simp only[go_sem, *]|apply bc<;>intro B|(refine zE.mono (a _) ?_;rintro r h ⟨D,w,rfl⟩)
 ·rintro fr h t ⟨u,y,⟨z,v⟩,a⟩;subst a;exact au
def GM:∀(n:Nat){e:Ex},e.size<=n->e.Ok->e.size<=1048576->∀g:Heap,zE prog 355 [.agg e.cells] g λr h'=>h'=g/\IsI r:=by
 intro n
 induction n with
 |zero=>intro e h;cases e;simp only[Ex.size]at h;omega
 |succ n E=>
 intro e D f p g;refine xP λQ C=> ?_;have s:∀n,Q (.int .i64 n) g:=λn=>C _ _ ⟨rfl,n,rfl⟩;obtain⟨k,F,x,l,d⟩:=e;simp only[Ex.size,Ex.Ok]at D f p;obtain⟨q,J,_,_,j⟩:=f;have t:=pw q;have H:=isI;refine zu zLU ?_;simp only[f355,zA];simp only[Ex.cells,Ex.kind,Ex.name,Ex.exc,Ex.d];simp only[go_sem, *];refine zd (λi fr h=>fr 1=.iptr [.int .i64 k,.str F,.str x,d] 0/\fr 4=.int .i64 (i:Int)/\IsI (fr 3)/\h=g) l.length ow ?_ ?_ ?_
 ·simp only[go_sem,zT,zV,zI,isI]
 ·rintro i fr h b v G ⟨y,B,⟨z,A⟩,a⟩;subst a;have u:=kX q b;have m:l[i]∈l:=zH b;have a:=E (e:=l[i]) (by have:=uI m;omega) (px j _ m) (by have:=uI m;omega);simp only[Ex.cells]at u a;simp only[go_sem, *];refine(a _).mono ?_;rintro r h ⟨o,w,rfl⟩;subst o;obtain⟨c,I⟩:=zHA z w;exact au
 ·rintro fr h v ⟨y,B,⟨z,A⟩,a⟩;subst a;exact au
def GN:∀(n:Nat){e:Ex},e.size<=n->e.Ok->e.size<=1048576->∀{e2:Ex},e2.Ok->∀g:Heap,zE prog 351 [.agg e.cells,.agg e2.cells] g λr h'=>h'=g/\KU r:=by
 intro n
 induction n with
 |zero=>intro e h;cases e;simp only[Ex.size]at h;omega
 |succ n R=>
 intro e N m y e2 a g;refine xP λQ K=> ?_;have B:∀n,Q (.bool n) g:=λn=>K _ _ ⟨rfl,n,rfl⟩;obtain⟨k,S,x,l,d⟩:=e;obtain⟨k2,z,T,p,F⟩:=e2;simp only[Ex.size,Ex.Ok]at N m y a;obtain⟨A,W,_,_,s⟩:=m;obtain⟨c,M,_,_,f⟩:=a;have C:=pw A;have t:=pw c;have V:=A0;refine zu zLQ ?_;simp only[f351,zA];simp only[Ex.cells,Ex.kind,Ex.name,Ex.exc,Ex.d];cases O:((l.length:Int)==(p.length:Int))with
 |false=>
  repeat' first|simp only[go_sem, *]|apply bc<;>intro q
 |true=>
 have L:l.length<=p.length:=by have:=qN.1 O;omega
 repeat' first|simp only[go_sem, *]|apply bc<;>intro q
 refine zd (λi fr h=>fr 2=.iptr [.int .i64 k,.str S,.str x,d] 0/\fr 3=.iptr [.int .i64 k2,.str z,.str T,F] 0/\fr 5=.int .i64 (i:Int)/\h=g) l.length ow ?_ ?_ ?_
 ·simp only[go_sem,zT,zV,zI]
 ·rintro i fr h j G U ⟨H,I,J,b⟩;subst b;have D:=kX A j;have E:=kX c (show i<p.length by omega);have u:l[i]∈l:=zH j;have v:p[i]'ow∈p:=zH ow;have o:=R (e:=l[i]) (by have:=uI u;omega) (px s _ u) (by have:=uI u;omega) (px f _ v);simp only[Ex.cells]at D E o
  repeat' first|simp only[go_sem, *]|apply bc<;>intro q
  refine yI kr ?_
  repeat' first|simp only[go_sem, *]|apply bc<;>intro q|(refine zE.mono (o _) ?_;rintro r h ⟨P,w,rfl⟩)
 ·rintro fr h G ⟨H,I,J,b⟩;subst b;exact au
def K3(s:List UInt8)(c:s.length<=1048576)(g:Heap):zE prog 392 [.str s] g λr h'=>h'=g/\KU r:=by
 refine xP λQ b=> ?_;have a:∀n,Q (.bool n) g:=λn=>b _ _ ⟨rfl,n,rfl⟩;have d:=jR s c;refine zu zLd ?_;simp only[f392,zA]
 repeat' first|simp only[go_sem, *]|apply bc<;>intro f|(refine zE.mono (d _) ?_;rintro r h ⟨e,w,rfl⟩)
mutual
def Ex.Kd:Ex->Prop
 |.mk k _ _ l _=>(0<=k/\k<=3)/\kdL l
def kdL:List Ex->Prop
 | []=>True
 |e::l=>e.Kd/\kdL l
end
theorem PR:∀{l:List Ex},kdL l↔∀e∈l,e.Kd
 | []=>by simp[kdL]
 |x::l=>by simp[kdL,PR (l:=l)]
def Bv:∀(n:Nat){e:Ex},e.size<=n->e.Ok->e.size<=1048576->∀g:Heap,zE prog 356 [.agg e.cells] g λr h'=>h'=g/\∃n,r=.int .i64 n/\(n=0->e.Kd):=by
 intro n
 induction n with
 |zero=>intro e h;cases e;simp only[Ex.size]at h;omega
 |succ n R=>
 intro e t u D g;refine xP λQ F=> ?_;have a:∀n,(n==0)=false->Q (.int .i64 n) g:=λn t=>F _ _ ⟨rfl,n,rfl,λq=>by simp[q]at t⟩;have E:=a 1 rfl;have T:=a 2 rfl;obtain⟨k,I,x,l,d⟩:=e;simp only[Ex.size,Ex.Ok]at t u D;obtain⟨G,U,y,z,v⟩:=u;have H:=pw G;have B:=K3 I y;have C:=K3 x z;cases k1:decide (k<0)with
 |true=>
  refine zu zAK ?_;simp only[f356,zA];simp only[Ex.cells,Ex.kind,Ex.name,Ex.exc,Ex.d]
  repeat' first|simp only[go_sem, *]|apply bc<;>intro o
 |false=>
 cases k2:decide (k>3)with
 |true=>
  refine zu zAK ?_;simp only[f356,zA];simp only[Ex.cells,Ex.kind,Ex.name,Ex.exc,Ex.d]
  repeat' first|simp only[go_sem, *]|apply bc<;>intro o
 |false=>
 have b:(∀e∈l,e.Kd)->Q (.int .i64 0) g:=λO=>F _ _ ⟨rfl,0,rfl,λ_=>by
  rw[Ex.Kd];have:=yO k1;have:=yO k2;exact⟨by omega,PR.2 O⟩⟩
 refine zu zAK ?_;simp only[f356,zA];simp only[Ex.cells,Ex.kind,Ex.name,Ex.exc,Ex.d]
 repeat' first|simp only[go_sem, *]|apply bc<;>intro o|(refine zE.mono (B _) ?_;rintro r h ⟨c,w,rfl⟩)|(refine zE.mono (C _) ?_;rintro r h ⟨c,w,rfl⟩)
 all_goals
  refine zd (λi fr h=>fr 1=.iptr [.int .i64 k,.str I,.str x,d] 0/\fr 3=.int .i64 (i:Int)/\h=g/\∀j (f:j<l.length),j<i->l[j].Kd) l.length ow ?_ ?_ ?_
  ·simp only[go_sem,zT,zV,zI];exact λj f h0=>by omega
  ·rintro i fr h s K S ⟨E,L,m,f⟩;subst m;have J:=kX G s;have A:l[i]∈l:=zH s;have m:=R (e:=l[i]) (by have:=uI A;omega) (px v _ A) (by have:=uI A;omega);simp only[Ex.cells]at J m
   repeat' first|simp only[go_sem, *]|apply bc<;>intro o
   refine(m _).mono ?_;rintro r h ⟨c,w,rfl,P⟩;subst c;cases w0:(w==0)with
   |false=>
    have hf:=a w w0
    repeat' first|simp only[go_sem, *]|apply bc<;>intro o
   |true=>
    have t:∀j (f:j<l.length),j<i+1->l[j].Kd:=λj h1 M=>by
     rcases z7.1 M with h|rfl
     ·exact f j h1 h
     ·exact P (by simpa using w0)
    repeat' first|simp only[go_sem, *]|apply bc<;>intro o
    exact t
  ·rintro fr h K ⟨E,L,m,f⟩;subst m;have hf:=b λe N=>by
    obtain⟨j,p,rfl⟩:=yD.1 N;exact f j p p
   exact au
def RB(a:e.Ok)(c:e.size<=1048576)(g:Heap):zE prog 277 [.agg e.cells] g λr h'=>h'=g/\∃n,r=.int .i64 n/\(n=0->e.Kd):=by
 refine xP λQ f=> ?_;have h1:=By _ (zD _) a c;have i:=GM _ (zD _) a c;have h3:=Bv _ (zD _) a c;have l:Q (.int .i64 10) g:=f _ _ ⟨rfl,10,rfl,λq=>by cases q⟩;have m:Q (.int .i64 11) g:=f _ _ ⟨rfl,11,rfl,λq=>by cases q⟩;simp only[Ex.cells]at h1 i h3⊢;have d:∀n,(n=0->e.Kd)->Q (.int .i64 n) g:=λn j=>f _ _ ⟨rfl,n,rfl,j⟩;refine zu zKz ?_;simp only[f277,zA]
 repeat' first|simp only[go_sem, *]|apply bc<;>intro o|(refine zE.mono (h1 _) ?_;rintro r h ⟨b,w,rfl⟩)|(refine zE.mono (i _) ?_;rintro r h ⟨b,w,rfl⟩)
 refine(h3 _).mono ?_;rintro r h ⟨b,w,rfl,k⟩;subst b;have hf:=d w k;exact au
def GP(f:uc c d)(z:c.Sm)(t:Trm)(g:Heap):zE prog 316 [d,.agg t.cells] g λr h'=>h'=g/\∃q b,r=.tuple [q,.bool b]:=by
 refine xP λQ y=> ?_;have m:∀q b,Q (.tuple [q,.bool b]) g:=λq b=>y _ _ ⟨rfl,q,b,rfl⟩;obtain⟨a,b,e,p,rfl,C,l,D,E⟩:=f;have n:=fw l;have A:=z.es.1;simp only[Trm.cells];refine zu zLF ?_;simp only[f316,zA];cases h0:(t.b== [])with
 |true=>
  repeat' first|simp only[go_sem, *]|apply bc<;>intro f
 |false=>
 repeat' first|simp only[go_sem, *]|apply bc<;>intro f
 refine zd (λi fr h=>fr 2=.iptr [a,b,e,p] 0/\fr 3=.iptr [.str t.a,.str t.b] 0/\fr 6=.int .i64 (i:Int)/\h=g) c.es.length ow ?_ ?_ ?_
 ·simp only[go_sem,zT,zV,zI]
 ·rintro i fr h j s B ⟨u,v,w,k⟩;subst k;have o:=cC l j;generalize c.es[i]=x at *
  simp only[Exc.cells]at o
  repeat' first|simp only[go_sem, *]|apply bc<;>intro f
  refine yI kr ?_;exact au
 ·rintro fr h s ⟨u,v,w,k⟩;subst k;exact au
def GO(f:uc c d)(j:c.Sm)(t:Trm)(g:Heap):zE prog 357 [d,.agg t.cells] g λr h'=>h'=g/\KU r:=by
 refine xP λQ m=> ?_;have l:∀b,Q (.bool b) g:=λb=>m _ _ ⟨rfl,b,rfl⟩;have h1:=mJ f j;have k:=gX f j t.a;have h3:=GP f j t;obtain⟨a,b,e,p,rfl,s,u,v,x⟩:=f;simp only[Trm.cells]at h3⊢;generalize UO _ _=z at k;refine zu zLV ?_;simp only[f357,zA]
 repeat' first|simp only[go_sem, *]|apply bc<;>intro f
 refine(h1 _).mono ?_;rintro r h ⟨o,n,rfl,_⟩;subst o
 repeat' first|simp only[go_sem, *]|apply bc<;>intro f|(refine zE.mono (k _) ?_;rintro r h ⟨i,rfl⟩)|(refine zE.mono (h3 _) ?_;rintro r h ⟨i,q,w,rfl⟩)
def K2{v:D}(f:uc c v)(L:c.Sm):∀(n:Nat){e:Ex},e.size<=n->e.Ok->e.size<=1048576->∀g:Heap,zE prog 278 [v,.agg e.cells] g λr h'=>h'=g/\KU r:=by
 intro n
 induction n with
 |zero=>intro e h;cases e;simp only[Ex.size]at h;omega
 |succ n N=>
 intro e K p u g;refine xP λQ H=> ?_;have z:∀n,Q (.bool n) g:=λn=>H _ _ ⟨rfl,n,rfl⟩;have m:=λa b=>GO f L ⟨a,b⟩;obtain⟨ca,cb,ce,cp,rfl,_,_,_,_⟩:=f;obtain⟨k,O,x,l,d⟩:=e;simp only[Ex.size,Ex.Ok]at K p u;obtain⟨y,R,I,J,q⟩:=p;have A:=pw y;have M:∀a b:List UInt8,qd prog 197 [(0,.str a),(1,.str b)]=some (.agg [.str a,.str b]):=λa b=>by simp[qd,nD,sW,ur,wo,D.notTuple,D.cells]
 simp only[Trm.cells]at m;refine zu zK0 ?_;simp only[f278,zA];simp only[Ex.cells,Ex.kind,Ex.name,Ex.exc,Ex.d];cases h0:decide (k<2)with
 |true=>
  repeat' first|simp only[go_sem, *]|apply bc<;>intro f|(refine zE.mono (m _ _ _) ?_;rintro r h ⟨t,w,rfl⟩)
 |false=>
 repeat' first|simp only[go_sem, *]|apply bc<;>intro f
 refine zd (λi fr h=>fr 2=.iptr [ca,cb,ce,cp] 0/\fr 3=.iptr [.int .i64 k,.str O,.str x,d] 0/\fr 5=.int .i64 (i:Int)/\h=g) l.length ow ?_ ?_ ?_
 ·simp only[go_sem,zT,zV,zI]
 ·rintro i fr h o C P ⟨E,F,G,j⟩;subst j;have B:=kX y o;have s:l[i]∈l:=zH o;have j:=N (e:=l[i]) (by have:=uI s;omega) (px q _ s) (by have:=uI s;omega);simp only[Ex.cells]at B j
  repeat' first|simp only[go_sem, *]|apply bc<;>intro f
  refine yI kr ?_
  repeat' first|simp only[go_sem, *]|apply bc<;>intro f|(refine zE.mono (j _) ?_;rintro r h ⟨t,w,rfl⟩)
 ·rintro fr h C ⟨E,F,G,j⟩;subst j;exact au
def RA{k:D}(a:uc c k)(p:c.Sm)(d:e.Ok)(f:e.size<=1048576)(g:Heap):zE prog 224 [k,.agg e.cells] g λr h'=>h'=g/\∃n,r=.int .i64 n/\(n=0->e.Kd):=by
 refine xP λQ i=> ?_;have v:Q (.int .i64 1) g:=i _ _ ⟨rfl,1,rfl,λq=>by cases q⟩;have x:Q (.int .i64 7) g:=i _ _ ⟨rfl,7,rfl,λq=>by cases q⟩;have h1:=mJ a p;have l:=RB d f;have h3:=K2 a p _ (zD _) d f;obtain⟨ca,cb,ce,cp,rfl,_,_,_,_⟩:=a;simp only[Ex.cells]at l h3⊢;have b:∀n,(n=0->e.Kd)->Q (.int .i64 n) g:=λn t=>i _ _ ⟨rfl,n,rfl,t⟩;refine zu zKj ?_;simp only[f224,zA]
 repeat' first|simp only[go_sem, *]|apply bc<;>intro a
 refine(h1 _).mono ?_;rintro r h ⟨j,n,rfl,_⟩;subst j;cases y:(n==0)with
 |false=>
  repeat' first|simp only[go_sem, *]|apply bc<;>intro a
 |true=>
 repeat' first|simp only[go_sem, *]|apply bc<;>intro a
 refine(l _).mono ?_;rintro r h ⟨j,m,rfl,o⟩;subst j;have hf:=b m o;cases m0:(m==0)with
 |false=>
  repeat' first|simp only[go_sem, *]|apply bc<;>intro a
 |true=>
 have s:=b 0 λ_=>o (by simpa using m0)
 repeat' first|simp only[go_sem, *]|apply bc<;>intro a|(refine zE.mono (h3 _) ?_;rintro r h ⟨u,w,rfl⟩)
def zHM(k:Int)(i n:Nat):Prop:=n<=64*i/\(k=2->n<=64)
def Tg(m:Nat)(r:D):Prop:=∃q b,r=.tuple [q,.bool b]/\∃l,Fin 1 (qe l) q/\(b=true->l.length<=64)/\∀a∈l,AltB m a
def Yk{m:Nat}{l:List Alt}(h:∀a∈l,AltB m a):∀x∈qe l,wr x:=λx c=>by
 obtain⟨a,b,rfl⟩:=zM.1 c;exact(h a b).pl
def Tg.pl{m:Nat}{r:D}(h:Tg m r)(n:Nat):qD r=r/\below n r:=by
 obtain⟨q,b,rfl,l,hf,_,c⟩:=h;obtain⟨h1,a,h3⟩:=kn hf (Yk c);simp only[qO,zV]at a;simp only[qY,rW,zV]at h3;exact⟨by simp[qD,qY,h3],by simp only[below,qO,zV];exact qF (yC _) _ a⟩
def Tg.none(m:Nat):Tg m (.tuple [.nilsl,.bool false]):=⟨.nilsl,false,rfl,[],.inl ⟨rfl,rfl⟩,(λq=>by cases q),(λa h=>by cases h)⟩
def G8(s x:List UInt8)(nid:Nat)(h:Heap):yB prog false nid 195 1 [(0,.agg [.str s,.str x])] h=some (.sl 2 [[.str s,.str x]] .full,h):=qW uF sW uq rfl rfl ow ow rfl rfl
def FO{l:List Ex}(a:i<l.length):qZ (l.take (i+1))=qZ (l.take i)+l[i].size:=by rw[zQ a,dC]
def U6(l:List Ex)(i:Nat):qZ (l.take i)<=qZ l:=by
 have a:=br (l.take i) (l.drop i);rw[qP]at a;omega
theorem Bw{D0:D}(hc:uc c D0)(hs:c.Sm)(ai:c.ls.length<=40):∀(n:Nat){e:Ex},e.size<=n->e.Ok->e.Kd->e.size<=120->∀g:Heap,zE prog 225 [D0,.agg e.cells] g λr h'=>h'=g/\Tg e.size r:=by
 intro n
 induction n with
 |zero=>intro e h;cases e;simp only[Ex.size]at h;omega
 |succ n ih=>
 intro e hn Y T a9 g;refine xU kr λbs=>xS ?_;refine xP λQ hQ=> ?_;have a4:=Wx hc hs ai;obtain⟨ca,cb,ce,cp,rfl,_,_,_,_⟩:=hc;obtain⟨k,nm,x,l,d⟩:=e;have hR:(Ex.mk k nm x l d).size=qZ l+1:=by simp only[Ex.size]
 rw[hR]at hQ hn a9;simp only[Ex.Ok,Ex.Kd]at Y T;obtain⟨hd,hl,_,_,a3⟩:=Y;obtain⟨⟨b1,b2⟩,a2⟩:=T;have I:∀r h,Ext g h->Tg (qZ l+1) r->Q r h:=λr h N hr=>hQ _ _ ⟨N,by rw[(hr.pl 0).1];exact(hr.pl _).2,by rw[(hr.pl 0).1];exact hr⟩;have C:=λh N=>I _ h N (Tg.none _);have bo:=pw hd;have b9:∀a b:List UInt8,qd prog 197 [(0,.str a),(1,.str b)]=some (.agg [.str a,.str b]):=λa b=>by simp[qd,nD,sW,ur,wo,D.notTuple,D.cells]
 have bx:∀a:List UInt8,qd prog 197 [(0,.str a)]=some (.agg [.str a,.str []]):=λa=>by simp[qd,nD,sW,ur,wo,D.notTuple,D.cells]
 have b6:=G8;have b7:=λs x nid h=>cQ (.sl 2 [[.str s,.str x]] .full) nid h rfl rfl rfl;cases k0:(k==0)with
 |true=>
  have f:Q (.tuple [.sl 1 [[.sl 2 [[.str nm,.str x]] .full]] .full,.bool true]) g:=hQ _ _ ⟨Ext.refl g,by simp[qD,qY,p5,below,qO,oc],by
   refine⟨.sl 1 (qe [mkA [⟨nm,x⟩]]) .no,true,by simp[qD,qY,p5,qe,mkA,wt,Trm.cells],_,.inr rfl,λ_=>by simp,λa ha=> ?_⟩;cases ze.1 ha;exact⟨.inr ⟨_,rfl⟩,by simp[mkA],bd _⟩⟩
  refine zu zAJ ?_;simp only[f225,zA];simp only[Ex.cells,Ex.kind,Ex.name,Ex.exc,Ex.d];simp only[go_sem, *]
 |false=>
 cases k1:(k==1)with
 |true=>
  refine zu zAJ ?_;simp only[f225,zA];simp only[Ex.cells,Ex.kind,Ex.name,Ex.exc,Ex.d];simp only[go_sem, *];refine(a4 _ _).mono ?_;rintro r h ⟨f,ps,q,m,rfl,ad,b8⟩;subst f;have b5:=wh ad;simp only[go_sem, *];refine zd (λi fr h'=>fr 7=q/\fr 9=.int .i64 (i:Int)/\∃all,Own h h' 1 (qe all) (fr 6)/\all.length=i/\∀a∈all,yi 2 (wt a.ts) a.d/\a.ts.length<=qZ l+1) ps.length ow ?_ ?_ ?_
  ·have u:∃all,Own h h 1 (qe all) .nilsl/\all.length=0/\∀a∈all,yi 2 (wt a.ts) a.d/\a.ts.length<=qZ l+1:=⟨[],Own.start (Ext.refl h) 1,rfl,λa h=>by cases h⟩;simp only[go_sem,zT,zV,zI];exact u
  ·rintro i fr h2 B ec ew ⟨f7,f9,all,p,J,A⟩;obtain⟨o,H⟩:∃o,fr 6=o:=⟨_,rfl⟩;rw[H]at p;have a1:=rP ad B;generalize ps[i]=s at *
   simp only[go_sem, *];refine p.appH (ys:=qe [⟨[⟨s,[]⟩],.sl 2 [[.str s,.str []]] .full⟩]) uV po ue ow (si _) (by simp[qe]) (by rw[qC,tU];unfold lim;simp[qe];omega) (by rw[qC];unfold lim;simp[qe];omega) λd' h' a8=> ?_;have bk:∃al,Own h h' 1 (qe al) d'/\al.length=i+1/\∀a∈al,yi 2 (wt a.ts) a.d/\a.ts.length<=qZ l+1:=⟨all++ [⟨[⟨s,[]⟩],.sl 2 [[.str s,.str []]] .full⟩],by
    have:∀z:Alt,qe (all++ [z])=qe all++qe [z]:=λz=>by simp[qe]
    rw[this];exact a8,by simp[J],λx hx=>by
    rcases yp.1 hx with h1|h1
    ·exact A x h1
    ·cases ze.1 h1;exact⟨.inr ⟨_,rfl⟩,by simp⟩⟩
   exact au
  ·rintro fr h2 ec ⟨f7,f9,all,p,J,A⟩;obtain⟨o,H⟩:∃o,fr 6=o:=⟨_,rfl⟩;rw[H]at p;have a7:=aa (m:=qZ l+1) p.isSl ow ow A;have W:=tn p.isSl;rw[J]at W;have N:=p.1;have bb:all.length<=ps.length:=ow;simp only[go_sem, *];refine(a7 _).mono ?_;rintro r h3 ⟨f,l',hf,b3,ak⟩;subst f;have f:=I (.tuple [r,.bool (decide ((ps.length:Int)<=64))]) h3 N ⟨r,_,rfl,l',hf,λq=>by have:=yK q;omega,ak⟩;simp only[go_sem, *]
 |false=>
 have hk:k=2\/k=3:=by
  have h0:k≠0:=by simpa using k0
  have h1:k≠1:=by simpa using k1
  omega
 have b4:l.length<=120:=by
  have:∀l:List Ex,l.length<=qZ l:=λl=>by
   induction l with
   |nil=>simp
   |cons e l ih=>simp only[qZ,zm];cases e;simp only[Ex.size];omega
  have:=this l;omega
 have U:∀i (hi:i<l.length) g,zE prog 225 [.agg [ca,cb,ce,cp],.agg l[i].cells] g λr h'=>h'=g/\Tg l[i].size r:=λi hi=>by
  have hm:=zH hi;have:=uI hm;exact ih ow (px a3 _ hm) (PR.1 a2 _ hm) ow
 refine zu zAJ ?_;simp only[f225,zA];simp only[Ex.cells,Ex.kind,Ex.name,Ex.exc,Ex.d];simp only[go_sem, *];refine zd (λi fr h=>fr 2=.iptr [ca,cb,ce,cp] 0/\fr 3=.iptr [.int .i64 k,.str nm,.str x,d] 0/\fr 10=.int .i64 (i:Int)/\h=g/\∃out,Fin 1 (qe out) (fr 6)/\zHM k i out.length/\∀a∈out,AltB (qZ (l.take i)) a) l.length ow ?_ ?_ ?_
 ·have u:∃out,Fin 1 (qe out) .nilsl/\zHM k 0 out.length/\∀a∈out,AltB (qZ (l.take 0)) a:=⟨[],.inl ⟨rfl,rfl⟩,⟨by simp,λ_=>by simp⟩,λa h=>by cases h⟩;simp only[go_sem,zT,zV,zI];exact u
 ·rintro i fr h B ec ew ⟨f2,f3,ag,f,out,p,F,j⟩;subst f;obtain⟨o,H⟩:∃o,fr 6=o:=⟨_,rfl⟩;rw[H]at p;have a1:=kX hd B;have S:=U i B;have ba:=FO B;have a5:=U6 l (i+1);have C:=C h (Ext.refl h);generalize l[i]=y at *
  simp only[Ex.cells]at a1 S;rw[ba]at a5⊢;simp only[go_sem, *];refine yI kr ?_;simp only[go_sem, *];refine(S _).mono ?_;rintro r h2 ⟨f,q,b,rfl,l2,L,M,O⟩;subst f;cases b with
  |false=>
   simp only[go_sem, *]
  |true=>
  have M:=M rfl;have E:∀a∈out,AltB (qZ (l.take i)+y.size) a:=λa h=>(j a h).mono ow;have G:∀a∈l2,AltB (qZ (l.take i)+y.size) a:=λa h=>(O a h).mono ow;rcases hk with rfl|rfl
  ·have X:out.length<=64:=F.2 rfl;have P:∀r v,Fin 1 (qe v) r->(∀a∈v,AltB (qZ (l.take i)+y.size) a)->v.length<=64->∃out,Fin 1 (qe out) r/\zHM 2 (i+1) out.length/\∀a∈out,AltB (qZ (l.take i)+y.size) a:=λr v q1 q2 q3=>⟨v,q1,⟨by omega,λ_=>q3⟩,q2⟩;cases i0:((i:Int)==0)with
   |true=>
    have b0:i<=0:=by have:=qN.1 i0;omega
    have Z:=F.1;have K:=RC (m:=qZ (l.take i)+y.size) p.isSl L.isSl ow ow (λa h=>(E a h).io) (λa h=>(G a h).io);simp only[go_sem, *];refine(K _).mono ?_;rintro r h3 ⟨f,v,t,V,w⟩;subst f;have u:=P r v t w ow;have a6:=tn t.isSl;have R:decide ((v.length:Int)>64)=false:=zP ow;simp only[go_sem, *]
   |false=>
    have a0:=Bt (m:=qZ (l.take i)) (n:=y.size) p.isSl L.isSl X M ow j O;simp only[go_sem, *];refine(a0 _).mono ?_;rintro r h3 ⟨f,v,t,V,w⟩;subst f;have a6:=tn t.isSl;cases R:decide ((v.length:Int)>64)with
    |true=>
     simp only[go_sem, *]
    |false=>
     have u:=P r v t w (by have:=yO R;omega);exact au
  ·have Z:=F.1;have K:=RC (m:=qZ (l.take i)+y.size) p.isSl L.isSl ow ow (λa h=>(E a h).io) (λa h=>(G a h).io);simp only[go_sem, *];refine(K _).mono ?_;rintro r h3 ⟨f,v,t,V,w⟩;subst f;have u:∃out,Fin 1 (qe out) r/\zHM 3 (i+1) out.length/\∀a∈out,AltB (qZ (l.take i)+y.size) a:=⟨v,t,⟨by omega,λq=>by cases q⟩,w⟩;exact au
 ·rintro fr h ec ⟨f2,f3,ag,f,out,p,F,j⟩;subst f;obtain⟨o,H⟩:∃o,fr 6=o:=⟨_,rfl⟩;rw[H]at p;have W:=tn p.isSl;rw[z6]at j;have f:=I (.tuple [o,.bool (decide ((out.length:Int)<=64))]) h (Ext.refl h) ⟨o,_,rfl,out,p,λq=>by have:=yK q;omega,λa h=>(j a h).mono ow⟩;exact au
def OfR(r:D):Prop:=∃q n,r=.tuple [q,.int .i64 n]/\∃l m,Fin 1 (qe l) q/\l.length<=64/\∀a∈l,AltB m a
def zIo{s:D}(m:uc c s)(u:c.Sm)(k:c.ls.length<=40)(j:e.Ok)(p:e.size<=120)(g:Heap):zE prog 183 [s,.agg e.cells] g λr h'=>h'=g/\OfR r:=by
 refine xP λQ t=> ?_;have h1:=RA m u j ow;have d:=λw=>Bw m u k _ (zD _) j w p;obtain⟨ca,cb,ce,cp,rfl,_,_,_,_⟩:=m;have i:∀n,Q (.tuple [.nilsl,.int .i64 n]) g:=λn=>t _ _ ⟨rfl,.nilsl,n,rfl,[],0,.inl ⟨rfl,rfl⟩,by simp,λa h=>by cases h⟩;have f:∀q l,Fin 1 (qe l) q->l.length<=64->(∀a∈l,AltB e.size a)->Q (.tuple [q,.int .i64 0]) g:=λq l h1 d h3=>t _ _ ⟨rfl,q,0,rfl,l,_,h1,d,h3⟩;simp only[Ex.cells]at h1 d⊢;refine zu zKZ ?_;simp only[f183,zA];simp only[go_sem, *];refine(h1 _).mono ?_;rintro r h ⟨o,n,rfl,y⟩;subst o;cases A:(n==0)with
 |false=>
  have z:=i n;simp only[go_sem, *]
 |true=>
 have d:=d (y (by simpa using A));simp only[go_sem, *];refine(d _).mono ?_;rintro r h ⟨o,q,b,rfl,l,hf,x,v⟩;subst o;cases b with
 |false=>
  simp only[go_sem, *]
 |true=>
  have hf:=f q l hf (x rfl) v;exact au
def OwS(s:List UInt8)(G h:Heap)(d:D)(m:Nat):Prop:=∃ps,Own G h 1 (wn ps) d/\ps.length<=m/\∀p∈ps,p.length<=s.length
def OwS.app{s x:List UInt8}{G h:Heap}{m:Nat}{w:HidR K}(f:OwS s G h d m)(k:m<=2097152)(i:x.length<=s.length)(e:∀a h',OwS s G h' a (m+1)->K a h'):IE (qg prog false h.next 45 d (.sl 1 [[.str x]] tk) h) K w:=by
 obtain⟨c,h1,j,h3⟩:=f;refine h1.appH (ys:=wn [x]) uK aU pz ow (by simp[wn]) (by simp[wn]) (by rw[qw,oP];unfold lim;simp[wn];omega) (by rw[qw];unfold lim;simp[wn];omega) λa h' b=> ?_;refine e a h' ⟨c++ [x],?_,by simp;omega,λp g=> ?_⟩
 ·have:wn (c++ [x])=wn c++wn [x]:=by simp[wn]
  rw[this];exact b
 ·rcases yp.1 g with q|q
  ·exact h3 p q
  ·cases ze.1 q;exact i
def GS(s:List UInt8)(V:s.length<=1048576)(b:Int)(g:Heap):zE prog 352 [.str s,.int .u8 b] g λr h'=>h'=g/\∃v,Fin 1 (wn v) r/\v.length<=s.length+1/\∀p∈v,p.length<=s.length:=by
 refine xU kr λC=>xS ?_;refine xP λQ E=> ?_;have F:∀h,mC prog 9 (.str s) h=some (.int .i64 s.length):=λh=>sJ underlying9;have a:∀d h,OwS s g h d (s.length+1)->Q d h:=λd h ⟨v,h1,A,h3⟩=>by
  obtain⟨y,K,L⟩:=h1.fin uo;exact E _ _ ⟨y,K,v,L,A,h3⟩
 have G:=gu;have l:∀(u w:Nat),u<=w->w<=s.length->∀h,∃x,uZ prog 9 (.str s) (some (.int .i64 (u:Int))) (some (.int .i64 (w:Int))) none h=some (.str x)/\x.length<=s.length:=λu w h1 A h=>⟨_,JW h1 A h,by simp;omega⟩;have c:∀(u:Nat),u<=s.length->∀h,∃x,uZ prog 9 (.str s) (some (.int .i64 (u:Int))) none none h=some (.str x)/\x.length<=s.length:=λu h1 h=>⟨_,Cx h1 h,by simp⟩;clear E C;refine zu zLR ?_;simp only[f352,zA];simp only[go_sem, *];refine zd (λi fr h=>fr 0=.str s/\fr 1=.int .u8 b/\fr 7=.int .i64 (i:Int)/\∃st:Nat,fr 6=.int .i64 (st:Int)/\st<=i/\OwS s g h (fr 5) i) s.length ow ?_ ?_ ?_
 ·have f:OwS s g g .nilsl 0:=⟨[],Own.start (Ext.refl g) 1,by simp,λp h=>by cases h⟩;clear a l c;simp only[go_sem,zT,zV,zI];exact⟨0,rfl,by omega,f⟩
 ·rintro i fr h B I T ⟨J,y,N,st,M,f,k⟩;obtain⟨o,z⟩:∃o,fr 5=o:=⟨_,rfl⟩;rw[z]at k;have S:nn prog 9 (.str s) (.int .i64 (i:Int))=some (.int .u8 s[i].toNat):=rK underlying9 (zB B);obtain⟨x,O,t⟩:=l st i f ow h;have m:∀{o:D}{h:Heap},OwS s g h o i->∃j:Nat,D.int .i64 (st:Int)=.int .i64 (j:Int)/\j<=i+1/\OwS s g h o (i+1):=λ⟨v,P,W,R⟩=>⟨st,rfl,by omega,v,P,by omega,R⟩;have n:∀{o:D}{h:Heap},OwS s g h o (i+1)->∃j:Nat,D.int .i64 ((i+1:Nat):Int)=.int .i64 (j:Int)/\j<=i+1/\OwS s g h o (i+1):=λq=>⟨i+1,rfl,by omega,q⟩;clear a l c;cases U:((s[i].toNat:Int)==b)with
  |true=>
   clear m;simp only[go_sem, *];refine k.app ow t λH h' e=> ?_;have n:=n e;clear k e;simp only[go_sem, *]
  |false=>
   have m:=m k;clear n k;exact au
 ·rintro fr h I ⟨J,y,N,st,M,f,k⟩;obtain⟨o,z⟩:∃o,fr 5=o:=⟨_,rfl⟩;rw[z]at k;obtain⟨x,O,t⟩:=c st f h;clear l c;simp only[go_sem, *];refine k.app ow t λH h' e=> ?_;have a:=a _ _ e;clear k e;exact au
def Bx(s:List UInt8)(t:s.length<=1048576)(g:Heap):zE prog 353 [.str s] g λr h'=>h'=g/\KU r:=by
 refine xP λQ k=> ?_;have c:∀b,Q (.bool b) g:=λb=>k _ _ ⟨rfl,b,rfl⟩;have d:∀h,mC prog 9 (.str s) h=some (.int .i64 s.length):=λh=>sJ underlying9;refine zu zLS ?_;simp only[f353,zA];cases h0:decide ((s.length:Int)<1)with
 |true=>
  repeat' first|simp only[go_sem, *]|apply bc<;>intro l
 |false=>
  have j:=yO h0;have m:0<s.length:=ow;have o:nn prog 9 (.str s) (.int .i64 0)=some (.int .u8 s[0].toNat):=rK (n:=0) underlying9 (zB m);generalize s[0]=z at *
  repeat' first|simp only[go_sem, *]|apply bc<;>intro l
  refine zd (λi fr h=>fr 0=.str s/\fr 3=.int .i64 (i:Int)/\h=g) s.length ow ?_ ?_ ?_
  ·simp only[go_sem,zT,zV,zI]
  ·rintro i fr h a e1 q ⟨e,f,rfl⟩;have p:nn prog 9 (.str s) (.int .i64 (i:Int))=some (.int .u8 s[i].toNat):=rK underlying9 (zB a);generalize s[i]=y at *
   exact au
  ·rintro fr h e1 ⟨e,f,rfl⟩;exact au
def K4(s:List UInt8)(u:s.length<=1048576)(g:Heap):zE prog 276 [.str s] g λr h'=>h'=g/\IsI r:=by
 refine xP λQ t=> ?_;have p:∀b,Q (.int .i64 b) g:=λb=>t _ _ ⟨rfl,b,rfl⟩;have q:∀h,mC prog 9 (.str s) h=some (.int .i64 s.length):=λh=>sJ underlying9;have n:=GS s u 47;refine zu zKy ?_;simp only[f276,zA]
 repeat' first|simp only[go_sem, *]|apply bc<;>intro o
 refine(n _).mono ?_;rintro r h ⟨d,e,hf,x,l⟩;subst d;have c:=hf.isSl;have v:=wh c
 repeat' first|simp only[go_sem, *]|apply bc<;>intro o
 refine zd (λi fr h'=>fr 14=r/\fr 15=.int .i64 (e.length:Int)/\fr 16=.int .i64 (i:Int)/\h'=h) e.length ow ?_ ?_ ?_
 ·simp only[go_sem,zT,zV,zI]
 ·rintro i fr h a e1 B ⟨f,j,k,d⟩;subst d;have A:=rP c a;have m:=Bx e[i] (by have:=l _ (zH a);omega);generalize e[i]=y at *
  repeat' first|simp only[go_sem, *]|apply bc<;>intro o|(refine zE.mono (m _) ?_;rintro r h ⟨z,w,rfl⟩)
 ·rintro fr h e1 ⟨f,j,k,d⟩;subst d;exact au
def zEp(k:Int):k=0\/k=1\/k=2\/k=3\/k=4\/((k==0)=false/\(k==1)=false/\(k==2)=false/\(k==3)=false/\(k==4)=false):=by
 by_cases h0:k=0
 ·exact .inl h0
 by_cases h1:k=1
 ·exact .inr (.inl h1)
 by_cases a:k=2
 ·exact .inr (.inr (.inl a))
 by_cases h3:k=3
 ·exact .inr (.inr (.inr (.inl h3)))
 by_cases b:k=4
 ·exact .inr (.inr (.inr (.inr (.inl b))))
 exact .inr (.inr (.inr (.inr (.inr ⟨by simpa using h0,by simpa using h1,by simpa using a,by simpa using h3,by simpa using b⟩))))
def zGz:qd prog 55 []=some (.agg zEx):=by simp[qd,Lo,Mv,ur,D.notTuple,D.cells]
def GQ{f:Fac}(a:f.Ok)(g:Heap):zE prog 275 [.agg f.cells] g λr h'=>h'=g/\KU r:=by
 refine xP λQ l=> ?_;have i:∀b,Q (.bool b) g:=λb=>l _ _ ⟨rfl,b,rfl⟩;have heq:=GN _ (zD _) a.e a.es (e2:=.mk 0 [] [] [] .nilsl) (by simp[Ex.Ok,okL,exs,yi.nil]);have o:=zGz;have c:=wh a.list;have j:=jy;obtain⟨k,q,z,A,B,s,p,e,y,d⟩:=f;simp only[Fac.cells,Ex.cells,Ex.kind,Ex.name,Ex.exc,Ex.d]at heq c⊢;generalize e.kind=u at *
 generalize e.name=v at *
 generalize e.exc=x at *
 generalize e.d=t at *
 rcases zEp k with rfl|rfl|rfl|rfl|rfl| ⟨k0,k1,k2,k3,k4⟩
 all_goals
  refine zu zKx ?_;simp only[f275,zA]
  repeat' first|simp only[go_sem, *]|apply bc<;>intro m
  refine yI kr ?_
  repeat' first|simp only[go_sem, *]|apply bc<;>intro m|(refine zE.mono (heq _) ?_;rintro r h ⟨n,w,rfl⟩)
theorem Bu{Y:D}(o:uc c Y)(hs:c.Sm){f:Fac}(j:f.Ok)(g:Heap):zE prog 223 [Y,.agg f.cells] g λr h'=>h'=g/\IsI r:=by
 refine xU kr λad=> ?_;refine xP λQ Z=> ?_;have a:∀b h,Ext g h->Q (.int .i64 b) h:=λb h z=>Z _ _ ⟨z,by simp[below],b,rfl⟩;have B:∀b,Q (.int .i64 b) g:=λb=>a b g (Ext.refl g);have v:=GQ j;have t:=K4 f.comp j.comp;have u:=K4 f.out j.out;have p:=RA o hs j.e j.es;have l:=Ww o hs;have bo:=wh j.list;have m:=λi (hi:i<f.list.length)=>rP j.list hi;have bk:=j.ll;have ba:=jy;have ak:=jx;obtain⟨ca,cb,ce,cp,rfl,_,_,_,_⟩:=o;clear Z;obtain⟨k,cm,ot,rl,wy,du,cg,e,I,d⟩:=f;simp only[Fac.cells,Ex.cells,Ex.kind,Ex.name,Ex.exc,Ex.d]at *
 clear j;generalize e.kind=ek at *
 generalize e.name=en at *
 generalize e.exc=ex at *
 generalize e.d=ed at *
 cases k1:decide (k<0)with
 |true=>
  clear v t u p l a;refine zu zAI ?_;simp only[f223,zA]
  repeat' first|simp only[go_sem, *]|apply bc<;>intro o
 |false=>
 cases k2:decide (k>4)with
 |true=>
  clear v t u p l a;refine zu zAI ?_;simp only[f223,zA]
  repeat' first|simp only[go_sem, *]|apply bc<;>intro o
 |false=>
 have hk:k=0\/k=1\/k=2\/k=3\/k=4:=by
  have:=yO k1;have:=yO k2;omega
 clear k1 k2;have A:=λ(x:Lic) (h:Heap)=>hA x h h.next;rcases hk with rfl|rfl|rfl|rfl|rfl
 all_goals
  refine zu zAI ?_;simp only[f223,zA]
  repeat' first|simp only[go_sem, *]|apply bc<;>intro o|(refine zE.mono (v _) ?_;rintro r h ⟨G,w,rfl⟩)|(refine zE.mono (t _) ?_;rintro r h ⟨G,w,rfl⟩)|(refine zE.mono (u _) ?_;rintro r h ⟨G,w,rfl⟩)
 all_goals try
  refine(p _).mono ?_;rintro r h ⟨F,n,rfl,_⟩;subst F;clear v t u p l a;exact au
 all_goals
  clear v t u p B;refine zd (λi fr h=>fr 2=.iptr [ca,cb,ce,cp] 0/\(∃J K L M N O P R S T y,fr 3=.iptr [J,K,L,M,N,O,P,R,S,T,y,d] 0)/\fr 5=.int .i64 (i:Int)/\Ext g h) I.length ow ?_ ?_ ?_
  ·have z:=Ext.refl g;clear a m;simp only[go_sem,zT,zV,zI];exact⟨⟨_,_,_,_,_,_,_,_,_,_,_,rfl⟩,z⟩
  ·rintro i fr h C ec ew ⟨V,⟨J,K,L,M,N,O,P,R,S,T,y,E⟩,W,z⟩;have b1:=m i C;generalize I[i]=s at *
   have bb:∀h,HLe Heap.emp h:=λh i ob e=>by cases e
   clear m
   repeat' first|simp only[go_sem, *]|apply bc<;>intro o
   refine qH Heap.emp [(0,.st,true),(1,.no,true),(2,.st,true),(3,.no,true),(4,.no,true),(5,.st,true),(6,.sq,true),(7,.no,true),(8,.no,true),(9,.no,true),(10,.no,true),(11,.no,true),(12,.no,true)] kr kr (λi ob e=>by cases e) ?_
   repeat' first|simp only[go_sem, *]|apply bc<;>intro o
   refine zAM _ (λH=>l s H) ⟨_,⟨[],[],0,[]⟩,false,rfl,λq=>by cases q⟩ ?_;rintro r ⟨x,b,rfl,_⟩;have ag:=A x h;have X:=z.new z.1 (.row [.str x.name,.str x.fam,.int .i64 x.ver,.str x.text]);cases b with
   |false=>
    have hf:=a 7 _ X;clear l a A
    repeat' first|simp only[go_sem, *]|apply bc<;>intro o
   |true=>
    clear l a A
    repeat' first|simp only[go_sem, *]|apply bc<;>intro o
    exact⟨_,_,_,_,_,_,_,_,_,_,_,rfl⟩
  clear l A;rintro fr h ec ⟨V,⟨J,K,L,M,N,O,P,R,S,T,y,E⟩,W,z⟩
  repeat' first|simp only[go_sem, *]|apply bc<;>intro o
  refine ZT (λi fr h'=>fr 3=.iptr [J,K,L,M,N,O,P,R,S,T,y,d] 0/\fr 8=.int .i64 (i:Int)/\h'=h) I.length ow ?_ ?_ ?_
  ·simp only[go_sem,zT,zV,zI,E];rfl
  ·clear V E W fr;rintro i fr h' C U ew ai ⟨E,f8,F⟩;subst F;have b1:=m i ow;have b2:=m (i+1) C;have a:=λb=>a b _ z;generalize I[i]=s at *
   generalize I[i+1]=s2 at *
   clear m
   repeat' first|simp only[go_sem, *]|apply bc<;>intro o
   refine yI kr ?_;exact au
  ·clear V E W fr;rintro i fr h' U ⟨E,f8,F⟩;subst F;have a:=λb=>a b _ z;clear m;exact au
def LI{m x:D}(a:uc c m)(q:c.Sm)(s:yi 12 (mV fs) x)(G:fs.length<=1048576)(l:∀f∈fs,f.Ok)(g:Heap):zE prog 182 [m,x] g λr h'=>h'=g/\∃i n,r=.tuple [.int .i64 i,.int .i64 n]:=by
 refine xP λQ B=> ?_;have o:∀i n,Q (.tuple [.int .i64 i,.int .i64 n]) g:=λi n=>B _ _ ⟨rfl,i,n,rfl⟩;have j:=mJ a q;have k:=λi (C:i<fs.length)=>Bu a q (l _ (zH C));have p:=pi s;have A:=jx;obtain⟨ca,cb,ce,cp,rfl,_,_,_,_⟩:=a;refine zu zKY ?_;simp only[f182,zA]
 repeat' first|simp only[go_sem, *]|apply bc<;>intro a
 refine(j _).mono ?_;rintro r h ⟨e,n,rfl,_⟩;subst e
 repeat' first|simp only[go_sem, *]|apply bc<;>intro a
 refine zd (λi fr h'=>fr 1=x/\fr 2=.iptr [ca,cb,ce,cp] 0/\fr 6=.int .i64 (i:Int)/\h'=h) fs.length ow ?_ ?_ ?_
 ·simp only[go_sem,zT,zV,zI]
 ·rintro i fr h' d u F ⟨v,y,z,e⟩;subst e;have t:=tP s d;have b:=k i d;generalize fs[i]=f at *
  simp only[Fac.cells]at t b
  repeat' first|simp only[go_sem, *]|apply bc<;>intro a
  refine yI kr ?_
  repeat' first|simp only[go_sem, *]|apply bc<;>intro a|(refine zE.mono (b _) ?_;rintro r h ⟨E,w,rfl⟩)
 ·rintro fr h' u ⟨v,y,z,e⟩;subst e;exact au
def NW{l:List (List UInt8)}(c:yi 1 (wn l) d)(v:l.length<=1048576)(s:List UInt8)(g:Heap):zE prog 143 [d,.str s] g λr h'=>h'=g/\IsI r:=by
 refine xP λQ p=> ?_;have e:∀n,Q (.int .i64 n) g:=λn=>p _ _ ⟨rfl,n,rfl⟩;have f:=wh c;refine zu zKJ ?_;simp only[f143,zA]
 repeat' first|simp only[go_sem, *]|apply bc<;>intro u
 refine zd (λi fr h=>fr 0=d/\fr 1=.str s/\fr 5=.int .i64 (i:Int)/\h=g) l.length ow ?_ ?_ ?_
 ·simp only[go_sem,zT,zV,zI]
 ·rintro i fr h a j t ⟨k,m,o,b⟩;subst b;have q:=rP c a;generalize l[i]=y at *
  exact au
 ·rintro fr h j ⟨k,m,o,b⟩;subst b;exact au
structure Als where
 l:List Alt
 d:D
structure Als.Ok(a:Als):Prop where
 sl:yi 1 (qe a.l) a.d
 len:a.l.length<=64
 pl:wr [a.d]
def Tm(l:List Als):List (List D):=l.map λa=>[a.d]
def d9(l:List Als):(Tm l).length=l.length:=zG ..
def Hs{l:List Als}(h:i<l.length):(Tm l)[i]? =some [l[i].d]:=by simp[Tm,h]
def Ht(l:List Als):∀x∈Tm l,x.length=1:=λx b=>by
 obtain⟨a,_,rfl⟩:=zM.1 b;rfl
def Gv{l:List Als}(a:yi 1 (Tm l) d)(h:Heap):mC prog 98 d h=some (.int .i64 l.length):=by rw[wa a underlying98,d9]
def BV{l:List Als}(a:yi 1 (Tm l) d)(b:i<l.length):yt prog 98 d (.int .i64 (i:Int))=some (.iptr [l[i].d] 0):=yn a fi aC (Hs b)
def G6(d:D)(nid:Nat)(h:Heap)(h1:d.cells= [d])(a:d.notTuple=true)(h3:d.flat=true):yB prog false nid 98 1 [(0,d)] h=some (.sl 1 [[d]] .full,h):=by
 have:=qW (P:=prog) (nid:=nid) (h:=h) (x:=d) fi Mt aC rfl rfl ow ow a (by rw[h1];rfl);rw[h1]at this;exact this
def NJ(m:Nat)(r:D):Prop:=∃ts os tq oq n,r=.tuple [tq,oq,.int .i64 n]/\Fin 1 (Tm ts) tq/\(∀a∈ts,a.Ok)/\ts.length<=m/\Fin 1 (wn os) oq/\os.length<=m
def NJ.nil(m:Nat)(n:Int):NJ m (.tuple [.nilsl,.nilsl,.int .i64 n]):=⟨[],[],.nilsl,.nilsl,n,rfl,.inl ⟨rfl,rfl⟩,(λa h=>by cases h),by simp,.inl ⟨rfl,rfl⟩,by simp⟩
def Yj(g:Heap)(m:Nat)(td od:D)(h:Heap):Prop:=∃ts os,Own2 g h 1 (Tm ts) td 1 (wn os) od/\(∀a∈ts,a.Ok)/\ts.length<=m/\os.length<=m
theorem K5{D0 x:D}(hc:uc c D0)(hs:c.Sm)(Y:c.ls.length<=40)(P:yi 12 (mV fs) x)(hl:fs.length<=260)(M:∀f∈fs,f.Ok)(H:∀f∈fs,f.e.size<=120)(g:Heap):zE prog 120 [D0,x] g λr h'=>h'=g/\NJ fs.length r:=by
 refine xU kr λa6=>xS ?_;refine xP λQ hQ=> ?_;have ag:=LI hc hs P ow M;have L:=λi (hi:i<fs.length)=>zIo hc hs Y (M _ (zH hi)).e (H _ (zH hi));have a5:=pi P;have a8:=jx;have a9:=jy;have d:∀n h,Ext g h->Q (.tuple [.nilsl,.nilsl,.int .i64 n]) h:=λn h Z=>hQ _ _ ⟨Z,by simp[qD,qY,below,qO],by simpa [qD,qY]using NJ.nil _ n⟩;have y:∀td od h,Yj g fs.length td od h->Q (.tuple [td,od,.int .i64 0]) h:=λtd od h ⟨j,k,u,h1,X,h3⟩=>by
  obtain⟨T,V,f3⟩:=u.a.fin λx P=>by
   obtain⟨a,ha,rfl⟩:=zM.1 P;exact(h1 a ha).pl
  obtain⟨g1,g2,g3⟩:=u.b.fin uo;exact hQ _ _ ⟨T,by simp[qD,qY,below,qO,V,g2],j,k,qD td,qD od,0,by simp[qD,qY],f3,h1,X,g3,h3⟩
 obtain⟨ca,cb,ce,cp,rfl,_,_,_,_⟩:=hc;have a7:=gu;refine zu zKC ?_;simp only[f120,zA];simp only[go_sem, *];refine(ag _).mono ?_;rintro r h0 ⟨N,n1,n2,rfl⟩;subst N;cases e0:(n2==0)with
 |false=>
  have hn:=d n2 h0 (Ext.refl h0);simp only[go_sem, *]
 |true=>
 have O:Yj h0 0 .nilsl .nilsl h0:=⟨[],[],Own2.start (Ext.refl h0) 1 1,(λa h=>by cases h),by simp,by simp⟩;simp only[go_sem, *];refine zd (λi fr h=>fr 1=x/\fr 2=.iptr [ca,cb,ce,cp] 0/\fr 11=.int .i64 (i:Int)/\Yj h0 i (fr 9) (fr 10) h) fs.length ow ?_ ?_ ?_
 ·clear d y L;simp only[go_sem,zT,zV,zI];exact O
 ·clear O;rintro i fr h J ec ew ⟨T,V,U,u⟩;obtain⟨td,W⟩:∃o,fr 9=o:=⟨_,rfl⟩;obtain⟨od,B⟩:∃o,fr 10=o:=⟨_,rfl⟩;rw[W,B]at u;have a1:=tP P J;have A:=L i J;have Z:Ext h0 h:=by obtain⟨_,_,q,_⟩:=u;exact q.a.1
  have d:=λn=>d n h Z;have ai:∀s,zE prog 143 [od,.str s] h λr h'=>h'=h/\IsI r:=λs=>by
   obtain⟨j,k,q,_,_,G⟩:=u;exact NW q.b.isSl ow s h
  generalize fs[i]=f at *
  simp only[Fac.cells,Ex.cells]at a1 A;have a0:Yj h0 (i+1) td od h:=by
   obtain⟨j,k,E,F,R,G⟩:=u;exact⟨j,k,E,F,by omega,by omega⟩
  have a4:∀t h',Yj h0 (i+1) t od h'->∀s,zE prog 143 [od,.str s] h' λr p=>p=h'/\IsI r:=λt h' ⟨j,k,q,_,_,G⟩ s=>NW q.b.isSl ow s h';have I:∀t h' (K:D->Heap->Prop)(w:HidR K) s,(∃j k,Own2 h0 h' 1 (Tm j) t 1 (wn k) od/\(∀a∈j,a.Ok)/\j.length<=i+1/\k.length<=i)->(∀C p,Yj h0 (i+1) t C p->K C p)->IE (qg prog false h'.next 45 od (.sl 1 [[.str s]] .full) h') K w:=λt h' K w s ⟨j,k,E,F,R,G⟩ hK=>by
   refine E.swap.appH (zs:=wn [s]) uK aU pz ow (by simp[wn]) (by simp[wn]) (by rw[qw,oP];unfold lim;simp[wn];omega) (by rw[qw];unfold lim;simp[wn];omega) λS p v=> ?_;refine hK S p ⟨j,k++ [s],?_,F,R,by simp;omega⟩
   have:wn (k++ [s])=wn k++wn [s]:=by simp[wn]
   rw[this];exact v.swap
  cases k1:(f.kind==1)with
  |true=>
   have k2:(f.kind==2)=false:=by
    have:=qN.1 k1;rw[this];rfl
   simp only[go_sem, *];refine yI kr ?_;simp only[go_sem, *];refine(A _).mono ?_;rintro r X ⟨N,q,n,rfl,l,m,hf,ak,ad⟩;subst N;cases n0:(n==0)with
   |false=>
    have hn:=d n;simp only[go_sem, *]
   |true=>
   obtain⟨z1,z2,z3⟩:=yP hf.isSl;have a2:=λnid h=>G6 q nid h z1 z2 z3;obtain⟨j,k,E,F,R,G⟩:=u;simp only[go_sem, *];refine E.appH (zs:=Tm [⟨l,q⟩]) fi Ha aC ow (Ht _) (by simp[Tm]) (by rw[d9,To];unfold lim;simp[Tm];omega) (by rw[d9];unfold lim;simp[Tm];omega) λS h' v=> ?_;have ba:Yj h0 (i+1) S od h':=⟨j++ [⟨l,q⟩],k,by
    have:∀z:Als,Tm (j++ [z])=Tm j++Tm [z]:=λz=>by simp[Tm]
    rw[this];exact v,λa ha=>by
    rcases yp.1 ha with h1|h1
    ·exact F a h1
    ·cases ze.1 h1;exact⟨hf.isSl,ak,kn hf (Yk ad)⟩,by simp;omega,by omega⟩
   simp only[go_sem, *]
  |false=>
  cases k2:(f.kind==2)with
  |false=>
   simp only[go_sem, *]
  |true=>
  have a3:=λK w s hK=>I td h K w s (by obtain⟨j,k,E,F,R,G⟩:=u;exact⟨j,k,E,F,by omega,G⟩) hK;simp only[go_sem, *];refine(ai _).mono ?_;rintro r X ⟨N,w,rfl⟩;subst N;cases w0:decide (w<0)with
  |false=>
   simp only[go_sem, *]
  |true=>
   simp only[go_sem, *];refine a3 _ _ _ λC h' v=> ?_;exact au
 ·rintro fr h ec ⟨T,V,U,u⟩;obtain⟨td,W⟩:∃o,fr 9=o:=⟨_,rfl⟩;obtain⟨od,B⟩:∃o,fr 10=o:=⟨_,rfl⟩;rw[W,B]at u;have hf:=y td od h u;exact au
def Ju{l:List Int}(a:yi 1 (wY l) d)(h:Heap):mC prog 30 d h=some (.int .i64 l.length):=by rw[wa a underlying30,wI]
def NQ{l:List Int}(a:yi 1 (wY l) d)(b:i<l.length):yt prog 30 d (.int .i64 (i:Int))=some (.iptr [.int .i64 l[i]] 0):=yn a qv sI (by simp[wY,b])
def G7(n:Int)(nid:Nat)(h:Heap):yB prog false nid 30 1 [(0,.int .i64 n)] h=some (.sl 1 [[.int .i64 n]] .full,h):=qW (x:=.int .i64 n) qv rv sI rfl rfl ow ow rfl rfl
def OwI(G h:Heap)(d:D)(m:Nat):Prop:=∃l,Own G h 1 (wY l) d/\l.length<=m
def OwI.app{G h:Heap}{m:Nat}{n:Int}{w:HidR K}(e:OwI G h d m)(g:m<=2097152)(c:∀a h',OwI G h' a (m+1)->K a h'):IE (qg prog false h.next 30 d (.sl 1 [[.int .i64 n]] tk) h) K w:=by
 obtain⟨l,h1,f⟩:=e;refine h1.appH (ys:=wY [n]) qv Z3 sI ow (by simp[wY]) (by simp[wY]) (by rw[wI,lq];unfold lim;simp[wY];omega) (by rw[wI];unfold lim;simp[wY];omega) λa h' b=> ?_;refine c a h' ⟨l++ [n],?_,by simp;omega⟩
 have:wY (l++ [n])=wY l++wY [n]:=by simp[wY]
 rw[this];exact b
def GR{M x:D}(O:uc c M)(hs:c.Sm)(H:c.ls.length<=40)(hx:yi 12 (mV fs) x)(Z:fs.length<=260)(K:∀f∈fs,f.Ok)(B:∀f∈fs,f.e.size<=120)(g:Heap):zE prog 71 [M,x] g λr h'=>h'=g/\∃q n l,r=.tuple [q,.int .i64 n]/\yi 1 (wY l) q/\l.length<=520:=by
 refine xU kr λP=>xS ?_;refine xP λQ I=> ?_;have C:=K5 O hs H hx Z K B;have k:∀n h,Ext g h->Q (.tuple [.nilsl,.int .i64 n]) h:=λn h X=>I _ _ ⟨X,by simp[qD,qY,below,qO],.nilsl,n,[],by simp[qD,qY],.inl ⟨rfl,rfl⟩,by simp⟩;have a:∀d h,OwI g h d 520->Q (.tuple [d,.int .i64 0]) h:=λd h ⟨l,J,h1⟩=>by
  obtain⟨V,s,W⟩:=J.fin (XQ _);exact I _ _ ⟨V,by simp[qD,qY,below,qO,s],qD d,0,l,by simp[qD,qY],W.isSl,h1⟩
 obtain⟨ca,cb,ce,cp,rfl,Y,_,_,_⟩:=O;have R:=G7;have ad:=rS Y;clear I;refine zu zO0 ?_;simp only[f71,zA];simp only[go_sem, *];refine(C _).mono ?_;rintro r h0 ⟨hq,E,os,tq,T,n,rfl,S,b,a2,J,a0⟩;subst hq;clear C;cases e0:(n==0)with
 |false=>
  have hn:=k n h0 (Ext.refl h0);clear k a b;simp only[go_sem, *]
 |true=>
 have v:OwI h0 h0 .nilsl 0:=⟨[],Own.start (Ext.refl h0) 1,by simp⟩;have p:=Gv S.isSl;have ai:=wh J.isSl;clear k;simp only[go_sem, *];refine zd (λi fr h=>fr 2=.iptr [ca,cb,ce,cp] 0/\fr 6=tq/\fr 7=T/\fr 10=.int .i64 (i:Int)/\OwI h0 h (fr 9) i) E.length ow ?_ ?_ ?_
 ·clear a b;simp only[go_sem,zT,zV,zI];exact v
 ·clear v;rintro i fr h p A U ⟨s,G,z,u,j⟩;obtain⟨o,m⟩:∃o,fr 9=o:=⟨_,rfl⟩;rw[m]at j;have a1:=BV S.isSl p;have L:=b _ (zH p);have ag:=tn L.sl;generalize E[i]=t at *
  clear a b;simp only[go_sem, *];refine j.app ow λN h' w=> ?_;clear j;exact au
 clear v;rintro fr h A ⟨s,G,z,u,j⟩;obtain⟨o,m⟩:∃o,fr 9=o:=⟨_,rfl⟩;rw[m]at j;have y:OwI h0 h o (E.length+0):=j;clear j;simp only[go_sem, *];refine zd (λi fr h=>fr 2=.iptr [ca,cb,ce,cp] 0/\fr 7=T/\fr 11=.int .i64 (i:Int)/\OwI h0 h (fr 9) (E.length+i)) os.length ow ?_ ?_ ?_
 ·clear a b;simp only[go_sem,zT,zV,zI,s,z,m];exact y
 ·clear y s G z u m A fr h;rintro i fr h p A U ⟨s,z,F,j⟩;obtain⟨o,m⟩:∃o,fr 9=o:=⟨_,rfl⟩;rw[m]at j;clear a b;simp only[go_sem, *];refine j.app ow λN h' w=> ?_;have ak:OwI h0 h' N (E.length+(i+1)):=w;clear j w;exact au
 ·clear y s G z u m A fr h;rintro fr h A ⟨s,z,F,j⟩;obtain⟨o,m⟩:∃o,fr 9=o:=⟨_,rfl⟩;rw[m]at j;have hf:=a o h (by obtain⟨l,q1,q2⟩:=j;exact⟨l,q1,by omega⟩);clear a b j;exact au
def GL{A x:D}(s:uc c A)(K:c.Sm)(v:c.ls.length<=40)(L:yi 12 (mV fs) x)(H:fs.length<=260)(w:∀f∈fs,f.Ok)(p:∀f∈fs,f.e.size<=120)(g:Heap):zE prog 29 [A,x] g λr h'=>h'=g/\∃a b,r=.tuple [.int .i64 a,.int .i64 b]:=by
 refine xP λQ G=> ?_;have y:=GR s K v L H w p;have B:∀a b,Q (.tuple [.int .i64 a,.int .i64 b]) g:=λa b=>G _ _ ⟨rfl,a,b,rfl⟩;obtain⟨ca,cb,ce,cp,rfl,O,_,_,_⟩:=s;refine zu zOg ?_;simp only[f29,zA]
 repeat' first|simp only[go_sem, *]|apply bc<;>intro s
 refine(y _).mono ?_;rintro r h0 ⟨d,q,n,l,rfl,j,I⟩;subst d;have J:=Ju j
 repeat' first|simp only[go_sem, *]|apply bc<;>intro s
 refine zd (λi fr h=>fr 6=q/\fr 8=.int .i64 (i:Int)/\h=h0) l.length ow ?_ ?_ ?_
 ·simp only[go_sem,zT,zV,zI]
 ·rintro i fr h k o E ⟨m,u,d⟩;subst d;have C:=NQ j k;generalize l[i]=z at *
  exact au
 rintro fr h o ⟨m,u,d⟩;subst d;have N:=isI
 repeat' first|simp only[go_sem, *]|apply bc<;>intro s
 refine zd (λi fr h'=>fr 6=q/\fr 10=.int .i64 (i:Int)/\h'=h/\IsI (fr 9)) l.length ow ?_ ?_ ?_
 ·simp only[go_sem,zT,zV,zI,m,isI]
 ·clear m u o fr;rintro i fr h k o E ⟨m,t,d,M,F⟩;subst d;have C:=NQ j k;generalize l[i]=z at *
  exact au
 ·clear m u o fr;rintro fr h o ⟨m,t,d,M,F⟩;subst d;exact au
def KW.sl{a:List NdI}(h:KW a d):d.flat=true/\∀H,mC prog 32 d H=some (.int .i64 a.length):=by
 obtain⟨xs,h1,b,_⟩:=h;exact⟨(yP h1).2.2,λH=>by rw[wa h1 underlying32,b]⟩
def zML(c:Cat)(fs:List Fac)(ta oa rd:D)(b:Bool):Prop:=(ta.flat=true/\oa.flat=true/\rd.flat=true)/\((ql c fs≠0/\b=false/\rd=.nilsl)\/(ql c fs=0/\b= !(rU c fs).isEmpty/\((b=true/\rd=.nilsl)\/(b=false/\KW ((p9 c fs).map Nd.i) rd))))
protected def zB3.b{r:D}(h:zB3 c fs r):∃b i g rd,r=.tuple [.agg [.bool b,i,g,rd],.int .i64 (ql c fs)]/\zML c fs i g rd b:=by
 rcases h with⟨h0,rfl⟩ | ⟨h0,⟨q,f,rfl⟩ | ⟨h1,rd,d,rfl⟩⟩
 ·exact⟨_,_,_,_,rfl,⟨rfl,rfl,rfl⟩,.inl ⟨h0,rfl,rfl⟩⟩
 ·refine⟨_,_,_,_,by rw[h0],⟨by unfold tsF;split<;>rfl,by unfold owF;split<;>rfl,rfl⟩,.inr ⟨h0,?_,.inl ⟨rfl,rfl⟩⟩⟩;cases e:rU c fs with
  |nil=>rw[e]at f;cases f
  |cons a l=>rfl
 ·exact⟨_,_,_,_,by rw[h0],⟨rfl,rfl,d.sl.1⟩,.inr ⟨h0,by rw[h1];rfl,.inr ⟨rfl,d⟩⟩⟩
def Ix(H:Heap){c a rd:D}(h1:c.flat=true)(d:a.flat=true)(h3:rd.flat=true) :yX prog 49 (.ptr n 0) (.agg [.bool b,c,a,rd]) (H.new n (.row [.bool false,.nilsl,.nilsl,.nilsl]))=some (H.new n (.row [.bool b,c,a,rd])):=qK Mg ow rfl rfl (by simp[h1,d,h3];rfl)
def AS(h:BK fs)(b:fs.length<=24)(a:gs.Sublist fs):BK gs:=by
 have:=a.length_le;exact⟨⟨.inl ow,by omega⟩,λf hf=>h.2 f (a.subset hf)⟩
section
variable{c:Cat}{fs:List Fac}
def FD{y:Cho}(W:Whole c fs y)(H:InI fs I){v:Vio}(n:v∈p0 c fs y)(k:∀x:Nat,(x:Int)∈v.facts->x∈I):p0 c (yG fs I) (jk y fs I)≠[]:=by
 obtain⟨i,h1,p,l,m,e⟩:=mT.1 n;have d:∀x∈l,x∈I:=λx g=>k x (by rw[<-e,jB,zM];exact⟨x,g,rfl⟩);have b:∀x∈I,I.findIdx (λz=>z==x)<I.length/\I.getD (I.findIdx λz=>z==x) 0=x:=λx g=>by
  have a:I.findIdx (λz=>z==x)<I.length:=ug.2 ⟨x,g,by simp⟩;refine⟨a,?_⟩;rw[zC,zB a];have:=sO (w:=a);simpa using this
 have f:(l.map λx=>I.findIdx λz=>z==x).map (λj=>I.getD j 0)=l:=by
  rw[wF]
  conv=>rhs;rw[<-d7 l]
  exact wL λx g=>(b x (d x g)).2
 have a:∀x∈l.map (λx=>I.findIdx λz=>z==x),x<(yG fs I).length:=λx g=>by
  obtain⟨z,o,rfl⟩:=zM.1 g;rw[uj H.lt];exact(b z (d z o)).1
 have h:oF c (yG fs I) (alS (yG fs I) (jk y fs I)) (qJ (jk y fs I) (yG fs I) (yG fs I).length).O i (l.map λx=>I.findIdx λz=>z==x):=by
  refine((H.emb).row (MM W H) (c:=c) (r:=i) a).2 ?_;rw[f];exact m
 intro e2;have:=mT.2 ⟨i,h1,(show(⟨(i:Int),n7 _⟩:Vio).row=(i:Int)from rfl),_,h,rfl⟩
 rw[e2]at this;cases this
theorem UX{F:Nat->Nat->List Nd}(n:Nat):∀{s k:Nat},k<s->∃b,∀x∈F k b,x∈(re F s n).2
 |s+1,k,h=>by
  rcases z7.1 h with q|rfl
  ·obtain⟨b,h⟩:=UX n q;exact⟨b,λx a=>by rw[re];exact tK _ (h x a)⟩
  ·exact⟨_,λx a=>by rw[re];exact rX _ a⟩
def Le.mem{p q:Part}(h:Le p q){v:Vio}(a:v∈p0 c fs (oD p)):v∈p0 c fs (oD q):=h.gap.vios a
theorem WP(h0:(yH c fs).2.2=0){q:Part}(j:Full c fs q):∀m p n,POk c fs p->Le p q->opn c fs p<=m->ph c fs m p= []->∃v,(⟨-1,[],some v⟩:Nd)∈oE c fs m p n/\v∈p0 c fs (oD q)
 |0,p,n,g,f,r,a=>by
  cases e:Zm c fs p with
  |none=>simp[ph,e]at a
  |some v=>exact⟨v,by rw[(nq e _ _).2];exact qG,f.mem (t7 (by unfold Zm at e;exact e))⟩
 |m+1,p,n,g,f,r,a=>by
  cases e:Zm c fs p with
  |some v=>exact⟨v,by rw[(nq e _ _).2];exact qG,f.mem (t7 (by unfold Zm at e;exact e))⟩
  |none=>
   cases e2:nxV c fs p with
   |none=>rw[(aS e e2 _ 0).1]at a;cases a
   |some v=>
    obtain⟨s,_,_⟩:=ly e2;obtain⟨k,d,b⟩:=j.val s;have h:ph c fs m (nY c fs p v k)= []:=by
     simp only[ph,e,e2,Option.isSome,zl,yy]at a;exact oH.1 a k (qT.2 d)
    obtain⟨i,o⟩:=UX (F:=λk i=>oE c fs m (nY c fs p v k) i) (n+1) d;obtain⟨w,h1,l⟩:=WP h0 j m _ i (g.dec d) (f.dec b) (by have:=Xm g h0 e2 d;omega) h;refine⟨w,?_,l⟩;simp only[oE,e,e2];exact zt _ (o _ h1)
def bM [BEq α][LawfulBEq α]{l:List α}(h:l.Nodup)(b:k<l.length):l.findIdx (λz=>z==l[k])=k:=by
 have h1:l.findIdx (λz=>z==l[k])<l.length:=ug.2 ⟨l[k],zH b,by simp⟩;have a:l[l.findIdx (λz=>z==l[k])]=l[k]:=by
  have:=sO (w:=h1);simpa using this
 exact(List.getElem_inj h).1 a
def Gx(h:i<=j):oY fs i<=oY fs j:=by
 unfold oY;exact((List.take_sublist_take_left h).filter _).length_le
def A3(h:i<j)(a:i<fs.length)(b:wC fs i=1):oY fs i<oY fs j:=by
 have h1:=bW a;rw[show(fs[i].kind==1)=true from by rw[<-sy a,b];rfl]at h1
 have c:=Gx (fs:=fs) (show i+1<=j from h)
 simp at h1;omega
theorem FC(h0:(yH c fs).2.2=0)(hl:uW fs []≠[]->c.ls.length≠0)(H:InI fs I)(hp:Full c (yG fs I) p)(g0:(yH c (yG fs I)).2.2=0):∃q,Full c fs q/\jk (oD q) fs I=oD p:=by
 have F:=hp.whole g0;obtain⟨h1,h2⟩:=TK h0;obtain⟨e1,e2,e3⟩:=mo.1 h1;obtain⟨J,G⟩:∃J,I.filter (λi=>wC fs i==1)=J:=⟨_,rfl⟩;have g:∀i∈J,i<fs.length/\wC fs i=1:=λi t=>by
  rw[<-G]at t;obtain⟨D,E⟩:=wZ.1 t;exact⟨H.lt i D,by simpa using E⟩
 have M:J.Pairwise (· < ·):=by rw[<-G];exact H.inc.filter _
 have A:kI (yG fs I)=yG fs J:=by rw[my H.lt,G]
 have N:(J.map (oY fs)).Nodup:=by
  refine List.Pairwise.imp (λ{a b} h e=>by omega) (tT.2 (M.imp_of_mem (R:=(· < ·)) (S:=λa b=>oY fs a<oY fs b) λ{a b} Z hb h=>A3 h (g a Z).1 (g a Z).2))
 have Q:p.ts.length=J.length:=by
  have:=F.tl;rw[A,uj λi t=>(g i t).1]at this;rw[<-this];show _=(p.ts.map nu).length;rw[zG]
 have C:p.own.length=(uW (yG fs I) []).length:=F.ol;have x:(uW (yG fs I) []).Nodup:=lE kC;obtain⟨m,r⟩:∃l,uW (yG fs I) []=l:=⟨_,rfl⟩;rw[r]at C x
 let n:Nat->List Trm:=λv=>if(J.map (oY fs)).findIdx (λz=>z==v)<J.length then p.ts.getD ((J.map (oY fs)).findIdx (λz=>z==v)) []else((tV c fs).getD v []).getD 0 []
 let u:List UInt8->List UInt8:=λs=>if m.findIdx (λz=>z==s)<m.length then p.own.getD (m.findIdx (λz=>z==s)) []else(c.ls.map Lic.name).getD 0 []
 have Y:=WG h0;have ad:(tV c fs).length=(kI fs).length:=by rw[Y,zG]
 have T:∀k (d:k<J.length),p.ts.getD k []∈ofL c (fs[J[k]]'(g _ (zH d)).1).e:=λk d=>by
  have O:=(g _ (zH d)).1;have h3:(kI (yG fs I))[k]? =some fs[J[k]]:=by
   rw[A,kg λi t=>(g i t).1,zB d];exact zB O
  have:=F.ts k (by show k<(p.ts.map nu).length;rw[zG];omega) _ h3;have e:((oD p).ts[k]'(by show k<(p.ts.map nu).length;rw[zG];omega)).ts=p.ts.getD k []:=by
   show((p.ts.map nu)[k]'(by rw[zG];omega)).ts=_;rw[qr,gT,zC,zB ow];rfl
  rwa [e]at this
 refine⟨⟨(List.range (kI fs).length).map n,(uW fs []).map u⟩,Whole.full ⟨e1,e2,e3,h2,?_,?_,?_,?_⟩,?_⟩
 ·show(((List.range (kI fs).length).map n).map nu).length=_;simp
 ·intro v hv f hf;have V:v<(kI fs).length:=by
   have:v<(((List.range (kI fs).length).map n).map nu).length:=hv;simpa using this
  have e:((oD ⟨(List.range (kI fs).length).map n,(uW fs []).map u⟩).ts[v]'hv).ts=n v:=by
   show((((List.range (kI fs).length).map n).map nu)[v]'(by simpa using V)).ts=_;simp only[qr,List.getElem_range,gT]
  rw[e];show(if _ then _ else _)∈_
  split
  ·rename_i d;have j:(J.map (oY fs))[(J.map (oY fs)).findIdx (λz=>z==v)]'(by rw[zG];exact d)=v:=by
    have:=sO (xs:=J.map (oY fs)) (p:=λz=>z==v) (w:=by rw[zG];exact d);simpa using this
   rw[qr]at j;have K:=T _ d;obtain⟨D,E⟩:=g _ (zH d);have h5:=N6 D E;rw[j,hf]at h5;cases h5;exact K
  ·have L:(tV c fs).getD v []=ofL c f.e:=by
    rw[zC,Y,zj,hf];rfl
   have P:(tV c fs).getD v []∈tV c fs:=by
    have W:v<(tV c fs).length:=ow;rw[zC,zB W];exact zH _
   have B:=(pc _ P).2.ne;rw[L]at B⊢;obtain⟨a,l,e⟩:=lT B;rw[e];exact qG
 ·show((uW fs []).map u).length=_;rw[zG]
 ·intro s hs;obtain⟨o,ho,rfl⟩:=zM.1 hs;have U:(if m.findIdx (λz=>z==o)<m.length then p.own.getD (m.findIdx (λz=>z==o)) []else(c.ls.map Lic.name).getD 0 [])=u o:=rfl
  rw[<-U];split
  ·rename_i d;refine F.own _ ?_;have y:m.findIdx (λz=>z==o)<p.own.length:=ow;rw[zC,zB y];exact zH y
  ·have:=hl (lg ho);have X:0<c.ls.length:=ow;rw[kq X];exact yu.2 ⟨_,zH X,by simp⟩
 ·show Cho.mk (fJ _ fs I) (C2 _ (uW fs []) (uW (yG fs I) []))=Cho.mk _ _;rw[r];congr 1
  ·unfold fJ;rw[G];refine j6 (by simp[Q]) λk h3 K=> ?_;have d:k<J.length:=by simpa using h3
   obtain⟨D,E⟩:=g _ (zH d);have h5:=N6 D E;have L:=(zK.1 h5).1;rw[qr,qr];show List.getD (((List.range (kI fs).length).map n).map nu) _ _=_;rw[zC,zj,zj,me L];have j:(J.map (oY fs)).findIdx (λz=>z==oY fs J[k])=k:=by
    have:=bM N (k:=k) (by rw[zG];exact d);simpa only[qr]using this
   show nu (n (oY fs J[k]))=_;show nu (if _ then _ else _)=_
   rw[ip (by rw[j];exact d),j,zC,zB ow];rfl
  ·unfold C2;refine j6 (by simp[C]) λk h3 K=> ?_;have d:k<m.length:=by simpa using h3
   rw[qr];have P:m[k]∈uW fs []:=Xn (by rw[r];exact zH d);have hx:=(zEj P).2;unfold mL;show List.getD ((uW fs []).map u) _ _=_;have hg:(uW fs [])[(uW fs []).findIdx λz=>z==m[k]]=m[k]:=by
    have:=sO (w:=hx);simpa using this
   rw[zC,zj,zB hx,hg];have j:=bM x d;show u m[k]=_;show(if _ then _ else _)=_
   rw[ip (by rw[j];exact d),j,zC,zB ow];rfl
end
def W7(ns:List NdI):List Int:=ns.flatMap λn=>if(n.var== -1)=true then n.facts else []
section
variable{c:Cat}{fs:List Fac}
def TQ{y:Cho}{v:Vio}(s:v∈p0 c fs y):(∃h:Nat,(h:Int)∈v.facts/\wC fs h=2)/\(∀x∈v.facts,0<=x/\x.toNat<fs.length)/\v.facts.length<=5:=by
 obtain⟨i,h1,t,l,f,e⟩:=mT.1 s;refine⟨?_,λx g=> ?_,?_⟩
 ·have key:∃h∈l,wC fs h=2:=by
   rcases i with _|_|_|_|_|i
   ·obtain⟨a,b,d,T,_,rfl⟩:=f;exact⟨d,by simp,T.kh⟩
   ·obtain⟨a,b,d,o,T,_,_,rfl⟩:=f;exact⟨d,by simp,T.kh⟩
   ·obtain⟨a,b,d,k,T,_,_,_,rfl⟩:=f;exact⟨d,by simp,T.kh⟩
   ·obtain⟨a,b,d,j,b',m,T,_,_,_,rfl⟩:=f;exact⟨d,by simp,T.kh⟩
   ·obtain⟨a,d,o,_,_,_,k,_,rfl⟩:=f;exact⟨d,by simp,k⟩
   ·obtain⟨_,d,k,rfl⟩:=f;exact⟨d,by simp,k⟩
  obtain⟨h,q,p⟩:=key;exact⟨h,by rw[<-e,jB,zM];exact⟨h,q,rfl⟩,p⟩
 ·rw[<-e,jB,zM]at g;obtain⟨n,r,rfl⟩:=g;exact⟨by omega,by have:=f.lt n r;simpa using this⟩
 ·rw[<-e];refine zf (R1 _) ?_;rw[zG];rcases i with _|_|_|_|_|i
  ·obtain⟨a,b,d,T,_,rfl⟩:=f;simp
  ·obtain⟨a,b,d,o,T,_,_,rfl⟩:=f;simp
  ·obtain⟨a,b,d,k,T,_,_,_,rfl⟩:=f;simp
  ·obtain⟨a,b,d,j,b',m,T,_,_,_,rfl⟩:=f;simp
  ·obtain⟨a,d,o,_,_,_,k,_,rfl⟩:=f;simp
  ·obtain⟨_,d,k,rfl⟩:=f;simp
def Jm{v:Vio}(e:Zm c fs p=some v):v∈p0 c fs (oD p):=t7 (by unfold Zm at e;exact e)
theorem N4{P:Nd->Prop}{F:Nat->Nat->List Nd}(n:Nat):∀{s:Nat},(∀k b,k<s->∀x∈F k b,P x)->∀x∈(re F s n).2,P x
 |0,h,x,a=>by cases a
 |s+1,h,x,a=>by
  rw[re]at a;rcases yp.1 a with q|q
  ·exact N4 n (λk b c=>h k b ow) x q
  ·exact h s _ ow x q
theorem jA:∀m p n,POk c fs p->∀nd∈oE c fs m p n,(∃v f,nd= ⟨-1,[],some v⟩/\v∈p0 c fs (oD f))\/∃ (v:Nat) (ks:List Int),nd= ⟨(v:Int),ks,none⟩
 |0,p,n,a,nd,h=>by
  cases e:Zm c fs p with
  |none=>simp[oE,e]at h
  |some v=>rw[(nq e _ _).2,ze]at h;exact .inl ⟨v,p,h,Jm e⟩
 |m+1,p,n,a,nd,h=>by
  cases e:Zm c fs p with
  |some v=>rw[(nq e _ _).2,ze]at h;exact .inl ⟨v,p,h,Jm e⟩
  |none=>
   cases e2:nxV c fs p with
   |none=>rw[(aS e e2 _ _).2]at h;cases h
   |some v=>
    simp only[oE,e,e2]at h;rcases zw.1 h with rfl|h
    ·exact .inr ⟨_,_,rfl⟩
    ·exact N4 (n+1) (λk d b=>jA m _ d (a.dec b)) nd h
theorem TY(h0:(yH c fs).2.2=0):∀m p n,POk c fs p->opn c fs p<=m->ph c fs m p= []->∃v,(⟨-1,[],some v⟩:Nd)∈oE c fs m p n
 |0,p,n,f,j,a=>by
  cases e:Zm c fs p with
  |none=>simp[ph,e]at a
  |some v=>exact⟨v,by rw[(nq e _ _).2];exact qG⟩
 |m+1,p,n,f,j,a=>by
  cases e:Zm c fs p with
  |some v=>exact⟨v,by rw[(nq e _ _).2];exact qG⟩
  |none=>
   cases e2:nxV c fs p with
   |none=>rw[(aS e e2 _ 0).1]at a;cases a
   |some v=>
    obtain⟨l,d,_⟩:=ly e2;have b:0<szV c fs v:=by simp only[pS,zF,zO]at d;omega
    have g:ph c fs m (nY c fs p v 0)= []:=by
     simp only[ph,e,e2,Option.isSome,zl,yy]at a;exact oH.1 a 0 (qT.2 b)
    obtain⟨h,i⟩:=UX (F:=λk h=>oE c fs m (nY c fs p v k) h) (n+1) b;obtain⟨w,h1⟩:=TY h0 m _ h (f.dec b) (by have:=Xm f h0 e2 b;omega) g;refine⟨w,?_⟩;simp only[oE,e,e2];exact zt _ (i _ h1)
def U0:opn c fs (mN c fs)<=ctV c fs:=by
 unfold opn;exact zf (uA _ _) (by simp)
def Jc{v:Vio}(h:(⟨-1,[],some v⟩:Nd)∈p9 c fs){x:Int}(a:x∈v.facts):x∈W7 ((p9 c fs).map Nd.i):=z5.2 ⟨_,zM.2 ⟨_,h,rfl⟩,a⟩
def No:∀x∈W7 ((p9 c fs).map Nd.i),0<=x/\x.toNat<fs.length:=λx a=>by
 obtain⟨n,d,a⟩:=z5.1 a;obtain⟨nd,b,rfl⟩:=zM.1 d;rcases jA _ _ _ (tg c fs _) nd b with⟨v,f,rfl,e⟩ | ⟨v,ks,rfl⟩
 ·exact(TQ e).2.1 x a
 ·have:(((v:Int)== -1):Bool)=false:=by rw[yr];omega
  simp only[Nd.i,this]at a;cases a
def cF(c:Cat)(fs:List Fac):List Nat:=(n7 (W7 ((p9 c fs).map Nd.i))).map Int.toNat
def Nk:n7 (W7 ((p9 c fs).map Nd.i))=(cF c fs).map λn:Nat=>(n:Int):=by
 unfold cF;rw[wF]
 conv=>lhs;rw[<-d7 (n7 _)]
 refine wL λx a=> ?_;have:=(No x (jB.1 a)).1;show x=((x.toNat:Nat):Int);omega
def YI{x:Nat} :x∈cF c fs↔(x:Int)∈W7 ((p9 c fs).map Nd.i):=by
 rw[<-jB,Nk,zM];constructor
 ·exact λh=>⟨x,h,rfl⟩
 ·rintro⟨z,a,e⟩
  have:z=x:=ow
  rwa [<-this]
def JU:InI fs (cF c fs) where
 lt:=λi hi=>by have:=(No _ (YI.1 hi)).2;simpa using this
 inc:=by
  have h:=IA (W7 ((p9 c fs).map Nd.i));rw[Nk,tT]at h;exact h.imp λ{a b} q=>by have:=AI.1 q;omega
def Ge(h:ql c fs=0)(w:rU c fs= []):rU c (yG fs (cF c fs))= []:=by
 have h0:=lu h;have a:=JU (c:=c) (fs:=fs);have o:=Mk h0 a.sub;refine uu λg=> ?_;obtain⟨p,A,r⟩:=(XJ o).1 g;by_cases t:uW fs []≠[]->c.ls.length≠0
 ·obtain⟨q,i,e⟩:=FC h0 t a A o;obtain⟨v,h1,y⟩:=WP h0 i _ _ 0 (tg c fs _) (X1 i _ (zD _)) U0 w;have:=FD (i.whole h0) a y λx l=>YI.2 (Jc h1 l);rw[e]at this;exact this r
 ·have f:c.ls.length=0:=uu λq=>t λ_=>q;obtain⟨v,u⟩:=TY h0 _ _ 0 (tg c fs _) U0 w;rcases jA _ _ _ (tg c fs _) _ u with⟨B,C,e,k⟩ | ⟨B,ks,e⟩
  ·cases e;obtain⟨⟨x,l,z⟩,_,_⟩:=TQ k;have m:x∈cF c fs:=YI.2 (Jc u l);obtain⟨j,s,rfl⟩:=yD.1 m;have b:j<(yG fs (cF c fs)).length:=by rw[uj a.lt];exact s
   have d:wC (yG fs (cF c fs)) j=2:=by
    rw[a.emb.kind b,zC,zB s];exact z
   have:(⟨5,n7 ([j].map λn:Nat=>(n:Int))⟩:Vio)∈p0 c (yG fs (cF c fs)) (oD p):=mT.2 ⟨5,by omega,rfl,[j],⟨f,j,d,rfl⟩,rfl⟩;rw[r]at this;cases this
  ·cases e
end
def ZF(c:Cat)(fs:List Fac):Bool:=ql c fs==0&&(rU c fs).isEmpty
def Ma(c:Cat)(fs:List Fac):Nat->List Nat->List Nat
 |0,I=>I
 |k+1,I=>Ma c fs k (if ZF c (yG fs (I.eraseIdx k))=true then I.eraseIdx k else I)
abbrev FN(c:Cat)(fs:List Fac)(I:List Nat):List Nat:=Ma c fs I.length I
theorem UQ{α β:Type}{f g:α->Option β} :∀{l:List α},(∀x∈l,f x=g x)->l.filterMap f=l.filterMap g
 | [],_=>rfl
 |a::l,h=>by rw[md,md,h a qG,UQ λx b=>h x (zt _ b)]
theorem Ja{α β:Type}(f:α->β):∀(l:List α)(i:Nat),(l.map f).eraseIdx i=(l.eraseIdx i).map f
 | [],_=>rfl
 |_::_,0=>rfl
 |a::l,i+1=>by simp[Ja f l i]
theorem zGo{fs gs:List Fac}(h:gs.Sublist fs):∃I,InI fs I/\yG fs I=gs:=by
 induction h with
 |slnil=>exact⟨[],⟨λi h=>(by cases h),List.Pairwise.nil⟩,rfl⟩
 | @cons f g a h d=>
  obtain⟨I,h1,rfl⟩:=d;refine⟨I.map (· +1),⟨λi b=> ?_,?_⟩,?_⟩
  ·obtain⟨j,c,rfl⟩:=zM.1 b;have:=h1.lt j c;simp;omega
  ·rw[tT];exact h1.inc.imp λh=>by omega
  ·simp[yG,lY,kV]
 | @cons_cons f g a h d=>
  obtain⟨I,h1,rfl⟩:=d;refine⟨0::I.map (· +1),⟨λi b=> ?_,?_⟩,?_⟩
  ·rcases zw.1 b with rfl|b
   ·simp
   ·obtain⟨j,c,rfl⟩:=zM.1 b;have:=h1.lt j c;simp;omega
  ·rw[t8,tT];refine⟨λx e=> ?_,h1.inc.imp λh=>by omega⟩;obtain⟨j,_,rfl⟩:=zM.1 e;omega
  ·simp[yG,lY,kV]
section
variable{c:Cat}{fs:List Fac}
theorem Xv:ZF c fs=true↔ql c fs=0/\rU c fs= []:=by
 unfold ZF;rw[zF,qN,List.isEmpty_iff]
theorem MQ{gs:List Fac}(h:gs.Sublist fs)(h0:ql c fs=0)(hr:ZF c gs=true):ZF c fs=true:=by
 obtain⟨I,b,rfl⟩:=zGo h;obtain⟨h1,a⟩:=Xv.1 hr;exact Xv.2 ⟨h0,uu λd=>Ll (lu h0) d b (lu h1) a⟩
theorem PK{I J:List Nat}(h:I.Sublist J):(yG fs I).Sublist (yG fs J):=h.filterMap _
theorem InI.mono{I J:List Nat}(H:InI fs J)(h:I.Sublist J):InI fs I:=⟨λi a=>H.lt i (h.subset a),H.inc.sublist h⟩
theorem LQ(l:List Nat){k j:Nat}(h:k<=j):(l.eraseIdx k).eraseIdx j=(l.eraseIdx (j+1)).eraseIdx k:=by
 apply sT;intro i;simp only[gA]
 grind
theorem Pr:∀k I,(Ma c fs k I).Sublist I
 |0,I=>List.Sublist.refl _
 |k+1,I=>by
  unfold Ma;split
  ·exact(Pr k _).trans (wx _ _)
  ·exact Pr k _
theorem Pq:∀k I,ZF c (yG fs I)=true->ZF c (yG fs (Ma c fs k I))=true
 |0,I,h=>h
 |k+1,I,h=>by
  unfold Ma;split
  ·rename_i q;exact Pq k _ q
  ·exact Pq k _ h
theorem Pp(h0:ql c fs=0):∀k I,InI fs I->k<=I.length->(∀j,k<=j->j<I.length->ZF c (yG fs (I.eraseIdx j))=false)->∀j,j<(Ma c fs k I).length->ZF c (yG fs ((Ma c fs k I).eraseIdx j))=false
 |0,I,_,_,h,j,b=>h j (yC _) b
 |k+1,I,H,l,h,j,b=>by
  unfold Ma at b⊢;split at b
  ·rename_i q;rw[ip q]at⊢;refine Pp h0 k _ (H.mono (wx _ _)) (by rw[pP];split<;>omega) (λi d a=> ?_) j b;rw[pP,ip ow]at a;refine kR.2 λe=> ?_;have f:((I.eraseIdx k).eraseIdx i).Sublist (I.eraseIdx (i+1)):=by rw[LQ I d];exact wx _ _
   have:=MQ (PK f) (PC h0 (H.mono (wx _ _)).sub) e;rw[h (i+1) ow ow]at this;cases this
  ·rename_i q;rw[iq q]at⊢;refine Pp h0 k _ H ow (λi d a=> ?_) j b;rcases Nat.lt_or_eq_of_le d with g|rfl
   ·exact h i g a
   ·exact kR.2 q
theorem RU{F:List Nat}(H:∀i∈F,i<fs.length)(j:Nat):(yG fs F).eraseIdx j=yG fs (F.eraseIdx j):=by
 have e:∀{F:List Nat},(∀i∈F,i<fs.length)->yG fs F=F.map λi=>fs.getD i ⟨0,[],[],0,0,0,false,.mk 0 [] [] [] .nilsl,[],.nilsl⟩:=λ{F} H=>by
  unfold yG;rw[<-List.filterMap_eq_map];refine UQ λi a=> ?_;have:=H i a;simp[zB this,zC]
 rw[e H,e λi a=>H i (List.mem_of_mem_eraseIdx a),Ja]
theorem A7(hr:ZF c fs=true)(w:∀j,j<fs.length->ZF c (fs.eraseIdx j)=false){j:Nat}(m:j<fs.length):∃p v,v∈p0 c fs (oD p)/\(j:Int)∈v.facts:=by
 obtain⟨h0,A⟩:=Xv.1 hr;have f:=JU (c:=c) (fs:=fs);have u:j∈cF c fs:=uu λd=>by
  have x:(yG fs (cF c fs)).Sublist (fs.eraseIdx j):=by
   have H:InI (fs.eraseIdx j) ((cF c fs).map λi=>if i<j then i else i-1):=⟨λi g=>by
    obtain⟨z,o,rfl⟩:=zM.1 g;have h1:=f.lt z o;have l:z≠j:=λe=>d (by rw[<-e];exact o);rw[pP,ip m];split<;>omega,by
    rw[tT];refine f.inc.imp_of_mem λ{a b} r t s=> ?_;have h1:a≠j:=λe=>d (by rw[<-e];exact r);have l:b≠j:=λe=>d (by rw[<-e];exact t);split<;>split<;>omega⟩
   have e:yG (fs.eraseIdx j) ((cF c fs).map λi=>if i<j then i else i-1)=yG fs (cF c fs):=by
    unfold yG;rw[lY];refine UQ λi g=> ?_;have l:i≠j:=λe=>d (by rw[<-e];exact g);simp only[kV,gA];by_cases q:i<j
    ·simp[q]
    ·rw[iq q,iq ow];congr 1;omega
   rw[<-e];exact H.sub
  have h1:ZF c (yG fs (cF c fs))=true:=Xv.2 ⟨PC h0 f.sub,Ge h0 A⟩;have:=MQ x (PC h0 (wx _ _)) h1;rw[w j m]at this;cases this
 obtain⟨nd,k,n⟩:=z5.1 (YI.1 u);obtain⟨nd,h,rfl⟩:=zM.1 k;rcases jA _ _ _ (tg c fs _) _ h with⟨v,p,rfl,y⟩ | ⟨v,ks,rfl⟩
 ·exact⟨p,v,y,n⟩
 ·cases n
def YF(fs:List Fac)(j:Nat):Prop:=
 (wC fs j=0->(∃a,wC fs a=1/\uU fs a=uU fs j)/\∃s,wC fs s=2/\uh fs s=uh fs j)/\
 (wC fs j=1->∃u,wC fs u=0/\uU fs u=uU fs j)/\
 (wC fs j=3->∃s,wC fs s=2/\uh fs s=uh fs j)/\
 (wC fs j=4->(∃u,wC fs u=0/\uU fs u=uU fs j)/\∃a,wC fs a=1/\uU fs a=uU fs j)
theorem TriP.ki{y:Cho}{i u h:Nat}(T:TriP fs (alS fs y) i u h):wC fs i=1:=by
 have:=T.al;unfold alS at this;unfold wC;split at this
 ·cases this
 ·rename_i f e;split at this
  ·rename_i q;rw[e];simpa using q
  ·cases this
theorem P8{y:Cho}{v:Vio}(u:v∈p0 c fs y){j:Nat}(r:(j:Int)∈v.facts):YF fs j:=by
 obtain⟨i,h1,D,l,h,e⟩:=mT.1 u;rw[<-e,jB,zM]at r;obtain⟨z,f,C⟩:=r
 have:z=j:=ow;subst this;have g:∀{a b d:Nat},TriP fs (alS fs y) a b d->YF fs a/\YF fs b/\YF fs d:=λ{a b d} T=>by
  have k1:=T.ki;refine⟨⟨λk=> ?_,λk=>⟨b,T.ku,T.cu⟩,λk=> ?_,λk=> ?_⟩,⟨λk=>⟨⟨a,k1,T.cu.symm⟩,d,T.kh,T.oh⟩,λk=> ?_,λk=> ?_,λk=> ?_⟩,λk=> ?_,λk=> ?_,λk=> ?_,λk=> ?_⟩
  all_goals first|(rw[k1]at k;cases k)|(rw[T.ku]at k;cases k)|(rw[T.kh]at k;cases k)
 rcases i with _|_|_|_|_|i
 ·obtain⟨a,b,d,T,_,rfl⟩:=h;obtain⟨m,n,p⟩:=g T;simp only[zw,qt,pj]at f;rcases f with rfl|rfl|rfl<;>assumption
 ·obtain⟨a,b,d,o,T,_,_,rfl⟩:=h;obtain⟨m,n,p⟩:=g T;simp only[zw,qt,pj]at f;rcases f with rfl|rfl|rfl<;>assumption
 ·obtain⟨a,b,d,k,T,w,s,_,rfl⟩:=h;obtain⟨m,n,p⟩:=g T;simp only[zw,qt,pj]at f;rcases f with rfl|rfl|rfl|rfl
  ·exact m
  ·exact n
  ·exact p
  ·refine⟨λk=> ?_,λk=> ?_,λk=> ?_,λ_=>⟨⟨b,T.ku,T.cu.trans s.symm⟩,a,T.ki,s.symm⟩⟩
   all_goals rw[w]at k;cases k
 ·obtain⟨a,b,d,A,b',B,T,t,_,_,rfl⟩:=h;obtain⟨m,n,p⟩:=g T;obtain⟨r1,r2,r3⟩:=g t;simp only[zw,qt,pj]at f;rcases f with rfl|rfl|rfl|rfl|rfl<;>assumption
 ·obtain⟨a,d,o,k1,_,_,k,x,rfl⟩:=h;simp only[zw,qt,pj]at f;rcases f with rfl|rfl
  ·refine⟨λq=> ?_,λq=> ?_,λ_=>⟨d,k,x⟩,λq=> ?_⟩
   all_goals rw[k1]at q;cases q
  ·refine⟨λq=> ?_,λq=> ?_,λq=> ?_,λq=> ?_⟩
   all_goals rw[k]at q;cases q
 ·obtain⟨_,d,k,rfl⟩:=h;rw[ze]at f;subst f;refine⟨λq=> ?_,λq=> ?_,λq=> ?_,λq=> ?_⟩
  all_goals rw[k]at q;cases q
theorem Uk(hr:ZF c fs=true):∃s,wC fs s=2:=by
 obtain⟨h0,f⟩:=Xv.1 hr;obtain⟨v,d⟩:=TY (lu h0) _ _ 0 (tg c fs _) U0 f;rcases jA _ _ _ (tg c fs _) _ d with⟨g,h,e,a⟩ | ⟨g,ks,e⟩
 ·obtain⟨⟨x,_,b⟩,_,_⟩:=TQ a;exact⟨x,b⟩
 ·cases e
end
abbrev nI(I:List Nat):List Int:=I.map λn:Nat=>(n:Int)
theorem az{fs:List Fac} :∀{I:List Nat},(∀i∈I,i<fs.length)->lU (mV fs) (nI I)=mV (yG fs I)
 | [],_=>rfl
 |i::I,h=>by
  have a:=h i qG;have c:=az (fs:=fs) (I:=I) λj b=>h j (zt _ b);have e:yG fs (i::I)=fs[i]::yG fs I:=by simp[yG,zB a]
  rw[e];show(mV fs).getD ((i:Int)).toNat []::lU (mV fs) (nI I)=_;rw[c,ui,zC];simp[mV,zB a]
structure ShF(fs:List Fac):Prop where
 s:∀c∈mV fs,∃k,Shp prog k 57 c
def IJ(fs:List Fac)(I:List Nat):D:=if I= []then .nilsl else .sl 12 (mV (yG fs I)) .no
theorem FB{fs:List Fac}(I:List Nat):yi 12 (mV (yG fs I)) (IJ fs I):=by
 unfold IJ;split
 ·rename_i e;rw[e];exact yi.nil
 ·exact yi.mk .no
theorem Q1{fs:List Fac}{x f:D}(d:yi 12 (mV fs) x)(a:ShF fs){I:List Nat}(hf:yi 1 (wY (nI I)) f)(b:∀i∈I,i<fs.length)(j:I.length<=1048576)(h:Heap):zE prog 34 [x,f] h λr h'=>h'=h/\r=IJ fs I:=by
 have c:=a.s;unfold IJ;split
 ·rename_i e;subst e;exact K0 d c hf h
 ·rename_i e;refine(Fv d c hf (by rw[zG];exact j) (λn k=> ?_) h).mono λr h' q=>⟨q.1,?_⟩
  ·obtain⟨i,g,rfl⟩:=zM.1 k;refine⟨by omega,?_⟩;rw[cH];have:=b i g;omega
  ·rw[<-az b];rcases q.2 with⟨_,q⟩ |q
   ·exact absurd (by simpa [lU]using q) e
   ·exact q
structure KIn(c:Cat)(fs:List Fac)(ca cb ce cp x:D):Prop where
 cat:uc c (.agg [ca,cb,ce,cp])
 sm:c.Sm
 x:yi 12 (mV fs) x
 few:BK fs
 h16:fs.length<=24
 ok:∀f∈fs,f.Ok
 sh:ShF fs
section
variable{c:Cat}{fs:List Fac}{ca cb ce cp x:D}
theorem KIn.solve(K:KIn c fs ca cb ce cp x){I:List Nat}(H:InI fs I)(g:Heap):zE prog 14 [.agg [ca,cb,ce,cp],IJ fs I] g λr h'=>h'=g/\r=KR c (yG fs I):=
 JC K.cat K.sm (FB I) (AS K.few K.h16 H.sub) (λf hf=>K.ok f (km hf)) (λe=>by have:=J9 e;omega) g
theorem Mb{gs:List Fac} :∃b d a rd,KR c gs=.tuple [.agg [.bool b,d,a,rd],.int .i64 (ql c gs)]/\(ql c gs==0&& !b)=ZF c gs/\zML c gs d a rd b:=by
 obtain⟨b,d,a,rd,e,q⟩:=(zB3.of (c:=c) (fs:=gs) rfl).b;refine⟨b,d,a,rd,e,?_,q⟩;unfold ZF;rcases q.2 with⟨h1,f,_⟩ | ⟨h1,f,_⟩
 ·rw[yr.2 h1];rfl
 ·rw[h1,f,Bool.not_not]
theorem Wy(K:KIn c fs ca cb ce cp x){I:List Nat}(H:InI fs I){f:D}(hf:yi 1 (wY (nI I)) f)(w:I.length<=1048576)(g:Heap):zE prog 47 [.agg [ca,cb,ce,cp],x,f] g λr h'=>h'=g/\r=.bool (ZF c (yG fs I)):=by
 refine xU kr λt=> ?_;refine xP λR a=> ?_;have j:=Q1 K.x K.sh hf H.lt w;have d:=K.solve H;obtain⟨b,l,k,rd,n,m,⟨B,C,E⟩,_⟩:=Mb (c:=c) (gs:=yG fs I);rw[n]at d;rw[<-m]at a;obtain⟨N,u⟩:∃N,g.next=N:=⟨_,rfl⟩;obtain⟨G,p,F,o⟩:∃G:Heap,g.new N (.row [.bool b,l,k,rd])=G/\G.at' N=some (.row [.bool b,l,k,rd])/\Ext g G:=⟨_,rfl,z8 _ _ _,by rw[<-u];exact(Ext.refl g).new (zD _) _⟩;have z:yX prog 49 (.ptr N 0) (.agg [.bool b,l,k,rd]) (g.new N (.row [.bool false,.nilsl,.nilsl,.nilsl]))=some G:=by
  rw[<-p];exact Ix g B C E
 have s:∀v,v=(ql c (yG fs I)==0&& !b)->R (.bool v) G:=λv e=>a _ _ ⟨o,trivial,by rw[e]⟩;have y:∀h,HLe Heap.emp h:=λh i A e=>by cases e
 generalize ql c (yG fs I)=ce at *
 clear a m n p o;refine zu zMw ?_;simp only[f47,zA]
 repeat' first|simp only[go_sem, *]|apply bc<;>intro q
 refine qH Heap.emp [(0,.st,true),(1,.no,true),(2,.no,true),(3,.st,true),(4,.st,true),(5,.no,true),(6,.no,true),(7,.no,true),(8,.no,true),(9,.no,true),(10,.no,true)] kr kr (λi A e=>by cases e) ?_
 repeat' first|simp only[go_sem, *]|apply bc<;>intro q
 refine kK _ (λH=>j H) ?_
 repeat' first|simp only[go_sem, *]|apply bc<;>intro q
 refine kK _ (λH=>d H) ?_;exact au
end
end Go.V
