/- Contracts of functions that the law reaches, part 2. No condition. -/
import Derived.Test.YthcjhnmnhfgdiaaGreatDoorW40
import Derived.Test.YthcjhnmnhfgdiaaGreatDoorW27
set_option linter.all false
set_option maxHeartbeats 8000000
namespace Go.V
open Go.Proofs.Tryz
open Go.Proofs
set_option maxRecDepth 100000
def Qr:∀ (n:Nat) {e:Ex},e.size<=n->e.Ok->e.size<=1048576->∀g:Heap,zA prog 61 [.agg e.cells] g λr h'=>h'=g/\r= .int .i64 (e.size:Int):=by
 intro n
 induction n with
 |zero=>intro e h;cases e;simp only[Ex.size] at h;omega
 |succ n y=>
 intro e H f o g;obtain⟨k,z,x,l,d⟩:=e;simp only[Ex.size,Ex.Ok] at H f o;obtain⟨u,L,_,_,j⟩:=f;have v:=uG u;have E:(Ex.mk k z x l d).size=zi l+1:=by simp only[Ex.size]
 rw[E];refine xO mix func61 zIo rfl rfl ?_;simp only[f61,gJ];simp only[Ex.cells,Ex.kind,Ex.name,Ex.exc,Ex.d]
 repeat' first|simp only[go_sem, *]|apply bc<;>intro F
 refine zC (λi fr h=>fr 1= .iptr [.int .i64 k, .str z, .str x,d] 0/\fr 4= .int .i64 (i:Int)/\fr 3= .int .i64 ((zi (l.take i)+1:Nat):Int)/\h=g) l.length ow ?_ ?_ ?_
 ·have J:zi (l.take 0)+1=1:=by simp[zi]
  simp only[go_sem,true_and,and_true,Int.ofNat_zero,J];rfl
 ·rintro i fr h c B K ⟨C,D,q,rfl⟩;have A:=rh u c;have m:l[i]∈l:=List.getElem_mem c;have w:=y (e:=l[i]) (by have:=yZ m;omega) (uF j _ m) (by have:=yZ m;omega);have p:zi (l.take (i+1))=zi (l.take i)+l[i].size:=by rw[List.take_succ_eq_append_getElem c,ou]
  have G:zi (l.take (i+1))<=zi l:=by
   have:=List.take_append_drop (i+1) l;have key:∀a b:List Ex,zi a<=zi (a++b):=λa b=>by
    induction a with
    |nil=>simp[zi]
    |cons x a y=>simp only[List.cons_append,zi];omega
   have s:=key (l.take (i+1)) (l.drop (i+1));rw[this] at s;exact s
  have t:IntKind.i64.wrap (((zi (l.take i)+1:Nat):Int)+(l[i].size:Int))=((zi (l.take (i+1))+1:Nat):Int):=by rw[p,zj ow ow];omega
  simp only[Ex.cells] at A w
  repeat' first|simp only[go_sem, *]|apply bc<;>intro F|(refine zA.mono (w _) ?_;rintro r h ⟨I,rfl⟩)
 ·rintro fr h B ⟨C,D,q,rfl⟩;rw[List.take_length] at q;exact au
variable {c:Cat}{d x:D}{fs:List Fac}{i sz k:Nat}{tk:Tk}{K:D->Heap->Prop}{xs:List (List D)}{ts:List Trm}{e:Ex}{α:Type}{U:Nat->Prop}{h:Heap}{b:Bool}
def UC (l:yu c d) (H:c.Sm) (C:zd 12 (nz fs) x) (N:fs.length<=1048576) (s:∀f∈fs,f.Ok0) (g:Heap):zA prog 26 [d,x] g λr h'=>h'=g/\∃b,r= .bool b/\(b=true->LU fs/\c.ls.length<=40):=by
 refine xP λQ E=> ?_;have hf:Q (.bool false) g:=E _ _ ⟨rfl,_,rfl,λq=>by cases q⟩;have k:LU fs/\c.ls.length<=40->∀b,Q (.bool b) g:=λR b=>E _ _ ⟨rfl,b,rfl,λ_=>R⟩;have O:=t7 C;have B:=LV l H C N s;have p:=H.cs;obtain⟨ca,cb,ce,cp,rfl,_,_,F,_⟩:=l;have L:=pS;have T:=pP F;have U:=p.1;have S:=isI;refine xO mix func26 zIs rfl rfl ?_;simp only[f26,gJ]
 repeat' first|simp only[go_sem, *]|apply bc<;>intro l
 refine(B _).mono ?_;rintro r h ⟨j,b,rfl,M⟩;subst j;cases b with
 |false=>
  repeat' first|simp only[go_sem, *]|apply bc<;>intro l
 |true=>
 have v:=M rfl;have k:=k v;have v:=v.1
 repeat' first|simp only[go_sem, *]|apply bc<;>intro l
 refine zC (λi fr h'=>fr 1=x/\fr 2= .iptr [ca,cb,ce,cp] 0/\fr 7= .int .i64 (i:Int)/\IsI (fr 5)/\IsI (fr 6)/\h'=h) c.cs.length ow ?_ ?_ ?_
 ·simp only[go_sem,true_and,and_true,Int.ofNat_zero,isI]
 ·rintro i fr h a z I ⟨m,A,J,⟨t,n⟩,⟨u,o⟩,j⟩;subst j;have w:=oC F a;have o1:=yL (p.2 _ (List.getElem_mem a)).1;generalize c.cs[i]=y at *
  simp only[Cla.cells] at w;exact au
 rintro fr h z ⟨m,A,J,⟨t,n⟩,⟨u,o⟩,j⟩;subst j
 repeat' first|simp only[go_sem, *]|apply bc<;>intro l
 refine zC (λi fr h'=>fr 1=x/\fr 8= .int .i64 (i:Int)/\IsI (fr 5)/\IsI (fr 6)/\h'=h) fs.length ow ?_ ?_ ?_
 ·simp only[go_sem,true_and,and_true,Int.ofNat_zero,isI,m,n,o]
 ·clear m A n o t u;rintro i fr h a z I ⟨m,K,⟨t,n⟩,⟨u,o⟩,j⟩;subst j;have w:=qd C a;have G:=List.getElem_mem a;have D:=Qr _ (Nat.le_refl _) (s _ G).e (by have:=v.2 _ G;omega);generalize fs[i]=f at *
  simp only[Fac.cells] at w;simp only[Ex.cells] at D
  repeat' first|simp only[go_sem, *]|apply bc<;>intro l|(refine zA.mono (D _) ?_;rintro r h ⟨P,rfl⟩)
 ·clear m A n o t u;rintro fr h z ⟨m,K,⟨t,n⟩,⟨u,o⟩,j⟩;subst j;exact au
def WQ (x y:Trm) (g:Heap):zA prog 389 [.agg x.cells, .agg y.cells] g λr h'=>h'=g/\∃b,r= .bool b:=by
 refine xP λQ c=> ?_;have a:∀b,Q (.bool b) g:=λb=>c _ _ ⟨rfl,b,rfl⟩;refine xO mix func389 zGK rfl rfl ?_;simp only[f389,gJ];simp only[Trm.cells];exact au
def HG (x:Trm) (nid:Nat) (h:Heap):zJ prog false nid 127 1 [(0, .agg [.str x.a, .str x.b])] h=some (.sl 2 [[.str x.a, .str x.b]] .full,h):=zy fL qw yt rfl rfl ow ow rfl rfl
def WR {l:List Trm} (a:zd 2 (yU l) d) (h:Heap):sD prog 127 d h=some (.int .i64 l.length):=by rw[ye a underlying127,yQ]
def RT {l:List Trm} (a:zd 2 (yU l) d) (b:i<l.length):zP prog 127 d (.int .i64 (i:Int))=some (.iptr l[i].cells 0):=zW a fL yt (gG b)
def OwT (G h:Heap) (d:D) (m:Nat):Prop:=∃ts,Own G h 2 (yU ts) d/\ts.length<=m
def aO (l:List Trm):∀x∈yU l,yh x:=λx a=>by
 obtain⟨y,_,rfl⟩:=List.mem_map.1 a;exact⟨rfl,by simp[Trm.cells,zh,below],by simp[Trm.cells,zx,z8]⟩
def OwT.app {G h:Heap} {m:Nat} {x:Trm} {w:HidR K} (i:OwT G h d m) (k:m<=1048576) (g:∀c h',OwT G h' c (m+1)->K c h'):K5 (zt prog false h.next 127 d (.sl 2 [[.str x.a, .str x.b]] tk) h) K w:=by
 obtain⟨f,h1,j⟩:=i;refine h1.appH (ys:=yU [x]) fL hA yt ow (wx _) (by simp[yU]) (by rw[yQ,rc];unfold lim;simp[yU];omega) (by rw[yQ];unfold lim;simp[yU];omega) λc h' e=> ?_;refine g c h' ⟨f++ [x],?_,by simp;omega⟩
 have:yU (f++ [x])=yU f++yU [x]:=by simp[yU]
 rw[this];exact e
def OwT.fin {G h:Heap} {m:Nat} (g:OwT G h d m):Ext G h/\below G.next (z8 d)/\∃a,Fin 2 (yU a) (z8 d)/\a.length<=m:=by
 obtain⟨a,h1,f⟩:=g;obtain⟨b,c,e⟩:=h1.fin (aO _);exact⟨b,c,a,e,f⟩
def zCO {l:List Trm} (E:zd 2 (yU l) d) (Y:l.length<=65536) (t:Trm) (g:Heap):zA prog 387 [d, .agg t.cells] g λr h'=>h'=g/\∃p,Fin 2 (yU p) r/\p.length<=l.length+1:=by
 refine xU kr λT=>xS ?_;refine xP λQ R=> ?_;have F:=WR E;have s:=WQ;have G:=HG;have f:∀d h,OwT g h d (l.length+1)->Q d h:=λd h j=>by
  obtain⟨K,L,p,v,M⟩:=j.fin;exact R _ _ ⟨K,L,p,v,M⟩
 have S:=Xe;simp only[Trm.cells] at s⊢;refine xO mix func387 zFa rfl rfl ?_;simp only[f387,gJ];simp only[go_sem, *];refine zC (λi fr h=>fr 0=d/\fr 3= .iptr [.str t.a, .str t.b] 0/\fr 7= .int .i64 (i:Int)/\∃b:Bool,fr 6= .bool b/\OwT g h (fr 5) (i+b.toNat)) l.length ow ?_ ?_ ?_
 ·have A:OwT g g .nilsl (0+false.toNat):=⟨[],Own.start (Ext.refl g) 2,by simp⟩;simp only[go_sem,true_and,and_true,Int.ofNat_zero];exact⟨false,rfl,A⟩
 ·rintro i fr h y I X ⟨J,v,O,b,N,j⟩;obtain⟨o,w⟩:∃o,fr 5=o:=⟨_,rfl⟩;rw[w] at j;have H:=RT E y;generalize l[i]=x at *
  simp only[Trm.cells] at H;simp only[go_sem, *];refine zM Heap.emp [(4, .no,false),(0, .no,false),(1, .no,false),(2, .no,false),(3, .no,false),(5, .no,false)] kr kr (λi C e=>by cases e) ?_;cases b with
  |true=>
   simp only[Bool.toNat_true] at j;cases B:(x.a==t.a&&x.b==t.b) with
   |_=>
    simp only[go_sem, *];refine zM Heap.emp [(0, .no,false),(1, .no,false),(2, .no,false),(3, .no,false),(4, .no,false),(5, .no,false),(6, .no,false),(7, .no,false),(8, .no,false),(9, .no,false)] kr kr (λi C e=>by cases e) ?_;simp only[go_sem, *];refine j.app ow λu h' c=> ?_;simp only[go_sem, *];exact⟨true,rfl,by simpa using c⟩
  |false=>
   simp only[Bool.toNat_false,Nat.add_zero] at j;have k:∀ {h d},OwT g h d (i+1)->∃b:Bool,(D.bool true)= .bool b/\OwT g h d (i+1+b.toNat):=λ⟨p,V,Z⟩=>⟨true,rfl,p,V,by simp;omega⟩;have m:∀ {h d},OwT g h d (i+1+1)->∃b:Bool,(D.bool true)= .bool b/\OwT g h d (i+1+b.toNat):=λq=>⟨true,rfl,q⟩;have n:∀ {h d},OwT g h d (i+1)->∃b:Bool,(D.bool false)= .bool b/\OwT g h d (i+1+b.toNat):=λq=>⟨false,rfl,q⟩;cases B:(x.a==t.a&&x.b==t.b) with
   |true=>
    simp only[go_sem, *];refine zM Heap.emp [(0, .no,false),(1, .no,false),(2, .no,false),(3, .no,false),(4, .no,false),(5, .no,false),(6, .no,false),(7, .no,false),(8, .no,false),(9, .no,false)] kr kr (λi C e=>by cases e) ?_;simp only[go_sem, *];refine j.app ow λu h' c=> ?_;have k:=k c;simp only[go_sem, *]
   |false=>
    simp only[go_sem, *];refine zM Heap.emp [(0, .no,false),(1, .no,false),(2, .no,false),(3, .no,false),(4, .no,false),(5, .no,false),(6, .no,false),(7, .no,false),(8, .no,false),(9, .no,false)] kr kr (λi C e=>by cases e) ?_;simp only[go_sem, *];refine(s _ _ _).mono ?_;rintro r P ⟨U,b,rfl⟩;subst U;cases b with
    |true=>
     simp only[go_sem, *];refine j.app ow λu h' c=> ?_;simp only[go_sem, *];refine c.app ow λW P z=> ?_;have m:=m z;simp only[go_sem, *]
    |false=>
     simp only[go_sem, *];refine j.app ow λu h' c=> ?_;have n:=n c;exact au
 ·rintro fr h I ⟨J,v,O,b,N,j⟩;obtain⟨o,w⟩:∃o,fr 5=o:=⟨_,rfl⟩;rw[w] at j;cases b with
  |true=>
   have f:=f _ _ j;simp only[go_sem, *]
  |false=>
   simp only[Bool.toNat_false,Nat.add_zero] at j;simp only[go_sem, *];refine j.app ow λu h' c=> ?_;have f:=f _ _ c;exact au
def Kj {a b:List Trm} {d e:D} (E:zd 2 (yU a) d) (F:zd 2 (yU b) e) (N:a.length+b.length<=65536) (g:Heap):zA prog 336 [d,e] g λr h'=>h'=g/\∃c,Fin 2 (yU c) r/\c.length<=a.length+b.length:=by
 refine xP λQ K=> ?_;have L:=yp E;have M:=yp F;have k:=λ(c:List Trm) (d:D) h1 A t h=>zCO (l:=c) (d:=d) h1 A t h;simp only[Trm.cells] at k;refine xO mix func336 zEW rfl rfl ?_;simp only[f336,gJ];simp only[go_sem, *];refine zC (λi fr h=>fr 0=d/\fr 1=e/\fr 6= .int .i64 (i:Int)/\h=g/\∃c,Fin 2 (yU c) (fr 5)/\c.length<=i) a.length ow ?_ ?_ ?_
 ·have s:∃c,Fin 2 (yU c) .nilsl/\c.length<=0:=⟨[], .inl ⟨rfl,rfl⟩,by simp⟩;simp only[go_sem,true_and,and_true,Int.ofNat_zero];exact s
 ·rintro i fr h p z G ⟨H,v,I,j,c,f,w⟩;subst j;obtain⟨o,m⟩:∃o,fr 5=o:=⟨_,rfl⟩;rw[m] at f;have y:=uH E p;have B:=k c o f.isSl ow a[i] h;generalize a[i]=x at *
  simp only[Trm.cells] at y;simp only[go_sem, *];refine B.mono ?_;rintro r A ⟨j,u,q,C⟩;subst j;have n:∃c,Fin 2 (yU c) r/\c.length<=i+1:=⟨u,q,by omega⟩;exact au
 rintro fr h z ⟨H,v,I,j,c,f,w⟩;subst j;obtain⟨o,m⟩:∃o,fr 5=o:=⟨_,rfl⟩;rw[m] at f;have s:∃c,Fin 2 (yU c) o/\c.length<=a.length+0:=⟨c,f,by omega⟩;simp only[go_sem, *];refine zC (λi fr h'=>fr 1=e/\fr 7= .int .i64 (i:Int)/\h'=h/\∃c,Fin 2 (yU c) (fr 5)/\c.length<=a.length+i) b.length ow ?_ ?_ ?_
 ·clear k;simp only[go_sem,true_and,and_true,Int.ofNat_zero,v,m];exact s
 ·rintro i fr h p z G ⟨v,J,j,c,f,w⟩;subst j;obtain⟨o,m⟩:∃o,fr 5=o:=⟨_,rfl⟩;rw[m] at f;have y:=uH F p;have B:=k c o f.isSl ow b[i] h;generalize b[i]=x at *
  simp only[Trm.cells] at y;simp only[go_sem, *];refine B.mono ?_;rintro r A ⟨j,u,q,C⟩;subst j;have n:∃c,Fin 2 (yU c) r/\c.length<=a.length+(i+1):=⟨u,q,by omega⟩;exact au
 ·rintro fr h z ⟨v,J,j,c,f,w⟩;subst j;obtain⟨o,m⟩:∃o,fr 5=o:=⟨_,rfl⟩;rw[m] at f;have n:=K o h ⟨rfl,c,f,w⟩;exact au
def zCP {l:List Trm} (j:zd 2 (yU l) d) (z:l.length<=1048576) (t:Trm) (g:Heap):zA prog 388 [d, .agg t.cells] g λr h'=>h'=g/\∃b,r= .bool b:=by
 refine xP λQ u=> ?_;have m:=WR j;have k:∀b,Q (.bool b) g:=λb=>u _ _ ⟨rfl,b,rfl⟩;have w:=Xe;simp only[Trm.cells];refine xO mix func388 zFx rfl rfl ?_;simp only[f388,gJ]
 repeat' first|simp only[go_sem, *]|apply bc<;>intro v
 refine zC (λi fr h=>fr 0=d/\fr 3= .iptr [.str t.a, .str t.b] 0/\fr 5= .int .i64 (i:Int)/\h=g) l.length ow ?_ ?_ ?_
 ·simp only[go_sem,true_and,and_true,Int.ofNat_zero]
 ·rintro i fr h c o y ⟨p,q,s,f⟩;subst f;have n:=RT j c;generalize l[i]=x at *
  simp only[Trm.cells] at n
  repeat' first|simp only[go_sem, *]|apply bc<;>intro v
  refine zM Heap.emp [(4, .no,false),(0, .no,false),(1, .no,false),(2, .no,false),(3, .no,false),(5, .no,false)] kr kr (λi A e=>by cases e) ?_;exact au
 ·rintro fr h o ⟨p,q,s,f⟩;subst f;exact au
def UD {a b:List Trm} {d e:D} (y:zd 2 (yU a) d) (k:zd 2 (yU b) e) (f:a.length<=1048576) (z:b.length<=1048576) (g:Heap):zA prog 337 [d,e] g λr h'=>h'=g/\∃b,r= .bool b:=by
 refine xP λQ u=> ?_;have n:=yp k;have l:∀b,Q (.bool b) g:=λb=>u _ _ ⟨rfl,b,rfl⟩;have m:=zCP y f;simp only[Trm.cells] at m;refine xO mix func337 zEs rfl rfl ?_;simp only[f337,gJ]
 repeat' first|simp only[go_sem, *]|apply bc<;>intro v
 refine zC (λi fr h=>fr 0=d/\fr 1=e/\fr 5= .int .i64 (i:Int)/\h=g) b.length ow ?_ ?_ ?_
 ·simp only[go_sem,true_and,and_true,Int.ofNat_zero]
 ·rintro i fr h j p A ⟨q,s,t,c⟩;subst c;have o:=uH k j;generalize b[i]=x at *
  simp only[Trm.cells] at o
  repeat' first|simp only[go_sem, *]|apply bc<;>intro v|(refine zA.mono (m _ _) ?_;rintro r h ⟨c,w,rfl⟩)
 ·rintro fr h p ⟨q,s,t,c⟩;subst c;exact au
def Qs {a b:List Trm} {d e:D} (o:zd 2 (yU a) d) (p:zd 2 (yU b) e) (F:a.length<=1048576) (G:b.length<=1048576) (g:Heap):zA prog 338 [d,e] g λr h'=>h'=g/\∃n,r= .int .i64 n:=by
 refine xP λQ C=> ?_;have s:=yp o;have k:=yp p;have q:∀b,Q (.int .i64 b) g:=λb=>C _ _ ⟨rfl,b,rfl⟩;have c:=WQ;simp only[Trm.cells] at c;refine xO mix func338 zFI rfl rfl ?_;simp only[f338,gJ];cases H:((a.length:Int)==(b.length:Int)) with
 |false=>
  repeat' first|simp only[go_sem, *]|apply bc<;>intro j
 |true=>
 have E:a.length<=b.length:=by have:=beq_iff_eq.1 H;omega
 repeat' first|simp only[go_sem, *]|apply bc<;>intro j
 refine zC (λi fr h=>fr 0=d/\fr 1=e/\fr 5= .int .i64 (i:Int)/\h=g) a.length ow ?_ ?_ ?_
 ·simp only[go_sem,true_and,and_true,Int.ofNat_zero]
 ·rintro i fr h l v J ⟨z,A,B,f⟩;subst f;have t:=uH o l;have u:=uH p (show i<b.length by omega);generalize a[i]=x at *
  generalize b[i]=y at *
  simp only[Trm.cells] at t u
  repeat' first|simp only[go_sem, *]|apply bc<;>intro j
  refine zM Heap.emp [(0, .no,false),(1, .no,false),(2, .no,false),(3, .no,false),(4, .no,false),(5, .no,false),(6, .no,false),(7, .no,false),(8, .no,false)] kr kr (λi I e=>by cases e) ?_
  repeat' first|simp only[go_sem, *]|apply bc<;>intro j|(refine zA.mono (c _ _ _) ?_;rintro r h ⟨m,w,rfl⟩)
  refine zM Heap.emp [(0, .no,false),(1, .no,false),(2, .no,false),(3, .no,false),(4, .no,false),(5, .no,false),(6, .no,false),(7, .no,false),(8, .no,false)] kr kr (λi I e=>by cases e) ?_
  repeat' first|simp only[go_sem, *]|apply bc<;>intro j|(refine zA.mono (c _ _ _) ?_;rintro r h ⟨m,w,rfl⟩)
 ·rintro fr h v ⟨z,A,B,f⟩;subst f;exact au
open List hiding max min map and or get le lt range extract
open Nat(zero_le le_refl le_trans lt_irrefl le_of_lt lt_of_lt_of_le lt_of_le_of_lt lt_succ_iff_lt_or_eq le_of_lt_succ)
structure AltB (m:Nat) (a:Alt):Prop where
 sl:zd 2 (yU a.ts) a.d
 len:a.ts.length<=m
 pl:yh [a.d]
def AltB.io {m:Nat} {a:Alt} (h:AltB m a):zd 2 (yU a.ts) a.d/\a.ts.length<=m:=⟨h.sl,h.len⟩
def AltB.mono {m n:Nat} {a:Alt} (h:AltB m a) (b:m<=n):AltB n a:=⟨h.sl,le_trans h.len b,h.pl⟩
def ru (h:Fin sz xs d) (b:∀x∈xs,yh x):yh [d]:=by
 rcases h with⟨rfl,_⟩ |rfl
 ·exact⟨rfl,by simp[zh,below],rfl⟩
 ·have a:=yG (sz:=sz) b .no;exact⟨rfl,by simp only[zh,and_true];exact a.2,by simp only[zx,a.1]⟩
def AltB.of {m:Nat} (h:Fin 2 (yU ts) d) (a:ts.length<=m):AltB m ⟨ts,d⟩:=⟨h.isSl,a,ru h (aO _)⟩
def Z8 {m:Nat} {a:Alt} (b:AltB m a) (nid:Nat) (h:Heap):zJ prog false nid 30 1 [(0,a.d)] h=some (.sl 1 [[a.d]] .full,h):=by
 obtain⟨k1,k2,k3⟩:=zI b.sl;exact n7 a.d nid h k1 k2 k3
theorem kx {m:Nat} {l:List Alt} (hd:zd 1 (zm l) d) (hl:l.length<=65536) (hm:m<=65536) (I:∀a∈l,zd 2 (yU a.ts) a.d/\a.ts.length<=m) (g:Heap):zA prog 270 [d] g λr h'=>h'=g/\∃l',Fin 1 (zm l') r/\l'.length<=l.length/\∀a∈l',AltB m a:=by
 refine xU kr λcp=>xS (zA.freezeOr ?_);have v:=qN hd;refine xP λQ T=> ?_;refine xO mix func270 zFS rfl rfl ?_;simp only[f270,gJ]
 repeat' first|simp only[go_sem, *]|apply bc<;>intro B
 refine zC (λi fr h=>fr 0=d/\fr 4= .int .i64 (i:Int)/\∃all,Own g h 1 (zm all) (fr 3)/\all.length=i/\∀a∈all,AltB m a) l.length ow ?_ ?_ ?_
 ·have u:∃all,Own g g 1 (zm all) .nilsl/\all.length=0/\∀a∈all,AltB m a:=⟨[],Own.start (Ext.refl g) 1,rfl,λa h=>by cases h⟩;clear T v;simp only[go_sem,true_and,and_true,Int.ofNat_zero];exact u
 ·rintro i fr h F ec ew ⟨f0,f4,all,q,E,f⟩;obtain⟨o,C⟩:∃o,fr 3=o:=⟨_,rfl⟩;rw[C] at q;have a1:=ue hd F;have ag:=I _ (getElem_mem F);have c3:=ag.2;have hj:=Kj (b:=[]) (e:= .nilsl) ag.1 (.inl ⟨rfl,rfl⟩) (by simp;omega);generalize l[i]=a at *
  obtain⟨k1,k2,k3⟩:=zI ag.1;clear T I hd
  repeat' first|simp only[go_sem, *]|apply bc<;>intro B
  refine(hj _).mono ?_;rintro r h2 ⟨K,ts,b1,cf⟩;subst K;have a5:=AltB.of (m:=m) b1 (by simp at cf;omega);have bk:=Z8 a5;obtain⟨q1,q2,q3⟩:=zI b1.isSl;clear hj
  repeat' first|simp only[go_sem, *]|apply bc<;>intro B
  refine q.appH (ys:=zm [⟨ts,r⟩]) yn wu yo ow (wE _) (by simp[zm]) (by rw[zZ,qS];unfold lim;simp[zm];omega) (by rw[zZ];unfold lim;simp[zm];omega) λd' h' ba=> ?_;have cm:∃al,Own g h' 1 (zm al) d'/\al.length=i+1/\∀a∈al,AltB m a:=⟨all++ [⟨ts,r⟩],by
   have:zm (all++ [⟨ts,r⟩])=zm all++zm [⟨ts,r⟩]:=by simp[zm]
   rw[this];exact ba,by simp[E],λx hx=>by
   rcases mem_append.1 hx with h1|h1
   ·exact f x h1
   ·cases mem_singleton.1 h1;exact a5⟩
  clear q ba f;exact au
 rintro fr G ec ⟨f0,f4,all,q,E,f⟩;obtain⟨o,C⟩:∃o,fr 3=o:=⟨_,rfl⟩;rw[C] at q;have hE:=q.1;have ad:=q.isSl;have cb:=qN ad;have cl:all.length<=l.length:=ow;clear q E
 repeat' first|simp only[go_sem, *]|apply bc<;>intro B
 refine zC (λi fr h=>fr 3=o/\fr 6= .int .i64 (i:Int)/\∃out,dH G h 1 (zm out) (fr 5)/\out.length<=i/\∀a∈out,AltB m a) all.length ow ?_ ?_ ?_
 ·have u:∃out,dH G G 1 (zm out) .nilsl/\out.length<=0/\∀a∈out,AltB m a:=⟨[],dH.start (Ext.refl G) 1,by simp,λa h=>by cases h⟩;clear T v;simp only[go_sem,true_and,and_true,Int.ofNat_zero,C];exact u
 ·clear C f0 f4 ec fr;rintro i fr h F ec ew ⟨C,X,out,q,N,p⟩;obtain⟨od,S⟩:∃o,fr 5=o:=⟨_,rfl⟩;rw[S] at q;obtain⟨z1,z2,z3⟩:=q.flat;have a1:=ue ad F;have z:=f _ (getElem_mem F);have b8:=z.len;have ca:=yp z.sl;have hB:=DF;clear T v hd I;obtain⟨L,a6⟩:∃a,all[i]=a:=⟨_,rfl⟩;rw[a6] at a1 z b8 ca
  repeat' first|simp only[go_sem, *]|apply bc<;>intro B
  refine zC (λk fr h'=>fr 3=o/\fr 6= .int .i64 (i:Int)/\fr 8= .int .i64 (k:Int)/\M7 (fr 7)/\fr 5=od/\h'=h) all.length ow ?_ ?_ ?_
  ·simp only[go_sem,true_and,and_true,Int.ofNat_zero,DF,C,X,S]
  ·clear C X S fr;rintro k fr h W b2 cv ⟨C,X,f8,⟨b7,f7⟩,S,K⟩;subst K;have a2:=ue ad W;have Y:=f _ (getElem_mem W);have cw:=Y.len;have c0:=yp Y.sl;have b4:=UD z.sl Y.sl ow ow;generalize all[k]=ak at *
   clear f p q N
   repeat' first|simp only[go_sem, *]|apply bc<;>intro B
   refine zM Heap.emp [(0, .no,false),(1, .no,false),(2, .no,false),(3, .no,false),(4, .no,false),(5, .no,false),(6, .no,false),(7, .no,false),(8, .no,false),(9, .no,false),(10, .no,false),(11, .no,false),(12, .no,false),(13, .no,false),(14, .no,false),(15, .no,false),(16, .no,false),(17, .no,false),(18, .no,false),(19, .no,false),(20, .no,false),(21, .no,false),(22, .no,false),(23, .no,false),(24, .no,false),(25, .no,false),(26, .no,false),(27, .no,false),(28, .no,false),(29, .no,false),(30, .no,false),(31, .no,false)] kr kr (λi ob e=>by cases e) ?_
   repeat' first|simp only[go_sem, *]|apply bc<;>intro B|(refine zA.mono (b4 _) ?_;rintro r h ⟨K,w,rfl⟩)
  rintro fr h2 b2 ⟨C,X,f8,⟨b7,f7⟩,S,K⟩;subst K;cases b7 with
  |false=>
   have u:∃out,dH G h2 1 (zm out) od/\out.length<=i+1/\∀a∈out,AltB m a:=⟨out,q,by omega,p⟩;clear f p q N
   repeat' first|simp only[go_sem, *]|apply bc<;>intro B
  |true=>
  have bk:=Z8 z h2.next h2;obtain⟨q1,q2,q3⟩:=zI z.sl;obtain⟨d',H,M,bb,cg⟩:=q.app (P:=prog) (ys:=zm [L]) (tk:= .full) yn wu yo ow (λcs=>dJ underlying128) (wE _) (wE _) (by simp[zm]) (by rw[zZ,qS];unfold lim;simp[zm];omega) (by rw[zZ];unfold lim;simp[zm];omega);have E:zm [L]= [[L.d]]:=rfl;have U:zm out++zm [L]=zm (out++ [L]):=by simp[zm]
  rw[U] at bb;rw[E] at M cg;have s:∀a∈out++ [L],AltB m a:=λx hx=>by
   rcases mem_append.1 hx with h1|h1
   ·exact p x h1
   ·cases mem_singleton.1 h1;exact z
  have cu:(out++ [L]).length<=i+1:=by simp;omega
  have bo:0<(out++ [L]).length:=by simp
  generalize out++ [L]=c at *
  obtain⟨b3,Z⟩:=bb;rcases Z with⟨_,e⟩ | ⟨id,rfl,y,hid,V,_⟩
  ·exact absurd bo (by rw[show c.length=(zm c).length from(zZ _).symm,e];simp)
  rw[zZ] at M;have a0:IntKind.i64.wrap ((c.length:Int)-1)=((c.length-1:Nat):Int):=by rw[zj ow ow];omega
  have cc:=λh=>tU (P:=prog) (t:=30) (sz:=1) (id:=id) (off:=0) (len:=c.length) (h:=h) underlying30;clear f p q N U
  repeat' first|simp only[go_sem, *]|apply bc<;>intro B
  refine yF (λj fr h=>fr 3=o/\fr 6= .int .i64 (i:Int)/\fr 9= .int .i64 ((c.length-1-j:Nat):Int)/\fr 5= .rs id 1 0 c.length/\∃xs,xs.length=c.length/\h=H.set id (.row (zm xs).flatten)/\∀a∈xs,AltB m a) (c.length-1) ?_ ?_
  ·have u:∃xs:List Alt,xs.length=c.length/\H=H.set id (.row (zm xs).flatten)/\∀a∈xs,AltB m a:=⟨c,rfl,(uY y).symm,s⟩;clear s a0 cc;simp only[go_sem,true_and,and_true,Int.ofNat_zero,C,X];exact⟨by rw[Nat.sub_zero],u⟩
  rintro j fr h hj ⟨C,X,f9,S,xs,a3,rfl,D⟩;have J:(H.set id (.row (zm xs).flatten)).at' id=some (.row (zm xs).flatten):=zD _ _ _;have aj:∃out,dH G (H.set id (.row (zm xs).flatten)) 1 (zm out) (.rs id 1 0 c.length)/\out.length<=i+1/\∀a∈out,AltB m a:=⟨xs,⟨b3.set hid _, .inr ⟨id,by rw[zZ,a3],J,hid,by rw[zT];exact V,λe=>by
   have:(zm xs).length=0:=by rw[e];rfl
   rw[zZ] at this;omega⟩⟩,by omega,D⟩
  obtain⟨k,hk⟩:∃k,c.length-1-j=k:=⟨_,rfl⟩;rw[hk] at f9;cases k with
  |zero=>
   have h0:decide (((0:Nat):Int)>0)=false:=rfl;clear s D a0 y M
   repeat' first|simp only[go_sem, *]|apply bc<;>intro B
   refine zM Heap.emp [(0, .no,false),(1, .no,false),(2, .no,false),(3, .no,false),(4, .no,false),(5, .no,false),(6, .no,false),(7, .no,false),(8, .no,false),(9, .no,false),(10, .no,false),(11, .no,false),(12, .no,false),(13, .no,false),(14, .no,false)] kr kr (λi ob e=>by cases e) ?_
   repeat' first|simp only[go_sem, *]|apply bc<;>intro B
  |succ k=>
   have h0:decide (((k+1:Nat):Int)>0)=true:=decide_eq_true ow;have c5:IntKind.i64.wrap (((k+1:Nat):Int)-1)=(k:Int):=by rw[zj ow ow];omega
   have a9:k+1<xs.length:=ow;have c1:(zm xs).flatten[k+1]? =some xs[k+1].d:=by rw[uc];simp[a9]
   have c2:(zm xs).flatten[k]? =some xs[k].d:=by rw[uc];simp[show k<xs.length by omega]
   have O:=D _ (getElem_mem a9);have R:=D _ (getElem_mem (show k<xs.length by omega));have i1:zP prog 30 (.rs id 1 0 c.length) (.int .i64 ((k+1:Nat):Int))=some (.ptr id (k+1)):=by
    have:=z6 (P:=prog) (sz:=1) (id:=id) yn yo (k:= .i64) (show k+1<c.length by omega)
    rwa [Nat.mul_one] at this
   have i2:zP prog 30 (.rs id 1 0 c.length) (.int .i64 (k:Int))=some (.ptr id k):=by
    have:=z6 (P:=prog) (sz:=1) (id:=id) yn yo (k:= .i64) (show k<c.length by omega)
    rwa [Nat.mul_one] at this
   have a7:=Qs O.sl R.sl (by have:=O.len;omega) (by have:=R.len;omega);have b5:(zm xs).flatten=xs.map Alt.d:=uc xs;have bx:((zm xs).flatten.set (k+1) xs[k].d).set k xs[k+1].d=(zm ((xs.set (k+1) xs[k]).set k xs[k+1])).flatten:=by rw[uc,uc,map_set,map_set]
   have bs:∀a∈(xs.set (k+1) xs[k]).set k xs[k+1],AltB m a:=λa ha=>by
    rcases mem_or_eq_of_mem_set ha with h1|rfl
    ·rcases mem_or_eq_of_mem_set h1 with h2|rfl
     ·exact D a h2
     ·exact R
    ·exact O
   have A:∀hh,hh=H.set id (.row (((zm xs).flatten.set (k+1) xs[k].d).set k xs[k+1].d))->(j<c.length-1/\∃ys:List Alt,ys.length=c.length/\hh=H.set id (.row (zm ys).flatten)/\∀a∈ys,AltB m a):=λhh e=>⟨by omega,_,by rw[length_set,length_set];exact a3,by rw[e,bx],bs⟩;have b9:c.length-1- (j+1)=k:=ow;obtain⟨u1,u2,u3⟩:=zI O.sl;obtain⟨v1,v2,v3⟩:=zI R.sl;have a8:(zm xs).flatten.length=c.length:=by rw[uc,length_map,a3]
   have ch:zQ prog 128 (.ptr id (k+1)) xs[k].d (H.set id (.row (zm xs).flatten))=some (H.set id (.row ((zm xs).flatten.set (k+1) xs[k].d))):=by
    rw[zR J yo ow v1 v3,pT]
   have ck:zQ prog 128 (.ptr id k) xs[k+1].d (H.set id (.row ((zm xs).flatten.set (k+1) xs[k].d)))=some (H.set id (.row (((zm xs).flatten.set (k+1) xs[k].d).set k xs[k+1].d))):=by
    rw[zR (zD _ _ _) yo (by rw[length_set];omega) u1 u3,pT]
   generalize xs[k+1]=x1 at *
   generalize xs[k]=x2 at *
   clear s D a0 y M bx bs b5 a8;generalize(zm xs).flatten=row at *
   repeat' first|simp only[go_sem, *]|apply bc<;>intro B
   refine zM Heap.emp [(0, .no,false),(1, .no,false),(2, .no,false),(3, .no,false),(4, .no,false),(5, .no,false),(6, .no,false),(7, .no,false),(8, .no,false),(9, .no,false),(10, .no,false),(11, .no,false),(12, .no,false),(13, .no,false),(14, .no,false)] kr kr (λi ob e=>by cases e) ?_
   repeat' first|simp only[go_sem, *]|apply bc<;>intro B
   refine(a7 _).mono ?_;rintro r h3 ⟨K,n,rfl⟩;subst K;cases hn:decide (n<0) with
   |false=>
    clear A ch ck b9
    repeat' first|simp only[go_sem, *]|apply bc<;>intro B
   |true=>
    clear aj a7
    repeat' first|simp only[go_sem, *]|apply bc<;>intro B
    have A:=A _ rfl;refine zU kr ?_;exact au
 ·rintro fr h ec ⟨C,X,out,q,N,p⟩;obtain⟨od,S⟩:∃o,fr 5=o:=⟨_,rfl⟩;rw[S] at q;obtain⟨a4,Z⟩:=q;rcases Z with⟨rfl,e⟩ | ⟨id,rfl,y,hid,V,c4⟩
  ·have K:=T .nilsl h (.inl ⟨hE.trans a4,by simp[z8,below],[], .inl ⟨rfl,rfl⟩,by simp,λa h=>by cases h⟩);clear T v hd I f p;exact au
  ·have b6:frz id (zm out).flatten (.rs id 1 0 (zm out).length)= .sl 1 (zm out) .no:=dM (rest:=[]) (wE _) rfl (by simp);have u:=yG (sz:=1) (xs:=zm out) (λx hx=>by
    obtain⟨a,ha,rfl⟩:=mem_map.1 hx;exact(p a ha).pl) .no
   have K:=T (.rs id 1 0 (zm out).length) h (.inr ⟨id,_,y,by
    rw[b6,u.1];exact⟨(hE.trans a4).del (by have:=hE.1;omega),z7 (zero_le _) _ u.2,out, .inr rfl,by omega,p⟩⟩)
   clear T v hd I f p;exact au
def WS {m:Nat} {a b:List Alt} {d e:D} (A:zd 1 (zm a) d) (B:zd 1 (zm b) e) (H:a.length+b.length<=65536) (E:m<=65536) (o:∀x∈a,zd 2 (yU x.ts) x.d/\x.ts.length<=m) (z:∀x∈b,zd 2 (yU x.ts) x.d/\x.ts.length<=m) (g:Heap):zA prog 271 [d,e] g λr h'=>h'=g/\∃k,Fin 1 (zm k) r/\k.length<=a.length+b.length/\∀x∈k,AltB m x:=by
 refine xU kr λt=> ?_;refine xP λQ y=> ?_;have c:∀h l d,Own g h 1 (zm l) d->l.length=a.length+b.length->(∀x∈l,zd 2 (yU x.ts) x.d/\x.ts.length<=m)->zA prog 270 [d] h λr h'=>Q r h':=λh l d s C j=>(kx (m:=m) s.isSl ow E j h).mono λr h' ⟨F,k,u,J,v⟩=>by
  subst F;refine y _ _ ⟨s.1,?_,k,u,by omega,v⟩;have:=ru u (λx j=>by
   obtain⟨a,o,rfl⟩:=mem_map.1 j;exact(v a o).pl)
  have n:=this.2.1;simp only[zh,and_true] at n;exact z7 (zero_le _) _ n
 have h0:=Own.start (Ext.refl g) 1;refine xO mix func271 zFp rfl rfl ?_;simp only[f271,gJ];simp only[go_sem, *];refine h0.appI (ys:=zm a) yn wu yo ow (wE _) A (by rw[zZ,qS];unfold lim;simp;omega) (by rw[zZ];unfold lim;simp;omega) λG h1 f=> ?_;rw[nil_append] at f;simp only[go_sem, *];refine f.appI (ys:=zm b) yn wu yo ow (wE _) B (by rw[zZ,zZ,qS];unfold lim;omega) (by rw[zZ,zZ];unfold lim;omega) λw n i=> ?_;have p:zm a++zm b=zm (a++b):=by simp[zm]
 rw[p] at i;have I:=c n (a++b) w i (by simp) (λx j=>by
  rcases mem_append.1 j with q|q
  ·exact o x q
  ·exact z x q)
 exact au
theorem CO {m n:Nat} {a b:List Alt} {d e:D} (M:zd 1 (zm a) d) (V:zd 1 (zm b) e) (N:a.length<=64) (O:b.length<=64) (hm:m+n<=65536) (H:∀x∈a,AltB m x) (hb:∀x∈b,AltB n x) (g:Heap):zA prog 272 [d,e] g λr h'=>h'=g/\∃G,Fin 1 (zm G) r/\G.length<=a.length*b.length/\∀x∈G,AltB (m+n) x:=by
 have L:a.length*b.length<=4096:=le_trans (Nat.mul_le_mul N O) ow;refine xU kr λX=> ?_;refine xP λQ T=> ?_;have p:∀h l d,Own g h 1 (zm l) d->l.length=a.length*b.length->(∀x∈l,AltB (m+n) x)->zA prog 270 [d] h λr h'=>Q r h':=λh l d j ak F=>(kx (m:=m+n) j.isSl ow hm (λx h=>(F x h).io) h).mono λr h' ⟨q1,G,S,q3,q4⟩=>by
  subst q1;refine T _ _ ⟨j.1,?_,G,S,by omega,q4⟩;have:=ru S (λx F=>by
   obtain⟨a,H,rfl⟩:=mem_map.1 F;exact(q4 a H).pl)
  have K:=this.2.1;simp only[zh,and_true] at K;exact z7 (zero_le _) _ K
 have P:=qN M;have R:=qN V;clear T;refine xO mix func272 zGE rfl rfl ?_;simp only[f272,gJ];simp only[go_sem, *];refine zC (λi fr h=>fr 0=d/\fr 1=e/\fr 6= .int .i64 (i:Int)/\∃all,Own g h 1 (zm all) (fr 5)/\all.length=i*b.length/\∀x∈all,AltB (m+n) x) a.length ow ?_ ?_ ?_
 ·have q:∃all,Own g g 1 (zm all) .nilsl/\all.length=0*b.length/\∀x∈all,AltB (m+n) x:=⟨[],Own.start (Ext.refl g) 1,by simp,λa h=>by cases h⟩;clear p;simp only[go_sem,true_and,and_true,Int.ofNat_zero];exact q
 ·rintro i fr h w ec ew ⟨y,z,A,all,j,f,c⟩;obtain⟨o,s⟩:∃o,fr 5=o:=⟨_,rfl⟩;rw[s] at j;have a1:=ue M w;have v:=H _ (getElem_mem w);have aj:i*b.length+b.length<=4096:=by rw[<-Nat.succ_mul];exact le_trans (Nat.mul_le_mul_right _ w) L
  generalize a[i]=ai at *
  obtain⟨k1,k2,k3⟩:=zI v.sl;have U:=v.len;have q:∃all,Own g h 1 (zm all) o/\all.length=i*b.length+0/\∀x∈all,AltB (m+n) x:=⟨all,j,f,c⟩;clear p H M j f c;simp only[go_sem, *];refine zC (λk fr h=>fr 0=d/\fr 1=e/\fr 6= .int .i64 (i:Int)/\fr 7= .int .i64 (k:Int)/\∃all,Own g h 1 (zm all) (fr 5)/\all.length=i*b.length+k/\∀x∈all,AltB (m+n) x) b.length ow ?_ ?_ ?_
  ·simp only[go_sem,true_and,and_true,Int.ofNat_zero,y,z,s,A];exact q
  ·clear y z s A q fr h;rintro k fr h u J ad ⟨y,z,A,f7,all,j,f,c⟩;obtain⟨o,s⟩:∃o,fr 5=o:=⟨_,rfl⟩;rw[s] at j;have a2:=ue V u;have B:=hb _ (getElem_mem u);have ag:=B.len;have W:=Kj v.sl B.sl ow;generalize b[k]=bk at *
   simp only[go_sem, *];refine zM Heap.emp [(0, .no,false),(1, .no,false),(2, .no,false),(3, .no,false),(4, .no,false),(5, .no,false),(6, .no,false),(7, .no,false),(8, .no,false),(9, .no,false),(10, .no,false),(11, .no,false),(12, .no,false)] kr kr (λi ob e=>by cases e) ?_;simp only[go_sem, *];refine(W _).mono ?_;rintro r K ⟨Z,I,E,a0⟩;subst Z;have t:=AltB.of (m:=m+n) E ow;have Y:=Z8 t;obtain⟨q1,S,q3⟩:=zI E.isSl;clear W;simp only[go_sem, *];refine j.appH (ys:=zm [⟨I,r⟩]) yn wu yo ow (wE _) (by simp[zm]) (by rw[zZ,qS];unfold lim;simp[zm];omega) (by rw[zZ];unfold lim;simp[zm];omega) λd' h' C=> ?_
   have p:∃al,Own g h' 1 (zm al) d'/\al.length=i*b.length+(k+1)/\∀a∈al,AltB (m+n) a:=⟨all++ [⟨I,r⟩],by
    have:zm (all++ [⟨I,r⟩])=zm all++zm [⟨I,r⟩]:=by simp[zm]
    rw[this];exact C,by simp;omega,λx F=>by
    rcases mem_append.1 F with h1|h1
    ·exact c x h1
    ·cases mem_singleton.1 h1;exact t⟩
   clear j C c f;exact au
  ·clear y z s A q fr h;rintro fr h J ⟨y,z,A,f7,all,j,f,c⟩;obtain⟨o,s⟩:∃o,fr 5=o:=⟨_,rfl⟩;rw[s] at j;have q:∃all,Own g h 1 (zm all) o/\all.length=(i+1)*b.length/\∀x∈all,AltB (m+n) x:=⟨all,j,by rw[Nat.succ_mul];exact f,c⟩;clear j f c;exact au
 ·rintro fr h ec ⟨y,z,A,all,j,f,c⟩;obtain⟨o,s⟩:∃o,fr 5=o:=⟨_,rfl⟩;rw[s] at j;have Z:=p h all o j f c;clear p j f c;exact au
def CP:∀ (n:Nat) {e:Ex},e.size<=n->e.Ok->e.size<=1048576->∀g:Heap,zA prog 332 [.agg e.cells] g λr h'=>h'=g/\IsI r:=by
 intro n
 induction n with
 |zero=>intro e h;cases e;simp only[Ex.size] at h;omega
 |succ n E=>
 intro e C c m g;refine xP λQ A=> ?_;have p:∀n,Q (.int .i64 n) g:=λn=>A _ _ ⟨rfl,n,rfl⟩;obtain⟨k,F,x,l,d⟩:=e;simp only[Ex.size,Ex.Ok] at C c m;obtain⟨o,I,_,_,f⟩:=c;have q:=uG o;have H:=isI;refine xO mix func332 zFH rfl rfl ?_;simp only[f332,gJ];simp only[Ex.cells,Ex.kind,Ex.name,Ex.exc,Ex.d]
 repeat' first|simp only[go_sem, *]|apply bc<;>intro B
 refine zC (λi fr h=>fr 1= .iptr [.int .i64 k, .str F, .str x,d] 0/\fr 4= .int .i64 (i:Int)/\IsI (fr 3)/\h=g) l.length ow ?_ ?_ ?_
 ·simp only[go_sem,true_and,and_true,Int.ofNat_zero,isI]
 ·rintro i fr h b t G ⟨u,y,⟨z,v⟩,a⟩;subst a;have s:=rh o b;have j:l[i]∈l:=List.getElem_mem b;have a:=E (e:=l[i]) (by have:=yZ j;omega) (uF f _ j) (by have:=yZ j;omega);simp only[Ex.cells] at s a
  repeat' first|simp only[go_sem, *]|apply bc<;>intro B|(refine zA.mono (a _) ?_;rintro r h ⟨D,w,rfl⟩)
 ·rintro fr h t ⟨u,y,⟨z,v⟩,a⟩;subst a;exact au
def HH:∀ (n:Nat) {e:Ex},e.size<=n->e.Ok->e.size<=1048576->∀g:Heap,zA prog 333 [.agg e.cells] g λr h'=>h'=g/\IsI r:=by
 intro n
 induction n with
 |zero=>intro e h;cases e;simp only[Ex.size] at h;omega
 |succ n E=>
 intro e D f p g;refine xP λQ C=> ?_;have s:∀n,Q (.int .i64 n) g:=λn=>C _ _ ⟨rfl,n,rfl⟩;obtain⟨k,F,x,l,d⟩:=e;simp only[Ex.size,Ex.Ok] at D f p;obtain⟨q,J,_,_,j⟩:=f;have t:=uG q;have H:=isI;refine xO mix func333 zFZ rfl rfl ?_;simp only[f333,gJ];simp only[Ex.cells,Ex.kind,Ex.name,Ex.exc,Ex.d];simp only[go_sem, *];refine zC (λi fr h=>fr 1= .iptr [.int .i64 k, .str F, .str x,d] 0/\fr 4= .int .i64 (i:Int)/\IsI (fr 3)/\h=g) l.length ow ?_ ?_ ?_
 ·simp only[go_sem,true_and,and_true,Int.ofNat_zero,isI]
 ·rintro i fr h b v G ⟨y,B,⟨z,A⟩,a⟩;subst a;have u:=rh q b;have m:l[i]∈l:=List.getElem_mem b;have a:=E (e:=l[i]) (by have:=yZ m;omega) (uF j _ m) (by have:=yZ m;omega);simp only[Ex.cells] at u a;simp only[go_sem, *];refine(a _).mono ?_;rintro r h ⟨o,w,rfl⟩;subst o;obtain⟨c,I⟩:=zBs z w;exact au
 ·rintro fr h v ⟨y,B,⟨z,A⟩,a⟩;subst a;exact au
def HI:∀ (n:Nat) {e:Ex},e.size<=n->e.Ok->e.size<=1048576->∀ {e2:Ex},e2.Ok->∀g:Heap,zA prog 329 [.agg e.cells, .agg e2.cells] g λr h'=>h'=g/\M7 r:=by
 intro n
 induction n with
 |zero=>intro e h;cases e;simp only[Ex.size] at h;omega
 |succ n R=>
 intro e N m y e2 a g;refine xP λQ K=> ?_;have B:∀n,Q (.bool n) g:=λn=>K _ _ ⟨rfl,n,rfl⟩;obtain⟨k,S,x,l,d⟩:=e;obtain⟨k2,z,T,p,F⟩:=e2;simp only[Ex.size,Ex.Ok] at N m y a;obtain⟨A,W,_,_,s⟩:=m;obtain⟨c,M,_,_,f⟩:=a;have C:=uG A;have t:=uG c;have V:=DF;refine xO mix func329 zGH rfl rfl ?_;simp only[f329,gJ];simp only[Ex.cells,Ex.kind,Ex.name,Ex.exc,Ex.d];cases O:((l.length:Int)==(p.length:Int)) with
 |false=>
  repeat' first|simp only[go_sem, *]|apply bc<;>intro q
 |true=>
 have L:l.length<=p.length:=by have:=beq_iff_eq.1 O;omega
 repeat' first|simp only[go_sem, *]|apply bc<;>intro q
 refine zC (λi fr h=>fr 2= .iptr [.int .i64 k, .str S, .str x,d] 0/\fr 3= .iptr [.int .i64 k2, .str z, .str T,F] 0/\fr 5= .int .i64 (i:Int)/\h=g) l.length ow ?_ ?_ ?_
 ·simp only[go_sem,true_and,and_true,Int.ofNat_zero]
 ·rintro i fr h j G U ⟨H,I,J,b⟩;subst b;have D:=rh A j;have E:=rh c (show i<p.length by omega);have u:l[i]∈l:=List.getElem_mem j;have v:p[i]'ow∈p:=List.getElem_mem ow;have o:=R (e:=l[i]) (by have:=yZ u;omega) (uF s _ u) (by have:=yZ u;omega) (uF f _ v);simp only[Ex.cells] at D E o
  repeat' first|simp only[go_sem, *]|apply bc<;>intro q
  refine zM Heap.emp [(0, .no,false),(1, .no,false),(2, .no,false),(3, .no,false),(4, .no,false),(5, .no,false),(6, .no,false),(7, .no,false),(8, .no,false),(9, .no,false),(10, .no,false),(11, .no,false)] kr kr (λi X e=>by cases e) ?_
  repeat' first|simp only[go_sem, *]|apply bc<;>intro q|(refine zA.mono (o _) ?_;rintro r h ⟨P,w,rfl⟩)
 ·rintro fr h G ⟨H,I,J,b⟩;subst b;exact au
def Kk (s:List UInt8) (c:s.length<=1048576) (g:Heap):zA prog 386 [.str s] g λr h'=>h'=g/\M7 r:=by
 refine xP λQ b=> ?_;have a:∀n,Q (.bool n) g:=λn=>b _ _ ⟨rfl,n,rfl⟩;have d:=pV s c;refine xO mix func386 zFK rfl rfl ?_;simp only[f386,gJ]
 repeat' first|simp only[go_sem, *]|apply bc<;>intro f|(refine zA.mono (d _) ?_;rintro r h ⟨e,w,rfl⟩)
mutual
def Ex.Kd:Ex->Prop
 | .mk k _ _ l _=>(0<=k/\k<=3)/\kdL l
def kdL:List Ex->Prop
 | []=>True
 |e::l=>e.Kd/\kdL l
end
theorem UE:∀ {l:List Ex},kdL l↔∀e∈l,e.Kd
 | []=>by simp[kdL]
 |x::l=>by simp[kdL,UE (l:=l)]
def CQ:∀ (n:Nat) {e:Ex},e.size<=n->e.Ok->e.size<=1048576->∀g:Heap,zA prog 334 [.agg e.cells] g λr h'=>h'=g/\∃n,r= .int .i64 n/\(n=0->e.Kd):=by
 intro n
 induction n with
 |zero=>intro e h;cases e;simp only[Ex.size] at h;omega
 |succ n R=>
 intro e t u D g;refine xP λQ F=> ?_;have a:∀n,(n==0)=false->Q (.int .i64 n) g:=λn t=>F _ _ ⟨rfl,n,rfl,λq=>by simp[q] at t⟩;have E:=a 1 rfl;have T:=a 2 rfl;obtain⟨k,I,x,l,d⟩:=e;simp only[Ex.size,Ex.Ok] at t u D;obtain⟨G,U,y,z,v⟩:=u;have H:=uG G;have B:=Kk I y;have C:=Kk x z;cases k1:decide (k<0) with
 |true=>
  refine xO mix func334 Em rfl rfl ?_;simp only[f334,gJ];simp only[Ex.cells,Ex.kind,Ex.name,Ex.exc,Ex.d]
  repeat' first|simp only[go_sem, *]|apply bc<;>intro o
 |false=>
 cases k2:decide (k>3) with
 |true=>
  refine xO mix func334 Em rfl rfl ?_;simp only[f334,gJ];simp only[Ex.cells,Ex.kind,Ex.name,Ex.exc,Ex.d]
  repeat' first|simp only[go_sem, *]|apply bc<;>intro o
 |false=>
 have b:(∀e∈l,e.Kd)->Q (.int .i64 0) g:=λO=>F _ _ ⟨rfl,0,rfl,λ_=>by
  rw[Ex.Kd];have:=of_decide_eq_false k1;have:=of_decide_eq_false k2;exact⟨by omega,UE.2 O⟩⟩
 refine xO mix func334 Em rfl rfl ?_;simp only[f334,gJ];simp only[Ex.cells,Ex.kind,Ex.name,Ex.exc,Ex.d]
 repeat' first|simp only[go_sem, *]|apply bc<;>intro o|(refine zA.mono (B _) ?_;rintro r h ⟨c,w,rfl⟩)|(refine zA.mono (C _) ?_;rintro r h ⟨c,w,rfl⟩)
 all_goals
  refine zC (λi fr h=>fr 1= .iptr [.int .i64 k, .str I, .str x,d] 0/\fr 3= .int .i64 (i:Int)/\h=g/\∀j (f:j<l.length),j<i->l[j].Kd) l.length ow ?_ ?_ ?_
  ·simp only[go_sem,true_and,and_true,Int.ofNat_zero];exact λj f h0=>by omega
  ·rintro i fr h s K S ⟨E,L,m,f⟩;subst m;have J:=rh G s;have A:l[i]∈l:=List.getElem_mem s;have m:=R (e:=l[i]) (by have:=yZ A;omega) (uF v _ A) (by have:=yZ A;omega);simp only[Ex.cells] at J m
   repeat' first|simp only[go_sem, *]|apply bc<;>intro o
   refine(m _).mono ?_;rintro r h ⟨c,w,rfl,P⟩;subst c;cases w0:(w==0) with
   |false=>
    have hf:=a w w0
    repeat' first|simp only[go_sem, *]|apply bc<;>intro o
   |true=>
    have t:∀j (f:j<l.length),j<i+1->l[j].Kd:=λj h1 M=>by
     rcases Nat.lt_succ_iff_lt_or_eq.1 M with h|rfl
     ·exact f j h1 h
     ·exact P (by simpa using w0)
    repeat' first|simp only[go_sem, *]|apply bc<;>intro o
    exact t
  ·rintro fr h K ⟨E,L,m,f⟩;subst m;have hf:=b λe N=>by
    obtain⟨j,p,rfl⟩:=List.mem_iff_getElem.1 N;exact f j p p
   exact au
def WT (a:e.Ok) (c:e.size<=1048576) (g:Heap):zA prog 268 [.agg e.cells] g λr h'=>h'=g/\∃n,r= .int .i64 n/\(n=0->e.Kd):=by
 refine xP λQ f=> ?_;have h1:=CP _ (Nat.le_refl _) a c;have i:=HH _ (Nat.le_refl _) a c;have h3:=CQ _ (Nat.le_refl _) a c;have l:Q (.int .i64 10) g:=f _ _ ⟨rfl,10,rfl,λq=>by cases q⟩;have m:Q (.int .i64 11) g:=f _ _ ⟨rfl,11,rfl,λq=>by cases q⟩;simp only[Ex.cells] at h1 i h3⊢;have d:∀n,(n=0->e.Kd)->Q (.int .i64 n) g:=λn j=>f _ _ ⟨rfl,n,rfl,j⟩;refine xO mix func268 zEn rfl rfl ?_;simp only[f268,gJ]
 repeat' first|simp only[go_sem, *]|apply bc<;>intro o|(refine zA.mono (h1 _) ?_;rintro r h ⟨b,w,rfl⟩)|(refine zA.mono (i _) ?_;rintro r h ⟨b,w,rfl⟩)
 refine(h3 _).mono ?_;rintro r h ⟨b,w,rfl,k⟩;subst b;have hf:=d w k;exact au
def HJ (f:yu c d) (z:c.Sm) (t:Trm) (g:Heap):zA prog 328 [d, .agg t.cells] g λr h'=>h'=g/\∃q b,r= .tuple [q, .bool b]:=by
 refine xP λQ y=> ?_;have m:∀q b,Q (.tuple [q, .bool b]) g:=λq b=>y _ _ ⟨rfl,q,b,rfl⟩;obtain⟨a,b,e,p,rfl,C,l,D,E⟩:=f;have n:=om l;have A:=z.es.1;simp only[Trm.cells];refine xO mix func328 zFv rfl rfl ?_;simp only[f328,gJ];cases h0:(t.b== []) with
 |true=>
  repeat' first|simp only[go_sem, *]|apply bc<;>intro f
 |false=>
 repeat' first|simp only[go_sem, *]|apply bc<;>intro f
 refine zC (λi fr h=>fr 2= .iptr [a,b,e,p] 0/\fr 3= .iptr [.str t.a, .str t.b] 0/\fr 6= .int .i64 (i:Int)/\h=g) c.es.length ow ?_ ?_ ?_
 ·simp only[go_sem,true_and,and_true,Int.ofNat_zero]
 ·rintro i fr h j s B ⟨u,v,w,k⟩;subst k;have o:=nu l j;generalize c.es[i]=x at *
  simp only[Exc.cells] at o
  repeat' first|simp only[go_sem, *]|apply bc<;>intro f
  refine zU kr ?_;exact au
 ·rintro fr h s ⟨u,v,w,k⟩;subst k;exact au
def HK (f:yu c d) (j:c.Sm) (t:Trm) (g:Heap):zA prog 335 [d, .agg t.cells] g λr h'=>h'=g/\M7 r:=by
 refine xP λQ m=> ?_;have l:∀b,Q (.bool b) g:=λb=>m _ _ ⟨rfl,b,rfl⟩;have h1:=t8 f j;have k:=oG f j t.a;have h3:=HJ f j t;obtain⟨a,b,e,p,rfl,s,u,v,x⟩:=f;simp only[Trm.cells] at h3⊢;generalize Zf _ _=z at k;refine xO mix func335 zGI rfl rfl ?_;simp only[f335,gJ]
 repeat' first|simp only[go_sem, *]|apply bc<;>intro f
 refine(h1 _).mono ?_;rintro r h ⟨o,n,rfl,_⟩;subst o
 repeat' first|simp only[go_sem, *]|apply bc<;>intro f|(refine zA.mono (k _) ?_;rintro r h ⟨i,rfl⟩)|(refine zA.mono (h3 _) ?_;rintro r h ⟨i,q,w,rfl⟩)
def Kl {v:D} (f:yu c v) (L:c.Sm):∀ (n:Nat) {e:Ex},e.size<=n->e.Ok->e.size<=1048576->∀g:Heap,zA prog 269 [v, .agg e.cells] g λr h'=>h'=g/\M7 r:=by
 intro n
 induction n with
 |zero=>intro e h;cases e;simp only[Ex.size] at h;omega
 |succ n N=>
 intro e K p u g;refine xP λQ H=> ?_;have z:∀n,Q (.bool n) g:=λn=>H _ _ ⟨rfl,n,rfl⟩;have m:=λa b=>HK f L ⟨a,b⟩;obtain⟨ca,cb,ce,cp,rfl,_,_,_,_⟩:=f;obtain⟨k,O,x,l,d⟩:=e;simp only[Ex.size,Ex.Ok] at K p u;obtain⟨y,R,I,J,q⟩:=p;have A:=uG y;have M:∀a b:List UInt8,yA prog 130 [(0, .str a),(1, .str b)]=some (.agg [.str a, .str b]):=λa b=>by simp[yA,uw,qw,qL,yV,D.notTuple,D.cells]
 simp only[Trm.cells] at m;refine xO mix func269 zFB rfl rfl ?_;simp only[f269,gJ];simp only[Ex.cells,Ex.kind,Ex.name,Ex.exc,Ex.d];cases h0:decide (k<2) with
 |true=>
  repeat' first|simp only[go_sem, *]|apply bc<;>intro f|(refine zA.mono (m _ _ _) ?_;rintro r h ⟨t,w,rfl⟩)
 |false=>
 repeat' first|simp only[go_sem, *]|apply bc<;>intro f
 refine zC (λi fr h=>fr 2= .iptr [ca,cb,ce,cp] 0/\fr 3= .iptr [.int .i64 k, .str O, .str x,d] 0/\fr 5= .int .i64 (i:Int)/\h=g) l.length ow ?_ ?_ ?_
 ·simp only[go_sem,true_and,and_true,Int.ofNat_zero]
 ·rintro i fr h o C P ⟨E,F,G,j⟩;subst j;have B:=rh y o;have s:l[i]∈l:=List.getElem_mem o;have j:=N (e:=l[i]) (by have:=yZ s;omega) (uF q _ s) (by have:=yZ s;omega);simp only[Ex.cells] at B j
  repeat' first|simp only[go_sem, *]|apply bc<;>intro f
  refine zM Heap.emp [(0, .no,false),(1, .no,false),(2, .no,false),(3, .no,false),(4, .no,false),(5, .no,false),(6, .no,false),(7, .no,false)] kr kr (λi S e=>by cases e) ?_
  repeat' first|simp only[go_sem, *]|apply bc<;>intro f|(refine zA.mono (j _) ?_;rintro r h ⟨t,w,rfl⟩)
 ·rintro fr h C ⟨E,F,G,j⟩;subst j;exact au
def WU {k:D} (a:yu c k) (p:c.Sm) (d:e.Ok) (f:e.size<=1048576) (g:Heap):zA prog 208 [k, .agg e.cells] g λr h'=>h'=g/\∃n,r= .int .i64 n/\(n=0->e.Kd):=by
 refine xP λQ i=> ?_;have v:Q (.int .i64 1) g:=i _ _ ⟨rfl,1,rfl,λq=>by cases q⟩;have x:Q (.int .i64 7) g:=i _ _ ⟨rfl,7,rfl,λq=>by cases q⟩;have h1:=t8 a p;have l:=WT d f;have h3:=Kl a p _ (Nat.le_refl _) d f;obtain⟨ca,cb,ce,cp,rfl,_,_,_,_⟩:=a;simp only[Ex.cells] at l h3⊢;have b:∀n,(n=0->e.Kd)->Q (.int .i64 n) g:=λn t=>i _ _ ⟨rfl,n,rfl,t⟩;refine xO mix func208 zFl rfl rfl ?_;simp only[f208,gJ]
 repeat' first|simp only[go_sem, *]|apply bc<;>intro a
 refine(h1 _).mono ?_;rintro r h ⟨j,n,rfl,_⟩;subst j;cases y:(n==0) with
 |false=>
  repeat' first|simp only[go_sem, *]|apply bc<;>intro a
 |true=>
 repeat' first|simp only[go_sem, *]|apply bc<;>intro a
 refine(l _).mono ?_;rintro r h ⟨j,m,rfl,o⟩;subst j;have hf:=b m o;cases m0:(m==0) with
 |false=>
  repeat' first|simp only[go_sem, *]|apply bc<;>intro a
 |true=>
 have s:=b 0 λ_=>o (by simpa using m0)
 repeat' first|simp only[go_sem, *]|apply bc<;>intro a|(refine zA.mono (h3 _) ?_;rintro r h ⟨u,w,rfl⟩)
def zDX (k:Int) (i n:Nat):Prop:=n<=64*i/\(k=2->n<=64)
def WV (m:Nat) (r:D):Prop:=∃q b,r= .tuple [q, .bool b]/\∃l,Fin 1 (zm l) q/\(b=true->l.length<=64)/\∀a∈l,AltB m a
def d7 {m:Nat} {l:List Alt} (h:∀a∈l,AltB m a):∀x∈zm l,yh x:=λx c=>by
 obtain⟨a,b,rfl⟩:=List.mem_map.1 c;exact(h a b).pl
def WV.pl {m:Nat} {r:D} (h:WV m r) (n:Nat):z8 r=r/\below n r:=by
 obtain⟨q,b,rfl,l,hf,_,c⟩:=h;obtain⟨h1,a,h3⟩:=ru hf (d7 c);simp only[zh,and_true] at a;simp only[zx,List.cons.injEq,and_true] at h3;exact⟨by simp[z8,zx,h3],by simp only[below,zh,and_true];exact z7 (Nat.zero_le _) _ a⟩
def WV.none (m:Nat):WV m (.tuple [.nilsl, .bool false]):=⟨.nilsl,false,rfl,[], .inl ⟨rfl,rfl⟩,(λq=>by cases q),(λa h=>by cases h)⟩
def HL (s x:List UInt8) (nid:Nat) (h:Heap):zJ prog false nid 128 1 [(0, .agg [.str s, .str x])] h=some (.sl 2 [[.str s, .str x]] .full,h):=zy yY qw yt rfl rfl ow ow rfl rfl
def HM {l:List Ex} (a:i<l.length):zi (l.take (i+1))=zi (l.take i)+l[i].size:=by rw[List.take_succ_eq_append_getElem a,ou]
def Z9 (l:List Ex) (i:Nat):zi (l.take i)<=zi l:=by
 have a:=lI (l.take i) (l.drop i);rw[List.take_append_drop] at a;omega
theorem CR {D0:D} (hc:yu c D0) (hs:c.Sm) (ai:c.ls.length<=40):∀ (n:Nat) {e:Ex},e.size<=n->e.Ok->e.Kd->e.size<=120->∀g:Heap,zA prog 209 [D0, .agg e.cells] g λr h'=>h'=g/\WV e.size r:=by
 intro n
 induction n with
 |zero=>intro e h;cases e;simp only[Ex.size] at h;omega
 |succ n ih=>
 intro e hn Y T a8 g;refine xU kr λbo=>xS ?_;refine xP λQ hQ=> ?_;have a3:=bp hc hs ai;obtain⟨ca,cb,ce,cp,rfl,_,_,_,_⟩:=hc;obtain⟨k,nm,x,l,d⟩:=e;have hR:(Ex.mk k nm x l d).size=zi l+1:=by simp only[Ex.size]
 rw[hR] at hQ hn a8;simp only[Ex.Ok,Ex.Kd] at Y T;obtain⟨hd,hl,_,_,a2⟩:=Y;obtain⟨⟨b1,b2⟩,a0⟩:=T;have I:∀r h,Ext g h->WV (zi l+1) r->Q r h:=λr h N hr=>hQ _ _ ⟨N,by rw[(hr.pl 0).1];exact(hr.pl _).2,by rw[(hr.pl 0).1];exact hr⟩;have C:=λh N=>I _ h N (WV.none _);have bk:=uG hd;have b9:∀a b:List UInt8,yA prog 130 [(0, .str a),(1, .str b)]=some (.agg [.str a, .str b]):=λa b=>by simp[yA,uw,qw,qL,yV,D.notTuple,D.cells]
 have bs:∀a:List UInt8,yA prog 130 [(0, .str a)]=some (.agg [.str a, .str []]):=λa=>by simp[yA,uw,qw,qL,yV,D.notTuple,D.cells]
 have b6:=HL;have b7:=λs x nid h=>n7 (.sl 2 [[.str s, .str x]] .full) nid h rfl rfl rfl;cases k0:(k==0) with
 |true=>
  have f:Q (.tuple [.sl 1 [[.sl 2 [[.str nm, .str x]] .full]] .full, .bool true]) g:=hQ _ _ ⟨Ext.refl g,by simp[z8,zx,sx,below,zh,sR],by
   refine⟨.sl 1 (zm [mkA [⟨nm,x⟩]]) .no,true,by simp[z8,zx,sx,zm,mkA,yU,Trm.cells],_, .inr rfl,λ_=>by simp,λa ha=> ?_⟩;cases List.mem_singleton.1 ha;exact⟨.inr ⟨_,rfl⟩,by simp[mkA],lQ _⟩⟩
  refine xO mix func209 Es rfl rfl ?_;simp only[f209,gJ];simp only[Ex.cells,Ex.kind,Ex.name,Ex.exc,Ex.d];simp only[go_sem, *]
 |false=>
 cases k1:(k==1) with
 |true=>
  refine xO mix func209 Es rfl rfl ?_;simp only[f209,gJ];simp only[Ex.cells,Ex.kind,Ex.name,Ex.exc,Ex.d];simp only[go_sem, *];refine(a3 _ _).mono ?_;rintro r h ⟨f,ps,q,m,rfl,ad,b8⟩;subst f;have b5:=yL ad;simp only[go_sem, *];refine zC (λi fr h'=>fr 7=q/\fr 9= .int .i64 (i:Int)/\∃all,Own h h' 1 (zm all) (fr 6)/\all.length=i/\∀a∈all,zd 2 (yU a.ts) a.d/\a.ts.length<=zi l+1) ps.length ow ?_ ?_ ?_
  ·have u:∃all,Own h h 1 (zm all) .nilsl/\all.length=0/\∀a∈all,zd 2 (yU a.ts) a.d/\a.ts.length<=zi l+1:=⟨[],Own.start (Ext.refl h) 1,rfl,λa h=>by cases h⟩;simp only[go_sem,true_and,and_true,Int.ofNat_zero];exact u
  ·rintro i fr h2 B ec ew ⟨f7,f9,all,p,J,A⟩;obtain⟨o,H⟩:∃o,fr 6=o:=⟨_,rfl⟩;rw[H] at p;have a1:=wD ad B;generalize ps[i]=s at *
   simp only[go_sem, *];refine p.appH (ys:=zm [⟨[⟨s,[]⟩], .sl 2 [[.str s, .str []]] .full⟩]) yn wu yo ow (wE _) (by simp[zm]) (by rw[zZ,qS];unfold lim;simp[zm];omega) (by rw[zZ];unfold lim;simp[zm];omega) λd' h' a7=> ?_;have bb:∃al,Own h h' 1 (zm al) d'/\al.length=i+1/\∀a∈al,zd 2 (yU a.ts) a.d/\a.ts.length<=zi l+1:=⟨all++ [⟨[⟨s,[]⟩], .sl 2 [[.str s, .str []]] .full⟩],by
    have:∀z:Alt,zm (all++ [z])=zm all++zm [z]:=λz=>by simp[zm]
    rw[this];exact a7,by simp[J],λx hx=>by
    rcases List.mem_append.1 hx with h1|h1
    ·exact A x h1
    ·cases List.mem_singleton.1 h1;exact⟨.inr ⟨_,rfl⟩,by simp⟩⟩
   exact au
  ·rintro fr h2 ec ⟨f7,f9,all,p,J,A⟩;obtain⟨o,H⟩:∃o,fr 6=o:=⟨_,rfl⟩;rw[H] at p;have a6:=kx (m:=zi l+1) p.isSl ow ow A;have W:=qN p.isSl;rw[J] at W;have N:=p.1;have ba:all.length<=ps.length:=ow;simp only[go_sem, *];refine(a6 _).mono ?_;rintro r h3 ⟨f,l',hf,b3,aj⟩;subst f;have f:=I (.tuple [r, .bool (decide ((ps.length:Int)<=64))]) h3 N ⟨r,_,rfl,l',hf,λq=>by have:=of_decide_eq_true q;omega,aj⟩;simp only[go_sem, *]
 |false=>
 have hk:k=2\/k=3:=by
  have h0:k≠0:=by simpa using k0
  have h1:k≠1:=by simpa using k1
  omega
 have b4:l.length<=120:=by
  have:∀l:List Ex,l.length<=zi l:=λl=>by
   induction l with
   |nil=>simp
   |cons e l ih=>simp only[zi,List.length_cons];cases e;simp only[Ex.size];omega
  have:=this l;omega
 have U:∀i (hi:i<l.length) g,zA prog 209 [.agg [ca,cb,ce,cp], .agg l[i].cells] g λr h'=>h'=g/\WV l[i].size r:=λi hi=>by
  have hm:=List.getElem_mem hi;have:=yZ hm;exact ih ow (uF a2 _ hm) (UE.1 a0 _ hm) ow
 refine xO mix func209 Es rfl rfl ?_;simp only[f209,gJ];simp only[Ex.cells,Ex.kind,Ex.name,Ex.exc,Ex.d];simp only[go_sem, *];refine zC (λi fr h=>fr 2= .iptr [ca,cb,ce,cp] 0/\fr 3= .iptr [.int .i64 k, .str nm, .str x,d] 0/\fr 10= .int .i64 (i:Int)/\h=g/\∃out,Fin 1 (zm out) (fr 6)/\zDX k i out.length/\∀a∈out,AltB (zi (l.take i)) a) l.length ow ?_ ?_ ?_
 ·have u:∃out,Fin 1 (zm out) .nilsl/\zDX k 0 out.length/\∀a∈out,AltB (zi (l.take 0)) a:=⟨[], .inl ⟨rfl,rfl⟩,⟨by simp,λ_=>by simp⟩,λa h=>by cases h⟩;simp only[go_sem,true_and,and_true,Int.ofNat_zero];exact u
 ·rintro i fr h B ec ew ⟨f2,f3,ag,f,out,p,F,j⟩;subst f;obtain⟨o,H⟩:∃o,fr 6=o:=⟨_,rfl⟩;rw[H] at p;have a1:=rh hd B;have S:=U i B;have a9:=HM B;have a4:=Z9 l (i+1);have C:=C h (Ext.refl h);generalize l[i]=y at *
  simp only[Ex.cells] at a1 S;rw[a9] at a4⊢;simp only[go_sem, *];refine zM Heap.emp [(0, .no,false),(1, .no,false),(2, .no,false),(3, .no,false),(4, .no,false),(5, .no,false),(6, .no,false),(7, .no,false),(8, .no,false),(9, .no,false),(10, .no,false),(11, .no,false)] kr kr (λi ob e=>by cases e) ?_;simp only[go_sem, *];refine(S _).mono ?_;rintro r h2 ⟨f,q,b,rfl,l2,L,M,O⟩;subst f;cases b with
  |false=>
   simp only[go_sem, *]
  |true=>
  have M:=M rfl;have E:∀a∈out,AltB (zi (l.take i)+y.size) a:=λa h=>(j a h).mono ow;have G:∀a∈l2,AltB (zi (l.take i)+y.size) a:=λa h=>(O a h).mono ow;rcases hk with rfl|rfl
  ·have X:out.length<=64:=F.2 rfl;have P:∀r v,Fin 1 (zm v) r->(∀a∈v,AltB (zi (l.take i)+y.size) a)->v.length<=64->∃out,Fin 1 (zm out) r/\zDX 2 (i+1) out.length/\∀a∈out,AltB (zi (l.take i)+y.size) a:=λr v q1 q2 q3=>⟨v,q1,⟨by omega,λ_=>q3⟩,q2⟩;cases i0:((i:Int)==0) with
   |true=>
    have bx:i<=0:=by have:=beq_iff_eq.1 i0;omega
    have Z:=F.1;have K:=WS (m:=zi (l.take i)+y.size) p.isSl L.isSl ow ow (λa h=>(E a h).io) (λa h=>(G a h).io);simp only[go_sem, *];refine(K _).mono ?_;rintro r h3 ⟨f,v,t,V,w⟩;subst f;have u:=P r v t w ow;have a5:=qN t.isSl;have R:decide ((v.length:Int)>64)=false:=decide_eq_false ow;simp only[go_sem, *]
   |false=>
    have ak:=CO (m:=zi (l.take i)) (n:=y.size) p.isSl L.isSl X M ow j O;simp only[go_sem, *];refine(ak _).mono ?_;rintro r h3 ⟨f,v,t,V,w⟩;subst f;have a5:=qN t.isSl;cases R:decide ((v.length:Int)>64) with
    |true=>
     simp only[go_sem, *]
    |false=>
     have u:=P r v t w (by have:=of_decide_eq_false R;omega);exact au
  ·have Z:=F.1;have K:=WS (m:=zi (l.take i)+y.size) p.isSl L.isSl ow ow (λa h=>(E a h).io) (λa h=>(G a h).io);simp only[go_sem, *];refine(K _).mono ?_;rintro r h3 ⟨f,v,t,V,w⟩;subst f;have u:∃out,Fin 1 (zm out) r/\zDX 3 (i+1) out.length/\∀a∈out,AltB (zi (l.take i)+y.size) a:=⟨v,t,⟨by omega,λq=>by cases q⟩,w⟩;exact au
 ·rintro fr h ec ⟨f2,f3,ag,f,out,p,F,j⟩;subst f;obtain⟨o,H⟩:∃o,fr 6=o:=⟨_,rfl⟩;rw[H] at p;have W:=qN p.isSl;rw[List.take_length] at j;have f:=I (.tuple [o, .bool (decide ((out.length:Int)<=64))]) h (Ext.refl h) ⟨o,_,rfl,out,p,λq=>by have:=of_decide_eq_true q;omega,λa h=>(j a h).mono ow⟩;exact au
def OfR (r:D):Prop:=∃q n,r= .tuple [q, .int .i64 n]/\∃l m,Fin 1 (zm l) q/\l.length<=64/\∀a∈l,AltB m a
def zGm {s:D} (m:yu c s) (u:c.Sm) (k:c.ls.length<=40) (j:e.Ok) (p:e.size<=120) (g:Heap):zA prog 137 [s, .agg e.cells] g λr h'=>h'=g/\OfR r:=by
 refine xP λQ t=> ?_;have h1:=WU m u j ow;have d:=λw=>CR m u k _ (Nat.le_refl _) j w p;obtain⟨ca,cb,ce,cp,rfl,_,_,_,_⟩:=m;have i:∀n,Q (.tuple [.nilsl, .int .i64 n]) g:=λn=>t _ _ ⟨rfl, .nilsl,n,rfl,[],0, .inl ⟨rfl,rfl⟩,by simp,λa h=>by cases h⟩;have f:∀q l,Fin 1 (zm l) q->l.length<=64->(∀a∈l,AltB e.size a)->Q (.tuple [q, .int .i64 0]) g:=λq l h1 d h3=>t _ _ ⟨rfl,q,0,rfl,l,_,h1,d,h3⟩;simp only[Ex.cells] at h1 d⊢;refine xO mix func137 zE3 rfl rfl ?_;simp only[f137,gJ];simp only[go_sem, *];refine(h1 _).mono ?_;rintro r h ⟨o,n,rfl,y⟩;subst o;cases A:(n==0) with
 |false=>
  have z:=i n;simp only[go_sem, *]
 |true=>
 have d:=d (y (by simpa using A));simp only[go_sem, *];refine(d _).mono ?_;rintro r h ⟨o,q,b,rfl,l,hf,x,v⟩;subst o;cases b with
 |false=>
  simp only[go_sem, *]
 |true=>
  have hf:=f q l hf (x rfl) v;exact au
def OwS (s:List UInt8) (G h:Heap) (d:D) (m:Nat):Prop:=∃ps,Own G h 1 (yS ps) d/\ps.length<=m/\∀p∈ps,p.length<=s.length
def OwS.app {s x:List UInt8} {G h:Heap} {m:Nat} {w:HidR K} (f:OwS s G h d m) (k:m<=2097152) (i:x.length<=s.length) (e:∀a h',OwS s G h' a (m+1)->K a h'):K5 (zt prog false h.next 31 d (.sl 1 [[.str x]] tk) h) K w:=by
 obtain⟨c,h1,j,h3⟩:=f;refine h1.appH (ys:=yS [x]) yv jN uW ow (by simp[yS]) (by simp[yS]) (by rw[zz,tF];unfold lim;simp[yS];omega) (by rw[zz];unfold lim;simp[yS];omega) λa h' b=> ?_;refine e a h' ⟨c++ [x],?_,by simp;omega,λp g=> ?_⟩
 ·have:yS (c++ [x])=yS c++yS [x]:=by simp[yS]
  rw[this];exact b
 ·rcases List.mem_append.1 g with q|q
  ·exact h3 p q
  ·cases List.mem_singleton.1 q;exact i
def HN (s:List UInt8) (V:s.length<=1048576) (b:Int) (g:Heap):zA prog 330 [.str s, .int .u8 b] g λr h'=>h'=g/\∃v,Fin 1 (yS v) r/\v.length<=s.length+1/\∀p∈v,p.length<=s.length:=by
 refine xU kr λC=>xS ?_;refine xP λQ E=> ?_;have F:∀h,sD prog 9 (.str s) h=some (.int .i64 s.length):=λh=>qj underlying9;have a:∀d h,OwS s g h d (s.length+1)->Q d h:=λd h ⟨v,h1,A,h3⟩=>by
  obtain⟨y,K,L⟩:=h1.fin qT;exact E _ _ ⟨y,K,v,L,A,h3⟩
 have G:=p8;have l:∀ (u w:Nat),u<=w->w<=s.length->∀h,∃x,yi prog 9 (.str s) (some (.int .i64 (u:Int))) (some (.int .i64 (w:Int))) none h=some (.str x)/\x.length<=s.length:=λu w h1 A h=>⟨_,M6 h1 A h,by simp;omega⟩;have c:∀ (u:Nat),u<=s.length->∀h,∃x,yi prog 9 (.str s) (some (.int .i64 (u:Int))) none none h=some (.str x)/\x.length<=s.length:=λu h1 h=>⟨_,G7 h1 h,by simp⟩;clear E C;refine xO mix func330 zEV rfl rfl ?_;simp only[f330,gJ];simp only[go_sem, *]
 refine zC (λi fr h=>fr 0= .str s/\fr 1= .int .u8 b/\fr 7= .int .i64 (i:Int)/\∃st:Nat,fr 6= .int .i64 (st:Int)/\st<=i/\OwS s g h (fr 5) i) s.length ow ?_ ?_ ?_
 ·have f:OwS s g g .nilsl 0:=⟨[],Own.start (Ext.refl g) 1,by simp,λp h=>by cases h⟩;clear a l c;simp only[go_sem,true_and,and_true,Int.ofNat_zero];exact⟨0,rfl,by omega,f⟩
 ·rintro i fr h B I T ⟨J,y,N,st,M,f,k⟩;obtain⟨o,z⟩:∃o,fr 5=o:=⟨_,rfl⟩;rw[z] at k;have S:tJ prog 9 (.str s) (.int .i64 (i:Int))=some (.int .u8 s[i].toNat):=wO underlying9 (List.getElem?_eq_getElem B);obtain⟨x,O,t⟩:=l st i f ow h;have m:∀ {o:D} {h:Heap},OwS s g h o i->∃j:Nat,D.int .i64 (st:Int)= .int .i64 (j:Int)/\j<=i+1/\OwS s g h o (i+1):=λ⟨v,P,W,R⟩=>⟨st,rfl,by omega,v,P,by omega,R⟩;have n:∀ {o:D} {h:Heap},OwS s g h o (i+1)->∃j:Nat,D.int .i64 ((i+1:Nat):Int)= .int .i64 (j:Int)/\j<=i+1/\OwS s g h o (i+1):=λq=>⟨i+1,rfl,by omega,q⟩;clear a l c;cases U:((s[i].toNat:Int)==b) with
  |true=>
   clear m;simp only[go_sem, *];refine k.app ow t λH h' e=> ?_;have n:=n e;clear k e;simp only[go_sem, *]
  |false=>
   have m:=m k;clear n k;exact au
 ·rintro fr h I ⟨J,y,N,st,M,f,k⟩;obtain⟨o,z⟩:∃o,fr 5=o:=⟨_,rfl⟩;rw[z] at k;obtain⟨x,O,t⟩:=c st f h;clear l c;simp only[go_sem, *];refine k.app ow t λH h' e=> ?_;have a:=a _ _ e;clear k e;exact au
def CS (s:List UInt8) (t:s.length<=1048576) (g:Heap):zA prog 331 [.str s] g λr h'=>h'=g/\M7 r:=by
 refine xP λQ k=> ?_;have c:∀b,Q (.bool b) g:=λb=>k _ _ ⟨rfl,b,rfl⟩;have d:∀h,sD prog 9 (.str s) h=some (.int .i64 s.length):=λh=>qj underlying9;refine xO mix func331 zEr rfl rfl ?_;simp only[f331,gJ];cases h0:decide ((s.length:Int)<1) with
 |true=>
  repeat' first|simp only[go_sem, *]|apply bc<;>intro l
 |false=>
  have j:=of_decide_eq_false h0;have m:0<s.length:=ow;have o:tJ prog 9 (.str s) (.int .i64 0)=some (.int .u8 s[0].toNat):=wO (n:=0) underlying9 (List.getElem?_eq_getElem m);generalize s[0]=z at *
  repeat' first|simp only[go_sem, *]|apply bc<;>intro l
  refine zC (λi fr h=>fr 0= .str s/\fr 3= .int .i64 (i:Int)/\h=g) s.length ow ?_ ?_ ?_
  ·simp only[go_sem,true_and,and_true,Int.ofNat_zero]
  ·rintro i fr h a e1 q ⟨e,f,rfl⟩;have p:tJ prog 9 (.str s) (.int .i64 (i:Int))=some (.int .u8 s[i].toNat):=wO underlying9 (List.getElem?_eq_getElem a);generalize s[i]=y at *
   exact au
  ·rintro fr h e1 ⟨e,f,rfl⟩;exact au
def Km (s:List UInt8) (u:s.length<=1048576) (g:Heap):zA prog 267 [.str s] g λr h'=>h'=g/\IsI r:=by
 refine xP λQ t=> ?_;have p:∀b,Q (.int .i64 b) g:=λb=>t _ _ ⟨rfl,b,rfl⟩;have q:∀h,sD prog 9 (.str s) h=some (.int .i64 s.length):=λh=>qj underlying9;have n:=HN s u 47;refine xO mix func267 zER rfl rfl ?_;simp only[f267,gJ]
 repeat' first|simp only[go_sem, *]|apply bc<;>intro o
 refine(n _).mono ?_;rintro r h ⟨d,e,hf,x,l⟩;subst d;have c:=hf.isSl;have v:=yL c
 repeat' first|simp only[go_sem, *]|apply bc<;>intro o
 refine zC (λi fr h'=>fr 14=r/\fr 15= .int .i64 (e.length:Int)/\fr 16= .int .i64 (i:Int)/\h'=h) e.length ow ?_ ?_ ?_
 ·simp only[go_sem,true_and,and_true,Int.ofNat_zero]
 ·rintro i fr h a e1 B ⟨f,j,k,d⟩;subst d;have A:=wD c a;have m:=CS e[i] (by have:=l _ (List.getElem_mem a);omega);generalize e[i]=y at *
  repeat' first|simp only[go_sem, *]|apply bc<;>intro o|(refine zA.mono (m _) ?_;rintro r h ⟨z,w,rfl⟩)
 ·rintro fr h e1 ⟨f,j,k,d⟩;subst d;exact au
def zCQ (k:Int):k=0\/k=1\/k=2\/k=3\/k=4\/((k==0)=false/\(k==1)=false/\(k==2)=false/\(k==3)=false/\(k==4)=false):=by
 by_cases h0:k=0
 ·exact .inl h0
 by_cases h1:k=1
 ·exact .inr (.inl h1)
 by_cases a:k=2
 ·exact .inr (.inr (.inl a))
 by_cases h3:k=3
 ·exact .inr (.inr (.inr (.inl h3)))
 by_cases b:k=4
 ·exact .inr (.inr (.inr (.inr (.inl b))))
 exact .inr (.inr (.inr (.inr (.inr ⟨by simpa using h0,by simpa using h1,by simpa using a,by simpa using h3,by simpa using b⟩))))
def zCR:yA prog 56 []=some (.agg zEx):=by simp[yA,Rx,JY,qL,D.notTuple,D.cells]
def HO {f:Fac} (a:f.Ok) (g:Heap):zA prog 266 [.agg f.cells] g λr h'=>h'=g/\M7 r:=by
 refine xP λQ l=> ?_;have i:∀b,Q (.bool b) g:=λb=>l _ _ ⟨rfl,b,rfl⟩;have heq:=HI _ (Nat.le_refl _) a.e a.es (e2:= .mk 0 [] [] [] .nilsl) (by simp[Ex.Ok,okL,exs,zd.nil]);have o:=zCR;have c:=yL a.list;have j:=pS;obtain⟨k,q,z,A,B,s,p,e,y,d⟩:=f;simp only[Fac.cells,Ex.cells,Ex.kind,Ex.name,Ex.exc,Ex.d] at heq c⊢;generalize e.kind=u at *
 generalize e.name=v at *
 generalize e.exc=x at *
 generalize e.d=t at *
 rcases zCQ k with rfl|rfl|rfl|rfl|rfl| ⟨k0,k1,k2,k3,k4⟩
 all_goals
  refine xO mix func266 zGD rfl rfl ?_;simp only[f266,gJ]
  repeat' first|simp only[go_sem, *]|apply bc<;>intro m
  refine zU kr ?_
  repeat' first|simp only[go_sem, *]|apply bc<;>intro m|(refine zA.mono (heq _) ?_;rintro r h ⟨n,w,rfl⟩)
theorem CT {Y:D} (o:yu c Y) (hs:c.Sm) {f:Fac} (j:f.Ok) (g:Heap):zA prog 207 [Y, .agg f.cells] g λr h'=>h'=g/\IsI r:=by
 refine xU kr λad=> ?_;refine xP λQ Z=> ?_;have a:∀b h,Ext g h->Q (.int .i64 b) h:=λb h z=>Z _ _ ⟨z,by simp[below],b,rfl⟩;have B:∀b,Q (.int .i64 b) g:=λb=>a b g (Ext.refl g);have v:=HO j;have t:=Km f.comp j.comp;have u:=Km f.out j.out;have p:=WU o hs j.e j.es;have l:=bn o hs;have bk:=yL j.list;have m:=λi (hi:i<f.list.length)=>wD j.list hi;have bb:=j.ll;have ak:=pS;have aj:=ny;obtain⟨ca,cb,ce,cp,rfl,_,_,_,_⟩:=o;clear Z;obtain⟨k,cm,ot,rl,wy,du,cg,e,I,d⟩:=f;simp only[Fac.cells,Ex.cells,Ex.kind,Ex.name,Ex.exc,Ex.d] at *
 clear j;generalize e.kind=ek at *
 generalize e.name=en at *
 generalize e.exc=ex at *
 generalize e.d=ed at *
 cases k1:decide (k<0) with
 |true=>
  clear v t u p l a;refine xO mix func207 Ef rfl rfl ?_;simp only[f207,gJ]
  repeat' first|simp only[go_sem, *]|apply bc<;>intro o
 |false=>
 cases k2:decide (k>4) with
 |true=>
  clear v t u p l a;refine xO mix func207 Ef rfl rfl ?_;simp only[f207,gJ]
  repeat' first|simp only[go_sem, *]|apply bc<;>intro o
 |false=>
 have hk:k=0\/k=1\/k=2\/k=3\/k=4:=by
  have:=of_decide_eq_false k1;have:=of_decide_eq_false k2;omega
 clear k1 k2;have A:=λ(x:Lic) (h:Heap)=>pd x h h.next;rcases hk with rfl|rfl|rfl|rfl|rfl
 all_goals
  refine xO mix func207 Ef rfl rfl ?_;simp only[f207,gJ]
  repeat' first|simp only[go_sem, *]|apply bc<;>intro o|(refine zA.mono (v _) ?_;rintro r h ⟨G,w,rfl⟩)|(refine zA.mono (t _) ?_;rintro r h ⟨G,w,rfl⟩)|(refine zA.mono (u _) ?_;rintro r h ⟨G,w,rfl⟩)
 all_goals try
  refine(p _).mono ?_;rintro r h ⟨F,n,rfl,_⟩;subst F;clear v t u p l a;exact au
 all_goals
  clear v t u p B;refine zC (λi fr h=>fr 2= .iptr [ca,cb,ce,cp] 0/\(∃J K L M N O P R S T y,fr 3= .iptr [J,K,L,M,N,O,P,R,S,T,y,d] 0)/\fr 5= .int .i64 (i:Int)/\Ext g h) I.length ow ?_ ?_ ?_
  ·have z:=Ext.refl g;clear a m;simp only[go_sem,true_and,and_true,Int.ofNat_zero];exact⟨⟨_,_,_,_,_,_,_,_,_,_,_,rfl⟩,z⟩
  ·rintro i fr h C ec ew ⟨V,⟨J,K,L,M,N,O,P,R,S,T,y,E⟩,W,z⟩;have b1:=m i C;generalize I[i]=s at *
   have ba:∀h,HLe Heap.emp h:=λh i ob e=>by cases e
   clear m
   repeat' first|simp only[go_sem, *]|apply bc<;>intro o
   refine zM Heap.emp [(0, .st,true),(1, .no,true),(2, .st,true),(3, .no,true),(4, .no,true),(5, .st,true),(6, .sq,true),(7, .no,true),(8, .no,true),(9, .no,true),(10, .no,true),(11, .no,true),(12, .no,true)] kr kr (λi ob e=>by cases e) ?_
   repeat' first|simp only[go_sem, *]|apply bc<;>intro o
   refine DD _ (λH=>l s H) ⟨_,⟨[],[],0,[]⟩,false,rfl,λq=>by cases q⟩ ?_;rintro r ⟨x,b,rfl,_⟩;have ag:=A x h;have X:=z.new z.1 (.row [.str x.name, .str x.fam, .int .i64 x.ver, .str x.text]);cases b with
   |false=>
    have hf:=a 7 _ X;clear l a A
    repeat' first|simp only[go_sem, *]|apply bc<;>intro o
   |true=>
    clear l a A
    repeat' first|simp only[go_sem, *]|apply bc<;>intro o
    exact⟨_,_,_,_,_,_,_,_,_,_,_,rfl⟩
  clear l A;rintro fr h ec ⟨V,⟨J,K,L,M,N,O,P,R,S,T,y,E⟩,W,z⟩
  repeat' first|simp only[go_sem, *]|apply bc<;>intro o
  refine kT (λi fr h'=>fr 3= .iptr [J,K,L,M,N,O,P,R,S,T,y,d] 0/\fr 8= .int .i64 (i:Int)/\h'=h) I.length ow ?_ ?_ ?_
  ·simp only[go_sem,true_and,and_true,Int.ofNat_zero,E];rfl
  ·clear V E W fr;rintro i fr h' C U ew ai ⟨E,f8,F⟩;subst F;have b1:=m i ow;have b2:=m (i+1) C;have a:=λb=>a b _ z;generalize I[i]=s at *
   generalize I[i+1]=s2 at *
   clear m
   repeat' first|simp only[go_sem, *]|apply bc<;>intro o
   refine zU kr ?_;exact au
  ·clear V E W fr;rintro i fr h' U ⟨E,f8,F⟩;subst F;have a:=λb=>a b _ z;clear m;exact au
def Qt {o x:D} (a:yu c o) (s:c.Sm) (t:zd 12 (nz fs) x) (H:fs.length<=1048576) (m:∀f∈fs,f.Ok) (g:Heap):zA prog 136 [o,x] g λr h'=>h'=g/\∃i n,r= .tuple [.int .i64 i, .int .i64 n]:=by
 refine xP λQ C=> ?_;have p:∀i n,Q (.tuple [.int .i64 i, .int .i64 n]) g:=λi n=>C _ _ ⟨rfl,i,n,rfl⟩;have k:=t8 a s;have l:=λi (E:i<fs.length)=>CT a s (m _ (List.getElem_mem E));have q:=t7 t;have B:=ny;obtain⟨ca,cb,ce,cp,rfl,_,_,_,_⟩:=a;refine xO mix func136 zEd rfl rfl ?_;simp only[f136,gJ]
 repeat' first|simp only[go_sem, *]|apply bc<;>intro a
 refine(k _).mono ?_;rintro r h ⟨j,n,rfl,_⟩;subst j
 repeat' first|simp only[go_sem, *]|apply bc<;>intro a
 refine zC (λi fr h'=>fr 1=x/\fr 2= .iptr [ca,cb,ce,cp] 0/\fr 6= .int .i64 (i:Int)/\h'=h) fs.length ow ?_ ?_ ?_
 ·simp only[go_sem,true_and,and_true,Int.ofNat_zero]
 ·rintro i fr h' d v G ⟨y,z,A,j⟩;subst j;have u:=qd t d;have b:=l i d;generalize fs[i]=f at *
  simp only[Fac.cells] at u b
  repeat' first|simp only[go_sem, *]|apply bc<;>intro a
  refine zM Heap.emp [(0, .no,false),(1, .no,false),(2, .no,false),(3, .no,false),(4, .no,false),(5, .no,false),(6, .no,false)] kr kr (λi I e=>by cases e) ?_
  repeat' first|simp only[go_sem, *]|apply bc<;>intro a|(refine zA.mono (b _) ?_;rintro r h ⟨F,w,rfl⟩)
 ·rintro fr h' v ⟨y,z,A,j⟩;subst j;exact au
def RU {l:List (List UInt8)} (c:zd 1 (yS l) d) (v:l.length<=1048576) (s:List UInt8) (g:Heap):zA prog 131 [d, .str s] g λr h'=>h'=g/\IsI r:=by
 refine xP λQ p=> ?_;have e:∀n,Q (.int .i64 n) g:=λn=>p _ _ ⟨rfl,n,rfl⟩;have f:=yL c;refine xO mix func131 zE2 rfl rfl ?_;simp only[f131,gJ]
 repeat' first|simp only[go_sem, *]|apply bc<;>intro u
 refine zC (λi fr h=>fr 0=d/\fr 1= .str s/\fr 5= .int .i64 (i:Int)/\h=g) l.length ow ?_ ?_ ?_
 ·simp only[go_sem,true_and,and_true,Int.ofNat_zero]
 ·rintro i fr h a j t ⟨k,m,o,b⟩;subst b;have q:=wD c a;generalize l[i]=y at *
  exact au
 ·rintro fr h j ⟨k,m,o,b⟩;subst b;exact au
structure Als where
 l:List Alt
 d:D
structure Als.Ok (a:Als):Prop where
 sl:zd 1 (zm a.l) a.d
 len:a.l.length<=64
 pl:yh [a.d]
def WW (l:List Als):List (List D):=l.map λa=>[a.d]
def mI (l:List Als):(WW l).length=l.length:=List.length_map ..
def HP {l:List Als} (h:i<l.length):(WW l)[i]? =some [l[i].d]:=by simp[WW,h]
def HQ (l:List Als):∀x∈WW l,x.length=1:=λx b=>by
 obtain⟨a,_,rfl⟩:=List.mem_map.1 b;rfl
def HR {l:List Als} (a:zd 1 (WW l) d) (h:Heap):sD prog 61 d h=some (.int .i64 l.length):=by rw[ye a underlying61,mI]
def CU {l:List Als} (a:zd 1 (WW l) d) (b:i<l.length):zP prog 61 d (.int .i64 (i:Int))=some (.iptr [l[i].d] 0):=zW a og jO (HP b)
def HS (d:D) (nid:Nat) (h:Heap) (h1:d.cells= [d]) (a:d.notTuple=true) (h3:d.flat=true):zJ prog false nid 61 1 [(0,d)] h=some (.sl 1 [[d]] .full,h):=by
 have:=zy (P:=prog) (nid:=nid) (h:=h) (x:=d) og Ug jO rfl rfl ow ow a (by rw[h1];rfl);rw[h1] at this;exact this
def RV (m:Nat) (r:D):Prop:=∃ts os tq oq n,r= .tuple [tq,oq, .int .i64 n]/\Fin 1 (WW ts) tq/\(∀a∈ts,a.Ok)/\ts.length<=m/\Fin 1 (yS os) oq/\os.length<=m
def RV.nil (m:Nat) (n:Int):RV m (.tuple [.nilsl, .nilsl, .int .i64 n]):=⟨[],[], .nilsl, .nilsl,n,rfl, .inl ⟨rfl,rfl⟩,(λa h=>by cases h),by simp, .inl ⟨rfl,rfl⟩,by simp⟩
def d9 (g:Heap) (m:Nat) (td od:D) (h:Heap):Prop:=∃ts os,Own2 g h 1 (WW ts) td 1 (yS os) od/\(∀a∈ts,a.Ok)/\ts.length<=m/\os.length<=m
theorem Ko {D0 x:D} (hc:yu c D0) (hs:c.Sm) (Y:c.ls.length<=40) (P:zd 12 (nz fs) x) (hl:fs.length<=260) (M:∀f∈fs,f.Ok) (H:∀f∈fs,f.e.size<=120) (g:Heap):zA prog 69 [D0,x] g λr h'=>h'=g/\RV fs.length r:=by
 refine xU kr λa5=>xS ?_;refine xP λQ hQ=> ?_;have ag:=Qt hc hs P ow M;have L:=λi (hi:i<fs.length)=>zGm hc hs Y (M _ (List.getElem_mem hi)).e (H _ (List.getElem_mem hi));have a4:=t7 P;have a7:=ny;have a8:=pS;have d:∀n h,Ext g h->Q (.tuple [.nilsl, .nilsl, .int .i64 n]) h:=λn h Z=>hQ _ _ ⟨Z,by simp[z8,zx,below,zh],by simpa [z8,zx] using RV.nil _ n⟩;have y:∀td od h,d9 g fs.length td od h->Q (.tuple [td,od, .int .i64 0]) h:=λtd od h ⟨j,k,u,h1,X,h3⟩=>by
  obtain⟨T,V,f3⟩:=u.a.fin λx P=>by
   obtain⟨a,ha,rfl⟩:=List.mem_map.1 P;exact(h1 a ha).pl
  obtain⟨g1,g2,g3⟩:=u.b.fin qT;exact hQ _ _ ⟨T,by simp[z8,zx,below,zh,V,g2],j,k,z8 td,z8 od,0,by simp[z8,zx],f3,h1,X,g3,h3⟩
 obtain⟨ca,cb,ce,cp,rfl,_,_,_,_⟩:=hc;have a6:=p8;refine xO mix func69 zIR rfl rfl ?_;simp only[f69,gJ];simp only[go_sem, *];refine(ag _).mono ?_;rintro r h0 ⟨N,n1,n2,rfl⟩;subst N;cases e0:(n2==0) with
 |false=>
  have hn:=d n2 h0 (Ext.refl h0);simp only[go_sem, *]
 |true=>
 have O:d9 h0 0 .nilsl .nilsl h0:=⟨[],[],Own2.start (Ext.refl h0) 1 1,(λa h=>by cases h),by simp,by simp⟩;simp only[go_sem, *];refine zC (λi fr h=>fr 1=x/\fr 2= .iptr [ca,cb,ce,cp] 0/\fr 11= .int .i64 (i:Int)/\d9 h0 i (fr 9) (fr 10) h) fs.length ow ?_ ?_ ?_
 ·clear d y L;simp only[go_sem,true_and,and_true,Int.ofNat_zero];exact O
 ·clear O;rintro i fr h J ec ew ⟨T,V,U,u⟩;obtain⟨td,W⟩:∃o,fr 9=o:=⟨_,rfl⟩;obtain⟨od,B⟩:∃o,fr 10=o:=⟨_,rfl⟩;rw[W,B] at u;have a1:=qd P J;have A:=L i J;have Z:Ext h0 h:=by obtain⟨_,_,q,_⟩:=u;exact q.a.1
  have d:=λn=>d n h Z;have ai:∀s,zA prog 131 [od, .str s] h λr h'=>h'=h/\IsI r:=λs=>by
   obtain⟨j,k,q,_,_,G⟩:=u;exact RU q.b.isSl ow s h
  generalize fs[i]=f at *
  simp only[Fac.cells,Ex.cells] at a1 A;have ak:d9 h0 (i+1) td od h:=by
   obtain⟨j,k,E,F,R,G⟩:=u;exact⟨j,k,E,F,by omega,by omega⟩
  have a3:∀t h',d9 h0 (i+1) t od h'->∀s,zA prog 131 [od, .str s] h' λr p=>p=h'/\IsI r:=λt h' ⟨j,k,q,_,_,G⟩ s=>RU q.b.isSl ow s h';have I:∀t h' (K:D->Heap->Prop) (w:HidR K) s,(∃j k,Own2 h0 h' 1 (WW j) t 1 (yS k) od/\(∀a∈j,a.Ok)/\j.length<=i+1/\k.length<=i)->(∀C p,d9 h0 (i+1) t C p->K C p)->K5 (zt prog false h'.next 31 od (.sl 1 [[.str s]] .full) h') K w:=λt h' K w s ⟨j,k,E,F,R,G⟩ hK=>by
   refine E.swap.appH (zs:=yS [s]) yv jN uW ow (by simp[yS]) (by simp[yS]) (by rw[zz,tF];unfold lim;simp[yS];omega) (by rw[zz];unfold lim;simp[yS];omega) λS p v=> ?_;refine hK S p ⟨j,k++ [s],?_,F,R,by simp;omega⟩
   have:yS (k++ [s])=yS k++yS [s]:=by simp[yS]
   rw[this];exact v.swap
  cases k1:(f.kind==1) with
  |true=>
   have k2:(f.kind==2)=false:=by
    have:=beq_iff_eq.1 k1;rw[this];rfl
   simp only[go_sem, *];refine zM Heap.emp [(0, .no,false),(1, .no,false),(2, .no,false),(3, .no,false),(4, .no,false),(5, .no,false),(6, .no,false),(7, .no,false),(8, .no,false),(9, .no,false),(10, .no,false),(11, .no,false)] kr kr (λi ob e=>by cases e) ?_;simp only[go_sem, *];refine(A _).mono ?_;rintro r X ⟨N,q,n,rfl,l,m,hf,aj,ad⟩;subst N;cases n0:(n==0) with
   |false=>
    have hn:=d n;simp only[go_sem, *]
   |true=>
   obtain⟨z1,z2,z3⟩:=zI hf.isSl;have a0:=λnid h=>HS q nid h z1 z2 z3;obtain⟨j,k,E,F,R,G⟩:=u;simp only[go_sem, *];refine E.appH (zs:=WW [⟨l,q⟩]) og Pm jO ow (HQ _) (by simp[WW]) (by rw[mI,Yr];unfold lim;simp[WW];omega) (by rw[mI];unfold lim;simp[WW];omega) λS h' v=> ?_;have a9:d9 h0 (i+1) S od h':=⟨j++ [⟨l,q⟩],k,by
    have:∀z:Als,WW (j++ [z])=WW j++WW [z]:=λz=>by simp[WW]
    rw[this];exact v,λa ha=>by
    rcases List.mem_append.1 ha with h1|h1
    ·exact F a h1
    ·cases List.mem_singleton.1 h1;exact⟨hf.isSl,aj,ru hf (d7 ad)⟩,by simp;omega,by omega⟩
   simp only[go_sem, *]
  |false=>
  cases k2:(f.kind==2) with
  |false=>
   simp only[go_sem, *]
  |true=>
  have a2:=λK w s hK=>I td h K w s (by obtain⟨j,k,E,F,R,G⟩:=u;exact⟨j,k,E,F,by omega,G⟩) hK;simp only[go_sem, *];refine(ai _).mono ?_;rintro r X ⟨N,w,rfl⟩;subst N;cases w0:decide (w<0) with
  |false=>
   simp only[go_sem, *]
  |true=>
   simp only[go_sem, *];refine a2 _ _ _ λC h' v=> ?_;exact au
 ·rintro fr h ec ⟨T,V,U,u⟩;obtain⟨td,W⟩:∃o,fr 9=o:=⟨_,rfl⟩;obtain⟨od,B⟩:∃o,fr 10=o:=⟨_,rfl⟩;rw[W,B] at u;have hf:=y td od h u;exact au
def Kp {l:List Int} (a:zd 1 (qP l) d) (h:Heap):sD prog 45 d h=some (.int .i64 l.length):=by rw[ye a underlying45,yN]
def RW {l:List Int} (a:zd 1 (qP l) d) (b:i<l.length):zP prog 45 d (.int .i64 (i:Int))=some (.iptr [.int .i64 l[i]] 0):=zW a yK wW (by simp[qP,b])
def HU (n:Int) (nid:Nat) (h:Heap):zJ prog false nid 45 1 [(0, .int .i64 n)] h=some (.sl 1 [[.int .i64 n]] .full,h):=zy (x:= .int .i64 n) yK uV wW rfl rfl ow ow rfl rfl
def OwI (G h:Heap) (d:D) (m:Nat):Prop:=∃l,Own G h 1 (qP l) d/\l.length<=m
def OwI.app {G h:Heap} {m:Nat} {n:Int} {w:HidR K} (e:OwI G h d m) (g:m<=2097152) (c:∀a h',OwI G h' a (m+1)->K a h'):K5 (zt prog false h.next 45 d (.sl 1 [[.int .i64 n]] tk) h) K w:=by
 obtain⟨l,h1,f⟩:=e;refine h1.appH (ys:=qP [n]) yK Yp wW ow (by simp[qP]) (by simp[qP]) (by rw[yN,mf];unfold lim;simp[qP];omega) (by rw[yN];unfold lim;simp[qP];omega) λa h' b=> ?_;refine c a h' ⟨l++ [n],?_,by simp;omega⟩
 have:qP (l++ [n])=qP l++qP [n]:=by simp[qP]
 rw[this];exact b
def HV {M x:D} (O:yu c M) (hs:c.Sm) (H:c.ls.length<=40) (hx:zd 12 (nz fs) x) (Z:fs.length<=260) (K:∀f∈fs,f.Ok) (B:∀f∈fs,f.e.size<=120) (g:Heap):zA prog 62 [M,x] g λr h'=>h'=g/\∃q n l,r= .tuple [q, .int .i64 n]/\zd 1 (qP l) q/\l.length<=520:=by
 refine xU kr λP=>xS ?_;refine xP λQ I=> ?_;have C:=Ko O hs H hx Z K B;have k:∀n h,Ext g h->Q (.tuple [.nilsl, .int .i64 n]) h:=λn h X=>I _ _ ⟨X,by simp[z8,zx,below,zh], .nilsl,n,[],by simp[z8,zx], .inl ⟨rfl,rfl⟩,by simp⟩;have a:∀d h,OwI g h d 520->Q (.tuple [d, .int .i64 0]) h:=λd h ⟨l,J,h1⟩=>by
  obtain⟨V,s,W⟩:=J.fin (dW _);exact I _ _ ⟨V,by simp[z8,zx,below,zh,s],z8 d,0,l,by simp[z8,zx],W.isSl,h1⟩
 obtain⟨ca,cb,ce,cp,rfl,Y,_,_,_⟩:=O;have R:=HU;have ad:=wV Y;clear I;refine xO mix func62 zIv rfl rfl ?_;simp only[f62,gJ];simp only[go_sem, *];refine(C _).mono ?_;rintro r h0 ⟨hq,E,os,tq,T,n,rfl,S,b,a0,J,ak⟩;subst hq;clear C;cases e0:(n==0) with
 |false=>
  have hn:=k n h0 (Ext.refl h0);clear k a b;simp only[go_sem, *]
 |true=>
 have v:OwI h0 h0 .nilsl 0:=⟨[],Own.start (Ext.refl h0) 1,by simp⟩;have p:=HR S.isSl;have ai:=yL J.isSl;clear k;simp only[go_sem, *];refine zC (λi fr h=>fr 2= .iptr [ca,cb,ce,cp] 0/\fr 6=tq/\fr 7=T/\fr 10= .int .i64 (i:Int)/\OwI h0 h (fr 9) i) E.length ow ?_ ?_ ?_
 ·clear a b;simp only[go_sem,true_and,and_true,Int.ofNat_zero];exact v
 ·clear v;rintro i fr h p A U ⟨s,G,z,u,j⟩;obtain⟨o,m⟩:∃o,fr 9=o:=⟨_,rfl⟩;rw[m] at j;have a1:=CU S.isSl p;have L:=b _ (List.getElem_mem p);have ag:=qN L.sl;generalize E[i]=t at *
  clear a b;simp only[go_sem, *];refine j.app ow λN h' w=> ?_;clear j;exact au
 clear v;rintro fr h A ⟨s,G,z,u,j⟩;obtain⟨o,m⟩:∃o,fr 9=o:=⟨_,rfl⟩;rw[m] at j;have y:OwI h0 h o (E.length+0):=j;clear j;simp only[go_sem, *];refine zC (λi fr h=>fr 2= .iptr [ca,cb,ce,cp] 0/\fr 7=T/\fr 11= .int .i64 (i:Int)/\OwI h0 h (fr 9) (E.length+i)) os.length ow ?_ ?_ ?_
 ·clear a b;simp only[go_sem,true_and,and_true,Int.ofNat_zero,s,z,m];exact y
 ·clear y s G z u m A fr h;rintro i fr h p A U ⟨s,z,F,j⟩;obtain⟨o,m⟩:∃o,fr 9=o:=⟨_,rfl⟩;rw[m] at j;clear a b;simp only[go_sem, *];refine j.app ow λN h' w=> ?_;have aj:OwI h0 h' N (E.length+(i+1)):=w;clear j w;exact au
 ·clear y s G z u m A fr h;rintro fr h A ⟨s,z,F,j⟩;obtain⟨o,m⟩:∃o,fr 9=o:=⟨_,rfl⟩;rw[m] at j;have hf:=a o h (by obtain⟨l,q1,q2⟩:=j;exact⟨l,q1,by omega⟩);clear a b j;exact au
def HW {A x:D} (s:yu c A) (K:c.Sm) (v:c.ls.length<=40) (L:zd 12 (nz fs) x) (H:fs.length<=260) (w:∀f∈fs,f.Ok) (p:∀f∈fs,f.e.size<=120) (g:Heap):zA prog 27 [A,x] g λr h'=>h'=g/\∃a b,r= .tuple [.int .i64 a, .int .i64 b]:=by
 refine xP λQ G=> ?_;have y:=HV s K v L H w p;have B:∀a b,Q (.tuple [.int .i64 a, .int .i64 b]) g:=λa b=>G _ _ ⟨rfl,a,b,rfl⟩;obtain⟨ca,cb,ce,cp,rfl,O,_,_,_⟩:=s;refine xO mix func27 zIO rfl rfl ?_;simp only[f27,gJ]
 repeat' first|simp only[go_sem, *]|apply bc<;>intro s
 refine(y _).mono ?_;rintro r h0 ⟨d,q,n,l,rfl,j,I⟩;subst d;have J:=Kp j
 repeat' first|simp only[go_sem, *]|apply bc<;>intro s
 refine zC (λi fr h=>fr 6=q/\fr 8= .int .i64 (i:Int)/\h=h0) l.length ow ?_ ?_ ?_
 ·simp only[go_sem,true_and,and_true,Int.ofNat_zero]
 ·rintro i fr h k o E ⟨m,u,d⟩;subst d;have C:=RW j k;generalize l[i]=z at *
  exact au
 rintro fr h o ⟨m,u,d⟩;subst d;have N:=isI
 repeat' first|simp only[go_sem, *]|apply bc<;>intro s
 refine zC (λi fr h'=>fr 6=q/\fr 10= .int .i64 (i:Int)/\h'=h/\IsI (fr 9)) l.length ow ?_ ?_ ?_
 ·simp only[go_sem,true_and,and_true,Int.ofNat_zero,m,isI]
 ·clear m u o fr;rintro i fr h k o E ⟨m,t,d,M,F⟩;subst d;have C:=RW j k;generalize l[i]=z at *
  exact au
 ·clear m u o fr;rintro fr h o ⟨m,t,d,M,F⟩;subst d;exact au
def Kq {m x:D} (j:yu c m) (p:c.Sm) (s:zd 12 (nz fs) x) (t:fs.length<=1048576) (k:∀f∈fs,f.Ok0) (g:Heap):zA prog 9 [m,x] g λr h'=>h'=g/\∃b,r= .bool b/\(b=true->LU fs/\c.ls.length<=40):=by
 refine xP λQ n=> ?_;have hf:Q (.bool false) g:=n _ _ ⟨rfl,_,rfl,λq=>by cases q⟩;have l:=UC j p s t k;have i:=λ(d:LU fs/\c.ls.length<=40)=>HW j p d.2 s d.1.1.2 (λf h=>(k f h).ok (d.1.2 f h)) d.1.2;have e:LU fs/\c.ls.length<=40->∀b,Q (.bool b) g:=λd b=>n _ _ ⟨rfl,b,rfl,λ_=>d⟩;obtain⟨ca,cb,ce,cp,rfl,u,_,_,_⟩:=j;refine xO mix func9 ok9 rfl rfl ?_;simp only[f9,gJ]
 repeat' first|simp only[go_sem, *]|apply bc<;>intro j
 refine(l _).mono ?_;rintro r h ⟨o,b,rfl,d⟩;subst o;cases b with
 |false=>
  repeat' first|simp only[go_sem, *]|apply bc<;>intro j
 |true=>
 have d:=d rfl;have i:=i d;have e:=e d
 repeat' first|simp only[go_sem, *]|apply bc<;>intro j|(refine zA.mono (i _) ?_;rintro r h ⟨o,a,b,rfl⟩)
def kq.sl {a:List NdI} (h:kq a d):d.flat=true/\∀H,sD prog 35 d H=some (.int .i64 a.length):=by
 obtain⟨xs,h1,b,_⟩:=h;exact⟨(zI h1).2.2,λH=>by rw[ye h1 underlying35,b]⟩
def kq.at {a:List NdI} (h:kq a d) (c:i<a.length):∃cs,zP prog 35 d (.int .i64 (i:Int))=some (.iptr cs 0)/\BS a[i] cs:=by
 obtain⟨xs,h1,e,h3⟩:=h;obtain⟨cs,b,h5⟩:=h3 i _ (List.getElem?_eq_getElem c);exact⟨cs,zW h1 oe nP b,h5⟩
def Kr {l:List α} {a:α} (h:k<l.length):l.getD k a∈l:=by rw[List.getD_eq_getElem?_getD,List.getElem?_eq_getElem h];exact List.getElem_mem _
def NdI.v (n:NdI):Vio:=⟨n.row,n.facts⟩
def rv (c:Cat) (fs:List Fac) (m i:Nat) (n:NdI):Bool:=
 n.kids.all (λk=> !(decide (k<=(i:Int))||decide (k>=(m:Int))))&&(if(n.var== -1)=true then(n.kids.length:Int)==0 else decide (n.var>=0)&&decide (n.var<(ctV c fs:Int))&&decide ((szV c fs n.var.toNat:Int)>1)&&((n.kids.length:Int)==(szV c fs n.var.toNat:Int))&&n.row==0&&(n.facts.length:Int)==0)
abbrev nd0:NdI:=⟨0,[],0,[]⟩
def lvL (c:Cat) (fs:List Fac) (ns:List NdI):Nat->Nat->Part->List (Nat×Part)
 |0,_,_=>[]
 |m+1,i,p=>if((ns.getD i nd0).var== -1||deV c fs p (ns.getD i nd0).var.toNat)=true then [(i,p)] else(List.range (ns.getD i nd0).kids.length).flatMap λk=>lvL c fs ns m ((ns.getD i nd0).kids.getD k 0).toNat (uP c fs p (ns.getD i nd0).var.toNat k)
abbrev lvR (c:Cat) (fs:List Fac) (ns:List NdI):List (Nat×Part):=lvL c fs ns ns.length 0 (uQ c fs)
def Ks (c:Cat) (fs:List Fac) (ns:List NdI) (l:Nat×Part):Bool:=(ns.getD l.1 nd0).var== -1&&oT c fs (nH l.2) (ns.getD l.1 nd0).v==0
def nZ (c:Cat) (fs:List Fac) (ns:List NdI):Bool:= !(ns.length==0)&&(List.range ns.length).all (λi=>rv c fs ns.length i (ns.getD i nd0))&&(lvR c fs ns).all (Ks c fs ns)
section
variable {c:Cat} {fs:List Fac} {ca cb ce cp x td od:D}
def YA {m i:Nat} {n:NdI} (h:rv c fs m i n=true):(∀k∈n.kids,(i:Int)<k/\k<(m:Int))/\(n.var≠ -1->0<=n.var/\n.var.toNat<ctV c fs/\1<szV c fs n.var.toNat/\n.kids.length=szV c fs n.var.toNat):=by
 unfold rv at h;rw[Bool.and_eq_true,List.all_eq_true] at h;refine⟨λk b=>by have:=h.1 k b;simp at this;omega,λd=> ?_⟩;have a:=h.2;rw[iq (by simpa using d)] at a;simp only[Bool.and_eq_true,decide_eq_true_eq,beq_iff_eq] at a;omega
theorem WX (S:SpD c fs ca cb ce cp x td od) {q:Part} (o:Full c fs q) {a:List NdI} (hf:∀i,i<a.length->rv c fs a.length i (a.getD i nd0)=true):∀m i p,i<a.length->a.length<=i+m->POk c fs p->Le p q->(∀l∈lvL c fs a m i p,Ks c fs a l=true)->tB c fs (nH q)≠[]
 |0,i,p,n,v,h,d,e=>by omega
 |m+1,i,p,n,v,h,d,e=>by
  obtain⟨r,s⟩:=YA (hf i n);unfold lvL at e;split at e
  ·have:=e _ List.mem_cons_self;unfold Ks at this;rw[Bool.and_eq_true,beq_iff_eq,beq_iff_eq] at this;exact List.ne_nil_of_mem (d.mem ((Qo (h.err S) _).1 this.2))
  ·rename_i j;rw[Bool.or_eq_true,not_or] at j;obtain⟨w,t,y,z⟩:=s (by simpa using j.1);obtain⟨k,u,f⟩:=o.val t;have b:k<(a.getD i nd0).kids.length:=ow;have g:(a.getD i nd0).kids.getD k 0∈(a.getD i nd0).kids:=Kr b;obtain⟨k1,k2⟩:=r _ g;exact WX S o hf m _ (uP c fs p (a.getD i nd0).var.toNat k) ow ow (h.dec u) (d.dec f) λl d=>e l (List.mem_flatMap.2 ⟨k,List.mem_range.2 b,d⟩)
def Qu (S:SpD c fs ca cb ce cp x td od) {b:List NdI} (h:nZ c fs b=true):rC c fs= []:=by
 unfold nZ at h;simp only[Bool.and_eq_true,List.all_eq_true,Bool.not_eq_true',beq_eq_false_iff_ne,List.mem_range] at h;obtain⟨⟨h1,d⟩,h3⟩:=h;refine Classical.byContradiction λf=> ?_;obtain⟨q,a,e⟩:=(KZ S.v0).1 f;exact WX S a d b.length 0 (uQ c fs) ow ow (wM c fs _) (dz a _ (Nat.le_refl _)) h3 e
end
structure FewR (ns:List NdI):Prop where
 len:ns.length<=300
 kids:∀n∈ns,n.kids.length<=40
 facts:∀n∈ns,n.facts.length<=12
def CV {a:List NdI} (l:kq a d) (H:a.length<=1048576) (g:Heap):zA prog 10 [d] g λr h'=>h'=g/\∃b,r= .bool b/\(b=true->FewR a):=by
 refine xP λQ p=> ?_;have hf:Q (.bool false) g:=p _ _ ⟨rfl,_,rfl,λq=>by cases q⟩;have B:=l.sl.2;cases C:decide ((a.length:Int)>300) with
 |true=>
  refine xO mix func10 zHW rfl rfl ?_;simp only[f10,gJ]
  repeat' first|simp only[go_sem, *]|apply bc<;>intro o
 |false=>
 have h3:a.length<=300:=by have:=of_decide_eq_false C;omega
 have k:(∀n∈a,n.kids.length<=40/\n.facts.length<=12)->Q (.bool true) g:=λh=>p _ _ ⟨rfl,_,rfl,λ_=>⟨h3,λn f=>(h n f).1,λn f=>(h n f).2⟩⟩;clear p;refine xO mix func10 zHW rfl rfl ?_;simp only[f10,gJ]
 repeat' first|simp only[go_sem, *]|apply bc<;>intro o
 refine zC (λi fr h=>fr 0=d/\fr 3= .int .i64 (i:Int)/\h=g/\∀j (c:j<a.length),j<i->a[j].kids.length<=40/\a[j].facts.length<=12) a.length ow ?_ ?_ ?_
 ·clear k;simp only[go_sem,true_and,and_true,Int.ofNat_zero];exact λj c h0=>by omega
 ·rintro i fr h u x E ⟨y,z,rfl,c⟩;obtain⟨cs,D,J,F,rfl,k1,k2⟩:=l.at u;have G:=wU k1;have A:=wU k2;have e:a[i].kids.length<=40/\a[i].facts.length<=12->∀j (c:j<a.length),j<i+1->a[j].kids.length<=40/\a[j].facts.length<=12:=λh j t s=>by
   rcases Nat.lt_succ_iff_lt_or_eq.1 s with q|rfl
   ·exact c j t q
   ·exact h
  cases v:decide ((a[i].kids.length:Int)>40) with
  |true=>
   clear k c l e
   repeat' first|simp only[go_sem, *]|apply bc<;>intro o
  |false=>
   cases w:decide ((a[i].facts.length:Int)>12) with
   |true=>
    clear k c l e
    repeat' first|simp only[go_sem, *]|apply bc<;>intro o
   |false=>
    have f:=e ⟨by have:=of_decide_eq_false v;omega,by have:=of_decide_eq_false w;omega⟩;clear k c l e
    repeat' first|simp only[go_sem, *]|apply bc<;>intro o
    exact f
 ·rintro fr h x ⟨y,z,rfl,c⟩;have I:=k λn f=>by
   obtain⟨j,m,rfl⟩:=List.mem_iff_getElem.1 f;exact c j m m
  clear k c;exact au
def YB {a:List NdI} (b:i<a.length):a.getD i nd0=a[i]:=by rw[List.getD_eq_getElem?_getD,List.getElem?_eq_getElem b];rfl
section
variable {c:Cat} {fs:List Fac} {ca cb ce cp x td od:D}
theorem Kt (S:SpD c fs ca cb ce cp x td od) {l:List NdI} (X:kq l d) (V:FewR l) (J:i<l.length) (g:Heap):zA prog 64 [.iptr [ca,cb,ce,cp,x,td,od] 0,d, .int .i64 (i:Int)] g λr h'=>h'=g/\r= .bool (rv c fs l.length i (l.getD i nd0)):=by
 refine xU kr λad=> ?_;refine xP λR I=> ?_;have Y:=X.sl.2;obtain⟨cs,a1,E,F,rfl,k1,k2⟩:=X.at J;obtain⟨N,hN⟩:∃N,g.next=N:=⟨_,rfl⟩;obtain⟨G,hG,g1,hE⟩:∃G:Heap,g.new N (.row [.int .i64 l[i].var,E, .int .i64 l[i].row,F])=G/\G.at' N=some (.row [.int .i64 l[i].var,E, .int .i64 l[i].row,F])/\Ext g G:=⟨_,rfl,zK _ _ _,by rw[<-hN];exact(Ext.refl g).new (Nat.le_refl _) _⟩;have ak:zQ prog 67 (.ptr N 0) (.agg [.int .i64 l[i].var,E, .int .i64 l[i].row,F]) (g.new N (.row [.int .i64 0, .nilsl, .int .i64 0, .nilsl]))=some G:=by
  rw[<-hG];exact zf nP ow rfl rfl (by simp[(zI k1).2.2,(zI k2).2.2];exact⟨rfl,rfl⟩)
 have C:HLe (Heap.one N (.row [.int .i64 l[i].var,E, .int .i64 l[i].row,F])) G:=by rw[se];exact g1
 obtain⟨Q,z⟩:∃Q:D->Prop,∀b,Q (.bool b)↔R (.bool b) G:=⟨λd=>R d G,λ_=>Iff.rfl⟩;have H:∀r,(∃b,r= .bool b/\b=rv c fs l.length i (l.getD i nd0))->Q r:=λr ⟨b,e1,e2⟩=>by rw[e1];exact(z b).2 (I _ _ ⟨hE,trivial,by rw[e2]⟩)
 have hk:=wU k1;have ag:=wU k2;have aj:l[i].kids.length<=40:=V.kids _ (List.getElem_mem J);have L:=V.len;have u:=Z5 S;have o:=Z4 S;rw[YB J] at H;generalize l[i]=n at *
 obtain⟨m,hm,J,L⟩:∃m,l.length=m/\i<m/\m<=300:=⟨_,rfl,J,L⟩;rw[hm] at H Y;have s:∀j (w:j<n.kids.length),(decide (n.kids[j]<=(i:Int))||decide (n.kids[j]>=(m:Int)))=true->R (.bool false) G:=λj w e=>(z _).1 (H _ ⟨_,rfl,by
  have:rv c fs m i n=false:=by
   unfold rv;rw[Bool.and_eq_false_iff];refine .inl (Bool.eq_false_iff.2 λh=> ?_);have:=List.all_eq_true.1 h _ (List.getElem_mem w);rw[e] at this;cases this
  rw[this]⟩)
 have f:(∀j (w:j<n.kids.length),(decide (n.kids[j]<=(i:Int))||decide (n.kids[j]>=(m:Int)))=false)->∀b,b=(if(n.var== -1)=true then(n.kids.length:Int)==0 else decide (n.var>=0)&&decide (n.var<(ctV c fs:Int))&&decide ((szV c fs n.var.toNat:Int)>1)&&((n.kids.length:Int)==(szV c fs n.var.toNat:Int))&&n.row==0&&(n.facts.length:Int)==0)->R (.bool b) G:=λh b e=>(z _).1 (H _ ⟨_,rfl,by
  have:rv c fs m i n=b:=by
   unfold rv;rw[e,show n.kids.all (λk=> !(decide (k<=(i:Int))||decide (k>=(m:Int))))=true from ?_,Bool.true_and]
   refine List.all_eq_true.2 λk hk=> ?_;obtain⟨j,w,rfl⟩:=List.mem_iff_getElem.1 hk;rw[h j w];rfl
  rw[this]⟩)
 have au:∀a b e p:D,zN true 4 [a,b,e,p] 0=some (.agg [a,b,e,p]):=λa b e p=>zB rfl ow;clear H z I X V hm hE hG;refine xO mix func64 zHa rfl rfl ?_;simp only[f64,gJ]
 repeat' first|simp only[go_sem, *]|apply bc<;>intro B
 refine zC (λj fr h=>fr 0= .iptr [ca,cb,ce,cp,x,td,od] 0/\fr 1=d/\fr 2= .int .i64 (i:Int)/\fr 7= .ptr N 0/\fr 15=E/\fr 16= .int .i64 (n.kids.length:Int)/\fr 17= .int .i64 (j:Int)/\h=G/\∀q (t:q<n.kids.length),q<j->(decide (n.kids[q]<=(i:Int))||decide (n.kids[q]>=(m:Int)))=false) n.kids.length ow ?_ ?_ ?_
 ·clear s f u o;simp only[go_sem,true_and,and_true,Int.ofNat_zero];exact λq t h0=>by omega
 ·rintro j fr h K ec ew ⟨f0,f1,f2,f7,P,T,U,t,w⟩;subst t;have ai:=rJ k1 K;have W:=s j K;have y:(decide (n.kids[j]<=(i:Int))||decide (n.kids[j]>=(m:Int)))=false->∀q (t:q<n.kids.length),q<j+1->(decide (n.kids[q]<=(i:Int))||decide (n.kids[q]>=(m:Int)))=false:=λh q t Z=>by
   rcases Nat.lt_succ_iff_lt_or_eq.1 Z with e|rfl
   ·exact w q t e
   ·exact h
  clear s f w u o;generalize n.kids[j]=M at *
  cases e1:decide (M<=(i:Int)) with
  |true=>
   rw[e1] at W;clear y
   repeat' first|simp only[go_sem, *]|apply bc<;>intro B
  |false=>
   cases e2:decide (M>=(m:Int)) with
   |true=>
    rw[e1,e2] at W;clear y
    repeat' first|simp only[go_sem, *]|apply bc<;>intro B
   |false=>
    rw[e1,e2] at y;clear W;have hn:=y rfl;clear y
    repeat' first|simp only[go_sem, *]|apply bc<;>intro B
    exact hn
 ·rintro fr h ec ⟨f0,f1,f2,f7,P,T,U,t,w⟩;subst t;have A:=f λq t=>w q t t;clear s f w;cases O:(n.var== -1) with
  |true=>
   rw[O,ip rfl] at A;have A:=A _ rfl;clear u o
   repeat' first|simp only[go_sem, *]|apply bc<;>intro B
  |false=>
   rw[O,iq Bool.false_ne_true] at A;cases e1:decide (n.var>=0) with
   |false=>
    rw[e1] at A;have A:=A false (by simp);clear u o
    repeat' first|simp only[go_sem, *]|apply bc<;>intro B
    refine zM (Heap.one N (.row [.int .i64 n.var,E, .int .i64 n.row,F])) [(0, .no,true),(1, .no,true),(2, .no,true),(3, .no,true),(4, .no,true),(5, .st,true),(6, .no,true),(7, .no,true),(8, .no,true),(9, .no,true),(10, .no,true),(11, .no,true),(12, .no,true),(13, .no,true),(14, .no,true),(15, .no,true),(16, .no,true),(17, .no,true),(18, .no,true),(19, .st,true),(20, .no,true),(21, .no,true),(22, .no,true),(23, .no,true),(24, .no,true),(25, .no,true),(26, .no,true),(27, .no,true),(28, .no,true),(29, .no,true),(30, .no,true),(31, .no,true),(32, .no,true),(33, .no,true),(34, .no,true),(35, .no,true),(36, .no,true),(37, .no,true),(38, .no,true),(39, .no,true),(40, .no,true)] kr kr C ?_
    repeat' first|simp only[go_sem,rg, *]|apply bc<;>intro B
   |true=>
    obtain⟨v,hv⟩:∃v:Nat,n.var=(v:Int):=⟨n.var.toNat,by have:=of_decide_eq_true e1;omega⟩;rw[hv,Int.toNat_natCast] at A;rw[hv] at e1 O g1 C;have o:=o v;rw[e1] at A;clear hv
    repeat' first|simp only[go_sem, *]|apply bc<;>intro B
    refine zM (Heap.one N (.row [.int .i64 (v:Int),E, .int .i64 n.row,F])) [(0, .no,true),(1, .no,true),(2, .no,true),(3, .no,true),(4, .no,true),(5, .st,true),(6, .no,true),(7, .no,true),(8, .no,true),(9, .no,true),(10, .no,true),(11, .no,true),(12, .no,true),(13, .no,true),(14, .no,true),(15, .no,true),(16, .no,true),(17, .no,true),(18, .no,true),(19, .st,true),(20, .no,true),(21, .no,true),(22, .no,true),(23, .no,true),(24, .no,true),(25, .no,true),(26, .no,true),(27, .no,true),(28, .no,true),(29, .no,true),(30, .no,true),(31, .no,true),(32, .no,true),(33, .no,true),(34, .no,true),(35, .no,true),(36, .no,true),(37, .no,true),(38, .no,true),(39, .no,true),(40, .no,true)] kr kr C ?_
    repeat' first|simp only[go_sem,rg, *]|apply bc<;>intro B|(refine zA.mono (u _) ?_;rintro r h ⟨t,rfl⟩)|(refine zA.mono (o _) ?_;rintro r h ⟨t,rfl⟩)
end
abbrev Ku (yid vid:Nat) (d:D) (sp:List D):D:= .fn (.func 120) [] [.iptr [d] 0, .iptr [.iptr sp 0] 0, .iptr [.yld yid] 0, .ptr vid 0]
abbrev elV (xs:List (List D)) (Lw:List (Nat×Part)) (k:Nat):List D:=[.agg (xs.getD (Lw.getD k (0,⟨[],[]⟩)).1 []),FI (Lw.getD k (0,⟨[],[]⟩)).2]
def LvQ (Y:Nat->(Nat->Prop)->Heap->Prop) (Z:(Nat->Prop)->Heap->Prop) (S1:Nat->Prop) (h:Heap) (k:Nat) (r:D) (h':Heap):Prop:=
 ∃S1',(∀i,S1' i->S1 i\/h.next<=i)/\But S1 h h'/\((r= .bool true/\Y k S1' h')\/(r= .bool false/\Z S1' h'))
structure RefD (ns:List NdI) (d:D) (xs:List (List D)):Prop where
 sl:zd 4 xs d
 at':∀ (i:Nat),i<ns.length->∃cs,xs[i]? =some cs/\BS (ns.getD i nd0) cs
section
variable {c:Cat} {fs:List Fac} {ca cb ce cp x td od:D}
theorem zCS (S:SpD c fs ca cb ce cp x td od) {s:List NdI} (hd:RefD s d xs) (hR:FewR s) (hf:∀i,i<s.length->rv c fs s.length i (s.getD i nd0)=true) {t vid:Nat} {Lw:List (Nat×Part)} {Y:Nat->(Nat->Prop)->Heap->Prop} {Z:(Nat->Prop)->Heap->Prop} (y:Yld prog t Lw.length (elV xs Lw) Y Z):∀ (m i:Nat) (p:Part),i<s.length->s.length<=i+m->POk c fs p->∀k,(∀j q,(lvL c fs s m i p)[j]? =some q->Lw[k+j]? =some q)->∀S1 h,Y k S1 h->vid<h.next->¬S1 vid->h.at' vid=some (.row [Ku t vid d [ca,cb,ce,cp,x,td,od]])->zA prog 120 [.int .i64 (i:Int),FI p, .iptr [d] 0, .iptr [.iptr [ca,cb,ce,cp,x,td,od] 0] 0, .iptr [.yld t] 0, .ptr vid 0] h (LvQ Y Z S1 h (k+(lvL c fs s m i p).length))
 |0,i,p,u,hm,hp,k,hk,S1,h,hY,v0,v1,L=>by omega
 |m+1,i,p,u,hm,hp,k,hk,S1,h,hY,v0,v1,L=>by
  have b8:∀a b e p:D,zN true 4 [a,b,e,p] 0=some (.agg [a,b,e,p]):=λa b e p=>zB rfl ow;obtain⟨cs,X,kd,fd,e,k1,k2⟩:=hd.at' i u;have a1:zP prog 35 d (.int .i64 (i:Int))=some (.iptr cs 0):=zW hd.sl oe nP X;obtain⟨f1,f2⟩:=YA (hf i u);have bb:(s.getD i nd0).kids.length<=40:=by rw[YB u];exact hR.kids _ (List.getElem_mem u)
  have ih:=zCS S hd hR hf (vid:=vid) y m;obtain⟨n,hn⟩:∃n,s.getD i nd0=n:=⟨_,rfl⟩;have eL:lvL c fs s (m+1) i p=if(n.var== -1||deV c fs p n.var.toNat)=true then [(i,p)] else(List.range n.kids.length).flatMap λk=>lvL c fs s m (n.kids.getD k 0).toNat (uP c fs p n.var.toNat k):=by rw[<-hn];rfl
  rw[hn] at e k1 k2 f1 f2 bb;refine xP λQ P=> ?_;rw[eL] at P hk;subst e;obtain⟨N,hN⟩:∃N,h.next=N:=⟨_,rfl⟩;obtain⟨G,hG,g1,hE,a6⟩:∃G:Heap,h.new N (.row [.int .i64 n.var,kd, .int .i64 n.row,fd])=G/\G.at' N=some (.row [.int .i64 n.var,kd, .int .i64 n.row,fd])/\Ext h G/\G.next=N+1:=⟨_,rfl,zK _ _ _,by rw[<-hN];exact(Ext.refl h).new (Nat.le_refl _) _,by rw[<-hN];exact zF _ _⟩;have a5:zQ prog 67 (.ptr N 0) (.agg [.int .i64 n.var,kd, .int .i64 n.row,fd]) (h.new N (.row [.int .i64 0, .nilsl, .int .i64 0, .nilsl]))=some G:=by
   rw[<-hG];exact zf nP ow rfl rfl (by simp[(zI k1).2.2,(zI k2).2.2];exact⟨rfl,rfl⟩)
  have O:∀r h',LvQ Y Z S1 G _ r h'->Q r h':=λr h' ⟨T,q1,q2,q3⟩=>P r h' ⟨T,λi u=>(q1 i u).imp id λq=>by omega,(hE.but _).trans q2 λi u=> .inl u,q3⟩;have V:=y.ext hY hE;have a0:¬S1 N:=λe=>by have:=y.here _ _ _ hY N e;omega
  have b7:=wU k1;have o:=λv (L:v<ctV c fs) g=>aL S hp L g;cases M:(n.var== -1||deV c fs p n.var.toNat) with
  |true=>
   rw[M,ip rfl] at O hk;have a3:Lw[k]? =some (i,p):=hk 0 _ rfl;have F:=y.go k S1 G (List.getElem?_eq_some_iff.1 a3).1 V;simp only[elV,List.getD_eq_getElem?_getD,a3,X,Option.getD_some] at F;have E:∀r h',(∃S',(∀i,S' i->S1 i\/G.next<=i)/\But S1 G h'/\((r= .bool true/\Y (k+1) S' h')\/(r= .bool false/\Z S' h')))->Q r h':=λr h' q=>O _ _ q;clear O P hY V a0 v0 v1 L hk a3 hn eL hd ih hf u hm X bb hG hE a6;cases e1:(n.var== -1) with
   |true=>
    clear o f1 f2 M;refine xO mix func120 J3 rfl rfl ?_;simp only[f120,gJ]
    repeat' first|simp only[go_sem, *]|apply bc<;>intro W
    refine F.mono λr h' B=> ?_;have B:=E r h' B;clear E F
    repeat' first|simp only[go_sem, *]|apply bc<;>intro W
   |false=>
    obtain⟨b1,g2,g3,g4⟩:=f2 (by simpa using e1);rw[e1,Bool.false_or] at M;obtain⟨v,L⟩:∃v:Nat,n.var=(v:Int):=⟨n.var.toNat,by omega⟩;rw[L,Int.toNat_natCast] at g2 M;have o:=o v g2;rw[M] at o;rw[L] at e1 F a1 g1 a5;clear f1 f2 b1 g2 g3 g4 M;clear L;refine xO mix func120 J3 rfl rfl ?_;simp only[f120,gJ]
    repeat' first|simp only[go_sem, *]|apply bc<;>intro W|(refine zA.mono (o _) ?_;rintro r h ⟨B,rfl⟩)
    subst B
    repeat' first|simp only[go_sem, *]|apply bc<;>intro W
    refine F.mono λr h' B=> ?_;have B:=E r h' B;clear E F
    repeat' first|simp only[go_sem, *]|apply bc<;>intro W
  |false=>
   rw[M,iq Bool.false_ne_true] at O hk;rw[Bool.or_eq_false_iff] at M;obtain⟨e1,e2⟩:=M;obtain⟨b1,g2,g3,g4⟩:=f2 (by simpa using e1);obtain⟨v,bs⟩:∃v:Nat,n.var=(v:Int):=⟨n.var.toNat,by omega⟩;have bo:n.var.toNat=v:=ow;rw[bo] at g2 g3 g4 e2 O hk;rw[bs] at e1 a1 g1 a5;have o:=o v g2;rw[e2] at o;generalize hK:(λj=>pW (List.range n.kids.length) (λk=>lvL c fs s m (n.kids.getD k 0).toNat (uP c fs p v k)) j)=K;have a7:K 0=0:=by rw[<-hK];exact kV _ _
   have ba:∀j,j<n.kids.length->K (j+1)=K j+(lvL c fs s m (n.kids.getD j 0).toNat (uP c fs p v j)).length:=λj J=>by rw[<-hK];exact sh (by simp[J])
   have a8:K n.kids.length=((List.range n.kids.length).flatMap λk=>lvL c fs s m (n.kids.getD k 0).toNat (uP c fs p v k)).length:=by
    have:=lL (List.range n.kids.length) (λk=>lvL c fs s m (n.kids.getD k 0).toNat (uP c fs p v k));rw[List.length_range] at this;rw[<-hK];exact this
   have a9:∀j,j<n.kids.length->∀q z,(lvL c fs s m (n.kids.getD j 0).toNat (uP c fs p v j))[q]? =some z->Lw[k+K j+q]? =some z:=λj J q z B=>by
    have h1:=Zz (l:=List.range n.kids.length) (f:=λk=>lvL c fs s m (n.kids.getD k 0).toNat (uP c fs p v k)) (a:=j) (x:=j) (b:=q) (by simp[J]) (List.getElem?_eq_some_iff.1 B).1;rw[Nat.add_assoc];refine hk _ z ?_;rw[<-hK];exact h1.trans B
   rw[<-a8] at O;obtain⟨I,H⟩:∃I:Nat->Heap->Prop,∀j h',I j h'↔∃S',(∀i,S' i->S1 i\/G.next<=i)/\But S1 G h'/\Y (k+K j) S' h':=⟨_,λ_ _=>Iff.rfl⟩;have ak:I 0 G:=(H _ _).2 ⟨S1,λi u=> .inl u,But.refl S1 G,by rw[a7];exact V⟩;have C:∀h',I n.kids.length h'->Q (.bool true) h':=λh' q=>by
    obtain⟨T,q1,q2,q3⟩:=(H _ _).1 q;exact O _ _ ⟨T,q1,q2, .inl ⟨rfl,q3⟩⟩
   have R:∀j (J:j<n.kids.length) h',I j h'->h'.at' vid=some (.row [Ku t vid d [ca,cb,ce,cp,x,td,od]])/\h'.at' N=some (.row [.int .i64 (v:Int),kd, .int .i64 n.row,fd])/\zA prog 120 [.int .i64 n.kids[j],FI (uP c fs p v j), .iptr [d] 0, .iptr [.iptr [ca,cb,ce,cp,x,td,od] 0] 0, .iptr [.yld t] 0, .ptr vid 0] h' λr h2=>(r= .bool true/\I (j+1) h2)\/(r= .bool false/\Q (.bool false) h2):=λj J h' q=>by
    obtain⟨T,q1,q2,q3⟩:=(H _ _).1 q;have b4:n.kids.getD j 0=n.kids[j]:=by rw[List.getD_eq_getElem?_getD,List.getElem?_eq_getElem J];rfl
    obtain⟨b1,b2⟩:=f1 _ (List.getElem_mem J);have b5:n.kids[j]=(((n.kids.getD j 0).toNat:Nat):Int):=by rw[b4];omega
    have bk:h'.at' vid=some (.row [Ku t vid d [ca,cb,ce,cp,x,td,od]]):=by rw[q2.2 vid ow v1,hE.2 vid v0];exact L
    refine⟨bk,by rw[q2.2 N ow a0];exact g1,?_⟩;rw[b5];refine(ih (n.kids.getD j 0).toNat (uP c fs p v j) ow ow (hp.dec ow) (k+K j) (a9 j J) T h' q3 (by have:=q2.1;omega) (λe=>(q1 vid e).elim v1 ow) bk).mono ?_;rintro r h2 ⟨U,u1,u2,u3⟩;have ai:∀i,U i->S1 i\/G.next<=i:=λi u=>by
     have:=q2.1;rcases u1 i u with q|q
     ·exact q1 i q
     ·exact .inr ow
    have ag:But S1 G h2:=q2.trans u2 q1;rcases u3 with⟨rfl,w⟩ | ⟨rfl,w⟩
    ·exact .inl ⟨rfl,(H _ _).2 ⟨U,ai,ag,by rw[ba j J,<-Nat.add_assoc];exact w⟩⟩
    ·exact .inr ⟨rfl,O _ _ ⟨U,ai,ag, .inr ⟨rfl,w⟩⟩⟩
   have ad:=λj (J:j<n.kids.length) g=>dw (t1:= .no) (t2:= .no) S hp (v:=v) (k:=j) g2 ow g;clear O P hY V a0 v0 v1 L hk hn eL hd ih hf u hm X hK a7 ba a8 a9 H f1 f2 b1 g2 g3 g4 e2 bs bo hG hE a6;refine xO mix func120 J3 rfl rfl ?_;simp only[f120,gJ]
   repeat' first|simp only[go_sem, *]|apply bc<;>intro W|(refine zA.mono (o _) ?_;rintro r h ⟨B,rfl⟩)
   subst B
   repeat' first|simp only[go_sem, *]|apply bc<;>intro W
   refine zC (λj fr h'=>fr 2= .iptr [d] 0/\fr 3= .iptr [.iptr [ca,cb,ce,cp,x,td,od] 0] 0/\fr 4= .iptr [.yld t] 0/\fr 5= .ptr vid 0/\fr 7= .iptr [tsD p,owD p] 0/\fr 9= .ptr N 0/\fr 31=kd/\fr 32= .int .i64 (n.kids.length:Int)/\fr 33= .int .i64 (j:Int)/\I j h') n.kids.length ow ?_ ?_ ?_
   ·clear C R ad;simp only[go_sem,true_and,and_true,Int.ofNat_zero];exact ak
   ·clear C ak o g1 a5;rintro j fr h' a4 ec ew ⟨f2,f3,f4,f5,f7,f9,bx,f32,b3,H⟩;obtain⟨r9,r10,A⟩:=R j a4 h' H;have a2:=ad j a4;have aj:=rJ k1 a4;have b6:HLe (Heap.one vid (.row [Ku t vid d [ca,cb,ce,cp,x,td,od]])) h':=by rw[se];exact r9
    clear R ad H r9;generalize n.kids[j]=b9 at *
    repeat' first|simp only[go_sem, *]|apply bc<;>intro W
    refine zM (Heap.one vid (.row [Ku t vid d [ca,cb,ce,cp,x,td,od]])) [(0, .st,true),(2, .no,true),(3, .no,true),(1, .no,true),(4, .no,true),(5, .no,true),(6, .no,true),(7, .no,true),(8, .no,false),(9, .no,false)] kr kr b6 ?_
    repeat' first|simp only[go_sem,rg, *]|apply bc<;>intro W|(refine zA.mono (a2 _) ?_;rintro r h ⟨B,rfl⟩)
    subst B
    repeat' first|simp only[go_sem, *]|apply bc<;>intro W
    refine A.mono ?_;rintro r h2 (⟨rfl,u⟩ | ⟨rfl,u⟩)
    ·clear A a2;exact au
    ·clear A a2;exact au
   ·clear R ad ak o;rintro fr h' ec ⟨f2,f3,f4,f5,f7,f9,bx,f32,b3,H⟩;have B:=C _ H;clear C H;exact au
def gP (sp:List D) (d:D):D:= .fn (.func 119) [] [.iptr [d] 0, .iptr [.iptr sp 0] 0]
def Kv (a:List D) (c:zd 4 xs d) (g:Heap):zA prog 65 [.iptr a 0,d] g λr h'=>h'=g/\r=gP a d:=by
 rcases c with⟨rfl,_⟩ | ⟨_,rfl⟩
 ·refine xO mix func65 zEw rfl rfl ?_;simp only[f65,gJ]
  repeat' first|simp only[go_sem,gP, *]|apply bc<;>intro b
 ·refine xO mix func65 zEw rfl rfl ?_;simp only[f65,gJ]
  repeat' first|simp only[go_sem,gP, *]|apply bc<;>intro b
def Qv (S:SpD c fs ca cb ce cp x td od) {k:List NdI} (A:RefD k d xs) (E:FewR k) (h0:0<k.length) (hf:∀i,i<k.length->rv c fs k.length i (k.getD i nd0)=true) {a:Nat} {Y:Nat->(Nat->Prop)->Heap->Prop} {Z:(Nat->Prop)->Heap->Prop} (y:Yld prog a (lvR c fs k).length (elV xs (lvR c fs k)) Y Z) (n:Y 0 U h):
  zA prog 119 [.yld a, .iptr [d] 0, .iptr [.iptr [ca,cb,ce,cp,x,td,od] 0] 0] h λ_ h'=>∃r,LvQ Y Z U h (lvR c fs k).length r h':=by
 have s:=KO S;have F:∀ (t:TypeId) (nid:Nat) (h:Heap),nQ t nid h (some .nilfn)=some (.ptr nid 0,h.new nid (.row [.nilfn])):=λ_ _ _=>rfl;have u:zQ prog 194 (.ptr h.next 0) (Ku a h.next d [ca,cb,ce,cp,x,td,od]) (h.new h.next (.row [.nilfn]))=some (h.new h.next (.row [Ku a h.next d [ca,cb,ce,cp,x,td,od]])):=zf EN ow rfl rfl rfl;obtain⟨G,D,v,l,m⟩:∃G:Heap,h.new h.next (.row [Ku a h.next d [ca,cb,ce,cp,x,td,od]])=G/\Ext h G/\G.at' h.next=some (.row [Ku a h.next d [ca,cb,ce,cp,x,td,od]])/\h.next<G.next:=⟨_,rfl,(Ext.refl h).new (Nat.le_refl _) _,zK _ _ _,by rw[zF];omega⟩;rw[D] at u
 have b:=zCS S A E hf y k.length 0 (uQ c fs) h0 ow (wM c fs _) 0 (λj q e=>by rw[Nat.zero_add];exact e) U G (y.ext n v) m (λe=>Nat.lt_irrefl _ (y.here _ _ _ n _ e)) l;have f:∀r h',LvQ Y Z U G (0+(lvR c fs k).length) r h'->LvQ Y Z U h (lvR c fs k).length r h':=by
  rintro r h' ⟨T,H,I,C⟩;rw[Nat.zero_add] at C;exact⟨T,λi o=>(H i o).imp id λq=>by omega,(v.but _).trans I λi o=> .inl o,C⟩
 have p:HLe (Heap.one h.next (.row [Ku a h.next d [ca,cb,ce,cp,x,td,od]])) G:=by rw[se];exact l
 clear n y A hf h0;refine xP λQ w=> ?_;have f:=λr h' q=>w (.tuple []) h' ⟨r,f r h' q⟩;clear w;rw[show((0:Nat):Int)=0 from rfl] at b
 refine xO mix func119 zAB rfl rfl ?_;simp only[f119,gJ]
 repeat' first|simp only[go_sem, *]|apply bc<;>intro z
 refine zM (Heap.one h.next (.row [Ku a h.next d [ca,cb,ce,cp,x,td,od]])) [(0, .st,true),(1, .no,true),(2, .no,true),(3, .no,false)] kr kr p ?_
 repeat' first|simp only[go_sem,rg, *]|apply bc<;>intro z|(refine zA.mono (s _) ?_;rintro r h ⟨B,rfl⟩)
 subst B
 repeat' first|simp only[go_sem, *]|apply bc<;>intro z
 refine b.mono λr h' q=> ?_;have B:=f r h' q;clear b f q;exact au
end
def kq.refD {b:List NdI} (h:kq b d):∃xs,RefD b d xs:=by
 obtain⟨xs,h1,c,h3⟩:=h;exact⟨xs,h1,λi a=>h3 i _ (by rw[YB a];exact getElem?_eq_getElem a)⟩
abbrev zDY (c:Cat) (fs:List Fac) (ns:List NdI) (k:Nat):Nat×Part:=(lvR c fs ns).getD k (0,⟨[],[]⟩)
def WRi (c:Cat) (fs:List Fac) (ns:List NdI) (n k:Nat) (S:Nat->Prop) (h:Heap):Prop:=n<h.next/\h.at' n=some (.row [.bool false])/\(∀j,j<k->Ks c fs ns (zDY c fs ns j)=true)/\∀i,S i↔i=n
def VRi (c:Cat) (fs:List Fac) (ns:List NdI) (n:Nat) (S:Nat->Prop) (h:Heap):Prop:=n<h.next/\h.at' n=some (.row [.bool false])/\(lvR c fs ns).all (Ks c fs ns)=false/\∀i,S i↔i=n
def WRi.lcl (c:Cat) (fs:List Fac) (j:List NdI) (n:Nat):Lcl (WRi c fs j n):=by
 refine⟨λk S h y i f=> ?_,λk S h h' y l g=> ?_⟩
 ·obtain⟨b,d,e,a⟩:=y;rw[(a i).1 f];exact b
 ·obtain⟨b,d,e,a⟩:=y;exact⟨by omega,by rw[g _ ((a _).2 rfl)];exact d,e,a⟩
def VRi.lcl (c:Cat) (fs:List Fac) (j:List NdI) (n:Nat):Lcl λ_=>VRi c fs j n:=by
 refine⟨λk S h y i f=> ?_,λk S h h' y l g=> ?_⟩
 ·obtain⟨b,d,e,a⟩:=y;rw[(a i).1 f];exact b
 ·obtain⟨b,d,e,a⟩:=y;exact⟨by omega,by rw[g _ ((a _).2 rfl)];exact d,e,a⟩
section
variable {c:Cat} {fs:List Fac} {ca cb ce cp x td od:D}
theorem zCT {b:List NdI} (hf:∀i,i<b.length->rv c fs b.length i (b.getD i nd0)=true):∀m i p,i<b.length->POk c fs p->∀l∈lvL c fs b m i p,l.1<b.length/\POk c fs l.2
 |0,i,p,d,f,l,a=>by cases a
 |m+1,i,p,d,f,l,a=>by
  obtain⟨j,n⟩:=YA (hf i d);unfold lvL at a;split at a
  ·rw[mem_singleton] at a;subst a;exact⟨d,f⟩
  ·rename_i g;rw[Bool.or_eq_true,not_or] at g;obtain⟨o,q,r,s⟩:=n (by simpa using g.1);obtain⟨k,h,a⟩:=mem_flatMap.1 a;rw[mem_range] at h;have e:(b.getD i nd0).kids.getD k 0∈(b.getD i nd0).kids:=Kr h;obtain⟨k1,k2⟩:=j _ e;exact zCT hf m _ _ ow (f.dec ow) l a
theorem HX (S:SpD c fs ca cb ce cp x td od) {f:List NdI} (hd:kq f d) (hR:FewR f) (g:Heap):zA prog 30 [.iptr [ca,cb,ce,cp,x,td,od] 0,d] g λr h'=>h'=g/\r= .bool (nZ c fs f):=by
 refine xU kr λb7=> ?_;refine xP λR a2=> ?_;have K:∀ (h:Heap) b,Ext g h->b=nZ c fs f->R (.bool b) h:=λh b hE e=>a2 _ _ ⟨hE,trivial,by rw[e]⟩;clear a2;obtain⟨n,hn⟩:∃n,g.next=n:=⟨_,rfl⟩;obtain⟨G,hG,b2,g1,hE⟩:∃G:Heap,g.new n (.row [.bool false])=G/\G.next=n+1/\G.at' n=some (.row [.bool false])/\Ext g G:=⟨_,rfl,by rw[<-hn];exact zF _ _,zK _ _ _,by rw[<-hn];exact(Ext.refl g).new (le_refl _) _⟩;have s0:zQ prog 4 (.ptr n 0) (.bool false) G=some G:=by
  rw[zR g1 Pk (by simp) rfl rfl];exact congrArg some (uY g1)
 have b8:∀ (nid:Nat) (h:Heap),nQ 4 nid h (some (.bool false))=some (.ptr nid 0,h.new nid (.row [.bool false])):=λ_ _=>rfl;have cc:=hd.sl.2;cases e0:((f.length:Int)==0) with
 |true=>
  have y:=K G false hE (by
   have:f.length=0:=by have:=eq_of_beq e0;omega
   unfold nZ;rw[this];rfl)
  clear hd hR K;refine xO mix func30 zFM rfl rfl ?_;simp only[f30,gJ]
  repeat' first|simp only[go_sem, *]|apply bc<;>intro M
 |false=>
 have h0:0<f.length:=by
  rcases Nat.eq_zero_or_pos f.length with q|q
  ·rw[q] at e0;cases e0
  ·exact q
 have cf:=hR.len;have N:=λi (w:i<f.length)=>Kt S hd hR w;have t:∀i,i<f.length->rv c fs f.length i (f.getD i nd0)=false->R (.bool false) G:=λi w e=>K G false hE (by
  have:(List.range f.length).all (λi=>rv c fs f.length i (f.getD i nd0))=false:=Bool.eq_false_iff.2 λh=>by
   have:=all_eq_true.1 h i (mem_range.2 w);rw[e] at this;cases this
  unfold nZ;rw[this];simp)
 have o:(∀i,i<f.length->rv c fs f.length i (f.getD i nd0)=true)->∀h b,Ext g h->(lvR c fs f).all (Ks c fs f)=b->R (.bool b) h:=λh H b hE e=>K H b hE (by
  have h1:(List.range f.length).all (λi=>rv c fs f.length i (f.getD i nd0))=true:=all_eq_true.2 λi w=>h i (mem_range.1 w);have h2:(f.length==0)=false:=beq_eq_false_iff_ne.2 ow;unfold nZ;rw[h1,h2,e];rfl)
 obtain⟨xs,E⟩:=hd.refD;have ad:=Kv [ca,cb,ce,cp,x,td,od] E.sl;clear K hd;refine xO mix func30 zFM rfl rfl ?_;simp only[f30,gJ]
 repeat' first|simp only[go_sem, *]|apply bc<;>intro M
 refine zC (λj fr h=>fr 1=d/\fr 2= .iptr [.iptr [ca,cb,ce,cp,x,td,od] 0] 0/\fr 4= .ptr n 0/\fr 12= .int .i64 (f.length:Int)/\fr 13= .int .i64 (j:Int)/\h=G/\∀q,q<j->rv c fs f.length q (f.getD q nd0)=true) f.length ow ?_ ?_ ?_
 ·clear t o N ad;simp only[go_sem,true_and,and_true,Int.ofNat_zero];exact λq y=>absurd y (Nat.not_lt_zero _)
 ·clear o ad;rintro j fr h a9 ec ew ⟨f1,f2,f4,bx,b1,y,A⟩;subst y;have Z:=N j a9;have Y:=t j a9;cases ef:rv c fs f.length j (f.getD j nd0) with
  |false=>
   rw[ef] at Z;have Y:=Y ef;clear N t A
   repeat' first|simp only[go_sem, *]|apply bc<;>intro M|(refine zA.mono (Z _) ?_;rintro r h ⟨y,rfl⟩)
  |true=>
   rw[ef] at Z;have hn:∀q,q<j+1->rv c fs f.length q (f.getD q nd0)=true:=λq y=>by
    rcases Nat.lt_succ_iff_lt_or_eq.1 y with e|rfl
    ·exact A q e
    ·exact ef
   clear N t A Y
   repeat' first|simp only[go_sem, *]|apply bc<;>intro M|(refine zA.mono (Z _) ?_;rintro r h ⟨y,rfl⟩)
   subst y
   repeat' first|simp only[go_sem, *]|apply bc<;>intro M
   exact hn
 rintro fr h ec ⟨f1,f2,f4,bx,b1,y,hf⟩;subst y;have o:=o hf;clear t N
 repeat' first|simp only[go_sem,gP, *]|apply bc<;>intro M|(refine zA.mono (ad _) ?_;rintro r h ⟨y,rfl⟩)
 subst y
 rename Heap=>G
 generalize s:LRec.mk _ _ _ _ _ _ _=L;have b4:L.pending=none:=by rw[<-s]
 have b5:L.st= .ready:=by rw[<-s]
 have X:WRi c fs f n 0 (λj=>j=n) G:=⟨by omega,g1,λj A=>absurd A (Nat.not_lt_zero _),λ_=>Iff.rfl⟩;clear ad;refine WD (W:=WRi c fs f n) (V:=VRi c fs f n) (n:=(lvR c fs f).length) (el:=elV xs (lvR c fs f)) b2 (WRi.lcl c fs f n) (VRi.lcl c fs f n) b5 b4 X (λyl b3=>(Qv S E hR h0 hf yl b3).mono λr h' ⟨r',T,q1,q2,q3⟩=>⟨T,q1,q2,q3.imp (λq=>q.2) λq=>q.2⟩) ?_ ?_ ?_
 ·intro k S0 h3 hk O a7 b6 ba;have P:=a7;rw[<-s] at P;obtain⟨w1,w2,w3,w4⟩:=b6;obtain⟨l,hl⟩:∃l,zDY c fs f k=l:=⟨_,rfl⟩;have aj:l∈lvR c fs f:=by rw[<-hl,zDY,getD_eq_getElem?_getD,getElem?_eq_getElem hk];exact getElem_mem _
  obtain⟨i1,i2⟩:=zCT hf _ _ _ h0 (wM c fs _) l aj;obtain⟨i,q⟩:=l;simp only at i1 i2;obtain⟨cs,a3,kd,fd,e,k1,k2⟩:=E.at' i i1;have a4:elV xs (lvR c fs f) k= [.agg cs,FI q]:=by
   simp only[elV];rw[show(lvR c fs f).getD k (0,⟨[],[]⟩)=(i,q) from hl,getD_eq_getElem?_getD,a3];rfl
  rw[a4];have b9:(f.getD i nd0).facts.length<=12:=by rw[YB i1];exact hR.facts _ (getElem_mem i1)
  have ai:=Qm (i2.cin S) (v:=(f.getD i nd0).v) (cv:=[.int .i64 (f.getD i nd0).row,fd]) ⟨fd,rfl,k2,by show(f.getD i nd0).facts.length<=_;omega⟩;have bk:Ks c fs f (i,q)=((f.getD i nd0).var== -1&&oT c fs (nH q) (f.getD i nd0).v==0):=rfl;have cg:∀a b e p:D,zN true 4 [a,b,e,p] 0=some (.agg [a,b,e,p]):=λa b e p=>zB rfl ow;have ch:zN true 4 [ca,cb,ce,cp,x,td,od] 0=some (.agg [ca,cb,ce,cp]):=rfl;have cl:∀a b e p:D,zN true 2 [a,b,e,p] 2=some (.agg [e,p]):=λa b e p=>rfl;subst e;obtain⟨m,hm⟩:∃m,h3.next=m:=⟨_,rfl⟩
  obtain⟨h4,a5,u2,u3,u4⟩:∃h4:Heap,h3.new m (.row [.int .i64 (f.getD i nd0).var,kd, .int .i64 (f.getD i nd0).row,fd])=h4/\h4.next=m+1/\h4.at' m=some (.row [.int .i64 (f.getD i nd0).var,kd, .int .i64 (f.getD i nd0).row,fd])/\Ext h3 h4:=⟨_,rfl,by rw[<-hm];exact zF _ _,zK _ _ _,by rw[<-hm];exact(Ext.refl h3).new (le_refl _) _⟩;obtain⟨h5,a6,p1,p2,p3⟩:∃h5:Heap,h4.new (m+1) (.row [tsD q,owD q])=h5/\h5.at' (m+1)=some (.row [tsD q,owD q])/\h5.at' m=some (.row [.int .i64 (f.getD i nd0).var,kd, .int .i64 (f.getD i nd0).row,fd])/\Ext h3 h5:=⟨_,rfl,zK _ _ _,by rw[zH ow];exact u3,u4.new ow _⟩
  have bo:zQ prog 67 (.ptr m 0) (.agg [.int .i64 (f.getD i nd0).var,kd, .int .i64 (f.getD i nd0).row,fd]) (h3.new m (.row [.int .i64 0, .nilsl, .int .i64 0, .nilsl]))=some h4:=by
   rw[<-a5];exact zf nP ow rfl rfl (by simp[(zI k1).2.2,(zI k2).2.2];exact⟨rfl,rfl⟩)
  have bs:zQ prog 33 (.ptr (m+1) 0) (.agg [tsD q,owD q]) (h4.new (m+1) (.row [.nilsl, .nilsl]))=some h5:=by
   rw[<-a6];exact zf Pn ow rfl rfl rfl
  have a8:h5.at' (n+1)=some (.loop L):=by rw[p3.2 _ O];exact a7
  have Q:=a8;rw[<-s] at Q;have ag:Ks c fs f (i,q)=false->(lvR c fs f).all (Ks c fs f)=false:=λe=>Bool.eq_false_iff.2 λh=>by
   have:=all_eq_true.1 h _ aj;rw[e] at this;cases this
  refine yg.round (g:=R6) mix P rfl kr kr kr ?_;simp only[go_sem,hm,u2,bo,bs];refine⟨Q,?_⟩;generalize a0:LRec.mk .busy _ _ _ _ _ _=B;have a1:({ B with st:= .ready,pending:=none } :LRec)=L:=by rw[<-a0,<-s]
  obtain⟨I,U,t1,t2,t3⟩:∃I,h5.set (n+1) (.loop B)=I/\I.at' n=some (.row [.bool false])/\I.at' (n+1)=some (.loop B)/\But (λi=>i=n+1) h3 I:=⟨_,rfl,by rw[zE ow,p3.2 n w1];exact w2,zD _ _ _,by rw[zT];exact p3.1,λi hl w=>by rw[zE w];exact p3.2 i hl⟩;have v1:I.at' m=some (.row [.int .i64 (f.getD i nd0).var,kd, .int .i64 (f.getD i nd0).row,fd]):=by rw[<-U,zE ow];exact p2
  have v2:I.at' (m+1)=some (.row [tsD q,owD q]):=by rw[<-U,zE ow];exact p1
  rw[U];have s1:zQ prog 4 (.ptr n 0) (.bool false) I=some I:=by
   rw[zR t1 Pk (by simp) rfl rfl];exact congrArg some (uY t1)
  have bb:n<I.next:=lt_of_lt_of_le w1 t3.1;have C:Ks c fs f (i,q)=true->∀fr,wK (LpZ (n+1) L (WRi c fs f n) (VRi c fs f n) k S0 h3) (n+1) .normal fr I:=λho fr=>
   Lp.finZ (WRi.lcl c fs f n) a1 O ba t2 (S':=S0) (λi w=> .inl w) ⟨t3.1,λi w ak=>t3.2 i w λe=>ak (.inl e)⟩ ⟨bb,t1,λj A=>by
    rcases Nat.lt_succ_iff_lt_or_eq.1 A with e|rfl
    ·exact w3 j e
    ·rw[hl];exact ho,w4⟩
  have u:Ks c fs f (i,q)=false->∀fr,wK (LpZ (n+1) L (WRi c fs f n) (VRi c fs f n) k S0 h3) (n+1) .ret fr I:=λho fr=>
   Lp.retZ (VRi.lcl c fs f n) a1 O ba t2 (S':=S0) (λi w=> .inl w) ⟨t3.1,λi w ak=>t3.2 i w λe=>ak (.inl e)⟩ ⟨bb,t1,ag ho,w4⟩
  rw[bk] at C u;generalize f.getD i nd0=nd at *
  generalize oT c fs (nH q) nd.v=ck at *
  clear s a0 U P Q a8 X o ag a4 bk aj hl k1 k2 a3 E hf w1 w2 w3 w4 i1 i2 S bo bs a5 a6 u2 u3 u4 p1 p2 p3 hm;cases e1:(nd.var== -1) with
  |false=>
   rw[e1] at u;have z:=u rfl;clear u C ai
   repeat' first|simp only[go_sem, *]|apply bc<;>intro M
   refine zM Heap.emp [(0, .no,false),(1, .no,false),(2, .no,false),(3, .no,false),(4, .no,false),(8, .no,false),(12, .no,false),(5, .no,false),(6, .no,false),(7, .no,false),(9, .no,false),(10, .no,false),(11, .no,false),(13, .no,false),(14, .no,false),(15, .no,false),(16, .no,false),(17, .no,false)] kr kr (λi ob e=>by cases e) ?_
   repeat' first|simp only[go_sem, *]|apply bc<;>intro M
  |true=>
   cases e2:(ck==0) with
   |false=>
    rw[e1,e2] at u;have z:=u rfl;clear u C
    repeat' first|simp only[go_sem, *]|apply bc<;>intro M
    refine zM Heap.emp [(0, .no,false),(1, .no,false),(2, .no,false),(3, .no,false),(4, .no,false),(8, .no,false),(12, .no,false),(5, .no,false),(6, .no,false),(7, .no,false),(9, .no,false),(10, .no,false),(11, .no,false),(13, .no,false),(14, .no,false),(15, .no,false),(16, .no,false),(17, .no,false)] kr kr (λi ob e=>by cases e) ?_
    repeat' first|simp only[go_sem, *]|apply bc<;>intro M|(refine zA.mono (ai _) ?_;rintro r h ⟨y,rfl⟩)
   |true=>
    rw[e1,e2] at C;have z:=C rfl;clear u C
    repeat' first|simp only[go_sem, *]|apply bc<;>intro M
    refine zM Heap.emp [(0, .no,false),(1, .no,false),(2, .no,false),(3, .no,false),(4, .no,false),(8, .no,false),(12, .no,false),(5, .no,false),(6, .no,false),(7, .no,false),(9, .no,false),(10, .no,false),(11, .no,false),(13, .no,false),(14, .no,false),(15, .no,false),(16, .no,false),(17, .no,false)] kr kr (λi ob e=>by cases e) ?_
    repeat' first|simp only[go_sem, *]|apply bc<;>intro M|(refine zA.mono (ai _) ?_;rintro r h ⟨y,rfl⟩)
 ·intro S' h2 hs Y hw;obtain⟨w1,w2,w3,w4⟩:=hw;have J:Ext g h2:=Ext.of_but hE Y λj A=>by subst A;omega
  obtain⟨F,hF,E1,f1⟩:∃F,h2.set n (.row [.bool true])=F/\Ext g F/\F.at' n=some (.row [.bool true]):=⟨_,rfl,J.set ow _,zD _ _ _⟩;have s1:zQ prog 4 (.ptr n 0) (.bool true) h2=some F:=by
   rw[zR w2 Pk (by simp) rfl rfl,<-hF];rfl
  have z:=o F true E1 (all_eq_true.2 λl hl=>by
   obtain⟨j,A,rfl⟩:=mem_iff_getElem.1 hl;have:=w3 j A
   rwa [zDY,getD_eq_getElem?_getD,getElem?_eq_getElem A] at this)
  clear s X o J hs Y w3 w4 hF E1 E hf;exact au
 ·intro S' h2 hs Y hw;obtain⟨w1,w2,w3,w4⟩:=hw;have J:Ext g h2:=Ext.of_but hE Y λj A=>by subst A;omega
  have z:=o h2 false J w3;clear s X o J hs Y w3 w4 E hf;exact au
end
def WY (c:Cat) (fs:List Fac) (y:Cho):Bool:=if(!(zw c fs y false==0))=true then false else !(V5 c fs y).head?.isSome
def WZ (c:Cat) (fs:List Fac) (y:Cho):ja c fs y= .tuple [.bool (WY c fs y), .int .i64 (zw c fs y false)]:=by
 unfold ja WY;split
 ·rfl
 ·rename_i h
  have:zw c fs y false=0:=by simpa using h
  rw[this]
def Qw (c:Cat) (fs:List Fac) (b:Bool) (y:Cho) (ns:List NdI):Int:=
 if(!(yr c fs==0))=true then yr c fs else
 if b=true then(if(decide ((ns.length:Int)>0)|| !(zw c fs y false==0)|| !(WY c fs y))=true then 18 else 0)
 else if(decide ((y.ts.length:Int)+(y.own.length:Int)>0)|| !(nZ c fs ns))=true then 18 else 0
variable {c:Cat}{fs:List Fac}{x:D}
def HY {ca cb ce cp x:D} (o:yu c (.agg [ca,cb,ce,cp])) (B:c.Sm) (C:zd 12 (nz fs) x) (w:LU fs) (p:∀f∈fs,f.Ok) {y:Cho} {F E rd:D} (K:Xv y (.agg [F,E])) (n:y.Sm) {s:List NdI} (z:kq s rd) (G:FewR s) (g:Heap):
  zA prog 12 [.agg [ca,cb,ce,cp],x, .agg [.bool b,F,E,rd]] g λr h'=>h'=g/\r= .int .i64 (Qw c fs b y s):=by
 refine xP λQ u=> ?_;have i:∀v,v=Qw c fs b y s->Q (.int .i64 v) g:=λv e=>u _ _ ⟨rfl,by rw[e]⟩;clear u;unfold Qw at i;have I:CIn c fs y (.agg [ca,cb,ce,cp]) x (.agg [F,E]):=⟨o,B,C,by have:=w.1.2;omega,w.1.1,p,K,n⟩;have l:=lh I;rw[WZ] at l;have d:=KP o B C w p;have L:=z.sl.2;have O:∀a b c e:D,zN true 2 [a,b,c,e] 1=some (.agg [b,c]):=λa b c e=>rfl;obtain⟨W,V,e,J,H⟩:=K;cases e;have N:=qN J;have M:=yL H;have P:IntKind.i64.wrap ((y.ts.length:Int)+(y.own.length:Int))=(y.ts.length:Int)+(y.own.length:Int):=by
  have:=n.tl;have:=n.ol;exact zj ow ow
 cases t:(yr c fs==0) with
 |false=>
  have A:yr c fs≠0:=by simpa using t
  rw[t,ip (by rfl)] at i;have j:=i _ rfl;have d:∀g,zA prog 29 [.agg [ca,cb,ce,cp],x] g λr h'=>h'=g/\r= .tuple [.nilptr, .int .i64 (yr c fs)]:=λg=>(d g).mono λr h' q=>⟨q.1,by
   rcases q.2 with⟨_,e⟩ | ⟨e,_⟩
   ·exact e
   ·exact absurd e A⟩
  clear i l I P;refine xO mix func12 zC3 rfl rfl ?_;simp only[f12,gJ]
  repeat' first|simp only[go_sem, *]|apply bc<;>intro o|(refine zA.mono (d _) ?_;rintro r h ⟨j,rfl⟩)
 |true=>
  rw[t,iq (by decide)] at i;have d:∀g,zA prog 29 [.agg [ca,cb,ce,cp],x] g λr h'=>h'=g/\∃td od,r= .tuple [.iptr [ca,cb,ce,cp,x,td,od] 0, .int .i64 0]/\SpD c fs ca cb ce cp x td od:=λg=>(d g).mono λr h' q=>⟨q.1,by
   rcases q.2 with⟨e,_⟩ | ⟨_,td,od,e,S,_⟩
   ·exact absurd (eq_of_beq t) e
   ·exact⟨td,od,e,S⟩⟩
  have m:∀td od,SpD c fs ca cb ce cp x td od->∀g,zA prog 30 [.iptr [ca,cb,ce,cp,x,td,od] 0,rd] g λr h'=>h'=g/\r= .bool (nZ c fs s):=λtd od S g=>HX S z G g;clear t z G I J H n o B C w p;generalize WY c fs y=R at *
  generalize zw c fs y false=T at *
  generalize nZ c fs s=U at *
  cases b with
  |true=>
   rw[ip rfl] at i;clear m;refine xO mix func12 zC3 rfl rfl ?_;simp only[f12,gJ]
   repeat' first|simp only[go_sem, *]|apply bc<;>intro o
   refine(d _).mono ?_;rintro r k ⟨j,td,od,rfl,S⟩;subst j;clear d S;cases e1:decide ((s.length:Int)>0)<;>cases e2:(T==0)<;>cases R<;>rw[e1,e2] at i<;>have j:=i _ rfl<;>clear i<;>simp only[Bool.not_true,Bool.not_false,Bool.or_true,Bool.true_or,Bool.or_false,Bool.false_or,Bool.or_self,Bool.false_eq_true,if_true,if_false] at j
   all_goals
    repeat' first|simp only[go_sem, *]|apply bc<;>intro o|(refine zA.mono (l _) ?_;rintro r h ⟨j,rfl⟩)
  |false=>
   rw[iq Bool.false_ne_true] at i;clear l;refine xO mix func12 zC3 rfl rfl ?_;simp only[f12,gJ]
   repeat' first|simp only[go_sem, *]|apply bc<;>intro o
   refine(d _).mono ?_;rintro r k ⟨j,td,od,rfl,S⟩;subst j;have m:=m td od S;clear d S;cases e1:decide ((y.ts.length:Int)+(y.own.length:Int)>0)<;>cases U<;>rw[e1] at i<;>have j:=i _ rfl<;>clear i<;>simp only[Bool.not_true,Bool.not_false,Bool.or_true,Bool.true_or,Bool.or_false,Bool.false_or,Bool.or_self,Bool.false_eq_true,if_true,if_false] at j
   all_goals
    repeat' first|simp only[go_sem, *]|apply bc<;>intro o|(refine zA.mono (m _) ?_;rintro r h ⟨j,rfl⟩)
end Go.V
