/- Contracts of functions that the law reaches, part 2. No condition. -/
import Derived.Test.YthcjhnmnhfgdiaaGreatDoorW40
import Derived.Test.YthcjhnmnhfgdiaaGreatDoorW27
set_option linter.all false
set_option maxHeartbeats 8000000
namespace Go.V
open Go.Proofs.Tryz
open Go.Proofs
set_option maxRecDepth 100000
def R4:∀ (n:Nat) {e:Ex},e.size<=n->e.Ok->e.size<=1048576->∀g:Heap,zA prog 61 [.agg e.cells] g λr h'=>h'=g/\r= .int .i64 (e.size:Int):=by
 intro n
 induction n with
 |zero=>intro e h;cases e;simp only[Ex.size] at h;omega
 |succ n y=>
 intro e H f o g;obtain⟨k,z,x,l,d⟩:=e;simp only[Ex.size,Ex.Ok] at H f o;obtain⟨u,L,_,_,j⟩:=f;have v:=uB u;have E:(Ex.mk k z x l d).size=zh l+1:=by simp only[Ex.size]
 rw[E];refine xO mix func61 zHl rfl rfl ?_;simp only[f61,gJ];simp only[Ex.cells,Ex.kind,Ex.name,Ex.exc,Ex.d]
 repeat' first|simp only[go_sem, *]|apply bc<;>intro F
 refine zD (λi fr h=>fr 1= .iptr [.int .i64 k, .str z, .str x,d] 0/\fr 4= .int .i64 (i:Int)/\fr 3= .int .i64 ((zh (l.take i)+1:Nat):Int)/\h=g) l.length ow ?_ ?_ ?_
 ·have J:zh (l.take 0)+1=1:=by simp[zh]
  simp only[go_sem,true_and,and_true,Int.ofNat_zero,J];rfl
 ·rintro i fr h c B K ⟨C,D,q,rfl⟩;have A:=rX u c;have m:l[i]∈l:=List.getElem_mem c;have w:=y (e:=l[i]) (by have:=yY m;omega) (uA j _ m) (by have:=yY m;omega);have p:zh (l.take (i+1))=zh (l.take i)+l[i].size:=by rw[List.take_succ_eq_append_getElem c,oY]
  have G:zh (l.take (i+1))<=zh l:=by
   have:=List.take_append_drop (i+1) l;have key:∀a b:List Ex,zh a<=zh (a++b):=λa b=>by
    induction a with
    |nil=>simp[zh]
    |cons x a y=>simp only[List.cons_append,zh];omega
   have s:=key (l.take (i+1)) (l.drop (i+1));rw[this] at s;exact s
  have t:IntKind.i64.wrap (((zh (l.take i)+1:Nat):Int)+(l[i].size:Int))=((zh (l.take (i+1))+1:Nat):Int):=by rw[p,zd ow ow];omega
  simp only[Ex.cells] at A w
  repeat' first|simp only[go_sem, *]|apply bc<;>intro F|(refine zA.mono (w _) ?_;rintro r h ⟨I,rfl⟩)
 ·rintro fr h B ⟨C,D,q,rfl⟩;rw[List.take_length] at q;exact au
variable {c:Cat}{d x:D}{fs:List Fac}{i sz n:Nat}{tk:Tk}{K:D->Heap->Prop}{xs:List (List D)}{ts:List Trm}{e:Ex}{b:Bool}{p:Part}{f:FuncId}{cap:List D}
def VW (l:yt c d) (H:c.Sm) (C:zZ 12 (nb fs) x) (N:fs.length<=1048576) (s:∀f∈fs,f.Ok0) (g:Heap):zA prog 26 [d,x] g λr h'=>h'=g/\∃b,r= .bool b/\(b=true->L5 fs/\c.ls.length<=40):=by
 refine xP λQ E=> ?_;have hf:Q (.bool false) g:=E _ _ ⟨rfl,_,rfl,λq=>by cases q⟩;have k:L5 fs/\c.ls.length<=40->∀b,Q (.bool b) g:=λR b=>E _ _ ⟨rfl,b,rfl,λ_=>R⟩;have O:=uR C;have B:=MX l H C N s;have p:=H.cs;obtain⟨ca,cb,ce,cp,rfl,_,_,F,_⟩:=l;have L:=pL;have T:=pI F;have U:=p.1;have S:=isI;refine xO mix func26 zHp rfl rfl ?_;simp only[f26,gJ]
 repeat' first|simp only[go_sem, *]|apply bc<;>intro l
 refine(B _).mono ?_;rintro r h ⟨j,b,rfl,M⟩;subst j;cases b with
 |false=>
  repeat' first|simp only[go_sem, *]|apply bc<;>intro l
 |true=>
 have v:=M rfl;have k:=k v;have v:=v.1
 repeat' first|simp only[go_sem, *]|apply bc<;>intro l
 refine zD (λi fr h'=>fr 1=x/\fr 2= .iptr [ca,cb,ce,cp] 0/\fr 7= .int .i64 (i:Int)/\IsI (fr 5)/\IsI (fr 6)/\h'=h) c.cs.length ow ?_ ?_ ?_
 ·simp only[go_sem,true_and,and_true,Int.ofNat_zero,isI]
 ·rintro i fr h a z I ⟨m,A,J,⟨t,n⟩,⟨u,o⟩,j⟩;subst j;have w:=p6 F a;have o1:=yK (p.2 _ (List.getElem_mem a)).1;generalize c.cs[i]=y at *
  simp only[Cla.cells] at w;exact au
 rintro fr h z ⟨m,A,J,⟨t,n⟩,⟨u,o⟩,j⟩;subst j
 repeat' first|simp only[go_sem, *]|apply bc<;>intro l
 refine zD (λi fr h'=>fr 1=x/\fr 8= .int .i64 (i:Int)/\IsI (fr 5)/\IsI (fr 6)/\h'=h) fs.length ow ?_ ?_ ?_
 ·simp only[go_sem,true_and,and_true,Int.ofNat_zero,isI,m,n,o]
 ·clear m A n o t u;rintro i fr h a z I ⟨m,K,⟨t,n⟩,⟨u,o⟩,j⟩;subst j;have w:=qZ C a;have G:=List.getElem_mem a;have D:=R4 _ (Nat.le_refl _) (s _ G).e (by have:=v.2 _ G;omega);generalize fs[i]=f at *
  simp only[Fac.cells] at w;simp only[Ex.cells] at D
  repeat' first|simp only[go_sem, *]|apply bc<;>intro l|(refine zA.mono (D _) ?_;rintro r h ⟨P,rfl⟩)
 ·clear m A n o t u;rintro fr h z ⟨m,K,⟨t,n⟩,⟨u,o⟩,j⟩;subst j;exact au
def Xr (x y:Trm) (g:Heap):zA prog 389 [.agg x.cells, .agg y.cells] g λr h'=>h'=g/\∃b,r= .bool b:=by
 refine xP λQ c=> ?_;have a:∀b,Q (.bool b) g:=λb=>c _ _ ⟨rfl,b,rfl⟩;refine xO mix func389 zFB rfl rfl ?_;simp only[f389,gJ];simp only[Trm.cells];exact au
def IE (x:Trm) (nid:Nat) (h:Heap):zI prog false nid 127 1 [(0, .agg [.str x.a, .str x.b])] h=some (.sl 2 [[.str x.a, .str x.b]] .full,h):=zz gq qt yv rfl rfl ow ow rfl rfl
def Xs {l:List Trm} (a:zZ 2 (yT l) d) (h:Heap):tU prog 127 d h=some (.int .i64 l.length):=by rw[yc a underlying127,yQ]
def Tg {l:List Trm} (a:zZ 2 (yT l) d) (b:i<l.length):zQ prog 127 d (.int .i64 (i:Int))=some (.iptr l[i].cells 0):=zb a gq yv (jw b)
def OwT (G h:Heap) (d:D) (m:Nat):Prop:=∃ts,Own G h 2 (yT ts) d/\ts.length<=m
def bt (l:List Trm):∀x∈yT l,yf x:=λx a=>by
 obtain⟨y,_,rfl⟩:=List.mem_map.1 a;exact⟨rfl,by simp[Trm.cells,zf,below],by simp[Trm.cells,zq,zi]⟩
def OwT.app {G h:Heap} {m:Nat} {x:Trm} {w:HidR K} (i:OwT G h d m) (k:m<=1048576) (g:∀c h',OwT G h' c (m+1)->K c h'):L4 (zu prog false h.next 127 d (.sl 2 [[.str x.a, .str x.b]] tk) h) K w:=by
 obtain⟨f,h1,j⟩:=i;refine h1.appH (ys:=yT [x]) gq jm yv ow (wt _) (by simp[yT]) (by rw[yQ,rV];unfold lim;simp[yT];omega) (by rw[yQ];unfold lim;simp[yT];omega) λc h' e=> ?_;refine g c h' ⟨f++ [x],?_,by simp;omega⟩
 have:yT (f++ [x])=yT f++yT [x]:=by simp[yT]
 rw[this];exact e
def OwT.fin {G h:Heap} {m:Nat} (g:OwT G h d m):Ext G h/\below G.next (zi d)/\∃a,Fin 2 (yT a) (zi d)/\a.length<=m:=by
 obtain⟨a,h1,f⟩:=g;obtain⟨b,c,e⟩:=h1.fin (bt _);exact⟨b,c,a,e,f⟩
def zBJ {l:List Trm} (E:zZ 2 (yT l) d) (Y:l.length<=65536) (t:Trm) (g:Heap):zA prog 387 [d, .agg t.cells] g λr h'=>h'=g/\∃p,Fin 2 (yT p) r/\p.length<=l.length+1:=by
 refine xU kr λT=>xS ?_;refine xP λQ R=> ?_;have F:=Xs E;have s:=Xr;have G:=IE;have f:∀d h,OwT g h d (l.length+1)->Q d h:=λd h j=>by
  obtain⟨K,L,p,v,M⟩:=j.fin;exact R _ _ ⟨K,L,p,v,M⟩
 have S:=Y9;simp only[Trm.cells] at s⊢;refine xO mix func387 zEO rfl rfl ?_;simp only[f387,gJ];simp only[go_sem, *];refine zD (λi fr h=>fr 0=d/\fr 3= .iptr [.str t.a, .str t.b] 0/\fr 7= .int .i64 (i:Int)/\∃b:Bool,fr 6= .bool b/\OwT g h (fr 5) (i+b.toNat)) l.length ow ?_ ?_ ?_
 ·have A:OwT g g .nilsl (0+false.toNat):=⟨[],Own.start (Ext.refl g) 2,by simp⟩;simp only[go_sem,true_and,and_true,Int.ofNat_zero];exact⟨false,rfl,A⟩
 ·rintro i fr h y I X ⟨J,v,O,b,N,j⟩;obtain⟨o,w⟩:∃o,fr 5=o:=⟨_,rfl⟩;rw[w] at j;have H:=Tg E y;generalize l[i]=x at *
  simp only[Trm.cells] at H;simp only[go_sem, *];refine zO Heap.emp [(4, .no,false),(0, .no,false),(1, .no,false),(2, .no,false),(3, .no,false),(5, .no,false)] kr kr (λi C e=>by cases e) ?_;cases b with
  |true=>
   simp only[Bool.toNat_true] at j;cases B:(x.a==t.a&&x.b==t.b) with
   |_=>
    simp only[go_sem, *];refine zO Heap.emp [(0, .no,false),(1, .no,false),(2, .no,false),(3, .no,false),(4, .no,false),(5, .no,false),(6, .no,false),(7, .no,false),(8, .no,false),(9, .no,false)] kr kr (λi C e=>by cases e) ?_;simp only[go_sem, *];refine j.app ow λu h' c=> ?_;simp only[go_sem, *];exact⟨true,rfl,by simpa using c⟩
  |false=>
   simp only[Bool.toNat_false,Nat.add_zero] at j;have k:∀ {h d},OwT g h d (i+1)->∃b:Bool,(D.bool true)= .bool b/\OwT g h d (i+1+b.toNat):=λ⟨p,V,Z⟩=>⟨true,rfl,p,V,by simp;omega⟩;have m:∀ {h d},OwT g h d (i+1+1)->∃b:Bool,(D.bool true)= .bool b/\OwT g h d (i+1+b.toNat):=λq=>⟨true,rfl,q⟩;have n:∀ {h d},OwT g h d (i+1)->∃b:Bool,(D.bool false)= .bool b/\OwT g h d (i+1+b.toNat):=λq=>⟨false,rfl,q⟩;cases B:(x.a==t.a&&x.b==t.b) with
   |true=>
    simp only[go_sem, *];refine zO Heap.emp [(0, .no,false),(1, .no,false),(2, .no,false),(3, .no,false),(4, .no,false),(5, .no,false),(6, .no,false),(7, .no,false),(8, .no,false),(9, .no,false)] kr kr (λi C e=>by cases e) ?_;simp only[go_sem, *];refine j.app ow λu h' c=> ?_;have k:=k c;simp only[go_sem, *]
   |false=>
    simp only[go_sem, *];refine zO Heap.emp [(0, .no,false),(1, .no,false),(2, .no,false),(3, .no,false),(4, .no,false),(5, .no,false),(6, .no,false),(7, .no,false),(8, .no,false),(9, .no,false)] kr kr (λi C e=>by cases e) ?_;simp only[go_sem, *];refine(s _ _ _).mono ?_;rintro r P ⟨U,b,rfl⟩;subst U;cases b with
    |true=>
     simp only[go_sem, *];refine j.app ow λu h' c=> ?_;simp only[go_sem, *];refine c.app ow λW P z=> ?_;have m:=m z;simp only[go_sem, *]
    |false=>
     simp only[go_sem, *];refine j.app ow λu h' c=> ?_;have n:=n c;exact au
 ·rintro fr h I ⟨J,v,O,b,N,j⟩;obtain⟨o,w⟩:∃o,fr 5=o:=⟨_,rfl⟩;rw[w] at j;cases b with
  |true=>
   have f:=f _ _ j;simp only[go_sem, *]
  |false=>
   simp only[Bool.toNat_false,Nat.add_zero] at j;simp only[go_sem, *];refine j.app ow λu h' c=> ?_;have f:=f _ _ c;exact au
def Lb {a b:List Trm} {d e:D} (E:zZ 2 (yT a) d) (F:zZ 2 (yT b) e) (N:a.length+b.length<=65536) (g:Heap):zA prog 336 [d,e] g λr h'=>h'=g/\∃c,Fin 2 (yT c) r/\c.length<=a.length+b.length:=by
 refine xP λQ K=> ?_;have L:=yr E;have M:=yr F;have k:=λ(c:List Trm) (d:D) h1 A t h=>zBJ (l:=c) (d:=d) h1 A t h;simp only[Trm.cells] at k;refine xO mix func336 zDM rfl rfl ?_;simp only[f336,gJ];simp only[go_sem, *];refine zD (λi fr h=>fr 0=d/\fr 1=e/\fr 6= .int .i64 (i:Int)/\h=g/\∃c,Fin 2 (yT c) (fr 5)/\c.length<=i) a.length ow ?_ ?_ ?_
 ·have s:∃c,Fin 2 (yT c) .nilsl/\c.length<=0:=⟨[], .inl ⟨rfl,rfl⟩,by simp⟩;simp only[go_sem,true_and,and_true,Int.ofNat_zero];exact s
 ·rintro i fr h p z G ⟨H,v,I,j,c,f,w⟩;subst j;obtain⟨o,m⟩:∃o,fr 5=o:=⟨_,rfl⟩;rw[m] at f;have y:=uT E p;have B:=k c o f.isSl ow a[i] h;generalize a[i]=x at *
  simp only[Trm.cells] at y;simp only[go_sem, *];refine B.mono ?_;rintro r A ⟨j,u,q,C⟩;subst j;have n:∃c,Fin 2 (yT c) r/\c.length<=i+1:=⟨u,q,by omega⟩;exact au
 rintro fr h z ⟨H,v,I,j,c,f,w⟩;subst j;obtain⟨o,m⟩:∃o,fr 5=o:=⟨_,rfl⟩;rw[m] at f;have s:∃c,Fin 2 (yT c) o/\c.length<=a.length+0:=⟨c,f,by omega⟩;simp only[go_sem, *];refine zD (λi fr h'=>fr 1=e/\fr 7= .int .i64 (i:Int)/\h'=h/\∃c,Fin 2 (yT c) (fr 5)/\c.length<=a.length+i) b.length ow ?_ ?_ ?_
 ·clear k;simp only[go_sem,true_and,and_true,Int.ofNat_zero,v,m];exact s
 ·rintro i fr h p z G ⟨v,J,j,c,f,w⟩;subst j;obtain⟨o,m⟩:∃o,fr 5=o:=⟨_,rfl⟩;rw[m] at f;have y:=uT F p;have B:=k c o f.isSl ow b[i] h;generalize b[i]=x at *
  simp only[Trm.cells] at y;simp only[go_sem, *];refine B.mono ?_;rintro r A ⟨j,u,q,C⟩;subst j;have n:∃c,Fin 2 (yT c) r/\c.length<=a.length+(i+1):=⟨u,q,by omega⟩;exact au
 ·rintro fr h z ⟨v,J,j,c,f,w⟩;subst j;obtain⟨o,m⟩:∃o,fr 5=o:=⟨_,rfl⟩;rw[m] at f;have n:=K o h ⟨rfl,c,f,w⟩;exact au
def zBK {l:List Trm} (j:zZ 2 (yT l) d) (z:l.length<=1048576) (t:Trm) (g:Heap):zA prog 388 [d, .agg t.cells] g λr h'=>h'=g/\∃b,r= .bool b:=by
 refine xP λQ u=> ?_;have m:=Xs j;have k:∀b,Q (.bool b) g:=λb=>u _ _ ⟨rfl,b,rfl⟩;have w:=Y9;simp only[Trm.cells];refine xO mix func388 zEn rfl rfl ?_;simp only[f388,gJ]
 repeat' first|simp only[go_sem, *]|apply bc<;>intro v
 refine zD (λi fr h=>fr 0=d/\fr 3= .iptr [.str t.a, .str t.b] 0/\fr 5= .int .i64 (i:Int)/\h=g) l.length ow ?_ ?_ ?_
 ·simp only[go_sem,true_and,and_true,Int.ofNat_zero]
 ·rintro i fr h c o y ⟨p,q,s,f⟩;subst f;have n:=Tg j c;generalize l[i]=x at *
  simp only[Trm.cells] at n
  repeat' first|simp only[go_sem, *]|apply bc<;>intro v
  refine zO Heap.emp [(4, .no,false),(0, .no,false),(1, .no,false),(2, .no,false),(3, .no,false),(5, .no,false)] kr kr (λi A e=>by cases e) ?_;exact au
 ·rintro fr h o ⟨p,q,s,f⟩;subst f;exact au
def VX {a b:List Trm} {d e:D} (y:zZ 2 (yT a) d) (k:zZ 2 (yT b) e) (f:a.length<=1048576) (z:b.length<=1048576) (g:Heap):zA prog 337 [d,e] g λr h'=>h'=g/\∃b,r= .bool b:=by
 refine xP λQ u=> ?_;have n:=yr k;have l:∀b,Q (.bool b) g:=λb=>u _ _ ⟨rfl,b,rfl⟩;have m:=zBK y f;simp only[Trm.cells] at m;refine xO mix func337 zDh rfl rfl ?_;simp only[f337,gJ]
 repeat' first|simp only[go_sem, *]|apply bc<;>intro v
 refine zD (λi fr h=>fr 0=d/\fr 1=e/\fr 5= .int .i64 (i:Int)/\h=g) b.length ow ?_ ?_ ?_
 ·simp only[go_sem,true_and,and_true,Int.ofNat_zero]
 ·rintro i fr h j p A ⟨q,s,t,c⟩;subst c;have o:=uT k j;generalize b[i]=x at *
  simp only[Trm.cells] at o
  repeat' first|simp only[go_sem, *]|apply bc<;>intro v|(refine zA.mono (m _ _) ?_;rintro r h ⟨c,w,rfl⟩)
 ·rintro fr h p ⟨q,s,t,c⟩;subst c;exact au
def R5 {a b:List Trm} {d e:D} (o:zZ 2 (yT a) d) (p:zZ 2 (yT b) e) (F:a.length<=1048576) (G:b.length<=1048576) (g:Heap):zA prog 338 [d,e] g λr h'=>h'=g/\∃n,r= .int .i64 n:=by
 refine xP λQ C=> ?_;have s:=yr o;have k:=yr p;have q:∀b,Q (.int .i64 b) g:=λb=>C _ _ ⟨rfl,b,rfl⟩;have c:=Xr;simp only[Trm.cells] at c;refine xO mix func338 zD7 rfl rfl ?_;simp only[f338,gJ];cases H:((a.length:Int)==(b.length:Int)) with
 |false=>
  repeat' first|simp only[go_sem, *]|apply bc<;>intro j
 |true=>
 have E:a.length<=b.length:=by have:=beq_iff_eq.1 H;omega
 repeat' first|simp only[go_sem, *]|apply bc<;>intro j
 refine zD (λi fr h=>fr 0=d/\fr 1=e/\fr 5= .int .i64 (i:Int)/\h=g) a.length ow ?_ ?_ ?_
 ·simp only[go_sem,true_and,and_true,Int.ofNat_zero]
 ·rintro i fr h l v J ⟨z,A,B,f⟩;subst f;have t:=uT o l;have u:=uT p (show i<b.length by omega);generalize a[i]=x at *
  generalize b[i]=y at *
  simp only[Trm.cells] at t u
  repeat' first|simp only[go_sem, *]|apply bc<;>intro j
  refine zO Heap.emp [(0, .no,false),(1, .no,false),(2, .no,false),(3, .no,false),(4, .no,false),(5, .no,false),(6, .no,false),(7, .no,false),(8, .no,false)] kr kr (λi I e=>by cases e) ?_
  repeat' first|simp only[go_sem, *]|apply bc<;>intro j|(refine zA.mono (c _ _ _) ?_;rintro r h ⟨m,w,rfl⟩)
  refine zO Heap.emp [(0, .no,false),(1, .no,false),(2, .no,false),(3, .no,false),(4, .no,false),(5, .no,false),(6, .no,false),(7, .no,false),(8, .no,false)] kr kr (λi I e=>by cases e) ?_
  repeat' first|simp only[go_sem, *]|apply bc<;>intro j|(refine zA.mono (c _ _ _) ?_;rintro r h ⟨m,w,rfl⟩)
 ·rintro fr h v ⟨z,A,B,f⟩;subst f;exact au
open List hiding max min map and or get le lt range extract
open Nat(zero_le le_refl le_trans lt_irrefl le_of_lt lt_of_lt_of_le lt_of_le_of_lt lt_succ_iff_lt_or_eq le_of_lt_succ)
structure AltB (m:Nat) (a:Alt):Prop where
 sl:zZ 2 (yT a.ts) a.d
 len:a.ts.length<=m
 pl:yf [a.d]
def AltB.io {m:Nat} {a:Alt} (h:AltB m a):zZ 2 (yT a.ts) a.d/\a.ts.length<=m:=⟨h.sl,h.len⟩
def AltB.mono {m n:Nat} {a:Alt} (h:AltB m a) (b:m<=n):AltB n a:=⟨h.sl,le_trans h.len b,h.pl⟩
def rm (h:Fin sz xs d) (b:∀x∈xs,yf x):yf [d]:=by
 rcases h with⟨rfl,_⟩ |rfl
 ·exact⟨rfl,by simp[zf,below],rfl⟩
 ·have a:=yB (sz:=sz) b .no;exact⟨rfl,by simp only[zf,and_true];exact a.2,by simp only[zq,a.1]⟩
def AltB.of {m:Nat} (h:Fin 2 (yT ts) d) (a:ts.length<=m):AltB m ⟨ts,d⟩:=⟨h.isSl,a,rm h (bt _)⟩
def Zm {m:Nat} {a:Alt} (b:AltB m a) (nid:Nat) (h:Heap):zI prog false nid 30 1 [(0,a.d)] h=some (.sl 1 [[a.d]] .full,h):=by
 obtain⟨k1,k2,k3⟩:=zJ b.sl;exact nc a.d nid h k1 k2 k3
theorem kQ {m:Nat} {l:List Alt} (hd:zZ 1 (zj l) d) (hl:l.length<=65536) (hm:m<=65536) (I:∀a∈l,zZ 2 (yT a.ts) a.d/\a.ts.length<=m) (g:Heap):zA prog 270 [d] g λr h'=>h'=g/\∃l',Fin 1 (zj l') r/\l'.length<=l.length/\∀a∈l',AltB m a:=by
 refine xU kr λcv=>xS (zA.freezeOr ?_);have v:=qW hd;refine xP λQ T=> ?_;refine xO mix func270 zEG rfl rfl ?_;simp only[f270,gJ]
 repeat' first|simp only[go_sem, *]|apply bc<;>intro B
 refine zD (λi fr h=>fr 0=d/\fr 4= .int .i64 (i:Int)/\∃all,Own g h 1 (zj all) (fr 3)/\all.length=i/\∀a∈all,AltB m a) l.length ow ?_ ?_ ?_
 ·have u:∃all,Own g g 1 (zj all) .nilsl/\all.length=0/\∀a∈all,AltB m a:=⟨[],Own.start (Ext.refl g) 1,rfl,λa h=>by cases h⟩;clear T v;simp only[go_sem,true_and,and_true,Int.ofNat_zero];exact u
 ·rintro i fr h F ec ew ⟨f0,f4,all,q,E,f⟩;obtain⟨o,C⟩:∃o,fr 3=o:=⟨_,rfl⟩;rw[C] at q;have a1:=uz hd F;have ag:=I _ (getElem_mem F);have c5:=ag.2;have hj:=Lb (b:=[]) (e:= .nilsl) ag.1 (.inl ⟨rfl,rfl⟩) (by simp;omega);generalize l[i]=a at *
  obtain⟨k1,k2,k3⟩:=zJ ag.1;clear T I hd
  repeat' first|simp only[go_sem, *]|apply bc<;>intro B
  refine(hj _).mono ?_;rintro r h2 ⟨K,ts,b2,cg⟩;subst K;have a6:=AltB.of (m:=m) b2 (by simp at cg;omega);have bo:=Zm a6;obtain⟨q1,q2,q3⟩:=zJ b2.isSl;clear hj
  repeat' first|simp only[go_sem, *]|apply bc<;>intro B
  refine q.appH (ys:=zj [⟨ts,r⟩]) ym wq yp ow (wA _) (by simp[zj]) (by rw[zX,qQ];unfold lim;simp[zj];omega) (by rw[zX];unfold lim;simp[zj];omega) λd' h' bb=> ?_;have cu:∃al,Own g h' 1 (zj al) d'/\al.length=i+1/\∀a∈al,AltB m a:=⟨all++ [⟨ts,r⟩],by
   have:zj (all++ [⟨ts,r⟩])=zj all++zj [⟨ts,r⟩]:=by simp[zj]
   rw[this];exact bb,by simp[E],λx hx=>by
   rcases mem_append.1 hx with h1|h1
   ·exact f x h1
   ·cases mem_singleton.1 h1;exact a6⟩
  clear q bb f;exact au
 rintro fr G ec ⟨f0,f4,all,q,E,f⟩;obtain⟨o,C⟩:∃o,fr 3=o:=⟨_,rfl⟩;rw[C] at q;have hE:=q.1;have ad:=q.isSl;have cc:=qW ad;have cp:all.length<=l.length:=ow;clear q E
 repeat' first|simp only[go_sem, *]|apply bc<;>intro B
 refine zD (λi fr h=>fr 3=o/\fr 6= .int .i64 (i:Int)/\∃out,fi G h 1 (zj out) (fr 5)/\out.length<=i/\∀a∈out,AltB m a) all.length ow ?_ ?_ ?_
 ·have u:∃out,fi G G 1 (zj out) .nilsl/\out.length<=0/\∀a∈out,AltB m a:=⟨[],fi.start (Ext.refl G) 1,by simp,λa h=>by cases h⟩;clear T v;simp only[go_sem,true_and,and_true,Int.ofNat_zero,C];exact u
 ·clear C f0 f4 ec fr;rintro i fr h F ec ew ⟨C,X,out,q,N,p⟩;obtain⟨od,S⟩:∃o,fr 5=o:=⟨_,rfl⟩;rw[S] at q;obtain⟨z1,z2,z3⟩:=q.flat;have a1:=uz ad F;have z:=f _ (getElem_mem F);have b9:=z.len;have cb:=yr z.sl;have hB:=EE;clear T v hd I;obtain⟨L,a7⟩:∃a,all[i]=a:=⟨_,rfl⟩;rw[a7] at a1 z b9 cb
  repeat' first|simp only[go_sem, *]|apply bc<;>intro B
  refine zD (λk fr h'=>fr 3=o/\fr 6= .int .i64 (i:Int)/\fr 8= .int .i64 (k:Int)/\MC (fr 7)/\fr 5=od/\h'=h) all.length ow ?_ ?_ ?_
  ·simp only[go_sem,true_and,and_true,Int.ofNat_zero,EE,C,X,S]
  ·clear C X S fr;rintro k fr h W b3 c0 ⟨C,X,f8,⟨b7,f7⟩,S,K⟩;subst K;have a2:=uz ad W;have Y:=f _ (getElem_mem W);have c3:=Y.len;have c4:=yr Y.sl;have b5:=VX z.sl Y.sl ow ow;generalize all[k]=ak at *
   clear f p q N
   repeat' first|simp only[go_sem, *]|apply bc<;>intro B
   refine zO Heap.emp [(0, .no,false),(1, .no,false),(2, .no,false),(3, .no,false),(4, .no,false),(5, .no,false),(6, .no,false),(7, .no,false),(8, .no,false),(9, .no,false),(10, .no,false),(11, .no,false),(12, .no,false),(13, .no,false),(14, .no,false),(15, .no,false),(16, .no,false),(17, .no,false),(18, .no,false),(19, .no,false),(20, .no,false),(21, .no,false),(22, .no,false),(23, .no,false),(24, .no,false),(25, .no,false),(26, .no,false),(27, .no,false),(28, .no,false),(29, .no,false),(30, .no,false),(31, .no,false)] kr kr (λi ob e=>by cases e) ?_
   repeat' first|simp only[go_sem, *]|apply bc<;>intro B|(refine zA.mono (b5 _) ?_;rintro r h ⟨K,w,rfl⟩)
  rintro fr h2 b3 ⟨C,X,f8,⟨b7,f7⟩,S,K⟩;subst K;cases b7 with
  |false=>
   have u:∃out,fi G h2 1 (zj out) od/\out.length<=i+1/\∀a∈out,AltB m a:=⟨out,q,by omega,p⟩;clear f p q N
   repeat' first|simp only[go_sem, *]|apply bc<;>intro B
  |true=>
  have bo:=Zm z h2.next h2;obtain⟨q1,q2,q3⟩:=zJ z.sl;obtain⟨d',H,M,bk,ch⟩:=q.app (P:=prog) (ys:=zj [L]) (tk:= .full) ym wq yp ow (λcs=>fj underlying128) (wA _) (wA _) (by simp[zj]) (by rw[zX,qQ];unfold lim;simp[zj];omega) (by rw[zX];unfold lim;simp[zj];omega);have E:zj [L]= [[L.d]]:=rfl;have U:zj out++zj [L]=zj (out++ [L]):=by simp[zj]
  rw[U] at bk;rw[E] at M ch;have s:∀a∈out++ [L],AltB m a:=λx hx=>by
   rcases mem_append.1 hx with h1|h1
   ·exact p x h1
   ·cases mem_singleton.1 h1;exact z
  have cw:(out++ [L]).length<=i+1:=by simp;omega
  have bs:0<(out++ [L]).length:=by simp
  generalize out++ [L]=c at *
  obtain⟨b4,Z⟩:=bk;rcases Z with⟨_,e⟩ | ⟨id,rfl,y,hid,V,_⟩
  ·exact absurd bs (by rw[show c.length=(zj c).length from(zX _).symm,e];simp)
  rw[zX] at M;have a3:IntKind.i64.wrap ((c.length:Int)-1)=((c.length-1:Nat):Int):=by rw[zd ow ow];omega
  have cf:=λh=>tQ (P:=prog) (t:=30) (sz:=1) (id:=id) (off:=0) (len:=c.length) (h:=h) underlying30;clear f p q N U
  repeat' first|simp only[go_sem, *]|apply bc<;>intro B
  refine yF (λj fr h=>fr 3=o/\fr 6= .int .i64 (i:Int)/\fr 9= .int .i64 ((c.length-1-j:Nat):Int)/\fr 5= .rs id 1 0 c.length/\∃xs,xs.length=c.length/\h=H.set id (.row (zj xs).flatten)/\∀a∈xs,AltB m a) (c.length-1) ?_ ?_
  ·have u:∃xs:List Alt,xs.length=c.length/\H=H.set id (.row (zj xs).flatten)/\∀a∈xs,AltB m a:=⟨c,rfl,(wr y).symm,s⟩;clear s a3 cf;simp only[go_sem,true_and,and_true,Int.ofNat_zero,C,X];exact⟨by rw[Nat.sub_zero],u⟩
  rintro j fr h hj ⟨C,X,f9,S,xs,a4,rfl,D⟩;have J:(H.set id (.row (zj xs).flatten)).at' id=some (.row (zj xs).flatten):=zC _ _ _;have a0:∃out,fi G (H.set id (.row (zj xs).flatten)) 1 (zj out) (.rs id 1 0 c.length)/\out.length<=i+1/\∀a∈out,AltB m a:=⟨xs,⟨b4.set hid _, .inr ⟨id,by rw[zX,a4],J,hid,by rw[zT];exact V,λe=>by
   have:(zj xs).length=0:=by rw[e];rfl
   rw[zX] at this;omega⟩⟩,by omega,D⟩
  obtain⟨k,hk⟩:∃k,c.length-1-j=k:=⟨_,rfl⟩;rw[hk] at f9;cases k with
  |zero=>
   have h0:decide (((0:Nat):Int)>0)=false:=rfl;clear s D a3 y M
   repeat' first|simp only[go_sem, *]|apply bc<;>intro B
   refine zO Heap.emp [(0, .no,false),(1, .no,false),(2, .no,false),(3, .no,false),(4, .no,false),(5, .no,false),(6, .no,false),(7, .no,false),(8, .no,false),(9, .no,false),(10, .no,false),(11, .no,false),(12, .no,false),(13, .no,false),(14, .no,false)] kr kr (λi ob e=>by cases e) ?_
   repeat' first|simp only[go_sem, *]|apply bc<;>intro B
  |succ k=>
   have h0:decide (((k+1:Nat):Int)>0)=true:=decide_eq_true ow;have c7:IntKind.i64.wrap (((k+1:Nat):Int)-1)=(k:Int):=by rw[zd ow ow];omega
   have ba:k+1<xs.length:=ow;have c1:(zj xs).flatten[k+1]? =some xs[k+1].d:=by rw[uU];simp[ba]
   have c2:(zj xs).flatten[k]? =some xs[k].d:=by rw[uU];simp[show k<xs.length by omega]
   have O:=D _ (getElem_mem ba);have R:=D _ (getElem_mem (show k<xs.length by omega));have i1:zQ prog 30 (.rs id 1 0 c.length) (.int .i64 ((k+1:Nat):Int))=some (.ptr id (k+1)):=by
    have:=z8 (P:=prog) (sz:=1) (id:=id) ym yp (k:= .i64) (show k+1<c.length by omega)
    rwa [Nat.mul_one] at this
   have i2:zQ prog 30 (.rs id 1 0 c.length) (.int .i64 (k:Int))=some (.ptr id k):=by
    have:=z8 (P:=prog) (sz:=1) (id:=id) ym yp (k:= .i64) (show k<c.length by omega)
    rwa [Nat.mul_one] at this
   have a8:=R5 O.sl R.sl (by have:=O.len;omega) (by have:=R.len;omega);have b6:(zj xs).flatten=xs.map Alt.d:=uU xs;have b1:((zj xs).flatten.set (k+1) xs[k].d).set k xs[k+1].d=(zj ((xs.set (k+1) xs[k]).set k xs[k+1])).flatten:=by rw[uU,uU,map_set,map_set]
   have bx:∀a∈(xs.set (k+1) xs[k]).set k xs[k+1],AltB m a:=λa ha=>by
    rcases mem_or_eq_of_mem_set ha with h1|rfl
    ·rcases mem_or_eq_of_mem_set h1 with h2|rfl
     ·exact D a h2
     ·exact R
    ·exact O
   have A:∀hh,hh=H.set id (.row (((zj xs).flatten.set (k+1) xs[k].d).set k xs[k+1].d))->(j<c.length-1/\∃ys:List Alt,ys.length=c.length/\hh=H.set id (.row (zj ys).flatten)/\∀a∈ys,AltB m a):=λhh e=>⟨by omega,_,by rw[length_set,length_set];exact a4,by rw[e,b1],bx⟩;have ca:c.length-1- (j+1)=k:=ow;obtain⟨u1,u2,u3⟩:=zJ O.sl;obtain⟨v1,v2,v3⟩:=zJ R.sl;have a9:(zj xs).flatten.length=c.length:=by rw[uU,length_map,a4]
   have cl:zP prog 128 (.ptr id (k+1)) xs[k].d (H.set id (.row (zj xs).flatten))=some (H.set id (.row ((zj xs).flatten.set (k+1) xs[k].d))):=by
    rw[zS J yp ow v1 v3,rI]
   have cm:zP prog 128 (.ptr id k) xs[k+1].d (H.set id (.row ((zj xs).flatten.set (k+1) xs[k].d)))=some (H.set id (.row (((zj xs).flatten.set (k+1) xs[k].d).set k xs[k+1].d))):=by
    rw[zS (zC _ _ _) yp (by rw[length_set];omega) u1 u3,rI]
   generalize xs[k+1]=x1 at *
   generalize xs[k]=x2 at *
   clear s D a3 y M b1 bx b6 a9;generalize(zj xs).flatten=row at *
   repeat' first|simp only[go_sem, *]|apply bc<;>intro B
   refine zO Heap.emp [(0, .no,false),(1, .no,false),(2, .no,false),(3, .no,false),(4, .no,false),(5, .no,false),(6, .no,false),(7, .no,false),(8, .no,false),(9, .no,false),(10, .no,false),(11, .no,false),(12, .no,false),(13, .no,false),(14, .no,false)] kr kr (λi ob e=>by cases e) ?_
   repeat' first|simp only[go_sem, *]|apply bc<;>intro B
   refine(a8 _).mono ?_;rintro r h3 ⟨K,n,rfl⟩;subst K;cases hn:decide (n<0) with
   |false=>
    clear A cl cm ca
    repeat' first|simp only[go_sem, *]|apply bc<;>intro B
   |true=>
    clear a0 a8
    repeat' first|simp only[go_sem, *]|apply bc<;>intro B
    have A:=A _ rfl;refine zU kr ?_;exact au
 ·rintro fr h ec ⟨C,X,out,q,N,p⟩;obtain⟨od,S⟩:∃o,fr 5=o:=⟨_,rfl⟩;rw[S] at q;obtain⟨a5,Z⟩:=q;rcases Z with⟨rfl,e⟩ | ⟨id,rfl,y,hid,V,c6⟩
  ·have K:=T .nilsl h (.inl ⟨hE.trans a5,by simp[zi,below],[], .inl ⟨rfl,rfl⟩,by simp,λa h=>by cases h⟩);clear T v hd I f p;exact au
  ·have b8:frz id (zj out).flatten (.rs id 1 0 (zj out).length)= .sl 1 (zj out) .no:=fw (rest:=[]) (wA _) rfl (by simp);have u:=yB (sz:=1) (xs:=zj out) (λx hx=>by
    obtain⟨a,ha,rfl⟩:=mem_map.1 hx;exact(p a ha).pl) .no
   have K:=T (.rs id 1 0 (zj out).length) h (.inr ⟨id,_,y,by
    rw[b8,u.1];exact⟨(hE.trans a5).del (by have:=hE.1;omega),zx (zero_le _) _ u.2,out, .inr rfl,by omega,p⟩⟩)
   clear T v hd I f p;exact au
def Xt {m:Nat} {a b:List Alt} {d e:D} (A:zZ 1 (zj a) d) (B:zZ 1 (zj b) e) (H:a.length+b.length<=65536) (E:m<=65536) (o:∀x∈a,zZ 2 (yT x.ts) x.d/\x.ts.length<=m) (z:∀x∈b,zZ 2 (yT x.ts) x.d/\x.ts.length<=m) (g:Heap):zA prog 271 [d,e] g λr h'=>h'=g/\∃k,Fin 1 (zj k) r/\k.length<=a.length+b.length/\∀x∈k,AltB m x:=by
 refine xU kr λt=> ?_;refine xP λQ y=> ?_;have c:∀h l d,Own g h 1 (zj l) d->l.length=a.length+b.length->(∀x∈l,zZ 2 (yT x.ts) x.d/\x.ts.length<=m)->zA prog 270 [d] h λr h'=>Q r h':=λh l d s C j=>(kQ (m:=m) s.isSl ow E j h).mono λr h' ⟨F,k,u,J,v⟩=>by
  subst F;refine y _ _ ⟨s.1,?_,k,u,by omega,v⟩;have:=rm u (λx j=>by
   obtain⟨a,o,rfl⟩:=mem_map.1 j;exact(v a o).pl)
  have n:=this.2.1;simp only[zf,and_true] at n;exact zx (zero_le _) _ n
 have h0:=Own.start (Ext.refl g) 1;refine xO mix func271 zEf rfl rfl ?_;simp only[f271,gJ];simp only[go_sem, *];refine h0.appI (ys:=zj a) ym wq yp ow (wA _) A (by rw[zX,qQ];unfold lim;simp;omega) (by rw[zX];unfold lim;simp;omega) λG h1 f=> ?_;rw[nil_append] at f;simp only[go_sem, *];refine f.appI (ys:=zj b) ym wq yp ow (wA _) B (by rw[zX,zX,qQ];unfold lim;omega) (by rw[zX,zX];unfold lim;omega) λw n i=> ?_;have p:zj a++zj b=zj (a++b):=by simp[zj]
 rw[p] at i;have I:=c n (a++b) w i (by simp) (λx j=>by
  rcases mem_append.1 j with q|q
  ·exact o x q
  ·exact z x q)
 exact au
theorem DR {m n:Nat} {a b:List Alt} {d e:D} (M:zZ 1 (zj a) d) (V:zZ 1 (zj b) e) (N:a.length<=64) (O:b.length<=64) (hm:m+n<=65536) (H:∀x∈a,AltB m x) (hb:∀x∈b,AltB n x) (g:Heap):zA prog 272 [d,e] g λr h'=>h'=g/\∃G,Fin 1 (zj G) r/\G.length<=a.length*b.length/\∀x∈G,AltB (m+n) x:=by
 have L:a.length*b.length<=4096:=le_trans (Nat.mul_le_mul N O) ow;refine xU kr λX=> ?_;refine xP λQ T=> ?_;have p:∀h l d,Own g h 1 (zj l) d->l.length=a.length*b.length->(∀x∈l,AltB (m+n) x)->zA prog 270 [d] h λr h'=>Q r h':=λh l d j a0 F=>(kQ (m:=m+n) j.isSl ow hm (λx h=>(F x h).io) h).mono λr h' ⟨q1,G,S,q3,q4⟩=>by
  subst q1;refine T _ _ ⟨j.1,?_,G,S,by omega,q4⟩;have:=rm S (λx F=>by
   obtain⟨a,H,rfl⟩:=mem_map.1 F;exact(q4 a H).pl)
  have K:=this.2.1;simp only[zf,and_true] at K;exact zx (zero_le _) _ K
 have P:=qW M;have R:=qW V;clear T;refine xO mix func272 zE5 rfl rfl ?_;simp only[f272,gJ];simp only[go_sem, *];refine zD (λi fr h=>fr 0=d/\fr 1=e/\fr 6= .int .i64 (i:Int)/\∃all,Own g h 1 (zj all) (fr 5)/\all.length=i*b.length/\∀x∈all,AltB (m+n) x) a.length ow ?_ ?_ ?_
 ·have q:∃all,Own g g 1 (zj all) .nilsl/\all.length=0*b.length/\∀x∈all,AltB (m+n) x:=⟨[],Own.start (Ext.refl g) 1,by simp,λa h=>by cases h⟩;clear p;simp only[go_sem,true_and,and_true,Int.ofNat_zero];exact q
 ·rintro i fr h w ec ew ⟨y,z,A,all,j,f,c⟩;obtain⟨o,s⟩:∃o,fr 5=o:=⟨_,rfl⟩;rw[s] at j;have a1:=uz M w;have v:=H _ (getElem_mem w);have ak:i*b.length+b.length<=4096:=by rw[<-Nat.succ_mul];exact le_trans (Nat.mul_le_mul_right _ w) L
  generalize a[i]=ai at *
  obtain⟨k1,k2,k3⟩:=zJ v.sl;have U:=v.len;have q:∃all,Own g h 1 (zj all) o/\all.length=i*b.length+0/\∀x∈all,AltB (m+n) x:=⟨all,j,f,c⟩;clear p H M j f c;simp only[go_sem, *];refine zD (λk fr h=>fr 0=d/\fr 1=e/\fr 6= .int .i64 (i:Int)/\fr 7= .int .i64 (k:Int)/\∃all,Own g h 1 (zj all) (fr 5)/\all.length=i*b.length+k/\∀x∈all,AltB (m+n) x) b.length ow ?_ ?_ ?_
  ·simp only[go_sem,true_and,and_true,Int.ofNat_zero,y,z,s,A];exact q
  ·clear y z s A q fr h;rintro k fr h u J ad ⟨y,z,A,f7,all,j,f,c⟩;obtain⟨o,s⟩:∃o,fr 5=o:=⟨_,rfl⟩;rw[s] at j;have a2:=uz V u;have B:=hb _ (getElem_mem u);have ag:=B.len;have W:=Lb v.sl B.sl ow;generalize b[k]=bk at *
   simp only[go_sem, *];refine zO Heap.emp [(0, .no,false),(1, .no,false),(2, .no,false),(3, .no,false),(4, .no,false),(5, .no,false),(6, .no,false),(7, .no,false),(8, .no,false),(9, .no,false),(10, .no,false),(11, .no,false),(12, .no,false)] kr kr (λi ob e=>by cases e) ?_;simp only[go_sem, *];refine(W _).mono ?_;rintro r K ⟨Z,I,E,a3⟩;subst Z;have t:=AltB.of (m:=m+n) E ow;have Y:=Zm t;obtain⟨q1,S,q3⟩:=zJ E.isSl;clear W;simp only[go_sem, *];refine j.appH (ys:=zj [⟨I,r⟩]) ym wq yp ow (wA _) (by simp[zj]) (by rw[zX,qQ];unfold lim;simp[zj];omega) (by rw[zX];unfold lim;simp[zj];omega) λd' h' C=> ?_
   have p:∃al,Own g h' 1 (zj al) d'/\al.length=i*b.length+(k+1)/\∀a∈al,AltB (m+n) a:=⟨all++ [⟨I,r⟩],by
    have:zj (all++ [⟨I,r⟩])=zj all++zj [⟨I,r⟩]:=by simp[zj]
    rw[this];exact C,by simp;omega,λx F=>by
    rcases mem_append.1 F with h1|h1
    ·exact c x h1
    ·cases mem_singleton.1 h1;exact t⟩
   clear j C c f;exact au
  ·clear y z s A q fr h;rintro fr h J ⟨y,z,A,f7,all,j,f,c⟩;obtain⟨o,s⟩:∃o,fr 5=o:=⟨_,rfl⟩;rw[s] at j;have q:∃all,Own g h 1 (zj all) o/\all.length=(i+1)*b.length/\∀x∈all,AltB (m+n) x:=⟨all,j,by rw[Nat.succ_mul];exact f,c⟩;clear j f c;exact au
 ·rintro fr h ec ⟨y,z,A,all,j,f,c⟩;obtain⟨o,s⟩:∃o,fr 5=o:=⟨_,rfl⟩;rw[s] at j;have Z:=p h all o j f c;clear p j f c;exact au
def DS:∀ (n:Nat) {e:Ex},e.size<=n->e.Ok->e.size<=1048576->∀g:Heap,zA prog 332 [.agg e.cells] g λr h'=>h'=g/\IsI r:=by
 intro n
 induction n with
 |zero=>intro e h;cases e;simp only[Ex.size] at h;omega
 |succ n E=>
 intro e C c m g;refine xP λQ A=> ?_;have p:∀n,Q (.int .i64 n) g:=λn=>A _ _ ⟨rfl,n,rfl⟩;obtain⟨k,F,x,l,d⟩:=e;simp only[Ex.size,Ex.Ok] at C c m;obtain⟨o,I,_,_,f⟩:=c;have q:=uB o;have H:=isI;refine xO mix func332 zD6 rfl rfl ?_;simp only[f332,gJ];simp only[Ex.cells,Ex.kind,Ex.name,Ex.exc,Ex.d]
 repeat' first|simp only[go_sem, *]|apply bc<;>intro B
 refine zD (λi fr h=>fr 1= .iptr [.int .i64 k, .str F, .str x,d] 0/\fr 4= .int .i64 (i:Int)/\IsI (fr 3)/\h=g) l.length ow ?_ ?_ ?_
 ·simp only[go_sem,true_and,and_true,Int.ofNat_zero,isI]
 ·rintro i fr h b t G ⟨u,y,⟨z,v⟩,a⟩;subst a;have s:=rX o b;have j:l[i]∈l:=List.getElem_mem b;have a:=E (e:=l[i]) (by have:=yY j;omega) (uA f _ j) (by have:=yY j;omega);simp only[Ex.cells] at s a
  repeat' first|simp only[go_sem, *]|apply bc<;>intro B|(refine zA.mono (a _) ?_;rintro r h ⟨D,w,rfl⟩)
 ·rintro fr h t ⟨u,y,⟨z,v⟩,a⟩;subst a;exact au
def IF:∀ (n:Nat) {e:Ex},e.size<=n->e.Ok->e.size<=1048576->∀g:Heap,zA prog 333 [.agg e.cells] g λr h'=>h'=g/\IsI r:=by
 intro n
 induction n with
 |zero=>intro e h;cases e;simp only[Ex.size] at h;omega
 |succ n E=>
 intro e D f p g;refine xP λQ C=> ?_;have s:∀n,Q (.int .i64 n) g:=λn=>C _ _ ⟨rfl,n,rfl⟩;obtain⟨k,F,x,l,d⟩:=e;simp only[Ex.size,Ex.Ok] at D f p;obtain⟨q,J,_,_,j⟩:=f;have t:=uB q;have H:=isI;refine xO mix func333 zEN rfl rfl ?_;simp only[f333,gJ];simp only[Ex.cells,Ex.kind,Ex.name,Ex.exc,Ex.d];simp only[go_sem, *];refine zD (λi fr h=>fr 1= .iptr [.int .i64 k, .str F, .str x,d] 0/\fr 4= .int .i64 (i:Int)/\IsI (fr 3)/\h=g) l.length ow ?_ ?_ ?_
 ·simp only[go_sem,true_and,and_true,Int.ofNat_zero,isI]
 ·rintro i fr h b v G ⟨y,B,⟨z,A⟩,a⟩;subst a;have u:=rX q b;have m:l[i]∈l:=List.getElem_mem b;have a:=E (e:=l[i]) (by have:=yY m;omega) (uA j _ m) (by have:=yY m;omega);simp only[Ex.cells] at u a;simp only[go_sem, *];refine(a _).mono ?_;rintro r h ⟨o,w,rfl⟩;subst o;obtain⟨c,I⟩:=zAq z w;exact au
 ·rintro fr h v ⟨y,B,⟨z,A⟩,a⟩;subst a;exact au
def IG:∀ (n:Nat) {e:Ex},e.size<=n->e.Ok->e.size<=1048576->∀ {e2:Ex},e2.Ok->∀g:Heap,zA prog 329 [.agg e.cells, .agg e2.cells] g λr h'=>h'=g/\MC r:=by
 intro n
 induction n with
 |zero=>intro e h;cases e;simp only[Ex.size] at h;omega
 |succ n R=>
 intro e N m y e2 a g;refine xP λQ K=> ?_;have B:∀n,Q (.bool n) g:=λn=>K _ _ ⟨rfl,n,rfl⟩;obtain⟨k,S,x,l,d⟩:=e;obtain⟨k2,z,T,p,F⟩:=e2;simp only[Ex.size,Ex.Ok] at N m y a;obtain⟨A,W,_,_,s⟩:=m;obtain⟨c,M,_,_,f⟩:=a;have C:=uB A;have t:=uB c;have V:=EE;refine xO mix func329 zE8 rfl rfl ?_;simp only[f329,gJ];simp only[Ex.cells,Ex.kind,Ex.name,Ex.exc,Ex.d];cases O:((l.length:Int)==(p.length:Int)) with
 |false=>
  repeat' first|simp only[go_sem, *]|apply bc<;>intro q
 |true=>
 have L:l.length<=p.length:=by have:=beq_iff_eq.1 O;omega
 repeat' first|simp only[go_sem, *]|apply bc<;>intro q
 refine zD (λi fr h=>fr 2= .iptr [.int .i64 k, .str S, .str x,d] 0/\fr 3= .iptr [.int .i64 k2, .str z, .str T,F] 0/\fr 5= .int .i64 (i:Int)/\h=g) l.length ow ?_ ?_ ?_
 ·simp only[go_sem,true_and,and_true,Int.ofNat_zero]
 ·rintro i fr h j G U ⟨H,I,J,b⟩;subst b;have D:=rX A j;have E:=rX c (show i<p.length by omega);have u:l[i]∈l:=List.getElem_mem j;have v:p[i]'ow∈p:=List.getElem_mem ow;have o:=R (e:=l[i]) (by have:=yY u;omega) (uA s _ u) (by have:=yY u;omega) (uA f _ v);simp only[Ex.cells] at D E o
  repeat' first|simp only[go_sem, *]|apply bc<;>intro q
  refine zO Heap.emp [(0, .no,false),(1, .no,false),(2, .no,false),(3, .no,false),(4, .no,false),(5, .no,false),(6, .no,false),(7, .no,false),(8, .no,false),(9, .no,false),(10, .no,false),(11, .no,false)] kr kr (λi X e=>by cases e) ?_
  repeat' first|simp only[go_sem, *]|apply bc<;>intro q|(refine zA.mono (o _) ?_;rintro r h ⟨P,w,rfl⟩)
 ·rintro fr h G ⟨H,I,J,b⟩;subst b;exact au
def Ld (s:List UInt8) (c:s.length<=1048576) (g:Heap):zA prog 386 [.str s] g λr h'=>h'=g/\MC r:=by
 refine xP λQ b=> ?_;have a:∀n,Q (.bool n) g:=λn=>b _ _ ⟨rfl,n,rfl⟩;have d:=pN s c;refine xO mix func386 zD9 rfl rfl ?_;simp only[f386,gJ]
 repeat' first|simp only[go_sem, *]|apply bc<;>intro f|(refine zA.mono (d _) ?_;rintro r h ⟨e,w,rfl⟩)
mutual
def Ex.Kd:Ex->Prop
 | .mk k _ _ l _=>(0<=k/\k<=3)/\kdL l
def kdL:List Ex->Prop
 | []=>True
 |e::l=>e.Kd/\kdL l
end
theorem VY:∀ {l:List Ex},kdL l↔∀e∈l,e.Kd
 | []=>by simp[kdL]
 |x::l=>by simp[kdL,VY (l:=l)]
def DT:∀ (n:Nat) {e:Ex},e.size<=n->e.Ok->e.size<=1048576->∀g:Heap,zA prog 334 [.agg e.cells] g λr h'=>h'=g/\∃n,r= .int .i64 n/\(n=0->e.Kd):=by
 intro n
 induction n with
 |zero=>intro e h;cases e;simp only[Ex.size] at h;omega
 |succ n R=>
 intro e t u D g;refine xP λQ F=> ?_;have a:∀n,(n==0)=false->Q (.int .i64 n) g:=λn t=>F _ _ ⟨rfl,n,rfl,λq=>by simp[q] at t⟩;have E:=a 1 rfl;have T:=a 2 rfl;obtain⟨k,I,x,l,d⟩:=e;simp only[Ex.size,Ex.Ok] at t u D;obtain⟨G,U,y,z,v⟩:=u;have H:=uB G;have B:=Ld I y;have C:=Ld x z;cases k1:decide (k<0) with
 |true=>
  refine xO mix func334 Fk rfl rfl ?_;simp only[f334,gJ];simp only[Ex.cells,Ex.kind,Ex.name,Ex.exc,Ex.d]
  repeat' first|simp only[go_sem, *]|apply bc<;>intro o
 |false=>
 cases k2:decide (k>3) with
 |true=>
  refine xO mix func334 Fk rfl rfl ?_;simp only[f334,gJ];simp only[Ex.cells,Ex.kind,Ex.name,Ex.exc,Ex.d]
  repeat' first|simp only[go_sem, *]|apply bc<;>intro o
 |false=>
 have b:(∀e∈l,e.Kd)->Q (.int .i64 0) g:=λO=>F _ _ ⟨rfl,0,rfl,λ_=>by
  rw[Ex.Kd];have:=of_decide_eq_false k1;have:=of_decide_eq_false k2;exact⟨by omega,VY.2 O⟩⟩
 refine xO mix func334 Fk rfl rfl ?_;simp only[f334,gJ];simp only[Ex.cells,Ex.kind,Ex.name,Ex.exc,Ex.d]
 repeat' first|simp only[go_sem, *]|apply bc<;>intro o|(refine zA.mono (B _) ?_;rintro r h ⟨c,w,rfl⟩)|(refine zA.mono (C _) ?_;rintro r h ⟨c,w,rfl⟩)
 all_goals
  refine zD (λi fr h=>fr 1= .iptr [.int .i64 k, .str I, .str x,d] 0/\fr 3= .int .i64 (i:Int)/\h=g/\∀j (f:j<l.length),j<i->l[j].Kd) l.length ow ?_ ?_ ?_
  ·simp only[go_sem,true_and,and_true,Int.ofNat_zero];exact λj f h0=>by omega
  ·rintro i fr h s K S ⟨E,L,m,f⟩;subst m;have J:=rX G s;have A:l[i]∈l:=List.getElem_mem s;have m:=R (e:=l[i]) (by have:=yY A;omega) (uA v _ A) (by have:=yY A;omega);simp only[Ex.cells] at J m
   repeat' first|simp only[go_sem, *]|apply bc<;>intro o
   refine(m _).mono ?_;rintro r h ⟨c,w,rfl,P⟩;subst c;cases w0:(w==0) with
   |false=>
    have hf:=a w w0
    repeat' first|simp only[go_sem, *]|apply bc<;>intro o
   |true=>
    have t:∀j (f:j<l.length),j<i+1->l[j].Kd:=λj h1 M=>by
     rcases Nat.lt_succ_iff_lt_or_eq.1 M with h|rfl
     ·exact f j h1 h
     ·exact P (by simpa using w0)
    repeat' first|simp only[go_sem, *]|apply bc<;>intro o
    exact t
  ·rintro fr h K ⟨E,L,m,f⟩;subst m;have hf:=b λe N=>by
    obtain⟨j,p,rfl⟩:=List.mem_iff_getElem.1 N;exact f j p p
   exact au
def Xu (a:e.Ok) (c:e.size<=1048576) (g:Heap):zA prog 268 [.agg e.cells] g λr h'=>h'=g/\∃n,r= .int .i64 n/\(n=0->e.Kd):=by
 refine xP λQ f=> ?_;have h1:=DS _ (Nat.le_refl _) a c;have i:=IF _ (Nat.le_refl _) a c;have h3:=DT _ (Nat.le_refl _) a c;have l:Q (.int .i64 10) g:=f _ _ ⟨rfl,10,rfl,λq=>by cases q⟩;have m:Q (.int .i64 11) g:=f _ _ ⟨rfl,11,rfl,λq=>by cases q⟩;simp only[Ex.cells] at h1 i h3⊢;have d:∀n,(n=0->e.Kd)->Q (.int .i64 n) g:=λn j=>f _ _ ⟨rfl,n,rfl,j⟩;refine xO mix func268 zDc rfl rfl ?_;simp only[f268,gJ]
 repeat' first|simp only[go_sem, *]|apply bc<;>intro o|(refine zA.mono (h1 _) ?_;rintro r h ⟨b,w,rfl⟩)|(refine zA.mono (i _) ?_;rintro r h ⟨b,w,rfl⟩)
 refine(h3 _).mono ?_;rintro r h ⟨b,w,rfl,k⟩;subst b;have hf:=d w k;exact au
def IH (f:yt c d) (z:c.Sm) (t:Trm) (g:Heap):zA prog 328 [d, .agg t.cells] g λr h'=>h'=g/\∃q b,r= .tuple [q, .bool b]:=by
 refine xP λQ y=> ?_;have m:∀q b,Q (.tuple [q, .bool b]) g:=λq b=>y _ _ ⟨rfl,q,b,rfl⟩;obtain⟨a,b,e,p,rfl,C,l,D,E⟩:=f;have n:=oW l;have A:=z.es.1;simp only[Trm.cells];refine xO mix func328 zEl rfl rfl ?_;simp only[f328,gJ];cases h0:(t.b== []) with
 |true=>
  repeat' first|simp only[go_sem, *]|apply bc<;>intro f
 |false=>
 repeat' first|simp only[go_sem, *]|apply bc<;>intro f
 refine zD (λi fr h=>fr 2= .iptr [a,b,e,p] 0/\fr 3= .iptr [.str t.a, .str t.b] 0/\fr 6= .int .i64 (i:Int)/\h=g) c.es.length ow ?_ ?_ ?_
 ·simp only[go_sem,true_and,and_true,Int.ofNat_zero]
 ·rintro i fr h j s B ⟨u,v,w,k⟩;subst k;have o:=nW l j;generalize c.es[i]=x at *
  simp only[Exc.cells] at o
  repeat' first|simp only[go_sem, *]|apply bc<;>intro f
  refine zU kr ?_;exact au
 ·rintro fr h s ⟨u,v,w,k⟩;subst k;exact au
def II (f:yt c d) (j:c.Sm) (t:Trm) (g:Heap):zA prog 335 [d, .agg t.cells] g λr h'=>h'=g/\MC r:=by
 refine xP λQ m=> ?_;have l:∀b,Q (.bool b) g:=λb=>m _ _ ⟨rfl,b,rfl⟩;have h1:=tz f j;have k:=oC f j t.a;have h3:=IH f j t;obtain⟨a,b,e,p,rfl,s,u,v,x⟩:=f;simp only[Trm.cells] at h3⊢;generalize Zr _ _=z at k;refine xO mix func335 zE9 rfl rfl ?_;simp only[f335,gJ]
 repeat' first|simp only[go_sem, *]|apply bc<;>intro f
 refine(h1 _).mono ?_;rintro r h ⟨o,n,rfl,_⟩;subst o
 repeat' first|simp only[go_sem, *]|apply bc<;>intro f|(refine zA.mono (k _) ?_;rintro r h ⟨i,rfl⟩)|(refine zA.mono (h3 _) ?_;rintro r h ⟨i,q,w,rfl⟩)
def Lf {v:D} (f:yt c v) (L:c.Sm):∀ (n:Nat) {e:Ex},e.size<=n->e.Ok->e.size<=1048576->∀g:Heap,zA prog 269 [v, .agg e.cells] g λr h'=>h'=g/\MC r:=by
 intro n
 induction n with
 |zero=>intro e h;cases e;simp only[Ex.size] at h;omega
 |succ n N=>
 intro e K p u g;refine xP λQ H=> ?_;have z:∀n,Q (.bool n) g:=λn=>H _ _ ⟨rfl,n,rfl⟩;have m:=λa b=>II f L ⟨a,b⟩;obtain⟨ca,cb,ce,cp,rfl,_,_,_,_⟩:=f;obtain⟨k,O,x,l,d⟩:=e;simp only[Ex.size,Ex.Ok] at K p u;obtain⟨y,R,I,J,q⟩:=p;have A:=uB y;have M:∀a b:List UInt8,zt prog 130 [(0, .str a),(1, .str b)]=some (.agg [.str a, .str b]):=λa b=>by simp[zt,uo,qt,qB,yU,D.notTuple,D.cells]
 simp only[Trm.cells] at m;refine xO mix func269 zD0 rfl rfl ?_;simp only[f269,gJ];simp only[Ex.cells,Ex.kind,Ex.name,Ex.exc,Ex.d];cases h0:decide (k<2) with
 |true=>
  repeat' first|simp only[go_sem, *]|apply bc<;>intro f|(refine zA.mono (m _ _ _) ?_;rintro r h ⟨t,w,rfl⟩)
 |false=>
 repeat' first|simp only[go_sem, *]|apply bc<;>intro f
 refine zD (λi fr h=>fr 2= .iptr [ca,cb,ce,cp] 0/\fr 3= .iptr [.int .i64 k, .str O, .str x,d] 0/\fr 5= .int .i64 (i:Int)/\h=g) l.length ow ?_ ?_ ?_
 ·simp only[go_sem,true_and,and_true,Int.ofNat_zero]
 ·rintro i fr h o C P ⟨E,F,G,j⟩;subst j;have B:=rX y o;have s:l[i]∈l:=List.getElem_mem o;have j:=N (e:=l[i]) (by have:=yY s;omega) (uA q _ s) (by have:=yY s;omega);simp only[Ex.cells] at B j
  repeat' first|simp only[go_sem, *]|apply bc<;>intro f
  refine zO Heap.emp [(0, .no,false),(1, .no,false),(2, .no,false),(3, .no,false),(4, .no,false),(5, .no,false),(6, .no,false),(7, .no,false)] kr kr (λi S e=>by cases e) ?_
  repeat' first|simp only[go_sem, *]|apply bc<;>intro f|(refine zA.mono (j _) ?_;rintro r h ⟨t,w,rfl⟩)
 ·rintro fr h C ⟨E,F,G,j⟩;subst j;exact au
def Xv {k:D} (a:yt c k) (p:c.Sm) (d:e.Ok) (f:e.size<=1048576) (g:Heap):zA prog 208 [k, .agg e.cells] g λr h'=>h'=g/\∃n,r= .int .i64 n/\(n=0->e.Kd):=by
 refine xP λQ i=> ?_;have v:Q (.int .i64 1) g:=i _ _ ⟨rfl,1,rfl,λq=>by cases q⟩;have x:Q (.int .i64 7) g:=i _ _ ⟨rfl,7,rfl,λq=>by cases q⟩;have h1:=tz a p;have l:=Xu d f;have h3:=Lf a p _ (Nat.le_refl _) d f;obtain⟨ca,cb,ce,cp,rfl,_,_,_,_⟩:=a;simp only[Ex.cells] at l h3⊢;have b:∀n,(n=0->e.Kd)->Q (.int .i64 n) g:=λn t=>i _ _ ⟨rfl,n,rfl,t⟩;refine xO mix func208 zEb rfl rfl ?_;simp only[f208,gJ]
 repeat' first|simp only[go_sem, *]|apply bc<;>intro a
 refine(h1 _).mono ?_;rintro r h ⟨j,n,rfl,_⟩;subst j;cases y:(n==0) with
 |false=>
  repeat' first|simp only[go_sem, *]|apply bc<;>intro a
 |true=>
 repeat' first|simp only[go_sem, *]|apply bc<;>intro a
 refine(l _).mono ?_;rintro r h ⟨j,m,rfl,o⟩;subst j;have hf:=b m o;cases m0:(m==0) with
 |false=>
  repeat' first|simp only[go_sem, *]|apply bc<;>intro a
 |true=>
 have s:=b 0 λ_=>o (by simpa using m0)
 repeat' first|simp only[go_sem, *]|apply bc<;>intro a|(refine zA.mono (h3 _) ?_;rintro r h ⟨u,w,rfl⟩)
def zCO (k:Int) (i n:Nat):Prop:=n<=64*i/\(k=2->n<=64)
def Xw (m:Nat) (r:D):Prop:=∃q b,r= .tuple [q, .bool b]/\∃l,Fin 1 (zj l) q/\(b=true->l.length<=64)/\∀a∈l,AltB m a
def dU {m:Nat} {l:List Alt} (h:∀a∈l,AltB m a):∀x∈zj l,yf x:=λx c=>by
 obtain⟨a,b,rfl⟩:=List.mem_map.1 c;exact(h a b).pl
def Xw.pl {m:Nat} {r:D} (h:Xw m r) (n:Nat):zi r=r/\below n r:=by
 obtain⟨q,b,rfl,l,hf,_,c⟩:=h;obtain⟨h1,a,h3⟩:=rm hf (dU c);simp only[zf,and_true] at a;simp only[zq,List.cons.injEq,and_true] at h3;exact⟨by simp[zi,zq,h3],by simp only[below,zf,and_true];exact zx (Nat.zero_le _) _ a⟩
def Xw.none (m:Nat):Xw m (.tuple [.nilsl, .bool false]):=⟨.nilsl,false,rfl,[], .inl ⟨rfl,rfl⟩,(λq=>by cases q),(λa h=>by cases h)⟩
def IJ (s x:List UInt8) (nid:Nat) (h:Heap):zI prog false nid 128 1 [(0, .agg [.str s, .str x])] h=some (.sl 2 [[.str s, .str x]] .full,h):=zz yX qt yv rfl rfl ow ow rfl rfl
def IK {l:List Ex} (a:i<l.length):zh (l.take (i+1))=zh (l.take i)+l[i].size:=by rw[List.take_succ_eq_append_getElem a,oY]
def Zn (l:List Ex) (i:Nat):zh (l.take i)<=zh l:=by
 have a:=ml (l.take i) (l.drop i);rw[List.take_append_drop] at a;omega
theorem DU {D0:D} (hc:yt c D0) (hs:c.Sm) (ai:c.ls.length<=40):∀ (n:Nat) {e:Ex},e.size<=n->e.Ok->e.Kd->e.size<=120->∀g:Heap,zA prog 209 [D0, .agg e.cells] g λr h'=>h'=g/\Xw e.size r:=by
 intro n
 induction n with
 |zero=>intro e h;cases e;simp only[Ex.size] at h;omega
 |succ n ih=>
 intro e hn Y T a9 g;refine xU kr λbs=>xS ?_;refine xP λQ hQ=> ?_;have a4:=bS hc hs ai;obtain⟨ca,cb,ce,cp,rfl,_,_,_,_⟩:=hc;obtain⟨k,nm,x,l,d⟩:=e;have hR:(Ex.mk k nm x l d).size=zh l+1:=by simp only[Ex.size]
 rw[hR] at hQ hn a9;simp only[Ex.Ok,Ex.Kd] at Y T;obtain⟨hd,hl,_,_,a3⟩:=Y;obtain⟨⟨b2,b3⟩,a2⟩:=T;have I:∀r h,Ext g h->Xw (zh l+1) r->Q r h:=λr h N hr=>hQ _ _ ⟨N,by rw[(hr.pl 0).1];exact(hr.pl _).2,by rw[(hr.pl 0).1];exact hr⟩;have C:=λh N=>I _ h N (Xw.none _);have bo:=uB hd;have cc:∀a b:List UInt8,zt prog 130 [(0, .str a),(1, .str b)]=some (.agg [.str a, .str b]):=λa b=>by simp[zt,uo,qt,qB,yU,D.notTuple,D.cells]
 have bx:∀a:List UInt8,zt prog 130 [(0, .str a)]=some (.agg [.str a, .str []]):=λa=>by simp[zt,uo,qt,qB,yU,D.notTuple,D.cells]
 have b7:=IJ;have b8:=λs x nid h=>nc (.sl 2 [[.str s, .str x]] .full) nid h rfl rfl rfl;cases k0:(k==0) with
 |true=>
  have f:Q (.tuple [.sl 1 [[.sl 2 [[.str nm, .str x]] .full]] .full, .bool true]) g:=hQ _ _ ⟨Ext.refl g,by simp[zi,zq,uM,below,zf,tY],by
   refine⟨.sl 1 (zj [mkA [⟨nm,x⟩]]) .no,true,by simp[zi,zq,uM,zj,mkA,yT,Trm.cells],_, .inr rfl,λ_=>by simp,λa ha=> ?_⟩;cases List.mem_singleton.1 ha;exact⟨.inr ⟨_,rfl⟩,by simp[mkA],lC _⟩⟩
  refine xO mix func209 Fs rfl rfl ?_;simp only[f209,gJ];simp only[Ex.cells,Ex.kind,Ex.name,Ex.exc,Ex.d];simp only[go_sem, *]
 |false=>
 cases k1:(k==1) with
 |true=>
  refine xO mix func209 Fs rfl rfl ?_;simp only[f209,gJ];simp only[Ex.cells,Ex.kind,Ex.name,Ex.exc,Ex.d];simp only[go_sem, *];refine(a4 _ _).mono ?_;rintro r h ⟨f,ps,q,m,rfl,ad,b9⟩;subst f;have b6:=yK ad;simp only[go_sem, *];refine zD (λi fr h'=>fr 7=q/\fr 9= .int .i64 (i:Int)/\∃all,Own h h' 1 (zj all) (fr 6)/\all.length=i/\∀a∈all,zZ 2 (yT a.ts) a.d/\a.ts.length<=zh l+1) ps.length ow ?_ ?_ ?_
  ·have u:∃all,Own h h 1 (zj all) .nilsl/\all.length=0/\∀a∈all,zZ 2 (yT a.ts) a.d/\a.ts.length<=zh l+1:=⟨[],Own.start (Ext.refl h) 1,rfl,λa h=>by cases h⟩;simp only[go_sem,true_and,and_true,Int.ofNat_zero];exact u
  ·rintro i fr h2 B ec ew ⟨f7,f9,all,p,J,A⟩;obtain⟨o,H⟩:∃o,fr 6=o:=⟨_,rfl⟩;rw[H] at p;have a1:=wN ad B;generalize ps[i]=s at *
   simp only[go_sem, *];refine p.appH (ys:=zj [⟨[⟨s,[]⟩], .sl 2 [[.str s, .str []]] .full⟩]) ym wq yp ow (wA _) (by simp[zj]) (by rw[zX,qQ];unfold lim;simp[zj];omega) (by rw[zX];unfold lim;simp[zj];omega) λd' h' a8=> ?_;have bk:∃al,Own h h' 1 (zj al) d'/\al.length=i+1/\∀a∈al,zZ 2 (yT a.ts) a.d/\a.ts.length<=zh l+1:=⟨all++ [⟨[⟨s,[]⟩], .sl 2 [[.str s, .str []]] .full⟩],by
    have:∀z:Alt,zj (all++ [z])=zj all++zj [z]:=λz=>by simp[zj]
    rw[this];exact a8,by simp[J],λx hx=>by
    rcases List.mem_append.1 hx with h1|h1
    ·exact A x h1
    ·cases List.mem_singleton.1 h1;exact⟨.inr ⟨_,rfl⟩,by simp⟩⟩
   exact au
  ·rintro fr h2 ec ⟨f7,f9,all,p,J,A⟩;obtain⟨o,H⟩:∃o,fr 6=o:=⟨_,rfl⟩;rw[H] at p;have a7:=kQ (m:=zh l+1) p.isSl ow ow A;have W:=qW p.isSl;rw[J] at W;have N:=p.1;have bb:all.length<=ps.length:=ow;simp only[go_sem, *];refine(a7 _).mono ?_;rintro r h3 ⟨f,l',hf,b4,ak⟩;subst f;have f:=I (.tuple [r, .bool (decide ((ps.length:Int)<=64))]) h3 N ⟨r,_,rfl,l',hf,λq=>by have:=of_decide_eq_true q;omega,ak⟩;simp only[go_sem, *]
 |false=>
 have hk:k=2\/k=3:=by
  have h0:k≠0:=by simpa using k0
  have h1:k≠1:=by simpa using k1
  omega
 have b5:l.length<=120:=by
  have:∀l:List Ex,l.length<=zh l:=λl=>by
   induction l with
   |nil=>simp
   |cons e l ih=>simp only[zh,List.length_cons];cases e;simp only[Ex.size];omega
  have:=this l;omega
 have U:∀i (hi:i<l.length) g,zA prog 209 [.agg [ca,cb,ce,cp], .agg l[i].cells] g λr h'=>h'=g/\Xw l[i].size r:=λi hi=>by
  have hm:=List.getElem_mem hi;have:=yY hm;exact ih ow (uA a3 _ hm) (VY.1 a2 _ hm) ow
 refine xO mix func209 Fs rfl rfl ?_;simp only[f209,gJ];simp only[Ex.cells,Ex.kind,Ex.name,Ex.exc,Ex.d];simp only[go_sem, *];refine zD (λi fr h=>fr 2= .iptr [ca,cb,ce,cp] 0/\fr 3= .iptr [.int .i64 k, .str nm, .str x,d] 0/\fr 10= .int .i64 (i:Int)/\h=g/\∃out,Fin 1 (zj out) (fr 6)/\zCO k i out.length/\∀a∈out,AltB (zh (l.take i)) a) l.length ow ?_ ?_ ?_
 ·have u:∃out,Fin 1 (zj out) .nilsl/\zCO k 0 out.length/\∀a∈out,AltB (zh (l.take 0)) a:=⟨[], .inl ⟨rfl,rfl⟩,⟨by simp,λ_=>by simp⟩,λa h=>by cases h⟩;simp only[go_sem,true_and,and_true,Int.ofNat_zero];exact u
 ·rintro i fr h B ec ew ⟨f2,f3,ag,f,out,p,F,j⟩;subst f;obtain⟨o,H⟩:∃o,fr 6=o:=⟨_,rfl⟩;rw[H] at p;have a1:=rX hd B;have S:=U i B;have ba:=IK B;have a5:=Zn l (i+1);have C:=C h (Ext.refl h);generalize l[i]=y at *
  simp only[Ex.cells] at a1 S;rw[ba] at a5⊢;simp only[go_sem, *];refine zO Heap.emp [(0, .no,false),(1, .no,false),(2, .no,false),(3, .no,false),(4, .no,false),(5, .no,false),(6, .no,false),(7, .no,false),(8, .no,false),(9, .no,false),(10, .no,false),(11, .no,false)] kr kr (λi ob e=>by cases e) ?_;simp only[go_sem, *];refine(S _).mono ?_;rintro r h2 ⟨f,q,b,rfl,l2,L,M,O⟩;subst f;cases b with
  |false=>
   simp only[go_sem, *]
  |true=>
  have M:=M rfl;have E:∀a∈out,AltB (zh (l.take i)+y.size) a:=λa h=>(j a h).mono ow;have G:∀a∈l2,AltB (zh (l.take i)+y.size) a:=λa h=>(O a h).mono ow;rcases hk with rfl|rfl
  ·have X:out.length<=64:=F.2 rfl;have P:∀r v,Fin 1 (zj v) r->(∀a∈v,AltB (zh (l.take i)+y.size) a)->v.length<=64->∃out,Fin 1 (zj out) r/\zCO 2 (i+1) out.length/\∀a∈out,AltB (zh (l.take i)+y.size) a:=λr v q1 q2 q3=>⟨v,q1,⟨by omega,λ_=>q3⟩,q2⟩;cases i0:((i:Int)==0) with
   |true=>
    have b1:i<=0:=by have:=beq_iff_eq.1 i0;omega
    have Z:=F.1;have K:=Xt (m:=zh (l.take i)+y.size) p.isSl L.isSl ow ow (λa h=>(E a h).io) (λa h=>(G a h).io);simp only[go_sem, *];refine(K _).mono ?_;rintro r h3 ⟨f,v,t,V,w⟩;subst f;have u:=P r v t w ow;have a6:=qW t.isSl;have R:decide ((v.length:Int)>64)=false:=decide_eq_false ow;simp only[go_sem, *]
   |false=>
    have a0:=DR (m:=zh (l.take i)) (n:=y.size) p.isSl L.isSl X M ow j O;simp only[go_sem, *];refine(a0 _).mono ?_;rintro r h3 ⟨f,v,t,V,w⟩;subst f;have a6:=qW t.isSl;cases R:decide ((v.length:Int)>64) with
    |true=>
     simp only[go_sem, *]
    |false=>
     have u:=P r v t w (by have:=of_decide_eq_false R;omega);exact au
  ·have Z:=F.1;have K:=Xt (m:=zh (l.take i)+y.size) p.isSl L.isSl ow ow (λa h=>(E a h).io) (λa h=>(G a h).io);simp only[go_sem, *];refine(K _).mono ?_;rintro r h3 ⟨f,v,t,V,w⟩;subst f;have u:∃out,Fin 1 (zj out) r/\zCO 3 (i+1) out.length/\∀a∈out,AltB (zh (l.take i)+y.size) a:=⟨v,t,⟨by omega,λq=>by cases q⟩,w⟩;exact au
 ·rintro fr h ec ⟨f2,f3,ag,f,out,p,F,j⟩;subst f;obtain⟨o,H⟩:∃o,fr 6=o:=⟨_,rfl⟩;rw[H] at p;have W:=qW p.isSl;rw[List.take_length] at j;have f:=I (.tuple [o, .bool (decide ((out.length:Int)<=64))]) h (Ext.refl h) ⟨o,_,rfl,out,p,λq=>by have:=of_decide_eq_true q;omega,λa h=>(j a h).mono ow⟩;exact au
def OfR (r:D):Prop:=∃q n,r= .tuple [q, .int .i64 n]/\∃l m,Fin 1 (zj l) q/\l.length<=64/\∀a∈l,AltB m a
def zFe {s:D} (m:yt c s) (u:c.Sm) (k:c.ls.length<=40) (j:e.Ok) (p:e.size<=120) (g:Heap):zA prog 137 [s, .agg e.cells] g λr h'=>h'=g/\OfR r:=by
 refine xP λQ t=> ?_;have h1:=Xv m u j ow;have d:=λw=>DU m u k _ (Nat.le_refl _) j w p;obtain⟨ca,cb,ce,cp,rfl,_,_,_,_⟩:=m;have i:∀n,Q (.tuple [.nilsl, .int .i64 n]) g:=λn=>t _ _ ⟨rfl, .nilsl,n,rfl,[],0, .inl ⟨rfl,rfl⟩,by simp,λa h=>by cases h⟩;have f:∀q l,Fin 1 (zj l) q->l.length<=64->(∀a∈l,AltB e.size a)->Q (.tuple [q, .int .i64 0]) g:=λq l h1 d h3=>t _ _ ⟨rfl,q,0,rfl,l,_,h1,d,h3⟩;simp only[Ex.cells] at h1 d⊢;refine xO mix func137 zDr rfl rfl ?_;simp only[f137,gJ];simp only[go_sem, *];refine(h1 _).mono ?_;rintro r h ⟨o,n,rfl,y⟩;subst o;cases A:(n==0) with
 |false=>
  have z:=i n;simp only[go_sem, *]
 |true=>
 have d:=d (y (by simpa using A));simp only[go_sem, *];refine(d _).mono ?_;rintro r h ⟨o,q,b,rfl,l,hf,x,v⟩;subst o;cases b with
 |false=>
  simp only[go_sem, *]
 |true=>
  have hf:=f q l hf (x rfl) v;exact au
def OwS (s:List UInt8) (G h:Heap) (d:D) (m:Nat):Prop:=∃ps,Own G h 1 (yR ps) d/\ps.length<=m/\∀p∈ps,p.length<=s.length
def OwS.app {s x:List UInt8} {G h:Heap} {m:Nat} {w:HidR K} (f:OwS s G h d m) (k:m<=2097152) (i:x.length<=s.length) (e:∀a h',OwS s G h' a (m+1)->K a h'):L4 (zu prog false h.next 31 d (.sl 1 [[.str x]] tk) h) K w:=by
 obtain⟨c,h1,j,h3⟩:=f;refine h1.appH (ys:=yR [x]) yq km uY ow (by simp[yR]) (by simp[yR]) (by rw[z7,tB];unfold lim;simp[yR];omega) (by rw[z7];unfold lim;simp[yR];omega) λa h' b=> ?_;refine e a h' ⟨c++ [x],?_,by simp;omega,λp g=> ?_⟩
 ·have:yR (c++ [x])=yR c++yR [x]:=by simp[yR]
  rw[this];exact b
 ·rcases List.mem_append.1 g with q|q
  ·exact h3 p q
  ·cases List.mem_singleton.1 q;exact i
def IL (s:List UInt8) (V:s.length<=1048576) (b:Int) (g:Heap):zA prog 330 [.str s, .int .u8 b] g λr h'=>h'=g/\∃v,Fin 1 (yR v) r/\v.length<=s.length+1/\∀p∈v,p.length<=s.length:=by
 refine xU kr λC=>xS ?_;refine xP λQ E=> ?_;have F:∀h,tU prog 9 (.str s) h=some (.int .i64 s.length):=λh=>qh underlying9;have a:∀d h,OwS s g h d (s.length+1)->Q d h:=λd h ⟨v,h1,A,h3⟩=>by
  obtain⟨y,K,L⟩:=h1.fin qF;exact E _ _ ⟨y,K,v,L,A,h3⟩
 have G:=pz;have l:∀ (u w:Nat),u<=w->w<=s.length->∀h,∃x,yh prog 9 (.str s) (some (.int .i64 (u:Int))) (some (.int .i64 (w:Int))) none h=some (.str x)/\x.length<=s.length:=λu w h1 A h=>⟨_,MB h1 A h,by simp;omega⟩;have c:∀ (u:Nat),u<=s.length->∀h,∃x,yh prog 9 (.str s) (some (.int .i64 (u:Int))) none none h=some (.str x)/\x.length<=s.length:=λu h1 h=>⟨_,H9 h1 h,by simp⟩;clear E C;refine xO mix func330 zDL rfl rfl ?_;simp only[f330,gJ];simp only[go_sem, *]
 refine zD (λi fr h=>fr 0= .str s/\fr 1= .int .u8 b/\fr 7= .int .i64 (i:Int)/\∃st:Nat,fr 6= .int .i64 (st:Int)/\st<=i/\OwS s g h (fr 5) i) s.length ow ?_ ?_ ?_
 ·have f:OwS s g g .nilsl 0:=⟨[],Own.start (Ext.refl g) 1,by simp,λp h=>by cases h⟩;clear a l c;simp only[go_sem,true_and,and_true,Int.ofNat_zero];exact⟨0,rfl,by omega,f⟩
 ·rintro i fr h B I T ⟨J,y,N,st,M,f,k⟩;obtain⟨o,z⟩:∃o,fr 5=o:=⟨_,rfl⟩;rw[z] at k;have S:tF prog 9 (.str s) (.int .i64 (i:Int))=some (.int .u8 s[i].toNat):=wJ underlying9 (List.getElem?_eq_getElem B);obtain⟨x,O,t⟩:=l st i f ow h;have m:∀ {o:D} {h:Heap},OwS s g h o i->∃j:Nat,D.int .i64 (st:Int)= .int .i64 (j:Int)/\j<=i+1/\OwS s g h o (i+1):=λ⟨v,P,W,R⟩=>⟨st,rfl,by omega,v,P,by omega,R⟩;have n:∀ {o:D} {h:Heap},OwS s g h o (i+1)->∃j:Nat,D.int .i64 ((i+1:Nat):Int)= .int .i64 (j:Int)/\j<=i+1/\OwS s g h o (i+1):=λq=>⟨i+1,rfl,by omega,q⟩;clear a l c;cases U:((s[i].toNat:Int)==b) with
  |true=>
   clear m;simp only[go_sem, *];refine k.app ow t λH h' e=> ?_;have n:=n e;clear k e;simp only[go_sem, *]
  |false=>
   have m:=m k;clear n k;exact au
 ·rintro fr h I ⟨J,y,N,st,M,f,k⟩;obtain⟨o,z⟩:∃o,fr 5=o:=⟨_,rfl⟩;rw[z] at k;obtain⟨x,O,t⟩:=c st f h;clear l c;simp only[go_sem, *];refine k.app ow t λH h' e=> ?_;have a:=a _ _ e;clear k e;exact au
def DV (s:List UInt8) (t:s.length<=1048576) (g:Heap):zA prog 331 [.str s] g λr h'=>h'=g/\MC r:=by
 refine xP λQ k=> ?_;have c:∀b,Q (.bool b) g:=λb=>k _ _ ⟨rfl,b,rfl⟩;have d:∀h,tU prog 9 (.str s) h=some (.int .i64 s.length):=λh=>qh underlying9;refine xO mix func331 zDg rfl rfl ?_;simp only[f331,gJ];cases h0:decide ((s.length:Int)<1) with
 |true=>
  repeat' first|simp only[go_sem, *]|apply bc<;>intro l
 |false=>
  have j:=of_decide_eq_false h0;have m:0<s.length:=ow;have o:tF prog 9 (.str s) (.int .i64 0)=some (.int .u8 s[0].toNat):=wJ (n:=0) underlying9 (List.getElem?_eq_getElem m);generalize s[0]=z at *
  repeat' first|simp only[go_sem, *]|apply bc<;>intro l
  refine zD (λi fr h=>fr 0= .str s/\fr 3= .int .i64 (i:Int)/\h=g) s.length ow ?_ ?_ ?_
  ·simp only[go_sem,true_and,and_true,Int.ofNat_zero]
  ·rintro i fr h a e1 q ⟨e,f,rfl⟩;have p:tF prog 9 (.str s) (.int .i64 (i:Int))=some (.int .u8 s[i].toNat):=wJ underlying9 (List.getElem?_eq_getElem a);generalize s[i]=y at *
   exact au
  ·rintro fr h e1 ⟨e,f,rfl⟩;exact au
def Lg (s:List UInt8) (u:s.length<=1048576) (g:Heap):zA prog 267 [.str s] g λr h'=>h'=g/\IsI r:=by
 refine xP λQ t=> ?_;have p:∀b,Q (.int .i64 b) g:=λb=>t _ _ ⟨rfl,b,rfl⟩;have q:∀h,tU prog 9 (.str s) h=some (.int .i64 s.length):=λh=>qh underlying9;have n:=IL s u 47;refine xO mix func267 zDH rfl rfl ?_;simp only[f267,gJ]
 repeat' first|simp only[go_sem, *]|apply bc<;>intro o
 refine(n _).mono ?_;rintro r h ⟨d,e,hf,x,l⟩;subst d;have c:=hf.isSl;have v:=yK c
 repeat' first|simp only[go_sem, *]|apply bc<;>intro o
 refine zD (λi fr h'=>fr 14=r/\fr 15= .int .i64 (e.length:Int)/\fr 16= .int .i64 (i:Int)/\h'=h) e.length ow ?_ ?_ ?_
 ·simp only[go_sem,true_and,and_true,Int.ofNat_zero]
 ·rintro i fr h a e1 B ⟨f,j,k,d⟩;subst d;have A:=wN c a;have m:=DV e[i] (by have:=l _ (List.getElem_mem a);omega);generalize e[i]=y at *
  repeat' first|simp only[go_sem, *]|apply bc<;>intro o|(refine zA.mono (m _) ?_;rintro r h ⟨z,w,rfl⟩)
 ·rintro fr h e1 ⟨f,j,k,d⟩;subst d;exact au
def zBL (k:Int):k=0\/k=1\/k=2\/k=3\/k=4\/((k==0)=false/\(k==1)=false/\(k==2)=false/\(k==3)=false/\(k==4)=false):=by
 by_cases h0:k=0
 ·exact .inl h0
 by_cases h1:k=1
 ·exact .inr (.inl h1)
 by_cases a:k=2
 ·exact .inr (.inr (.inl a))
 by_cases h3:k=3
 ·exact .inr (.inr (.inr (.inl h3)))
 by_cases b:k=4
 ·exact .inr (.inr (.inr (.inr (.inl b))))
 exact .inr (.inr (.inr (.inr (.inr ⟨by simpa using h0,by simpa using h1,by simpa using a,by simpa using h3,by simpa using b⟩))))
def zBM:zt prog 56 []=some (.agg zEx):=by simp[zt,RF,Kb,qB,D.notTuple,D.cells]
def IM {f:Fac} (a:f.Ok) (g:Heap):zA prog 266 [.agg f.cells] g λr h'=>h'=g/\MC r:=by
 refine xP λQ l=> ?_;have i:∀b,Q (.bool b) g:=λb=>l _ _ ⟨rfl,b,rfl⟩;have heq:=IG _ (Nat.le_refl _) a.e a.es (e2:= .mk 0 [] [] [] .nilsl) (by simp[Ex.Ok,okL,exs,zZ.nil]);have o:=zBM;have c:=yK a.list;have j:=pL;obtain⟨k,q,z,A,B,s,p,e,y,d⟩:=f;simp only[Fac.cells,Ex.cells,Ex.kind,Ex.name,Ex.exc,Ex.d] at heq c⊢;generalize e.kind=u at *
 generalize e.name=v at *
 generalize e.exc=x at *
 generalize e.d=t at *
 rcases zBL k with rfl|rfl|rfl|rfl|rfl| ⟨k0,k1,k2,k3,k4⟩
 all_goals
  refine xO mix func266 zE4 rfl rfl ?_;simp only[f266,gJ]
  repeat' first|simp only[go_sem, *]|apply bc<;>intro m
  refine zU kr ?_
  repeat' first|simp only[go_sem, *]|apply bc<;>intro m|(refine zA.mono (heq _) ?_;rintro r h ⟨n,w,rfl⟩)
theorem DW {Y:D} (o:yt c Y) (hs:c.Sm) {f:Fac} (j:f.Ok) (g:Heap):zA prog 207 [Y, .agg f.cells] g λr h'=>h'=g/\IsI r:=by
 refine xU kr λad=> ?_;refine xP λQ Z=> ?_;have a:∀b h,Ext g h->Q (.int .i64 b) h:=λb h z=>Z _ _ ⟨z,by simp[below],b,rfl⟩;have B:∀b,Q (.int .i64 b) g:=λb=>a b g (Ext.refl g);have v:=IM j;have t:=Lg f.comp j.comp;have u:=Lg f.out j.out;have p:=Xv o hs j.e j.es;have l:=bR o hs;have bo:=yK j.list;have m:=λi (hi:i<f.list.length)=>wN j.list hi;have bk:=j.ll;have ba:=pL;have ak:=nZ;obtain⟨ca,cb,ce,cp,rfl,_,_,_,_⟩:=o;clear Z;obtain⟨k,cm,ot,rl,wy,du,cg,e,I,d⟩:=f;simp only[Fac.cells,Ex.cells,Ex.kind,Ex.name,Ex.exc,Ex.d] at *
 clear j;generalize e.kind=ek at *
 generalize e.name=en at *
 generalize e.exc=ex at *
 generalize e.d=ed at *
 cases k1:decide (k<0) with
 |true=>
  clear v t u p l a;refine xO mix func207 Fb rfl rfl ?_;simp only[f207,gJ]
  repeat' first|simp only[go_sem, *]|apply bc<;>intro o
 |false=>
 cases k2:decide (k>4) with
 |true=>
  clear v t u p l a;refine xO mix func207 Fb rfl rfl ?_;simp only[f207,gJ]
  repeat' first|simp only[go_sem, *]|apply bc<;>intro o
 |false=>
 have hk:k=0\/k=1\/k=2\/k=3\/k=4:=by
  have:=of_decide_eq_false k1;have:=of_decide_eq_false k2;omega
 clear k1 k2;have A:=λ(x:Lic) (h:Heap)=>pV x h h.next;rcases hk with rfl|rfl|rfl|rfl|rfl
 all_goals
  refine xO mix func207 Fb rfl rfl ?_;simp only[f207,gJ]
  repeat' first|simp only[go_sem, *]|apply bc<;>intro o|(refine zA.mono (v _) ?_;rintro r h ⟨G,w,rfl⟩)|(refine zA.mono (t _) ?_;rintro r h ⟨G,w,rfl⟩)|(refine zA.mono (u _) ?_;rintro r h ⟨G,w,rfl⟩)
 all_goals try
  refine(p _).mono ?_;rintro r h ⟨F,n,rfl,_⟩;subst F;clear v t u p l a;exact au
 all_goals
  clear v t u p B;refine zD (λi fr h=>fr 2= .iptr [ca,cb,ce,cp] 0/\(∃J K L M N O P R S T y,fr 3= .iptr [J,K,L,M,N,O,P,R,S,T,y,d] 0)/\fr 5= .int .i64 (i:Int)/\Ext g h) I.length ow ?_ ?_ ?_
  ·have z:=Ext.refl g;clear a m;simp only[go_sem,true_and,and_true,Int.ofNat_zero];exact⟨⟨_,_,_,_,_,_,_,_,_,_,_,rfl⟩,z⟩
  ·rintro i fr h C ec ew ⟨V,⟨J,K,L,M,N,O,P,R,S,T,y,E⟩,W,z⟩;have b1:=m i C;generalize I[i]=s at *
   have bb:∀h,HLe Heap.emp h:=λh i ob e=>by cases e
   clear m
   repeat' first|simp only[go_sem, *]|apply bc<;>intro o
   refine zO Heap.emp [(0, .st,true),(1, .no,true),(2, .st,true),(3, .no,true),(4, .no,true),(5, .st,true),(6, .sq,true),(7, .no,true),(8, .no,true),(9, .no,true),(10, .no,true),(11, .no,true),(12, .no,true)] kr kr (λi ob e=>by cases e) ?_
   repeat' first|simp only[go_sem, *]|apply bc<;>intro o
   refine EC _ (λH=>l s H) ⟨_,⟨[],[],0,[]⟩,false,rfl,λq=>by cases q⟩ ?_;rintro r ⟨x,b,rfl,_⟩;have ag:=A x h;have X:=z.new z.1 (.row [.str x.name, .str x.fam, .int .i64 x.ver, .str x.text]);cases b with
   |false=>
    have hf:=a 7 _ X;clear l a A
    repeat' first|simp only[go_sem, *]|apply bc<;>intro o
   |true=>
    clear l a A
    repeat' first|simp only[go_sem, *]|apply bc<;>intro o
    exact⟨_,_,_,_,_,_,_,_,_,_,_,rfl⟩
  clear l A;rintro fr h ec ⟨V,⟨J,K,L,M,N,O,P,R,S,T,y,E⟩,W,z⟩
  repeat' first|simp only[go_sem, *]|apply bc<;>intro o
  refine kD (λi fr h'=>fr 3= .iptr [J,K,L,M,N,O,P,R,S,T,y,d] 0/\fr 8= .int .i64 (i:Int)/\h'=h) I.length ow ?_ ?_ ?_
  ·simp only[go_sem,true_and,and_true,Int.ofNat_zero,E];rfl
  ·clear V E W fr;rintro i fr h' C U ew ai ⟨E,f8,F⟩;subst F;have b1:=m i ow;have b2:=m (i+1) C;have a:=λb=>a b _ z;generalize I[i]=s at *
   generalize I[i+1]=s2 at *
   clear m
   repeat' first|simp only[go_sem, *]|apply bc<;>intro o
   refine zU kr ?_;exact au
  ·clear V E W fr;rintro i fr h' U ⟨E,f8,F⟩;subst F;have a:=λb=>a b _ z;clear m;exact au
def R6 {o x:D} (a:yt c o) (s:c.Sm) (t:zZ 12 (nb fs) x) (H:fs.length<=1048576) (m:∀f∈fs,f.Ok) (g:Heap):zA prog 136 [o,x] g λr h'=>h'=g/\∃i n,r= .tuple [.int .i64 i, .int .i64 n]:=by
 refine xP λQ C=> ?_;have p:∀i n,Q (.tuple [.int .i64 i, .int .i64 n]) g:=λi n=>C _ _ ⟨rfl,i,n,rfl⟩;have k:=tz a s;have l:=λi (E:i<fs.length)=>DW a s (m _ (List.getElem_mem E));have q:=uR t;have B:=nZ;obtain⟨ca,cb,ce,cp,rfl,_,_,_,_⟩:=a;refine xO mix func136 zDS rfl rfl ?_;simp only[f136,gJ]
 repeat' first|simp only[go_sem, *]|apply bc<;>intro a
 refine(k _).mono ?_;rintro r h ⟨j,n,rfl,_⟩;subst j
 repeat' first|simp only[go_sem, *]|apply bc<;>intro a
 refine zD (λi fr h'=>fr 1=x/\fr 2= .iptr [ca,cb,ce,cp] 0/\fr 6= .int .i64 (i:Int)/\h'=h) fs.length ow ?_ ?_ ?_
 ·simp only[go_sem,true_and,and_true,Int.ofNat_zero]
 ·rintro i fr h' d v G ⟨y,z,A,j⟩;subst j;have u:=qZ t d;have b:=l i d;generalize fs[i]=f at *
  simp only[Fac.cells] at u b
  repeat' first|simp only[go_sem, *]|apply bc<;>intro a
  refine zO Heap.emp [(0, .no,false),(1, .no,false),(2, .no,false),(3, .no,false),(4, .no,false),(5, .no,false),(6, .no,false)] kr kr (λi I e=>by cases e) ?_
  repeat' first|simp only[go_sem, *]|apply bc<;>intro a|(refine zA.mono (b _) ?_;rintro r h ⟨F,w,rfl⟩)
 ·rintro fr h' v ⟨y,z,A,j⟩;subst j;exact au
def Th {l:List (List UInt8)} (c:zZ 1 (yR l) d) (v:l.length<=1048576) (s:List UInt8) (g:Heap):zA prog 131 [d, .str s] g λr h'=>h'=g/\IsI r:=by
 refine xP λQ p=> ?_;have e:∀n,Q (.int .i64 n) g:=λn=>p _ _ ⟨rfl,n,rfl⟩;have f:=yK c;refine xO mix func131 zDq rfl rfl ?_;simp only[f131,gJ]
 repeat' first|simp only[go_sem, *]|apply bc<;>intro u
 refine zD (λi fr h=>fr 0=d/\fr 1= .str s/\fr 5= .int .i64 (i:Int)/\h=g) l.length ow ?_ ?_ ?_
 ·simp only[go_sem,true_and,and_true,Int.ofNat_zero]
 ·rintro i fr h a j t ⟨k,m,o,b⟩;subst b;have q:=wN c a;generalize l[i]=y at *
  exact au
 ·rintro fr h j ⟨k,m,o,b⟩;subst b;exact au
structure Als where
 l:List Alt
 d:D
structure Als.Ok (a:Als):Prop where
 sl:zZ 1 (zj a.l) a.d
 len:a.l.length<=64
 pl:yf [a.d]
def Xx (l:List Als):List (List D):=l.map λa=>[a.d]
def nk (l:List Als):(Xx l).length=l.length:=List.length_map ..
def IN {l:List Als} (h:i<l.length):(Xx l)[i]? =some [l[i].d]:=by simp[Xx,h]
def IP (l:List Als):∀x∈Xx l,x.length=1:=λx b=>by
 obtain⟨a,_,rfl⟩:=List.mem_map.1 b;rfl
def IQ {l:List Als} (a:zZ 1 (Xx l) d) (h:Heap):tU prog 61 d h=some (.int .i64 l.length):=by rw[yc a underlying61,nk]
def DX {l:List Als} (a:zZ 1 (Xx l) d) (b:i<l.length):zQ prog 61 d (.int .i64 (i:Int))=some (.iptr [l[i].d] 0):=zb a oU mQ (IN b)
def IR (d:D) (nid:Nat) (h:Heap) (h1:d.cells= [d]) (a:d.notTuple=true) (h3:d.flat=true):zI prog false nid 61 1 [(0,d)] h=some (.sl 1 [[d]] .full,h):=by
 have:=zz (P:=prog) (nid:=nid) (h:=h) (x:=d) oU V3 mQ rfl rfl ow ow a (by rw[h1];rfl);rw[h1] at this;exact this
def Ti (m:Nat) (r:D):Prop:=∃ts os tq oq n,r= .tuple [tq,oq, .int .i64 n]/\Fin 1 (Xx ts) tq/\(∀a∈ts,a.Ok)/\ts.length<=m/\Fin 1 (yR os) oq/\os.length<=m
def Ti.nil (m:Nat) (n:Int):Ti m (.tuple [.nilsl, .nilsl, .int .i64 n]):=⟨[],[], .nilsl, .nilsl,n,rfl, .inl ⟨rfl,rfl⟩,(λa h=>by cases h),by simp, .inl ⟨rfl,rfl⟩,by simp⟩
def dV (g:Heap) (m:Nat) (td od:D) (h:Heap):Prop:=∃ts os,Own2 g h 1 (Xx ts) td 1 (yR os) od/\(∀a∈ts,a.Ok)/\ts.length<=m/\os.length<=m
theorem Lh {D0 x:D} (hc:yt c D0) (hs:c.Sm) (Y:c.ls.length<=40) (P:zZ 12 (nb fs) x) (hl:fs.length<=260) (M:∀f∈fs,f.Ok) (H:∀f∈fs,f.e.size<=120) (g:Heap):zA prog 69 [D0,x] g λr h'=>h'=g/\Ti fs.length r:=by
 refine xU kr λa6=>xS ?_;refine xP λQ hQ=> ?_;have ag:=R6 hc hs P ow M;have L:=λi (hi:i<fs.length)=>zFe hc hs Y (M _ (List.getElem_mem hi)).e (H _ (List.getElem_mem hi));have a5:=uR P;have a8:=nZ;have a9:=pL;have d:∀n h,Ext g h->Q (.tuple [.nilsl, .nilsl, .int .i64 n]) h:=λn h Z=>hQ _ _ ⟨Z,by simp[zi,zq,below,zf],by simpa [zi,zq] using Ti.nil _ n⟩;have y:∀td od h,dV g fs.length td od h->Q (.tuple [td,od, .int .i64 0]) h:=λtd od h ⟨j,k,u,h1,X,h3⟩=>by
  obtain⟨T,V,f3⟩:=u.a.fin λx P=>by
   obtain⟨a,ha,rfl⟩:=List.mem_map.1 P;exact(h1 a ha).pl
  obtain⟨g1,g2,g3⟩:=u.b.fin qF;exact hQ _ _ ⟨T,by simp[zi,zq,below,zf,V,g2],j,k,zi td,zi od,0,by simp[zi,zq],f3,h1,X,g3,h3⟩
 obtain⟨ca,cb,ce,cp,rfl,_,_,_,_⟩:=hc;have a7:=pz;refine xO mix func69 zHI rfl rfl ?_;simp only[f69,gJ];simp only[go_sem, *];refine(ag _).mono ?_;rintro r h0 ⟨N,n1,n2,rfl⟩;subst N;cases e0:(n2==0) with
 |false=>
  have hn:=d n2 h0 (Ext.refl h0);simp only[go_sem, *]
 |true=>
 have O:dV h0 0 .nilsl .nilsl h0:=⟨[],[],Own2.start (Ext.refl h0) 1 1,(λa h=>by cases h),by simp,by simp⟩;simp only[go_sem, *];refine zD (λi fr h=>fr 1=x/\fr 2= .iptr [ca,cb,ce,cp] 0/\fr 11= .int .i64 (i:Int)/\dV h0 i (fr 9) (fr 10) h) fs.length ow ?_ ?_ ?_
 ·clear d y L;simp only[go_sem,true_and,and_true,Int.ofNat_zero];exact O
 ·clear O;rintro i fr h J ec ew ⟨T,V,U,u⟩;obtain⟨td,W⟩:∃o,fr 9=o:=⟨_,rfl⟩;obtain⟨od,B⟩:∃o,fr 10=o:=⟨_,rfl⟩;rw[W,B] at u;have a1:=qZ P J;have A:=L i J;have Z:Ext h0 h:=by obtain⟨_,_,q,_⟩:=u;exact q.a.1
  have d:=λn=>d n h Z;have ai:∀s,zA prog 131 [od, .str s] h λr h'=>h'=h/\IsI r:=λs=>by
   obtain⟨j,k,q,_,_,G⟩:=u;exact Th q.b.isSl ow s h
  generalize fs[i]=f at *
  simp only[Fac.cells,Ex.cells] at a1 A;have a0:dV h0 (i+1) td od h:=by
   obtain⟨j,k,E,F,R,G⟩:=u;exact⟨j,k,E,F,by omega,by omega⟩
  have a4:∀t h',dV h0 (i+1) t od h'->∀s,zA prog 131 [od, .str s] h' λr p=>p=h'/\IsI r:=λt h' ⟨j,k,q,_,_,G⟩ s=>Th q.b.isSl ow s h';have I:∀t h' (K:D->Heap->Prop) (w:HidR K) s,(∃j k,Own2 h0 h' 1 (Xx j) t 1 (yR k) od/\(∀a∈j,a.Ok)/\j.length<=i+1/\k.length<=i)->(∀C p,dV h0 (i+1) t C p->K C p)->L4 (zu prog false h'.next 31 od (.sl 1 [[.str s]] .full) h') K w:=λt h' K w s ⟨j,k,E,F,R,G⟩ hK=>by
   refine E.swap.appH (zs:=yR [s]) yq km uY ow (by simp[yR]) (by simp[yR]) (by rw[z7,tB];unfold lim;simp[yR];omega) (by rw[z7];unfold lim;simp[yR];omega) λS p v=> ?_;refine hK S p ⟨j,k++ [s],?_,F,R,by simp;omega⟩
   have:yR (k++ [s])=yR k++yR [s]:=by simp[yR]
   rw[this];exact v.swap
  cases k1:(f.kind==1) with
  |true=>
   have k2:(f.kind==2)=false:=by
    have:=beq_iff_eq.1 k1;rw[this];rfl
   simp only[go_sem, *];refine zO Heap.emp [(0, .no,false),(1, .no,false),(2, .no,false),(3, .no,false),(4, .no,false),(5, .no,false),(6, .no,false),(7, .no,false),(8, .no,false),(9, .no,false),(10, .no,false),(11, .no,false)] kr kr (λi ob e=>by cases e) ?_;simp only[go_sem, *];refine(A _).mono ?_;rintro r X ⟨N,q,n,rfl,l,m,hf,ak,ad⟩;subst N;cases n0:(n==0) with
   |false=>
    have hn:=d n;simp only[go_sem, *]
   |true=>
   obtain⟨z1,z2,z3⟩:=zJ hf.isSl;have a2:=λnid h=>IR q nid h z1 z2 z3;obtain⟨j,k,E,F,R,G⟩:=u;simp only[go_sem, *];refine E.appH (zs:=Xx [⟨l,q⟩]) oU Qv mQ ow (IP _) (by simp[Xx]) (by rw[nk,YR];unfold lim;simp[Xx];omega) (by rw[nk];unfold lim;simp[Xx];omega) λS h' v=> ?_;have ba:dV h0 (i+1) S od h':=⟨j++ [⟨l,q⟩],k,by
    have:∀z:Als,Xx (j++ [z])=Xx j++Xx [z]:=λz=>by simp[Xx]
    rw[this];exact v,λa ha=>by
    rcases List.mem_append.1 ha with h1|h1
    ·exact F a h1
    ·cases List.mem_singleton.1 h1;exact⟨hf.isSl,ak,rm hf (dU ad)⟩,by simp;omega,by omega⟩
   simp only[go_sem, *]
  |false=>
  cases k2:(f.kind==2) with
  |false=>
   simp only[go_sem, *]
  |true=>
  have a3:=λK w s hK=>I td h K w s (by obtain⟨j,k,E,F,R,G⟩:=u;exact⟨j,k,E,F,by omega,G⟩) hK;simp only[go_sem, *];refine(ai _).mono ?_;rintro r X ⟨N,w,rfl⟩;subst N;cases w0:decide (w<0) with
  |false=>
   simp only[go_sem, *]
  |true=>
   simp only[go_sem, *];refine a3 _ _ _ λC h' v=> ?_;exact au
 ·rintro fr h ec ⟨T,V,U,u⟩;obtain⟨td,W⟩:∃o,fr 9=o:=⟨_,rfl⟩;obtain⟨od,B⟩:∃o,fr 10=o:=⟨_,rfl⟩;rw[W,B] at u;have hf:=y td od h u;exact au
def Li {l:List Int} (a:zZ 1 (qG l) d) (h:Heap):tU prog 45 d h=some (.int .i64 l.length):=by rw[yc a underlying45,yN]
def Tj {l:List Int} (a:zZ 1 (qG l) d) (b:i<l.length):zQ prog 45 d (.int .i64 (i:Int))=some (.iptr [.int .i64 l[i]] 0):=zb a yJ wc (by simp[qG,b])
def IS (n:Int) (nid:Nat) (h:Heap):zI prog false nid 45 1 [(0, .int .i64 n)] h=some (.sl 1 [[.int .i64 n]] .full,h):=zz (x:= .int .i64 n) yJ uN wc rfl rfl ow ow rfl rfl
def OwI (G h:Heap) (d:D) (m:Nat):Prop:=∃l,Own G h 1 (qG l) d/\l.length<=m
def OwI.app {G h:Heap} {m:Nat} {n:Int} {w:HidR K} (e:OwI G h d m) (g:m<=2097152) (c:∀a h',OwI G h' a (m+1)->K a h'):L4 (zu prog false h.next 45 d (.sl 1 [[.int .i64 n]] tk) h) K w:=by
 obtain⟨l,h1,f⟩:=e;refine h1.appH (ys:=qG [n]) yJ YP wc ow (by simp[qG]) (by simp[qG]) (by rw[yN,mO];unfold lim;simp[qG];omega) (by rw[yN];unfold lim;simp[qG];omega) λa h' b=> ?_;refine c a h' ⟨l++ [n],?_,by simp;omega⟩
 have:qG (l++ [n])=qG l++qG [n]:=by simp[qG]
 rw[this];exact b
def IT {M x:D} (O:yt c M) (hs:c.Sm) (H:c.ls.length<=40) (hx:zZ 12 (nb fs) x) (Z:fs.length<=260) (K:∀f∈fs,f.Ok) (B:∀f∈fs,f.e.size<=120) (g:Heap):zA prog 62 [M,x] g λr h'=>h'=g/\∃q n l,r= .tuple [q, .int .i64 n]/\zZ 1 (qG l) q/\l.length<=520:=by
 refine xU kr λP=>xS ?_;refine xP λQ I=> ?_;have C:=Lh O hs H hx Z K B;have k:∀n h,Ext g h->Q (.tuple [.nilsl, .int .i64 n]) h:=λn h X=>I _ _ ⟨X,by simp[zi,zq,below,zf], .nilsl,n,[],by simp[zi,zq], .inl ⟨rfl,rfl⟩,by simp⟩;have a:∀d h,OwI g h d 520->Q (.tuple [d, .int .i64 0]) h:=λd h ⟨l,J,h1⟩=>by
  obtain⟨V,s,W⟩:=J.fin (dH _);exact I _ _ ⟨V,by simp[zi,zq,below,zf,s],zi d,0,l,by simp[zi,zq],W.isSl,h1⟩
 obtain⟨ca,cb,ce,cp,rfl,Y,_,_,_⟩:=O;have R:=IS;have ad:=qz Y;clear I;refine xO mix func62 zHs rfl rfl ?_;simp only[f62,gJ];simp only[go_sem, *];refine(C _).mono ?_;rintro r h0 ⟨hq,E,os,tq,T,n,rfl,S,b,a2,J,a0⟩;subst hq;clear C;cases e0:(n==0) with
 |false=>
  have hn:=k n h0 (Ext.refl h0);clear k a b;simp only[go_sem, *]
 |true=>
 have v:OwI h0 h0 .nilsl 0:=⟨[],Own.start (Ext.refl h0) 1,by simp⟩;have p:=IQ S.isSl;have ai:=yK J.isSl;clear k;simp only[go_sem, *];refine zD (λi fr h=>fr 2= .iptr [ca,cb,ce,cp] 0/\fr 6=tq/\fr 7=T/\fr 10= .int .i64 (i:Int)/\OwI h0 h (fr 9) i) E.length ow ?_ ?_ ?_
 ·clear a b;simp only[go_sem,true_and,and_true,Int.ofNat_zero];exact v
 ·clear v;rintro i fr h p A U ⟨s,G,z,u,j⟩;obtain⟨o,m⟩:∃o,fr 9=o:=⟨_,rfl⟩;rw[m] at j;have a1:=DX S.isSl p;have L:=b _ (List.getElem_mem p);have ag:=qW L.sl;generalize E[i]=t at *
  clear a b;simp only[go_sem, *];refine j.app ow λN h' w=> ?_;clear j;exact au
 clear v;rintro fr h A ⟨s,G,z,u,j⟩;obtain⟨o,m⟩:∃o,fr 9=o:=⟨_,rfl⟩;rw[m] at j;have y:OwI h0 h o (E.length+0):=j;clear j;simp only[go_sem, *];refine zD (λi fr h=>fr 2= .iptr [ca,cb,ce,cp] 0/\fr 7=T/\fr 11= .int .i64 (i:Int)/\OwI h0 h (fr 9) (E.length+i)) os.length ow ?_ ?_ ?_
 ·clear a b;simp only[go_sem,true_and,and_true,Int.ofNat_zero,s,z,m];exact y
 ·clear y s G z u m A fr h;rintro i fr h p A U ⟨s,z,F,j⟩;obtain⟨o,m⟩:∃o,fr 9=o:=⟨_,rfl⟩;rw[m] at j;clear a b;simp only[go_sem, *];refine j.app ow λN h' w=> ?_;have ak:OwI h0 h' N (E.length+(i+1)):=w;clear j w;exact au
 ·clear y s G z u m A fr h;rintro fr h A ⟨s,z,F,j⟩;obtain⟨o,m⟩:∃o,fr 9=o:=⟨_,rfl⟩;rw[m] at j;have hf:=a o h (by obtain⟨l,q1,q2⟩:=j;exact⟨l,q1,by omega⟩);clear a b j;exact au
def IU {A x:D} (s:yt c A) (K:c.Sm) (v:c.ls.length<=40) (L:zZ 12 (nb fs) x) (H:fs.length<=260) (w:∀f∈fs,f.Ok) (p:∀f∈fs,f.e.size<=120) (g:Heap):zA prog 27 [A,x] g λr h'=>h'=g/\∃a b,r= .tuple [.int .i64 a, .int .i64 b]:=by
 refine xP λQ G=> ?_;have y:=IT s K v L H w p;have B:∀a b,Q (.tuple [.int .i64 a, .int .i64 b]) g:=λa b=>G _ _ ⟨rfl,a,b,rfl⟩;obtain⟨ca,cb,ce,cp,rfl,O,_,_,_⟩:=s;refine xO mix func27 zHF rfl rfl ?_;simp only[f27,gJ]
 repeat' first|simp only[go_sem, *]|apply bc<;>intro s
 refine(y _).mono ?_;rintro r h0 ⟨d,q,n,l,rfl,j,I⟩;subst d;have J:=Li j
 repeat' first|simp only[go_sem, *]|apply bc<;>intro s
 refine zD (λi fr h=>fr 6=q/\fr 8= .int .i64 (i:Int)/\h=h0) l.length ow ?_ ?_ ?_
 ·simp only[go_sem,true_and,and_true,Int.ofNat_zero]
 ·rintro i fr h k o E ⟨m,u,d⟩;subst d;have C:=Tj j k;generalize l[i]=z at *
  exact au
 rintro fr h o ⟨m,u,d⟩;subst d;have N:=isI
 repeat' first|simp only[go_sem, *]|apply bc<;>intro s
 refine zD (λi fr h'=>fr 6=q/\fr 10= .int .i64 (i:Int)/\h'=h/\IsI (fr 9)) l.length ow ?_ ?_ ?_
 ·simp only[go_sem,true_and,and_true,Int.ofNat_zero,m,isI]
 ·clear m u o fr;rintro i fr h k o E ⟨m,t,d,M,F⟩;subst d;have C:=Tj j k;generalize l[i]=z at *
  exact au
 ·clear m u o fr;rintro fr h o ⟨m,t,d,M,F⟩;subst d;exact au
def Lj {m x:D} (j:yt c m) (p:c.Sm) (s:zZ 12 (nb fs) x) (t:fs.length<=1048576) (k:∀f∈fs,f.Ok0) (g:Heap):zA prog 9 [m,x] g λr h'=>h'=g/\∃b,r= .bool b/\(b=true->L5 fs/\c.ls.length<=40):=by
 refine xP λQ n=> ?_;have hf:Q (.bool false) g:=n _ _ ⟨rfl,_,rfl,λq=>by cases q⟩;have l:=VW j p s t k;have i:=λ(d:L5 fs/\c.ls.length<=40)=>IU j p d.2 s d.1.1.2 (λf h=>(k f h).ok (d.1.2 f h)) d.1.2;have e:L5 fs/\c.ls.length<=40->∀b,Q (.bool b) g:=λd b=>n _ _ ⟨rfl,b,rfl,λ_=>d⟩;obtain⟨ca,cb,ce,cp,rfl,u,_,_,_⟩:=j;refine xO mix func9 ok9 rfl rfl ?_;simp only[f9,gJ]
 repeat' first|simp only[go_sem, *]|apply bc<;>intro j
 refine(l _).mono ?_;rintro r h ⟨o,b,rfl,d⟩;subst o;cases b with
 |false=>
  repeat' first|simp only[go_sem, *]|apply bc<;>intro j
 |true=>
 have d:=d rfl;have i:=i d;have e:=e d
 repeat' first|simp only[go_sem, *]|apply bc<;>intro j|(refine zA.mono (i _) ?_;rintro r h ⟨o,a,b,rfl⟩)
def VV.sl {a:List NdI} (h:VV a d):d.flat=true/\∀H,tU prog 35 d H=some (.int .i64 a.length):=by
 obtain⟨xs,h1,b,_⟩:=h;exact⟨(zJ h1).2.2,λH=>by rw[yc h1 underlying35,b]⟩
def zG3 (c:Cat) (fs:List Fac) (ta oa rd:D) (b:Bool):Prop:=(ta.flat=true/\oa.flat=true/\rd.flat=true)/\((yn c fs≠0/\b=false/\rd= .nilsl)\/(yn c fs=0/\b= !(th c fs).isEmpty/\((b=true/\rd= .nilsl)\/(b=false/\VV ((sh c fs).map Nd.i) rd))))
protected def zBI.b {r:D} (h:zBI c fs r):∃b i g rd,r= .tuple [.agg [.bool b,i,g,rd], .int .i64 (yn c fs)]/\zG3 c fs i g rd b:=by
 rcases h with⟨h0,rfl⟩ | ⟨h0,⟨q,f,rfl⟩ | ⟨h1,rd,d,rfl⟩⟩
 ·exact⟨_,_,_,_,rfl,⟨rfl,rfl,rfl⟩, .inl ⟨h0,rfl,rfl⟩⟩
 ·refine⟨_,_,_,_,by rw[h0],⟨by unfold tsF;split<;>rfl,by unfold owF;split<;>rfl,rfl⟩, .inr ⟨h0,?_, .inl ⟨rfl,rfl⟩⟩⟩;cases e:th c fs with
  |nil=>rw[e] at f;cases f
  |cons a l=>rfl
 ·exact⟨_,_,_,_,by rw[h0],⟨rfl,rfl,d.sl.1⟩, .inr ⟨h0,by rw[h1];rfl, .inr ⟨rfl,d⟩⟩⟩
def zFf {ca cb ce cp x:D} (j:yt c (.agg [ca,cb,ce,cp])) (k:c.Sm) (l:zZ 12 (nb fs) x) (i:L5 fs) (a:∀f∈fs,f.Ok) (g:Heap):
  zA prog 19 [.agg [ca,cb,ce,cp],x] g λr h'=>h'=g/\∃b e d rd,r= .tuple [.agg [.bool b,e,d,rd], .int .i64 (yn c fs)]/\zG3 c fs e d rd b:=
 (ID j k l i a (λh=>Nat.le_trans (Xq h) (by decide)) g).mono λr h' q=>⟨q.1,q.2.b⟩
def zBN (H:Heap) {c a rd:D} (h1:c.flat=true) (d:a.flat=true) (h3:rd.flat=true) :zP prog 37 (.ptr n 0) (.agg [.bool b,c,a,rd]) (H.new n (.row [.bool false, .nilsl, .nilsl, .nilsl]))=some (H.new n (.row [.bool b,c,a,rd])):=zg V4 ow rfl rfl (by simp[h1,d,h3];rfl)
def VV.at {a:List NdI} (h:VV a d) (c:i<a.length):∃cs,zQ prog 35 d (.int .i64 (i:Int))=some (.iptr cs 0)/\zFd a[i] cs:=by
 obtain⟨xs,h1,e,h3⟩:=h;obtain⟨cs,b,h5⟩:=h3 i _ (List.getElem?_eq_getElem c);exact⟨cs,zb h1 mR cz b,h5⟩
section
variable {c:Cat} {fs:List Fac}
def IV {y:Cho} {v:Vio} (s:v∈dR c fs y):(∃h:Nat,(h:Int)∈v.facts/\tO fs h=2)/\(∀x∈v.facts,0<=x/\x.toNat<fs.length)/\v.facts.length<=5:=by
 obtain⟨i,h1,t,l,f,e⟩:=Tc.1 s;refine⟨?_,λx g=> ?_,?_⟩
 ·have key:∃h∈l,tO fs h=2:=by
   rcases i with _|_|_|_|_|i
   ·obtain⟨a,b,d,T,_,rfl⟩:=f;exact⟨d,by simp,T.kh⟩
   ·obtain⟨a,b,d,o,T,_,_,rfl⟩:=f;exact⟨d,by simp,T.kh⟩
   ·obtain⟨a,b,d,k,T,_,_,_,rfl⟩:=f;exact⟨d,by simp,T.kh⟩
   ·obtain⟨a,b,d,j,b',m,T,_,_,_,rfl⟩:=f;exact⟨d,by simp,T.kh⟩
   ·obtain⟨a,d,o,_,_,_,k,_,rfl⟩:=f;exact⟨d,by simp,k⟩
   ·obtain⟨_,d,k,rfl⟩:=f;exact⟨d,by simp,k⟩
  obtain⟨h,q,p⟩:=key;exact⟨h,by rw[<-e,Xm,List.mem_map];exact⟨h,q,rfl⟩,p⟩
 ·rw[<-e,Xm,List.mem_map] at g;obtain⟨n,r,rfl⟩:=g;exact⟨by omega,by have:=f.lt n r;simpa using this⟩
 ·rw[<-e];refine Nat.le_trans (Xf _) ?_;rw[List.length_map];rcases i with _|_|_|_|_|i
  ·obtain⟨a,b,d,T,_,rfl⟩:=f;simp
  ·obtain⟨a,b,d,o,T,_,_,rfl⟩:=f;simp
  ·obtain⟨a,b,d,k,T,_,_,_,rfl⟩:=f;simp
  ·obtain⟨a,b,d,j,b',m,T,_,_,_,rfl⟩:=f;simp
  ·obtain⟨a,d,o,_,_,_,k,_,rfl⟩:=f;simp
  ·obtain⟨_,d,k,rfl⟩:=f;simp
def Lk {v:Vio} (e:Xo c fs p=some v):v∈dR c fs (Zj p):=List.mem_of_mem_head? (by unfold Xo at e;exact e)
def IW:opn c fs (sn c fs)<=ctV c fs:=by
 unfold opn;exact Nat.le_trans (List.length_filter_le _ _) (by simp)
end
theorem Xy {F:Nat->Nat->List Nd} :∀s,(∀x∈(qd F s n).1,x<=((n+(qd F s n).2.length:Nat):Int))/\(qd F s n).1.Pairwise (· <= ·)
 |0=>⟨λx c=>(by cases c),List.Pairwise.nil⟩
 |s+1=>by
  obtain⟨h1,e⟩:=Xy s;simp only[qd];refine⟨λx c=> ?_,pairwise_append.2 ⟨e,pairwise_singleton _ _,λa f b d=> ?_⟩⟩
  ·rw[length_append];rcases mem_append.1 c with q|q
   ·have:=h1 x q;omega
   ·rw[mem_singleton] at q;omega
  ·rw[mem_singleton] at d;subst d;exact h1 a f
theorem dW {F:Nat->Nat->List Nd} {n:Nat} :∀ {s:Nat},0<s->(qd F s n).1[0]? =some (n:Int)
 |1,_=>by simp[qd]
 |s+2,_=>by
  have a:=dW (F:=F) (n:=n) (s:=s+1) ow;rw[qd];simp only;rw[getElem?_append_left (by rw[oO];omega)];exact a
theorem Tl {F:Nat->Nat->List Nd} :∀ {s i:Nat} {nd:Nd},(qd F s n).2[i]? =some nd->∃k b a,k<s/\(F k b)[a]? =some nd/\b+a=n+i
 |0,i,nd,h=>by simp[qd] at h
 |s+1,i,nd,h=>by
  rw[qd] at h;simp only at h;by_cases q:i<(qd F s n).2.length
  ·rw[getElem?_append_left q] at h;obtain⟨k,b,a,h1,c,h3⟩:=Tl h;exact⟨k,b,a,by omega,c,h3⟩
  ·rw[getElem?_append_right ow] at h;exact⟨s,_,_,by omega,h,by omega⟩
section
variable {c:Cat} {fs:List Fac}
def GM (c:Cat) (fs:List Fac) (i:Nat) (nd:Nd):Prop:=(∃v p',nd= ⟨-1,[],some v⟩/\v∈dR c fs (Zj p'))\/∃ (v:Nat) (ks:List Int),nd= ⟨(v:Int),ks,none⟩/\v<ctV c fs/\2<=szV c fs v/\ks.length=szV c fs v/\ks[0]? =some ((i+1:Nat):Int)/\ks.Pairwise (· <= ·)
theorem Tm:∀m p n i nd,POk c fs p->(uI c fs m p n)[i]? =some nd->GM c fs (n+i) nd
 |0,p,n,i,nd,b,h=>by
  cases e:Xo c fs p with
  |none=>simp[uI,e] at h
  |some v=>
   rw[(rh e _ _).2] at h;have:=mem_singleton.1 (mem_of_getElem? h);exact .inl ⟨v,p,this,Lk e⟩
 |m+1,p,n,i,nd,b,h=>by
  cases e:Xo c fs p with
  |some v=>
   rw[(rh e _ _).2] at h;have:=mem_singleton.1 (mem_of_getElem? h);exact .inl ⟨v,p,this,Lk e⟩
  |none=>
   cases e2:nxV c fs p with
   |none=>rw[(dT e e2 _ _).2] at h;simp at h
   |some v=>
    obtain⟨g,f,_⟩:=j9 e2;have a:2<=szV c fs v:=by simp only[uC,Bool.and_eq_true,decide_eq_true_eq] at f;omega
    simp only[uI,e,e2] at h;cases i with
    |zero=>
     simp only[getElem?_cons_zero,Option.some.injEq] at h;refine .inr ⟨v,_,h.symm,g,a,oO _ _ _,?_,(Xy _).2⟩;exact dW ow
    |succ i=>
     rw[getElem?_cons_succ] at h;obtain⟨k,l,j,h1,d,h3⟩:=Tl h;have:=Tm m _ l j nd (b.dec h1) d;rw[h3] at this;rw[show n+(i+1)=n+1+i by omega];exact this
def dc:List Nd->Nat
 | []=>0
 |x::l=>x.kids.length+dc l
theorem hA:∀l m:List Nd,dc (l++m)=dc l+dc m
 | [],m=>by simp[dc]
 |x::l,m=>by rw[cons_append,dc,dc,hA l m];omega
theorem Xz (h0:(za c fs).2.2=0):∀m p n,POk c fs p->opn c fs p<=m->rL c fs m p= []->(uI c fs m p n).length=1+dc (uI c fs m p n)
 |0,p,n,d,g,a=>by
  cases e:Xo c fs p with
  |none=>simp[rL,e] at a
  |some v=>rw[(rh e _ _).2];rfl
 |m+1,p,n,d,g,a=>by
  cases e:Xo c fs p with
  |some v=>rw[(rh e _ _).2];rfl
  |none=>
   cases e2:nxV c fs p with
   |none=>rw[(dT e e2 _ 0).1] at a;cases a
   |some v=>
    simp only[rL,e,e2,Option.isSome,Bool.false_eq_true,if_false] at a;rw[flatMap_eq_nil_iff] at a;have key:∀s,s<=szV c fs v->(qd (λk b=>uI c fs m (t6 c fs p v k) b) s (n+1)).2.length=s+dc (qd (λk b=>uI c fs m (t6 c fs p v k) b) s (n+1)).2:=λs h=>by
     induction s with
     |zero=>rfl
     |succ s f=>
      have f:=f ow;have:=Xz h0 m (t6 c fs p v s) (n+1+(qd (λk b=>uI c fs m (t6 c fs p v k) b) s (n+1)).2.length) (d.dec ow) (by have:=LQ d h0 e2 (k:=s) ow;omega) (a s (mem_range.2 ow));simp only[qd];rw[length_append,hA];omega
    have:=key _ (le_refl _);simp only[uI,e,e2,length_cons,dc,oO];omega
end
def IX (a:Int) (g:Heap):zA prog 93 [.int .i64 a] g λr h'=>h'=g/\r= .bool false:=by
 have h1:(!(a==a))=false:=by simp
 refine xO mix func93 zC0 rfl rfl ?_;simp only[f93,gJ];exact au
def DY (a b:Int) (g:Heap):zA prog 47 [.int .i64 a, .int .i64 b] g λr h'=>h'=g/\r= .bool (decide (a<b)):=by
 have c:=IX;refine xO mix func47 zGa rfl rfl ?_;simp only[f47,gJ]
 repeat' first|simp only[go_sem, *]|apply bc<;>intro d|(refine zA.mono (c _ _) ?_;rintro r h ⟨e,rfl⟩)
def Ll {l:List Int} (b:zZ 1 (qG l) d) (t:l.length<=1048576) (h0:0<l.length) (f:l.Pairwise (· <= ·)) (g:Heap):zA prog 23 [d] g λr h'=>h'=g/\r= .bool true:=by
 have j:=λh=>wd b h;have v:IntKind.i64.wrap ((l.length:Int)-1)=((l.length-1:Nat):Int):=by rw[zd ow ow];omega
 have c:∀h,HLe Heap.emp h:=λh i w e=>by cases e
 refine xO mix func23 zHT rfl rfl ?_;simp only[f23,gJ]
 repeat' first|simp only[go_sem, *]|apply bc<;>intro a
 refine yF (λi fr h=>fr 0=d/\fr 3= .int .i64 ((l.length-1-i:Nat):Int)/\h=g) (l.length-1) ?_ ?_
 ·simp only[go_sem,true_and,and_true,Int.ofNat_zero];rfl
 ·rintro i fr h s ⟨p,q,rfl⟩;by_cases k:i<l.length-1
  ·have e1:decide (((l.length-1-i:Nat):Int)>0)=true:=decide_eq_true ow;have e2:IntKind.i64.wrap (((l.length-1-i:Nat):Int)-1)=((l.length-1- (i+1):Nat):Int):=by rw[zd ow ow];omega
   have n:=sY b (i:=l.length-1-i) ow;have o:=sY b (i:=l.length-1- (i+1)) ow;have m:=List.pairwise_iff_getElem.1 f (l.length-1- (i+1)) (l.length-1-i) ow ow ow;have e3:decide (l[l.length-1-i]<l[l.length-1- (i+1)])=false:=decide_eq_false ow;have a:=DY l[l.length-1-i] l[l.length-1- (i+1)];rw[e3] at a;generalize l[l.length-1-i]=x at *
   generalize l[l.length-1- (i+1)]=y at *
   clear e3 m f
   repeat' first|simp only[go_sem, *]|apply bc<;>intro a
   refine zO Heap.emp [(0, .no,false),(1, .no,false),(2, .no,false),(3, .no,false),(4, .no,false),(5, .no,false),(6, .no,false),(7, .no,false),(8, .no,false),(9, .no,false)] kr kr (c _) ?_
   repeat' first|simp only[go_sem, *]|apply bc<;>intro a|(refine zA.mono (a _) ?_;rintro r h ⟨u,rfl⟩)
  ·have e1:decide (((l.length-1-i:Nat):Int)>0)=false:=decide_eq_false ow;clear f;exact au
def IY {l:List Int} (a:zZ 1 (qG l) d) (c:l.length<=1048576) {p:Int->Bool} (e:∀s∈l,∀h,zA prog f ([]++ [.int .i64 s]++cap) h λr h'=>h'=h/\r= .bool (p s)) (g:Heap):zA prog 21 [d, .fn (.func f) [] cap] g λr h'=>h'=g/\r= .bool (l.any p):=by
 have b:=jC a c e;have hf:=p0 (l:=l) (p:=p);refine xO mix func21 zGK rfl rfl ?_;simp only[f21,gJ]
 repeat' first|simp only[go_sem, *]|apply bc<;>intro i|(refine zA.mono (b _) ?_;rintro r h ⟨j,rfl⟩)
variable {fs:List Fac}{c:Cat}
def Lm (b:zZ 12 (nb fs) x) (k:Int) (g:Heap):zA prog 22 ([]++ [.int .i64 k]++ [.iptr [x] 0]) g λr h'=>h'=g/\r= .bool (decide (k<0)||decide (k>=(fs.length:Int))):=by
 have a:=uR b;cases e1:decide (k<0) with
 |true=>
  refine xO mix func22 zGR rfl rfl ?_;simp only[f22,gJ]
  repeat' first|simp only[go_sem, *]|apply bc<;>intro c
 |false=>
  refine xO mix func22 zGR rfl rfl ?_;simp only[f22,gJ];exact au
def Ln {L:List Nd} (h:i<L.length):dc (L.take (i+1))=dc (L.take i)+(L[i]).kids.length:=by
 rw[take_succ_eq_append_getElem h,hA];rfl
def DZ {L:List Nd} (i:Nat):dc (L.take i)<=dc L:=by
 conv=>rhs;rw[<-take_append_drop i L]
 rw[hA];omega
def zBO (b:c.Sm) (v:Nat):szV c fs v<=1048576:=by
 unfold szV;split
 ·rename_i q;have a:(tV c fs).getD v []∈tV c fs:=by rw[getD_eq_getElem?_getD,getElem?_eq_getElem q];exact getElem_mem _
  have:=(tN _ a).1;omega
 ·exact b.ls.1
theorem cI (o:yt c d) (hs:c.Sm) (T:zZ 12 (nb fs) x) (hl:fs.length<=1048576) (ak:∀f∈fs,f.Ok0) (g:Heap):zA prog 7 [d,x] g λr _=>r= .bool true:=by
 refine xP λQ hQ=> ?_;have hT:∀h,Q (.bool true) h:=λh=>hQ _ _ rfl;have Y:=jT;have ai:=Lj o hs T hl ak;have cf:=uR T;obtain⟨w1,w2,w3⟩:=zJ T;unfold D.cells at w1;unfold D.notTuple at w2;obtain⟨ca,cb,ce,cp,rfl,ha,_,_,_⟩:=id o;have b7:=qz ha;clear hQ;refine xO mix func7 ok7 rfl rfl ?_;simp only[f7,gJ]
 repeat' first|simp only[go_sem, *]|apply bc<;>intro o|(refine zA.mono (Y _) ?_;rintro r h ⟨rfl,F⟩)
 refine(ai _).mono ?_;rintro r h ⟨F,b,rfl,S⟩;subst F;clear Y ai;cases b with
 |false=>
  clear S
  repeat' first|simp only[go_sem, *]|apply bc<;>intro o
 |true=>
 have S:=(S rfl).1;have M:∀f∈fs,f.Ok:=λf hf=>(ak f hf).ok (S.2 f hf);have t:=zFf o hs T S M;have a4:=jz o hs T hl M
 repeat' first|simp only[go_sem, *]|apply bc<;>intro o
 refine(t _).mono ?_;rintro r h ⟨F,b,ta,oa,rd,rfl,⟨x1,x2,x3⟩,hb⟩;subst F;have J:=zBN h x1 x2 x3 (b:=b) (n:=h.next);obtain⟨n,hn⟩:∃n,h.next=n:=⟨_,rfl⟩;rw[hn] at J;obtain⟨G,hG,r1,C⟩:∃G,h.new n (.row [.bool b,ta,oa,rd])=G/\G.at' n=some (.row [.bool b,ta,oa,rd])/\n<G.next:=⟨_,rfl,zK _ _ _,by rw[<-hn,zF];omega⟩;rw[hG] at J;have bx:∀H,tU prog 35 .nilsl H=some (.int .i64 0):=λH=>yc (zZ.nil (sz:=4)) underlying35;have bk:decide ((0:Int)<0)=false:=rfl;clear t hG
 repeat' first|simp only[go_sem, *]|apply bc<;>intro o
 refine(a4 _).mono ?_;rintro r h2 ⟨F,td,od,rfl,ht,ho⟩;subst F;clear a4;rcases hb with⟨h0,rfl,rfl⟩ | ⟨h0,A,⟨rfl,rfl⟩ | ⟨rfl,X⟩⟩
 ·have e0:(!(yn c fs==0))=true:=by simpa using h0
  clear h0;exact au
 ·have v0:=j8 h0;rw[h0,v0] at *
  clear A
  repeat' first|simp only[go_sem, *]|apply bc<;>intro o
  refine zD (λi fr h'=>fr 5= .ptr n 0/\fr 45= .int .i64 0/\fr 46= .int .i64 0/\h'.at' n=some (.row [.bool true,ta,oa, .nilsl])) 0 ow ?_ ?_ ?_
  ·simp only[go_sem,true_and,and_true,Int.ofNat_zero,r1]
  ·intro i fr h' hi;omega
  ·rintro fr h' ec ⟨f5,V,W,r2⟩;clear r1 J ht ho;exact au
 have hw:th c fs= []:=by
  cases e:th c fs with
  |nil=>rfl
  |cons a l=>rw[e] at A;cases A
 have v0:=j8 h0;have j:=Xz v0 _ _ 0 (sg c fs _) IW hw;have ch:=Xq h0;have E:∀i nd,(sh c fs)[i]? =some nd->GM c fs i nd:=λi nd e=>by
  have:=Tm _ _ _ _ _ (sg c fs _) e
  rwa [Nat.zero_add] at this
 have j:1+dc (sh c fs)=(sh c fs).length:=j.symm;have a7:=X.sl.2;rw[length_map] at a7;have a9:(tV c fs).length<=fs.length/\(oV c fs).length<=fs.length:=oc;have bo:=S.1.2;have cc:=sw ht.isSl;have b9:=yK ho.isSl;have cm:IntKind.i64.wrap (((za c fs).1.length:Int)+((za c fs).2.1.length:Int))=(ctV c fs:Int):=by
  unfold tV oV at a9;unfold ctV tV oV;rw[zd ow ow];omega
 rw[h0,v0] at *
 clear A hw;have bs:dc (sh c fs)<=8191:=ow;generalize hL:sh c fs=L at *
 repeat' first|simp only[go_sem, *]|apply bc<;>intro o
 refine zD (λi fr h'=>fr 2= .iptr [ca,cb,ce,cp] 0/\fr 3= .iptr [x] 0/\fr 5= .ptr n 0/\fr 7=td/\fr 8=od/\fr 10= .int .i64 ((1+dc (L.take i):Nat):Int)/\fr 44=rd/\fr 45= .int .i64 (L.length:Int)/\fr 46= .int .i64 (i:Int)/\h'.at' n=some (.row [.bool false,ta,oa,rd])/\n<h'.next) L.length ow ?_ ?_ ?_
 ·clear j E X;simp only[go_sem,true_and,and_true,Int.ofNat_zero,r1];exact⟨rfl,C⟩
 ·clear j r1 J C;rintro i fr h' w ec ew ⟨f2,f3,f5,f7,f8,U,a5,V,W,r1,C⟩;obtain⟨cs,a1,kd,fd,rfl,k1,k2⟩:=X.at (i:=i) (by rw[length_map];exact w);rw[getElem_map] at a1 k1 k2;have a8:=E i _ (getElem?_eq_getElem w);have m:=Ln w;have O:=DZ (L:=L) (i+1);generalize L[i]=nd at *
  have I:zP prog 67 (.ptr h'.next 0) (.agg [.int .i64 nd.i.var,kd, .int .i64 nd.i.row,fd]) (h'.new h'.next (.row [.int .i64 0, .nilsl, .int .i64 0, .nilsl]))=some (h'.new h'.next (.row [.int .i64 nd.i.var,kd, .int .i64 nd.i.row,fd])):=zg cz ow rfl rfl (by simp[(zJ k1).2.2,(zJ k2).2.2];exact⟨rfl,rfl⟩);obtain⟨H,hH,hr,cl,cg⟩:∃H,h'.new h'.next (.row [.int .i64 nd.i.var,kd, .int .i64 nd.i.row,fd])=H/\H.at' h'.next=some (.row [.int .i64 nd.i.var,kd, .int .i64 nd.i.row,fd])/\H.at' n=some (.row [.bool false,ta,oa,rd])/\n<H.next:=⟨_,rfl,zK _ _ _,by rw[zG ow];exact r1,by rw[zF];omega⟩;rw[hH] at I
  clear E X hH hL;rcases a8 with⟨v,p',rfl,hv⟩ | ⟨v,ks,rfl,hv,h2,R,N,P⟩
  ·obtain⟨⟨z,hz,_⟩,ag,h5⟩:=IV hv;simp only[Nd.i,Option.map_some,Option.getD_some] at a1 k1 k2 I hr;have B:=wd k1;have b8:=wd k2;have e1:(((v.facts.length:Nat):Int)==0)=false:=by
    have:=length_pos_iff.2 (ne_nil_of_mem hz);rw[beq_eq_false_iff_ne];omega
   have Z:=λg=>IY (f:=22) (cap:=[.iptr [x] 0]) k2 ow (p:=λk=>decide (k<0)||decide (k>=(fs.length:Int))) (λs _ h=>Lm T s h) g;have K:(v.facts.any λk=>decide (k<0)||decide (k>=(fs.length:Int)))=false:=any_eq_false.2 λk hk=>by
    obtain⟨q1,q2⟩:=ag k hk;simp;omega
   rw[K] at Z;have hk:dc (L.take (i+1))=dc (L.take i):=m;have e0:((([]:List Int).length:Nat):Int)=0:=rfl;rw[e0] at B;clear m O ag hv hz k1 k2 K h0 v0
   repeat' first|simp only[go_sem, *]|apply bc<;>intro o|(refine zA.mono (Z _) ?_;rintro r h ⟨F,rfl⟩)
  ·have ba:(⟨(v:Int),ks,none⟩:Nd).i= ⟨(v:Int),ks,0,[]⟩:=rfl;rw[ba] at a1 k1 k2 I hr;simp only at a1 k1 k2 I hr m;have B:=wd k1;have t:=zBO (fs:=fs) hs v;have b1:((v:Int)== -1)=false:=by rw[beq_eq_false_iff_ne];omega
   have b2:decide ((v:Int)<0)=false:=decide_eq_false ow;have b3:decide ((v:Int)>=(ctV c fs:Int))=false:=decide_eq_false ow;have b4:decide ((szV c fs v:Int)<2)=false:=decide_eq_false ow;have a2:zQ prog 45 kd (.int .i64 0)=some (.iptr [.int .i64 ((i+1:Nat):Int)] 0):=by
    have q:=sY k1 (i:=0) ow;rw[show ks[0]'ow=((i+1:Nat):Int) from Option.some.inj ((getElem?_eq_getElem ow).symm.trans N)] at q
    exact q
   have a0:=Ll k1 ow ow P;have b5:(((i+1:Nat):Int)==((i+1:Nat):Int))=true:=by simp
   have b6:((szV c fs v:Int)==(szV c fs v:Int))=true:=by simp
   rw[R] at B m;have bb:IntKind.i64.wrap (((1+dc (L.take i):Nat):Int)+(szV c fs v:Int))=((1+dc (L.take (i+1)):Nat):Int):=by
    rw[m,zd ow ow];omega
   by_cases u:v<(tV c fs).length
   ·have hd:decide ((v:Int)<((za c fs).1.length:Int))=true:=decide_eq_true (by unfold tV at u;omega);have a3:=dF ht.isSl u;have a6:=Td ((tV c fs)[v]);have y:((tV c fs)[v]).length=szV c fs v:=by unfold szV;rw[ip u,getD_eq_getElem?_getD,getElem?_eq_getElem u];rfl
    rw[y] at a6;generalize szV c fs v=sz at *
    generalize X0 ((tV c fs)[v])=ad at *
    clear m O k1 k2 P N R hv h2 t y h0 v0
    repeat' first|simp only[go_sem, *]|apply bc<;>intro o|(refine zA.mono (a0 _) ?_;rintro r h ⟨F,rfl⟩)
   ·have hd:decide ((v:Int)<((za c fs).1.length:Int))=false:=decide_eq_false (by unfold tV at u;omega);have y:szV c fs v=c.ls.length:=by unfold szV;rw[iq u]
    rw[y] at b4 b6 B bb;clear m O k1 k2 P N R hv h2 t y h0 v0
    repeat' first|simp only[go_sem, *]|apply bc<;>intro o|(refine zA.mono (a0 _) ?_;rintro r h ⟨F,rfl⟩)
 ·rintro fr h' ec ⟨f2,f3,f5,f7,f8,U,a5,V,W,r1,C⟩;rw[take_length] at U;have t:(((1+dc L:Nat):Int)==(L.length:Int))=true:=by rw[j];simp
  clear E X j;exact au
end Go.V
