/- Contracts of functions that the law reaches, part 2. No condition. -/
import Derived.Test.YthcjhnmnhfgdiaaGreatDoorW41
import Derived.Test.YthcjhnmnhfgdiaaGreatDoorW27
set_option linter.all false
set_option maxHeartbeats 8000000
namespace Go.V
open Go.Proofs.Tryz
open Go.Proofs
set_option maxRecDepth 100000
def Q1:∀ (n:Nat) {e:Ex},e.size<=n->e.Ok->e.size<=1048576->∀g:Heap,zA prog 61 [.agg e.cells] g λr h'=>h'=g/\r= .int .i64 (e.size:Int):=by
 intro n
 induction n with
 |zero=>intro e h;cases e;simp only[Ex.size] at h;omega
 |succ n y=>
 intro e H f o g;obtain⟨k,z,x,l,d⟩:=e;simp only[Ex.size,Ex.Ok] at H f o;obtain⟨u,L,_,_,j⟩:=f;have v:=uQ u;have E:(Ex.mk k z x l d).size=zi l+1:=by simp only[Ex.size]
 rw[E];refine xO mix func61 zIn rfl rfl ?_;simp only[f61,gJ];simp only[Ex.cells,Ex.kind,Ex.name,Ex.exc,Ex.d]
 repeat' first|simp only[go_sem, *]|apply bc<;>intro F
 refine zD (λi fr h=>fr 1= .iptr [.int .i64 k, .str z, .str x,d] 0/\fr 4= .int .i64 (i:Int)/\fr 3= .int .i64 ((zi (l.take i)+1:Nat):Int)/\h=g) l.length ow ?_ ?_ ?_
 ·have J:zi (l.take 0)+1=1:=by simp[zi]
  simp only[go_sem,true_and,and_true,Int.ofNat_zero,J];rfl
 ·rintro i fr h c B K ⟨C,D,q,rfl⟩;have A:=pM u c;have m:l[i]∈l:=List.getElem_mem c;have w:=y (e:=l[i]) (by have:=yh m;omega) (uP j _ m) (by have:=yh m;omega);have p:zi (l.take (i+1))=zi (l.take i)+l[i].size:=by rw[List.take_succ_eq_append_getElem c,nR]
  have G:zi (l.take (i+1))<=zi l:=by
   have:=List.take_append_drop (i+1) l;have key:∀a b:List Ex,zi a<=zi (a++b):=λa b=>by
    induction a with
    |nil=>simp[zi]
    |cons x a y=>simp only[List.cons_append,zi];omega
   have s:=key (l.take (i+1)) (l.drop (i+1));rw[this] at s;exact s
  have t:IntKind.i64.wrap (((zi (l.take i)+1:Nat):Int)+(l[i].size:Int))=((zi (l.take (i+1))+1:Nat):Int):=by rw[p,zt ow ow];omega
  simp only[Ex.cells] at A w
  repeat' first|simp only[go_sem, *]|apply bc<;>intro F|(refine zA.mono (w _) ?_;rintro r h ⟨I,rfl⟩)
 ·rintro fr h B ⟨C,D,q,rfl⟩;rw[List.take_length] at q;exact au
variable {c:Cat}{d x:D}{fs gs:List Fac}{i sz n k:Nat}{tk:Tk}{K:D->Heap->Prop}{xs ys:List (List D)}{ts:List Trm}{e:Ex}{b:Bool}{P:Program}{h:Heap}{p:Part}{α β:Type}
def UO (l:yy c d) (H:c.Sm) (C:zZ 12 (nQ fs) x) (N:fs.length<=1048576) (s:∀f∈fs,f.Ok0) (g:Heap):zA prog 26 [d,x] g λr h'=>h'=g/\∃b,r= .bool b/\(b=true->QZ fs/\c.ls.length<=40):=by
 refine xP λQ E=> ?_;have hf:Q (.bool false) g:=E _ _ ⟨rfl,_,rfl,λq=>by cases q⟩;have k:QZ fs/\c.ls.length<=40->∀b,Q (.bool b) g:=λR b=>E _ _ ⟨rfl,b,rfl,λ_=>R⟩;have O:=tU C;have B:=LW l H C N s;have p:=H.cs;obtain⟨ca,cb,ce,cp,rfl,_,_,F,_⟩:=l;have L:=pu;have T:=po F;have U:=p.1;have S:=isI;refine xO mix func26 zIr rfl rfl ?_;simp only[f26,gJ]
 repeat' first|simp only[go_sem, *]|apply bc<;>intro l
 refine(B _).mono ?_;rintro r h ⟨j,b,rfl,M⟩;subst j;cases b with
 |false=>
  repeat' first|simp only[go_sem, *]|apply bc<;>intro l
 |true=>
 have v:=M rfl;have k:=k v;have v:=v.1
 repeat' first|simp only[go_sem, *]|apply bc<;>intro l
 refine zD (λi fr h'=>fr 1=x/\fr 2= .iptr [ca,cb,ce,cp] 0/\fr 7= .int .i64 (i:Int)/\IsI (fr 5)/\IsI (fr 6)/\h'=h) c.cs.length ow ?_ ?_ ?_
 ·simp only[go_sem,true_and,and_true,Int.ofNat_zero,isI]
 ·rintro i fr h a z I ⟨m,A,J,⟨t,n⟩,⟨u,o⟩,j⟩;subst j;have w:=og F a;have o1:=yQ (p.2 _ (List.getElem_mem a)).1;generalize c.cs[i]=y at *
  simp only[Cla.cells] at w;exact au
 rintro fr h z ⟨m,A,J,⟨t,n⟩,⟨u,o⟩,j⟩;subst j
 repeat' first|simp only[go_sem, *]|apply bc<;>intro l
 refine zD (λi fr h'=>fr 1=x/\fr 8= .int .i64 (i:Int)/\IsI (fr 5)/\IsI (fr 6)/\h'=h) fs.length ow ?_ ?_ ?_
 ·simp only[go_sem,true_and,and_true,Int.ofNat_zero,isI,m,n,o]
 ·clear m A n o t u;rintro i fr h a z I ⟨m,K,⟨t,n⟩,⟨u,o⟩,j⟩;subst j;have w:=qd C a;have G:=List.getElem_mem a;have D:=Q1 _ (Nat.le_refl _) (s _ G).e (by have:=v.2 _ G;omega);generalize fs[i]=f at *
  simp only[Fac.cells] at w;simp only[Ex.cells] at D
  repeat' first|simp only[go_sem, *]|apply bc<;>intro l|(refine zA.mono (D _) ?_;rintro r h ⟨P,rfl⟩)
 ·clear m A n o t u;rintro fr h z ⟨m,K,⟨t,n⟩,⟨u,o⟩,j⟩;subst j;exact au
def Wi (x y:Trm) (g:Heap):zA prog 389 [.agg x.cells, .agg y.cells] g λr h'=>h'=g/\∃b,r= .bool b:=by
 refine xP λQ c=> ?_;have a:∀b,Q (.bool b) g:=λb=>c _ _ ⟨rfl,b,rfl⟩;refine xO mix func389 zGJ rfl rfl ?_;simp only[f389,gJ];simp only[Trm.cells];exact au
def HG (x:Trm) (nid:Nat) (h:Heap):zI prog false nid 127 1 [(0, .agg [.str x.a, .str x.b])] h=some (.sl 2 [[.str x.a, .str x.b]] .full,h):=zz fj wA qB rfl rfl ow ow rfl rfl
def Wj {l:List Trm} (a:zZ 2 (yX l) d) (h:Heap):tu prog 127 d h=some (.int .i64 l.length):=by rw[yc a underlying127,yT]
def Rc {l:List Trm} (a:zZ 2 (yX l) d) (b:i<l.length):zR prog 127 d (.int .i64 (i:Int))=some (.iptr l[i].cells 0):=za a fj qB (gf b)
def OwT (G h:Heap) (d:D) (m:Nat):Prop:=∃ts,Own G h 2 (yX ts) d/\ts.length<=m
def ac (l:List Trm):∀x∈yX l,yj x:=λx a=>by
 obtain⟨y,_,rfl⟩:=List.mem_map.1 a;exact⟨rfl,by simp[Trm.cells,zf,below],by simp[Trm.cells,zw,zj]⟩
def OwT.app {G h:Heap} {m:Nat} {x:Trm} {w:HidR K} (i:OwT G h d m) (k:m<=1048576) (g:∀c h',OwT G h' c (m+1)->K c h'):K9 (zg prog false h.next 127 d (.sl 2 [[.str x.a, .str x.b]] tk) h) K w:=by
 obtain⟨f,h1,j⟩:=i;refine h1.appH (ys:=yX [x]) fj gU qB ow (uJ _) (by simp[yX]) (by rw[yT,pK];unfold lim;simp[yX];omega) (by rw[yT];unfold lim;simp[yX];omega) λc h' e=> ?_;refine g c h' ⟨f++ [x],?_,by simp;omega⟩
 have:yX (f++ [x])=yX f++yX [x]:=by simp[yX]
 rw[this];exact e
def OwT.fin {G h:Heap} {m:Nat} (g:OwT G h d m):Ext G h/\below G.next (zj d)/\∃a,Fin 2 (yX a) (zj d)/\a.length<=m:=by
 obtain⟨a,h1,f⟩:=g;obtain⟨b,c,e⟩:=h1.fin (ac _);exact⟨b,c,a,e,f⟩
def zCS {l:List Trm} (E:zZ 2 (yX l) d) (Y:l.length<=65536) (t:Trm) (g:Heap):zA prog 387 [d, .agg t.cells] g λr h'=>h'=g/\∃p,Fin 2 (yX p) r/\p.length<=l.length+1:=by
 refine xU kr λT=>xS ?_;refine xP λQ R=> ?_;have F:=Wj E;have s:=Wi;have G:=HG;have f:∀d h,OwT g h d (l.length+1)->Q d h:=λd h j=>by
  obtain⟨K,L,p,v,M⟩:=j.fin;exact R _ _ ⟨K,L,p,v,M⟩
 have S:=Xt;simp only[Trm.cells] at s⊢;refine xO mix func387 zFY rfl rfl ?_;simp only[f387,gJ];simp only[go_sem, *];refine zD (λi fr h=>fr 0=d/\fr 3= .iptr [.str t.a, .str t.b] 0/\fr 7= .int .i64 (i:Int)/\∃b:Bool,fr 6= .bool b/\OwT g h (fr 5) (i+b.toNat)) l.length ow ?_ ?_ ?_
 ·have A:OwT g g .nilsl (0+false.toNat):=⟨[],Own.start (Ext.refl g) 2,by simp⟩;simp only[go_sem,true_and,and_true,Int.ofNat_zero];exact⟨false,rfl,A⟩
 ·rintro i fr h y I X ⟨J,v,O,b,N,j⟩;obtain⟨o,w⟩:∃o,fr 5=o:=⟨_,rfl⟩;rw[w] at j;have H:=Rc E y;generalize l[i]=x at *
  simp only[Trm.cells] at H;simp only[go_sem, *];refine zP Heap.emp [(4, .no,false),(0, .no,false),(1, .no,false),(2, .no,false),(3, .no,false),(5, .no,false)] kr kr (λi C e=>by cases e) ?_;cases b with
  |true=>
   simp only[Bool.toNat_true] at j;cases B:(x.a==t.a&&x.b==t.b) with
   |_=>
    simp only[go_sem, *];refine zP Heap.emp [(0, .no,false),(1, .no,false),(2, .no,false),(3, .no,false),(4, .no,false),(5, .no,false),(6, .no,false),(7, .no,false),(8, .no,false),(9, .no,false)] kr kr (λi C e=>by cases e) ?_;simp only[go_sem, *];refine j.app ow λu h' c=> ?_;simp only[go_sem, *];exact⟨true,rfl,by simpa using c⟩
  |false=>
   simp only[Bool.toNat_false,Nat.add_zero] at j;have k:∀ {h d},OwT g h d (i+1)->∃b:Bool,(D.bool true)= .bool b/\OwT g h d (i+1+b.toNat):=λ⟨p,V,Z⟩=>⟨true,rfl,p,V,by simp;omega⟩;have m:∀ {h d},OwT g h d (i+1+1)->∃b:Bool,(D.bool true)= .bool b/\OwT g h d (i+1+b.toNat):=λq=>⟨true,rfl,q⟩;have n:∀ {h d},OwT g h d (i+1)->∃b:Bool,(D.bool false)= .bool b/\OwT g h d (i+1+b.toNat):=λq=>⟨false,rfl,q⟩;cases B:(x.a==t.a&&x.b==t.b) with
   |true=>
    simp only[go_sem, *];refine zP Heap.emp [(0, .no,false),(1, .no,false),(2, .no,false),(3, .no,false),(4, .no,false),(5, .no,false),(6, .no,false),(7, .no,false),(8, .no,false),(9, .no,false)] kr kr (λi C e=>by cases e) ?_;simp only[go_sem, *];refine j.app ow λu h' c=> ?_;have k:=k c;simp only[go_sem, *]
   |false=>
    simp only[go_sem, *];refine zP Heap.emp [(0, .no,false),(1, .no,false),(2, .no,false),(3, .no,false),(4, .no,false),(5, .no,false),(6, .no,false),(7, .no,false),(8, .no,false),(9, .no,false)] kr kr (λi C e=>by cases e) ?_;simp only[go_sem, *];refine(s _ _ _).mono ?_;rintro r P ⟨U,b,rfl⟩;subst U;cases b with
    |true=>
     simp only[go_sem, *];refine j.app ow λu h' c=> ?_;simp only[go_sem, *];refine c.app ow λW P z=> ?_;have m:=m z;simp only[go_sem, *]
    |false=>
     simp only[go_sem, *];refine j.app ow λu h' c=> ?_;have n:=n c;exact au
 ·rintro fr h I ⟨J,v,O,b,N,j⟩;obtain⟨o,w⟩:∃o,fr 5=o:=⟨_,rfl⟩;rw[w] at j;cases b with
  |true=>
   have f:=f _ _ j;simp only[go_sem, *]
  |false=>
   simp only[Bool.toNat_false,Nat.add_zero] at j;simp only[go_sem, *];refine j.app ow λu h' c=> ?_;have f:=f _ _ c;exact au
def Kp {a b:List Trm} {d e:D} (E:zZ 2 (yX a) d) (F:zZ 2 (yX b) e) (N:a.length+b.length<=65536) (g:Heap):zA prog 336 [d,e] g λr h'=>h'=g/\∃c,Fin 2 (yX c) r/\c.length<=a.length+b.length:=by
 refine xP λQ K=> ?_;have L:=yw E;have M:=yw F;have k:=λ(c:List Trm) (d:D) h1 A t h=>zCS (l:=c) (d:=d) h1 A t h;simp only[Trm.cells] at k;refine xO mix func336 zEU rfl rfl ?_;simp only[f336,gJ];simp only[go_sem, *];refine zD (λi fr h=>fr 0=d/\fr 1=e/\fr 6= .int .i64 (i:Int)/\h=g/\∃c,Fin 2 (yX c) (fr 5)/\c.length<=i) a.length ow ?_ ?_ ?_
 ·have s:∃c,Fin 2 (yX c) .nilsl/\c.length<=0:=⟨[], .inl ⟨rfl,rfl⟩,by simp⟩;simp only[go_sem,true_and,and_true,Int.ofNat_zero];exact s
 ·rintro i fr h p z G ⟨H,v,I,j,c,f,w⟩;subst j;obtain⟨o,m⟩:∃o,fr 5=o:=⟨_,rfl⟩;rw[m] at f;have y:=uk E p;have B:=k c o f.isSl ow a[i] h;generalize a[i]=x at *
  simp only[Trm.cells] at y;simp only[go_sem, *];refine B.mono ?_;rintro r A ⟨j,u,q,C⟩;subst j;have n:∃c,Fin 2 (yX c) r/\c.length<=i+1:=⟨u,q,by omega⟩;exact au
 rintro fr h z ⟨H,v,I,j,c,f,w⟩;subst j;obtain⟨o,m⟩:∃o,fr 5=o:=⟨_,rfl⟩;rw[m] at f;have s:∃c,Fin 2 (yX c) o/\c.length<=a.length+0:=⟨c,f,by omega⟩;simp only[go_sem, *];refine zD (λi fr h'=>fr 1=e/\fr 7= .int .i64 (i:Int)/\h'=h/\∃c,Fin 2 (yX c) (fr 5)/\c.length<=a.length+i) b.length ow ?_ ?_ ?_
 ·clear k;simp only[go_sem,true_and,and_true,Int.ofNat_zero,v,m];exact s
 ·rintro i fr h p z G ⟨v,J,j,c,f,w⟩;subst j;obtain⟨o,m⟩:∃o,fr 5=o:=⟨_,rfl⟩;rw[m] at f;have y:=uk F p;have B:=k c o f.isSl ow b[i] h;generalize b[i]=x at *
  simp only[Trm.cells] at y;simp only[go_sem, *];refine B.mono ?_;rintro r A ⟨j,u,q,C⟩;subst j;have n:∃c,Fin 2 (yX c) r/\c.length<=a.length+(i+1):=⟨u,q,by omega⟩;exact au
 ·rintro fr h z ⟨v,J,j,c,f,w⟩;subst j;obtain⟨o,m⟩:∃o,fr 5=o:=⟨_,rfl⟩;rw[m] at f;have n:=K o h ⟨rfl,c,f,w⟩;exact au
def zCT {l:List Trm} (j:zZ 2 (yX l) d) (z:l.length<=1048576) (t:Trm) (g:Heap):zA prog 388 [d, .agg t.cells] g λr h'=>h'=g/\∃b,r= .bool b:=by
 refine xP λQ u=> ?_;have m:=Wj j;have k:∀b,Q (.bool b) g:=λb=>u _ _ ⟨rfl,b,rfl⟩;have w:=Xt;simp only[Trm.cells];refine xO mix func388 zFw rfl rfl ?_;simp only[f388,gJ]
 repeat' first|simp only[go_sem, *]|apply bc<;>intro v
 refine zD (λi fr h=>fr 0=d/\fr 3= .iptr [.str t.a, .str t.b] 0/\fr 5= .int .i64 (i:Int)/\h=g) l.length ow ?_ ?_ ?_
 ·simp only[go_sem,true_and,and_true,Int.ofNat_zero]
 ·rintro i fr h c o y ⟨p,q,s,f⟩;subst f;have n:=Rc j c;generalize l[i]=x at *
  simp only[Trm.cells] at n
  repeat' first|simp only[go_sem, *]|apply bc<;>intro v
  refine zP Heap.emp [(4, .no,false),(0, .no,false),(1, .no,false),(2, .no,false),(3, .no,false),(5, .no,false)] kr kr (λi A e=>by cases e) ?_;exact au
 ·rintro fr h o ⟨p,q,s,f⟩;subst f;exact au
def UP {a b:List Trm} {d e:D} (y:zZ 2 (yX a) d) (k:zZ 2 (yX b) e) (f:a.length<=1048576) (z:b.length<=1048576) (g:Heap):zA prog 337 [d,e] g λr h'=>h'=g/\∃b,r= .bool b:=by
 refine xP λQ u=> ?_;have n:=yw k;have l:∀b,Q (.bool b) g:=λb=>u _ _ ⟨rfl,b,rfl⟩;have m:=zCT y f;simp only[Trm.cells] at m;refine xO mix func337 zEp rfl rfl ?_;simp only[f337,gJ]
 repeat' first|simp only[go_sem, *]|apply bc<;>intro v
 refine zD (λi fr h=>fr 0=d/\fr 1=e/\fr 5= .int .i64 (i:Int)/\h=g) b.length ow ?_ ?_ ?_
 ·simp only[go_sem,true_and,and_true,Int.ofNat_zero]
 ·rintro i fr h j p A ⟨q,s,t,c⟩;subst c;have o:=uk k j;generalize b[i]=x at *
  simp only[Trm.cells] at o
  repeat' first|simp only[go_sem, *]|apply bc<;>intro v|(refine zA.mono (m _ _) ?_;rintro r h ⟨c,w,rfl⟩)
 ·rintro fr h p ⟨q,s,t,c⟩;subst c;exact au
def Q2 {a b:List Trm} {d e:D} (o:zZ 2 (yX a) d) (p:zZ 2 (yX b) e) (F:a.length<=1048576) (G:b.length<=1048576) (g:Heap):zA prog 338 [d,e] g λr h'=>h'=g/\∃n,r= .int .i64 n:=by
 refine xP λQ C=> ?_;have s:=yw o;have k:=yw p;have q:∀b,Q (.int .i64 b) g:=λb=>C _ _ ⟨rfl,b,rfl⟩;have c:=Wi;simp only[Trm.cells] at c;refine xO mix func338 zFH rfl rfl ?_;simp only[f338,gJ];cases H:((a.length:Int)==(b.length:Int)) with
 |false=>
  repeat' first|simp only[go_sem, *]|apply bc<;>intro j
 |true=>
 have E:a.length<=b.length:=by have:=beq_iff_eq.1 H;omega
 repeat' first|simp only[go_sem, *]|apply bc<;>intro j
 refine zD (λi fr h=>fr 0=d/\fr 1=e/\fr 5= .int .i64 (i:Int)/\h=g) a.length ow ?_ ?_ ?_
 ·simp only[go_sem,true_and,and_true,Int.ofNat_zero]
 ·rintro i fr h l v J ⟨z,A,B,f⟩;subst f;have t:=uk o l;have u:=uk p (show i<b.length by omega);generalize a[i]=x at *
  generalize b[i]=y at *
  simp only[Trm.cells] at t u
  repeat' first|simp only[go_sem, *]|apply bc<;>intro j
  refine zP Heap.emp [(0, .no,false),(1, .no,false),(2, .no,false),(3, .no,false),(4, .no,false),(5, .no,false),(6, .no,false),(7, .no,false),(8, .no,false)] kr kr (λi I e=>by cases e) ?_
  repeat' first|simp only[go_sem, *]|apply bc<;>intro j|(refine zA.mono (c _ _ _) ?_;rintro r h ⟨m,w,rfl⟩)
  refine zP Heap.emp [(0, .no,false),(1, .no,false),(2, .no,false),(3, .no,false),(4, .no,false),(5, .no,false),(6, .no,false),(7, .no,false),(8, .no,false)] kr kr (λi I e=>by cases e) ?_
  repeat' first|simp only[go_sem, *]|apply bc<;>intro j|(refine zA.mono (c _ _ _) ?_;rintro r h ⟨m,w,rfl⟩)
 ·rintro fr h v ⟨z,A,B,f⟩;subst f;exact au
open List hiding max min map and or get le lt range extract
open Nat(zero_le le_refl le_trans lt_irrefl le_of_lt lt_of_lt_of_le lt_of_le_of_lt lt_succ_iff_lt_or_eq le_of_lt_succ)
structure AltB (m:Nat) (a:Alt):Prop where
 sl:zZ 2 (yX a.ts) a.d
 len:a.ts.length<=m
 pl:yj [a.d]
def AltB.io {m:Nat} {a:Alt} (h:AltB m a):zZ 2 (yX a.ts) a.d/\a.ts.length<=m:=⟨h.sl,h.len⟩
def AltB.mono {m n:Nat} {a:Alt} (h:AltB m a) (b:m<=n):AltB n a:=⟨h.sl,le_trans h.len b,h.pl⟩
def pT (h:Fin sz xs d) (b:∀x∈xs,yj x):yj [d]:=by
 rcases h with⟨rfl,_⟩ |rfl
 ·exact⟨rfl,by simp[zf,below],rfl⟩
 ·have a:=yC (sz:=sz) b .no;exact⟨rfl,by simp only[zf,and_true];exact a.2,by simp only[zw,a.1]⟩
def AltB.of {m:Nat} (h:Fin 2 (yX ts) d) (a:ts.length<=m):AltB m ⟨ts,d⟩:=⟨h.isSl,a,pT h (ac _)⟩
def YQ {m:Nat} {a:Alt} (b:AltB m a) (nid:Nat) (h:Heap):zI prog false nid 30 1 [(0,a.d)] h=some (.sl 1 [[a.d]] .full,h):=by
 obtain⟨k1,k2,k3⟩:=zJ b.sl;exact mX a.d nid h k1 k2 k3
theorem jR {m:Nat} {l:List Alt} (hd:zZ 1 (zl l) d) (hl:l.length<=65536) (hm:m<=65536) (I:∀a∈l,zZ 2 (yX a.ts) a.d/\a.ts.length<=m) (g:Heap):zA prog 270 [d] g λr h'=>h'=g/\∃l',Fin 1 (zl l') r/\l'.length<=l.length/\∀a∈l',AltB m a:=by
 refine xU kr λcv=>xS (zA.freezeOr ?_);have v:=qj hd;refine xP λQ T=> ?_;refine xO mix func270 zFQ rfl rfl ?_;simp only[f270,gJ]
 repeat' first|simp only[go_sem, *]|apply bc<;>intro B
 refine zD (λi fr h=>fr 0=d/\fr 4= .int .i64 (i:Int)/\∃all,Own g h 1 (zl all) (fr 3)/\all.length=i/\∀a∈all,AltB m a) l.length ow ?_ ?_ ?_
 ·have u:∃all,Own g g 1 (zl all) .nilsl/\all.length=0/\∀a∈all,AltB m a:=⟨[],Own.start (Ext.refl g) 1,rfl,λa h=>by cases h⟩;clear T v;simp only[go_sem,true_and,and_true,Int.ofNat_zero];exact u
 ·rintro i fr h F ec ew ⟨f0,f4,all,q,E,f⟩;obtain⟨o,C⟩:∃o,fr 3=o:=⟨_,rfl⟩;rw[C] at q;have a1:=tM hd F;have ag:=I _ (getElem_mem F);have c5:=ag.2;have hj:=Kp (b:=[]) (e:= .nilsl) ag.1 (.inl ⟨rfl,rfl⟩) (by simp;omega);generalize l[i]=a at *
  obtain⟨k1,k2,k3⟩:=zJ ag.1;clear T I hd
  repeat' first|simp only[go_sem, *]|apply bc<;>intro B
  refine(hj _).mono ?_;rintro r h2 ⟨K,ts,b2,cg⟩;subst K;have a6:=AltB.of (m:=m) b2 (by simp at cg;omega);have bo:=YQ a6;obtain⟨q1,q2,q3⟩:=zJ b2.isSl;clear hj
  repeat' first|simp only[go_sem, *]|apply bc<;>intro B
  refine q.appH (ys:=zl [⟨ts,r⟩]) yp uH yu ow (wH _) (by simp[zl]) (by rw[zY,qW];unfold lim;simp[zl];omega) (by rw[zY];unfold lim;simp[zl];omega) λd' h' bb=> ?_;have cu:∃al,Own g h' 1 (zl al) d'/\al.length=i+1/\∀a∈al,AltB m a:=⟨all++ [⟨ts,r⟩],by
   have:zl (all++ [⟨ts,r⟩])=zl all++zl [⟨ts,r⟩]:=by simp[zl]
   rw[this];exact bb,by simp[E],λx hx=>by
   rcases mem_append.1 hx with h1|h1
   ·exact f x h1
   ·cases mem_singleton.1 h1;exact a6⟩
  clear q bb f;exact au
 rintro fr G ec ⟨f0,f4,all,q,E,f⟩;obtain⟨o,C⟩:∃o,fr 3=o:=⟨_,rfl⟩;rw[C] at q;have hE:=q.1;have ad:=q.isSl;have cc:=qj ad;have cp:all.length<=l.length:=ow;clear q E
 repeat' first|simp only[go_sem, *]|apply bc<;>intro B
 refine zD (λi fr h=>fr 3=o/\fr 6= .int .i64 (i:Int)/\∃out,dZ G h 1 (zl out) (fr 5)/\out.length<=i/\∀a∈out,AltB m a) all.length ow ?_ ?_ ?_
 ·have u:∃out,dZ G G 1 (zl out) .nilsl/\out.length<=0/\∀a∈out,AltB m a:=⟨[],dZ.start (Ext.refl G) 1,by simp,λa h=>by cases h⟩;clear T v;simp only[go_sem,true_and,and_true,Int.ofNat_zero,C];exact u
 ·clear C f0 f4 ec fr;rintro i fr h F ec ew ⟨C,X,out,q,N,p⟩;obtain⟨od,S⟩:∃o,fr 5=o:=⟨_,rfl⟩;rw[S] at q;obtain⟨z1,z2,z3⟩:=q.flat;have a1:=tM ad F;have z:=f _ (getElem_mem F);have b9:=z.len;have cb:=yw z.sl;have hB:=DM;clear T v hd I;obtain⟨L,a7⟩:∃a,all[i]=a:=⟨_,rfl⟩;rw[a7] at a1 z b9 cb
  repeat' first|simp only[go_sem, *]|apply bc<;>intro B
  refine zD (λk fr h'=>fr 3=o/\fr 6= .int .i64 (i:Int)/\fr 8= .int .i64 (k:Int)/\LA (fr 7)/\fr 5=od/\h'=h) all.length ow ?_ ?_ ?_
  ·simp only[go_sem,true_and,and_true,Int.ofNat_zero,DM,C,X,S]
  ·clear C X S fr;rintro k fr h W b3 c0 ⟨C,X,f8,⟨b7,f7⟩,S,K⟩;subst K;have a2:=tM ad W;have Y:=f _ (getElem_mem W);have c3:=Y.len;have c4:=yw Y.sl;have b5:=UP z.sl Y.sl ow ow;generalize all[k]=ak at *
   clear f p q N
   repeat' first|simp only[go_sem, *]|apply bc<;>intro B
   refine zP Heap.emp [(0, .no,false),(1, .no,false),(2, .no,false),(3, .no,false),(4, .no,false),(5, .no,false),(6, .no,false),(7, .no,false),(8, .no,false),(9, .no,false),(10, .no,false),(11, .no,false),(12, .no,false),(13, .no,false),(14, .no,false),(15, .no,false),(16, .no,false),(17, .no,false),(18, .no,false),(19, .no,false),(20, .no,false),(21, .no,false),(22, .no,false),(23, .no,false),(24, .no,false),(25, .no,false),(26, .no,false),(27, .no,false),(28, .no,false),(29, .no,false),(30, .no,false),(31, .no,false)] kr kr (λi ob e=>by cases e) ?_
   repeat' first|simp only[go_sem, *]|apply bc<;>intro B|(refine zA.mono (b5 _) ?_;rintro r h ⟨K,w,rfl⟩)
  rintro fr h2 b3 ⟨C,X,f8,⟨b7,f7⟩,S,K⟩;subst K;cases b7 with
  |false=>
   have u:∃out,dZ G h2 1 (zl out) od/\out.length<=i+1/\∀a∈out,AltB m a:=⟨out,q,by omega,p⟩;clear f p q N
   repeat' first|simp only[go_sem, *]|apply bc<;>intro B
  |true=>
  have bo:=YQ z h2.next h2;obtain⟨q1,q2,q3⟩:=zJ z.sl;obtain⟨d',H,M,bk,ch⟩:=q.app (P:=prog) (ys:=zl [L]) (tk:= .full) yp uH yu ow (λcs=>dc underlying128) (wH _) (wH _) (by simp[zl]) (by rw[zY,qW];unfold lim;simp[zl];omega) (by rw[zY];unfold lim;simp[zl];omega);have E:zl [L]= [[L.d]]:=rfl;have U:zl out++zl [L]=zl (out++ [L]):=by simp[zl]
  rw[U] at bk;rw[E] at M ch;have s:∀a∈out++ [L],AltB m a:=λx hx=>by
   rcases mem_append.1 hx with h1|h1
   ·exact p x h1
   ·cases mem_singleton.1 h1;exact z
  have cw:(out++ [L]).length<=i+1:=by simp;omega
  have bs:0<(out++ [L]).length:=by simp
  generalize out++ [L]=c at *
  obtain⟨b4,Z⟩:=bk;rcases Z with⟨_,e⟩ | ⟨id,rfl,y,hid,V,_⟩
  ·exact absurd bs (by rw[show c.length=(zl c).length from(zY _).symm,e];simp)
  rw[zY] at M;have a3:IntKind.i64.wrap ((c.length:Int)-1)=((c.length-1:Nat):Int):=by rw[zt ow ow];omega
  have cf:=λh=>tz (P:=prog) (t:=30) (sz:=1) (id:=id) (off:=0) (len:=c.length) (h:=h) underlying30;clear f p q N U
  repeat' first|simp only[go_sem, *]|apply bc<;>intro B
  refine yH (λj fr h=>fr 3=o/\fr 6= .int .i64 (i:Int)/\fr 9= .int .i64 ((c.length-1-j:Nat):Int)/\fr 5= .rs id 1 0 c.length/\∃xs,xs.length=c.length/\h=H.set id (.row (zl xs).flatten)/\∀a∈xs,AltB m a) (c.length-1) ?_ ?_
  ·have u:∃xs:List Alt,xs.length=c.length/\H=H.set id (.row (zl xs).flatten)/\∀a∈xs,AltB m a:=⟨c,rfl,(uI y).symm,s⟩;clear s a3 cf;simp only[go_sem,true_and,and_true,Int.ofNat_zero,C,X];exact⟨by rw[Nat.sub_zero],u⟩
  rintro j fr h hj ⟨C,X,f9,S,xs,a4,rfl,D⟩;have J:(H.set id (.row (zl xs).flatten)).at' id=some (.row (zl xs).flatten):=zC _ _ _;have a0:∃out,dZ G (H.set id (.row (zl xs).flatten)) 1 (zl out) (.rs id 1 0 c.length)/\out.length<=i+1/\∀a∈out,AltB m a:=⟨xs,⟨b4.set hid _, .inr ⟨id,by rw[zY,a4],J,hid,by rw[zU];exact V,λe=>by
   have:(zl xs).length=0:=by rw[e];rfl
   rw[zY] at this;omega⟩⟩,by omega,D⟩
  obtain⟨k,hk⟩:∃k,c.length-1-j=k:=⟨_,rfl⟩;rw[hk] at f9;cases k with
  |zero=>
   have h0:decide (((0:Nat):Int)>0)=false:=rfl;clear s D a3 y M
   repeat' first|simp only[go_sem, *]|apply bc<;>intro B
   refine zP Heap.emp [(0, .no,false),(1, .no,false),(2, .no,false),(3, .no,false),(4, .no,false),(5, .no,false),(6, .no,false),(7, .no,false),(8, .no,false),(9, .no,false),(10, .no,false),(11, .no,false),(12, .no,false),(13, .no,false),(14, .no,false)] kr kr (λi ob e=>by cases e) ?_
   repeat' first|simp only[go_sem, *]|apply bc<;>intro B
  |succ k=>
   have h0:decide (((k+1:Nat):Int)>0)=true:=decide_eq_true ow;have c7:IntKind.i64.wrap (((k+1:Nat):Int)-1)=(k:Int):=by rw[zt ow ow];omega
   have ba:k+1<xs.length:=ow;have c1:(zl xs).flatten[k+1]? =some xs[k+1].d:=by rw[uo];simp[ba]
   have c2:(zl xs).flatten[k]? =some xs[k].d:=by rw[uo];simp[show k<xs.length by omega]
   have O:=D _ (getElem_mem ba);have R:=D _ (getElem_mem (show k<xs.length by omega));have i1:zR prog 30 (.rs id 1 0 c.length) (.int .i64 ((k+1:Nat):Int))=some (.ptr id (k+1)):=by
    have:=yB (P:=prog) (sz:=1) (id:=id) yp yu (k:= .i64) (show k+1<c.length by omega)
    rwa [Nat.mul_one] at this
   have i2:zR prog 30 (.rs id 1 0 c.length) (.int .i64 (k:Int))=some (.ptr id k):=by
    have:=yB (P:=prog) (sz:=1) (id:=id) yp yu (k:= .i64) (show k<c.length by omega)
    rwa [Nat.mul_one] at this
   have a8:=Q2 O.sl R.sl (by have:=O.len;omega) (by have:=R.len;omega);have b6:(zl xs).flatten=xs.map Alt.d:=uo xs;have b1:((zl xs).flatten.set (k+1) xs[k].d).set k xs[k+1].d=(zl ((xs.set (k+1) xs[k]).set k xs[k+1])).flatten:=by rw[uo,uo,map_set,map_set]
   have bx:∀a∈(xs.set (k+1) xs[k]).set k xs[k+1],AltB m a:=λa ha=>by
    rcases mem_or_eq_of_mem_set ha with h1|rfl
    ·rcases mem_or_eq_of_mem_set h1 with h2|rfl
     ·exact D a h2
     ·exact R
    ·exact O
   have A:∀hh,hh=H.set id (.row (((zl xs).flatten.set (k+1) xs[k].d).set k xs[k+1].d))->(j<c.length-1/\∃ys:List Alt,ys.length=c.length/\hh=H.set id (.row (zl ys).flatten)/\∀a∈ys,AltB m a):=λhh e=>⟨by omega,_,by rw[length_set,length_set];exact a4,by rw[e,b1],bx⟩;have ca:c.length-1- (j+1)=k:=ow;obtain⟨u1,u2,u3⟩:=zJ O.sl;obtain⟨v1,v2,v3⟩:=zJ R.sl;have a9:(zl xs).flatten.length=c.length:=by rw[uo,length_map,a4]
   have cl:zQ prog 128 (.ptr id (k+1)) xs[k].d (H.set id (.row (zl xs).flatten))=some (H.set id (.row ((zl xs).flatten.set (k+1) xs[k].d))):=by
    rw[zT J yu ow v1 v3,ru]
   have cm:zQ prog 128 (.ptr id k) xs[k+1].d (H.set id (.row ((zl xs).flatten.set (k+1) xs[k].d)))=some (H.set id (.row (((zl xs).flatten.set (k+1) xs[k].d).set k xs[k+1].d))):=by
    rw[zT (zC _ _ _) yu (by rw[length_set];omega) u1 u3,ru]
   generalize xs[k+1]=x1 at *
   generalize xs[k]=x2 at *
   clear s D a3 y M b1 bx b6 a9;generalize(zl xs).flatten=row at *
   repeat' first|simp only[go_sem, *]|apply bc<;>intro B
   refine zP Heap.emp [(0, .no,false),(1, .no,false),(2, .no,false),(3, .no,false),(4, .no,false),(5, .no,false),(6, .no,false),(7, .no,false),(8, .no,false),(9, .no,false),(10, .no,false),(11, .no,false),(12, .no,false),(13, .no,false),(14, .no,false)] kr kr (λi ob e=>by cases e) ?_
   repeat' first|simp only[go_sem, *]|apply bc<;>intro B
   refine(a8 _).mono ?_;rintro r h3 ⟨K,n,rfl⟩;subst K;cases hn:decide (n<0) with
   |false=>
    clear A cl cm ca
    repeat' first|simp only[go_sem, *]|apply bc<;>intro B
   |true=>
    clear a0 a8
    repeat' first|simp only[go_sem, *]|apply bc<;>intro B
    have A:=A _ rfl;refine zV kr ?_;exact au
 ·rintro fr h ec ⟨C,X,out,q,N,p⟩;obtain⟨od,S⟩:∃o,fr 5=o:=⟨_,rfl⟩;rw[S] at q;obtain⟨a5,Z⟩:=q;rcases Z with⟨rfl,e⟩ | ⟨id,rfl,y,hid,V,c6⟩
  ·have K:=T .nilsl h (.inl ⟨hE.trans a5,by simp[zj,below],[], .inl ⟨rfl,rfl⟩,by simp,λa h=>by cases h⟩);clear T v hd I f p;exact au
  ·have b8:frz id (zl out).flatten (.rs id 1 0 (zl out).length)= .sl 1 (zl out) .no:=dm (rest:=[]) (wH _) rfl (by simp);have u:=yC (sz:=1) (xs:=zl out) (λx hx=>by
    obtain⟨a,ha,rfl⟩:=mem_map.1 hx;exact(p a ha).pl) .no
   have K:=T (.rs id 1 0 (zl out).length) h (.inr ⟨id,_,y,by
    rw[b8,u.1];exact⟨(hE.trans a5).del (by have:=hE.1;omega),zu (zero_le _) _ u.2,out, .inr rfl,by omega,p⟩⟩)
   clear T v hd I f p;exact au
def Wk {m:Nat} {a b:List Alt} {d e:D} (A:zZ 1 (zl a) d) (B:zZ 1 (zl b) e) (H:a.length+b.length<=65536) (E:m<=65536) (o:∀x∈a,zZ 2 (yX x.ts) x.d/\x.ts.length<=m) (z:∀x∈b,zZ 2 (yX x.ts) x.d/\x.ts.length<=m) (g:Heap):zA prog 271 [d,e] g λr h'=>h'=g/\∃k,Fin 1 (zl k) r/\k.length<=a.length+b.length/\∀x∈k,AltB m x:=by
 refine xU kr λt=> ?_;refine xP λQ y=> ?_;have c:∀h l d,Own g h 1 (zl l) d->l.length=a.length+b.length->(∀x∈l,zZ 2 (yX x.ts) x.d/\x.ts.length<=m)->zA prog 270 [d] h λr h'=>Q r h':=λh l d s C j=>(jR (m:=m) s.isSl ow E j h).mono λr h' ⟨F,k,u,J,v⟩=>by
  subst F;refine y _ _ ⟨s.1,?_,k,u,by omega,v⟩;have:=pT u (λx j=>by
   obtain⟨a,o,rfl⟩:=mem_map.1 j;exact(v a o).pl)
  have n:=this.2.1;simp only[zf,and_true] at n;exact zu (zero_le _) _ n
 have h0:=Own.start (Ext.refl g) 1;refine xO mix func271 zFo rfl rfl ?_;simp only[f271,gJ];simp only[go_sem, *];refine h0.appI (ys:=zl a) yp uH yu ow (wH _) A (by rw[zY,qW];unfold lim;simp;omega) (by rw[zY];unfold lim;simp;omega) λG h1 f=> ?_;rw[nil_append] at f;simp only[go_sem, *];refine f.appI (ys:=zl b) yp uH yu ow (wH _) B (by rw[zY,zY,qW];unfold lim;omega) (by rw[zY,zY];unfold lim;omega) λw n i=> ?_;have p:zl a++zl b=zl (a++b):=by simp[zl]
 rw[p] at i;have I:=c n (a++b) w i (by simp) (λx j=>by
  rcases mem_append.1 j with q|q
  ·exact o x q
  ·exact z x q)
 exact au
theorem Ca {m n:Nat} {a b:List Alt} {d e:D} (M:zZ 1 (zl a) d) (V:zZ 1 (zl b) e) (N:a.length<=64) (O:b.length<=64) (hm:m+n<=65536) (H:∀x∈a,AltB m x) (hb:∀x∈b,AltB n x) (g:Heap):zA prog 272 [d,e] g λr h'=>h'=g/\∃G,Fin 1 (zl G) r/\G.length<=a.length*b.length/\∀x∈G,AltB (m+n) x:=by
 have L:a.length*b.length<=4096:=le_trans (Nat.mul_le_mul N O) ow;refine xU kr λX=> ?_;refine xP λQ T=> ?_;have p:∀h l d,Own g h 1 (zl l) d->l.length=a.length*b.length->(∀x∈l,AltB (m+n) x)->zA prog 270 [d] h λr h'=>Q r h':=λh l d j a0 F=>(jR (m:=m+n) j.isSl ow hm (λx h=>(F x h).io) h).mono λr h' ⟨q1,G,S,q3,q4⟩=>by
  subst q1;refine T _ _ ⟨j.1,?_,G,S,by omega,q4⟩;have:=pT S (λx F=>by
   obtain⟨a,H,rfl⟩:=mem_map.1 F;exact(q4 a H).pl)
  have K:=this.2.1;simp only[zf,and_true] at K;exact zu (zero_le _) _ K
 have P:=qj M;have R:=qj V;clear T;refine xO mix func272 zGD rfl rfl ?_;simp only[f272,gJ];simp only[go_sem, *];refine zD (λi fr h=>fr 0=d/\fr 1=e/\fr 6= .int .i64 (i:Int)/\∃all,Own g h 1 (zl all) (fr 5)/\all.length=i*b.length/\∀x∈all,AltB (m+n) x) a.length ow ?_ ?_ ?_
 ·have q:∃all,Own g g 1 (zl all) .nilsl/\all.length=0*b.length/\∀x∈all,AltB (m+n) x:=⟨[],Own.start (Ext.refl g) 1,by simp,λa h=>by cases h⟩;clear p;simp only[go_sem,true_and,and_true,Int.ofNat_zero];exact q
 ·rintro i fr h w ec ew ⟨y,z,A,all,j,f,c⟩;obtain⟨o,s⟩:∃o,fr 5=o:=⟨_,rfl⟩;rw[s] at j;have a1:=tM M w;have v:=H _ (getElem_mem w);have ak:i*b.length+b.length<=4096:=by rw[<-Nat.succ_mul];exact le_trans (Nat.mul_le_mul_right _ w) L
  generalize a[i]=ai at *
  obtain⟨k1,k2,k3⟩:=zJ v.sl;have U:=v.len;have q:∃all,Own g h 1 (zl all) o/\all.length=i*b.length+0/\∀x∈all,AltB (m+n) x:=⟨all,j,f,c⟩;clear p H M j f c;simp only[go_sem, *];refine zD (λk fr h=>fr 0=d/\fr 1=e/\fr 6= .int .i64 (i:Int)/\fr 7= .int .i64 (k:Int)/\∃all,Own g h 1 (zl all) (fr 5)/\all.length=i*b.length+k/\∀x∈all,AltB (m+n) x) b.length ow ?_ ?_ ?_
  ·simp only[go_sem,true_and,and_true,Int.ofNat_zero,y,z,s,A];exact q
  ·clear y z s A q fr h;rintro k fr h u J ad ⟨y,z,A,f7,all,j,f,c⟩;obtain⟨o,s⟩:∃o,fr 5=o:=⟨_,rfl⟩;rw[s] at j;have a2:=tM V u;have B:=hb _ (getElem_mem u);have ag:=B.len;have W:=Kp v.sl B.sl ow;generalize b[k]=bk at *
   simp only[go_sem, *];refine zP Heap.emp [(0, .no,false),(1, .no,false),(2, .no,false),(3, .no,false),(4, .no,false),(5, .no,false),(6, .no,false),(7, .no,false),(8, .no,false),(9, .no,false),(10, .no,false),(11, .no,false),(12, .no,false)] kr kr (λi ob e=>by cases e) ?_;simp only[go_sem, *];refine(W _).mono ?_;rintro r K ⟨Z,I,E,a3⟩;subst Z;have t:=AltB.of (m:=m+n) E ow;have Y:=YQ t;obtain⟨q1,S,q3⟩:=zJ E.isSl;clear W;simp only[go_sem, *];refine j.appH (ys:=zl [⟨I,r⟩]) yp uH yu ow (wH _) (by simp[zl]) (by rw[zY,qW];unfold lim;simp[zl];omega) (by rw[zY];unfold lim;simp[zl];omega) λd' h' C=> ?_
   have p:∃al,Own g h' 1 (zl al) d'/\al.length=i*b.length+(k+1)/\∀a∈al,AltB (m+n) a:=⟨all++ [⟨I,r⟩],by
    have:zl (all++ [⟨I,r⟩])=zl all++zl [⟨I,r⟩]:=by simp[zl]
    rw[this];exact C,by simp;omega,λx F=>by
    rcases mem_append.1 F with h1|h1
    ·exact c x h1
    ·cases mem_singleton.1 h1;exact t⟩
   clear j C c f;exact au
  ·clear y z s A q fr h;rintro fr h J ⟨y,z,A,f7,all,j,f,c⟩;obtain⟨o,s⟩:∃o,fr 5=o:=⟨_,rfl⟩;rw[s] at j;have q:∃all,Own g h 1 (zl all) o/\all.length=(i+1)*b.length/\∀x∈all,AltB (m+n) x:=⟨all,j,by rw[Nat.succ_mul];exact f,c⟩;clear j f c;exact au
 ·rintro fr h ec ⟨y,z,A,all,j,f,c⟩;obtain⟨o,s⟩:∃o,fr 5=o:=⟨_,rfl⟩;rw[s] at j;have Z:=p h all o j f c;clear p j f c;exact au
def Cb:∀ (n:Nat) {e:Ex},e.size<=n->e.Ok->e.size<=1048576->∀g:Heap,zA prog 332 [.agg e.cells] g λr h'=>h'=g/\IsI r:=by
 intro n
 induction n with
 |zero=>intro e h;cases e;simp only[Ex.size] at h;omega
 |succ n E=>
 intro e C c m g;refine xP λQ A=> ?_;have p:∀n,Q (.int .i64 n) g:=λn=>A _ _ ⟨rfl,n,rfl⟩;obtain⟨k,F,x,l,d⟩:=e;simp only[Ex.size,Ex.Ok] at C c m;obtain⟨o,I,_,_,f⟩:=c;have q:=uQ o;have H:=isI;refine xO mix func332 zFG rfl rfl ?_;simp only[f332,gJ];simp only[Ex.cells,Ex.kind,Ex.name,Ex.exc,Ex.d]
 repeat' first|simp only[go_sem, *]|apply bc<;>intro B
 refine zD (λi fr h=>fr 1= .iptr [.int .i64 k, .str F, .str x,d] 0/\fr 4= .int .i64 (i:Int)/\IsI (fr 3)/\h=g) l.length ow ?_ ?_ ?_
 ·simp only[go_sem,true_and,and_true,Int.ofNat_zero,isI]
 ·rintro i fr h b t G ⟨u,y,⟨z,v⟩,a⟩;subst a;have s:=pM o b;have j:l[i]∈l:=List.getElem_mem b;have a:=E (e:=l[i]) (by have:=yh j;omega) (uP f _ j) (by have:=yh j;omega);simp only[Ex.cells] at s a
  repeat' first|simp only[go_sem, *]|apply bc<;>intro B|(refine zA.mono (a _) ?_;rintro r h ⟨D,w,rfl⟩)
 ·rintro fr h t ⟨u,y,⟨z,v⟩,a⟩;subst a;exact au
def HH:∀ (n:Nat) {e:Ex},e.size<=n->e.Ok->e.size<=1048576->∀g:Heap,zA prog 333 [.agg e.cells] g λr h'=>h'=g/\IsI r:=by
 intro n
 induction n with
 |zero=>intro e h;cases e;simp only[Ex.size] at h;omega
 |succ n E=>
 intro e D f p g;refine xP λQ C=> ?_;have s:∀n,Q (.int .i64 n) g:=λn=>C _ _ ⟨rfl,n,rfl⟩;obtain⟨k,F,x,l,d⟩:=e;simp only[Ex.size,Ex.Ok] at D f p;obtain⟨q,J,_,_,j⟩:=f;have t:=uQ q;have H:=isI;refine xO mix func333 zFX rfl rfl ?_;simp only[f333,gJ];simp only[Ex.cells,Ex.kind,Ex.name,Ex.exc,Ex.d];simp only[go_sem, *];refine zD (λi fr h=>fr 1= .iptr [.int .i64 k, .str F, .str x,d] 0/\fr 4= .int .i64 (i:Int)/\IsI (fr 3)/\h=g) l.length ow ?_ ?_ ?_
 ·simp only[go_sem,true_and,and_true,Int.ofNat_zero,isI]
 ·rintro i fr h b v G ⟨y,B,⟨z,A⟩,a⟩;subst a;have u:=pM q b;have m:l[i]∈l:=List.getElem_mem b;have a:=E (e:=l[i]) (by have:=yh m;omega) (uP j _ m) (by have:=yh m;omega);simp only[Ex.cells] at u a;simp only[go_sem, *];refine(a _).mono ?_;rintro r h ⟨o,w,rfl⟩;subst o;obtain⟨c,I⟩:=zBx z w;exact au
 ·rintro fr h v ⟨y,B,⟨z,A⟩,a⟩;subst a;exact au
def HI:∀ (n:Nat) {e:Ex},e.size<=n->e.Ok->e.size<=1048576->∀ {e2:Ex},e2.Ok->∀g:Heap,zA prog 329 [.agg e.cells, .agg e2.cells] g λr h'=>h'=g/\LA r:=by
 intro n
 induction n with
 |zero=>intro e h;cases e;simp only[Ex.size] at h;omega
 |succ n R=>
 intro e N m y e2 a g;refine xP λQ K=> ?_;have B:∀n,Q (.bool n) g:=λn=>K _ _ ⟨rfl,n,rfl⟩;obtain⟨k,S,x,l,d⟩:=e;obtain⟨k2,z,T,p,F⟩:=e2;simp only[Ex.size,Ex.Ok] at N m y a;obtain⟨A,W,_,_,s⟩:=m;obtain⟨c,M,_,_,f⟩:=a;have C:=uQ A;have t:=uQ c;have V:=DM;refine xO mix func329 zGG rfl rfl ?_;simp only[f329,gJ];simp only[Ex.cells,Ex.kind,Ex.name,Ex.exc,Ex.d];cases O:((l.length:Int)==(p.length:Int)) with
 |false=>
  repeat' first|simp only[go_sem, *]|apply bc<;>intro q
 |true=>
 have L:l.length<=p.length:=by have:=beq_iff_eq.1 O;omega
 repeat' first|simp only[go_sem, *]|apply bc<;>intro q
 refine zD (λi fr h=>fr 2= .iptr [.int .i64 k, .str S, .str x,d] 0/\fr 3= .iptr [.int .i64 k2, .str z, .str T,F] 0/\fr 5= .int .i64 (i:Int)/\h=g) l.length ow ?_ ?_ ?_
 ·simp only[go_sem,true_and,and_true,Int.ofNat_zero]
 ·rintro i fr h j G U ⟨H,I,J,b⟩;subst b;have D:=pM A j;have E:=pM c (show i<p.length by omega);have u:l[i]∈l:=List.getElem_mem j;have v:p[i]'ow∈p:=List.getElem_mem ow;have o:=R (e:=l[i]) (by have:=yh u;omega) (uP s _ u) (by have:=yh u;omega) (uP f _ v);simp only[Ex.cells] at D E o
  repeat' first|simp only[go_sem, *]|apply bc<;>intro q
  refine zP Heap.emp [(0, .no,false),(1, .no,false),(2, .no,false),(3, .no,false),(4, .no,false),(5, .no,false),(6, .no,false),(7, .no,false),(8, .no,false),(9, .no,false),(10, .no,false),(11, .no,false)] kr kr (λi X e=>by cases e) ?_
  repeat' first|simp only[go_sem, *]|apply bc<;>intro q|(refine zA.mono (o _) ?_;rintro r h ⟨P,w,rfl⟩)
 ·rintro fr h G ⟨H,I,J,b⟩;subst b;exact au
def Kq (s:List UInt8) (c:s.length<=1048576) (g:Heap):zA prog 386 [.str s] g λr h'=>h'=g/\LA r:=by
 refine xP λQ b=> ?_;have a:∀n,Q (.bool n) g:=λn=>b _ _ ⟨rfl,n,rfl⟩;have d:=pw s c;refine xO mix func386 zFJ rfl rfl ?_;simp only[f386,gJ]
 repeat' first|simp only[go_sem, *]|apply bc<;>intro f|(refine zA.mono (d _) ?_;rintro r h ⟨e,w,rfl⟩)
mutual
def Ex.Kd:Ex->Prop
 | .mk k _ _ l _=>(0<=k/\k<=3)/\kdL l
def kdL:List Ex->Prop
 | []=>True
 |e::l=>e.Kd/\kdL l
end
theorem UQ:∀ {l:List Ex},kdL l↔∀e∈l,e.Kd
 | []=>by simp[kdL]
 |x::l=>by simp[kdL,UQ (l:=l)]
def Cc:∀ (n:Nat) {e:Ex},e.size<=n->e.Ok->e.size<=1048576->∀g:Heap,zA prog 334 [.agg e.cells] g λr h'=>h'=g/\∃n,r= .int .i64 n/\(n=0->e.Kd):=by
 intro n
 induction n with
 |zero=>intro e h;cases e;simp only[Ex.size] at h;omega
 |succ n R=>
 intro e t u D g;refine xP λQ F=> ?_;have a:∀n,(n==0)=false->Q (.int .i64 n) g:=λn t=>F _ _ ⟨rfl,n,rfl,λq=>by simp[q] at t⟩;have E:=a 1 rfl;have T:=a 2 rfl;obtain⟨k,I,x,l,d⟩:=e;simp only[Ex.size,Ex.Ok] at t u D;obtain⟨G,U,y,z,v⟩:=u;have H:=uQ G;have B:=Kq I y;have C:=Kq x z;cases k1:decide (k<0) with
 |true=>
  refine xO mix func334 Eu rfl rfl ?_;simp only[f334,gJ];simp only[Ex.cells,Ex.kind,Ex.name,Ex.exc,Ex.d]
  repeat' first|simp only[go_sem, *]|apply bc<;>intro o
 |false=>
 cases k2:decide (k>3) with
 |true=>
  refine xO mix func334 Eu rfl rfl ?_;simp only[f334,gJ];simp only[Ex.cells,Ex.kind,Ex.name,Ex.exc,Ex.d]
  repeat' first|simp only[go_sem, *]|apply bc<;>intro o
 |false=>
 have b:(∀e∈l,e.Kd)->Q (.int .i64 0) g:=λO=>F _ _ ⟨rfl,0,rfl,λ_=>by
  rw[Ex.Kd];have:=of_decide_eq_false k1;have:=of_decide_eq_false k2;exact⟨by omega,UQ.2 O⟩⟩
 refine xO mix func334 Eu rfl rfl ?_;simp only[f334,gJ];simp only[Ex.cells,Ex.kind,Ex.name,Ex.exc,Ex.d]
 repeat' first|simp only[go_sem, *]|apply bc<;>intro o|(refine zA.mono (B _) ?_;rintro r h ⟨c,w,rfl⟩)|(refine zA.mono (C _) ?_;rintro r h ⟨c,w,rfl⟩)
 all_goals
  refine zD (λi fr h=>fr 1= .iptr [.int .i64 k, .str I, .str x,d] 0/\fr 3= .int .i64 (i:Int)/\h=g/\∀j (f:j<l.length),j<i->l[j].Kd) l.length ow ?_ ?_ ?_
  ·simp only[go_sem,true_and,and_true,Int.ofNat_zero];exact λj f h0=>by omega
  ·rintro i fr h s K S ⟨E,L,m,f⟩;subst m;have J:=pM G s;have A:l[i]∈l:=List.getElem_mem s;have m:=R (e:=l[i]) (by have:=yh A;omega) (uP v _ A) (by have:=yh A;omega);simp only[Ex.cells] at J m
   repeat' first|simp only[go_sem, *]|apply bc<;>intro o
   refine(m _).mono ?_;rintro r h ⟨c,w,rfl,P⟩;subst c;cases w0:(w==0) with
   |false=>
    have hf:=a w w0
    repeat' first|simp only[go_sem, *]|apply bc<;>intro o
   |true=>
    have t:∀j (f:j<l.length),j<i+1->l[j].Kd:=λj h1 M=>by
     rcases Nat.lt_succ_iff_lt_or_eq.1 M with h|rfl
     ·exact f j h1 h
     ·exact P (by simpa using w0)
    repeat' first|simp only[go_sem, *]|apply bc<;>intro o
    exact t
  ·rintro fr h K ⟨E,L,m,f⟩;subst m;have hf:=b λe N=>by
    obtain⟨j,p,rfl⟩:=List.mem_iff_getElem.1 N;exact f j p p
   exact au
def Wl (a:e.Ok) (c:e.size<=1048576) (g:Heap):zA prog 268 [.agg e.cells] g λr h'=>h'=g/\∃n,r= .int .i64 n/\(n=0->e.Kd):=by
 refine xP λQ f=> ?_;have h1:=Cb _ (Nat.le_refl _) a c;have i:=HH _ (Nat.le_refl _) a c;have h3:=Cc _ (Nat.le_refl _) a c;have l:Q (.int .i64 10) g:=f _ _ ⟨rfl,10,rfl,λq=>by cases q⟩;have m:Q (.int .i64 11) g:=f _ _ ⟨rfl,11,rfl,λq=>by cases q⟩;simp only[Ex.cells] at h1 i h3⊢;have d:∀n,(n=0->e.Kd)->Q (.int .i64 n) g:=λn j=>f _ _ ⟨rfl,n,rfl,j⟩;refine xO mix func268 zEk rfl rfl ?_;simp only[f268,gJ]
 repeat' first|simp only[go_sem, *]|apply bc<;>intro o|(refine zA.mono (h1 _) ?_;rintro r h ⟨b,w,rfl⟩)|(refine zA.mono (i _) ?_;rintro r h ⟨b,w,rfl⟩)
 refine(h3 _).mono ?_;rintro r h ⟨b,w,rfl,k⟩;subst b;have hf:=d w k;exact au
def HJ (f:yy c d) (z:c.Sm) (t:Trm) (g:Heap):zA prog 328 [d, .agg t.cells] g λr h'=>h'=g/\∃q b,r= .tuple [q, .bool b]:=by
 refine xP λQ y=> ?_;have m:∀q b,Q (.tuple [q, .bool b]) g:=λq b=>y _ _ ⟨rfl,q,b,rfl⟩;obtain⟨a,b,e,p,rfl,C,l,D,E⟩:=f;have n:=nO l;have A:=z.es.1;simp only[Trm.cells];refine xO mix func328 zFu rfl rfl ?_;simp only[f328,gJ];cases h0:(t.b== []) with
 |true=>
  repeat' first|simp only[go_sem, *]|apply bc<;>intro f
 |false=>
 repeat' first|simp only[go_sem, *]|apply bc<;>intro f
 refine zD (λi fr h=>fr 2= .iptr [a,b,e,p] 0/\fr 3= .iptr [.str t.a, .str t.b] 0/\fr 6= .int .i64 (i:Int)/\h=g) c.es.length ow ?_ ?_ ?_
 ·simp only[go_sem,true_and,and_true,Int.ofNat_zero]
 ·rintro i fr h j s B ⟨u,v,w,k⟩;subst k;have o:=mT l j;generalize c.es[i]=x at *
  simp only[Exc.cells] at o
  repeat' first|simp only[go_sem, *]|apply bc<;>intro f
  refine zV kr ?_;exact au
 ·rintro fr h s ⟨u,v,w,k⟩;subst k;exact au
def HK (f:yy c d) (j:c.Sm) (t:Trm) (g:Heap):zA prog 335 [d, .agg t.cells] g λr h'=>h'=g/\LA r:=by
 refine xP λQ m=> ?_;have l:∀b,Q (.bool b) g:=λb=>m _ _ ⟨rfl,b,rfl⟩;have h1:=sR f j;have k:=ov f j t.a;have h3:=HJ f j t;obtain⟨a,b,e,p,rfl,s,u,v,x⟩:=f;simp only[Trm.cells] at h3⊢;generalize Ya _ _=z at k;refine xO mix func335 zGH rfl rfl ?_;simp only[f335,gJ]
 repeat' first|simp only[go_sem, *]|apply bc<;>intro f
 refine(h1 _).mono ?_;rintro r h ⟨o,n,rfl,_⟩;subst o
 repeat' first|simp only[go_sem, *]|apply bc<;>intro f|(refine zA.mono (k _) ?_;rintro r h ⟨i,rfl⟩)|(refine zA.mono (h3 _) ?_;rintro r h ⟨i,q,w,rfl⟩)
def Kr {v:D} (f:yy c v) (L:c.Sm):∀ (n:Nat) {e:Ex},e.size<=n->e.Ok->e.size<=1048576->∀g:Heap,zA prog 269 [v, .agg e.cells] g λr h'=>h'=g/\LA r:=by
 intro n
 induction n with
 |zero=>intro e h;cases e;simp only[Ex.size] at h;omega
 |succ n N=>
 intro e K p u g;refine xP λQ H=> ?_;have z:∀n,Q (.bool n) g:=λn=>H _ _ ⟨rfl,n,rfl⟩;have m:=λa b=>HK f L ⟨a,b⟩;obtain⟨ca,cb,ce,cp,rfl,_,_,_,_⟩:=f;obtain⟨k,O,x,l,d⟩:=e;simp only[Ex.size,Ex.Ok] at K p u;obtain⟨y,R,I,J,q⟩:=p;have A:=uQ y;have M:∀a b:List UInt8,zx prog 130 [(0, .str a),(1, .str b)]=some (.agg [.str a, .str b]):=λa b=>by simp[zx,tE,wA,qK,yY,D.notTuple,D.cells]
 simp only[Trm.cells] at m;refine xO mix func269 zFA rfl rfl ?_;simp only[f269,gJ];simp only[Ex.cells,Ex.kind,Ex.name,Ex.exc,Ex.d];cases h0:decide (k<2) with
 |true=>
  repeat' first|simp only[go_sem, *]|apply bc<;>intro f|(refine zA.mono (m _ _ _) ?_;rintro r h ⟨t,w,rfl⟩)
 |false=>
 repeat' first|simp only[go_sem, *]|apply bc<;>intro f
 refine zD (λi fr h=>fr 2= .iptr [ca,cb,ce,cp] 0/\fr 3= .iptr [.int .i64 k, .str O, .str x,d] 0/\fr 5= .int .i64 (i:Int)/\h=g) l.length ow ?_ ?_ ?_
 ·simp only[go_sem,true_and,and_true,Int.ofNat_zero]
 ·rintro i fr h o C P ⟨E,F,G,j⟩;subst j;have B:=pM y o;have s:l[i]∈l:=List.getElem_mem o;have j:=N (e:=l[i]) (by have:=yh s;omega) (uP q _ s) (by have:=yh s;omega);simp only[Ex.cells] at B j
  repeat' first|simp only[go_sem, *]|apply bc<;>intro f
  refine zP Heap.emp [(0, .no,false),(1, .no,false),(2, .no,false),(3, .no,false),(4, .no,false),(5, .no,false),(6, .no,false),(7, .no,false)] kr kr (λi S e=>by cases e) ?_
  repeat' first|simp only[go_sem, *]|apply bc<;>intro f|(refine zA.mono (j _) ?_;rintro r h ⟨t,w,rfl⟩)
 ·rintro fr h C ⟨E,F,G,j⟩;subst j;exact au
def Wm {k:D} (a:yy c k) (p:c.Sm) (d:e.Ok) (f:e.size<=1048576) (g:Heap):zA prog 208 [k, .agg e.cells] g λr h'=>h'=g/\∃n,r= .int .i64 n/\(n=0->e.Kd):=by
 refine xP λQ i=> ?_;have v:Q (.int .i64 1) g:=i _ _ ⟨rfl,1,rfl,λq=>by cases q⟩;have x:Q (.int .i64 7) g:=i _ _ ⟨rfl,7,rfl,λq=>by cases q⟩;have h1:=sR a p;have l:=Wl d f;have h3:=Kr a p _ (Nat.le_refl _) d f;obtain⟨ca,cb,ce,cp,rfl,_,_,_,_⟩:=a;simp only[Ex.cells] at l h3⊢;have b:∀n,(n=0->e.Kd)->Q (.int .i64 n) g:=λn t=>i _ _ ⟨rfl,n,rfl,t⟩;refine xO mix func208 zFk rfl rfl ?_;simp only[f208,gJ]
 repeat' first|simp only[go_sem, *]|apply bc<;>intro a
 refine(h1 _).mono ?_;rintro r h ⟨j,n,rfl,_⟩;subst j;cases y:(n==0) with
 |false=>
  repeat' first|simp only[go_sem, *]|apply bc<;>intro a
 |true=>
 repeat' first|simp only[go_sem, *]|apply bc<;>intro a
 refine(l _).mono ?_;rintro r h ⟨j,m,rfl,o⟩;subst j;have hf:=b m o;cases m0:(m==0) with
 |false=>
  repeat' first|simp only[go_sem, *]|apply bc<;>intro a
 |true=>
 have s:=b 0 λ_=>o (by simpa using m0)
 repeat' first|simp only[go_sem, *]|apply bc<;>intro a|(refine zA.mono (h3 _) ?_;rintro r h ⟨u,w,rfl⟩)
def zDX (k:Int) (i n:Nat):Prop:=n<=64*i/\(k=2->n<=64)
def Wn (m:Nat) (r:D):Prop:=∃q b,r= .tuple [q, .bool b]/\∃l,Fin 1 (zl l) q/\(b=true->l.length<=64)/\∀a∈l,AltB m a
def cO {m:Nat} {l:List Alt} (h:∀a∈l,AltB m a):∀x∈zl l,yj x:=λx c=>by
 obtain⟨a,b,rfl⟩:=List.mem_map.1 c;exact(h a b).pl
def Wn.pl {m:Nat} {r:D} (h:Wn m r) (n:Nat):zj r=r/\below n r:=by
 obtain⟨q,b,rfl,l,hf,_,c⟩:=h;obtain⟨h1,a,h3⟩:=pT hf (cO c);simp only[zf,and_true] at a;simp only[zw,List.cons.injEq,and_true] at h3;exact⟨by simp[zj,zw,h3],by simp only[below,zf,and_true];exact zu (Nat.zero_le _) _ a⟩
def Wn.none (m:Nat):Wn m (.tuple [.nilsl, .bool false]):=⟨.nilsl,false,rfl,[], .inl ⟨rfl,rfl⟩,(λq=>by cases q),(λa h=>by cases h)⟩
def HL (s x:List UInt8) (nid:Nat) (h:Heap):zI prog false nid 128 1 [(0, .agg [.str s, .str x])] h=some (.sl 2 [[.str s, .str x]] .full,h):=zz yg wA qB rfl rfl ow ow rfl rfl
def HM {l:List Ex} (a:i<l.length):zi (l.take (i+1))=zi (l.take i)+l[i].size:=by rw[List.take_succ_eq_append_getElem a,nR]
def YR (l:List Ex) (i:Nat):zi (l.take i)<=zi l:=by
 have a:=lu (l.take i) (l.drop i);rw[List.take_append_drop] at a;omega
theorem Cd {D0:D} (hc:yy c D0) (hs:c.Sm) (ai:c.ls.length<=40):∀ (n:Nat) {e:Ex},e.size<=n->e.Ok->e.Kd->e.size<=120->∀g:Heap,zA prog 209 [D0, .agg e.cells] g λr h'=>h'=g/\Wn e.size r:=by
 intro n
 induction n with
 |zero=>intro e h;cases e;simp only[Ex.size] at h;omega
 |succ n ih=>
 intro e hn Y T a9 g;refine xU kr λbs=>xS ?_;refine xP λQ hQ=> ?_;have a4:=aH hc hs ai;obtain⟨ca,cb,ce,cp,rfl,_,_,_,_⟩:=hc;obtain⟨k,nm,x,l,d⟩:=e;have hR:(Ex.mk k nm x l d).size=zi l+1:=by simp only[Ex.size]
 rw[hR] at hQ hn a9;simp only[Ex.Ok,Ex.Kd] at Y T;obtain⟨hd,hl,_,_,a3⟩:=Y;obtain⟨⟨b2,b3⟩,a2⟩:=T;have I:∀r h,Ext g h->Wn (zi l+1) r->Q r h:=λr h N hr=>hQ _ _ ⟨N,by rw[(hr.pl 0).1];exact(hr.pl _).2,by rw[(hr.pl 0).1];exact hr⟩;have C:=λh N=>I _ h N (Wn.none _);have bo:=uQ hd;have cc:∀a b:List UInt8,zx prog 130 [(0, .str a),(1, .str b)]=some (.agg [.str a, .str b]):=λa b=>by simp[zx,tE,wA,qK,yY,D.notTuple,D.cells]
 have bx:∀a:List UInt8,zx prog 130 [(0, .str a)]=some (.agg [.str a, .str []]):=λa=>by simp[zx,tE,wA,qK,yY,D.notTuple,D.cells]
 have b7:=HL;have b8:=λs x nid h=>mX (.sl 2 [[.str s, .str x]] .full) nid h rfl rfl rfl;cases k0:(k==0) with
 |true=>
  have f:Q (.tuple [.sl 1 [[.sl 2 [[.str nm, .str x]] .full]] .full, .bool true]) g:=hQ _ _ ⟨Ext.refl g,by simp[zj,zw,ue,below,zf,sD],by
   refine⟨.sl 1 (zl [mkA [⟨nm,x⟩]]) .no,true,by simp[zj,zw,ue,zl,mkA,yX,Trm.cells],_, .inr rfl,λ_=>by simp,λa ha=> ?_⟩;cases List.mem_singleton.1 ha;exact⟨.inr ⟨_,rfl⟩,by simp[mkA],l9 _⟩⟩
  refine xO mix func209 E4 rfl rfl ?_;simp only[f209,gJ];simp only[Ex.cells,Ex.kind,Ex.name,Ex.exc,Ex.d];simp only[go_sem, *]
 |false=>
 cases k1:(k==1) with
 |true=>
  refine xO mix func209 E4 rfl rfl ?_;simp only[f209,gJ];simp only[Ex.cells,Ex.kind,Ex.name,Ex.exc,Ex.d];simp only[go_sem, *];refine(a4 _ _).mono ?_;rintro r h ⟨f,ps,q,m,rfl,ad,b9⟩;subst f;have b6:=yQ ad;simp only[go_sem, *];refine zD (λi fr h'=>fr 7=q/\fr 9= .int .i64 (i:Int)/\∃all,Own h h' 1 (zl all) (fr 6)/\all.length=i/\∀a∈all,zZ 2 (yX a.ts) a.d/\a.ts.length<=zi l+1) ps.length ow ?_ ?_ ?_
  ·have u:∃all,Own h h 1 (zl all) .nilsl/\all.length=0/\∀a∈all,zZ 2 (yX a.ts) a.d/\a.ts.length<=zi l+1:=⟨[],Own.start (Ext.refl h) 1,rfl,λa h=>by cases h⟩;simp only[go_sem,true_and,and_true,Int.ofNat_zero];exact u
  ·rintro i fr h2 B ec ew ⟨f7,f9,all,p,J,A⟩;obtain⟨o,H⟩:∃o,fr 6=o:=⟨_,rfl⟩;rw[H] at p;have a1:=wU ad B;generalize ps[i]=s at *
   simp only[go_sem, *];refine p.appH (ys:=zl [⟨[⟨s,[]⟩], .sl 2 [[.str s, .str []]] .full⟩]) yp uH yu ow (wH _) (by simp[zl]) (by rw[zY,qW];unfold lim;simp[zl];omega) (by rw[zY];unfold lim;simp[zl];omega) λd' h' a8=> ?_;have bk:∃al,Own h h' 1 (zl al) d'/\al.length=i+1/\∀a∈al,zZ 2 (yX a.ts) a.d/\a.ts.length<=zi l+1:=⟨all++ [⟨[⟨s,[]⟩], .sl 2 [[.str s, .str []]] .full⟩],by
    have:∀z:Alt,zl (all++ [z])=zl all++zl [z]:=λz=>by simp[zl]
    rw[this];exact a8,by simp[J],λx hx=>by
    rcases List.mem_append.1 hx with h1|h1
    ·exact A x h1
    ·cases List.mem_singleton.1 h1;exact⟨.inr ⟨_,rfl⟩,by simp⟩⟩
   exact au
  ·rintro fr h2 ec ⟨f7,f9,all,p,J,A⟩;obtain⟨o,H⟩:∃o,fr 6=o:=⟨_,rfl⟩;rw[H] at p;have a7:=jR (m:=zi l+1) p.isSl ow ow A;have W:=qj p.isSl;rw[J] at W;have N:=p.1;have bb:all.length<=ps.length:=ow;simp only[go_sem, *];refine(a7 _).mono ?_;rintro r h3 ⟨f,l',hf,b4,ak⟩;subst f;have f:=I (.tuple [r, .bool (decide ((ps.length:Int)<=64))]) h3 N ⟨r,_,rfl,l',hf,λq=>by have:=of_decide_eq_true q;omega,ak⟩;simp only[go_sem, *]
 |false=>
 have hk:k=2\/k=3:=by
  have h0:k≠0:=by simpa using k0
  have h1:k≠1:=by simpa using k1
  omega
 have b5:l.length<=120:=by
  have:∀l:List Ex,l.length<=zi l:=λl=>by
   induction l with
   |nil=>simp
   |cons e l ih=>simp only[zi,List.length_cons];cases e;simp only[Ex.size];omega
  have:=this l;omega
 have U:∀i (hi:i<l.length) g,zA prog 209 [.agg [ca,cb,ce,cp], .agg l[i].cells] g λr h'=>h'=g/\Wn l[i].size r:=λi hi=>by
  have hm:=List.getElem_mem hi;have:=yh hm;exact ih ow (uP a3 _ hm) (UQ.1 a2 _ hm) ow
 refine xO mix func209 E4 rfl rfl ?_;simp only[f209,gJ];simp only[Ex.cells,Ex.kind,Ex.name,Ex.exc,Ex.d];simp only[go_sem, *];refine zD (λi fr h=>fr 2= .iptr [ca,cb,ce,cp] 0/\fr 3= .iptr [.int .i64 k, .str nm, .str x,d] 0/\fr 10= .int .i64 (i:Int)/\h=g/\∃out,Fin 1 (zl out) (fr 6)/\zDX k i out.length/\∀a∈out,AltB (zi (l.take i)) a) l.length ow ?_ ?_ ?_
 ·have u:∃out,Fin 1 (zl out) .nilsl/\zDX k 0 out.length/\∀a∈out,AltB (zi (l.take 0)) a:=⟨[], .inl ⟨rfl,rfl⟩,⟨by simp,λ_=>by simp⟩,λa h=>by cases h⟩;simp only[go_sem,true_and,and_true,Int.ofNat_zero];exact u
 ·rintro i fr h B ec ew ⟨f2,f3,ag,f,out,p,F,j⟩;subst f;obtain⟨o,H⟩:∃o,fr 6=o:=⟨_,rfl⟩;rw[H] at p;have a1:=pM hd B;have S:=U i B;have ba:=HM B;have a5:=YR l (i+1);have C:=C h (Ext.refl h);generalize l[i]=y at *
  simp only[Ex.cells] at a1 S;rw[ba] at a5⊢;simp only[go_sem, *];refine zP Heap.emp [(0, .no,false),(1, .no,false),(2, .no,false),(3, .no,false),(4, .no,false),(5, .no,false),(6, .no,false),(7, .no,false),(8, .no,false),(9, .no,false),(10, .no,false),(11, .no,false)] kr kr (λi ob e=>by cases e) ?_;simp only[go_sem, *];refine(S _).mono ?_;rintro r h2 ⟨f,q,b,rfl,l2,L,M,O⟩;subst f;cases b with
  |false=>
   simp only[go_sem, *]
  |true=>
  have M:=M rfl;have E:∀a∈out,AltB (zi (l.take i)+y.size) a:=λa h=>(j a h).mono ow;have G:∀a∈l2,AltB (zi (l.take i)+y.size) a:=λa h=>(O a h).mono ow;rcases hk with rfl|rfl
  ·have X:out.length<=64:=F.2 rfl;have P:∀r v,Fin 1 (zl v) r->(∀a∈v,AltB (zi (l.take i)+y.size) a)->v.length<=64->∃out,Fin 1 (zl out) r/\zDX 2 (i+1) out.length/\∀a∈out,AltB (zi (l.take i)+y.size) a:=λr v q1 q2 q3=>⟨v,q1,⟨by omega,λ_=>q3⟩,q2⟩;cases i0:((i:Int)==0) with
   |true=>
    have b1:i<=0:=by have:=beq_iff_eq.1 i0;omega
    have Z:=F.1;have K:=Wk (m:=zi (l.take i)+y.size) p.isSl L.isSl ow ow (λa h=>(E a h).io) (λa h=>(G a h).io);simp only[go_sem, *];refine(K _).mono ?_;rintro r h3 ⟨f,v,t,V,w⟩;subst f;have u:=P r v t w ow;have a6:=qj t.isSl;have R:decide ((v.length:Int)>64)=false:=decide_eq_false ow;simp only[go_sem, *]
   |false=>
    have a0:=Ca (m:=zi (l.take i)) (n:=y.size) p.isSl L.isSl X M ow j O;simp only[go_sem, *];refine(a0 _).mono ?_;rintro r h3 ⟨f,v,t,V,w⟩;subst f;have a6:=qj t.isSl;cases R:decide ((v.length:Int)>64) with
    |true=>
     simp only[go_sem, *]
    |false=>
     have u:=P r v t w (by have:=of_decide_eq_false R;omega);exact au
  ·have Z:=F.1;have K:=Wk (m:=zi (l.take i)+y.size) p.isSl L.isSl ow ow (λa h=>(E a h).io) (λa h=>(G a h).io);simp only[go_sem, *];refine(K _).mono ?_;rintro r h3 ⟨f,v,t,V,w⟩;subst f;have u:∃out,Fin 1 (zl out) r/\zDX 3 (i+1) out.length/\∀a∈out,AltB (zi (l.take i)+y.size) a:=⟨v,t,⟨by omega,λq=>by cases q⟩,w⟩;exact au
 ·rintro fr h ec ⟨f2,f3,ag,f,out,p,F,j⟩;subst f;obtain⟨o,H⟩:∃o,fr 6=o:=⟨_,rfl⟩;rw[H] at p;have W:=qj p.isSl;rw[List.take_length] at j;have f:=I (.tuple [o, .bool (decide ((out.length:Int)<=64))]) h (Ext.refl h) ⟨o,_,rfl,out,p,λq=>by have:=of_decide_eq_true q;omega,λa h=>(j a h).mono ow⟩;exact au
def OfR (r:D):Prop:=∃q n,r= .tuple [q, .int .i64 n]/\∃l m,Fin 1 (zl l) q/\l.length<=64/\∀a∈l,AltB m a
def zGl {s:D} (m:yy c s) (u:c.Sm) (k:c.ls.length<=40) (j:e.Ok) (p:e.size<=120) (g:Heap):zA prog 137 [s, .agg e.cells] g λr h'=>h'=g/\OfR r:=by
 refine xP λQ t=> ?_;have h1:=Wm m u j ow;have d:=λw=>Cd m u k _ (Nat.le_refl _) j w p;obtain⟨ca,cb,ce,cp,rfl,_,_,_,_⟩:=m;have i:∀n,Q (.tuple [.nilsl, .int .i64 n]) g:=λn=>t _ _ ⟨rfl, .nilsl,n,rfl,[],0, .inl ⟨rfl,rfl⟩,by simp,λa h=>by cases h⟩;have f:∀q l,Fin 1 (zl l) q->l.length<=64->(∀a∈l,AltB e.size a)->Q (.tuple [q, .int .i64 0]) g:=λq l h1 d h3=>t _ _ ⟨rfl,q,0,rfl,l,_,h1,d,h3⟩;simp only[Ex.cells] at h1 d⊢;refine xO mix func137 zE1 rfl rfl ?_;simp only[f137,gJ];simp only[go_sem, *];refine(h1 _).mono ?_;rintro r h ⟨o,n,rfl,y⟩;subst o;cases A:(n==0) with
 |false=>
  have z:=i n;simp only[go_sem, *]
 |true=>
 have d:=d (y (by simpa using A));simp only[go_sem, *];refine(d _).mono ?_;rintro r h ⟨o,q,b,rfl,l,hf,x,v⟩;subst o;cases b with
 |false=>
  simp only[go_sem, *]
 |true=>
  have hf:=f q l hf (x rfl) v;exact au
def OwS (s:List UInt8) (G h:Heap) (d:D) (m:Nat):Prop:=∃ps,Own G h 1 (yV ps) d/\ps.length<=m/\∀p∈ps,p.length<=s.length
def OwS.app {s x:List UInt8} {G h:Heap} {m:Nat} {w:HidR K} (f:OwS s G h d m) (k:m<=2097152) (i:x.length<=s.length) (e:∀a h',OwS s G h' a (m+1)->K a h'):K9 (zg prog false h.next 31 d (.sl 1 [[.str x]] tk) h) K w:=by
 obtain⟨c,h1,j,h3⟩:=f;refine h1.appH (ys:=yV [x]) yv jh uu ow (by simp[yV]) (by simp[yV]) (by rw[z8,tS];unfold lim;simp[yV];omega) (by rw[z8];unfold lim;simp[yV];omega) λa h' b=> ?_;refine e a h' ⟨c++ [x],?_,by simp;omega,λp g=> ?_⟩
 ·have:yV (c++ [x])=yV c++yV [x]:=by simp[yV]
  rw[this];exact b
 ·rcases List.mem_append.1 g with q|q
  ·exact h3 p q
  ·cases List.mem_singleton.1 q;exact i
def HN (s:List UInt8) (V:s.length<=1048576) (b:Int) (g:Heap):zA prog 330 [.str s, .int .u8 b] g λr h'=>h'=g/\∃v,Fin 1 (yV v) r/\v.length<=s.length+1/\∀p∈v,p.length<=s.length:=by
 refine xU kr λC=>xS ?_;refine xP λQ E=> ?_;have F:∀h,tu prog 9 (.str s) h=some (.int .i64 s.length):=λh=>qr underlying9;have a:∀d h,OwS s g h d (s.length+1)->Q d h:=λd h ⟨v,h1,A,h3⟩=>by
  obtain⟨y,K,L⟩:=h1.fin qN;exact E _ _ ⟨y,K,v,L,A,h3⟩
 have G:=oY;have l:∀ (u w:Nat),u<=w->w<=s.length->∀h,∃x,yk prog 9 (.str s) (some (.int .i64 (u:Int))) (some (.int .i64 (w:Int))) none h=some (.str x)/\x.length<=s.length:=λu w h1 A h=>⟨_,M9 h1 A h,by simp;omega⟩;have c:∀ (u:Nat),u<=s.length->∀h,∃x,yk prog 9 (.str s) (some (.int .i64 (u:Int))) none none h=some (.str x)/\x.length<=s.length:=λu h1 h=>⟨_,FB h1 h,by simp⟩;clear E C;refine xO mix func330 zET rfl rfl ?_;simp only[f330,gJ];simp only[go_sem, *]
 refine zD (λi fr h=>fr 0= .str s/\fr 1= .int .u8 b/\fr 7= .int .i64 (i:Int)/\∃st:Nat,fr 6= .int .i64 (st:Int)/\st<=i/\OwS s g h (fr 5) i) s.length ow ?_ ?_ ?_
 ·have f:OwS s g g .nilsl 0:=⟨[],Own.start (Ext.refl g) 1,by simp,λp h=>by cases h⟩;clear a l c;simp only[go_sem,true_and,and_true,Int.ofNat_zero];exact⟨0,rfl,by omega,f⟩
 ·rintro i fr h B I T ⟨J,y,N,st,M,f,k⟩;obtain⟨o,z⟩:∃o,fr 5=o:=⟨_,rfl⟩;rw[z] at k;have S:tY prog 9 (.str s) (.int .i64 (i:Int))=some (.int .u8 s[i].toNat):=wQ underlying9 (List.getElem?_eq_getElem B);obtain⟨x,O,t⟩:=l st i f ow h;have m:∀ {o:D} {h:Heap},OwS s g h o i->∃j:Nat,D.int .i64 (st:Int)= .int .i64 (j:Int)/\j<=i+1/\OwS s g h o (i+1):=λ⟨v,P,W,R⟩=>⟨st,rfl,by omega,v,P,by omega,R⟩;have n:∀ {o:D} {h:Heap},OwS s g h o (i+1)->∃j:Nat,D.int .i64 ((i+1:Nat):Int)= .int .i64 (j:Int)/\j<=i+1/\OwS s g h o (i+1):=λq=>⟨i+1,rfl,by omega,q⟩;clear a l c;cases U:((s[i].toNat:Int)==b) with
  |true=>
   clear m;simp only[go_sem, *];refine k.app ow t λH h' e=> ?_;have n:=n e;clear k e;simp only[go_sem, *]
  |false=>
   have m:=m k;clear n k;exact au
 ·rintro fr h I ⟨J,y,N,st,M,f,k⟩;obtain⟨o,z⟩:∃o,fr 5=o:=⟨_,rfl⟩;rw[z] at k;obtain⟨x,O,t⟩:=c st f h;clear l c;simp only[go_sem, *];refine k.app ow t λH h' e=> ?_;have a:=a _ _ e;clear k e;exact au
def Ce (s:List UInt8) (t:s.length<=1048576) (g:Heap):zA prog 331 [.str s] g λr h'=>h'=g/\LA r:=by
 refine xP λQ k=> ?_;have c:∀b,Q (.bool b) g:=λb=>k _ _ ⟨rfl,b,rfl⟩;have d:∀h,tu prog 9 (.str s) h=some (.int .i64 s.length):=λh=>qr underlying9;refine xO mix func331 zEo rfl rfl ?_;simp only[f331,gJ];cases h0:decide ((s.length:Int)<1) with
 |true=>
  repeat' first|simp only[go_sem, *]|apply bc<;>intro l
 |false=>
  have j:=of_decide_eq_false h0;have m:0<s.length:=ow;have o:tY prog 9 (.str s) (.int .i64 0)=some (.int .u8 s[0].toNat):=wQ (n:=0) underlying9 (List.getElem?_eq_getElem m);generalize s[0]=z at *
  repeat' first|simp only[go_sem, *]|apply bc<;>intro l
  refine zD (λi fr h=>fr 0= .str s/\fr 3= .int .i64 (i:Int)/\h=g) s.length ow ?_ ?_ ?_
  ·simp only[go_sem,true_and,and_true,Int.ofNat_zero]
  ·rintro i fr h a e1 q ⟨e,f,rfl⟩;have p:tY prog 9 (.str s) (.int .i64 (i:Int))=some (.int .u8 s[i].toNat):=wQ underlying9 (List.getElem?_eq_getElem a);generalize s[i]=y at *
   exact au
  ·rintro fr h e1 ⟨e,f,rfl⟩;exact au
def Ks (s:List UInt8) (u:s.length<=1048576) (g:Heap):zA prog 267 [.str s] g λr h'=>h'=g/\IsI r:=by
 refine xP λQ t=> ?_;have p:∀b,Q (.int .i64 b) g:=λb=>t _ _ ⟨rfl,b,rfl⟩;have q:∀h,tu prog 9 (.str s) h=some (.int .i64 s.length):=λh=>qr underlying9;have n:=HN s u 47;refine xO mix func267 zEP rfl rfl ?_;simp only[f267,gJ]
 repeat' first|simp only[go_sem, *]|apply bc<;>intro o
 refine(n _).mono ?_;rintro r h ⟨d,e,hf,x,l⟩;subst d;have c:=hf.isSl;have v:=yQ c
 repeat' first|simp only[go_sem, *]|apply bc<;>intro o
 refine zD (λi fr h'=>fr 14=r/\fr 15= .int .i64 (e.length:Int)/\fr 16= .int .i64 (i:Int)/\h'=h) e.length ow ?_ ?_ ?_
 ·simp only[go_sem,true_and,and_true,Int.ofNat_zero]
 ·rintro i fr h a e1 B ⟨f,j,k,d⟩;subst d;have A:=wU c a;have m:=Ce e[i] (by have:=l _ (List.getElem_mem a);omega);generalize e[i]=y at *
  repeat' first|simp only[go_sem, *]|apply bc<;>intro o|(refine zA.mono (m _) ?_;rintro r h ⟨z,w,rfl⟩)
 ·rintro fr h e1 ⟨f,j,k,d⟩;subst d;exact au
def zCU (k:Int):k=0\/k=1\/k=2\/k=3\/k=4\/((k==0)=false/\(k==1)=false/\(k==2)=false/\(k==3)=false/\(k==4)=false):=by
 by_cases h0:k=0
 ·exact .inl h0
 by_cases h1:k=1
 ·exact .inr (.inl h1)
 by_cases a:k=2
 ·exact .inr (.inr (.inl a))
 by_cases h3:k=3
 ·exact .inr (.inr (.inr (.inl h3)))
 by_cases b:k=4
 ·exact .inr (.inr (.inr (.inr (.inl b))))
 exact .inr (.inr (.inr (.inr (.inr ⟨by simpa using h0,by simpa using h1,by simpa using a,by simpa using h3,by simpa using b⟩))))
def zCV:zx prog 56 []=some (.agg zEx):=by simp[zx,R9,Ja,qK,D.notTuple,D.cells]
def HO {f:Fac} (a:f.Ok) (g:Heap):zA prog 266 [.agg f.cells] g λr h'=>h'=g/\LA r:=by
 refine xP λQ l=> ?_;have i:∀b,Q (.bool b) g:=λb=>l _ _ ⟨rfl,b,rfl⟩;have heq:=HI _ (Nat.le_refl _) a.e a.es (e2:= .mk 0 [] [] [] .nilsl) (by simp[Ex.Ok,okL,exs,zZ.nil]);have o:=zCV;have c:=yQ a.list;have j:=pu;obtain⟨k,q,z,A,B,s,p,e,y,d⟩:=f;simp only[Fac.cells,Ex.cells,Ex.kind,Ex.name,Ex.exc,Ex.d] at heq c⊢;generalize e.kind=u at *
 generalize e.name=v at *
 generalize e.exc=x at *
 generalize e.d=t at *
 rcases zCU k with rfl|rfl|rfl|rfl|rfl| ⟨k0,k1,k2,k3,k4⟩
 all_goals
  refine xO mix func266 zGC rfl rfl ?_;simp only[f266,gJ]
  repeat' first|simp only[go_sem, *]|apply bc<;>intro m
  refine zV kr ?_
  repeat' first|simp only[go_sem, *]|apply bc<;>intro m|(refine zA.mono (heq _) ?_;rintro r h ⟨n,w,rfl⟩)
theorem Cf {Y:D} (o:yy c Y) (hs:c.Sm) {f:Fac} (j:f.Ok) (g:Heap):zA prog 207 [Y, .agg f.cells] g λr h'=>h'=g/\IsI r:=by
 refine xU kr λad=> ?_;refine xP λQ Z=> ?_;have a:∀b h,Ext g h->Q (.int .i64 b) h:=λb h z=>Z _ _ ⟨z,by simp[below],b,rfl⟩;have B:∀b,Q (.int .i64 b) g:=λb=>a b g (Ext.refl g);have v:=HO j;have t:=Ks f.comp j.comp;have u:=Ks f.out j.out;have p:=Wm o hs j.e j.es;have l:=aG o hs;have bo:=yQ j.list;have m:=λi (hi:i<f.list.length)=>wU j.list hi;have bk:=j.ll;have ba:=pu;have ak:=ou;obtain⟨ca,cb,ce,cp,rfl,_,_,_,_⟩:=o;clear Z;obtain⟨k,cm,ot,rl,wy,du,cg,e,I,d⟩:=f;simp only[Fac.cells,Ex.cells,Ex.kind,Ex.name,Ex.exc,Ex.d] at *
 clear j;generalize e.kind=ek at *
 generalize e.name=en at *
 generalize e.exc=ex at *
 generalize e.d=ed at *
 cases k1:decide (k<0) with
 |true=>
  clear v t u p l a;refine xO mix func207 El rfl rfl ?_;simp only[f207,gJ]
  repeat' first|simp only[go_sem, *]|apply bc<;>intro o
 |false=>
 cases k2:decide (k>4) with
 |true=>
  clear v t u p l a;refine xO mix func207 El rfl rfl ?_;simp only[f207,gJ]
  repeat' first|simp only[go_sem, *]|apply bc<;>intro o
 |false=>
 have hk:k=0\/k=1\/k=2\/k=3\/k=4:=by
  have:=of_decide_eq_false k1;have:=of_decide_eq_false k2;omega
 clear k1 k2;have A:=λ(x:Lic) (h:Heap)=>p7 x h h.next;rcases hk with rfl|rfl|rfl|rfl|rfl
 all_goals
  refine xO mix func207 El rfl rfl ?_;simp only[f207,gJ]
  repeat' first|simp only[go_sem, *]|apply bc<;>intro o|(refine zA.mono (v _) ?_;rintro r h ⟨G,w,rfl⟩)|(refine zA.mono (t _) ?_;rintro r h ⟨G,w,rfl⟩)|(refine zA.mono (u _) ?_;rintro r h ⟨G,w,rfl⟩)
 all_goals try
  refine(p _).mono ?_;rintro r h ⟨F,n,rfl,_⟩;subst F;clear v t u p l a;exact au
 all_goals
  clear v t u p B;refine zD (λi fr h=>fr 2= .iptr [ca,cb,ce,cp] 0/\(∃J K L M N O P R S T y,fr 3= .iptr [J,K,L,M,N,O,P,R,S,T,y,d] 0)/\fr 5= .int .i64 (i:Int)/\Ext g h) I.length ow ?_ ?_ ?_
  ·have z:=Ext.refl g;clear a m;simp only[go_sem,true_and,and_true,Int.ofNat_zero];exact⟨⟨_,_,_,_,_,_,_,_,_,_,_,rfl⟩,z⟩
  ·rintro i fr h C ec ew ⟨V,⟨J,K,L,M,N,O,P,R,S,T,y,E⟩,W,z⟩;have b1:=m i C;generalize I[i]=s at *
   have bb:∀h,HLe Heap.emp h:=λh i ob e=>by cases e
   clear m
   repeat' first|simp only[go_sem, *]|apply bc<;>intro o
   refine zP Heap.emp [(0, .st,true),(1, .no,true),(2, .st,true),(3, .no,true),(4, .no,true),(5, .st,true),(6, .sq,true),(7, .no,true),(8, .no,true),(9, .no,true),(10, .no,true),(11, .no,true),(12, .no,true)] kr kr (λi ob e=>by cases e) ?_
   repeat' first|simp only[go_sem, *]|apply bc<;>intro o
   refine DK _ (λH=>l s H) ⟨_,⟨[],[],0,[]⟩,false,rfl,λq=>by cases q⟩ ?_;rintro r ⟨x,b,rfl,_⟩;have ag:=A x h;have X:=z.new z.1 (.row [.str x.name, .str x.fam, .int .i64 x.ver, .str x.text]);cases b with
   |false=>
    have hf:=a 7 _ X;clear l a A
    repeat' first|simp only[go_sem, *]|apply bc<;>intro o
   |true=>
    clear l a A
    repeat' first|simp only[go_sem, *]|apply bc<;>intro o
    exact⟨_,_,_,_,_,_,_,_,_,_,_,rfl⟩
  clear l A;rintro fr h ec ⟨V,⟨J,K,L,M,N,O,P,R,S,T,y,E⟩,W,z⟩
  repeat' first|simp only[go_sem, *]|apply bc<;>intro o
  refine jE (λi fr h'=>fr 3= .iptr [J,K,L,M,N,O,P,R,S,T,y,d] 0/\fr 8= .int .i64 (i:Int)/\h'=h) I.length ow ?_ ?_ ?_
  ·simp only[go_sem,true_and,and_true,Int.ofNat_zero,E];rfl
  ·clear V E W fr;rintro i fr h' C U ew ai ⟨E,f8,F⟩;subst F;have b1:=m i ow;have b2:=m (i+1) C;have a:=λb=>a b _ z;generalize I[i]=s at *
   generalize I[i+1]=s2 at *
   clear m
   repeat' first|simp only[go_sem, *]|apply bc<;>intro o
   refine zV kr ?_;exact au
  ·clear V E W fr;rintro i fr h' U ⟨E,f8,F⟩;subst F;have a:=λb=>a b _ z;clear m;exact au
def Q3 {o x:D} (a:yy c o) (s:c.Sm) (t:zZ 12 (nQ fs) x) (H:fs.length<=1048576) (m:∀f∈fs,f.Ok) (g:Heap):zA prog 136 [o,x] g λr h'=>h'=g/\∃i n,r= .tuple [.int .i64 i, .int .i64 n]:=by
 refine xP λQ C=> ?_;have p:∀i n,Q (.tuple [.int .i64 i, .int .i64 n]) g:=λi n=>C _ _ ⟨rfl,i,n,rfl⟩;have k:=sR a s;have l:=λi (E:i<fs.length)=>Cf a s (m _ (List.getElem_mem E));have q:=tU t;have B:=ou;obtain⟨ca,cb,ce,cp,rfl,_,_,_,_⟩:=a;refine xO mix func136 zEa rfl rfl ?_;simp only[f136,gJ]
 repeat' first|simp only[go_sem, *]|apply bc<;>intro a
 refine(k _).mono ?_;rintro r h ⟨j,n,rfl,_⟩;subst j
 repeat' first|simp only[go_sem, *]|apply bc<;>intro a
 refine zD (λi fr h'=>fr 1=x/\fr 2= .iptr [ca,cb,ce,cp] 0/\fr 6= .int .i64 (i:Int)/\h'=h) fs.length ow ?_ ?_ ?_
 ·simp only[go_sem,true_and,and_true,Int.ofNat_zero]
 ·rintro i fr h' d v G ⟨y,z,A,j⟩;subst j;have u:=qd t d;have b:=l i d;generalize fs[i]=f at *
  simp only[Fac.cells] at u b
  repeat' first|simp only[go_sem, *]|apply bc<;>intro a
  refine zP Heap.emp [(0, .no,false),(1, .no,false),(2, .no,false),(3, .no,false),(4, .no,false),(5, .no,false),(6, .no,false)] kr kr (λi I e=>by cases e) ?_
  repeat' first|simp only[go_sem, *]|apply bc<;>intro a|(refine zA.mono (b _) ?_;rintro r h ⟨F,w,rfl⟩)
 ·rintro fr h' v ⟨y,z,A,j⟩;subst j;exact au
def Re {l:List (List UInt8)} (c:zZ 1 (yV l) d) (v:l.length<=1048576) (s:List UInt8) (g:Heap):zA prog 131 [d, .str s] g λr h'=>h'=g/\IsI r:=by
 refine xP λQ p=> ?_;have e:∀n,Q (.int .i64 n) g:=λn=>p _ _ ⟨rfl,n,rfl⟩;have f:=yQ c;refine xO mix func131 zE0 rfl rfl ?_;simp only[f131,gJ]
 repeat' first|simp only[go_sem, *]|apply bc<;>intro u
 refine zD (λi fr h=>fr 0=d/\fr 1= .str s/\fr 5= .int .i64 (i:Int)/\h=g) l.length ow ?_ ?_ ?_
 ·simp only[go_sem,true_and,and_true,Int.ofNat_zero]
 ·rintro i fr h a j t ⟨k,m,o,b⟩;subst b;have q:=wU c a;generalize l[i]=y at *
  exact au
 ·rintro fr h j ⟨k,m,o,b⟩;subst b;exact au
structure Als where
 l:List Alt
 d:D
structure Als.Ok (a:Als):Prop where
 sl:zZ 1 (zl a.l) a.d
 len:a.l.length<=64
 pl:yj [a.d]
def Wo (l:List Als):List (List D):=l.map λa=>[a.d]
def me (l:List Als):(Wo l).length=l.length:=List.length_map ..
def HP {l:List Als} (h:i<l.length):(Wo l)[i]? =some [l[i].d]:=by simp[Wo,h]
def HQ (l:List Als):∀x∈Wo l,x.length=1:=λx b=>by
 obtain⟨a,_,rfl⟩:=List.mem_map.1 b;rfl
def HR {l:List Als} (a:zZ 1 (Wo l) d) (h:Heap):tu prog 61 d h=some (.int .i64 l.length):=by rw[yc a underlying61,me]
def Cg {l:List Als} (a:zZ 1 (Wo l) d) (b:i<l.length):zR prog 61 d (.int .i64 (i:Int))=some (.iptr [l[i].d] 0):=za a nN lM (HP b)
def HS (d:D) (nid:Nat) (h:Heap) (h1:d.cells= [d]) (a:d.notTuple=true) (h3:d.flat=true):zI prog false nid 61 1 [(0,d)] h=some (.sl 1 [[d]] .full,h):=by
 have:=zz (P:=prog) (nid:=nid) (h:=h) (x:=d) nN Uv lM rfl rfl ow ow a (by rw[h1];rfl);rw[h1] at this;exact this
def Rf (m:Nat) (r:D):Prop:=∃ts os tq oq n,r= .tuple [tq,oq, .int .i64 n]/\Fin 1 (Wo ts) tq/\(∀a∈ts,a.Ok)/\ts.length<=m/\Fin 1 (yV os) oq/\os.length<=m
def Rf.nil (m:Nat) (n:Int):Rf m (.tuple [.nilsl, .nilsl, .int .i64 n]):=⟨[],[], .nilsl, .nilsl,n,rfl, .inl ⟨rfl,rfl⟩,(λa h=>by cases h),by simp, .inl ⟨rfl,rfl⟩,by simp⟩
def cP (g:Heap) (m:Nat) (td od:D) (h:Heap):Prop:=∃ts os,Own2 g h 1 (Wo ts) td 1 (yV os) od/\(∀a∈ts,a.Ok)/\ts.length<=m/\os.length<=m
theorem Kt {D0 x:D} (hc:yy c D0) (hs:c.Sm) (Y:c.ls.length<=40) (P:zZ 12 (nQ fs) x) (hl:fs.length<=260) (M:∀f∈fs,f.Ok) (H:∀f∈fs,f.e.size<=120) (g:Heap):zA prog 69 [D0,x] g λr h'=>h'=g/\Rf fs.length r:=by
 refine xU kr λa6=>xS ?_;refine xP λQ hQ=> ?_;have ag:=Q3 hc hs P ow M;have L:=λi (hi:i<fs.length)=>zGl hc hs Y (M _ (List.getElem_mem hi)).e (H _ (List.getElem_mem hi));have a5:=tU P;have a8:=ou;have a9:=pu;have d:∀n h,Ext g h->Q (.tuple [.nilsl, .nilsl, .int .i64 n]) h:=λn h Z=>hQ _ _ ⟨Z,by simp[zj,zw,below,zf],by simpa [zj,zw] using Rf.nil _ n⟩;have y:∀td od h,cP g fs.length td od h->Q (.tuple [td,od, .int .i64 0]) h:=λtd od h ⟨j,k,u,h1,X,h3⟩=>by
  obtain⟨T,V,f3⟩:=u.a.fin λx P=>by
   obtain⟨a,ha,rfl⟩:=List.mem_map.1 P;exact(h1 a ha).pl
  obtain⟨g1,g2,g3⟩:=u.b.fin qN;exact hQ _ _ ⟨T,by simp[zj,zw,below,zf,V,g2],j,k,zj td,zj od,0,by simp[zj,zw],f3,h1,X,g3,h3⟩
 obtain⟨ca,cb,ce,cp,rfl,_,_,_,_⟩:=hc;have a7:=oY;refine xO mix func69 zIM rfl rfl ?_;simp only[f69,gJ];simp only[go_sem, *];refine(ag _).mono ?_;rintro r h0 ⟨N,n1,n2,rfl⟩;subst N;cases e0:(n2==0) with
 |false=>
  have hn:=d n2 h0 (Ext.refl h0);simp only[go_sem, *]
 |true=>
 have O:cP h0 0 .nilsl .nilsl h0:=⟨[],[],Own2.start (Ext.refl h0) 1 1,(λa h=>by cases h),by simp,by simp⟩;simp only[go_sem, *];refine zD (λi fr h=>fr 1=x/\fr 2= .iptr [ca,cb,ce,cp] 0/\fr 11= .int .i64 (i:Int)/\cP h0 i (fr 9) (fr 10) h) fs.length ow ?_ ?_ ?_
 ·clear d y L;simp only[go_sem,true_and,and_true,Int.ofNat_zero];exact O
 ·clear O;rintro i fr h J ec ew ⟨T,V,U,u⟩;obtain⟨td,W⟩:∃o,fr 9=o:=⟨_,rfl⟩;obtain⟨od,B⟩:∃o,fr 10=o:=⟨_,rfl⟩;rw[W,B] at u;have a1:=qd P J;have A:=L i J;have Z:Ext h0 h:=by obtain⟨_,_,q,_⟩:=u;exact q.a.1
  have d:=λn=>d n h Z;have ai:∀s,zA prog 131 [od, .str s] h λr h'=>h'=h/\IsI r:=λs=>by
   obtain⟨j,k,q,_,_,G⟩:=u;exact Re q.b.isSl ow s h
  generalize fs[i]=f at *
  simp only[Fac.cells,Ex.cells] at a1 A;have a0:cP h0 (i+1) td od h:=by
   obtain⟨j,k,E,F,R,G⟩:=u;exact⟨j,k,E,F,by omega,by omega⟩
  have a4:∀t h',cP h0 (i+1) t od h'->∀s,zA prog 131 [od, .str s] h' λr p=>p=h'/\IsI r:=λt h' ⟨j,k,q,_,_,G⟩ s=>Re q.b.isSl ow s h';have I:∀t h' (K:D->Heap->Prop) (w:HidR K) s,(∃j k,Own2 h0 h' 1 (Wo j) t 1 (yV k) od/\(∀a∈j,a.Ok)/\j.length<=i+1/\k.length<=i)->(∀C p,cP h0 (i+1) t C p->K C p)->K9 (zg prog false h'.next 31 od (.sl 1 [[.str s]] .full) h') K w:=λt h' K w s ⟨j,k,E,F,R,G⟩ hK=>by
   refine E.swap.appH (zs:=yV [s]) yv jh uu ow (by simp[yV]) (by simp[yV]) (by rw[z8,tS];unfold lim;simp[yV];omega) (by rw[z8];unfold lim;simp[yV];omega) λS p v=> ?_;refine hK S p ⟨j,k++ [s],?_,F,R,by simp;omega⟩
   have:yV (k++ [s])=yV k++yV [s]:=by simp[yV]
   rw[this];exact v.swap
  cases k1:(f.kind==1) with
  |true=>
   have k2:(f.kind==2)=false:=by
    have:=beq_iff_eq.1 k1;rw[this];rfl
   simp only[go_sem, *];refine zP Heap.emp [(0, .no,false),(1, .no,false),(2, .no,false),(3, .no,false),(4, .no,false),(5, .no,false),(6, .no,false),(7, .no,false),(8, .no,false),(9, .no,false),(10, .no,false),(11, .no,false)] kr kr (λi ob e=>by cases e) ?_;simp only[go_sem, *];refine(A _).mono ?_;rintro r X ⟨N,q,n,rfl,l,m,hf,ak,ad⟩;subst N;cases n0:(n==0) with
   |false=>
    have hn:=d n;simp only[go_sem, *]
   |true=>
   obtain⟨z1,z2,z3⟩:=zJ hf.isSl;have a2:=λnid h=>HS q nid h z1 z2 z3;obtain⟨j,k,E,F,R,G⟩:=u;simp only[go_sem, *];refine E.appH (zs:=Wo [⟨l,q⟩]) nN Ps lM ow (HQ _) (by simp[Wo]) (by rw[me,Y9];unfold lim;simp[Wo];omega) (by rw[me];unfold lim;simp[Wo];omega) λS h' v=> ?_;have ba:cP h0 (i+1) S od h':=⟨j++ [⟨l,q⟩],k,by
    have:∀z:Als,Wo (j++ [z])=Wo j++Wo [z]:=λz=>by simp[Wo]
    rw[this];exact v,λa ha=>by
    rcases List.mem_append.1 ha with h1|h1
    ·exact F a h1
    ·cases List.mem_singleton.1 h1;exact⟨hf.isSl,ak,pT hf (cO ad)⟩,by simp;omega,by omega⟩
   simp only[go_sem, *]
  |false=>
  cases k2:(f.kind==2) with
  |false=>
   simp only[go_sem, *]
  |true=>
  have a3:=λK w s hK=>I td h K w s (by obtain⟨j,k,E,F,R,G⟩:=u;exact⟨j,k,E,F,by omega,G⟩) hK;simp only[go_sem, *];refine(ai _).mono ?_;rintro r X ⟨N,w,rfl⟩;subst N;cases w0:decide (w<0) with
  |false=>
   simp only[go_sem, *]
  |true=>
   simp only[go_sem, *];refine a3 _ _ _ λC h' v=> ?_;exact au
 ·rintro fr h ec ⟨T,V,U,u⟩;obtain⟨td,W⟩:∃o,fr 9=o:=⟨_,rfl⟩;obtain⟨od,B⟩:∃o,fr 10=o:=⟨_,rfl⟩;rw[W,B] at u;have hf:=y td od h u;exact au
def Ku {l:List Int} (a:zZ 1 (yr l) d) (h:Heap):tu prog 45 d h=some (.int .i64 l.length):=by rw[yc a underlying45,yA]
def Rg {l:List Int} (a:zZ 1 (yr l) d) (b:i<l.length):zR prog 45 d (.int .i64 (i:Int))=some (.iptr [.int .i64 l[i]] 0):=za a yI wY (by simp[yr,b])
def HU (n:Int) (nid:Nat) (h:Heap):zI prog false nid 45 1 [(0, .int .i64 n)] h=some (.sl 1 [[.int .i64 n]] .full,h):=zz (x:= .int .i64 n) yI uf wY rfl rfl ow ow rfl rfl
def OwI (G h:Heap) (d:D) (m:Nat):Prop:=∃l,Own G h 1 (yr l) d/\l.length<=m
def OwI.app {G h:Heap} {m:Nat} {n:Int} {w:HidR K} (e:OwI G h d m) (g:m<=2097152) (c:∀a h',OwI G h' a (m+1)->K a h'):K9 (zg prog false h.next 45 d (.sl 1 [[.int .i64 n]] tk) h) K w:=by
 obtain⟨l,h1,f⟩:=e;refine h1.appH (ys:=yr [n]) yI bj wY ow (by simp[yr]) (by simp[yr]) (by rw[yA,nM];unfold lim;simp[yr];omega) (by rw[yA];unfold lim;simp[yr];omega) λa h' b=> ?_;refine c a h' ⟨l++ [n],?_,by simp;omega⟩
 have:yr (l++ [n])=yr l++yr [n]:=by simp[yr]
 rw[this];exact b
def HV {M x:D} (O:yy c M) (hs:c.Sm) (H:c.ls.length<=40) (hx:zZ 12 (nQ fs) x) (Z:fs.length<=260) (K:∀f∈fs,f.Ok) (B:∀f∈fs,f.e.size<=120) (g:Heap):zA prog 62 [M,x] g λr h'=>h'=g/\∃q n l,r= .tuple [q, .int .i64 n]/\zZ 1 (yr l) q/\l.length<=520:=by
 refine xU kr λP=>xS ?_;refine xP λQ I=> ?_;have C:=Kt O hs H hx Z K B;have k:∀n h,Ext g h->Q (.tuple [.nilsl, .int .i64 n]) h:=λn h X=>I _ _ ⟨X,by simp[zj,zw,below,zf], .nilsl,n,[],by simp[zj,zw], .inl ⟨rfl,rfl⟩,by simp⟩;have a:∀d h,OwI g h d 520->Q (.tuple [d, .int .i64 0]) h:=λd h ⟨l,J,h1⟩=>by
  obtain⟨V,s,W⟩:=J.fin (d9 _);exact I _ _ ⟨V,by simp[zj,zw,below,zf,s],zj d,0,l,by simp[zj,zw],W.isSl,h1⟩
 obtain⟨ca,cb,ce,cp,rfl,Y,_,_,_⟩:=O;have R:=HU;have ad:=wX Y;clear I;refine xO mix func62 zIu rfl rfl ?_;simp only[f62,gJ];simp only[go_sem, *];refine(C _).mono ?_;rintro r h0 ⟨hq,E,os,tq,T,n,rfl,S,b,a2,J,a0⟩;subst hq;clear C;cases e0:(n==0) with
 |false=>
  have hn:=k n h0 (Ext.refl h0);clear k a b;simp only[go_sem, *]
 |true=>
 have v:OwI h0 h0 .nilsl 0:=⟨[],Own.start (Ext.refl h0) 1,by simp⟩;have p:=HR S.isSl;have ai:=yQ J.isSl;clear k;simp only[go_sem, *];refine zD (λi fr h=>fr 2= .iptr [ca,cb,ce,cp] 0/\fr 6=tq/\fr 7=T/\fr 10= .int .i64 (i:Int)/\OwI h0 h (fr 9) i) E.length ow ?_ ?_ ?_
 ·clear a b;simp only[go_sem,true_and,and_true,Int.ofNat_zero];exact v
 ·clear v;rintro i fr h p A U ⟨s,G,z,u,j⟩;obtain⟨o,m⟩:∃o,fr 9=o:=⟨_,rfl⟩;rw[m] at j;have a1:=Cg S.isSl p;have L:=b _ (List.getElem_mem p);have ag:=qj L.sl;generalize E[i]=t at *
  clear a b;simp only[go_sem, *];refine j.app ow λN h' w=> ?_;clear j;exact au
 clear v;rintro fr h A ⟨s,G,z,u,j⟩;obtain⟨o,m⟩:∃o,fr 9=o:=⟨_,rfl⟩;rw[m] at j;have y:OwI h0 h o (E.length+0):=j;clear j;simp only[go_sem, *];refine zD (λi fr h=>fr 2= .iptr [ca,cb,ce,cp] 0/\fr 7=T/\fr 11= .int .i64 (i:Int)/\OwI h0 h (fr 9) (E.length+i)) os.length ow ?_ ?_ ?_
 ·clear a b;simp only[go_sem,true_and,and_true,Int.ofNat_zero,s,z,m];exact y
 ·clear y s G z u m A fr h;rintro i fr h p A U ⟨s,z,F,j⟩;obtain⟨o,m⟩:∃o,fr 9=o:=⟨_,rfl⟩;rw[m] at j;clear a b;simp only[go_sem, *];refine j.app ow λN h' w=> ?_;have ak:OwI h0 h' N (E.length+(i+1)):=w;clear j w;exact au
 ·clear y s G z u m A fr h;rintro fr h A ⟨s,z,F,j⟩;obtain⟨o,m⟩:∃o,fr 9=o:=⟨_,rfl⟩;rw[m] at j;have hf:=a o h (by obtain⟨l,q1,q2⟩:=j;exact⟨l,q1,by omega⟩);clear a b j;exact au
def HW {A x:D} (s:yy c A) (K:c.Sm) (v:c.ls.length<=40) (L:zZ 12 (nQ fs) x) (H:fs.length<=260) (w:∀f∈fs,f.Ok) (p:∀f∈fs,f.e.size<=120) (g:Heap):zA prog 27 [A,x] g λr h'=>h'=g/\∃a b,r= .tuple [.int .i64 a, .int .i64 b]:=by
 refine xP λQ G=> ?_;have y:=HV s K v L H w p;have B:∀a b,Q (.tuple [.int .i64 a, .int .i64 b]) g:=λa b=>G _ _ ⟨rfl,a,b,rfl⟩;obtain⟨ca,cb,ce,cp,rfl,O,_,_,_⟩:=s;refine xO mix func27 zIJ rfl rfl ?_;simp only[f27,gJ]
 repeat' first|simp only[go_sem, *]|apply bc<;>intro s
 refine(y _).mono ?_;rintro r h0 ⟨d,q,n,l,rfl,j,I⟩;subst d;have J:=Ku j
 repeat' first|simp only[go_sem, *]|apply bc<;>intro s
 refine zD (λi fr h=>fr 6=q/\fr 8= .int .i64 (i:Int)/\h=h0) l.length ow ?_ ?_ ?_
 ·simp only[go_sem,true_and,and_true,Int.ofNat_zero]
 ·rintro i fr h k o E ⟨m,u,d⟩;subst d;have C:=Rg j k;generalize l[i]=z at *
  exact au
 rintro fr h o ⟨m,u,d⟩;subst d;have N:=isI
 repeat' first|simp only[go_sem, *]|apply bc<;>intro s
 refine zD (λi fr h'=>fr 6=q/\fr 10= .int .i64 (i:Int)/\h'=h/\IsI (fr 9)) l.length ow ?_ ?_ ?_
 ·simp only[go_sem,true_and,and_true,Int.ofNat_zero,m,isI]
 ·clear m u o fr;rintro i fr h k o E ⟨m,t,d,M,F⟩;subst d;have C:=Rg j k;generalize l[i]=z at *
  exact au
 ·clear m u o fr;rintro fr h o ⟨m,t,d,M,F⟩;subst d;exact au
def Kv {m x:D} (j:yy c m) (p:c.Sm) (s:zZ 12 (nQ fs) x) (t:fs.length<=1048576) (k:∀f∈fs,f.Ok0) (g:Heap):zA prog 9 [m,x] g λr h'=>h'=g/\∃b,r= .bool b/\(b=true->QZ fs/\c.ls.length<=40):=by
 refine xP λQ n=> ?_;have hf:Q (.bool false) g:=n _ _ ⟨rfl,_,rfl,λq=>by cases q⟩;have l:=UO j p s t k;have i:=λ(d:QZ fs/\c.ls.length<=40)=>HW j p d.2 s d.1.1.2 (λf h=>(k f h).ok (d.1.2 f h)) d.1.2;have e:QZ fs/\c.ls.length<=40->∀b,Q (.bool b) g:=λd b=>n _ _ ⟨rfl,b,rfl,λ_=>d⟩;obtain⟨ca,cb,ce,cp,rfl,u,_,_,_⟩:=j;refine xO mix func9 ok9 rfl rfl ?_;simp only[f9,gJ]
 repeat' first|simp only[go_sem, *]|apply bc<;>intro j
 refine(l _).mono ?_;rintro r h ⟨o,b,rfl,d⟩;subst o;cases b with
 |false=>
  repeat' first|simp only[go_sem, *]|apply bc<;>intro j
 |true=>
 have d:=d rfl;have i:=i d;have e:=e d
 repeat' first|simp only[go_sem, *]|apply bc<;>intro j|(refine zA.mono (i _) ?_;rintro r h ⟨o,a,b,rfl⟩)
def zCW (f:Fac) (nid:Nat) (h:Heap):zI prog false nid 29 1 [(0, .agg f.cells)] h=some (.sl 12 [f.cells] .full,h):=zz ZW Jb XA rfl rfl ow ow rfl rfl
def We.sl {ns:List NdI} (h:We ns d):d.flat=true/\∀H,tu prog 35 d H=some (.int .i64 ns.length):=by
 obtain⟨xs,h1,a,_⟩:=h;exact⟨(zJ h1).2.2,λH=>by rw[yc h1 underlying35,a]⟩
def zH6 (c:Cat) (fs:List Fac) (ta oa rd:D) (b:Bool):Prop:=(ta.flat=true/\oa.flat=true/\rd.flat=true)/\((yR c fs≠0/\b=false/\rd= .nilsl)\/(yR c fs=0/\b= !(uV c fs).isEmpty/\((b=true/\rd= .nilsl)\/(b=false/\We ((uF c fs).map Nd.i) rd))))
protected def zCR.b {r:D} (h:zCR c fs r):∃b i g rd,r= .tuple [.agg [.bool b,i,g,rd], .int .i64 (yR c fs)]/\zH6 c fs i g rd b:=by
 rcases h with⟨h0,rfl⟩ | ⟨h0,⟨q,f,rfl⟩ | ⟨h1,rd,d,rfl⟩⟩
 ·exact⟨_,_,_,_,rfl,⟨rfl,rfl,rfl⟩, .inl ⟨h0,rfl,rfl⟩⟩
 ·refine⟨_,_,_,_,by rw[h0],⟨by unfold tsF;split<;>rfl,by unfold owF;split<;>rfl,rfl⟩, .inr ⟨h0,?_, .inl ⟨rfl,rfl⟩⟩⟩;cases e:uV c fs with
  |nil=>rw[e] at f;cases f
  |cons a l=>rfl
 ·exact⟨_,_,_,_,by rw[h0],⟨rfl,rfl,d.sl.1⟩, .inr ⟨h0,by rw[h1];rfl, .inr ⟨rfl,d⟩⟩⟩
def zCX {ca cb ce cp x:D} (j:yy c (.agg [ca,cb,ce,cp])) (k:c.Sm) (l:zZ 12 (nQ fs) x) (i:QZ fs) (a:∀f∈fs,f.Ok) (g:Heap):
  zA prog 19 [.agg [ca,cb,ce,cp],x] g λr h'=>h'=g/\∃b e d rd,r= .tuple [.agg [.bool b,e,d,rd], .int .i64 (yR c fs)]/\zH6 c fs e d rd b:=
 (HC j k l i a (λh=>Nat.le_trans (Wh h) (by decide)) g).mono λr h' q=>⟨q.1,q.2.b⟩
def FR (H:Heap) {c a rd:D} (h1:c.flat=true) (d:a.flat=true) (h3:rd.flat=true) :zQ prog 37 (.ptr n 0) (.agg [.bool b,c,a,rd]) (H.new n (.row [.bool false, .nilsl, .nilsl, .nilsl]))=some (H.new n (.row [.bool b,c,a,rd])):=zh Uw ow rfl rfl (by simp[h1,d,h3];rfl)
def Ch (h:QZ fs) (b:fs.length<=16) (a:gs.Sublist fs):QZ gs:=by
 have:=a.length_le;exact⟨⟨.inl ow,by omega⟩,λf hf=>h.2 f (a.subset hf)⟩
def gi.appI {t e:TypeId} (s:gi h sz xs d) (C:zZ sz ys x) (r:qR P t=some e) (v:j0 P e=true) (u:szT P e=sz) (h0:0<sz) (hr:∀cs,uZ P e cs= .row cs) (f:∀y∈xs,y.length=sz) (o:∀y∈ys,y.length=sz)
  (k:(xs.length+ys.length)*yZ P e<=lim) (m:xs.length+ys.length<=lim):∃a g,zg P true h.next t d x h=some (a,g)/\gi g sz (xs++ys) a/\h.next<=g.next/\(∀i,i<h.next->¬rS d i->g.at' i=h.at' i)/\∀i,rS a i->h.next<=i:=by
 have j:ys≠[]->∀tk,∃a g,zg P true h.next t d (.sl sz ys tk) h=some (a,g)/\gi g sz (xs++ys) a/\h.next<=g.next/\(∀i,i<h.next->¬rS d i->g.at' i=h.at' i)/\∀i,rS a i->h.next<=i:=λc tk=>by
  obtain⟨g,w,q,A⟩:=gi.app (P:=P) (nid:=h.next) (tk:=tk) s r v u h0 hr f o c k m;refine⟨_,_,w, .inr ⟨h.next,rfl,zK _ _ _,by rw[<-q,zF];omega,by simp[c]⟩,by rw[<-q,zF];omega,λi b n=>by rw[zG ow,A i n],λi b=>by cases b;exact Nat.le_refl _⟩
 have mL:ys= []->∀x,(x= .nilsl\/∃tk,x= .sl sz [] tk)->∃a g,zg P true h.next t d x h=some (a,g)/\gi g sz (xs++ys) a/\h.next<=g.next/\(∀i,i<h.next->¬rS d i->g.at' i=h.at' i)/\∀i,rS a i->h.next<=i:=λc z p=>by
  subst c;rw[List.append_nil];have B:zg P true h.next t d z h=qL P true h.next e sz 0 d [] h:=by
   rcases p with rfl| ⟨tk,rfl⟩ <;>simp[zg,r,v,u,Rl]
  rw[B];rcases s with⟨rfl,rfl⟩ | ⟨id,rfl,h1,D,h3⟩
  ·exact⟨.nilsl,h,by simp[qL], .inl ⟨rfl,rfl⟩,Nat.le_refl _,λ_ _ _=>rfl,λi b=>b.elim⟩
  ·have l:xs.flatten.length=xs.length*sz:=qF f;refine⟨.rs h.next sz 0 xs.length,(h.del id).new h.next (.row xs.flatten),?_, .inr ⟨h.next,rfl,zK _ _ _,?_,h3⟩,?_,λi b n=> ?_,λi b=>by cases b;exact Nat.le_refl _⟩
   ·simp only[qL,Bool.true_and,decide_true];rw[ip (by simp only[Bool.and_eq_true,decide_eq_true_eq];simp only[List.length_nil,Nat.add_zero] at k m⊢;exact⟨k,m⟩)];simp only[h1,l,if_true];simp
   ·have:((h.del id).new h.next (.row xs.flatten)).next=h.next+1:=zF (h.del id) _;omega
   ·have:((h.del id).new h.next (.row xs.flatten)).next=h.next+1:=zF (h.del id) _;omega
   ·rw[zG ow,yK λe=>n (by rw[e];rfl)]
 rcases C with⟨rfl,rfl⟩ | ⟨tk,rfl⟩
 ·exact mL rfl _ (.inl rfl)
 ·by_cases c:ys= []
  ·subst c;exact mL rfl _ (.inr ⟨tk,rfl⟩)
  ·exact j c tk
def qm (ns:List NdI):List Int:=ns.flatMap λn=>if(n.var== -1)=true then n.facts else []
def UR {ns:List NdI} (h:i<ns.length):qm (ns.take (i+1))=qm (ns.take i)++if(ns[i].var== -1)=true then ns[i].facts else []:=by
 unfold qm;rw[List.take_succ_eq_append_getElem h,List.flatMap_append];simp
def Kw {ns:List NdI} (i:Nat):(qm (ns.take i)).length<=(qm ns).length:=by
 conv=>rhs;rw[<-List.take_append_drop i ns]
 unfold qm;rw[List.flatMap_append,List.length_append];omega
def We.at {ns:List NdI} (h:We ns d) (b:i<ns.length):∃cs,zR prog 35 d (.int .i64 (i:Int))=some (.iptr cs 0)/\zGk ns[i] cs:=by
 obtain⟨xs,h1,c,h3⟩:=h;obtain⟨cs,a,h5⟩:=h3 i _ (List.getElem?_eq_getElem b);exact⟨cs,za h1 lN bl a,h5⟩
theorem HY {ns:List NdI} (C:We ns d) (hn:ns.length<=1048576) (L:(qm ns).length<=1048576) (h0:qm ns≠[]) (g:Heap):zA prog 15 [d] g λr h'=>h'=g/\r= .sl 1 (yr (tN (qm ns))) .no:=by
 refine xU kr λhh=> ?_;refine xP λQ B=> ?_;have o:=C.sl.2;refine xO mix func15 zHP rfl rfl ?_;simp only[f15,gJ]
 repeat' first|simp only[go_sem, *]|apply bc<;>intro F
 refine zD (λi fr h=>fr 0=d/\fr 6=d/\fr 7= .int .i64 (ns.length:Int)/\fr 8= .int .i64 (i:Int)/\Ext g h/\gi h 1 (yr (qm (ns.take i))) (fr 3)/\∀j,rS (fr 3) j->g.next<=j) ns.length ow ?_ ?_ ?_
 ·simp only[go_sem,true_and,and_true,Int.ofNat_zero];exact⟨Ext.refl g, .inl ⟨rfl,rfl⟩,λj t=>t.elim⟩
 ·rintro i fr h z U ew ⟨V,W,X,Y,m,p,hr⟩;obtain⟨e,u⟩:∃e,fr 3=e:=⟨_,rfl⟩;rw[u] at p hr;obtain⟨cs,a1,A,v,rfl,k1,k2⟩:=C.at z;have s:=UR z;have n:=Kw (ns:=ns) (i+1);have ak:∀a b c e:D,zN true 4 [a,b,c,e] 0=some (.agg [a,b,c,e]):=λa b c e=>zB rfl ow;have K:zQ prog 67 (.ptr h.next 0) (.agg [.int .i64 ns[i].var,A, .int .i64 ns[i].row,v]) (h.new h.next (.row [.int .i64 0, .nilsl, .int .i64 0, .nilsl]))=some (h.new h.next (.row [.int .i64 ns[i].var,A, .int .i64 ns[i].row,v])):=zh bl ow rfl rfl (by simp[(zJ k1).2.2,(zJ k2).2.2];exact⟨rfl,rfl⟩)
  have y:h.next<(h.new h.next (.row [.int .i64 ns[i].var,A, .int .i64 ns[i].row,v])).next:=by rw[zF];omega
  obtain⟨H,E,l,k,ag,ad⟩:∃H,h.new h.next (.row [.int .i64 ns[i].var,A, .int .i64 ns[i].row,v])=H/\Ext g H/\gi H 1 (yr (qm (ns.take i))) e/\H.at' h.next=some (.row [.int .i64 ns[i].var,A, .int .i64 ns[i].row,v])/\h.next<H.next:=⟨_,rfl,m.new m.1 _,p.loc (Nat.le_of_lt y) λi hi=>zG (by have:=(p.row hi).1;omega),zK _ _ _,y⟩;rw[E] at K;clear p;cases N:(ns[i].var== -1) with
  |false=>
   rw[N,iq Bool.false_ne_true,List.append_nil] at s;have R:gi H 1 (yr (qm (ns.take (i+1)))) e:=by rw[s];exact k
   clear s n B C k1 k2 o k m E h0 L
   repeat' first|simp only[go_sem, *]|apply bc<;>intro F
   exact hr
  |true=>
   rw[N,ip rfl] at s;rw[s,List.length_append] at n;obtain⟨O,G,v1,M,v3,v4,T⟩:=k.appI (P:=prog) k2 yI bj wY ow (λcs=>bv underlying3 (cs:=cs)) rL rL (by rw[yA,yA,nM];unfold lim;omega) (by rw[yA,yA];unfold lim;omega);have w:Ext g G:=⟨Nat.le_trans l.1 v3,λj t=>by rw[v4 j (Nat.lt_of_lt_of_le t l.1) (λq=>by have:=hr j q;omega),l.2 j t]⟩;have I:yr (qm (ns.take i))++yr ns[i].facts=yr (qm (ns.take (i+1))):=by rw[s];simp[yr]
   rw[I] at M;have f:Ext g G/\gi G 1 (yr (qm (ns.take (i+1)))) O/\∀j,rS O j->g.next<=j:=⟨w,M,λj t=>Nat.le_trans l.1 (T j t)⟩;have ai:=k.trunc rL;clear s n B C k1 k2 o k m E M v4 T w h0 L hr
   repeat' first|simp only[go_sem, *]|apply bc<;>intro F
   exact f.2.2
 ·rintro fr h U ⟨V,W,X,Y,m,p,hr⟩;obtain⟨e,u⟩:∃e,fr 3=e:=⟨_,rfl⟩;rw[u,List.take_length] at p;rw[u] at hr;rcases p with⟨_,e2⟩ | ⟨id,rfl,r1,r2,_⟩
  ·exact absurd (List.map_eq_nil_iff.1 e2) h0
  rw[nD] at r1;rw[yA] at u;have hid:=hr id rfl;have J:=L6 h0 L r1;have sl:(srt qG (qm ns)).length=(qm ns).length:=(qi _).length_eq;have s0:srt qG (qm ns)≠[]:=λe=>h0 (List.length_eq_zero_iff.1 (by rw[<-sl,e];rfl));have x:=cI s0 ow (zC h id (.row ((srt qG (qm ns)).map (D.int .i64))));rw[sl] at x;have S:=yC (sz:=1) (xs:=yr (tN (qm ns))) nW .no;have f:=B (.sl 1 (yr (tN (qm ns))) .no) ((h.set id (.row ((srt qG (qm ns)).map (D.int .i64)))).del id) ⟨(m.set hid _).del hid,zu (Nat.zero_le _) _ S.2,rfl⟩;clear B o m hr r1 S hid
  repeat' first|simp only[go_sem, *]|apply bc<;>intro F
  refine J.mono ?_;rintro r Z ⟨_,rfl⟩;refine x.mono ?_;rintro r Z ⟨rfl,rfl⟩;exact f
section
variable {c:Cat} {fs:List Fac}
def gp {y:Cho} {v:Vio} (s:v∈sS c fs y):(∃h:Nat,(h:Int)∈v.facts/\qJ fs h=2)/\(∀x∈v.facts,0<=x/\x.toNat<fs.length)/\v.facts.length<=5:=by
 obtain⟨i,h1,t,l,f,e⟩:=nX.1 s;refine⟨?_,λx g=> ?_,?_⟩
 ·have key:∃h∈l,qJ fs h=2:=by
   rcases i with _|_|_|_|_|i
   ·obtain⟨a,b,d,T,_,rfl⟩:=f;exact⟨d,by simp,T.kh⟩
   ·obtain⟨a,b,d,o,T,_,_,rfl⟩:=f;exact⟨d,by simp,T.kh⟩
   ·obtain⟨a,b,d,k,T,_,_,_,rfl⟩:=f;exact⟨d,by simp,T.kh⟩
   ·obtain⟨a,b,d,j,b',m,T,_,_,_,rfl⟩:=f;exact⟨d,by simp,T.kh⟩
   ·obtain⟨a,d,o,_,_,_,k,_,rfl⟩:=f;exact⟨d,by simp,k⟩
   ·obtain⟨_,d,k,rfl⟩:=f;exact⟨d,by simp,k⟩
  obtain⟨h,q,p⟩:=key;exact⟨h,by rw[<-e,nG,mem_map];exact⟨h,q,rfl⟩,p⟩
 ·rw[<-e,nG,mem_map] at g;obtain⟨n,r,rfl⟩:=g;exact⟨by omega,by have:=f.lt n r;simpa using this⟩
 ·rw[<-e];refine le_trans (WR _) ?_;rw[length_map];rcases i with _|_|_|_|_|i
  ·obtain⟨a,b,d,T,_,rfl⟩:=f;simp
  ·obtain⟨a,b,d,o,T,_,_,rfl⟩:=f;simp
  ·obtain⟨a,b,d,k,T,_,_,_,rfl⟩:=f;simp
  ·obtain⟨a,b,d,j,b',m,T,_,_,_,rfl⟩:=f;simp
  ·obtain⟨a,d,o,_,_,_,k,_,rfl⟩:=f;simp
  ·obtain⟨_,d,k,rfl⟩:=f;simp
def Kx {v:Vio} (e:jz c fs p=some v):v∈sS c fs (sT p):=mem_of_mem_head? (by unfold jz at e;exact e)
theorem Rh {P:Nd->Prop} {F:Nat->Nat->List Nd} (n:Nat):∀ {s:Nat},(∀k b,k<s->∀x∈F k b,P x)->∀x∈(wk F s n).2,P x
 |0,h,x,a=>by cases a
 |s+1,h,x,a=>by
  rw[wk] at a;rcases mem_append.1 a with q|q
  ·exact Rh n (λk b c=>h k b ow) x q
  ·exact h s _ ow x q
theorem pU:∀m p n,POk c fs p->∀nd∈uX c fs m p n,(∃v f,nd= ⟨-1,[],some v⟩/\v∈sS c fs (sT f))\/∃ (v:Nat) (ks:List Int),nd= ⟨(v:Int),ks,none⟩
 |0,p,n,a,nd,h=>by
  cases e:jz c fs p with
  |none=>simp[uX,e] at h
  |some v=>rw[(tr e _ _).2,mem_singleton] at h;exact .inl ⟨v,p,h,Kx e⟩
 |m+1,p,n,a,nd,h=>by
  cases e:jz c fs p with
  |some v=>rw[(tr e _ _).2,mem_singleton] at h;exact .inl ⟨v,p,h,Kx e⟩
  |none=>
   cases e2:nxV c fs p with
   |none=>rw[(kJ e e2 _ _).2] at h;cases h
   |some v=>
    simp only[uX,e,e2] at h;rcases mem_cons.1 h with rfl|h
    ·exact .inr ⟨_,_,rfl⟩
    ·exact Rh (n+1) (λk d b=>pU m _ d (a.dec b)) nd h
theorem YS (h0:(zM c fs).2.2=0):∀m p n,POk c fs p->opn c fs p<=m->uE c fs m p= []->∃v,(⟨-1,[],some v⟩:Nd)∈uX c fs m p n
 |0,p,n,f,j,a=>by
  cases e:jz c fs p with
  |none=>simp[uE,e] at a
  |some v=>exact⟨v,by rw[(tr e _ _).2];exact mem_cons_self⟩
 |m+1,p,n,f,j,a=>by
  cases e:jz c fs p with
  |some v=>exact⟨v,by rw[(tr e _ _).2];exact mem_cons_self⟩
  |none=>
   cases e2:nxV c fs p with
   |none=>rw[(kJ e e2 _ 0).1] at a;cases a
   |some v=>
    obtain⟨l,d,_⟩:=re e2;have b:0<szV c fs v:=by simp only[wu,Bool.and_eq_true,decide_eq_true_eq] at d;omega
    have g:uE c fs m (tp c fs p v 0)= []:=by
     simp only[uE,e,e2,Option.isSome,Bool.false_eq_true,if_false] at a;exact flatMap_eq_nil_iff.1 a 0 (mem_range.2 b)
    obtain⟨h,i⟩:=YP (F:=λk h=>uX c fs m (tp c fs p v k) h) (n+1) b;obtain⟨w,h1⟩:=YS h0 m _ h (f.dec b) (by have:=cK f h0 e2 b;omega) g;refine⟨w,?_⟩;simp only[uX,e,e2];exact mem_cons_of_mem _ (i _ h1)
def YT:opn c fs (sU c fs)<=ctV c fs:=by
 unfold opn;exact le_trans (length_filter_le _ _) (by simp)
def US {v:Vio} (h:(⟨-1,[],some v⟩:Nd)∈uF c fs) {x:Int} (a:x∈v.facts):x∈qm ((uF c fs).map Nd.i):=mem_flatMap.2 ⟨_,mem_map.2 ⟨_,h,rfl⟩,a⟩
def Ri:∀x∈qm ((uF c fs).map Nd.i),0<=x/\x.toNat<fs.length:=λx a=>by
 obtain⟨n,d,a⟩:=mem_flatMap.1 a;obtain⟨nd,b,rfl⟩:=mem_map.1 d;rcases pU _ _ _ (qf c fs _) nd b with⟨v,f,rfl,e⟩ | ⟨v,ks,rfl⟩
 ·exact(gp e).2.1 x a
 ·have:(((v:Int)== -1):Bool)=false:=by rw[beq_eq_false_iff_ne];omega
  simp only[Nd.i,this] at a;cases a
theorem FS {f:α->List β} :∀ {l:List α},(∀x∈l,(f x).length<=k)->(l.flatMap f).length<=k*l.length
 | [],_=>zero_le _
 |x::l,h=>by
  rw[flatMap_cons,length_append,length_cons,Nat.mul_succ];have h1:=h x mem_cons_self;have b:=FS (l:=l) λz a=>h z (mem_cons_of_mem _ a);omega
def Ky:(qm ((uF c fs).map Nd.i)).length<=5*(uF c fs).length:=by
 have:=FS (f:=λn:NdI=>if(n.var== -1)=true then n.facts else []) (k:=5) (l:=(uF c fs).map Nd.i) λn b=>by
  obtain⟨nd,a,rfl⟩:=mem_map.1 b;rcases pU _ _ _ (qf c fs _) nd a with⟨v,e,rfl,d⟩ | ⟨v,ks,rfl⟩
  ·exact(gp d).2.2
  ·split
   ·exact zero_le _
   ·exact zero_le _
 rwa [length_map] at this
def cQ (c:Cat) (fs:List Fac):List Nat:=(tN (qm ((uF c fs).map Nd.i))).map Int.toNat
def YU:tN (qm ((uF c fs).map Nd.i))=(cQ c fs).map λn:Nat=>(n:Int):=by
 unfold cQ;rw[map_map]
 conv=>lhs;rw[<-map_id (tN _)]
 refine map_congr_left λx a=> ?_;have:=(Ri x (nG.1 a)).1;show x=((x.toNat:Nat):Int);omega
def YW {x:Nat} :x∈cQ c fs↔(x:Int)∈qm ((uF c fs).map Nd.i):=by
 rw[<-nG,YU,mem_map];constructor
 ·exact λh=>⟨x,h,rfl⟩
 ·rintro⟨z,a,e⟩
  have:z=x:=ow
  rwa [<-this]
def Kz:InI fs (cQ c fs) where
 lt:=λi hi=>by have:=(Ri _ (YW.1 hi)).2;simpa using this
 inc:=by
  have h:=KQ (qm ((uF c fs).map Nd.i));rw[YU,pairwise_map] at h;exact h.imp λ{a b} q=>by have:=CP.1 q;omega
def Ci (h:yR c fs=0) (d:uV c fs= []):qm ((uF c fs).map Nd.i)≠[]:=by
 obtain⟨v,b⟩:=YS (nY h) _ _ 0 (qf c fs _) YT d;rcases pU _ _ _ (qf c fs _) _ b with⟨g,j,e,a⟩ | ⟨g,ks,e⟩
 ·cases e;obtain⟨⟨x,f,_⟩,_,_⟩:=gp a;exact ne_nil_of_mem (US b f)
 ·cases e
def HZ (h:yR c fs=0) (w:uV c fs= []):uV c (zq fs (cQ c fs))= []:=by
 have h0:=nY h;have a:=Kz (c:=c) (fs:=fs);have o:=Rb h0 a.sub;refine Classical.byContradiction λg=> ?_;obtain⟨p,A,r⟩:=(Kg o).1 g;by_cases t:yz fs []≠[]->c.ls.length≠0
 ·obtain⟨q,i,e⟩:=HF h0 t a A o;obtain⟨v,h1,y⟩:=cN h0 i _ _ 0 (qf c fs _) (cL i _ (le_refl _)) YT w;have:=HD (i.whole h0) a y λx l=>YW.2 (US h1 l);rw[e] at this;exact this r
 ·have f:c.ls.length=0:=Classical.byContradiction λq=>t λ_=>q;obtain⟨v,u⟩:=YS h0 _ _ 0 (qf c fs _) YT w;rcases pU _ _ _ (qf c fs _) _ u with⟨B,C,e,k⟩ | ⟨B,ks,e⟩
  ·cases e;obtain⟨⟨x,l,z⟩,_,_⟩:=gp k;have m:x∈cQ c fs:=YW.2 (US u l);obtain⟨j,s,rfl⟩:=mem_iff_getElem.1 m;have b:j<(zq fs (cQ c fs)).length:=by rw[wB a.lt];exact s
   have d:qJ (zq fs (cQ c fs)) j=2:=by
    rw[a.emb.kind b,getD_eq_getElem?_getD,getElem?_eq_getElem s];exact z
   have:(⟨5,tN ([j].map λn:Nat=>(n:Int))⟩:Vio)∈sS c (zq fs (cQ c fs)) (sT p):=nX.2 ⟨5,by omega,rfl,[j],⟨f,j,d,rfl⟩,rfl⟩;rw[r] at this;cases this
  ·cases e
end
def K0 (I:List Nat) (i:Nat):Int:=if i=0 then -1 else(I.getD (i-1) 0:Int)
variable {c:Cat}{fs:List Fac}
def UT (h:yR c fs=0) (a:QZ fs):fs.length<=16:=by
 have:=(tP.1 (YO (nY h)).1).2.1;have:=a.1.1;omega
theorem Wp (o:yy c d) (hs:c.Sm) (W:zZ 12 (nQ fs) x) (hl:fs.length<=1048576) (E:∀f∈fs,f.Ok0) (g:Heap):zA prog 5 [d,x] g λr _=>r= .bool true:=by
 refine xP λQ hQ=> ?_;have hT:∀h,Q (.bool true) h:=λh=>hQ _ _ rfl;have N:=gB;have P:=Kv o hs W hl E;have ak:=tU W;obtain⟨ca,cb,ce,cp,rfl,_,_,_,_⟩:=id o;clear hQ;refine xO mix func5 ok5 rfl rfl ?_;simp only[f5,gJ]
 repeat' first|simp only[go_sem, *]|apply bc<;>intro o|(refine zA.mono (N _) ?_;rintro r h ⟨rfl,w⟩)
 refine(P _).mono ?_;rintro r h ⟨w,b,rfl,v⟩;subst w;clear N P;cases b with
 |false=>
  clear v
  repeat' first|simp only[go_sem, *]|apply bc<;>intro o
 |true=>
 have v:=(v rfl).1;have t:∀f∈fs,f.Ok:=λf hf=>(E f hf).ok (v.2 f hf);have R:=zCX o hs W v t
 repeat' first|simp only[go_sem, *]|apply bc<;>intro o
 refine(R _).mono ?_;rintro r h ⟨w,b,ta,oa,rd,rfl,⟨x1,x2,x3⟩,hb⟩;subst w;have a4:=FR h x1 x2 x3 (b:=b) (n:=h.next);obtain⟨G,hG,r1,hE⟩:∃G,h.new h.next (.row [.bool b,ta,oa,rd])=G/\G.at' h.next=some (.row [.bool b,ta,oa,rd])/\Ext h G:=⟨_,rfl,zK _ _ _,(Ext.refl h).new (Nat.le_refl _) _⟩;rw[hG] at a4;have a8:∀H,tu prog 35 .nilsl H=some (.int .i64 0):=λH=>yc (zZ.nil (sz:=4)) underlying35;clear R;rcases hb with⟨h0,rfl,rfl⟩ | ⟨h0,u,⟨rfl,rfl⟩ | ⟨rfl,hR⟩⟩
 ·have e0:(!(yR c fs==0))=true:=by simpa using h0
  clear h0;exact au
 ·rw[h0] at *
  clear u;exact au
 have hw:uV c fs= []:=by
  cases e:uV c fs with
  |nil=>rfl
  |cons a l=>rw[e] at u;cases u
 have L:=UT h0 v;have A:=Kz (c:=c) (fs:=fs);have ag:=Ky (c:=c) (fs:=fs);have a2:=Wh h0;have C:=HY hR (by rw[List.length_map];omega) ow (Ci h0 hw);rw[YU] at C;have m:=A.sub;have k1:=CY h0 m;have k2:=HZ h0 hw;rw[h0] at *
 have O:(cQ c fs).length<=16:=by have:=m.length_le;rw[wB A.lt] at this;omega
 clear u hR ag a2 hw;generalize cQ c fs=I at *
 have ai:∀H,tu prog 45 (.sl 1 (yr (I.map λn:Nat=>(n:Int))) .no) H=some (.int .i64 (I.length:Int)):=λH=>by rw[yc (zZ.mk .no) underlying45,yA,List.length_map]
 repeat' first|simp only[go_sem, *]|apply bc<;>intro o|(refine zA.mono (C _) ?_;rintro r h ⟨w,rfl⟩)
 subst w;clear C
 rename Heap=>G
 refine zD (λi fr h'=>fr 1=x/\fr 2= .iptr [ca,cb,ce,cp] 0/\fr 5= .ptr h.next 0/\fr 37= .sl 1 (yr (I.map λn:Nat=>(n:Int))) .no/\fr 38= .int .i64 (I.length:Int)/\fr 39= .int .i64 (i:Int)/\fr 8= .int .i64 (K0 I i)/\Own G h' 12 (nQ (zq fs (I.take i))) (fr 7)) I.length ow ?_ ?_ ?_
 ·clear k1 k2;simp only[go_sem,true_and,and_true,Int.ofNat_zero];exact⟨rfl,Own.start (Ext.refl G) 12⟩
 ·clear k1 k2 hT;rintro i fr h' s ec ew ⟨f1,f2,f5,X,Y,Z,f8,D⟩;obtain⟨e,f7⟩:∃d,fr 7=d:=⟨_,rfl⟩;rw[f7] at D;have hi:=A.lt _ (List.getElem_mem s);have a1:=qd W hi;have a0:zR prog 45 (.sl 1 (yr (I.map λn:Nat=>(n:Int))) .no) (.int .i64 (i:Int))=some (.iptr [.int .i64 ((I[i]:Nat):Int)] 0):=za (sz:=1) (zZ.mk .no) yI wY (by simp[yr,s]);have c1:decide (((I[i]:Nat):Int)<=K0 I i)=false:=by
   refine decide_eq_false ?_;unfold K0;split
   ·omega
   ·rename_i q;have hj:i-1<I.length:=ow;rw[List.getD_eq_getElem?_getD,List.getElem?_eq_getElem hj];have:=List.pairwise_iff_getElem.1 A.inc (i-1) i hj s ow;simp only[Option.getD_some];omega
  have c2:decide (((I[i]:Nat):Int)>=(fs.length:Int))=false:=decide_eq_false ow;have a9:K0 I (i+1)=((I[i]:Nat):Int):=by
   unfold K0;rw[iq ow,Nat.add_sub_cancel,List.getD_eq_getElem?_getD,List.getElem?_eq_getElem s];rfl
  have a7:=ou;have p:nQ (zq fs (I.take (i+1)))=nQ (zq fs (I.take i))++ [(fs[I[i]]).cells]:=by
   rw[List.take_succ_eq_append_getElem s,aY,Qw hi];unfold nQ;rw[List.map_append];rfl
  have a6:(zq fs (I.take i)).length<=16:=by
   rw[wB λz hz=>A.lt z (List.mem_of_mem_take hz),List.length_take];omega
  have M:=zCW fs[I[i]];have j:(fs[I[i]]).cells= [.int .i64 (fs[I[i]]).kind, .str (fs[I[i]]).comp, .str (fs[I[i]]).out, .int .i64 (fs[I[i]]).rel, .int .i64 (fs[I[i]]).way, .int .i64 (fs[I[i]]).duty, .bool (fs[I[i]]).chg, .int .i64 (fs[I[i]]).e.kind, .str (fs[I[i]]).e.name, .str (fs[I[i]]).e.exc,(fs[I[i]]).e.d,(fs[I[i]]).d]:=rfl;rw[j] at a1 M p;clear j A m O;generalize fs[I[i]]=F at *
  generalize I[i]=k at *
  repeat' first|simp only[go_sem, *]|apply bc<;>intro o
  refine D.appH (ys:=[_]) ZW EA XA ow (λy hy=>by rw[List.mem_singleton.1 hy];rfl) (by simp) (by rw[mW,Pw];unfold lim;simp;omega) (by rw[mW];unfold lim;simp;omega) λd' K a3=> ?_;rw[<-p] at a3;clear D M p a1 c1 c2;exact au
 ·rintro fr h' ec ⟨f1,f2,f5,X,Y,Z,f8,D⟩;obtain⟨e,f7⟩:∃d,fr 7=d:=⟨_,rfl⟩;rw[f7,List.take_length] at D;have J:=zCX o hs D.isSl (Ch v L m) λf hf=>t f (m.subset hf);rw[k1] at J;clear D o hl E ak v t L A m ai O
  repeat' first|simp only[go_sem, *]|apply bc<;>intro o
  refine(J _).mono ?_;rintro r K ⟨w,V,U,S,T,rfl,⟨y1,y2,y3⟩,B⟩;subst w;have a5:=FR K y1 y2 y3 (b:=V) (n:=K.next);obtain⟨G2,ad,r2⟩:∃G,K.new K.next (.row [.bool V,U,S,T])=G/\G.at' K.next=some (.row [.bool V,U,S,T]):=⟨_,rfl,zK _ _ _⟩;rw[ad] at a5;have B:V=false:=by
   rcases B with⟨q,_⟩ | ⟨_,q,_⟩
   ·exact absurd k1 q
   ·rw[q,k2];rfl
  subst B;clear J k1 k2;exact au
end Go.V
