/- Contracts of functions that the law reaches, part 2. No condition. -/
import Derived.Test.YthcjhnmnhfgdiaaGreatDoorW41
import Derived.Test.YthcjhnmnhfgdiaaGreatDoorW27
set_option linter.all false
set_option maxHeartbeats 8000000
namespace Go.V
open Go.Proofs.Tryz
open Go.Proofs
set_option maxRecDepth 100000
def Qf:∀ (n:Nat) {e:Ex},e.size<=n->e.Ok->e.size<=1048576->∀g:Heap,zA prog 61 [.agg e.cells] g λr h'=>h'=g/\r= .int .i64 (e.size:Int):=by
 intro n
 induction n with
 |zero=>intro e h;cases e;simp only[Ex.size] at h;omega
 |succ n y=>
 intro e H f o g;obtain⟨k,z,x,l,d⟩:=e;simp only[Ex.size,Ex.Ok] at H f o;obtain⟨u,L,_,_,j⟩:=f;have v:=uL u;have E:(Ex.mk k z x l d).size=zg l+1:=by simp only[Ex.size]
 rw[E];refine xO mix func61 zIK rfl rfl ?_;simp only[f61,gJ];simp only[Ex.cells,Ex.kind,Ex.name,Ex.exc,Ex.d]
 repeat' first|simp only[go_sem, *]|apply bc<;>intro F
 refine zD (λi fr h=>fr 1= .iptr [.int .i64 k, .str z, .str x,d] 0/\fr 4= .int .i64 (i:Int)/\fr 3= .int .i64 ((zg (l.take i)+1:Nat):Int)/\h=g) l.length ow ?_ ?_ ?_
 ·have J:zg (l.take 0)+1=1:=by simp[zg]
  simp only[go_sem,true_and,and_true,Int.ofNat_zero,J];rfl
 ·rintro i fr h c B K ⟨C,D,q,rfl⟩;have A:=rv u c;have m:l[i]∈l:=List.getElem_mem c;have w:=y (e:=l[i]) (by have:=yg m;omega) (uK j _ m) (by have:=yg m;omega);have p:zg (l.take (i+1))=zg (l.take i)+l[i].size:=by rw[List.take_succ_eq_append_getElem c,nF]
  have G:zg (l.take (i+1))<=zg l:=by
   have:=List.take_append_drop (i+1) l;have key:∀a b:List Ex,zg a<=zg (a++b):=λa b=>by
    induction a with
    |nil=>simp[zg]
    |cons x a y=>simp only[List.cons_append,zg];omega
   have s:=key (l.take (i+1)) (l.drop (i+1));rw[this] at s;exact s
  have t:IntKind.i64.wrap (((zg (l.take i)+1:Nat):Int)+(l[i].size:Int))=((zg (l.take (i+1))+1:Nat):Int):=by rw[p,zp ow ow];omega
  simp only[Ex.cells] at A w
  repeat' first|simp only[go_sem, *]|apply bc<;>intro F|(refine zA.mono (w _) ?_;rintro r h ⟨I,rfl⟩)
 ·rintro fr h B ⟨C,D,q,rfl⟩;rw[List.take_length] at q;exact au
variable {c:Cat}{d x:D}{fs gs:List Fac}{i sz n:Nat}{tk:Tk}{K:D->Heap->Prop}{xs:List (List D)}{ts:List Trm}{e:Ex}{b:Bool}
def V7 (l:yw c d) (H:c.Sm) (C:za 12 (p0 fs) x) (N:fs.length<=1048576) (s:∀f∈fs,f.Ok0) (g:Heap):zA prog 26 [d,x] g λr h'=>h'=g/\∃b,r= .bool b/\(b=true->Qk fs/\c.ls.length<=40):=by
 refine xP λQ E=> ?_;have hf:Q (.bool false) g:=E _ _ ⟨rfl,_,rfl,λq=>by cases q⟩;have k:Qk fs/\c.ls.length<=40->∀b,Q (.bool b) g:=λR b=>E _ _ ⟨rfl,b,rfl,λ_=>R⟩;have O:=tO C;have B:=M9 l H C N s;have p:=H.cs;obtain⟨ca,cb,ce,cp,rfl,_,_,F,_⟩:=l;have L:=pZ;have T:=pW F;have U:=p.1;have S:=isI;refine xO mix func26 zIO rfl rfl ?_;simp only[f26,gJ]
 repeat' first|simp only[go_sem, *]|apply bc<;>intro l
 refine(B _).mono ?_;rintro r h ⟨j,b,rfl,M⟩;subst j;cases b with
 |false=>
  repeat' first|simp only[go_sem, *]|apply bc<;>intro l
 |true=>
 have v:=M rfl;have k:=k v;have v:=v.1
 repeat' first|simp only[go_sem, *]|apply bc<;>intro l
 refine zD (λi fr h'=>fr 1=x/\fr 2= .iptr [ca,cb,ce,cp] 0/\fr 7= .int .i64 (i:Int)/\IsI (fr 5)/\IsI (fr 6)/\h'=h) c.cs.length ow ?_ ?_ ?_
 ·simp only[go_sem,true_and,and_true,Int.ofNat_zero,isI]
 ·rintro i fr h a z I ⟨m,A,J,⟨t,n⟩,⟨u,o⟩,j⟩;subst j;have w:=oR F a;have o1:=yQ (p.2 _ (List.getElem_mem a)).1;generalize c.cs[i]=y at *
  simp only[Cla.cells] at w;exact au
 rintro fr h z ⟨m,A,J,⟨t,n⟩,⟨u,o⟩,j⟩;subst j
 repeat' first|simp only[go_sem, *]|apply bc<;>intro l
 refine zD (λi fr h'=>fr 1=x/\fr 8= .int .i64 (i:Int)/\IsI (fr 5)/\IsI (fr 6)/\h'=h) fs.length ow ?_ ?_ ?_
 ·simp only[go_sem,true_and,and_true,Int.ofNat_zero,isI,m,n,o]
 ·clear m A n o t u;rintro i fr h a z I ⟨m,K,⟨t,n⟩,⟨u,o⟩,j⟩;subst j;have w:=qZ C a;have G:=List.getElem_mem a;have D:=Qf _ (Nat.le_refl _) (s _ G).e (by have:=v.2 _ G;omega);generalize fs[i]=f at *
  simp only[Fac.cells] at w;simp only[Ex.cells] at D
  repeat' first|simp only[go_sem, *]|apply bc<;>intro l|(refine zA.mono (D _) ?_;rintro r h ⟨P,rfl⟩)
 ·clear m A n o t u;rintro fr h z ⟨m,K,⟨t,n⟩,⟨u,o⟩,j⟩;subst j;exact au
def WO (x y:Trm) (g:Heap):zA prog 389 [.agg x.cells, .agg y.cells] g λr h'=>h'=g/\∃b,r= .bool b:=by
 refine xP λQ c=> ?_;have a:∀b,Q (.bool b) g:=λb=>c _ _ ⟨rfl,b,rfl⟩;refine xO mix func389 zFq rfl rfl ?_;simp only[f389,gJ];simp only[Trm.cells];exact au
def Iq (x:Trm) (nid:Nat) (h:Heap):zI prog false nid 127 1 [(0, .agg [.str x.a, .str x.b])] h=some (.sl 2 [[.str x.a, .str x.b]] .full,h):=zy fV qy yz rfl rfl ow ow rfl rfl
def WP {l:List Trm} (a:za 2 (yX l) d) (h:Heap):sD prog 127 d h=some (.int .i64 l.length):=by rw[yo a underlying127,yS]
def RH {l:List Trm} (a:za 2 (yX l) d) (b:i<l.length):zT prog 127 d (.int .i64 (i:Int))=some (.iptr l[i].cells 0):=zd a fV yz (gU b)
def OwT (G h:Heap) (d:D) (m:Nat):Prop:=∃ts,Own G h 2 (yX ts) d/\ts.length<=m
def aO (l:List Trm):∀x∈yX l,yi x:=λx a=>by
 obtain⟨y,_,rfl⟩:=List.mem_map.1 a;exact⟨rfl,by simp[Trm.cells,zf,below],by simp[Trm.cells,zt,zh]⟩
def OwT.app {G h:Heap} {m:Nat} {x:Trm} {w:HidR K} (i:OwT G h d m) (k:m<=1048576) (g:∀c h',OwT G h' c (m+1)->K c h'):Km (zw prog false h.next 127 d (.sl 2 [[.str x.a, .str x.b]] tk) h) K w:=by
 obtain⟨f,h1,j⟩:=i;refine h1.appH (ys:=yX [x]) fV gM yz ow (uE _) (by simp[yX]) (by rw[yS,rt];unfold lim;simp[yX];omega) (by rw[yS];unfold lim;simp[yX];omega) λc h' e=> ?_;refine g c h' ⟨f++ [x],?_,by simp;omega⟩
 have:yX (f++ [x])=yX f++yX [x]:=by simp[yX]
 rw[this];exact e
def OwT.fin {G h:Heap} {m:Nat} (g:OwT G h d m):Ext G h/\below G.next (zh d)/\∃a,Fin 2 (yX a) (zh d)/\a.length<=m:=by
 obtain⟨a,h1,f⟩:=g;obtain⟨b,c,e⟩:=h1.fin (aO _);exact⟨b,c,a,e,f⟩
def zBz {l:List Trm} (E:za 2 (yX l) d) (Y:l.length<=65536) (t:Trm) (g:Heap):zA prog 387 [d, .agg t.cells] g λr h'=>h'=g/\∃p,Fin 2 (yX p) r/\p.length<=l.length+1:=by
 refine xU kr λT=>xS ?_;refine xP λQ R=> ?_;have F:=WP E;have s:=WO;have G:=Iq;have f:∀d h,OwT g h d (l.length+1)->Q d h:=λd h j=>by
  obtain⟨K,L,p,v,M⟩:=j.fin;exact R _ _ ⟨K,L,p,v,M⟩
 have S:=Xa;simp only[Trm.cells] at s⊢;refine xO mix func387 zE5 rfl rfl ?_;simp only[f387,gJ];simp only[go_sem, *];refine zD (λi fr h=>fr 0=d/\fr 3= .iptr [.str t.a, .str t.b] 0/\fr 7= .int .i64 (i:Int)/\∃b:Bool,fr 6= .bool b/\OwT g h (fr 5) (i+b.toNat)) l.length ow ?_ ?_ ?_
 ·have A:OwT g g .nilsl (0+false.toNat):=⟨[],Own.start (Ext.refl g) 2,by simp⟩;simp only[go_sem,true_and,and_true,Int.ofNat_zero];exact⟨false,rfl,A⟩
 ·rintro i fr h y I X ⟨J,v,O,b,N,j⟩;obtain⟨o,w⟩:∃o,fr 5=o:=⟨_,rfl⟩;rw[w] at j;have H:=RH E y;generalize l[i]=x at *
  simp only[Trm.cells] at H;simp only[go_sem, *];refine zP Heap.emp [(4, .no,false),(0, .no,false),(1, .no,false),(2, .no,false),(3, .no,false),(5, .no,false)] kr kr (λi C e=>by cases e) ?_;cases b with
  |true=>
   simp only[Bool.toNat_true] at j;cases B:(x.a==t.a&&x.b==t.b) with
   |_=>
    simp only[go_sem, *];refine zP Heap.emp [(0, .no,false),(1, .no,false),(2, .no,false),(3, .no,false),(4, .no,false),(5, .no,false),(6, .no,false),(7, .no,false),(8, .no,false),(9, .no,false)] kr kr (λi C e=>by cases e) ?_;simp only[go_sem, *];refine j.app ow λu h' c=> ?_;simp only[go_sem, *];exact⟨true,rfl,by simpa using c⟩
  |false=>
   simp only[Bool.toNat_false,Nat.add_zero] at j;have k:∀ {h d},OwT g h d (i+1)->∃b:Bool,(D.bool true)= .bool b/\OwT g h d (i+1+b.toNat):=λ⟨p,V,Z⟩=>⟨true,rfl,p,V,by simp;omega⟩;have m:∀ {h d},OwT g h d (i+1+1)->∃b:Bool,(D.bool true)= .bool b/\OwT g h d (i+1+b.toNat):=λq=>⟨true,rfl,q⟩;have n:∀ {h d},OwT g h d (i+1)->∃b:Bool,(D.bool false)= .bool b/\OwT g h d (i+1+b.toNat):=λq=>⟨false,rfl,q⟩;cases B:(x.a==t.a&&x.b==t.b) with
   |true=>
    simp only[go_sem, *];refine zP Heap.emp [(0, .no,false),(1, .no,false),(2, .no,false),(3, .no,false),(4, .no,false),(5, .no,false),(6, .no,false),(7, .no,false),(8, .no,false),(9, .no,false)] kr kr (λi C e=>by cases e) ?_;simp only[go_sem, *];refine j.app ow λu h' c=> ?_;have k:=k c;simp only[go_sem, *]
   |false=>
    simp only[go_sem, *];refine zP Heap.emp [(0, .no,false),(1, .no,false),(2, .no,false),(3, .no,false),(4, .no,false),(5, .no,false),(6, .no,false),(7, .no,false),(8, .no,false),(9, .no,false)] kr kr (λi C e=>by cases e) ?_;simp only[go_sem, *];refine(s _ _ _).mono ?_;rintro r P ⟨U,b,rfl⟩;subst U;cases b with
    |true=>
     simp only[go_sem, *];refine j.app ow λu h' c=> ?_;simp only[go_sem, *];refine c.app ow λW P z=> ?_;have m:=m z;simp only[go_sem, *]
    |false=>
     simp only[go_sem, *];refine j.app ow λu h' c=> ?_;have n:=n c;exact au
 ·rintro fr h I ⟨J,v,O,b,N,j⟩;obtain⟨o,w⟩:∃o,fr 5=o:=⟨_,rfl⟩;rw[w] at j;cases b with
  |true=>
   have f:=f _ _ j;simp only[go_sem, *]
  |false=>
   simp only[Bool.toNat_false,Nat.add_zero] at j;simp only[go_sem, *];refine j.app ow λu h' c=> ?_;have f:=f _ _ c;exact au
def KW {a b:List Trm} {d e:D} (E:za 2 (yX a) d) (F:za 2 (yX b) e) (N:a.length+b.length<=65536) (g:Heap):zA prog 336 [d,e] g λr h'=>h'=g/\∃c,Fin 2 (yX c) r/\c.length<=a.length+b.length:=by
 refine xP λQ K=> ?_;have L:=yv E;have M:=yv F;have k:=λ(c:List Trm) (d:D) h1 A t h=>zBz (l:=c) (d:=d) h1 A t h;simp only[Trm.cells] at k;refine xO mix func336 zD1 rfl rfl ?_;simp only[f336,gJ];simp only[go_sem, *];refine zD (λi fr h=>fr 0=d/\fr 1=e/\fr 6= .int .i64 (i:Int)/\h=g/\∃c,Fin 2 (yX c) (fr 5)/\c.length<=i) a.length ow ?_ ?_ ?_
 ·have s:∃c,Fin 2 (yX c) .nilsl/\c.length<=0:=⟨[], .inl ⟨rfl,rfl⟩,by simp⟩;simp only[go_sem,true_and,and_true,Int.ofNat_zero];exact s
 ·rintro i fr h p z G ⟨H,v,I,j,c,f,w⟩;subst j;obtain⟨o,m⟩:∃o,fr 5=o:=⟨_,rfl⟩;rw[m] at f;have y:=ua E p;have B:=k c o f.isSl ow a[i] h;generalize a[i]=x at *
  simp only[Trm.cells] at y;simp only[go_sem, *];refine B.mono ?_;rintro r A ⟨j,u,q,C⟩;subst j;have n:∃c,Fin 2 (yX c) r/\c.length<=i+1:=⟨u,q,by omega⟩;exact au
 rintro fr h z ⟨H,v,I,j,c,f,w⟩;subst j;obtain⟨o,m⟩:∃o,fr 5=o:=⟨_,rfl⟩;rw[m] at f;have s:∃c,Fin 2 (yX c) o/\c.length<=a.length+0:=⟨c,f,by omega⟩;simp only[go_sem, *];refine zD (λi fr h'=>fr 1=e/\fr 7= .int .i64 (i:Int)/\h'=h/\∃c,Fin 2 (yX c) (fr 5)/\c.length<=a.length+i) b.length ow ?_ ?_ ?_
 ·clear k;simp only[go_sem,true_and,and_true,Int.ofNat_zero,v,m];exact s
 ·rintro i fr h p z G ⟨v,J,j,c,f,w⟩;subst j;obtain⟨o,m⟩:∃o,fr 5=o:=⟨_,rfl⟩;rw[m] at f;have y:=ua F p;have B:=k c o f.isSl ow b[i] h;generalize b[i]=x at *
  simp only[Trm.cells] at y;simp only[go_sem, *];refine B.mono ?_;rintro r A ⟨j,u,q,C⟩;subst j;have n:∃c,Fin 2 (yX c) r/\c.length<=a.length+(i+1):=⟨u,q,by omega⟩;exact au
 ·rintro fr h z ⟨v,J,j,c,f,w⟩;subst j;obtain⟨o,m⟩:∃o,fr 5=o:=⟨_,rfl⟩;rw[m] at f;have n:=K o h ⟨rfl,c,f,w⟩;exact au
def zB0 {l:List Trm} (j:za 2 (yX l) d) (z:l.length<=1048576) (t:Trm) (g:Heap):zA prog 388 [d, .agg t.cells] g λr h'=>h'=g/\∃b,r= .bool b:=by
 refine xP λQ u=> ?_;have m:=WP j;have k:∀b,Q (.bool b) g:=λb=>u _ _ ⟨rfl,b,rfl⟩;have w:=Xa;simp only[Trm.cells];refine xO mix func388 zFT rfl rfl ?_;simp only[f388,gJ]
 repeat' first|simp only[go_sem, *]|apply bc<;>intro v
 refine zD (λi fr h=>fr 0=d/\fr 3= .iptr [.str t.a, .str t.b] 0/\fr 5= .int .i64 (i:Int)/\h=g) l.length ow ?_ ?_ ?_
 ·simp only[go_sem,true_and,and_true,Int.ofNat_zero]
 ·rintro i fr h c o y ⟨p,q,s,f⟩;subst f;have n:=RH j c;generalize l[i]=x at *
  simp only[Trm.cells] at n
  repeat' first|simp only[go_sem, *]|apply bc<;>intro v
  refine zP Heap.emp [(4, .no,false),(0, .no,false),(1, .no,false),(2, .no,false),(3, .no,false),(5, .no,false)] kr kr (λi A e=>by cases e) ?_;exact au
 ·rintro fr h o ⟨p,q,s,f⟩;subst f;exact au
def V8 {a b:List Trm} {d e:D} (y:za 2 (yX a) d) (k:za 2 (yX b) e) (f:a.length<=1048576) (z:b.length<=1048576) (g:Heap):zA prog 337 [d,e] g λr h'=>h'=g/\∃b,r= .bool b:=by
 refine xP λQ u=> ?_;have n:=yv k;have l:∀b,Q (.bool b) g:=λb=>u _ _ ⟨rfl,b,rfl⟩;have m:=zB0 y f;simp only[Trm.cells] at m;refine xO mix func337 zEM rfl rfl ?_;simp only[f337,gJ]
 repeat' first|simp only[go_sem, *]|apply bc<;>intro v
 refine zD (λi fr h=>fr 0=d/\fr 1=e/\fr 5= .int .i64 (i:Int)/\h=g) b.length ow ?_ ?_ ?_
 ·simp only[go_sem,true_and,and_true,Int.ofNat_zero]
 ·rintro i fr h j p A ⟨q,s,t,c⟩;subst c;have o:=ua k j;generalize b[i]=x at *
  simp only[Trm.cells] at o
  repeat' first|simp only[go_sem, *]|apply bc<;>intro v|(refine zA.mono (m _ _) ?_;rintro r h ⟨c,w,rfl⟩)
 ·rintro fr h p ⟨q,s,t,c⟩;subst c;exact au
def Qg {a b:List Trm} {d e:D} (o:za 2 (yX a) d) (p:za 2 (yX b) e) (F:a.length<=1048576) (G:b.length<=1048576) (g:Heap):zA prog 338 [d,e] g λr h'=>h'=g/\∃n,r= .int .i64 n:=by
 refine xP λQ C=> ?_;have s:=yv o;have k:=yv p;have q:∀b,Q (.int .i64 b) g:=λb=>C _ _ ⟨rfl,b,rfl⟩;have c:=WO;simp only[Trm.cells] at c;refine xO mix func338 zEm rfl rfl ?_;simp only[f338,gJ];cases H:((a.length:Int)==(b.length:Int)) with
 |false=>
  repeat' first|simp only[go_sem, *]|apply bc<;>intro j
 |true=>
 have E:a.length<=b.length:=by have:=beq_iff_eq.1 H;omega
 repeat' first|simp only[go_sem, *]|apply bc<;>intro j
 refine zD (λi fr h=>fr 0=d/\fr 1=e/\fr 5= .int .i64 (i:Int)/\h=g) a.length ow ?_ ?_ ?_
 ·simp only[go_sem,true_and,and_true,Int.ofNat_zero]
 ·rintro i fr h l v J ⟨z,A,B,f⟩;subst f;have t:=ua o l;have u:=ua p (show i<b.length by omega);generalize a[i]=x at *
  generalize b[i]=y at *
  simp only[Trm.cells] at t u
  repeat' first|simp only[go_sem, *]|apply bc<;>intro j
  refine zP Heap.emp [(0, .no,false),(1, .no,false),(2, .no,false),(3, .no,false),(4, .no,false),(5, .no,false),(6, .no,false),(7, .no,false),(8, .no,false)] kr kr (λi I e=>by cases e) ?_
  repeat' first|simp only[go_sem, *]|apply bc<;>intro j|(refine zA.mono (c _ _ _) ?_;rintro r h ⟨m,w,rfl⟩)
  refine zP Heap.emp [(0, .no,false),(1, .no,false),(2, .no,false),(3, .no,false),(4, .no,false),(5, .no,false),(6, .no,false),(7, .no,false),(8, .no,false)] kr kr (λi I e=>by cases e) ?_
  repeat' first|simp only[go_sem, *]|apply bc<;>intro j|(refine zA.mono (c _ _ _) ?_;rintro r h ⟨m,w,rfl⟩)
 ·rintro fr h v ⟨z,A,B,f⟩;subst f;exact au
open List hiding max min map and or get le lt range extract
open Nat(zero_le le_refl le_trans lt_irrefl le_of_lt lt_of_lt_of_le lt_of_le_of_lt lt_succ_iff_lt_or_eq le_of_lt_succ)
structure AltB (m:Nat) (a:Alt):Prop where
 sl:za 2 (yX a.ts) a.d
 len:a.ts.length<=m
 pl:yi [a.d]
def AltB.io {m:Nat} {a:Alt} (h:AltB m a):za 2 (yX a.ts) a.d/\a.ts.length<=m:=⟨h.sl,h.len⟩
def AltB.mono {m n:Nat} {a:Alt} (h:AltB m a) (b:m<=n):AltB n a:=⟨h.sl,le_trans h.len b,h.pl⟩
def pG (h:Fin sz xs d) (b:∀x∈xs,yi x):yi [d]:=by
 rcases h with⟨rfl,_⟩ |rfl
 ·exact⟨rfl,by simp[zf,below],rfl⟩
 ·have a:=yC (sz:=sz) b .no;exact⟨rfl,by simp only[zf,and_true];exact a.2,by simp only[zt,a.1]⟩
def AltB.of {m:Nat} (h:Fin 2 (yX ts) d) (a:ts.length<=m):AltB m ⟨ts,d⟩:=⟨h.isSl,a,pG h (aO _)⟩
def YB {m:Nat} {a:Alt} (b:AltB m a) (nid:Nat) (h:Heap):zI prog false nid 30 1 [(0,a.d)] h=some (.sl 1 [[a.d]] .full,h):=by
 obtain⟨k1,k2,k3⟩:=zK b.sl;exact mK a.d nid h k1 k2 k3
theorem jH {m:Nat} {l:List Alt} (hd:za 1 (zj l) d) (hl:l.length<=65536) (hm:m<=65536) (I:∀a∈l,za 2 (yX a.ts) a.d/\a.ts.length<=m) (g:Heap):zA prog 270 [d] g λr h'=>h'=g/\∃l',Fin 1 (zj l') r/\l'.length<=l.length/\∀a∈l',AltB m a:=by
 refine xU kr λcv=>xS (zA.freezeOr ?_);have v:=qg hd;refine xP λQ T=> ?_;refine xO mix func270 zEw rfl rfl ?_;simp only[f270,gJ]
 repeat' first|simp only[go_sem, *]|apply bc<;>intro B
 refine zD (λi fr h=>fr 0=d/\fr 4= .int .i64 (i:Int)/\∃all,Own g h 1 (zj all) (fr 3)/\all.length=i/\∀a∈all,AltB m a) l.length ow ?_ ?_ ?_
 ·have u:∃all,Own g g 1 (zj all) .nilsl/\all.length=0/\∀a∈all,AltB m a:=⟨[],Own.start (Ext.refl g) 1,rfl,λa h=>by cases h⟩;clear T v;simp only[go_sem,true_and,and_true,Int.ofNat_zero];exact u
 ·rintro i fr h F ec ew ⟨f0,f4,all,q,E,f⟩;obtain⟨o,C⟩:∃o,fr 3=o:=⟨_,rfl⟩;rw[C] at q;have a1:=tH hd F;have ag:=I _ (getElem_mem F);have c5:=ag.2;have hj:=KW (b:=[]) (e:= .nilsl) ag.1 (.inl ⟨rfl,rfl⟩) (by simp;omega);generalize l[i]=a at *
  obtain⟨k1,k2,k3⟩:=zK ag.1;clear T I hd
  repeat' first|simp only[go_sem, *]|apply bc<;>intro B
  refine(hj _).mono ?_;rintro r h2 ⟨K,ts,b2,cg⟩;subst K;have a6:=AltB.of (m:=m) b2 (by simp at cg;omega);have bo:=YB a6;obtain⟨q1,q2,q3⟩:=zK b2.isSl;clear hj
  repeat' first|simp only[go_sem, *]|apply bc<;>intro B
  refine q.appH (ys:=zj [⟨ts,r⟩]) yp uC yt ow (wE _) (by simp[zj]) (by rw[zY,qU];unfold lim;simp[zj];omega) (by rw[zY];unfold lim;simp[zj];omega) λd' h' bb=> ?_;have cu:∃al,Own g h' 1 (zj al) d'/\al.length=i+1/\∀a∈al,AltB m a:=⟨all++ [⟨ts,r⟩],by
   have:zj (all++ [⟨ts,r⟩])=zj all++zj [⟨ts,r⟩]:=by simp[zj]
   rw[this];exact bb,by simp[E],λx hx=>by
   rcases mem_append.1 hx with h1|h1
   ·exact f x h1
   ·cases mem_singleton.1 h1;exact a6⟩
  clear q bb f;exact au
 rintro fr G ec ⟨f0,f4,all,q,E,f⟩;obtain⟨o,C⟩:∃o,fr 3=o:=⟨_,rfl⟩;rw[C] at q;have hE:=q.1;have ad:=q.isSl;have cc:=qg ad;have cp:all.length<=l.length:=ow;clear q E
 repeat' first|simp only[go_sem, *]|apply bc<;>intro B
 refine zD (λi fr h=>fr 3=o/\fr 6= .int .i64 (i:Int)/\∃out,dQ G h 1 (zj out) (fr 5)/\out.length<=i/\∀a∈out,AltB m a) all.length ow ?_ ?_ ?_
 ·have u:∃out,dQ G G 1 (zj out) .nilsl/\out.length<=0/\∀a∈out,AltB m a:=⟨[],dQ.start (Ext.refl G) 1,by simp,λa h=>by cases h⟩;clear T v;simp only[go_sem,true_and,and_true,Int.ofNat_zero,C];exact u
 ·clear C f0 f4 ec fr;rintro i fr h F ec ew ⟨C,X,out,q,N,p⟩;obtain⟨od,S⟩:∃o,fr 5=o:=⟨_,rfl⟩;rw[S] at q;obtain⟨z1,z2,z3⟩:=q.flat;have a1:=tH ad F;have z:=f _ (getElem_mem F);have b9:=z.len;have cb:=yv z.sl;have hB:=Em;clear T v hd I;obtain⟨L,a7⟩:∃a,all[i]=a:=⟨_,rfl⟩;rw[a7] at a1 z b9 cb
  repeat' first|simp only[go_sem, *]|apply bc<;>intro B
  refine zD (λk fr h'=>fr 3=o/\fr 6= .int .i64 (i:Int)/\fr 8= .int .i64 (k:Int)/\Mm (fr 7)/\fr 5=od/\h'=h) all.length ow ?_ ?_ ?_
  ·simp only[go_sem,true_and,and_true,Int.ofNat_zero,Em,C,X,S]
  ·clear C X S fr;rintro k fr h W b3 c0 ⟨C,X,f8,⟨b7,f7⟩,S,K⟩;subst K;have a2:=tH ad W;have Y:=f _ (getElem_mem W);have c3:=Y.len;have c4:=yv Y.sl;have b5:=V8 z.sl Y.sl ow ow;generalize all[k]=ak at *
   clear f p q N
   repeat' first|simp only[go_sem, *]|apply bc<;>intro B
   refine zP Heap.emp [(0, .no,false),(1, .no,false),(2, .no,false),(3, .no,false),(4, .no,false),(5, .no,false),(6, .no,false),(7, .no,false),(8, .no,false),(9, .no,false),(10, .no,false),(11, .no,false),(12, .no,false),(13, .no,false),(14, .no,false),(15, .no,false),(16, .no,false),(17, .no,false),(18, .no,false),(19, .no,false),(20, .no,false),(21, .no,false),(22, .no,false),(23, .no,false),(24, .no,false),(25, .no,false),(26, .no,false),(27, .no,false),(28, .no,false),(29, .no,false),(30, .no,false),(31, .no,false)] kr kr (λi ob e=>by cases e) ?_
   repeat' first|simp only[go_sem, *]|apply bc<;>intro B|(refine zA.mono (b5 _) ?_;rintro r h ⟨K,w,rfl⟩)
  rintro fr h2 b3 ⟨C,X,f8,⟨b7,f7⟩,S,K⟩;subst K;cases b7 with
  |false=>
   have u:∃out,dQ G h2 1 (zj out) od/\out.length<=i+1/\∀a∈out,AltB m a:=⟨out,q,by omega,p⟩;clear f p q N
   repeat' first|simp only[go_sem, *]|apply bc<;>intro B
  |true=>
  have bo:=YB z h2.next h2;obtain⟨q1,q2,q3⟩:=zK z.sl;obtain⟨d',H,M,bk,ch⟩:=q.app (P:=prog) (ys:=zj [L]) (tk:= .full) yp uC yt ow (λcs=>dR underlying128) (wE _) (wE _) (by simp[zj]) (by rw[zY,qU];unfold lim;simp[zj];omega) (by rw[zY];unfold lim;simp[zj];omega);have E:zj [L]= [[L.d]]:=rfl;have U:zj out++zj [L]=zj (out++ [L]):=by simp[zj]
  rw[U] at bk;rw[E] at M ch;have s:∀a∈out++ [L],AltB m a:=λx hx=>by
   rcases mem_append.1 hx with h1|h1
   ·exact p x h1
   ·cases mem_singleton.1 h1;exact z
  have cw:(out++ [L]).length<=i+1:=by simp;omega
  have bs:0<(out++ [L]).length:=by simp
  generalize out++ [L]=c at *
  obtain⟨b4,Z⟩:=bk;rcases Z with⟨_,e⟩ | ⟨id,rfl,y,hid,V,_⟩
  ·exact absurd bs (by rw[show c.length=(zj c).length from(zY _).symm,e];simp)
  rw[zY] at M;have a3:IntKind.i64.wrap ((c.length:Int)-1)=((c.length-1:Nat):Int):=by rw[zp ow ow];omega
  have cf:=λh=>tj (P:=prog) (t:=30) (sz:=1) (id:=id) (off:=0) (len:=c.length) (h:=h) underlying30;clear f p q N U
  repeat' first|simp only[go_sem, *]|apply bc<;>intro B
  refine yG (λj fr h=>fr 3=o/\fr 6= .int .i64 (i:Int)/\fr 9= .int .i64 ((c.length-1-j:Nat):Int)/\fr 5= .rs id 1 0 c.length/\∃xs,xs.length=c.length/\h=H.set id (.row (zj xs).flatten)/\∀a∈xs,AltB m a) (c.length-1) ?_ ?_
  ·have u:∃xs:List Alt,xs.length=c.length/\H=H.set id (.row (zj xs).flatten)/\∀a∈xs,AltB m a:=⟨c,rfl,(uD y).symm,s⟩;clear s a3 cf;simp only[go_sem,true_and,and_true,Int.ofNat_zero,C,X];exact⟨by rw[Nat.sub_zero],u⟩
  rintro j fr h hj ⟨C,X,f9,S,xs,a4,rfl,D⟩;have J:(H.set id (.row (zj xs).flatten)).at' id=some (.row (zj xs).flatten):=zC _ _ _;have a0:∃out,dQ G (H.set id (.row (zj xs).flatten)) 1 (zj out) (.rs id 1 0 c.length)/\out.length<=i+1/\∀a∈out,AltB m a:=⟨xs,⟨b4.set hid _, .inr ⟨id,by rw[zY,a4],J,hid,by rw[zU];exact V,λe=>by
   have:(zj xs).length=0:=by rw[e];rfl
   rw[zY] at this;omega⟩⟩,by omega,D⟩
  obtain⟨k,hk⟩:∃k,c.length-1-j=k:=⟨_,rfl⟩;rw[hk] at f9;cases k with
  |zero=>
   have h0:decide (((0:Nat):Int)>0)=false:=rfl;clear s D a3 y M
   repeat' first|simp only[go_sem, *]|apply bc<;>intro B
   refine zP Heap.emp [(0, .no,false),(1, .no,false),(2, .no,false),(3, .no,false),(4, .no,false),(5, .no,false),(6, .no,false),(7, .no,false),(8, .no,false),(9, .no,false),(10, .no,false),(11, .no,false),(12, .no,false),(13, .no,false),(14, .no,false)] kr kr (λi ob e=>by cases e) ?_
   repeat' first|simp only[go_sem, *]|apply bc<;>intro B
  |succ k=>
   have h0:decide (((k+1:Nat):Int)>0)=true:=decide_eq_true ow;have c7:IntKind.i64.wrap (((k+1:Nat):Int)-1)=(k:Int):=by rw[zp ow ow];omega
   have ba:k+1<xs.length:=ow;have c1:(zj xs).flatten[k+1]? =some xs[k+1].d:=by rw[uc];simp[ba]
   have c2:(zj xs).flatten[k]? =some xs[k].d:=by rw[uc];simp[show k<xs.length by omega]
   have O:=D _ (getElem_mem ba);have R:=D _ (getElem_mem (show k<xs.length by omega));have i1:zT prog 30 (.rs id 1 0 c.length) (.int .i64 ((k+1:Nat):Int))=some (.ptr id (k+1)):=by
    have:=yA (P:=prog) (sz:=1) (id:=id) yp yt (k:= .i64) (show k+1<c.length by omega)
    rwa [Nat.mul_one] at this
   have i2:zT prog 30 (.rs id 1 0 c.length) (.int .i64 (k:Int))=some (.ptr id k):=by
    have:=yA (P:=prog) (sz:=1) (id:=id) yp yt (k:= .i64) (show k<c.length by omega)
    rwa [Nat.mul_one] at this
   have a8:=Qg O.sl R.sl (by have:=O.len;omega) (by have:=R.len;omega);have b6:(zj xs).flatten=xs.map Alt.d:=uc xs;have b1:((zj xs).flatten.set (k+1) xs[k].d).set k xs[k+1].d=(zj ((xs.set (k+1) xs[k]).set k xs[k+1])).flatten:=by rw[uc,uc,map_set,map_set]
   have bx:∀a∈(xs.set (k+1) xs[k]).set k xs[k+1],AltB m a:=λa ha=>by
    rcases mem_or_eq_of_mem_set ha with h1|rfl
    ·rcases mem_or_eq_of_mem_set h1 with h2|rfl
     ·exact D a h2
     ·exact R
    ·exact O
   have A:∀hh,hh=H.set id (.row (((zj xs).flatten.set (k+1) xs[k].d).set k xs[k+1].d))->(j<c.length-1/\∃ys:List Alt,ys.length=c.length/\hh=H.set id (.row (zj ys).flatten)/\∀a∈ys,AltB m a):=λhh e=>⟨by omega,_,by rw[length_set,length_set];exact a4,by rw[e,b1],bx⟩;have ca:c.length-1- (j+1)=k:=ow;obtain⟨u1,u2,u3⟩:=zK O.sl;obtain⟨v1,v2,v3⟩:=zK R.sl;have a9:(zj xs).flatten.length=c.length:=by rw[uc,length_map,a4]
   have cl:zQ prog 128 (.ptr id (k+1)) xs[k].d (H.set id (.row (zj xs).flatten))=some (H.set id (.row ((zj xs).flatten.set (k+1) xs[k].d))):=by
    rw[zS J yt ow v1 v3,rV]
   have cm:zQ prog 128 (.ptr id k) xs[k+1].d (H.set id (.row ((zj xs).flatten.set (k+1) xs[k].d)))=some (H.set id (.row (((zj xs).flatten.set (k+1) xs[k].d).set k xs[k+1].d))):=by
    rw[zS (zC _ _ _) yt (by rw[length_set];omega) u1 u3,rV]
   generalize xs[k+1]=x1 at *
   generalize xs[k]=x2 at *
   clear s D a3 y M b1 bx b6 a9;generalize(zj xs).flatten=row at *
   repeat' first|simp only[go_sem, *]|apply bc<;>intro B
   refine zP Heap.emp [(0, .no,false),(1, .no,false),(2, .no,false),(3, .no,false),(4, .no,false),(5, .no,false),(6, .no,false),(7, .no,false),(8, .no,false),(9, .no,false),(10, .no,false),(11, .no,false),(12, .no,false),(13, .no,false),(14, .no,false)] kr kr (λi ob e=>by cases e) ?_
   repeat' first|simp only[go_sem, *]|apply bc<;>intro B
   refine(a8 _).mono ?_;rintro r h3 ⟨K,n,rfl⟩;subst K;cases hn:decide (n<0) with
   |false=>
    clear A cl cm ca
    repeat' first|simp only[go_sem, *]|apply bc<;>intro B
   |true=>
    clear a0 a8
    repeat' first|simp only[go_sem, *]|apply bc<;>intro B
    have A:=A _ rfl;refine zV kr ?_;exact au
 ·rintro fr h ec ⟨C,X,out,q,N,p⟩;obtain⟨od,S⟩:∃o,fr 5=o:=⟨_,rfl⟩;rw[S] at q;obtain⟨a5,Z⟩:=q;rcases Z with⟨rfl,e⟩ | ⟨id,rfl,y,hid,V,c6⟩
  ·have K:=T .nilsl h (.inl ⟨hE.trans a5,by simp[zh,below],[], .inl ⟨rfl,rfl⟩,by simp,λa h=>by cases h⟩);clear T v hd I f p;exact au
  ·have b8:frz id (zj out).flatten (.rs id 1 0 (zj out).length)= .sl 1 (zj out) .no:=dW (rest:=[]) (wE _) rfl (by simp);have u:=yC (sz:=1) (xs:=zj out) (λx hx=>by
    obtain⟨a,ha,rfl⟩:=mem_map.1 hx;exact(p a ha).pl) .no
   have K:=T (.rs id 1 0 (zj out).length) h (.inr ⟨id,_,y,by
    rw[b8,u.1];exact⟨(hE.trans a5).del (by have:=hE.1;omega),zz (zero_le _) _ u.2,out, .inr rfl,by omega,p⟩⟩)
   clear T v hd I f p;exact au
def WQ {m:Nat} {a b:List Alt} {d e:D} (A:za 1 (zj a) d) (B:za 1 (zj b) e) (H:a.length+b.length<=65536) (E:m<=65536) (o:∀x∈a,za 2 (yX x.ts) x.d/\x.ts.length<=m) (z:∀x∈b,za 2 (yX x.ts) x.d/\x.ts.length<=m) (g:Heap):zA prog 271 [d,e] g λr h'=>h'=g/\∃k,Fin 1 (zj k) r/\k.length<=a.length+b.length/\∀x∈k,AltB m x:=by
 refine xU kr λt=> ?_;refine xP λQ y=> ?_;have c:∀h l d,Own g h 1 (zj l) d->l.length=a.length+b.length->(∀x∈l,za 2 (yX x.ts) x.d/\x.ts.length<=m)->zA prog 270 [d] h λr h'=>Q r h':=λh l d s C j=>(jH (m:=m) s.isSl ow E j h).mono λr h' ⟨F,k,u,J,v⟩=>by
  subst F;refine y _ _ ⟨s.1,?_,k,u,by omega,v⟩;have:=pG u (λx j=>by
   obtain⟨a,o,rfl⟩:=mem_map.1 j;exact(v a o).pl)
  have n:=this.2.1;simp only[zf,and_true] at n;exact zz (zero_le _) _ n
 have h0:=Own.start (Ext.refl g) 1;refine xO mix func271 zFL rfl rfl ?_;simp only[f271,gJ];simp only[go_sem, *];refine h0.appI (ys:=zj a) yp uC yt ow (wE _) A (by rw[zY,qU];unfold lim;simp;omega) (by rw[zY];unfold lim;simp;omega) λG h1 f=> ?_;rw[nil_append] at f;simp only[go_sem, *];refine f.appI (ys:=zj b) yp uC yt ow (wE _) B (by rw[zY,zY,qU];unfold lim;omega) (by rw[zY,zY];unfold lim;omega) λw n i=> ?_;have p:zj a++zj b=zj (a++b):=by simp[zj]
 rw[p] at i;have I:=c n (a++b) w i (by simp) (λx j=>by
  rcases mem_append.1 j with q|q
  ·exact o x q
  ·exact z x q)
 exact au
theorem D5 {m n:Nat} {a b:List Alt} {d e:D} (M:za 1 (zj a) d) (V:za 1 (zj b) e) (N:a.length<=64) (O:b.length<=64) (hm:m+n<=65536) (H:∀x∈a,AltB m x) (hb:∀x∈b,AltB n x) (g:Heap):zA prog 272 [d,e] g λr h'=>h'=g/\∃G,Fin 1 (zj G) r/\G.length<=a.length*b.length/\∀x∈G,AltB (m+n) x:=by
 have L:a.length*b.length<=4096:=le_trans (Nat.mul_le_mul N O) ow;refine xU kr λX=> ?_;refine xP λQ T=> ?_;have p:∀h l d,Own g h 1 (zj l) d->l.length=a.length*b.length->(∀x∈l,AltB (m+n) x)->zA prog 270 [d] h λr h'=>Q r h':=λh l d j a0 F=>(jH (m:=m+n) j.isSl ow hm (λx h=>(F x h).io) h).mono λr h' ⟨q1,G,S,q3,q4⟩=>by
  subst q1;refine T _ _ ⟨j.1,?_,G,S,by omega,q4⟩;have:=pG S (λx F=>by
   obtain⟨a,H,rfl⟩:=mem_map.1 F;exact(q4 a H).pl)
  have K:=this.2.1;simp only[zf,and_true] at K;exact zz (zero_le _) _ K
 have P:=qg M;have R:=qg V;clear T;refine xO mix func272 zFk rfl rfl ?_;simp only[f272,gJ];simp only[go_sem, *];refine zD (λi fr h=>fr 0=d/\fr 1=e/\fr 6= .int .i64 (i:Int)/\∃all,Own g h 1 (zj all) (fr 5)/\all.length=i*b.length/\∀x∈all,AltB (m+n) x) a.length ow ?_ ?_ ?_
 ·have q:∃all,Own g g 1 (zj all) .nilsl/\all.length=0*b.length/\∀x∈all,AltB (m+n) x:=⟨[],Own.start (Ext.refl g) 1,by simp,λa h=>by cases h⟩;clear p;simp only[go_sem,true_and,and_true,Int.ofNat_zero];exact q
 ·rintro i fr h w ec ew ⟨y,z,A,all,j,f,c⟩;obtain⟨o,s⟩:∃o,fr 5=o:=⟨_,rfl⟩;rw[s] at j;have a1:=tH M w;have v:=H _ (getElem_mem w);have ak:i*b.length+b.length<=4096:=by rw[<-Nat.succ_mul];exact le_trans (Nat.mul_le_mul_right _ w) L
  generalize a[i]=ai at *
  obtain⟨k1,k2,k3⟩:=zK v.sl;have U:=v.len;have q:∃all,Own g h 1 (zj all) o/\all.length=i*b.length+0/\∀x∈all,AltB (m+n) x:=⟨all,j,f,c⟩;clear p H M j f c;simp only[go_sem, *];refine zD (λk fr h=>fr 0=d/\fr 1=e/\fr 6= .int .i64 (i:Int)/\fr 7= .int .i64 (k:Int)/\∃all,Own g h 1 (zj all) (fr 5)/\all.length=i*b.length+k/\∀x∈all,AltB (m+n) x) b.length ow ?_ ?_ ?_
  ·simp only[go_sem,true_and,and_true,Int.ofNat_zero,y,z,s,A];exact q
  ·clear y z s A q fr h;rintro k fr h u J ad ⟨y,z,A,f7,all,j,f,c⟩;obtain⟨o,s⟩:∃o,fr 5=o:=⟨_,rfl⟩;rw[s] at j;have a2:=tH V u;have B:=hb _ (getElem_mem u);have ag:=B.len;have W:=KW v.sl B.sl ow;generalize b[k]=bk at *
   simp only[go_sem, *];refine zP Heap.emp [(0, .no,false),(1, .no,false),(2, .no,false),(3, .no,false),(4, .no,false),(5, .no,false),(6, .no,false),(7, .no,false),(8, .no,false),(9, .no,false),(10, .no,false),(11, .no,false),(12, .no,false)] kr kr (λi ob e=>by cases e) ?_;simp only[go_sem, *];refine(W _).mono ?_;rintro r K ⟨Z,I,E,a3⟩;subst Z;have t:=AltB.of (m:=m+n) E ow;have Y:=YB t;obtain⟨q1,S,q3⟩:=zK E.isSl;clear W;simp only[go_sem, *];refine j.appH (ys:=zj [⟨I,r⟩]) yp uC yt ow (wE _) (by simp[zj]) (by rw[zY,qU];unfold lim;simp[zj];omega) (by rw[zY];unfold lim;simp[zj];omega) λd' h' C=> ?_
   have p:∃al,Own g h' 1 (zj al) d'/\al.length=i*b.length+(k+1)/\∀a∈al,AltB (m+n) a:=⟨all++ [⟨I,r⟩],by
    have:zj (all++ [⟨I,r⟩])=zj all++zj [⟨I,r⟩]:=by simp[zj]
    rw[this];exact C,by simp;omega,λx F=>by
    rcases mem_append.1 F with h1|h1
    ·exact c x h1
    ·cases mem_singleton.1 h1;exact t⟩
   clear j C c f;exact au
  ·clear y z s A q fr h;rintro fr h J ⟨y,z,A,f7,all,j,f,c⟩;obtain⟨o,s⟩:∃o,fr 5=o:=⟨_,rfl⟩;rw[s] at j;have q:∃all,Own g h 1 (zj all) o/\all.length=(i+1)*b.length/\∀x∈all,AltB (m+n) x:=⟨all,j,by rw[Nat.succ_mul];exact f,c⟩;clear j f c;exact au
 ·rintro fr h ec ⟨y,z,A,all,j,f,c⟩;obtain⟨o,s⟩:∃o,fr 5=o:=⟨_,rfl⟩;rw[s] at j;have Z:=p h all o j f c;clear p j f c;exact au
def D6:∀ (n:Nat) {e:Ex},e.size<=n->e.Ok->e.size<=1048576->∀g:Heap,zA prog 332 [.agg e.cells] g λr h'=>h'=g/\IsI r:=by
 intro n
 induction n with
 |zero=>intro e h;cases e;simp only[Ex.size] at h;omega
 |succ n E=>
 intro e C c m g;refine xP λQ A=> ?_;have p:∀n,Q (.int .i64 n) g:=λn=>A _ _ ⟨rfl,n,rfl⟩;obtain⟨k,F,x,l,d⟩:=e;simp only[Ex.size,Ex.Ok] at C c m;obtain⟨o,I,_,_,f⟩:=c;have q:=uL o;have H:=isI;refine xO mix func332 zEl rfl rfl ?_;simp only[f332,gJ];simp only[Ex.cells,Ex.kind,Ex.name,Ex.exc,Ex.d]
 repeat' first|simp only[go_sem, *]|apply bc<;>intro B
 refine zD (λi fr h=>fr 1= .iptr [.int .i64 k, .str F, .str x,d] 0/\fr 4= .int .i64 (i:Int)/\IsI (fr 3)/\h=g) l.length ow ?_ ?_ ?_
 ·simp only[go_sem,true_and,and_true,Int.ofNat_zero,isI]
 ·rintro i fr h b t G ⟨u,y,⟨z,v⟩,a⟩;subst a;have s:=rv o b;have j:l[i]∈l:=List.getElem_mem b;have a:=E (e:=l[i]) (by have:=yg j;omega) (uK f _ j) (by have:=yg j;omega);simp only[Ex.cells] at s a
  repeat' first|simp only[go_sem, *]|apply bc<;>intro B|(refine zA.mono (a _) ?_;rintro r h ⟨D,w,rfl⟩)
 ·rintro fr h t ⟨u,y,⟨z,v⟩,a⟩;subst a;exact au
def Ir:∀ (n:Nat) {e:Ex},e.size<=n->e.Ok->e.size<=1048576->∀g:Heap,zA prog 333 [.agg e.cells] g λr h'=>h'=g/\IsI r:=by
 intro n
 induction n with
 |zero=>intro e h;cases e;simp only[Ex.size] at h;omega
 |succ n E=>
 intro e D f p g;refine xP λQ C=> ?_;have s:∀n,Q (.int .i64 n) g:=λn=>C _ _ ⟨rfl,n,rfl⟩;obtain⟨k,F,x,l,d⟩:=e;simp only[Ex.size,Ex.Ok] at D f p;obtain⟨q,J,_,_,j⟩:=f;have t:=uL q;have H:=isI;refine xO mix func333 zE4 rfl rfl ?_;simp only[f333,gJ];simp only[Ex.cells,Ex.kind,Ex.name,Ex.exc,Ex.d];simp only[go_sem, *];refine zD (λi fr h=>fr 1= .iptr [.int .i64 k, .str F, .str x,d] 0/\fr 4= .int .i64 (i:Int)/\IsI (fr 3)/\h=g) l.length ow ?_ ?_ ?_
 ·simp only[go_sem,true_and,and_true,Int.ofNat_zero,isI]
 ·rintro i fr h b v G ⟨y,B,⟨z,A⟩,a⟩;subst a;have u:=rv q b;have m:l[i]∈l:=List.getElem_mem b;have a:=E (e:=l[i]) (by have:=yg m;omega) (uK j _ m) (by have:=yg m;omega);simp only[Ex.cells] at u a;simp only[go_sem, *];refine(a _).mono ?_;rintro r h ⟨o,w,rfl⟩;subst o;obtain⟨c,I⟩:=zBQ z w;exact au
 ·rintro fr h v ⟨y,B,⟨z,A⟩,a⟩;subst a;exact au
def It:∀ (n:Nat) {e:Ex},e.size<=n->e.Ok->e.size<=1048576->∀ {e2:Ex},e2.Ok->∀g:Heap,zA prog 329 [.agg e.cells, .agg e2.cells] g λr h'=>h'=g/\Mm r:=by
 intro n
 induction n with
 |zero=>intro e h;cases e;simp only[Ex.size] at h;omega
 |succ n R=>
 intro e N m y e2 a g;refine xP λQ K=> ?_;have B:∀n,Q (.bool n) g:=λn=>K _ _ ⟨rfl,n,rfl⟩;obtain⟨k,S,x,l,d⟩:=e;obtain⟨k2,z,T,p,F⟩:=e2;simp only[Ex.size,Ex.Ok] at N m y a;obtain⟨A,W,_,_,s⟩:=m;obtain⟨c,M,_,_,f⟩:=a;have C:=uL A;have t:=uL c;have V:=Em;refine xO mix func329 zFn rfl rfl ?_;simp only[f329,gJ];simp only[Ex.cells,Ex.kind,Ex.name,Ex.exc,Ex.d];cases O:((l.length:Int)==(p.length:Int)) with
 |false=>
  repeat' first|simp only[go_sem, *]|apply bc<;>intro q
 |true=>
 have L:l.length<=p.length:=by have:=beq_iff_eq.1 O;omega
 repeat' first|simp only[go_sem, *]|apply bc<;>intro q
 refine zD (λi fr h=>fr 2= .iptr [.int .i64 k, .str S, .str x,d] 0/\fr 3= .iptr [.int .i64 k2, .str z, .str T,F] 0/\fr 5= .int .i64 (i:Int)/\h=g) l.length ow ?_ ?_ ?_
 ·simp only[go_sem,true_and,and_true,Int.ofNat_zero]
 ·rintro i fr h j G U ⟨H,I,J,b⟩;subst b;have D:=rv A j;have E:=rv c (show i<p.length by omega);have u:l[i]∈l:=List.getElem_mem j;have v:p[i]'ow∈p:=List.getElem_mem ow;have o:=R (e:=l[i]) (by have:=yg u;omega) (uK s _ u) (by have:=yg u;omega) (uK f _ v);simp only[Ex.cells] at D E o
  repeat' first|simp only[go_sem, *]|apply bc<;>intro q
  refine zP Heap.emp [(0, .no,false),(1, .no,false),(2, .no,false),(3, .no,false),(4, .no,false),(5, .no,false),(6, .no,false),(7, .no,false),(8, .no,false),(9, .no,false),(10, .no,false),(11, .no,false)] kr kr (λi X e=>by cases e) ?_
  repeat' first|simp only[go_sem, *]|apply bc<;>intro q|(refine zA.mono (o _) ?_;rintro r h ⟨P,w,rfl⟩)
 ·rintro fr h G ⟨H,I,J,b⟩;subst b;exact au
def KX (s:List UInt8) (c:s.length<=1048576) (g:Heap):zA prog 386 [.str s] g λr h'=>h'=g/\Mm r:=by
 refine xP λQ b=> ?_;have a:∀n,Q (.bool n) g:=λn=>b _ _ ⟨rfl,n,rfl⟩;have d:=pb s c;refine xO mix func386 zEo rfl rfl ?_;simp only[f386,gJ]
 repeat' first|simp only[go_sem, *]|apply bc<;>intro f|(refine zA.mono (d _) ?_;rintro r h ⟨e,w,rfl⟩)
mutual
def Ex.Kd:Ex->Prop
 | .mk k _ _ l _=>(0<=k/\k<=3)/\kdL l
def kdL:List Ex->Prop
 | []=>True
 |e::l=>e.Kd/\kdL l
end
theorem V9:∀ {l:List Ex},kdL l↔∀e∈l,e.Kd
 | []=>by simp[kdL]
 |x::l=>by simp[kdL,V9 (l:=l)]
def D7:∀ (n:Nat) {e:Ex},e.size<=n->e.Ok->e.size<=1048576->∀g:Heap,zA prog 334 [.agg e.cells] g λr h'=>h'=g/\∃n,r= .int .i64 n/\(n=0->e.Kd):=by
 intro n
 induction n with
 |zero=>intro e h;cases e;simp only[Ex.size] at h;omega
 |succ n R=>
 intro e t u D g;refine xP λQ F=> ?_;have a:∀n,(n==0)=false->Q (.int .i64 n) g:=λn t=>F _ _ ⟨rfl,n,rfl,λq=>by simp[q] at t⟩;have E:=a 1 rfl;have T:=a 2 rfl;obtain⟨k,I,x,l,d⟩:=e;simp only[Ex.size,Ex.Ok] at t u D;obtain⟨G,U,y,z,v⟩:=u;have H:=uL G;have B:=KX I y;have C:=KX x z;cases k1:decide (k<0) with
 |true=>
  refine xO mix func334 EP rfl rfl ?_;simp only[f334,gJ];simp only[Ex.cells,Ex.kind,Ex.name,Ex.exc,Ex.d]
  repeat' first|simp only[go_sem, *]|apply bc<;>intro o
 |false=>
 cases k2:decide (k>3) with
 |true=>
  refine xO mix func334 EP rfl rfl ?_;simp only[f334,gJ];simp only[Ex.cells,Ex.kind,Ex.name,Ex.exc,Ex.d]
  repeat' first|simp only[go_sem, *]|apply bc<;>intro o
 |false=>
 have b:(∀e∈l,e.Kd)->Q (.int .i64 0) g:=λO=>F _ _ ⟨rfl,0,rfl,λ_=>by
  rw[Ex.Kd];have:=of_decide_eq_false k1;have:=of_decide_eq_false k2;exact⟨by omega,V9.2 O⟩⟩
 refine xO mix func334 EP rfl rfl ?_;simp only[f334,gJ];simp only[Ex.cells,Ex.kind,Ex.name,Ex.exc,Ex.d]
 repeat' first|simp only[go_sem, *]|apply bc<;>intro o|(refine zA.mono (B _) ?_;rintro r h ⟨c,w,rfl⟩)|(refine zA.mono (C _) ?_;rintro r h ⟨c,w,rfl⟩)
 all_goals
  refine zD (λi fr h=>fr 1= .iptr [.int .i64 k, .str I, .str x,d] 0/\fr 3= .int .i64 (i:Int)/\h=g/\∀j (f:j<l.length),j<i->l[j].Kd) l.length ow ?_ ?_ ?_
  ·simp only[go_sem,true_and,and_true,Int.ofNat_zero];exact λj f h0=>by omega
  ·rintro i fr h s K S ⟨E,L,m,f⟩;subst m;have J:=rv G s;have A:l[i]∈l:=List.getElem_mem s;have m:=R (e:=l[i]) (by have:=yg A;omega) (uK v _ A) (by have:=yg A;omega);simp only[Ex.cells] at J m
   repeat' first|simp only[go_sem, *]|apply bc<;>intro o
   refine(m _).mono ?_;rintro r h ⟨c,w,rfl,P⟩;subst c;cases w0:(w==0) with
   |false=>
    have hf:=a w w0
    repeat' first|simp only[go_sem, *]|apply bc<;>intro o
   |true=>
    have t:∀j (f:j<l.length),j<i+1->l[j].Kd:=λj h1 M=>by
     rcases Nat.lt_succ_iff_lt_or_eq.1 M with h|rfl
     ·exact f j h1 h
     ·exact P (by simpa using w0)
    repeat' first|simp only[go_sem, *]|apply bc<;>intro o
    exact t
  ·rintro fr h K ⟨E,L,m,f⟩;subst m;have hf:=b λe N=>by
    obtain⟨j,p,rfl⟩:=List.mem_iff_getElem.1 N;exact f j p p
   exact au
def WR (a:e.Ok) (c:e.size<=1048576) (g:Heap):zA prog 268 [.agg e.cells] g λr h'=>h'=g/\∃n,r= .int .i64 n/\(n=0->e.Kd):=by
 refine xP λQ f=> ?_;have h1:=D6 _ (Nat.le_refl _) a c;have i:=Ir _ (Nat.le_refl _) a c;have h3:=D7 _ (Nat.le_refl _) a c;have l:Q (.int .i64 10) g:=f _ _ ⟨rfl,10,rfl,λq=>by cases q⟩;have m:Q (.int .i64 11) g:=f _ _ ⟨rfl,11,rfl,λq=>by cases q⟩;simp only[Ex.cells] at h1 i h3⊢;have d:∀n,(n=0->e.Kd)->Q (.int .i64 n) g:=λn j=>f _ _ ⟨rfl,n,rfl,j⟩;refine xO mix func268 zEH rfl rfl ?_;simp only[f268,gJ]
 repeat' first|simp only[go_sem, *]|apply bc<;>intro o|(refine zA.mono (h1 _) ?_;rintro r h ⟨b,w,rfl⟩)|(refine zA.mono (i _) ?_;rintro r h ⟨b,w,rfl⟩)
 refine(h3 _).mono ?_;rintro r h ⟨b,w,rfl,k⟩;subst b;have hf:=d w k;exact au
def Iu (f:yw c d) (z:c.Sm) (t:Trm) (g:Heap):zA prog 328 [d, .agg t.cells] g λr h'=>h'=g/\∃q b,r= .tuple [q, .bool b]:=by
 refine xP λQ y=> ?_;have m:∀q b,Q (.tuple [q, .bool b]) g:=λq b=>y _ _ ⟨rfl,q,b,rfl⟩;obtain⟨a,b,e,p,rfl,C,l,D,E⟩:=f;have n:=nD l;have A:=z.es.1;simp only[Trm.cells];refine xO mix func328 zFR rfl rfl ?_;simp only[f328,gJ];cases h0:(t.b== []) with
 |true=>
  repeat' first|simp only[go_sem, *]|apply bc<;>intro f
 |false=>
 repeat' first|simp only[go_sem, *]|apply bc<;>intro f
 refine zD (λi fr h=>fr 2= .iptr [a,b,e,p] 0/\fr 3= .iptr [.str t.a, .str t.b] 0/\fr 6= .int .i64 (i:Int)/\h=g) c.es.length ow ?_ ?_ ?_
 ·simp only[go_sem,true_and,and_true,Int.ofNat_zero]
 ·rintro i fr h j s B ⟨u,v,w,k⟩;subst k;have o:=mG l j;generalize c.es[i]=x at *
  simp only[Exc.cells] at o
  repeat' first|simp only[go_sem, *]|apply bc<;>intro f
  refine zV kr ?_;exact au
 ·rintro fr h s ⟨u,v,w,k⟩;subst k;exact au
def Iv (f:yw c d) (j:c.Sm) (t:Trm) (g:Heap):zA prog 335 [d, .agg t.cells] g λr h'=>h'=g/\Mm r:=by
 refine xP λQ m=> ?_;have l:∀b,Q (.bool b) g:=λb=>m _ _ ⟨rfl,b,rfl⟩;have h1:=sL f j;have k:=oW f j t.a;have h3:=Iu f j t;obtain⟨a,b,e,p,rfl,s,u,v,x⟩:=f;simp only[Trm.cells] at h3⊢;generalize YG _ _=z at k;refine xO mix func335 zFo rfl rfl ?_;simp only[f335,gJ]
 repeat' first|simp only[go_sem, *]|apply bc<;>intro f
 refine(h1 _).mono ?_;rintro r h ⟨o,n,rfl,_⟩;subst o
 repeat' first|simp only[go_sem, *]|apply bc<;>intro f|(refine zA.mono (k _) ?_;rintro r h ⟨i,rfl⟩)|(refine zA.mono (h3 _) ?_;rintro r h ⟨i,q,w,rfl⟩)
def KY {v:D} (f:yw c v) (L:c.Sm):∀ (n:Nat) {e:Ex},e.size<=n->e.Ok->e.size<=1048576->∀g:Heap,zA prog 269 [v, .agg e.cells] g λr h'=>h'=g/\Mm r:=by
 intro n
 induction n with
 |zero=>intro e h;cases e;simp only[Ex.size] at h;omega
 |succ n N=>
 intro e K p u g;refine xP λQ H=> ?_;have z:∀n,Q (.bool n) g:=λn=>H _ _ ⟨rfl,n,rfl⟩;have m:=λa b=>Iv f L ⟨a,b⟩;obtain⟨ca,cb,ce,cp,rfl,_,_,_,_⟩:=f;obtain⟨k,O,x,l,d⟩:=e;simp only[Ex.size,Ex.Ok] at K p u;obtain⟨y,R,I,J,q⟩:=p;have A:=uL y;have M:∀a b:List UInt8,zu prog 130 [(0, .str a),(1, .str b)]=some (.agg [.str a, .str b]):=λa b=>by simp[zu,u9,qy,qG,yY,D.notTuple,D.cells]
 simp only[Trm.cells] at m;refine xO mix func269 zEf rfl rfl ?_;simp only[f269,gJ];simp only[Ex.cells,Ex.kind,Ex.name,Ex.exc,Ex.d];cases h0:decide (k<2) with
 |true=>
  repeat' first|simp only[go_sem, *]|apply bc<;>intro f|(refine zA.mono (m _ _ _) ?_;rintro r h ⟨t,w,rfl⟩)
 |false=>
 repeat' first|simp only[go_sem, *]|apply bc<;>intro f
 refine zD (λi fr h=>fr 2= .iptr [ca,cb,ce,cp] 0/\fr 3= .iptr [.int .i64 k, .str O, .str x,d] 0/\fr 5= .int .i64 (i:Int)/\h=g) l.length ow ?_ ?_ ?_
 ·simp only[go_sem,true_and,and_true,Int.ofNat_zero]
 ·rintro i fr h o C P ⟨E,F,G,j⟩;subst j;have B:=rv y o;have s:l[i]∈l:=List.getElem_mem o;have j:=N (e:=l[i]) (by have:=yg s;omega) (uK q _ s) (by have:=yg s;omega);simp only[Ex.cells] at B j
  repeat' first|simp only[go_sem, *]|apply bc<;>intro f
  refine zP Heap.emp [(0, .no,false),(1, .no,false),(2, .no,false),(3, .no,false),(4, .no,false),(5, .no,false),(6, .no,false),(7, .no,false)] kr kr (λi S e=>by cases e) ?_
  repeat' first|simp only[go_sem, *]|apply bc<;>intro f|(refine zA.mono (j _) ?_;rintro r h ⟨t,w,rfl⟩)
 ·rintro fr h C ⟨E,F,G,j⟩;subst j;exact au
def WS {k:D} (a:yw c k) (p:c.Sm) (d:e.Ok) (f:e.size<=1048576) (g:Heap):zA prog 208 [k, .agg e.cells] g λr h'=>h'=g/\∃n,r= .int .i64 n/\(n=0->e.Kd):=by
 refine xP λQ i=> ?_;have v:Q (.int .i64 1) g:=i _ _ ⟨rfl,1,rfl,λq=>by cases q⟩;have x:Q (.int .i64 7) g:=i _ _ ⟨rfl,7,rfl,λq=>by cases q⟩;have h1:=sL a p;have l:=WR d f;have h3:=KY a p _ (Nat.le_refl _) d f;obtain⟨ca,cb,ce,cp,rfl,_,_,_,_⟩:=a;simp only[Ex.cells] at l h3⊢;have b:∀n,(n=0->e.Kd)->Q (.int .i64 n) g:=λn t=>i _ _ ⟨rfl,n,rfl,t⟩;refine xO mix func208 zFH rfl rfl ?_;simp only[f208,gJ]
 repeat' first|simp only[go_sem, *]|apply bc<;>intro a
 refine(h1 _).mono ?_;rintro r h ⟨j,n,rfl,_⟩;subst j;cases y:(n==0) with
 |false=>
  repeat' first|simp only[go_sem, *]|apply bc<;>intro a
 |true=>
 repeat' first|simp only[go_sem, *]|apply bc<;>intro a
 refine(l _).mono ?_;rintro r h ⟨j,m,rfl,o⟩;subst j;have hf:=b m o;cases m0:(m==0) with
 |false=>
  repeat' first|simp only[go_sem, *]|apply bc<;>intro a
 |true=>
 have s:=b 0 λ_=>o (by simpa using m0)
 repeat' first|simp only[go_sem, *]|apply bc<;>intro a|(refine zA.mono (h3 _) ?_;rintro r h ⟨u,w,rfl⟩)
def zC4 (k:Int) (i n:Nat):Prop:=n<=64*i/\(k=2->n<=64)
def WT (m:Nat) (r:D):Prop:=∃q b,r= .tuple [q, .bool b]/\∃l,Fin 1 (zj l) q/\(b=true->l.length<=64)/\∀a∈l,AltB m a
def cC {m:Nat} {l:List Alt} (h:∀a∈l,AltB m a):∀x∈zj l,yi x:=λx c=>by
 obtain⟨a,b,rfl⟩:=List.mem_map.1 c;exact(h a b).pl
def WT.pl {m:Nat} {r:D} (h:WT m r) (n:Nat):zh r=r/\below n r:=by
 obtain⟨q,b,rfl,l,hf,_,c⟩:=h;obtain⟨h1,a,h3⟩:=pG hf (cC c);simp only[zf,and_true] at a;simp only[zt,List.cons.injEq,and_true] at h3;exact⟨by simp[zh,zt,h3],by simp only[below,zf,and_true];exact zz (Nat.zero_le _) _ a⟩
def WT.none (m:Nat):WT m (.tuple [.nilsl, .bool false]):=⟨.nilsl,false,rfl,[], .inl ⟨rfl,rfl⟩,(λq=>by cases q),(λa h=>by cases h)⟩
def Iw (s x:List UInt8) (nid:Nat) (h:Heap):zI prog false nid 128 1 [(0, .agg [.str s, .str x])] h=some (.sl 2 [[.str s, .str x]] .full,h):=zy yf qy yz rfl rfl ow ow rfl rfl
def Ix {l:List Ex} (a:i<l.length):zg (l.take (i+1))=zg (l.take i)+l[i].size:=by rw[List.take_succ_eq_append_getElem a,nF]
def YC (l:List Ex) (i:Nat):zg (l.take i)<=zg l:=by
 have a:=lS (l.take i) (l.drop i);rw[List.take_append_drop] at a;omega
theorem D8 {D0:D} (hc:yw c D0) (hs:c.Sm) (ai:c.ls.length<=40):∀ (n:Nat) {e:Ex},e.size<=n->e.Ok->e.Kd->e.size<=120->∀g:Heap,zA prog 209 [D0, .agg e.cells] g λr h'=>h'=g/\WT e.size r:=by
 intro n
 induction n with
 |zero=>intro e h;cases e;simp only[Ex.size] at h;omega
 |succ n ih=>
 intro e hn Y T a9 g;refine xU kr λbs=>xS ?_;refine xP λQ hQ=> ?_;have a4:=br hc hs ai;obtain⟨ca,cb,ce,cp,rfl,_,_,_,_⟩:=hc;obtain⟨k,nm,x,l,d⟩:=e;have hR:(Ex.mk k nm x l d).size=zg l+1:=by simp only[Ex.size]
 rw[hR] at hQ hn a9;simp only[Ex.Ok,Ex.Kd] at Y T;obtain⟨hd,hl,_,_,a3⟩:=Y;obtain⟨⟨b2,b3⟩,a2⟩:=T;have I:∀r h,Ext g h->WT (zg l+1) r->Q r h:=λr h N hr=>hQ _ _ ⟨N,by rw[(hr.pl 0).1];exact(hr.pl _).2,by rw[(hr.pl 0).1];exact hr⟩;have C:=λh N=>I _ h N (WT.none _);have bo:=uL hd;have cc:∀a b:List UInt8,zu prog 130 [(0, .str a),(1, .str b)]=some (.agg [.str a, .str b]):=λa b=>by simp[zu,u9,qy,qG,yY,D.notTuple,D.cells]
 have bx:∀a:List UInt8,zu prog 130 [(0, .str a)]=some (.agg [.str a, .str []]):=λa=>by simp[zu,u9,qy,qG,yY,D.notTuple,D.cells]
 have b7:=Iw;have b8:=λs x nid h=>mK (.sl 2 [[.str s, .str x]] .full) nid h rfl rfl rfl;cases k0:(k==0) with
 |true=>
  have f:Q (.tuple [.sl 1 [[.sl 2 [[.str nm, .str x]] .full]] .full, .bool true]) g:=hQ _ _ ⟨Ext.refl g,by simp[zh,zt,uU,below,zf,tr],by
   refine⟨.sl 1 (zj [mkA [⟨nm,x⟩]]) .no,true,by simp[zh,zt,uU,zj,mkA,yX,Trm.cells],_, .inr rfl,λ_=>by simp,λa ha=> ?_⟩;cases List.mem_singleton.1 ha;exact⟨.inr ⟨_,rfl⟩,by simp[mkA],lh _⟩⟩
  refine xO mix func209 EU rfl rfl ?_;simp only[f209,gJ];simp only[Ex.cells,Ex.kind,Ex.name,Ex.exc,Ex.d];simp only[go_sem, *]
 |false=>
 cases k1:(k==1) with
 |true=>
  refine xO mix func209 EU rfl rfl ?_;simp only[f209,gJ];simp only[Ex.cells,Ex.kind,Ex.name,Ex.exc,Ex.d];simp only[go_sem, *];refine(a4 _ _).mono ?_;rintro r h ⟨f,ps,q,m,rfl,ad,b9⟩;subst f;have b6:=yQ ad;simp only[go_sem, *];refine zD (λi fr h'=>fr 7=q/\fr 9= .int .i64 (i:Int)/\∃all,Own h h' 1 (zj all) (fr 6)/\all.length=i/\∀a∈all,za 2 (yX a.ts) a.d/\a.ts.length<=zg l+1) ps.length ow ?_ ?_ ?_
  ·have u:∃all,Own h h 1 (zj all) .nilsl/\all.length=0/\∀a∈all,za 2 (yX a.ts) a.d/\a.ts.length<=zg l+1:=⟨[],Own.start (Ext.refl h) 1,rfl,λa h=>by cases h⟩;simp only[go_sem,true_and,and_true,Int.ofNat_zero];exact u
  ·rintro i fr h2 B ec ew ⟨f7,f9,all,p,J,A⟩;obtain⟨o,H⟩:∃o,fr 6=o:=⟨_,rfl⟩;rw[H] at p;have a1:=wR ad B;generalize ps[i]=s at *
   simp only[go_sem, *];refine p.appH (ys:=zj [⟨[⟨s,[]⟩], .sl 2 [[.str s, .str []]] .full⟩]) yp uC yt ow (wE _) (by simp[zj]) (by rw[zY,qU];unfold lim;simp[zj];omega) (by rw[zY];unfold lim;simp[zj];omega) λd' h' a8=> ?_;have bk:∃al,Own h h' 1 (zj al) d'/\al.length=i+1/\∀a∈al,za 2 (yX a.ts) a.d/\a.ts.length<=zg l+1:=⟨all++ [⟨[⟨s,[]⟩], .sl 2 [[.str s, .str []]] .full⟩],by
    have:∀z:Alt,zj (all++ [z])=zj all++zj [z]:=λz=>by simp[zj]
    rw[this];exact a8,by simp[J],λx hx=>by
    rcases List.mem_append.1 hx with h1|h1
    ·exact A x h1
    ·cases List.mem_singleton.1 h1;exact⟨.inr ⟨_,rfl⟩,by simp⟩⟩
   exact au
  ·rintro fr h2 ec ⟨f7,f9,all,p,J,A⟩;obtain⟨o,H⟩:∃o,fr 6=o:=⟨_,rfl⟩;rw[H] at p;have a7:=jH (m:=zg l+1) p.isSl ow ow A;have W:=qg p.isSl;rw[J] at W;have N:=p.1;have bb:all.length<=ps.length:=ow;simp only[go_sem, *];refine(a7 _).mono ?_;rintro r h3 ⟨f,l',hf,b4,ak⟩;subst f;have f:=I (.tuple [r, .bool (decide ((ps.length:Int)<=64))]) h3 N ⟨r,_,rfl,l',hf,λq=>by have:=of_decide_eq_true q;omega,ak⟩;simp only[go_sem, *]
 |false=>
 have hk:k=2\/k=3:=by
  have h0:k≠0:=by simpa using k0
  have h1:k≠1:=by simpa using k1
  omega
 have b5:l.length<=120:=by
  have:∀l:List Ex,l.length<=zg l:=λl=>by
   induction l with
   |nil=>simp
   |cons e l ih=>simp only[zg,List.length_cons];cases e;simp only[Ex.size];omega
  have:=this l;omega
 have U:∀i (hi:i<l.length) g,zA prog 209 [.agg [ca,cb,ce,cp], .agg l[i].cells] g λr h'=>h'=g/\WT l[i].size r:=λi hi=>by
  have hm:=List.getElem_mem hi;have:=yg hm;exact ih ow (uK a3 _ hm) (V9.1 a2 _ hm) ow
 refine xO mix func209 EU rfl rfl ?_;simp only[f209,gJ];simp only[Ex.cells,Ex.kind,Ex.name,Ex.exc,Ex.d];simp only[go_sem, *];refine zD (λi fr h=>fr 2= .iptr [ca,cb,ce,cp] 0/\fr 3= .iptr [.int .i64 k, .str nm, .str x,d] 0/\fr 10= .int .i64 (i:Int)/\h=g/\∃out,Fin 1 (zj out) (fr 6)/\zC4 k i out.length/\∀a∈out,AltB (zg (l.take i)) a) l.length ow ?_ ?_ ?_
 ·have u:∃out,Fin 1 (zj out) .nilsl/\zC4 k 0 out.length/\∀a∈out,AltB (zg (l.take 0)) a:=⟨[], .inl ⟨rfl,rfl⟩,⟨by simp,λ_=>by simp⟩,λa h=>by cases h⟩;simp only[go_sem,true_and,and_true,Int.ofNat_zero];exact u
 ·rintro i fr h B ec ew ⟨f2,f3,ag,f,out,p,F,j⟩;subst f;obtain⟨o,H⟩:∃o,fr 6=o:=⟨_,rfl⟩;rw[H] at p;have a1:=rv hd B;have S:=U i B;have ba:=Ix B;have a5:=YC l (i+1);have C:=C h (Ext.refl h);generalize l[i]=y at *
  simp only[Ex.cells] at a1 S;rw[ba] at a5⊢;simp only[go_sem, *];refine zP Heap.emp [(0, .no,false),(1, .no,false),(2, .no,false),(3, .no,false),(4, .no,false),(5, .no,false),(6, .no,false),(7, .no,false),(8, .no,false),(9, .no,false),(10, .no,false),(11, .no,false)] kr kr (λi ob e=>by cases e) ?_;simp only[go_sem, *];refine(S _).mono ?_;rintro r h2 ⟨f,q,b,rfl,l2,L,M,O⟩;subst f;cases b with
  |false=>
   simp only[go_sem, *]
  |true=>
  have M:=M rfl;have E:∀a∈out,AltB (zg (l.take i)+y.size) a:=λa h=>(j a h).mono ow;have G:∀a∈l2,AltB (zg (l.take i)+y.size) a:=λa h=>(O a h).mono ow;rcases hk with rfl|rfl
  ·have X:out.length<=64:=F.2 rfl;have P:∀r v,Fin 1 (zj v) r->(∀a∈v,AltB (zg (l.take i)+y.size) a)->v.length<=64->∃out,Fin 1 (zj out) r/\zC4 2 (i+1) out.length/\∀a∈out,AltB (zg (l.take i)+y.size) a:=λr v q1 q2 q3=>⟨v,q1,⟨by omega,λ_=>q3⟩,q2⟩;cases i0:((i:Int)==0) with
   |true=>
    have b1:i<=0:=by have:=beq_iff_eq.1 i0;omega
    have Z:=F.1;have K:=WQ (m:=zg (l.take i)+y.size) p.isSl L.isSl ow ow (λa h=>(E a h).io) (λa h=>(G a h).io);simp only[go_sem, *];refine(K _).mono ?_;rintro r h3 ⟨f,v,t,V,w⟩;subst f;have u:=P r v t w ow;have a6:=qg t.isSl;have R:decide ((v.length:Int)>64)=false:=decide_eq_false ow;simp only[go_sem, *]
   |false=>
    have a0:=D5 (m:=zg (l.take i)) (n:=y.size) p.isSl L.isSl X M ow j O;simp only[go_sem, *];refine(a0 _).mono ?_;rintro r h3 ⟨f,v,t,V,w⟩;subst f;have a6:=qg t.isSl;cases R:decide ((v.length:Int)>64) with
    |true=>
     simp only[go_sem, *]
    |false=>
     have u:=P r v t w (by have:=of_decide_eq_false R;omega);exact au
  ·have Z:=F.1;have K:=WQ (m:=zg (l.take i)+y.size) p.isSl L.isSl ow ow (λa h=>(E a h).io) (λa h=>(G a h).io);simp only[go_sem, *];refine(K _).mono ?_;rintro r h3 ⟨f,v,t,V,w⟩;subst f;have u:∃out,Fin 1 (zj out) r/\zC4 3 (i+1) out.length/\∀a∈out,AltB (zg (l.take i)+y.size) a:=⟨v,t,⟨by omega,λq=>by cases q⟩,w⟩;exact au
 ·rintro fr h ec ⟨f2,f3,ag,f,out,p,F,j⟩;subst f;obtain⟨o,H⟩:∃o,fr 6=o:=⟨_,rfl⟩;rw[H] at p;have W:=qg p.isSl;rw[List.take_length] at j;have f:=I (.tuple [o, .bool (decide ((out.length:Int)<=64))]) h (Ext.refl h) ⟨o,_,rfl,out,p,λq=>by have:=of_decide_eq_true q;omega,λa h=>(j a h).mono ow⟩;exact au
def OfR (r:D):Prop:=∃q n,r= .tuple [q, .int .i64 n]/\∃l m,Fin 1 (zj l) q/\l.length<=64/\∀a∈l,AltB m a
def zGI {s:D} (m:yw c s) (u:c.Sm) (k:c.ls.length<=40) (j:e.Ok) (p:e.size<=120) (g:Heap):zA prog 137 [s, .agg e.cells] g λr h'=>h'=g/\OfR r:=by
 refine xP λQ t=> ?_;have h1:=WS m u j ow;have d:=λw=>D8 m u k _ (Nat.le_refl _) j w p;obtain⟨ca,cb,ce,cp,rfl,_,_,_,_⟩:=m;have i:∀n,Q (.tuple [.nilsl, .int .i64 n]) g:=λn=>t _ _ ⟨rfl, .nilsl,n,rfl,[],0, .inl ⟨rfl,rfl⟩,by simp,λa h=>by cases h⟩;have f:∀q l,Fin 1 (zj l) q->l.length<=64->(∀a∈l,AltB e.size a)->Q (.tuple [q, .int .i64 0]) g:=λq l h1 d h3=>t _ _ ⟨rfl,q,0,rfl,l,_,h1,d,h3⟩;simp only[Ex.cells] at h1 d⊢;refine xO mix func137 zEW rfl rfl ?_;simp only[f137,gJ];simp only[go_sem, *];refine(h1 _).mono ?_;rintro r h ⟨o,n,rfl,y⟩;subst o;cases A:(n==0) with
 |false=>
  have z:=i n;simp only[go_sem, *]
 |true=>
 have d:=d (y (by simpa using A));simp only[go_sem, *];refine(d _).mono ?_;rintro r h ⟨o,q,b,rfl,l,hf,x,v⟩;subst o;cases b with
 |false=>
  simp only[go_sem, *]
 |true=>
  have hf:=f q l hf (x rfl) v;exact au
def OwS (s:List UInt8) (G h:Heap) (d:D) (m:Nat):Prop:=∃ps,Own G h 1 (yV ps) d/\ps.length<=m/\∀p∈ps,p.length<=s.length
def OwS.app {s x:List UInt8} {G h:Heap} {m:Nat} {w:HidR K} (f:OwS s G h d m) (k:m<=2097152) (i:x.length<=s.length) (e:∀a h',OwS s G h' a (m+1)->K a h'):Km (zw prog false h.next 31 d (.sl 1 [[.str x]] tk) h) K w:=by
 obtain⟨c,h1,j,h3⟩:=f;refine h1.appH (ys:=yV [x]) yu jV ui ow (by simp[yV]) (by simp[yV]) (by rw[z8,tM];unfold lim;simp[yV];omega) (by rw[z8];unfold lim;simp[yV];omega) λa h' b=> ?_;refine e a h' ⟨c++ [x],?_,by simp;omega,λp g=> ?_⟩
 ·have:yV (c++ [x])=yV c++yV [x]:=by simp[yV]
  rw[this];exact b
 ·rcases List.mem_append.1 g with q|q
  ·exact h3 p q
  ·cases List.mem_singleton.1 q;exact i
def Iy (s:List UInt8) (V:s.length<=1048576) (b:Int) (g:Heap):zA prog 330 [.str s, .int .u8 b] g λr h'=>h'=g/\∃v,Fin 1 (yV v) r/\v.length<=s.length+1/\∀p∈v,p.length<=s.length:=by
 refine xU kr λC=>xS ?_;refine xP λQ E=> ?_;have F:∀h,sD prog 9 (.str s) h=some (.int .i64 s.length):=λh=>qn underlying9;have a:∀d h,OwS s g h d (s.length+1)->Q d h:=λd h ⟨v,h1,A,h3⟩=>by
  obtain⟨y,K,L⟩:=h1.fin qJ;exact E _ _ ⟨y,K,v,L,A,h3⟩
 have G:=oN;have l:∀ (u w:Nat),u<=w->w<=s.length->∀h,∃x,yj prog 9 (.str s) (some (.int .i64 (u:Int))) (some (.int .i64 (w:Int))) none h=some (.str x)/\x.length<=s.length:=λu w h1 A h=>⟨_,Ml h1 A h,by simp;omega⟩;have c:∀ (u:Nat),u<=s.length->∀h,∃x,yj prog 9 (.str s) (some (.int .i64 (u:Int))) none none h=some (.str x)/\x.length<=s.length:=λu h1 h=>⟨_,Ge h1 h,by simp⟩;clear E C;refine xO mix func330 zD0 rfl rfl ?_;simp only[f330,gJ];simp only[go_sem, *]
 refine zD (λi fr h=>fr 0= .str s/\fr 1= .int .u8 b/\fr 7= .int .i64 (i:Int)/\∃st:Nat,fr 6= .int .i64 (st:Int)/\st<=i/\OwS s g h (fr 5) i) s.length ow ?_ ?_ ?_
 ·have f:OwS s g g .nilsl 0:=⟨[],Own.start (Ext.refl g) 1,by simp,λp h=>by cases h⟩;clear a l c;simp only[go_sem,true_and,and_true,Int.ofNat_zero];exact⟨0,rfl,by omega,f⟩
 ·rintro i fr h B I T ⟨J,y,N,st,M,f,k⟩;obtain⟨o,z⟩:∃o,fr 5=o:=⟨_,rfl⟩;rw[z] at k;have S:tR prog 9 (.str s) (.int .i64 (i:Int))=some (.int .u8 s[i].toNat):=wM underlying9 (List.getElem?_eq_getElem B);obtain⟨x,O,t⟩:=l st i f ow h;have m:∀ {o:D} {h:Heap},OwS s g h o i->∃j:Nat,D.int .i64 (st:Int)= .int .i64 (j:Int)/\j<=i+1/\OwS s g h o (i+1):=λ⟨v,P,W,R⟩=>⟨st,rfl,by omega,v,P,by omega,R⟩;have n:∀ {o:D} {h:Heap},OwS s g h o (i+1)->∃j:Nat,D.int .i64 ((i+1:Nat):Int)= .int .i64 (j:Int)/\j<=i+1/\OwS s g h o (i+1):=λq=>⟨i+1,rfl,by omega,q⟩;clear a l c;cases U:((s[i].toNat:Int)==b) with
  |true=>
   clear m;simp only[go_sem, *];refine k.app ow t λH h' e=> ?_;have n:=n e;clear k e;simp only[go_sem, *]
  |false=>
   have m:=m k;clear n k;exact au
 ·rintro fr h I ⟨J,y,N,st,M,f,k⟩;obtain⟨o,z⟩:∃o,fr 5=o:=⟨_,rfl⟩;rw[z] at k;obtain⟨x,O,t⟩:=c st f h;clear l c;simp only[go_sem, *];refine k.app ow t λH h' e=> ?_;have a:=a _ _ e;clear k e;exact au
def D9 (s:List UInt8) (t:s.length<=1048576) (g:Heap):zA prog 331 [.str s] g λr h'=>h'=g/\Mm r:=by
 refine xP λQ k=> ?_;have c:∀b,Q (.bool b) g:=λb=>k _ _ ⟨rfl,b,rfl⟩;have d:∀h,sD prog 9 (.str s) h=some (.int .i64 s.length):=λh=>qn underlying9;refine xO mix func331 zEL rfl rfl ?_;simp only[f331,gJ];cases h0:decide ((s.length:Int)<1) with
 |true=>
  repeat' first|simp only[go_sem, *]|apply bc<;>intro l
 |false=>
  have j:=of_decide_eq_false h0;have m:0<s.length:=ow;have o:tR prog 9 (.str s) (.int .i64 0)=some (.int .u8 s[0].toNat):=wM (n:=0) underlying9 (List.getElem?_eq_getElem m);generalize s[0]=z at *
  repeat' first|simp only[go_sem, *]|apply bc<;>intro l
  refine zD (λi fr h=>fr 0= .str s/\fr 3= .int .i64 (i:Int)/\h=g) s.length ow ?_ ?_ ?_
  ·simp only[go_sem,true_and,and_true,Int.ofNat_zero]
  ·rintro i fr h a e1 q ⟨e,f,rfl⟩;have p:tR prog 9 (.str s) (.int .i64 (i:Int))=some (.int .u8 s[i].toNat):=wM underlying9 (List.getElem?_eq_getElem a);generalize s[i]=y at *
   exact au
  ·rintro fr h e1 ⟨e,f,rfl⟩;exact au
def KZ (s:List UInt8) (u:s.length<=1048576) (g:Heap):zA prog 267 [.str s] g λr h'=>h'=g/\IsI r:=by
 refine xP λQ t=> ?_;have p:∀b,Q (.int .i64 b) g:=λb=>t _ _ ⟨rfl,b,rfl⟩;have q:∀h,sD prog 9 (.str s) h=some (.int .i64 s.length):=λh=>qn underlying9;have n:=Iy s u 47;refine xO mix func267 zDw rfl rfl ?_;simp only[f267,gJ]
 repeat' first|simp only[go_sem, *]|apply bc<;>intro o
 refine(n _).mono ?_;rintro r h ⟨d,e,hf,x,l⟩;subst d;have c:=hf.isSl;have v:=yQ c
 repeat' first|simp only[go_sem, *]|apply bc<;>intro o
 refine zD (λi fr h'=>fr 14=r/\fr 15= .int .i64 (e.length:Int)/\fr 16= .int .i64 (i:Int)/\h'=h) e.length ow ?_ ?_ ?_
 ·simp only[go_sem,true_and,and_true,Int.ofNat_zero]
 ·rintro i fr h a e1 B ⟨f,j,k,d⟩;subst d;have A:=wR c a;have m:=D9 e[i] (by have:=l _ (List.getElem_mem a);omega);generalize e[i]=y at *
  repeat' first|simp only[go_sem, *]|apply bc<;>intro o|(refine zA.mono (m _) ?_;rintro r h ⟨z,w,rfl⟩)
 ·rintro fr h e1 ⟨f,j,k,d⟩;subst d;exact au
def zB1 (k:Int):k=0\/k=1\/k=2\/k=3\/k=4\/((k==0)=false/\(k==1)=false/\(k==2)=false/\(k==3)=false/\(k==4)=false):=by
 by_cases h0:k=0
 ·exact .inl h0
 by_cases h1:k=1
 ·exact .inr (.inl h1)
 by_cases a:k=2
 ·exact .inr (.inr (.inl a))
 by_cases h3:k=3
 ·exact .inr (.inr (.inr (.inl h3)))
 by_cases b:k=4
 ·exact .inr (.inr (.inr (.inr (.inl b))))
 exact .inr (.inr (.inr (.inr (.inr ⟨by simpa using h0,by simpa using h1,by simpa using a,by simpa using h3,by simpa using b⟩))))
def zB2:zu prog 56 []=some (.agg zEx):=by simp[zu,Rl,JE,qG,D.notTuple,D.cells]
def Iz {f:Fac} (a:f.Ok) (g:Heap):zA prog 266 [.agg f.cells] g λr h'=>h'=g/\Mm r:=by
 refine xP λQ l=> ?_;have i:∀b,Q (.bool b) g:=λb=>l _ _ ⟨rfl,b,rfl⟩;have heq:=It _ (Nat.le_refl _) a.e a.es (e2:= .mk 0 [] [] [] .nilsl) (by simp[Ex.Ok,okL,exs,za.nil]);have o:=zB2;have c:=yQ a.list;have j:=pZ;obtain⟨k,q,z,A,B,s,p,e,y,d⟩:=f;simp only[Fac.cells,Ex.cells,Ex.kind,Ex.name,Ex.exc,Ex.d] at heq c⊢;generalize e.kind=u at *
 generalize e.name=v at *
 generalize e.exc=x at *
 generalize e.d=t at *
 rcases zB1 k with rfl|rfl|rfl|rfl|rfl| ⟨k0,k1,k2,k3,k4⟩
 all_goals
  refine xO mix func266 zFj rfl rfl ?_;simp only[f266,gJ]
  repeat' first|simp only[go_sem, *]|apply bc<;>intro m
  refine zV kr ?_
  repeat' first|simp only[go_sem, *]|apply bc<;>intro m|(refine zA.mono (heq _) ?_;rintro r h ⟨n,w,rfl⟩)
theorem CA {Y:D} (o:yw c Y) (hs:c.Sm) {f:Fac} (j:f.Ok) (g:Heap):zA prog 207 [Y, .agg f.cells] g λr h'=>h'=g/\IsI r:=by
 refine xU kr λad=> ?_;refine xP λQ Z=> ?_;have a:∀b h,Ext g h->Q (.int .i64 b) h:=λb h z=>Z _ _ ⟨z,by simp[below],b,rfl⟩;have B:∀b,Q (.int .i64 b) g:=λb=>a b g (Ext.refl g);have v:=Iz j;have t:=KZ f.comp j.comp;have u:=KZ f.out j.out;have p:=WS o hs j.e j.es;have l:=bq o hs;have bo:=yQ j.list;have m:=λi (hi:i<f.list.length)=>wR j.list hi;have bk:=j.ll;have ba:=pZ;have ak:=oU;obtain⟨ca,cb,ce,cp,rfl,_,_,_,_⟩:=o;clear Z;obtain⟨k,cm,ot,rl,wy,du,cg,e,I,d⟩:=f;simp only[Fac.cells,Ex.cells,Ex.kind,Ex.name,Ex.exc,Ex.d] at *
 clear j;generalize e.kind=ek at *
 generalize e.name=en at *
 generalize e.exc=ex at *
 generalize e.d=ed at *
 cases k1:decide (k<0) with
 |true=>
  clear v t u p l a;refine xO mix func207 EG rfl rfl ?_;simp only[f207,gJ]
  repeat' first|simp only[go_sem, *]|apply bc<;>intro o
 |false=>
 cases k2:decide (k>4) with
 |true=>
  clear v t u p l a;refine xO mix func207 EG rfl rfl ?_;simp only[f207,gJ]
  repeat' first|simp only[go_sem, *]|apply bc<;>intro o
 |false=>
 have hk:k=0\/k=1\/k=2\/k=3\/k=4:=by
  have:=of_decide_eq_false k1;have:=of_decide_eq_false k2;omega
 clear k1 k2;have A:=λ(x:Lic) (h:Heap)=>pq x h h.next;rcases hk with rfl|rfl|rfl|rfl|rfl
 all_goals
  refine xO mix func207 EG rfl rfl ?_;simp only[f207,gJ]
  repeat' first|simp only[go_sem, *]|apply bc<;>intro o|(refine zA.mono (v _) ?_;rintro r h ⟨G,w,rfl⟩)|(refine zA.mono (t _) ?_;rintro r h ⟨G,w,rfl⟩)|(refine zA.mono (u _) ?_;rintro r h ⟨G,w,rfl⟩)
 all_goals try
  refine(p _).mono ?_;rintro r h ⟨F,n,rfl,_⟩;subst F;clear v t u p l a;exact au
 all_goals
  clear v t u p B;refine zD (λi fr h=>fr 2= .iptr [ca,cb,ce,cp] 0/\(∃J K L M N O P R S T y,fr 3= .iptr [J,K,L,M,N,O,P,R,S,T,y,d] 0)/\fr 5= .int .i64 (i:Int)/\Ext g h) I.length ow ?_ ?_ ?_
  ·have z:=Ext.refl g;clear a m;simp only[go_sem,true_and,and_true,Int.ofNat_zero];exact⟨⟨_,_,_,_,_,_,_,_,_,_,_,rfl⟩,z⟩
  ·rintro i fr h C ec ew ⟨V,⟨J,K,L,M,N,O,P,R,S,T,y,E⟩,W,z⟩;have b1:=m i C;generalize I[i]=s at *
   have bb:∀h,HLe Heap.emp h:=λh i ob e=>by cases e
   clear m
   repeat' first|simp only[go_sem, *]|apply bc<;>intro o
   refine zP Heap.emp [(0, .st,true),(1, .no,true),(2, .st,true),(3, .no,true),(4, .no,true),(5, .st,true),(6, .sq,true),(7, .no,true),(8, .no,true),(9, .no,true),(10, .no,true),(11, .no,true),(12, .no,true)] kr kr (λi ob e=>by cases e) ?_
   repeat' first|simp only[go_sem, *]|apply bc<;>intro o
   refine Ek _ (λH=>l s H) ⟨_,⟨[],[],0,[]⟩,false,rfl,λq=>by cases q⟩ ?_;rintro r ⟨x,b,rfl,_⟩;have ag:=A x h;have X:=z.new z.1 (.row [.str x.name, .str x.fam, .int .i64 x.ver, .str x.text]);cases b with
   |false=>
    have hf:=a 7 _ X;clear l a A
    repeat' first|simp only[go_sem, *]|apply bc<;>intro o
   |true=>
    clear l a A
    repeat' first|simp only[go_sem, *]|apply bc<;>intro o
    exact⟨_,_,_,_,_,_,_,_,_,_,_,rfl⟩
  clear l A;rintro fr h ec ⟨V,⟨J,K,L,M,N,O,P,R,S,T,y,E⟩,W,z⟩
  repeat' first|simp only[go_sem, *]|apply bc<;>intro o
  refine ke (λi fr h'=>fr 3= .iptr [J,K,L,M,N,O,P,R,S,T,y,d] 0/\fr 8= .int .i64 (i:Int)/\h'=h) I.length ow ?_ ?_ ?_
  ·simp only[go_sem,true_and,and_true,Int.ofNat_zero,E];rfl
  ·clear V E W fr;rintro i fr h' C U ew ai ⟨E,f8,F⟩;subst F;have b1:=m i ow;have b2:=m (i+1) C;have a:=λb=>a b _ z;generalize I[i]=s at *
   generalize I[i+1]=s2 at *
   clear m
   repeat' first|simp only[go_sem, *]|apply bc<;>intro o
   refine zV kr ?_;exact au
  ·clear V E W fr;rintro i fr h' U ⟨E,f8,F⟩;subst F;have a:=λb=>a b _ z;clear m;exact au
def Qh {o x:D} (a:yw c o) (s:c.Sm) (t:za 12 (p0 fs) x) (H:fs.length<=1048576) (m:∀f∈fs,f.Ok) (g:Heap):zA prog 136 [o,x] g λr h'=>h'=g/\∃i n,r= .tuple [.int .i64 i, .int .i64 n]:=by
 refine xP λQ C=> ?_;have p:∀i n,Q (.tuple [.int .i64 i, .int .i64 n]) g:=λi n=>C _ _ ⟨rfl,i,n,rfl⟩;have k:=sL a s;have l:=λi (E:i<fs.length)=>CA a s (m _ (List.getElem_mem E));have q:=tO t;have B:=oU;obtain⟨ca,cb,ce,cp,rfl,_,_,_,_⟩:=a;refine xO mix func136 zD7 rfl rfl ?_;simp only[f136,gJ]
 repeat' first|simp only[go_sem, *]|apply bc<;>intro a
 refine(k _).mono ?_;rintro r h ⟨j,n,rfl,_⟩;subst j
 repeat' first|simp only[go_sem, *]|apply bc<;>intro a
 refine zD (λi fr h'=>fr 1=x/\fr 2= .iptr [ca,cb,ce,cp] 0/\fr 6= .int .i64 (i:Int)/\h'=h) fs.length ow ?_ ?_ ?_
 ·simp only[go_sem,true_and,and_true,Int.ofNat_zero]
 ·rintro i fr h' d v G ⟨y,z,A,j⟩;subst j;have u:=qZ t d;have b:=l i d;generalize fs[i]=f at *
  simp only[Fac.cells] at u b
  repeat' first|simp only[go_sem, *]|apply bc<;>intro a
  refine zP Heap.emp [(0, .no,false),(1, .no,false),(2, .no,false),(3, .no,false),(4, .no,false),(5, .no,false),(6, .no,false)] kr kr (λi I e=>by cases e) ?_
  repeat' first|simp only[go_sem, *]|apply bc<;>intro a|(refine zA.mono (b _) ?_;rintro r h ⟨F,w,rfl⟩)
 ·rintro fr h' v ⟨y,z,A,j⟩;subst j;exact au
def RI {l:List (List UInt8)} (c:za 1 (yV l) d) (v:l.length<=1048576) (s:List UInt8) (g:Heap):zA prog 131 [d, .str s] g λr h'=>h'=g/\IsI r:=by
 refine xP λQ p=> ?_;have e:∀n,Q (.int .i64 n) g:=λn=>p _ _ ⟨rfl,n,rfl⟩;have f:=yQ c;refine xO mix func131 zEV rfl rfl ?_;simp only[f131,gJ]
 repeat' first|simp only[go_sem, *]|apply bc<;>intro u
 refine zD (λi fr h=>fr 0=d/\fr 1= .str s/\fr 5= .int .i64 (i:Int)/\h=g) l.length ow ?_ ?_ ?_
 ·simp only[go_sem,true_and,and_true,Int.ofNat_zero]
 ·rintro i fr h a j t ⟨k,m,o,b⟩;subst b;have q:=wR c a;generalize l[i]=y at *
  exact au
 ·rintro fr h j ⟨k,m,o,b⟩;subst b;exact au
structure Als where
 l:List Alt
 d:D
structure Als.Ok (a:Als):Prop where
 sl:za 1 (zj a.l) a.d
 len:a.l.length<=64
 pl:yi [a.d]
def WU (l:List Als):List (List D):=l.map λa=>[a.d]
def mQ (l:List Als):(WU l).length=l.length:=List.length_map ..
def I0 {l:List Als} (h:i<l.length):(WU l)[i]? =some [l[i].d]:=by simp[WU,h]
def I1 (l:List Als):∀x∈WU l,x.length=1:=λx b=>by
 obtain⟨a,_,rfl⟩:=List.mem_map.1 b;rfl
def I2 {l:List Als} (a:za 1 (WU l) d) (h:Heap):sD prog 61 d h=some (.int .i64 l.length):=by rw[yo a underlying61,mQ]
def CB {l:List Als} (a:za 1 (WU l) d) (b:i<l.length):zT prog 61 d (.int .i64 (i:Int))=some (.iptr [l[i].d] 0):=zd a nC mw (I0 b)
def I3 (d:D) (nid:Nat) (h:Heap) (h1:d.cells= [d]) (a:d.notTuple=true) (h3:d.flat=true):zI prog false nid 61 1 [(0,d)] h=some (.sl 1 [[d]] .full,h):=by
 have:=zy (P:=prog) (nid:=nid) (h:=h) (x:=d) nC Ua mw rfl rfl ow ow a (by rw[h1];rfl);rw[h1] at this;exact this
def RJ (m:Nat) (r:D):Prop:=∃ts os tq oq n,r= .tuple [tq,oq, .int .i64 n]/\Fin 1 (WU ts) tq/\(∀a∈ts,a.Ok)/\ts.length<=m/\Fin 1 (yV os) oq/\os.length<=m
def RJ.nil (m:Nat) (n:Int):RJ m (.tuple [.nilsl, .nilsl, .int .i64 n]):=⟨[],[], .nilsl, .nilsl,n,rfl, .inl ⟨rfl,rfl⟩,(λa h=>by cases h),by simp, .inl ⟨rfl,rfl⟩,by simp⟩
def cD (g:Heap) (m:Nat) (td od:D) (h:Heap):Prop:=∃ts os,Own2 g h 1 (WU ts) td 1 (yV os) od/\(∀a∈ts,a.Ok)/\ts.length<=m/\os.length<=m
theorem Ka {D0 x:D} (hc:yw c D0) (hs:c.Sm) (Y:c.ls.length<=40) (P:za 12 (p0 fs) x) (hl:fs.length<=260) (M:∀f∈fs,f.Ok) (H:∀f∈fs,f.e.size<=120) (g:Heap):zA prog 69 [D0,x] g λr h'=>h'=g/\RJ fs.length r:=by
 refine xU kr λa6=>xS ?_;refine xP λQ hQ=> ?_;have ag:=Qh hc hs P ow M;have L:=λi (hi:i<fs.length)=>zGI hc hs Y (M _ (List.getElem_mem hi)).e (H _ (List.getElem_mem hi));have a5:=tO P;have a8:=oU;have a9:=pZ;have d:∀n h,Ext g h->Q (.tuple [.nilsl, .nilsl, .int .i64 n]) h:=λn h Z=>hQ _ _ ⟨Z,by simp[zh,zt,below,zf],by simpa [zh,zt] using RJ.nil _ n⟩;have y:∀td od h,cD g fs.length td od h->Q (.tuple [td,od, .int .i64 0]) h:=λtd od h ⟨j,k,u,h1,X,h3⟩=>by
  obtain⟨T,V,f3⟩:=u.a.fin λx P=>by
   obtain⟨a,ha,rfl⟩:=List.mem_map.1 P;exact(h1 a ha).pl
  obtain⟨g1,g2,g3⟩:=u.b.fin qJ;exact hQ _ _ ⟨T,by simp[zh,zt,below,zf,V,g2],j,k,zh td,zh od,0,by simp[zh,zt],f3,h1,X,g3,h3⟩
 obtain⟨ca,cb,ce,cp,rfl,_,_,_,_⟩:=hc;have a7:=oN;refine xO mix func69 zHt rfl rfl ?_;simp only[f69,gJ];simp only[go_sem, *];refine(ag _).mono ?_;rintro r h0 ⟨N,n1,n2,rfl⟩;subst N;cases e0:(n2==0) with
 |false=>
  have hn:=d n2 h0 (Ext.refl h0);simp only[go_sem, *]
 |true=>
 have O:cD h0 0 .nilsl .nilsl h0:=⟨[],[],Own2.start (Ext.refl h0) 1 1,(λa h=>by cases h),by simp,by simp⟩;simp only[go_sem, *];refine zD (λi fr h=>fr 1=x/\fr 2= .iptr [ca,cb,ce,cp] 0/\fr 11= .int .i64 (i:Int)/\cD h0 i (fr 9) (fr 10) h) fs.length ow ?_ ?_ ?_
 ·clear d y L;simp only[go_sem,true_and,and_true,Int.ofNat_zero];exact O
 ·clear O;rintro i fr h J ec ew ⟨T,V,U,u⟩;obtain⟨td,W⟩:∃o,fr 9=o:=⟨_,rfl⟩;obtain⟨od,B⟩:∃o,fr 10=o:=⟨_,rfl⟩;rw[W,B] at u;have a1:=qZ P J;have A:=L i J;have Z:Ext h0 h:=by obtain⟨_,_,q,_⟩:=u;exact q.a.1
  have d:=λn=>d n h Z;have ai:∀s,zA prog 131 [od, .str s] h λr h'=>h'=h/\IsI r:=λs=>by
   obtain⟨j,k,q,_,_,G⟩:=u;exact RI q.b.isSl ow s h
  generalize fs[i]=f at *
  simp only[Fac.cells,Ex.cells] at a1 A;have a0:cD h0 (i+1) td od h:=by
   obtain⟨j,k,E,F,R,G⟩:=u;exact⟨j,k,E,F,by omega,by omega⟩
  have a4:∀t h',cD h0 (i+1) t od h'->∀s,zA prog 131 [od, .str s] h' λr p=>p=h'/\IsI r:=λt h' ⟨j,k,q,_,_,G⟩ s=>RI q.b.isSl ow s h';have I:∀t h' (K:D->Heap->Prop) (w:HidR K) s,(∃j k,Own2 h0 h' 1 (WU j) t 1 (yV k) od/\(∀a∈j,a.Ok)/\j.length<=i+1/\k.length<=i)->(∀C p,cD h0 (i+1) t C p->K C p)->Km (zw prog false h'.next 31 od (.sl 1 [[.str s]] .full) h') K w:=λt h' K w s ⟨j,k,E,F,R,G⟩ hK=>by
   refine E.swap.appH (zs:=yV [s]) yu jV ui ow (by simp[yV]) (by simp[yV]) (by rw[z8,tM];unfold lim;simp[yV];omega) (by rw[z8];unfold lim;simp[yV];omega) λS p v=> ?_;refine hK S p ⟨j,k++ [s],?_,F,R,by simp;omega⟩
   have:yV (k++ [s])=yV k++yV [s]:=by simp[yV]
   rw[this];exact v.swap
  cases k1:(f.kind==1) with
  |true=>
   have k2:(f.kind==2)=false:=by
    have:=beq_iff_eq.1 k1;rw[this];rfl
   simp only[go_sem, *];refine zP Heap.emp [(0, .no,false),(1, .no,false),(2, .no,false),(3, .no,false),(4, .no,false),(5, .no,false),(6, .no,false),(7, .no,false),(8, .no,false),(9, .no,false),(10, .no,false),(11, .no,false)] kr kr (λi ob e=>by cases e) ?_;simp only[go_sem, *];refine(A _).mono ?_;rintro r X ⟨N,q,n,rfl,l,m,hf,ak,ad⟩;subst N;cases n0:(n==0) with
   |false=>
    have hn:=d n;simp only[go_sem, *]
   |true=>
   obtain⟨z1,z2,z3⟩:=zK hf.isSl;have a2:=λnid h=>I3 q nid h z1 z2 z3;obtain⟨j,k,E,F,R,G⟩:=u;simp only[go_sem, *];refine E.appH (zs:=WU [⟨l,q⟩]) nC PW mw ow (I1 _) (by simp[WU]) (by rw[mQ,Yq];unfold lim;simp[WU];omega) (by rw[mQ];unfold lim;simp[WU];omega) λS h' v=> ?_;have ba:cD h0 (i+1) S od h':=⟨j++ [⟨l,q⟩],k,by
    have:∀z:Als,WU (j++ [z])=WU j++WU [z]:=λz=>by simp[WU]
    rw[this];exact v,λa ha=>by
    rcases List.mem_append.1 ha with h1|h1
    ·exact F a h1
    ·cases List.mem_singleton.1 h1;exact⟨hf.isSl,ak,pG hf (cC ad)⟩,by simp;omega,by omega⟩
   simp only[go_sem, *]
  |false=>
  cases k2:(f.kind==2) with
  |false=>
   simp only[go_sem, *]
  |true=>
  have a3:=λK w s hK=>I td h K w s (by obtain⟨j,k,E,F,R,G⟩:=u;exact⟨j,k,E,F,by omega,G⟩) hK;simp only[go_sem, *];refine(ai _).mono ?_;rintro r X ⟨N,w,rfl⟩;subst N;cases w0:decide (w<0) with
  |false=>
   simp only[go_sem, *]
  |true=>
   simp only[go_sem, *];refine a3 _ _ _ λC h' v=> ?_;exact au
 ·rintro fr h ec ⟨T,V,U,u⟩;obtain⟨td,W⟩:∃o,fr 9=o:=⟨_,rfl⟩;obtain⟨od,B⟩:∃o,fr 10=o:=⟨_,rfl⟩;rw[W,B] at u;have hf:=y td od h u;exact au
def Kb {l:List Int} (a:za 1 (qL l) d) (h:Heap):sD prog 45 d h=some (.int .i64 l.length):=by rw[yo a underlying45,yN]
def RK {l:List Int} (a:za 1 (qL l) d) (b:i<l.length):zT prog 45 d (.int .i64 (i:Int))=some (.iptr [.int .i64 l[i]] 0):=zd a yK wj (by simp[qL,b])
def I4 (n:Int) (nid:Nat) (h:Heap):zI prog false nid 45 1 [(0, .int .i64 n)] h=some (.sl 1 [[.int .i64 n]] .full,h):=zy (x:= .int .i64 n) yK uV wj rfl rfl ow ow rfl rfl
def OwI (G h:Heap) (d:D) (m:Nat):Prop:=∃l,Own G h 1 (qL l) d/\l.length<=m
def OwI.app {G h:Heap} {m:Nat} {n:Int} {w:HidR K} (e:OwI G h d m) (g:m<=2097152) (c:∀a h',OwI G h' a (m+1)->K a h'):Km (zw prog false h.next 45 d (.sl 1 [[.int .i64 n]] tk) h) K w:=by
 obtain⟨l,h1,f⟩:=e;refine h1.appH (ys:=qL [n]) yK Yo wj ow (by simp[qL]) (by simp[qL]) (by rw[yN,mr];unfold lim;simp[qL];omega) (by rw[yN];unfold lim;simp[qL];omega) λa h' b=> ?_;refine c a h' ⟨l++ [n],?_,by simp;omega⟩
 have:qL (l++ [n])=qL l++qL [n]:=by simp[qL]
 rw[this];exact b
def I5 {M x:D} (O:yw c M) (hs:c.Sm) (H:c.ls.length<=40) (hx:za 12 (p0 fs) x) (Z:fs.length<=260) (K:∀f∈fs,f.Ok) (B:∀f∈fs,f.e.size<=120) (g:Heap):zA prog 62 [M,x] g λr h'=>h'=g/\∃q n l,r= .tuple [q, .int .i64 n]/\za 1 (qL l) q/\l.length<=520:=by
 refine xU kr λP=>xS ?_;refine xP λQ I=> ?_;have C:=Ka O hs H hx Z K B;have k:∀n h,Ext g h->Q (.tuple [.nilsl, .int .i64 n]) h:=λn h X=>I _ _ ⟨X,by simp[zh,zt,below,zf], .nilsl,n,[],by simp[zh,zt], .inl ⟨rfl,rfl⟩,by simp⟩;have a:∀d h,OwI g h d 520->Q (.tuple [d, .int .i64 0]) h:=λd h ⟨l,J,h1⟩=>by
  obtain⟨V,s,W⟩:=J.fin (dn _);exact I _ _ ⟨V,by simp[zh,zt,below,zf,s],zh d,0,l,by simp[zh,zt],W.isSl,h1⟩
 obtain⟨ca,cb,ce,cp,rfl,Y,_,_,_⟩:=O;have R:=I4;have ad:=wU Y;clear I;refine xO mix func62 zIR rfl rfl ?_;simp only[f62,gJ];simp only[go_sem, *];refine(C _).mono ?_;rintro r h0 ⟨hq,E,os,tq,T,n,rfl,S,b,a2,J,a0⟩;subst hq;clear C;cases e0:(n==0) with
 |false=>
  have hn:=k n h0 (Ext.refl h0);clear k a b;simp only[go_sem, *]
 |true=>
 have v:OwI h0 h0 .nilsl 0:=⟨[],Own.start (Ext.refl h0) 1,by simp⟩;have p:=I2 S.isSl;have ai:=yQ J.isSl;clear k;simp only[go_sem, *];refine zD (λi fr h=>fr 2= .iptr [ca,cb,ce,cp] 0/\fr 6=tq/\fr 7=T/\fr 10= .int .i64 (i:Int)/\OwI h0 h (fr 9) i) E.length ow ?_ ?_ ?_
 ·clear a b;simp only[go_sem,true_and,and_true,Int.ofNat_zero];exact v
 ·clear v;rintro i fr h p A U ⟨s,G,z,u,j⟩;obtain⟨o,m⟩:∃o,fr 9=o:=⟨_,rfl⟩;rw[m] at j;have a1:=CB S.isSl p;have L:=b _ (List.getElem_mem p);have ag:=qg L.sl;generalize E[i]=t at *
  clear a b;simp only[go_sem, *];refine j.app ow λN h' w=> ?_;clear j;exact au
 clear v;rintro fr h A ⟨s,G,z,u,j⟩;obtain⟨o,m⟩:∃o,fr 9=o:=⟨_,rfl⟩;rw[m] at j;have y:OwI h0 h o (E.length+0):=j;clear j;simp only[go_sem, *];refine zD (λi fr h=>fr 2= .iptr [ca,cb,ce,cp] 0/\fr 7=T/\fr 11= .int .i64 (i:Int)/\OwI h0 h (fr 9) (E.length+i)) os.length ow ?_ ?_ ?_
 ·clear a b;simp only[go_sem,true_and,and_true,Int.ofNat_zero,s,z,m];exact y
 ·clear y s G z u m A fr h;rintro i fr h p A U ⟨s,z,F,j⟩;obtain⟨o,m⟩:∃o,fr 9=o:=⟨_,rfl⟩;rw[m] at j;clear a b;simp only[go_sem, *];refine j.app ow λN h' w=> ?_;have ak:OwI h0 h' N (E.length+(i+1)):=w;clear j w;exact au
 ·clear y s G z u m A fr h;rintro fr h A ⟨s,z,F,j⟩;obtain⟨o,m⟩:∃o,fr 9=o:=⟨_,rfl⟩;rw[m] at j;have hf:=a o h (by obtain⟨l,q1,q2⟩:=j;exact⟨l,q1,by omega⟩);clear a b j;exact au
def I6 {A x:D} (s:yw c A) (K:c.Sm) (v:c.ls.length<=40) (L:za 12 (p0 fs) x) (H:fs.length<=260) (w:∀f∈fs,f.Ok) (p:∀f∈fs,f.e.size<=120) (g:Heap):zA prog 27 [A,x] g λr h'=>h'=g/\∃a b,r= .tuple [.int .i64 a, .int .i64 b]:=by
 refine xP λQ G=> ?_;have y:=I5 s K v L H w p;have B:∀a b,Q (.tuple [.int .i64 a, .int .i64 b]) g:=λa b=>G _ _ ⟨rfl,a,b,rfl⟩;obtain⟨ca,cb,ce,cp,rfl,O,_,_,_⟩:=s;refine xO mix func27 zHq rfl rfl ?_;simp only[f27,gJ]
 repeat' first|simp only[go_sem, *]|apply bc<;>intro s
 refine(y _).mono ?_;rintro r h0 ⟨d,q,n,l,rfl,j,I⟩;subst d;have J:=Kb j
 repeat' first|simp only[go_sem, *]|apply bc<;>intro s
 refine zD (λi fr h=>fr 6=q/\fr 8= .int .i64 (i:Int)/\h=h0) l.length ow ?_ ?_ ?_
 ·simp only[go_sem,true_and,and_true,Int.ofNat_zero]
 ·rintro i fr h k o E ⟨m,u,d⟩;subst d;have C:=RK j k;generalize l[i]=z at *
  exact au
 rintro fr h o ⟨m,u,d⟩;subst d;have N:=isI
 repeat' first|simp only[go_sem, *]|apply bc<;>intro s
 refine zD (λi fr h'=>fr 6=q/\fr 10= .int .i64 (i:Int)/\h'=h/\IsI (fr 9)) l.length ow ?_ ?_ ?_
 ·simp only[go_sem,true_and,and_true,Int.ofNat_zero,m,isI]
 ·clear m u o fr;rintro i fr h k o E ⟨m,t,d,M,F⟩;subst d;have C:=RK j k;generalize l[i]=z at *
  exact au
 ·clear m u o fr;rintro fr h o ⟨m,t,d,M,F⟩;subst d;exact au
def Kc {m x:D} (j:yw c m) (p:c.Sm) (s:za 12 (p0 fs) x) (t:fs.length<=1048576) (k:∀f∈fs,f.Ok0) (g:Heap):zA prog 9 [m,x] g λr h'=>h'=g/\∃b,r= .bool b/\(b=true->Qk fs/\c.ls.length<=40):=by
 refine xP λQ n=> ?_;have hf:Q (.bool false) g:=n _ _ ⟨rfl,_,rfl,λq=>by cases q⟩;have l:=V7 j p s t k;have i:=λ(d:Qk fs/\c.ls.length<=40)=>I6 j p d.2 s d.1.1.2 (λf h=>(k f h).ok (d.1.2 f h)) d.1.2;have e:Qk fs/\c.ls.length<=40->∀b,Q (.bool b) g:=λd b=>n _ _ ⟨rfl,b,rfl,λ_=>d⟩;obtain⟨ca,cb,ce,cp,rfl,u,_,_,_⟩:=j;refine xO mix func9 ok9 rfl rfl ?_;simp only[f9,gJ]
 repeat' first|simp only[go_sem, *]|apply bc<;>intro j
 refine(l _).mono ?_;rintro r h ⟨o,b,rfl,d⟩;subst o;cases b with
 |false=>
  repeat' first|simp only[go_sem, *]|apply bc<;>intro j
 |true=>
 have d:=d rfl;have i:=i d;have e:=e d
 repeat' first|simp only[go_sem, *]|apply bc<;>intro j|(refine zA.mono (i _) ?_;rintro r h ⟨o,a,b,rfl⟩)
def kB (kp:Int) (i:Nat):Bool:=IntKind.u16.wrap (BitVec.ofInt IntKind.u16.bits (kp.fdiv (2^ (min ((i:Int)).toNat IntKind.u16.bits))) &&& BitVec.ofInt IntKind.u16.bits 1).toNat==1
def zB3 (f:Fac) (nid:Nat) (h:Heap):zI prog false nid 29 1 [(0, .agg f.cells)] h=some (.sl 12 [f.cells] .full,h):=zy ZI JF Yr rfl rfl ow ow rfl rfl
def KE.sl {a:List NdI} (h:KE a d):d.flat=true/\∀H,sD prog 35 d H=some (.int .i64 a.length):=by
 obtain⟨xs,h1,b,_⟩:=h;exact⟨(zK h1).2.2,λH=>by rw[yo h1 underlying35,b]⟩
def zHc (c:Cat) (fs:List Fac) (ta oa rd:D) (b:Bool):Prop:=(ta.flat=true/\oa.flat=true/\rd.flat=true)/\((yT c fs≠0/\b=false/\rd= .nilsl)\/(yT c fs=0/\b= !(wn c fs).isEmpty/\((b=true/\rd= .nilsl)\/(b=false/\KE ((nn c fs).map Nd.i) rd))))
protected def zBy.b {r:D} (h:zBy c fs r):∃b i g rd,r= .tuple [.agg [.bool b,i,g,rd], .int .i64 (yT c fs)]/\zHc c fs i g rd b:=by
 rcases h with⟨h0,rfl⟩ | ⟨h0,⟨q,f,rfl⟩ | ⟨h1,rd,d,rfl⟩⟩
 ·exact⟨_,_,_,_,rfl,⟨rfl,rfl,rfl⟩, .inl ⟨h0,rfl,rfl⟩⟩
 ·refine⟨_,_,_,_,by rw[h0],⟨by unfold tsF;split<;>rfl,by unfold owF;split<;>rfl,rfl⟩, .inr ⟨h0,?_, .inl ⟨rfl,rfl⟩⟩⟩;cases e:wn c fs with
  |nil=>rw[e] at f;cases f
  |cons a l=>rfl
 ·exact⟨_,_,_,_,by rw[h0],⟨rfl,rfl,d.sl.1⟩, .inr ⟨h0,by rw[h1];rfl, .inr ⟨rfl,d⟩⟩⟩
def zB4 {ca cb ce cp x:D} (j:yw c (.agg [ca,cb,ce,cp])) (k:c.Sm) (l:za 12 (p0 fs) x) (i:Qk fs) (a:∀f∈fs,f.Ok) (g:Heap):
  zA prog 19 [.agg [ca,cb,ce,cp],x] g λr h'=>h'=g/\∃b e d rd,r= .tuple [.agg [.bool b,e,d,rd], .int .i64 (yT c fs)]/\zHc c fs e d rd b:=
 (Io j k l i a (λh=>Nat.le_trans (KP h) (by decide)) g).mono λr h' q=>⟨q.1,q.2.b⟩
def Gv (H:Heap) {c a rd:D} (h1:c.flat=true) (d:a.flat=true) (h3:rd.flat=true) :zQ prog 37 (.ptr n 0) (.agg [.bool b,c,a,rd]) (H.new n (.row [.bool false, .nilsl, .nilsl, .nilsl]))=some (H.new n (.row [.bool b,c,a,rd])):=zi Ub ow rfl rfl (by simp[h1,d,h3];rfl)
def CC (h:Qk fs) (b:fs.length<=16) (a:gs.Sublist fs):Qk gs:=by
 have:=a.length_le;exact⟨⟨.inl ow,by omega⟩,λf hf=>h.2 f (a.subset hf)⟩
theorem j8 (m:yw c d) (hs:c.Sm) (Y:za 12 (p0 fs) x) (hl:fs.length<=1048576) (C:∀f∈fs,f.Ok0) (k:Int) (g:Heap):zA prog 6 [d,x, .int .u16 k] g λr _=>r= .bool true:=by
 refine xP λQ hQ=> ?_;have hT:∀h,Q (.bool true) h:=λh=>hQ _ _ rfl;have L:=jz;have N:=Kc m hs Y hl C;have a0:=tO Y;obtain⟨ca,cb,ce,cp,rfl,_,_,_,_⟩:=id m;clear hQ;refine xO mix func6 ok6 rfl rfl ?_;simp only[f6,gJ]
 repeat' first|simp only[go_sem, *]|apply bc<;>intro m|(refine zA.mono (L _) ?_;rintro r h ⟨rfl,D⟩)
 refine(N _).mono ?_;rintro r h ⟨D,b,rfl,z⟩;subst D;clear L N;cases b with
 |false=>
  clear z
  repeat' first|simp only[go_sem, *]|apply bc<;>intro m
 |true=>
 have z:=(z rfl).1;have o:∀f∈fs,f.Ok:=λf hf=>(C f hf).ok (z.2 f hf);cases R:decide ((fs.length:Int)>16) with
 |true=>
  repeat' first|simp only[go_sem, *]|apply bc<;>intro m
 |false=>
 have I:fs.length<=16:=by have:=of_decide_eq_false R;omega
 repeat' first|simp only[go_sem, *]|apply bc<;>intro m
 rename Heap=>g
 refine zD (λi fr h=>fr 1=x/\fr 2= .int .u16 k/\fr 3= .iptr [ca,cb,ce,cp] 0/\fr 25=x/\fr 26= .int .i64 (fs.length:Int)/\fr 27= .int .i64 (i:Int)/\Own g h 12 (p0 (zo fs (Ik (kB k) i))) (fr 7)) fs.length ow ?_ ?_ ?_
 ·simp only[go_sem,true_and,and_true,Int.ofNat_zero];exact Own.start (Ext.refl g) 12
 ·rintro i fr h s ec ew ⟨f1,f2,f3,Z,ad,ag,v⟩;obtain⟨e,f7⟩:∃d,fr 7=d:=⟨_,rfl⟩;rw[f7] at v;have a1:=qZ Y s;have M:=o _ (List.getElem_mem s);have u:=bp M h h.next;have h1:um .shr .u16 .i64 k (i:Int)=some (.int .u16 (k.fdiv (2^ (min ((i:Int)).toNat IntKind.u16.bits)))):=by
   simp only[um,ck];rw[iq ow]
  obtain⟨a,W⟩:∃a,k.fdiv (2^ (min ((i:Int)).toNat IntKind.u16.bits))=a:=⟨_,rfl⟩;rw[W] at h1;have w:um .and .u16 .u16 a 1=some (.int .u16 (IntKind.u16.wrap (BitVec.ofInt IntKind.u16.bits a &&& BitVec.ofInt IntKind.u16.bits 1).toNat)):=by simp only[um,WX,if_true]
  have h3:(IntKind.u16.wrap (BitVec.ofInt IntKind.u16.bits a &&& BitVec.ofInt IntKind.u16.bits 1).toNat==1)=kB k i:=by unfold kB;rw[W]
  generalize IntKind.u16.wrap (BitVec.ofInt IntKind.u16.bits a &&& BitVec.ofInt IntKind.u16.bits 1).toNat=b at *
  have a5:=oU;have j:(fs[i]).cells= [.int .i64 (fs[i]).kind, .str (fs[i]).comp, .str (fs[i]).out, .int .i64 (fs[i]).rel, .int .i64 (fs[i]).way, .int .i64 (fs[i]).duty, .bool (fs[i]).chg, .int .i64 (fs[i]).e.kind, .str (fs[i]).e.name, .str (fs[i]).e.exc,(fs[i]).e.d,(fs[i]).d]:=rfl;have A:=zB3 fs[i];have a6:=(zIb (fs:=fs) (y:=⟨[],[]⟩) (K:=kB k) (i:=i) (Nat.le_of_lt s)).1;obtain⟨H,hH,hr,t⟩:∃H,h.new h.next (.row (fs[i]).cells)=H/\H.at' h.next=some (.row (fs[i]).cells)/\Own g H 12 (p0 (zo fs (Ik (kB k) i))) e:=⟨_,rfl,zJ _ _ _,v.ext ((Ext.refl h).new (Nat.le_refl _) _)⟩;rw[hH] at u
  cases bk:kB k i with
  |false=>
   have a4:Own g H 12 (p0 (zo fs (Ik (kB k) (i+1)))) e:=by rw[zGE bk];exact t
   rw[bk] at h3;clear v t W hT m;rw[j] at a1 u hr A;clear j hH;generalize fs[i]=F at *
   repeat' first|simp only[go_sem, *]|apply bc<;>intro m
  |true=>
   have B:p0 (zo fs (Ik (kB k) (i+1)))=p0 (zo fs (Ik (kB k) i))++ [(fs[i]).cells]:=by rw[zBs s bk];unfold p0;rw[List.map_append];rfl
   rw[bk] at h3;clear v W hT m;rw[j] at a1 u hr A B;clear j hH;generalize fs[i]=F at *
   repeat' first|simp only[go_sem, *]|apply bc<;>intro m
   refine t.appH (ys:=[_]) ZI Fa Yr ow (λy hy=>by rw[List.mem_singleton.1 hy];rfl) (by simp) (by rw[mJ,Pa];unfold lim;simp;omega) (by rw[mJ];unfold lim;simp;omega) λd' h' a2=> ?_;rw[<-B] at a2;clear t u hr A B h1 w h3;exact au
 ·rintro fr h ec ⟨f1,f2,f3,Z,ad,ag,v⟩;obtain⟨e,f7⟩:∃d,fr 7=d:=⟨_,rfl⟩;rw[f7] at v;have hI:=zBq (fs:=fs) (K:=kB k) (Nat.le_refl _);have J:=hI.sub;have O:=zB4 m hs Y z o;have P:=zB4 m hs v.isSl (CC z I J) λf hf=>o f (J.subset hf);have key:yT c fs=0->yT c (zo fs (Ik (kB k) fs.length))=0/\(wn c fs≠[]->wn c (zo fs (Ik (kB k) fs.length))≠[]):=λh0=>⟨KU h0 J,λhw=>Qe (l7 h0) hw hI (l7 (KU h0 J))⟩;clear v m hl C R a0 z o I hI J
  repeat' first|simp only[go_sem, *]|apply bc<;>intro m
  refine(O _).mono ?_;rintro r h ⟨D,b,ta,oa,rd,rfl,⟨x1,x2,x3⟩,X⟩;subst D;have U:=Gv h x1 x2 x3 (b:=b) (n:=h.next);obtain⟨G,hG,r1,a7⟩:∃G,h.new h.next (.row [.bool b,ta,oa,rd])=G/\G.at' h.next=some (.row [.bool b,ta,oa,rd])/\h.next<G.next:=⟨_,rfl,zJ _ _ _,by rw[zF];omega⟩;rw[hG] at U;clear O
  repeat' first|simp only[go_sem, *]|apply bc<;>intro m
  refine(P _).mono ?_;rintro r w ⟨D,E,V,S,T,rfl,⟨y1,y2,y3⟩,p⟩;subst D;have a3:=Gv w y1 y2 y3 (b:=E) (n:=w.next);obtain⟨G2,ai,r2,r3⟩:∃G,w.new w.next (.row [.bool E,V,S,T])=G/\G.at' w.next=some (.row [.bool E,V,S,T])/\G.at' h.next=some (.row [.bool b,ta,oa,rd]):=⟨_,rfl,zJ _ _ _,by rw[zG ow];exact r1⟩;rw[ai] at a3;clear P hG r1 U;rcases X with⟨h0,_,_⟩ | ⟨h0,X,_⟩
  ·have e0:(!(yT c fs==0))=true:=by simpa using h0
   clear key p h0;exact au
  ·obtain⟨k1,k2⟩:=key h0;rw[k1] at p⊢;have p:E= !(wn c (zo fs (Ik (kB k) fs.length))).isEmpty:=by
    rcases p with⟨q,_⟩ | ⟨_,q,_⟩
    ·exact absurd rfl q
    ·exact q
   have ak:b=false\/E=true:=by
    cases e:(wn c fs).isEmpty with
    |true=>rw[X,e];exact .inl rfl
    |false=>
     have:=k2 λq=>by rw[q] at e;cases e
     rw[p];cases q:wn c (zo fs (Ik (kB k) fs.length)) with
     |nil=>exact absurd q this
     |cons a l=>exact .inr rfl
   clear X p k1 k2 key;rcases ak with rfl|rfl
   ·exact au
   ·cases b
    ·exact au
    ·exact au
end Go.V
