/- Contracts of functions that the law reaches, part 3. No condition. -/
import Derived.Test.YthcjhnmnhfgdiaaGreatDoorW41
set_option linter.all false
set_option maxHeartbeats 8000000
namespace Go.V
open Go.Proofs.Tryz
open Go.Proofs
variable {k:Nat}{d x:D}{c:Cat}{fs:List Fac}{b:Bool}
def CW {c:List D} (h:Shp prog k 130 c):∃n:Trm,c=n.cells/\True:=by
 obtain⟨j,_,hf⟩:=qf underlying130 h;obtain⟨e,r1,rfl,h1,hf⟩:=zY hf;obtain⟨f,r2,rfl,a,hf⟩:=zY hf;obtain rfl:=wv hf;obtain⟨s1,rfl,b⟩:=wm underlying9 h1;obtain⟨s2,rfl,d⟩:=wm underlying9 a;exact⟨⟨s1,s2⟩,rfl,trivial⟩
def CX {c:List D} (h:Shp prog k 128 c):∃a:Alt,c= [a.d]/\a.Sm:=by
 obtain⟨d,xs,j,rfl,_,f,_,b,h1⟩:=pc underlying128 yt h;obtain⟨l,rfl,_⟩:=tZ λy e=>CW (h1 y e);rw[List.length_map] at b;exact⟨⟨l,d⟩,rfl,f,b⟩
def CY {c:List D} (h:Shp prog k 33 c):∃ (y:Cho) (a b:D),c= [a,b]/\Xv y (.agg [a,b])/\y.Sm/\∀s∈y.own,s.length<=1048576:=by
 obtain⟨j,_,hf⟩:=qf underlying33 h;obtain⟨u,r1,rfl,h1,hf⟩:=zY hf;obtain⟨v,r2,rfl,e,hf⟩:=zY hf;obtain rfl:=wv hf;obtain⟨m,z,w,rfl,_,o,_,i,h1⟩:=pc underlying30 yo h1;obtain⟨n,A,x,rfl,_,q,_,l,e⟩:=pc underlying31 uW e;obtain⟨r,rfl,k1⟩:=tZ (f:=λa:Alt=>[a.d]) λy g=>CX (h1 y g);obtain⟨t,rfl,k2⟩:=tZ (f:=λs:List UInt8=>[.str s]) (p:=λs=>s.length<=1048576) λy g=>by
  obtain⟨s,rfl,b⟩:=wm underlying9 (e y g);exact⟨s,rfl,b⟩
 rw[List.length_map] at i l;exact⟨⟨r,t⟩,m,n,rfl,⟨m,n,rfl,o,q⟩,⟨i,l,k1⟩,k2⟩
def zCU {c:List D} (h:Shp prog k 67 c):∃n:NdI,BS n c:=by
 obtain⟨j,_,hf⟩:=qf underlying67 h;obtain⟨i,r1,rfl,h1,hf⟩:=zY hf;obtain⟨l,r2,rfl,b,hf⟩:=zY hf;obtain⟨m,r3,rfl,h3,hf⟩:=zY hf;obtain rfl:=wv hf;obtain⟨v,rfl,_⟩:=tW underlying3 h1;obtain⟨g,ks,rfl,e,_⟩:=Z2 b;obtain⟨w,d⟩:=CA h3;obtain⟨a,rfl,f,_⟩:=d;exact⟨⟨v,ks,w.row,w.facts⟩,g,a,rfl,e,f⟩
theorem FK:∀ {xs:List (List D)},(∀x∈xs,∃n:NdI,BS n x)->∃a:List NdI,xs.length=a.length/\∀ (i:Nat) n,a[i]? =some n->∃cs,xs[i]? =some cs/\BS n cs
 | [],_=>⟨[],rfl,λi n e=>by simp at e⟩
 |x::xs,h=>by
  obtain⟨n,c⟩:=h x List.mem_cons_self;obtain⟨a,h1,b⟩:=FK λy d=>h y (List.mem_cons_of_mem _ d);exact⟨n::a,by simp[h1],λi m e=>by
   cases i with
   |zero=>cases e;exact⟨x,rfl,c⟩
   |succ i=>exact b i m e⟩
def CZ {c:List D} (h:Shp prog k 35 c):∃ (d:D) (a:List NdI),c= [d]/\kq a d/\a.length<=1048576:=by
 obtain⟨d,xs,j,rfl,_,f,_,g,h1⟩:=pc underlying35 nP h;obtain⟨a,b,h3⟩:=FK λx e=>zCU (h1 x e);exact⟨d,a,rfl,⟨xs,f,b,h3⟩,by omega⟩
def Ca {c:List D} (h:Shp prog k 37 c):∃ (b:Bool) (y:Cho) (a:List NdI) (e d rd:D),c= [.bool b,e,d,rd]/\Xv y (.agg [e,d])/\y.Sm/\(∀s∈y.own,s.length<=1048576)/\kq a rd/\a.length<=1048576:=by
 obtain⟨j,_,hf⟩:=qf underlying37 h;obtain⟨o,r1,rfl,h1,hf⟩:=zY hf;obtain⟨p,r2,rfl,f,hf⟩:=zY hf;obtain⟨q,r3,rfl,h3,hf⟩:=zY hf;obtain rfl:=wv hf;obtain⟨b,rfl⟩:=Tp underlying4 h1;obtain⟨y,e,d,rfl,g,i,l⟩:=CY f;obtain⟨rd,a,rfl,m,n⟩:=CZ h3;exact⟨b,y,a,e,d,rd,rfl,g,i,l,m,n⟩
set_option maxRecDepth 100000
def Cb {l:List Alt} (t:zd 1 (zm l) d) (K:l.length<=1048576) (D:∀a∈l,a.Sm) (g:Heap):zA prog 28 [d] g λr h'=>h'=g/\∃b,r= .bool b:=by
 refine xP λQ w=> ?_;have hf:∀b,Q (.bool b) g:=λb=>w _ _ ⟨rfl,b,rfl⟩;have F:=qN t;have u:∀h,HLe Heap.emp h:=λh i M e=>by cases e
 clear w;refine xO mix func28 zIV rfl rfl ?_;simp only[f28,gJ]
 repeat' first|simp only[go_sem, *]|apply bc<;>intro k
 all_goals refine zC (λi fr h=>fr 0=d/\fr 4= .int .i64 (i:Int)/\h=g/\∃m,fr 3= .int .i64 m) l.length ow ?_ ?_ ?_
 all_goals try
  simp only[go_sem,true_and,and_true,Int.ofNat_zero];exact⟨_,rfl⟩
 all_goals try
  rintro fr h y ⟨p,f,rfl,m,c⟩;obtain⟨b,J⟩:∃b,decide (m<=6000)=b:=⟨_,rfl⟩;have L:=hf b;clear hf
  repeat' first|simp only[go_sem, *]|apply bc<;>intro k
  done
 all_goals
  rintro i fr h n y I ⟨p,f,rfl,m,c⟩;have H:=ue t n;have sm:=D _ (List.getElem_mem n);have E:=yp sm.sl;have v:= @uH _ _ sm.sl;have sl:=sm.len;clear t;generalize l[i]=a at *
  obtain⟨A,G⟩:=a
  repeat' first|simp only[go_sem, *]|apply bc<;>intro k
  all_goals refine zC (λj fr h'=>fr 0=d/\fr 4= .int .i64 (i:Int)/\fr 5= .int .i64 (j:Int)/\h'=h/\∃m,fr 3= .int .i64 m) A.length (by show A.length<=_;have:A.length<=1048576:=sl;omega) ?_ ?_ ?_
  rotate_left
  any_goals
   rintro j s C o q z ⟨p,f,B,rfl,m2,c⟩;have x:=v o;simp only[Trm.cells] at x;clear hf v;generalize A[j]=T at *
   repeat' first|simp only[go_sem, *]|apply bc<;>intro k
   refine zM Heap.emp [(0, .no,false),(1, .no,false),(2, .no,false),(3, .no,false),(4, .no,false),(5, .no,false),(6, .no,false),(7, .no,false),(8, .no,false),(9, .no,false),(10, .no,false),(11, .no,false),(12, .no,false),(13, .no,false),(14, .no,false),(15, .no,false),(16, .no,false),(17, .no,false),(18, .no,false),(19, .no,false),(20, .no,false),(21, .no,false),(22, .no,false)] kr kr (u _) ?_
   repeat' first|simp only[go_sem, *]|apply bc<;>intro k
   exact⟨_,rfl⟩
  any_goals
   rintro s C q ⟨p,f,B,rfl,m2,c⟩;clear hf v
   repeat' first|simp only[go_sem, *]|apply bc<;>intro k
   exact⟨_,rfl⟩
  all_goals
   simp only[go_sem,true_and,and_true,Int.ofNat_zero]
   first
    |exact⟨f,_,c⟩
    |exact⟨p,f,_,c⟩
def HZ {y:Cho} (w:Xv y d) (e:y.Sm) (o:∀s∈y.own,s.length<=1048576) (g:Heap):zA prog 11 [d] g λr h'=>h'=g/\∃b,r= .bool b:=by
 refine xP λQ f=> ?_;have hf:∀b,Q (.bool b) g:=λb=>f _ _ ⟨rfl,b,rfl⟩;obtain⟨td,od,rfl,v,k⟩:=w;have a:=Cb v e.tl e.ts;have p:=yL k;have q:=e.ol;clear f;refine xO mix func11 zIa rfl rfl ?_;simp only[f11,gJ]
 repeat' first|simp only[go_sem, *]|apply bc<;>intro j
 refine(a _).mono ?_;rintro r h ⟨t,b,rfl⟩;subst t;clear a;cases b with
 |false=>
  repeat' first|simp only[go_sem, *]|apply bc<;>intro j
 |true=>
 repeat' first|simp only[go_sem, *]|apply bc<;>intro j
 rename Heap=>g
 refine zC (λi fr h=>fr 1= .iptr [td,od] 0/\fr 3= .int .i64 (i:Int)/\h=g) y.own.length ow ?_ ?_ ?_
 ·simp only[go_sem,true_and,and_true,Int.ofNat_zero]
 ·rintro i fr h c l z ⟨m,n,rfl⟩;have x:=wD k c;have u:=o _ (List.getElem_mem c);generalize y.own[i]=s at *
  exact au
 ·rintro fr h l ⟨m,n,rfl⟩;exact au
def zCV {ca cb ce cp x:D} (e:yu c (.agg [ca,cb,ce,cp])) (g:c.Sm) (h:zd 12 (nz fs) x) (b:LU fs) (a:∀f∈fs,f.Ok) (d:yr c fs=0):SpD c fs ca cb ce cp x (.sl 1 (aC (tV c fs)) .no) (.sl 1 (yS (oV c fs)) .no):=by
 obtain⟨i,j⟩:=oy (c:=c) (l:=fs);have k:=b.1.2;exact⟨e,g,h,b,a,gO d,zd.mk .no,zd.mk .no,by unfold tV;omega,by unfold oV;omega,tR (c:=c) (l:=fs)⟩
def YC (j:yu c d) (C:c.Sm) (E:zd 12 (nz fs) x) (U:fs.length<=1048576) (B:∀f∈fs,f.Ok0) {y:Cho} {K:List NdI} {M L rd:D} (H:Xv y (.agg [M,L])) (u:y.Sm) (J:∀s∈y.own,s.length<=1048576) (P:kq K rd) (G:K.length<=1048576) (g:Heap):zA prog 4 [d,x, .agg [.bool b,M,L,rd]] g λr _=>r= .bool true:=by
 refine xP λQ O=> ?_;have X:∀h,Q (.bool true) h:=λh=>O _ _ rfl;have v:=jq;have A:=Kq j C E U B;have z:=CV P G;have w:=HZ H u J;obtain⟨ca,cb,ce,cp,rfl,_,_,_,_⟩:=id j;have W:∀a b c e:D,zN true 2 [a,b,c,e] 1=some (.agg [b,c]):=λa b c e=>rfl;clear O;refine xO mix func4 ok4 rfl rfl ?_;simp only[f4,gJ]
 repeat' first|simp only[go_sem, *]|apply bc<;>intro j|(refine zA.mono (v _) ?_;rintro r h ⟨rfl,n⟩)
 refine(A _).mono ?_;rintro r h ⟨n,R,rfl,l⟩;subst n;clear v A;cases R with
 |false=>
  clear l
  repeat' first|simp only[go_sem, *]|apply bc<;>intro j
 |true=>
 have l:=(l rfl).1;have k:∀f∈fs,f.Ok:=λf hf=>(B f hf).ok (l.2 f hf)
 repeat' first|simp only[go_sem, *]|apply bc<;>intro j
 refine(z _).mono ?_;rintro r h ⟨n,S,rfl,p⟩;subst n;clear z;cases S with
 |false=>
  clear p
  repeat' first|simp only[go_sem, *]|apply bc<;>intro j
 |true=>
 have p:=p rfl
 repeat' first|simp only[go_sem, *]|apply bc<;>intro j
 refine(w _).mono ?_;rintro r h ⟨n,T,rfl⟩;subst n;clear w;cases T with
 |false=>
  repeat' first|simp only[go_sem, *]|apply bc<;>intro j
 |true=>
 have t:=HY (b:=b) j C E l k H u P p;have I:CIn c fs y (.agg [ca,cb,ce,cp]) x (.agg [M,L]):=⟨j,C,E,by have:=l.1.2;omega,l.1.1,k,H,u⟩;have m:=lh I;rw[WZ] at m;have o:=Ki j C E l k λe=>by have:=Qq e;omega
 cases N:(Qw c fs b y K==0) with
 |false=>
  clear m o I p l
  repeat' first|simp only[go_sem, *]|apply bc<;>intro j|(refine zA.mono (t _) ?_;rintro r h ⟨n,rfl⟩)
 |true=>
  have F:yr c fs=0:=by
   have:=eq_of_beq N;unfold Qw at this;split at this
   ·exact this
   ·rename_i h;simpa using h
  have i:=eq_of_beq N;unfold Qw at i;rw[iq (by rw[F];decide)] at i;cases b with
  |true=>
   rw[ip rfl] at i;split at i
   ·exact absurd i (by decide)
   ·rename_i h;simp only[Bool.or_eq_true,not_or,Bool.not_eq_true,Bool.not_eq_false'] at h;have k1:zw c fs y false=0:=by simpa using h.1.2
    have k2:WY c fs y=true:=by simpa using h.2
    rw[k1,k2] at m;clear o I p l h i k1 k2
    repeat' first|simp only[go_sem, *]|apply bc<;>intro j|(refine zA.mono (t _) ?_;rintro r h ⟨n,rfl⟩)|(refine zA.mono (m _) ?_;rintro r h ⟨n,rfl⟩)
  |false=>
   rw[iq Bool.false_ne_true] at i;split at i
   ·exact absurd i (by decide)
   ·rename_i h;simp only[Bool.or_eq_true,not_or,Bool.not_eq_true,Bool.not_eq_false'] at h;have V:∀g,zA prog 18 [.agg [ca,cb,ce,cp],x] g λr h'=>h'=g/\r= .tuple [.int .i64 0, .int .i64 0]:=λg=>by
     refine(o g).mono λr h' q=>⟨q.1,?_⟩;rw[q.2];unfold zCN;rw[ip F,Qu (zCV j C E l k F) h.2];rfl
    clear o m I p l h i
    repeat' first|simp only[go_sem, *]|apply bc<;>intro j|(refine zA.mono (t _) ?_;rintro r h ⟨n,rfl⟩)|(refine zA.mono (V _) ?_;rintro r h ⟨n,rfl⟩)
end Go.V
