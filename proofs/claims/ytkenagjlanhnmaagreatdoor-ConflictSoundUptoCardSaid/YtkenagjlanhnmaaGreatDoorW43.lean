/- Contracts of functions that the law reaches, part 5. No condition. -/
import Derived.Test.YtkenagjlanhnmaaGreatDoorW42
set_option linter.all false
set_option maxHeartbeats 8000000
namespace Go.V
open Go.Proofs.Tryz
open Go.Proofs
variable{k n i id j:Nat}{fs gs:List Fac}{I:List Nat}{cs ds:List D}{h:Heap}{d x:D}{xs:List (List D)}{c:Cat}
def zAs{c:List D}(h:Shp prog k 197 c):∃n:Trm,c=n.cells/\True:=by
 obtain⟨j,_,hf⟩:=ui underlying197 h;obtain⟨e,r1,rfl,h1,hf⟩:=yQ hf;obtain⟨f,r2,rfl,a,hf⟩:=yQ hf;obtain rfl:=rG hf;obtain⟨s1,rfl,b⟩:=tt underlying9 h1;obtain⟨s2,rfl,d⟩:=tt underlying9 a;exact⟨⟨s1,s2⟩,rfl,trivial⟩
def zAi{c:List D}(h:Shp prog k 195 c):∃a:Alt,c= [a.d]/\a.Sm:=by
 obtain⟨d,xs,j,rfl,_,f,_,b,h1⟩:=nh underlying195 uO h;obtain⟨l,rfl,_⟩:=oZ λy e=>zAs (h1 y e);rw[zI]at b;exact⟨⟨l,d⟩,rfl,f,b⟩
def zAl{c:List D}(h:Shp prog k 47 c):∃ (y:Cho) (a b:D),c= [a,b]/\V7 y (.agg [a,b])/\y.Sm/\∀s∈y.own,s.length<=1048576:=by
 obtain⟨j,_,hf⟩:=ui underlying47 h;obtain⟨u,r1,rfl,h1,hf⟩:=yQ hf;obtain⟨v,r2,rfl,e,hf⟩:=yQ hf;obtain rfl:=rG hf;obtain⟨m,z,w,rfl,_,o,_,i,h1⟩:=nh underlying44 uK h1;obtain⟨n,A,x,rfl,_,q,_,l,e⟩:=nh underlying45 pK e;obtain⟨r,rfl,k1⟩:=oZ (f:=λa:Alt=>[a.d]) λy g=>zAi (h1 y g);obtain⟨t,rfl,k2⟩:=oZ (f:=λs:List UInt8=>[.str s]) (p:=λs=>s.length<=1048576) λy g=>by
  obtain⟨s,rfl,b⟩:=tt underlying9 (e y g);exact⟨s,rfl,b⟩
 rw[zI]at i l;exact⟨⟨r,t⟩,m,n,rfl,⟨m,n,rfl,o,q⟩,⟨i,l,k1⟩,k2⟩
def zG5{c:List D}(h:Shp prog k 139 c):∃n:NdI,BS n c:=by
 obtain⟨j,_,hf⟩:=ui underlying139 h;obtain⟨i,r1,rfl,h1,hf⟩:=yQ hf;obtain⟨l,r2,rfl,b,hf⟩:=yQ hf;obtain⟨m,r3,rfl,h3,hf⟩:=yQ hf;obtain rfl:=rG hf;obtain⟨v,rfl,_⟩:=sx underlying3 h1;obtain⟨g,ks,rfl,e,_⟩:=U8 b;obtain⟨w,d⟩:=zAt h3;obtain⟨a,rfl,f,_⟩:=d;exact⟨⟨v,ks,w.row,w.facts⟩,g,a,rfl,e,f⟩
theorem BA:∀{xs:List (List D)},(∀x∈xs,∃n:NdI,BS n x)->∃a:List NdI,xs.length=a.length/\∀(i:Nat) n,a[i]? =some n->∃cs,xs[i]? =some cs/\BS n cs
 | [],_=>⟨[],rfl,λi n e=>by simp at e⟩
 |x::xs,h=>by
  obtain⟨n,c⟩:=h x qO;obtain⟨a,h1,b⟩:=BA λy d=>h y (z8 _ d);exact⟨n::a,by simp[h1],λi m e=>by
   cases i with
   |zero=>cases e;exact⟨x,rfl,c⟩
   |succ i=>exact b i m e⟩
def zAr{c:List D}(h:Shp prog k 32 c):∃ (d:D) (a:List NdI),c= [d]/\kY a d/\a.length<=1048576:=by
 obtain⟨d,xs,j,rfl,_,f,_,g,h1⟩:=nh underlying32 lq h;obtain⟨a,b,h3⟩:=BA λx e=>zG5 (h1 x e);exact⟨d,a,rfl,⟨xs,f,b,h3⟩,ow⟩
set_option maxRecDepth 100000
abbrev zG0(I:List Nat):D:=.sl 1 (wt (nI I)) .no
def Hr(ys:List Cho)(d:D):Prop:=∃xs,yZ 2 xs d/\xs.length=ys.length/\∀(i:Nat) y,ys[i]? =some y->∃ta oa,xs[i]? =some [ta,oa]/\V7 y (.agg [ta,oa])
def okW(c:Cat)(fs:List Fac)(I:List Nat)(i:Nat)(y:Cho):Bool:=qN c (uH fs (I.eraseIdx i)) y false==0&&Zf c (uH fs (I.eraseIdx i)) y
structure GoodI(c:Cat)(fs:List Fac)(I:List Nat)(ns:List NdI)(ys:List Cho):Prop where
 h:InI fs I
 s:Pt c (uH fs I) false ⟨[],[]⟩ ns=0
 l:ys.length=I.length
 w:∀(i:Nat) y,ys[i]? =some y->okW c fs I i y=true
def Hq(c:Cat)(fs:List Fac)(ks:List Int)(ns:List NdI)(ys:List Cho):Prop:=∃I,ks=nI I/\GoodI c fs I ns ys
def zL5(c:Cat)(fs:List Fac)(ks:List Int)(ns:List NdI)(ys:List Cho)(e:Int):Prop:=(qi c fs≠0/\e=qi c fs)\/(qi c fs=0/\(Hq c fs ks ns ys/\e=0\/¬Hq c fs ks ns ys/\e=18))
def J3{I J:List Nat}(h:nI I=nI J):I=J:=by
 have:=congrArg (List.map Int.toNat) h;simpa [nI,wB,Function.comp_def]using this
theorem C4{ks:List Int}(h:zB9 ks):∀(j i:Nat)(b:j<ks.length)(a:i<j),ks[i]'ow<ks[j]
 |j+1,i,b,a=>by
  have h1:=h j b;by_cases e:i=j
  .subst e;exact h1
  .have:=C4 h j i ow ow
   omega
variable{fs:List Fac}{x:D}{c:Cat}
def IF{ks:List Int}(h1:ks.any (WV (sL fs).length)=false)(g:zB9 ks):∃I,ks=nI I/\InI fs I:=by
 have b:=Jk h1;have e:ks=nI (ks.map Int.toNat):=by
  rw[nI,wB];exact(List.map_id' ks).symm.trans (wR λk d=>by have:=(b k d).1;simp[Function.comp_def];omega)
 refine⟨_,e,⟨λi a=> ?_,?_⟩⟩
 .obtain⟨k,d,rfl⟩:=zS.1 a
  have:=(b k d).2
  rwa [pY]at this
 .rw[tr]
  intro i j a f c;simp only[zI]at a f;have:=C4 g j i f c;have:=(b _ (zH a)).1;simp only[tW];omega
def XP(H:InI fs I):(nI I).any (WV (sL fs).length)=false/\zB9 (nI I):=by
 refine⟨oL.2 λk b=> ?_,λi a=> ?_⟩
 .obtain⟨i,a,rfl⟩:=zS.1 b
  have:=H.lt i a;rw[pY];simp[WV];omega
 .simp only[zI]at a
  have:=tr.1 H.inc i (i+1) ow a ow;simp;omega
theorem CE:∀{xs:List (List D)},(∀x∈xs,∃ (y:Cho) (a b:D),x= [a,b]/\V7 y (.agg [a,b])/\y.Sm/\∀s∈y.own,s.length<=1048576)->∃ys:List Cho,xs.length=ys.length/\(∀(i:Nat) y,ys[i]? =some y->∃a b,xs[i]? =some [a,b]/\V7 y (.agg [a,b]))/\(∀y∈ys,y.Sm)/\∀y∈ys,∀s∈y.own,s.length<=1048576
 | [],_=>⟨[],rfl,λi y e=>(by simp at e),λy h=>(by cases h),λy h=>(by cases h)⟩
 |x::xs,h=>by
  obtain⟨y,a,b,rfl,h1,d,h3⟩:=h x qO;obtain⟨ys,k0,k1,k2,k3⟩:=CE λy f=>h y (z8 _ f);refine⟨y::ys,by simp[k0],λi m e=> ?_,λz c=> ?_,λz c=> ?_⟩
  .cases i with
   |zero=>cases e;exact⟨a,b,rfl,h1⟩
   |succ i=>exact k1 i m e
  .rcases z7.1 c with rfl|c
   .exact d
   .exact k2 _ c
  .rcases z7.1 c with rfl|c
   .exact h3
   .exact k3 _ c
def zAn{c:List D}(h:Shp prog k 35 c):∃ (f rd wd:D) (ks:List Int) (a:List NdI) (ys:List Cho),c= [f,rd,wd]/\yZ 1 (wt ks) f/\ks.length<=1048576/\(∀n∈ks,fits .i64 n)/\kY a rd/\a.length<=1048576/\Hr ys wd/\ys.length<=1048576/\(∀y∈ys,y.Sm)/\∀y∈ys,∀s∈y.own,s.length<=1048576:=by
 obtain⟨j,_,hf⟩:=ui underlying35 h;obtain⟨w,r1,rfl,h1,hf⟩:=yQ hf;obtain⟨z,r2,rfl,l,hf⟩:=yQ hf;obtain⟨A,r3,rfl,h3,hf⟩:=yQ hf;obtain rfl:=rG hf;obtain⟨e,E,B,rfl,_,q,_,b,h1⟩:=nh underlying30 sG h1;obtain⟨ks,rfl,m⟩:=oZ (f:=λs:Int=>[D.int .i64 s]) λy p=>sx underlying3 (h1 y p);obtain⟨g,a,rfl,r,d⟩:=zAr l;obtain⟨i,u,C,rfl,_,t,_,v,h3⟩:=nh underlying33 Zu h3;obtain⟨ys,k0,k1,k2,k3⟩:=CE λx o=>zAl (h3 x o);rw[zI]at b;exact⟨e,g,i,ks,a,ys,rfl,q,b,m,r,d,⟨u,t,k0,k1⟩,ow,k2,k3⟩
def zHl(M:Imm)(ρ:Ren):wG M ρ BR zFv:=by
 have b:rel M ρ (.str []) (.string ⟨#[]⟩):=⟨⟨#[]⟩,rfl,rfl,jD⟩;have a:rel M ρ (.int .i64 0) (.int .i64 0):=⟨rfl,rfl⟩;exact⟨_,_,rfl,a,_,_,rfl,b,_,_,rfl,b,_,_,rfl,a,_,_,rfl,a,_,_,rfl,a,_,_,rfl,rfl,_,_,rfl,a,_,_,rfl,b,_,_,rfl,b,_,_,rfl,rfl,_,_,rfl,rfl,rfl⟩
theorem Tz(hi:i<n)(hn:n<=1048576)(ai:cs.length=n*12)(s:h.at' id=some (.row cs)):
  zD prog 15 [.rs id 12 0 n,.int .i64 (i:Int),.int .i64 ((i+1:Nat):Int)] h λr h'=>r=.rs id 12 0 (n-1)/\h'=h.set id (.row (cs.take (i*12)++cs.drop ((i+1)*12)++BR)):=by
 refine⟨by kernel_rfl,λw0 G M ρ w va ak hs R hr=> ?_⟩;simp only[wG]at hr;obtain⟨v,a0,Y,f,v1,a1,rfl,h1,v2,a2,rfl,Z,rfl⟩:=hr;simp only[rel]at f h1 Z;obtain⟨rfl,_⟩:=h1;obtain⟨rfl,_⟩:=Z;obtain⟨_,ag,l,cap,o,I,rfl,⟨N,C⟩,X,F⟩:=f;have F:o=0:=by
  rcases F with hz|F
  .omega
  .exact F
 subst F;obtain⟨l',h1,U,hM,c,e,hw,au,ad,b⟩:=hs.live id _ s;rw[I]at h1;cases h1;have aj:c.toList.length=c.size:=yI;have q:wG M ρ cs (c.toList.take cs.length):=wF (by rw[yB];omega) λj d v k f=>by
  obtain⟨_,u,e1,e2⟩:=b j d k;have V:=(zK.1 k).1;rw[zu,ip V,qA]at f;rw[e1]at f;cases f;exact e2
 have E:cs.all D.flat=true:=zT.2 λd k=>by
  obtain⟨j,g⟩:=yh.1 k;exact(b j d g).1
 obtain⟨d,k⟩:∃d,c.toList.take cs.length=d:=⟨_,rfl⟩;rw[k]at q;have O:d.length=n*12:=by rw[<-k,yB];omega
 have p:=sR q E;have a:∀t,t<d.length->w.cell? ⟨l.blk,t,none⟩ =some (d.getD t undef)/\w.frozen? ⟨l.blk,t,none⟩ =false:=λt ht=>by
  have h3:c[t]? =some (d.getD t undef):=by
   rw[zE,zB ht,zA];have:=congrArg (λl:List Value=>l[t]?) k;simp only[zu]at this;rw[ip ow,qA,zB ht]at this;exact this
  exact⟨by simp[World.cell?,hw,h3],by simp[World.frozen?,hw]⟩
 have H:va= #[.slice (some ⟨l.blk,0,none⟩) n cap,.int .i64 (i:Int),.int .i64 ((i+1:Nat):Int)]:=tU (by simpa using Y);rw[H];refine(Tryz.delete_fact l.blk cap n i (i+1) d w O p N (by simpa [maxLen]using C) hi rfl a).mono λe w' hq=> ?_;obtain⟨rfl,rfl⟩:=hq;have hS:=hs.drew;have e1:i+(n- (i+1))=n-1:=ow;rw[e1];have W:wG M ρ (cs.drop ((i+1)*12)) (d.drop ((i+1)*12)):=wF (by rw[qJ,qJ];omega) λj dd v g f=>by
  rw[yy]at g f;obtain⟨_,u,q1,q2⟩:=b _ dd g;rw[<-k,zu]at f;split at f
  .rw[qA,q1]at f;cases f;exact q2
  .cases f
 have Q:(cs.drop ((i+1)*12)).all D.flat=true:=zT.2 λx hx=>zT.1 E x (t7 hx);obtain⟨w1,y,S1⟩:=hS.storeRow (P:=prog) (off:=i*12) s I W Q (by rw[qJ];omega);have S:=run_storeCells_cells (P:=prog) l.blk (i*12) (d.drop ((i+1)*12)) 0 w.drew (λj g=>by
  rw[qJ]at g;show(w.cell? _).isSome=true;rw[qo,(a (i*12+j) ow).1];rfl) (λj g=>by
  rw[qJ]at g;rw[qo];exact(a (i*12+j) ow).2) (λv f=>p v (t7 f))
 rw[S,qo]at y;obtain rfl:=(Result.ok.inj y).2;obtain⟨K,A⟩:∃K,w.drew.setCells l.blk (i*12) (d.drop ((i+1)*12))=K:=⟨_,rfl⟩;rw[A]at S1⊢;obtain⟨row,L⟩:∃row,wS cs (cs.drop ((i+1)*12)) (i*12)=row:=⟨_,rfl⟩;rw[L]at S1;have B:row.length=n*12:=by
  rw[<-L];simp only[wS,zQ,yB,qJ];omega
 obtain⟨w2,z,J⟩:=S1.storeRow (P:=prog) (off:=(n-1)*12) (zW _ _ _) I (zHl M ρ) (by rfl) (by rw[B];show(n-1)*12+12<=_;omega);have T:=run_storeCells_cells (P:=prog) l.blk ((n-1)*12) zFv 0 K (λj g=>by
  have g:j<12:=g;rw[<-A,World.cell?_setCells_out _ _ _ _ _ (λ_ _=>.inr (by rw[qJ];show _<=(n-1)*12+0+j;omega))];show(w.cell? _).isSome=true;rw[qo,(a ((n-1)*12+j) ow).1];rfl) (λj g=>by
  have g:j<12:=g;rw[<-A,World.frozen?_setCells,qo];exact(a ((n-1)*12+j) ow).2) HU
 rw[T,qo]at z;obtain rfl:=(Result.ok.inj z).2;rw[mi]at J;have m:wS row BR ((n-1)*12)=cs.take (i*12)++cs.drop ((i+1)*12)++BR:=by
  have h3:row.take ((n-1)*12)=cs.take (i*12)++cs.drop ((i+1)*12):=by
   rw[<-L];unfold wS;rw[qt (by simp only[zQ,yB,qJ];omega),yP (by simp only[zQ,yB,qJ];omega)]
  have h4:row.drop ((n-1)*12+BR.length)= []:=tL (by rw[B];show _<=(n-1)*12+12;omega);unfold wS;rw[h3,h4,yK]
 rw[m]at J;refine⟨_,M,ρ,.rs id 12 0 (n-1),_,rfl,MLe.refl _,RLe.refl _,J,R,?_,rfl,rfl⟩;simp only[rel];exact⟨ow,ow,l,cap,0,I,rfl,⟨ow,C⟩,X,.inr rfl⟩
def Bc{l:List Alt}(t:yZ 1 (qT l) d)(K:l.length<=1048576)(C:∀a∈l,a.Sm)(g:Heap):zD prog 72 [d] g λr h'=>h'=g/\∃b,r=.bool b:=by
 refine xP λQ v=> ?_;have hf:∀b,Q (.bool b) g:=λb=>v _ _ ⟨rfl,b,rfl⟩;have F:=uh t;have E:∀h,HLe Heap.emp h:=λh i M e=>by cases e
 clear v;refine zj zOs ?_;simp only[f72,zA]
 repeat' first|simp only[go_sem, *]|apply bc<;>intro k
 all_goals refine zY (λi fr h=>fr 0=d/\fr 4=.int .i64 (i:Int)/\h=g/\∃m,fr 3=.int .i64 m) l.length ow ?_ ?_ ?_
 all_goals try
  simp only[go_sem,zM,zV,zG];exact⟨_,rfl⟩
 all_goals try
  rintro fr h x ⟨p,f,rfl,m,c⟩;obtain⟨b,J⟩:∃b,decide (m<=6000)=b:=⟨_,rfl⟩;have L:=hf b;clear hf
  repeat' first|simp only[go_sem, *]|apply bc<;>intro k
  done
 all_goals
  rintro i fr h n x I ⟨p,f,rfl,m,c⟩;have H:=p4 t n;have sm:=C _ (zH n);have D:=uI sm.sl;have u:= @pW _ _ sm.sl;have sl:=sm.len;clear t;generalize l[i]=a at *
  obtain⟨A,G⟩:=a
  repeat' first|simp only[go_sem, *]|apply bc<;>intro k
  all_goals refine zY (λj fr h'=>fr 0=d/\fr 4=.int .i64 (i:Int)/\fr 5=.int .i64 (j:Int)/\h'=h/\∃m,fr 3=.int .i64 m) A.length (by show A.length<=_;have:A.length<=1048576:=sl;omega) ?_ ?_ ?_
  rotate_left
  any_goals
   rintro j s B o q y ⟨p,f,z,rfl,m2,c⟩;have w:=u o;simp only[Trm.cells]at w;clear hf u;generalize A[j]=T at *
   repeat' first|simp only[go_sem, *]|apply bc<;>intro k
   refine yJ kr ?_
   repeat' first|simp only[go_sem, *]|apply bc<;>intro k
   exact⟨_,rfl⟩
  any_goals
   rintro s B q ⟨p,f,z,rfl,m2,c⟩;clear hf u
   repeat' first|simp only[go_sem, *]|apply bc<;>intro k
   exact⟨_,rfl⟩
  all_goals
   simp only[go_sem,zM,zV,zG]
   first
    |exact⟨f,_,c⟩
    |exact⟨p,f,_,c⟩
def GD{y:Cho}(w:V7 y d)(e:y.Sm)(o:∀s∈y.own,s.length<=1048576)(g:Heap):zD prog 31 [d] g λr h'=>h'=g/\∃b,r=.bool b:=by
 refine xP λQ f=> ?_;have hf:∀b,Q (.bool b) g:=λb=>f _ _ ⟨rfl,b,rfl⟩;obtain⟨td,od,rfl,v,k⟩:=w;have a:=Bc v e.tl e.ts;have p:=wO k;have q:=e.ol;clear f;refine zj zOY ?_;simp only[f31,zA]
 repeat' first|simp only[go_sem, *]|apply bc<;>intro j
 refine(a _).mono ?_;rintro r h ⟨t,b,rfl⟩;subst t;clear a;cases b with
 |false=>
  repeat' first|simp only[go_sem, *]|apply bc<;>intro j
 |true=>
 repeat' first|simp only[go_sem, *]|apply bc<;>intro j
 rename Heap=>g
 refine zY (λi fr h=>fr 1=.iptr [td,od] 0/\fr 3=.int .i64 (i:Int)/\h=g) y.own.length ow ?_ ?_ ?_
 .simp only[go_sem,zM,zV,zG]
 .rintro i fr h c l z ⟨m,n,rfl⟩
  have x:=sP k c;have u:=o _ (zH c);generalize y.own[i]=s at *
  exact au
 .rintro fr h l ⟨m,n,rfl⟩
  exact au
def Be{ks:List Int}{f rd wd:D}{w:List NdI}{ys:List Cho}(hf:yZ 1 (wt ks) f)(H:ks.length<=1048576)(G:kY w rd)(A:w.length<=1048576)(L:Hr ys wd)(M:ys.length<=1048576)(n:∀y∈ys,y.Sm)(m:∀y∈ys,∀s∈y.own,s.length<=1048576)(g:Heap):zD prog 10 [.agg [f,rd,wd]] g λr h'=>h'=g/\∃b,r=.bool b/\(b=true->FewR w):=by
 refine xP λQ x=> ?_;have c:∀h,h=g->Q (.bool false) h:=λh e=>x _ _ ⟨e,_,rfl,λq=>by cases q⟩;have o:FewR w->∀h,h=g->Q (.bool true) h:=λhr h e=>x _ _ ⟨e,_,rfl,λ_=>hr⟩;have p:=Bd G A;have I:=λh=>t8 hf (h:=h);obtain⟨xs,v,u,l⟩:=L;have J:∀h,o9 prog 33 wd h=some (.int .i64 (ys.length:Int)):=λh=>by rw[wL v underlying33,u]
 clear x u;cases O:decide ((ks.length:Int)>20)with
 |true=>
  have c:=c g rfl;refine zj zJr ?_;simp only[f10,zA]
  repeat' first|simp only[go_sem, *]|apply bc<;>intro a
 |false=>
 cases P:decide ((ys.length:Int)>20)with
 |true=>
  have c:=c g rfl;refine zj zJr ?_;simp only[f10,zA]
  repeat' first|simp only[go_sem, *]|apply bc<;>intro a
 |false=>
 refine zj zJr ?_;simp only[f10,zA]
 repeat' first|simp only[go_sem, *]|apply bc<;>intro a
 refine(p _).mono ?_;rintro r h ⟨B,b,rfl,z⟩;subst B;clear p;cases b with
 |false=>
  have c:=c h rfl;clear z
  repeat' first|simp only[go_sem, *]|apply bc<;>intro a
 |true=>
 have o:=o (z rfl);clear z
 repeat' first|simp only[go_sem, *]|apply bc<;>intro a
 rename Heap=>g
 refine zY (λi fr h=>fr 1=.iptr [f,rd,wd] 0/\fr 3=.int .i64 (i:Int)/\h=g) ys.length ow ?_ ?_ ?_
 .simp only[go_sem,zM,zV,zG]
 .rintro i fr h j C R ⟨E,F,rfl⟩
  obtain⟨ta,oa,t,d⟩:=l i _ (zB j);have N:=yR (k:=.i64) v No Zu t;have K:yO true 2 [ta,oa] 0=some (.agg [ta,oa]):=zJ rfl ow;have a:=GD d (n _ (zH j)) (m _ (zH j));have c:=c h rfl;clear o l t n m d
  repeat' first|simp only[go_sem, *]|apply bc<;>intro a
  refine(a _).mono ?_;rintro r h ⟨B,b,rfl⟩;subst B;clear a;cases b with
  |false=>
   repeat' first|simp only[go_sem, *]|apply bc<;>intro a
  |true=>
   exact au
 .rintro fr h C ⟨E,F,rfl⟩
  have o:=o h rfl;clear l n m;exact au
def Az{id sz len:Nat}{cs rest:List D}(a:∀x∈xs,x.length=sz)(c:xs.length=len)(b:cs=xs.flatten++rest):frz id cs (.rs id sz 0 len)=.sl sz xs .no:=by
 subst b c;simp only[frz];have hf:=uP a;rw[ip ⟨trivial,by rw[zQ,hf];omega⟩,wN,qt (by rw[hf];omega),yP (by rw[hf];omega),pX a]
noncomputable abbrev zMW:Cfg:=zi [7] []
def Lj:Pb prog zMW f16=true:=kr
def W7{l:List Fac} :∀x∈sL l,x.length=12:=λx a=>by
 obtain⟨f,_,rfl⟩:=zS.1 a;rfl
def bO(l:List Fac):(sL l).flatten.length=l.length*12:=by
 rw[uP W7,pY]
variable{fs:List Fac}{x:D}{c:Cat}
def Kh(h0:fs≠[])(j:fs.length<=65536)(i:yZ 12 (sL fs) x)(h:Heap):zD prog 16 [x] h λr h'=>r=.rs h.next 12 0 fs.length/\h'=h.new h.next (.row (sL fs).flatten):=by
 have b:sL fs≠[]:=by simp_all [sL]
 obtain⟨tk,rfl⟩:∃tk,x=.sl 12 (sL fs) tk:=by
  rcases i with⟨_,e⟩ |h
  .exact absurd e b
  .exact h
 have k:0<fs.length:=zy.2 h0;have a:=bO fs;have f:TR 12 (.sl 12 (sL fs) tk) h=some (sL fs).flatten:=by simp[TR]
 have d:∀c,kW prog .eql 29 c (.sl 12 (sL fs) tk) .nilsl=some (.bool false):=λc=>by rw[um (yZ.mk tk) underlying29];rfl
 refine xO mix func16 Lj rfl rfl ?_;simp only[f16,zA];have this:qS prog true h.next 29 (.sl 12 [] .full) (.sl 12 (sL fs) tk) h=some (.rs h.next 12 0 fs.length,h.new h.next (.row (sL fs).flatten)):=by
  generalize(sL fs).flatten=L at *
  have e1:L.length/12=fs.length:=by rw[a];omega
  have e2:L.length/12*160<=lim:=by rw[e1];unfold lim;omega
  have e3:L.length/12<=lim:=by rw[e1];unfold lim;omega
  simp only[qS,fU,Hc,dm,qF,f,tB,Tq,qD];rw[ip (by simp[e2,e3]),iq ow];simp[sV underlying57,e1]
 simp only[go_sem,Nat.reduceEqDiff,↓reduceIte,d,uc,Nat.reduceBEq,wT fU Ms dm rfl rfl (by omega:0<12),this]
def P5{l:List Fac} :(sL l).flatten.take (i*12)=(sL (l.take i)).flatten:=by
 induction l generalizing i with
 |nil=>simp[sL]
 |cons f l a=>
  cases i with
  |zero=>simp[sL]
  |succ i=>
   have e:(sL (f::l)).flatten=f.cells++(sL l).flatten:=rfl;have e2:(sL ((f::l).take (i+1))).flatten=f.cells++(sL (l.take i)).flatten:=rfl;have b:f.cells.length=12:=rfl;rw[e,e2,<-a,je,yP ow];congr 2;omega
def PN{l:List Fac} :(sL l).flatten.drop (i*12)=(sL (l.drop i)).flatten:=by
 induction l generalizing i with
 |nil=>simp[sL]
 |cons f l a=>
  cases i with
  |zero=>simp
  |succ i=>
   have e:(sL (f::l)).flatten=f.cells++(sL l).flatten:=rfl;have b:f.cells.length=12:=rfl;rw[e,d7,<-a,nU,uQ ow,yU];congr 1;omega
def Bi(b:i<fs.length)(c:fs.length<=1048576)(a:h.at' id=some (.row (sL fs).flatten)):
  zD prog 15 [.rs id 12 0 fs.length,.int .i64 (i:Int),.int .i64 ((i+1:Nat):Int)] h λr h'=>r=.rs id 12 0 (fs.length-1)/\h'=h.set id (.row ((sL (fs.eraseIdx i)).flatten++BR)):=by
 refine(Tz b c (bO fs) a).mono λr h' q=>⟨q.1,?_⟩;rw[q.2,P5,PN,oM];simp[sL]
def AA{ca cb ce cp x:D}(K:KIn c fs ca cb ce cp x)(a:qC 0 [ca,cb,ce,cp]){J:List Nat}(H:InI fs J){id m:Nat}{r:List D}(b:(uH fs J).length=m)(hr:h.at' id=some (.row ((sL (uH fs J)).flatten++r))):
  zD prog 14 [.agg [ca,cb,ce,cp],.rs id 12 0 m] h λd h'=>d=In c (uH fs J)/\h'=h.frz id ((sL (uH fs J)).flatten++r):=by
 refine zD.argsFrz hr ?_;have e:cq id ((sL (uH fs J)).flatten++r) [.agg [ca,cb,ce,cp],.rs id 12 0 m]= [.agg [ca,cb,ce,cp],.sl 12 (sL (uH fs J)) .no]:=by
  show [D.agg (cq id _ [ca,cb,ce,cp]),frz id _ (.rs id 12 0 m)]=_;rw[sT _ _ _ a,Az (xs:=sL (uH fs J)) (rest:=r) W7 (by rw[pY];exact b) rfl]
 rw[e];exact(RK K.cat K.sm (yZ.mk .no) (XF K.few K.h16 H.sub) (λf hf=>K.ok f (kH hf)) (λe=>by have:=R5 e;omega) _).mono λd h' q=>⟨q.2,q.1⟩
def zEd(c:j≠id)(b:qC 0 ds)(a:h.at' j=some (.row ds)):(h.frz id cs).at' j=some (.row ds):=by
 simp only[Heap.frz];rw[iq c,a];simp[zJo,sT _ _ _ b]
section
variable{c:Cat}{fs:List Fac}{y z:Cho}
def NQ(h:y.ts.map Alt.ts=z.ts.map Alt.ts)(k:Nat):(lW y k).ts=(lW z k).ts:=by
 have:=congrArg (λl:List (List Trm)=>l[k]?) h;simp only[zm]at this;unfold lW;rw[zE,zE];cases e1:y.ts[k]? <;>cases e2:z.ts[k]? <;>rw[e1,e2]at this<;>simp at this⊢;exact this
def zCJ(h:y.ts.map Alt.ts=z.ts.map Alt.ts)(i:Nat):(alS fs y i).map Alt.ts=(alS fs z i).map Alt.ts:=by
 unfold alS;cases fs[i]? with
 |none=>rfl
 |some f=>
  simp only;rw[NQ h];split
  .split
   .simp only[qZ];rw[NQ h]
   .rfl
  .rfl
theorem Vm(h:y.own=z.own):∀n,(yt y fs n).O=(yt z fs n).O/\(yt y fs n).outs=(yt z fs n).outs
 |0=>⟨rfl,rfl⟩
 |n+1=>by
  obtain⟨h1,a⟩:=Vm h n;have h3:∀k,jR y k=jR z k:=λk=>by unfold jR;rw[h]
  simp only[yt,Fb];cases fs[n]? with
  |none=>exact⟨h1,a⟩
  |some f=>
   simp only[a,h3];split
   .split<;>split<;>first|exact⟨h1,a⟩ |exact⟨h1,rfl⟩ |exact⟨h1,a.symm▸rfl⟩
   .split
    .split
     .exact⟨h1,a⟩
     .simp only[h1,and_self]
    .exact⟨h1,a⟩
def zAd{al al':Nat->Option Alt}{O:KV}(h:∀i,(al i).map Alt.ts=(al' i).map Alt.ts){r:Nat}{l:List Nat}(hr:dR c fs al O r l):dR c fs al' O r l:=by
 have h1:Zx al=Zx al':=funext λi=>by
  have:=h i;unfold Zx;cases e1:al i<;>cases e2:al' i<;>rw[e1,e2]at this<;>simp at this⊢;exact this
 have b:∀{i u k},TriP fs al i u k->TriP fs al' i u k:=λ{i u k} t=>⟨t.lt,by
  have:=h i;have:=t.al;cases e1:al i<;>cases e2:al' i<;>simp_all,t.ku,t.cu,t.kh,t.oh⟩
 rcases r with _|_|_|_|_|r
 .obtain⟨i,u,k,a,q⟩:=hr;exact⟨i,u,k,b a,by rw[<-h1];exact q⟩
 .obtain⟨i,u,k,o,a,q⟩:=hr;exact⟨i,u,k,o,b a,by rw[<-h1];exact q⟩
 .obtain⟨i,u,k,o,a,q⟩:=hr;exact⟨i,u,k,o,b a,by rw[<-h1];exact q⟩
 .obtain⟨i,u,k,d,f,k',a,e,q⟩:=hr;exact⟨i,u,k,d,f,k',b a,b e,by rw[<-h1];exact q⟩
 .exact hr
 .exact hr
def zBC(h1:y.ts.map Alt.ts=z.ts.map Alt.ts)(b:y.own=z.own){v:Vio}(a:v∈pq c fs y):v∈pq c fs z:=by
 rw[TT]at a⊢;obtain⟨i,d,e,l,f,g⟩:=a;refine⟨i,d,e,l,?_,g⟩;rw[<-(Vm b fs.length).1];exact zAd (zCJ h1) f
def PI(h0:qN c fs y false=0)(h1:Zf c fs y=true):rZ c fs≠[]:=by
 have W:=Qi.1 h0;have o:=V3 W;obtain⟨q,k⟩:∃q,q=(⟨y.ts.map Alt.ts,y.own⟩:Part):=⟨_,rfl⟩;have d:(jl q).ts.map Alt.ts=y.ts.map Alt.ts:=by
  rw[k];show((y.ts.map Alt.ts).map jy).map Alt.ts=_;rw[wB];exact(wR λa _=>Yj a).trans (List.map_id _)
 have b:(jl q).own=y.own:=by rw[k];rfl
 have g:(jl q).ts.length=y.ts.length:=by have:=congrArg List.length d;simpa using this
 have m:Whole c fs (jl q):=⟨W.cat,W.len,W.fact,W.of,by rw[g];exact W.tl,λi h f e=>by
  have:=W.ts i (by rw[<-g];exact h) f e;have e2:=congrArg (λl:List (List Trm)=>l[i]?) d;simp only[zm,zB h,zB (show i<y.ts.length by rw[<-g];exact h),qZ,wX]at e2;rw[e2];exact this,by rw[b];exact W.ol,by rw[b];exact W.own⟩
 refine(Rb o).2 ⟨q,m.full,List.eq_nil_iff_forall_not_mem.2 λv n=> ?_⟩;have j:=zBC d b n;unfold Zf at h1;rw[iq (by rw[h0];decide),Yi]at h1;cases e:pq c fs y with
 |nil=>rw[e]at j;cases j
 |cons a l=>rw[e]at h1;cases h1
end
def LM{f:D}(hf:yZ 1 (wt (nI I)) f)(a:i<I.length)(b:I.length<=1048576)(g:Heap):zD prog 35 [f,.int .i64 (i:Int)] g λr h'=>h'=g/\r=zG0 (I.eraseIdx i):=by
 obtain⟨tk,rfl⟩:∃tk,f=.sl 1 (wt (nI I)) tk:=by
  rcases hf with⟨_,e⟩ |h
  .have:I= []:=by simpa [wt]using e
   subst this;cases a
  .exact h
 refine(Y4 (ks:=nI I) (d:=.sl 1 (wt (nI I)) tk) (i:=i) (by rw[zI];exact a) (by rw[zI];exact b) (by simp only[TR,qF];rw[show wt (nI I)=(nI I).map λn=>[D.int .i64 n]from rfl,XI]) (λc=>by rw[um (yZ.mk tk) underlying30];rfl)).mono λr h' q=>⟨q.1,?_⟩
 rw[q.2];exact congrArg (D.sl 1 · .no) (by rw[gO];first|rfl|exact congrArg _ (JY _ _ _))
def zHL{a:List NdI}{rd:D}(h:kY a rd):qW prog 49 [(2,rd)]=some (.agg [.bool false,.nilsl,.nilsl,rd]):=by
 obtain⟨_,h,_⟩:=h;rcases h with⟨rfl,_⟩ | ⟨tk,rfl⟩ <;>simp[qW,fq,Yd,ua,wS,D.cells,D.notTuple]
section
variable{c:Cat}{fs:List Fac}{ca cb ce cp x:D}
theorem LD(K:KIn c fs ca cb ce cp x){ks:List Int}{f rd wd:D}{L:List NdI}{ys:List Cho}(hf:yZ 1 (wt ks) f)(ak:ks.length<=1048576)(X:∀n∈ks,fits .i64 n)(hd:kY L rd)(hR:FewR L)(hw:Hr ys wd)(a7:∀y∈ys,y.Sm)(b7:ys.length<=1048576)(g:Heap):zD prog 11 [.agg [ca,cb,ce,cp],x,.agg [f,rd,wd]] g λr h'=>h'=g/\∃e,r=.int .i64 e/\zL5 c fs ks L ys e:=by
 refine xU kr λbb=> ?_;refine xP λR o=> ?_;have N:∀h e,Ext g h->zL5 c fs ks L ys e->R (.int .i64 e) h:=λh e M v=>o _ _ ⟨M,trivial,e,rfl,v⟩;have b4:∀a b c:D,yO true 3 [a,b,c] 0=some (.agg [a,b,c]):=λa b c=>zJ rfl ow;have hl:=K.h16;have u:=Q7 K.cat K.sm K.x ow K.ok;unfold XB at u;have a2:=F7 K.x K.sh.s hf ak X;obtain⟨f1,f2,f3⟩:=zw hf;obtain⟨r1,r2,r3⟩:rd.cells= [rd]/\rd.notTuple=true/\rd.flat=true:=by
  obtain⟨_,h,_⟩:=(λq=>q) hd;exact zw h
 obtain⟨xs,S,a6,a4⟩:=hw;obtain⟨w1,w2,w3⟩:=zw S;have b1:∀h,o9 prog 33 wd h=some (.int .i64 (ys.length:Int)):=λh=>by rw[wL S underlying33,a6]
 cases e0:(qi c fs==0)with
 |false=>
  have a0:qi c fs≠0:=by simpa using e0
  have m:=N g _ (Ext.refl g) (.inl ⟨a0,rfl⟩);rw[iq (by rw[e0];exact zd)]at u;refine zj zIE ?_;simp only[f11,zA]
  repeat' first|simp only[go_sem, *]|apply bc<;>intro v|(refine zD.mono (u _) ?_;rintro r h ⟨E,rfl⟩)
 |true=>
  have h0:qi c fs=0:=eq_of_beq e0;rw[ip e0]at u;have d:¬Hq c fs ks L ys->∀h,Ext g h->R (.int .i64 18) h:=λA h M=>N h _ M (.inr ⟨h0,.inr ⟨A,rfl⟩⟩);have o:Hq c fs ks L ys->∀h,Ext g h->R (.int .i64 0) h:=λA h M=>N h _ M (.inr ⟨h0,.inl ⟨A,rfl⟩⟩);refine zj zIE ?_;simp only[f11,zA]
  repeat' first|simp only[go_sem, *]|apply bc<;>intro v|(refine zD.mono (u _) ?_;rintro r h ⟨E,rfl⟩)
  subst E
  rename Heap=>g
  refine(a2 _).mono ?_;rintro r h ⟨E,hp⟩;subst E
  rename Heap=>g
  rcases hp with⟨A,rfl⟩ | ⟨A,hi,rfl⟩ | ⟨A,hi,p,hp,rfl⟩
  .have m:=d (λ⟨I,e,G⟩=>by rw[e,(XP G.h).1]at A;cases A) g (Ext.refl g)
   exact au
  .have m:=d (λ⟨I,e,G⟩=>hi (by rw[e];exact(XP G.h).2)) g (Ext.refl g)
   exact au
  .obtain⟨I,rfl,H⟩:=IF A hi
   rw[fp H.lt]at hp;obtain⟨p1,p2,p3⟩:=zw hp.isSl;have F:=H.sub;have B:=λg=>Gc K.cat K.sm hp.isSl (XF K.few K.h16 F) (λf hf=>K.ok f (kH hf)) (b:=false) (y:=⟨[],[]⟩) (ta:=.nilsl) (oa:=.nilsl) ⟨_,_,rfl,yZ.nil,yZ.nil⟩ ⟨jD,jD,λa ha=>by cases ha⟩ hd hR g;have b5:=zHL hd;have bx:∀h,o9 prog 30 f h=some (.int .i64 (I.length:Int)):=λh=>by
    have:=t8 hf (h:=h)
    rwa [zI]at this
   have bo:I.length<=24:=by
    have h1:=F.length_le;rw[kG H.lt]at h1;omega
   cases e1:(Pt c (uH fs I) false ⟨[],[]⟩ L==0)with
   |false=>
    have m:=d (λ⟨J,e,G⟩=>by
     cases J3 e;rw[G.s]at e1;cases e1) g (Ext.refl g)
    generalize Pt c (uH fs I) false ⟨[],[]⟩ L=se at *
    repeat' first|simp only[go_sem, *]|apply bc<;>intro v|(refine zD.mono (B _) ?_;rintro r h ⟨E,rfl⟩)
   |true=>
   have e2:=eq_of_beq e1;rw[e2]at B;cases e3:((ys.length:Int)==(I.length:Int))with
   |false=>
    have m:=d (λ⟨J,e,G⟩=>by
     cases J3 e;rw[G.l]at e3;simp at e3) g (Ext.refl g)
    repeat' first|simp only[go_sem, *]|apply bc<;>intro v|(refine zD.mono (B _) ?_;rintro r h ⟨E,rfl⟩)
   |true=>
   have b6:ys.length<=I.length/\I.length<=ys.length:=by have:=yE e3;omega
   have d:∀i y,ys[i]? =some y->okW c fs I i y=false->∀h,Ext g h->R (.int .i64 18) h:=λi y q1 q2=>d λ⟨J,e,G⟩=>by
    cases J3 e;rw[G.w i y q1]at q2;cases q2
   have o:(∀i y,ys[i]? =some y->okW c fs I i y=true)->∀h,Ext g h->R (.int .i64 0) h:=λq=>o ⟨I,rfl,H,e2,ow,q⟩;have M:=Ext.refl g
   repeat' first|simp only[go_sem, *]|apply bc<;>intro v|(refine zD.mono (B _) ?_;rintro r h ⟨E,rfl⟩)
   subst E
   rename Heap=>g
   refine zY (λi fr h=>fr 1=x/\fr 3=.iptr [ca,cb,ce,cp] 0/\fr 5=.iptr [f,rd,wd] 0/\fr 52=wd/\fr 53=.int .i64 (ys.length:Int)/\fr 54=.int .i64 (i:Int)/\Ext g h/\∀j y,j<i->ys[j]? =some y->okW c fs I j y=true) ys.length ow ?_ ?_ ?_
   .have ag:∀j y,j<0->ys[j]? =some y->okW c fs I j y=true:=λj y h=>absurd h (yX _)
    simp only[go_sem,zM,zV,zG];exact⟨M,ag⟩
   .rintro i fr h Y ec ew ⟨q1,q3,q5,a8,a9,ba,z,W⟩
    have T:ys[i]? =some ys[i]:=zB Y;obtain⟨ta,oa,a5,C⟩:=a4 i _ T;have a3:=a7 _ (zH Y);have P:=d i _ T;have Z:okW c fs I i ys[i]=true->∀j y,j<i+1->ys[j]? =some y->okW c fs I j y=true:=λhk j y aj e=>by
     rcases zp.1 aj with q|rfl
     .exact W j y q e
     .rw[T]at e;cases e;exact hk
    have a1:=yR (k:=.i64) S No Zu a5;have b3:yO true 2 [ta,oa] 0=some (.agg [ta,oa]):=zJ rfl ow;obtain⟨_,_,he,ht,ho⟩:=id C;cases he;have ai: [ta,oa].all D.flat=true:=by simp[(zw ht).2.2,(zw ho).2.2]
    have Q:=LM hf (i:=i) ow ow;have ad:(I.eraseIdx i).Sublist I:=j6 _ _;have H2:=H.mono ad;have O:=Bx K.x K.sh (I:=I.eraseIdx i) (f:=zG0 (I.eraseIdx i)) (yZ.mk .no) H2.lt (by have:=ad.length_le;omega);have U:=XF K.few K.h16 H2.sub;have t:=bD (⟨K.cat,K.sm,FN (I.eraseIdx i),by have:=U.1.2;omega,U.1.1,λf hf=>K.ok f (kH hf),C,a3⟩:CIn c (uH fs (I.eraseIdx i)) ys[i] (.agg [ca,cb,ce,cp]) (IE fs (I.eraseIdx i)) (.agg [ta,oa]));rw[RT]at t;unfold okW at P Z;obtain⟨n,hn⟩:∃n,h.next=n:=⟨_,rfl⟩
    obtain⟨G,hG,bk,V⟩:∃G:Heap,h.new n (.row [ta,oa])=G/\G.at' n=some (.row [ta,oa])/\Ext g G:=⟨_,rfl,z5 _ _ _,by rw[<-hn];exact z.new (by have:=z.1;omega) _⟩;have b2:yW prog 47 (.ptr n 0) (.agg [ta,oa]) (h.new n (.row [.nilsl,.nilsl]))=some G:=by
     rw[<-hG];exact ym Zu ow rfl rfl ai
    generalize ys[i]=y at *
    generalize Zf c (uH fs (I.eraseIdx i)) y=kb at *
    generalize qN c (uH fs (I.eraseIdx i)) y false=ke at *
    repeat' first|simp only[go_sem, *]|apply bc<;>intro v
    refine yq G ((0,.st,true)::((7,.st,true)::(pwt [1,2,3,4,5,6] (pwf [8,9,10,11,12,13] [])))) kr kr (λ_ _ e=>e) ?_;have bs:HLe G G:=λ_ _ e=>e;cases k1:(ke==0)with
    |false=>
     have m:=P (by rw[k1];rfl) G V
     repeat' first|simp only[go_sem, *]|apply bc<;>intro v|refine zD.use (Q _) ?_|refine zD.use (O _) ?_|refine zD.use (t _) ?_
    |true=>
    have k2:=eq_of_beq k1;rw[k2]at t;cases kb with
    |false=>
     have m:=P (by rw[k1];rfl) G V
     repeat' first|simp only[go_sem, *]|apply bc<;>intro v|refine zD.use (Q _) ?_|refine zD.use (O _) ?_|refine zD.use (t _) ?_
    |true=>
     have W:=Z (by rw[k1];rfl)
     repeat' first|simp only[go_sem, *]|apply bc<;>intro v|refine zD.use (Q _) ?_|refine zD.use (O _) ?_|refine zD.use (t _) ?_
     exact W
   .rintro fr h ec ⟨q1,q3,q5,a8,a9,ba,z,W⟩
    have m:=o (λi y e=>W i y (zK.1 e).1 e) h z;exact au
end
variable{c:Cat}{fs:List Fac}{x:D}
def Ke{m x:D}(j:uB c m)(p:c.Sm)(s:yZ 12 (sL fs) x)(t:fs.length<=1048576)(k:∀f∈fs,f.Ok0)(g:Heap):zD prog 9 [m,x] g λr h'=>h'=g/\∃b,r=.bool b/\(b=true->Fx fs/\c.ls.length<=40):=by
 refine xP λQ n=> ?_;have hf:Q (.bool false) g:=n _ _ ⟨rfl,_,rfl,λq=>by cases q⟩;have l:=PC j p s t k;have i:=λ(d:Fx fs/\c.ls.length<=40)=>GR j p d.2 s d.1.1.2 (λf h=>(k f h).ok (d.1.2 f h)) d.1.2;have e:Fx fs/\c.ls.length<=40->∀b,Q (.bool b) g:=λd b=>n _ _ ⟨rfl,b,rfl,λ_=>d⟩;obtain⟨ca,cb,ce,cp,rfl,u,_,_,_⟩:=j;refine zj ok9 ?_;simp only[f9,zA]
 repeat' first|simp only[go_sem, *]|apply bc<;>intro j
 refine(l _).mono ?_;rintro r h ⟨o,b,rfl,d⟩;subst o;cases b with
 |false=>
  repeat' first|simp only[go_sem, *]|apply bc<;>intro j
 |true=>
 have d:=d rfl;have i:=i d;have e:=e d
 repeat' first|simp only[go_sem, *]|apply bc<;>intro j|(refine zD.mono (i _) ?_;rintro r h ⟨o,a,b,rfl⟩)
variable{c:Cat}{fs gs:List Fac}
def zG7{ca cb ce cp x:D}(e:uB c (.agg [ca,cb,ce,cp]))(g:c.Sm)(h:yZ 12 (sL fs) x)(b:Hp fs)(a:∀f∈fs,f.Ok)(d:qi c fs=0):SpD c fs ca cb ce cp x (.sl 1 (Wr (tV c fs)) .no) (.sl 1 (wg (oV c fs)) .no):=by
 obtain⟨i,j⟩:=dC (c:=c) (l:=fs);have k:=b.1.2;exact⟨e,g,h,b,a,bI d,yZ.mk .no,yZ.mk .no,by unfold tV;omega,by unfold oV;omega,pM (c:=c) (l:=fs)⟩
def zLi(r:Pl):Pl:=.op 8 .no (.op 9 .no (.op 10 .no (.op 13 .no r)))
def zIW:Pl:=zLi (.op 12 .no .nil)
def zLj:Pl:=.op 0 .st (.op 1 .no (.op 3 .no (.op 4 .no (.op 5 .no (.or (.op 11 .no (.op 2 .no (.op 6 .no (.op 7 .no zIW))))
 (.op 2 .no (.or (.op 11 .no (.op 6 .no (.op 7 .no zIW)))
 (.op 6 .no (.or (.op 11 .no (.op 7 .no zIW)) (.op 7 .no (zLi (.op 11 .no (.op 12 .no .nil)))))))))))))
noncomputable abbrev zMX:Cfg:=zi [] []
def zAO:zAN prog zMX 12 zLj f4=true:=kr
def rR(h:Heap):HLe Heap.emp h=True:=by
 apply propext;exact⟨λ_=>trivial,λ_ i a e=>by cases e⟩
section
variable{c:Cat}{fs:List Fac}{ca cb ce cp x:D}
def G6(K:KIn c fs ca cb ce cp x)(h0:qi c fs=0){d:List NdI}{ys:List Cho}(G:GoodI c fs I d ys):qi c (uH fs I)=0/\rZ c (uH fs I)= []:=by
 have b:=JT h0 G.h.sub;refine⟨b,?_⟩;have a:=G.s;unfold Pt at a;rw[iq (by rw[b];decide),iq zd]at a;split at a
 .exact absurd a jD
 .rename_i h
  simp only[yn,bg,Bool.not_eq_true,Bool.not_eq_false']at h;exact Lq (zG7 K.cat K.sm (yZ.mk .no) (XF K.few K.h16 G.h.sub) (λf hf=>K.ok f (kH hf)) b) h.2
def LY(h0:qi c fs=0){d:List NdI}{ys:List Cho}(G:GoodI c fs I d ys)(b:i<I.length):InI fs (I.eraseIdx i)/\qi c (uH fs (I.eraseIdx i))=0/\rZ c (uH fs (I.eraseIdx i))≠[]:=by
 have H:=G.h.mono (j6 I i);have a:=G.w i _ (zB (by rw[G.l];exact b));unfold okW at a;simp only[zF]at a;exact⟨H,JT h0 H.sub,PI (eq_of_beq a.1) a.2⟩
def L6(h0:qi c gs=0)(h1:rZ c gs≠[]):∃ta oa rd,In c gs=.tuple [.agg [.bool true,ta,oa,rd],.int .i64 0]/\ta.flat=true/\oa.flat=true/\rd.flat=true:=by
 obtain⟨b,ta,oa,rd,e,f,g⟩:=(zBJ.of (c:=c) (fs:=gs) rfl).b;rcases g with⟨k,_⟩ | ⟨_,k,_⟩
 .exact absurd h0 k
 .have:b=true:=by
   rw[k];cases d:rZ c gs with
   |nil=>exact absurd d h1
   |cons a l=>rfl
  subst this;rw[h0]at e;exact⟨ta,oa,rd,e,f⟩
def Io(h0:qi c gs=0)(h1:rZ c gs= []):∃ta oa rd,In c gs=.tuple [.agg [.bool false,ta,oa,rd],.int .i64 0]/\ta.flat=true/\oa.flat=true/\rd.flat=true:=by
 obtain⟨b,ta,oa,rd,e,a,d⟩:=(zBJ.of (c:=c) (fs:=gs) rfl).b;rcases d with⟨k,_⟩ | ⟨_,k,_⟩
 .exact absurd h0 k
 .have:b=false:=by rw[k,h1];rfl
  subst this;rw[h0]at e;exact⟨ta,oa,rd,e,a⟩
end
def Z2(id:Nat)(h h':Heap):Prop:=h.next<=h'.next/\∀j ds,j≠id->qC 0 ds->h.at' j=some (.row ds)->h'.at' j=some (.row ds)
def Z2.new(o:Obj):Z2 h.next h (h.new h.next o):=⟨by rw[za];omega,λj ds b _ a=>by rw[zf b];exact a⟩
def Z2.set(o:Obj):Z2 id h (h.set id o):=⟨by rw[yY];omega,λj ds b _ a=>by rw[zX b];exact a⟩
def Z2.frz:Z2 id h (h.frz id cs):=⟨zC _,λj ds c b a=>zEd c b a⟩
variable{c:Cat}{fs:List Fac}{x:D}
def Q4{ca cb ce cp x:D}(i:uB c (.agg [ca,cb,ce,cp]))(m:c.Sm)(n:yZ 12 (sL fs) x)(o:fs.length<=300)(e:∀f∈fs,f.Ok)(h0:qi c fs≠0){f rd wd:D}{k:List D}(l:k= [f,rd,wd])(g:Heap):zD prog 11 [.agg [ca,cb,ce,cp],x,.agg k] g λr h'=>h'=g/\r=.int .i64 (qi c fs):=by
 subst l;refine xP λR b=> ?_;have j:=b _ _ ⟨rfl,rfl⟩;clear b;have a:=Q7 i m n ow e;unfold XB at a;have d:(qi c fs==0)=false:=yv.2 h0;rw[iq (by rw[d];exact zd)]at a;refine zj zIE ?_;simp only[f11,zA]
 repeat' first|simp only[go_sem, *]|apply bc<;>intro i|(refine zD.mono (a _) ?_;rintro r h ⟨p,rfl⟩)
theorem Yp(o:uB c d)(hs:c.Sm)(hx:yZ 12 (sL fs) x)(hl:fs.length<=1048576)(O:∀f∈fs,f.Ok0)(b1:ShF fs)(Y:below 0 d)
  {ks:List Int} {f rd wd:D} {ns:List NdI} {ys:List Cho} (hf:yZ 1 (wt ks) f) (ad:ks.length<=1048576) (z:∀n∈ks,fits .i64 n) (hd:kY ns rd) (bs:ns.length<=1048576) (hw:Hr ys wd) (a1:ys.length<=1048576) (T:∀y∈ys,y.Sm) (ai:∀y∈ys,∀s∈y.own,s.length<=1048576) (g:Heap):zD prog 4 [d,x,.agg [f,rd,wd]] g λr _=>r=.bool true:=by
 refine xP λQ hQ=> ?_;have hT:∀h,Q (.bool true) h:=λh=>hQ _ _ rfl;have ba:=Z3;have bk:=Ke o hs hx hl O;have bb:=Be hf ad hd bs hw a1 T ai;obtain⟨ca,cb,ce,cp,rfl,_,_,_,_⟩:=id o;have b9:∀a b c:D,yO true 3 [a,b,c] 0=some (.agg [a,b,c]):=λa b c=>zJ rfl ow;clear hQ;refine zD.of_fnU (g:=zMX) 12 zLj mix func4 zAO rfl rfl ?_;simp only[f4,zA]
 repeat' first|simp only[go_sem, *]|apply bc<;>intro o|(refine zD.mono (ba _) ?_;rintro r h ⟨rfl,S⟩)
 refine(bk _).mono ?_;rintro r h ⟨S,b,rfl,hL⟩;subst S;clear ba bk;cases b with
 |false=>
  clear hL
  repeat' first|simp only[go_sem, *]|apply bc<;>intro o
 |true=>
 have hF:=(hL rfl).1.few;have J:=(hL rfl).1.1.1;have w:∀f∈fs,f.Ok:=λf hf=>(O f hf).ok (hF.2 f hf);clear hL
 repeat' first|simp only[go_sem, *]|apply bc<;>intro o
 refine(bb _).mono ?_;rintro r h ⟨S,b,rfl,hR⟩;subst S;clear bb;cases b with
 |false=>
  clear hR hF J w
  repeat' first|simp only[go_sem, *]|apply bc<;>intro o
 |true=>
 have hR:=hR rfl;by_cases h0:qi c fs=0
 case neg=>
  have X:=Q4 o hs hx (by have:=hF.1.2;omega) w h0 (f:=f) (rd:=rd) (wd:=wd) rfl;have e0:(qi c fs==0)=false:=yv.2 h0;clear hF O w h0 J Y hR z T ai hw hd hf
  repeat' first|simp only[go_sem, *]|apply bc<;>intro o|(refine zD.mono (X _) ?_;rintro r h ⟨S,rfl⟩)
 case pos=>
 have b6:fs.length<=16:=by
  have:=Y6 (P8 (bI h0)).1;rcases J with q|q<;>omega
 have K:KIn c fs ca cb ce cp x:=⟨o,hs,hx,hF,ow,w,b1⟩;have X:=LD K hf ad z hd hR hw T a1
 repeat' first|simp only[go_sem, *]|apply bc<;>intro o
 refine(X _).mono ?_;rintro r h ⟨S,e,rfl,he⟩;subst S;clear X;rcases he with⟨q,_⟩ | ⟨_,⟨hG,rfl⟩ | ⟨_,rfl⟩⟩
 .exact absurd h0 q
 .obtain⟨I,rfl,G⟩:=hG
  have bx:=F7 K.x K.sh.s hf ad z;clear hd hw hR T ai hf
  repeat' first|simp only[go_sem, *]|apply bc<;>intro o
  refine(bx _).mono ?_;rintro r h ⟨S,hp⟩;subst S;clear bx;have aj:=XP G.h;rcases hp with⟨hb,rfl⟩ | ⟨hb,hi,rfl⟩ | ⟨hb,hi,p,hp,rfl⟩
  .rw[aj.1]at hb;cases hb
  .exact absurd aj.2 hi
  rw[fp G.h.lt]at hp;have R:=hp.isSl;obtain⟨p1,p2,p3⟩:=zw R;have a0:=RK K.cat K.sm R (XF K.few K.h16 G.h.sub) (λf hf=>K.ok f (kH hf)) (λe=>by have:=R5 e;omega);obtain⟨e1,w1⟩:=G6 K h0 G;obtain⟨ta,oa,a5,es,x1,x2,x3⟩:=Io e1 w1;rw[es]at a0;have b7:I.length<=24:=by
   have h1:=G.h.sub.length_le;rw[kG G.h.lt]at h1;omega
  have B:(uH fs I).length=I.length:=kG G.h.lt;have ak:∀H,o9 prog 29 p H=some (.int .i64 (I.length:Int)):=λH=>by rw[wL R underlying29,pY,B]
  clear hp aj hb hi ad z
  repeat' first|simp only[go_sem, *]|apply bc<;>intro o
  refine(a0 _).mono ?_;rintro r h ⟨S,rfl⟩;subst S;clear a0;obtain⟨n,C⟩:∃n,h.next=n:=⟨_,rfl⟩;have ag:=ym (P:=prog) (t:=49) (n:=4) (id:=n) (cs:=[.bool false,.nilsl,.nilsl,.nilsl]) (cs':=[.bool false,ta,oa,a5]) (h:=h) Zv ow rfl rfl (by simp[x1,x2,x3];rfl);obtain⟨V,u,g1⟩:∃V,h.new n (.row [.bool false,ta,oa,a5])=V/\V.at' n=some (.row [.bool false,ta,oa,a5]):=⟨_,rfl,z5 _ _ _⟩;rw[u]at ag;clear u e1 w1 es x1 x2 x3;have a4:(IntKind.i64.wrap (0+0)==0)=true:=rfl
  repeat' first|simp only[go_sem, *]|apply bc<;>intro o
  refine KJ (λi fr h=>fr 3=.iptr [ca,cb,ce,cp] 0/\fr 7=p/\fr 54=.int .i64 (I.length:Int)/\fr 55=.int .i64 (i:Int)) I.length ow ?_ ?_ ?_
  .clear ag g1 a4 ak
   simp only[go_sem,zM,zV,zG]
  .clear ag g1 C ak a4
   rintro i fr h N bo ec ew ⟨f3,f7,a7,a8⟩ hN
   repeat' first|simp only[go_sem, *]|apply bc<;>intro o
   obtain⟨HJ,eJ,wJ⟩:=LY h0 G bo;obtain⟨l,j,k,a6,y1,y2,y3⟩:=L6 eJ wJ;have a9:(uH fs (I.eraseIdx i)).length=I.length-1:=by rw[kG HJ.lt,List.length_eraseIdx,ip bo]
   obtain⟨L,L2,hA,hB,hC⟩:∃L L2:List D,
     (∀H,zD prog 16 [p] H λr F=>∃id,r=.rs id 12 0 I.length/\F.at' id=some (.row L)/\H.next<=id/\id<F.next/\Z2 id H F)/\
     (∀id H,H.at' id=some (.row L)->zD prog 15 [.rs id 12 0 I.length,.int .i64 (i:Int),.int .i64 ((i+1:Nat):Int)] H λr F=>r=.rs id 12 0 (I.length-1)/\F.at' id=some (.row L2)/\Z2 id H F)/\
     ∀id H,H.at' id=some (.row L2)->zD prog 14 [.agg [ca,cb,ce,cp],.rs id 12 0 (I.length-1)] H λr F=>r=.tuple [.agg [.bool true,l,j,k],.int .i64 0]/\Z2 id H F:=by
    refine⟨(sL (uH fs I)).flatten,(sL (uH fs (I.eraseIdx i))).flatten++BR,λH=> ?_,λid H hr=> ?_,λid H hr=> ?_⟩
    .refine(Kh (λe=>by rw[e]at B;simp at B;omega) ow R H).mono ?_
     rintro r F ⟨rfl,rfl⟩;exact⟨H.next,by rw[B],z5 _ _ _,zC _,by rw[za];omega,Z2.new _⟩
    .have:=Bi (i:=i) ow ow hr
     rw[B,RY G.h.lt]at this;refine this.mono ?_;rintro r F ⟨rfl,rfl⟩;exact⟨rfl,zW _ _ _,Z2.set _⟩
    .refine(AA K Y HJ a9 hr).mono ?_
     rintro r F ⟨rfl,rfl⟩;exact⟨a6,Z2.frz⟩
   have E:qC 0 [D.bool false,.nilsl,.nilsl,.nilsl]:=⟨trivial,trivial,trivial,trivial,trivial⟩;have Z: [D.bool true,l,j,k].all D.flat=true:=by simp[y1,y2,y3];rfl
   clear a6 y1 y2 y3 eJ wJ HJ a9 G K h0 hF O w J R B bs a1 o hs hx b1 Y;refine HO Heap.emp (λfr h=>fr 3=.iptr [ca,cb,ce,cp] 0/\fr 7=p/\fr 54=.int .i64 (I.length:Int)/\fr 55=.int .i64 (i:Int)/\fr 13=.int .i64 0/\∃n,fr 12=.ptr n 0/\h.at' n=some (.row [.bool true,l,j,k])) rfl (by rw[rR];trivial) ?_ ?_
   .clear hN hT
    simp only[zLj,zIW,zLi]
    repeat' first|simp only[go_sem,rR,zM, *]|apply bc<;>intro o
    refine And.intro ?_ ?_
    .obtain⟨n,C⟩:∃n,h.next=n:=⟨_,rfl⟩
     obtain⟨V,u,t1,nN⟩:∃q,h.new n (.row [.bool false,.nilsl,.nilsl,.nilsl])=q/\q.at' n=some (.row [.bool false,.nilsl,.nilsl,.nilsl])/\n<q.next:=⟨_,rfl,z5 _ _ _,by rw[<-C,za];omega⟩
     repeat' first|simp only[go_sem,rR,zM, *]|apply bc<;>intro o
     refine(hA _).mono ?_;rintro r H2 ⟨id,rfl,a2,l2,u2,k2⟩;have t2:=k2.2 n _ ow E t1;clear C u
     repeat' first|simp only[go_sem,rR,zM, *]|apply bc<;>intro o
     refine(hB _ _ a2).mono ?_;rintro r H3 ⟨rfl,W,k3⟩;have t3:=k3.2 n _ ow E t2
     repeat' first|simp only[go_sem,rR,zM, *]|apply bc<;>intro o
     refine(hC _ _ W).mono ?_;rintro r H4 ⟨rfl,k4⟩;have t4:=k4.2 n _ ow E t3;have A:=ql (P:=prog) (t:=49) (cs':=[.bool true,l,j,k]) t4 Zv rfl jS Z;obtain⟨H5,v,U⟩:∃q,H4.set n (.row [.bool true,l,j,k])=q/\q.at' n=some (.row [.bool true,l,j,k]):=⟨_,rfl,zW _ _ _⟩;rw[v]at A;have M:∃m,D.ptr n 0=D.ptr m 0/\H5.at' m=some (.row [.bool true,l,j,k]):=⟨n,rfl,U⟩;clear t1 t2 t3 t4 U a2 W k2 k3 k4 v
     repeat' first|simp only[go_sem,rR,zM, *]|apply bc<;>intro o
    .repeat' first|simp only[go_sem,rR,zM, *]|apply bc<;>intro o
     refine(hA _).mono ?_;rintro r h2 ⟨id,rfl,a2,l2,u2,k2⟩
     repeat' first|simp only[go_sem,rR,zM, *]|apply bc<;>intro o
     refine And.intro ?_ ?_
     .obtain⟨n,C⟩:∃n,h2.next=n:=⟨_,rfl⟩
      obtain⟨V,u,t1,nN⟩:∃q,h2.new n (.row [.bool false,.nilsl,.nilsl,.nilsl])=q/\q.at' n=some (.row [.bool false,.nilsl,.nilsl,.nilsl])/\n<q.next:=⟨_,rfl,z5 _ _ _,by rw[<-C,za];omega⟩;have b2:V.at' id=some (.row L):=by rw[<-u,zf ow];exact a2
      repeat' first|simp only[go_sem,rR,zM, *]|apply bc<;>intro o
      refine(hB _ _ b2).mono ?_;rintro r H3 ⟨rfl,W,k3⟩;have t3:=k3.2 n _ ow E t1;have b8:n≠id:=ow;clear C u
      repeat' first|simp only[go_sem,rR,zM, *]|apply bc<;>intro o
      refine(hC _ _ W).mono ?_;rintro r H4 ⟨rfl,k4⟩;have t4:=k4.2 n _ ow E t3;have A:=ql (P:=prog) (t:=49) (cs':=[.bool true,l,j,k]) t4 Zv rfl jS Z;obtain⟨H5,v,U⟩:∃q,H4.set n (.row [.bool true,l,j,k])=q/\q.at' n=some (.row [.bool true,l,j,k]):=⟨_,rfl,zW _ _ _⟩;rw[v]at A;have M:∃m,D.ptr n 0=D.ptr m 0/\H5.at' m=some (.row [.bool true,l,j,k]):=⟨n,rfl,U⟩;clear t1 t3 t4 a2 b2 W k2 k3 k4 U v
      repeat' first|simp only[go_sem,rR,zM, *]|apply bc<;>intro o
     .repeat' first|simp only[go_sem,rR,zM, *]|apply bc<;>intro o
      refine(hB _ _ a2).mono ?_;rintro r h3 ⟨rfl,W,k3⟩;have u3:id<h3.next:=by have:=k3.1;omega
      repeat' first|simp only[go_sem,rR,zM, *]|apply bc<;>intro o
      refine And.intro ?_ ?_
      .obtain⟨n,C⟩:∃n,h3.next=n:=⟨_,rfl⟩
       obtain⟨V,u,t1,nN⟩:∃q,h3.new n (.row [.bool false,.nilsl,.nilsl,.nilsl])=q/\q.at' n=some (.row [.bool false,.nilsl,.nilsl,.nilsl])/\n<q.next:=⟨_,rfl,z5 _ _ _,by rw[<-C,za];omega⟩;have b3:V.at' id=some (.row L2):=by rw[<-u,zf ow];exact W
       repeat' first|simp only[go_sem,rR,zM, *]|apply bc<;>intro o
       refine(hC _ _ b3).mono ?_;rintro r H4 ⟨rfl,k4⟩;have t4:=k4.2 n _ ow E t1;clear C u;have A:=ql (P:=prog) (t:=49) (cs':=[.bool true,l,j,k]) t4 Zv rfl jS Z;obtain⟨H5,v,U⟩:∃q,H4.set n (.row [.bool true,l,j,k])=q/\q.at' n=some (.row [.bool true,l,j,k]):=⟨_,rfl,zW _ _ _⟩;rw[v]at A;have M:∃m,D.ptr n 0=D.ptr m 0/\H5.at' m=some (.row [.bool true,l,j,k]):=⟨n,rfl,U⟩;clear t1 t4 a2 W b3 k2 k3 k4 U v
       repeat' first|simp only[go_sem,rR,zM, *]|apply bc<;>intro o
      .repeat' first|simp only[go_sem,rR,zM, *]|apply bc<;>intro o
       refine(hC _ _ W).mono ?_;rintro r h4 ⟨rfl,k4⟩;obtain⟨n,C⟩:∃n,h4.next=n:=⟨_,rfl⟩;obtain⟨V,u,t1,nN⟩:∃q,h4.new n (.row [.bool false,.nilsl,.nilsl,.nilsl])=q/\q.at' n=some (.row [.bool false,.nilsl,.nilsl,.nilsl])/\n<q.next:=⟨_,rfl,z5 _ _ _,by rw[<-C,za];omega⟩;have A:=ql (P:=prog) (t:=49) (cs':=[.bool true,l,j,k]) t1 Zv rfl jS Z;obtain⟨H5,v,U⟩:∃q,V.set n (.row [.bool true,l,j,k])=q/\q.at' n=some (.row [.bool true,l,j,k]):=⟨_,rfl,zW _ _ _⟩;rw[v]at A;have M:∃m,D.ptr n 0=D.ptr m 0/\H5.at' m=some (.row [.bool true,l,j,k]):=⟨n,rfl,U⟩;clear t1 nN a2 W k2 k3 k4 U v
       repeat' first|simp only[go_sem,rR,zM, *]|apply bc<;>intro o
   .clear hA hB hC
    rintro fr h ⟨f3,f7,a7,a8,b5,n,b4,tn⟩;exact au
  .clear ag g1 C ak a4
   rintro fr h N ec ⟨f3,f7,a7,a8⟩;exact au
 .clear hF O w h0 J Y hR z T ai hw hd hf
  exact au
end Go.V
