/- Contracts of functions that the law reaches, part 5. No condition. -/
import Derived.Test.YtmkfpfodpehkoaaGreatDoorW44
set_option linter.all false
set_option maxHeartbeats 8000000
namespace Go.V
set_option maxRecDepth 100000
def tL(fs:List Fac)(i:Nat):Int:=match fs[i]? with
 |some f=>f.kind
 |none=> -1
theorem XB{p:Fac->Bool} :∀{l:List Fac}{k i:Nat},i∈wV p l k↔k<=i/\∃h:i-k<l.length,p l[i-k]=true
 | [],k,i=>by simp[wV]
 |f::l,k,i=>by
  have b:=XB (p:=p) (l:=l) (k:=k+1) (i:=i);have key:(i∈wV p (f::l) k)↔(p f=true/\i=k)\/i∈wV p l (k+1):=by
   rw[wV];split
   ·rename_i h;simp[h]
   ·rename_i h;simp[h]
  rw[key,b];constructor
  ·rintro(⟨h1,rfl⟩ | ⟨h1,a,h3⟩)
   ·exact⟨zD _,by simp,by simpa using h1⟩
   ·refine⟨by omega,by simp only[zm];omega,?_⟩
    have:i-k=(i- (k+1))+1:=ow;simp only[this,p8];exact h3
  ·rintro⟨h1,a,h3⟩;by_cases e:i=k
   ·subst e;left;exact⟨by simpa using h3,rfl⟩
   ·right
    have:i-k=(i- (k+1))+1:=ow;simp only[this,p8]at h3;exact⟨by omega,by simp only[zm]at a;omega,h3⟩
variable{fs:List Fac}{i j:Nat}{al:Nat->Option Alt}{α:Type}{b:Bool}{c:Cat}
def Qz{kind:Int}{q:Fac->Bool} :i∈fIx kind q fs↔∃h:i<fs.length,fs[i].kind=kind/\q fs[i]=true:=by
 unfold fIx;rw[XB];simp only[yg,tv,zQ,isF,zC,yU]
def sg(h:i<fs.length):tL fs i=fs[i].kind:=by
 unfold tL;rw[zE h]
def cn{k:Int}(h:tL fs i=k)(a:0<=k):i<fs.length:=by
 unfold tL at h;split at h
 ·rename_i q;exact(zR.1 q).1
 ·omega
def ox(h:i<fs.length):tK fs i=fs[i].comp:=by
 unfold tK;rw[zE h]
def lJ(h:i<fs.length):tX fs i=fs[i].out:=by
 unfold tX;rw[zE h]
def Zv{k:Int}(b:0<=k) :j∈fIx k (λg=>g.comp==tK fs i) fs↔tL fs j=k/\tK fs j=tK fs i:=by
 rw[Qz];constructor
 ·rintro⟨h,h1,a⟩;exact⟨by rw[sg h,h1],by rw[ox h];simpa using a⟩
 ·rintro⟨h1,a⟩;have h:=cn h1 b;exact⟨h,by rw[<-sg h,h1],by rw[ox h]at a;simpa using a⟩
def V7{k:Int}(b:0<=k) :j∈fIx k (λg=>g.out==tX fs i) fs↔tL fs j=k/\tX fs j=tX fs i:=by
 rw[Qz];constructor
 ·rintro⟨h,h1,a⟩;exact⟨by rw[sg h,h1],by rw[lJ h];simpa using a⟩
 ·rintro⟨h1,a⟩;have h:=cn h1 b;exact⟨h,by rw[<-sg h,h1],by rw[lJ h]at a;simpa using a⟩
def Zw{k:Int}(a:0<=k) :j∈fIx k (λ_=>true) fs↔tL fs j=k:=by
 rw[Qz];constructor
 ·rintro⟨h,h1,_⟩;rw[sg h,h1]
 ·intro h1;have h:=cn h1 a;exact⟨h,by rw[<-sg h,h1],rfl⟩
structure TriP(fs:List Fac)(al:Nat->Option Alt)(i u h:Nat):Prop where
 lt:i<fs.length
 al:(al i).isSome=true
 ku:tL fs u=0
 cu:tK fs u=tK fs i
 kh:tL fs h=2
 oh:tX fs h=tX fs u
def pE{t:Tri} :t∈qj fs al↔TriP fs al t.1 t.2.1 t.2.2:=by
 unfold qj;rw[zw];constructor
 ·rintro⟨i,e,a⟩;unfold Ns at a;split at a
  ·rename_i d;rw[zw]at a;obtain⟨u,c,a⟩:=a;unfold Nt at a;rw[zT]at a;obtain⟨h,b,rfl⟩:=a;rw[Zv (by decide)]at c;rw[V7 (by decide)]at b;exact⟨uZ.1 e,d,c.1,c.2,b.1,b.2⟩
  ·cases a
 ·intro h;obtain⟨i,u,k⟩:=t;refine⟨i,uZ.2 h.lt,?_⟩;unfold Ns;rw[ip h.al,zw];refine⟨u,(Zv (by decide)).2 ⟨h.ku,h.cu⟩,?_⟩;unfold Nt;exact zT.2 ⟨k,(V7 (by decide)).2 ⟨h.kh,h.oh⟩,rfl⟩
def LU(c:Cat)(fs:List Fac)(al:Nat->Option Alt)(O:KV):Nat->List Nat->Prop
 |0,l=>∃i u h,TriP fs al i u h/\Th c (aX al i) (oW fs h) (sJ fs u) 5 (λ_=>true)=true/\l= [i,u,h]
 |1,l=>∃i u h own,TriP fs al i u h/\o5 (tX fs u) O=some own/\Th c (aX al i) (oW fs h) (sJ fs u) 4 (bO own)=true/\l= [i,u,h]
 |2,l=>∃i u h k,TriP fs al i u h/\tL fs k=4/\tK fs k=tK fs i/\((!(ay fs k==2)||MW fs u)&&Th c (aX al i) (oW fs h) (sJ fs u) (ay fs k) (λ_=>true))=true/\l= [i,u,h,k]
 |3,l=>∃i u h i' u' h',TriP fs al i u h/\TriP fs al i' u' h'/\(sJ fs u==0)=true/\(!(RZ fs (i,u,h) (i',u',h'))&&IY c (aX al i) (aX al i'))=true/\l= [i,i',u,u',h]
 |4,l=>∃i h own,tL fs i=3/\o5 (tX fs i) O=some own/\((Y6 fs i).any λs=>s==own)=false/\tL fs h=2/\tX fs h=tX fs i/\l= [i,h]
 |_,l=>c.ls.length=0/\∃h,tL fs h=2/\l= [h]
def gO{x y:α} :(y∈if b=true then [x]else [])↔b=true/\y=x:=by
 cases b<;>simp
def NV{O:KV}{r:Nat}{z:List Int} :z∈d9 c fs al O r↔∃l,LU c fs al O r l/\z=l.map λn:Nat=>(n:Int):=by
 rcases r with _|_|_|_|_|r
 ·show z∈d9 c fs al O 0↔∃l,LU c fs al O 0 l/\z=l.map λn:Nat=>(n:Int);simp only[d9,LU];rw[zw];constructor
  ·rintro⟨t,d,a⟩;rw[pE]at d;unfold sU at a;rw[gO]at a;exact⟨_,⟨t.1,t.2.1,t.2.2,d,a.1,rfl⟩,a.2⟩
  ·rintro⟨l,⟨i,u,h,d,b,rfl⟩,rfl⟩;refine⟨(i,u,h),pE.2 d,?_⟩;unfold sU;rw[gO];exact⟨b,rfl⟩
 ·show z∈d9 c fs al O 1↔∃l,LU c fs al O 1 l/\z=l.map λn:Nat=>(n:Int);simp only[d9,LU];rw[zw];constructor
  ·rintro⟨t,d,a⟩;rw[pE]at d;unfold pa at a;split at a
   ·cases a
   ·rename_i own f;rw[gO]at a;exact⟨_,⟨t.1,t.2.1,t.2.2,own,d,f,a.1,rfl⟩,a.2⟩
  ·rintro⟨l,⟨i,u,h,own,d,f,b,rfl⟩,rfl⟩;refine⟨(i,u,h),pE.2 d,?_⟩;unfold pa;simp only[f];rw[gO];exact⟨b,rfl⟩
 ·show z∈d9 c fs al O 2↔∃l,LU c fs al O 2 l/\z=l.map λn:Nat=>(n:Int);simp only[d9,LU];rw[zw];constructor
  ·rintro⟨t,d,a⟩;rw[pE]at d;unfold gN at a;rw[zw]at a;obtain⟨k,j,a⟩:=a;rw[Zv (by decide)]at j;unfold dw at a;rw[gO]at a;exact⟨_,⟨t.1,t.2.1,t.2.2,k,d,j.1,j.2,a.1,rfl⟩,a.2⟩
  ·rintro⟨l,⟨i,u,h,k,d,j,s,b,rfl⟩,rfl⟩;refine⟨(i,u,h),pE.2 d,?_⟩;unfold gN;rw[zw];refine⟨k,(Zv (by decide)).2 ⟨j,s⟩,?_⟩;unfold dw;rw[gO];exact⟨b,rfl⟩
 ·show z∈d9 c fs al O 3↔∃l,LU c fs al O 3 l/\z=l.map λn:Nat=>(n:Int);simp only[d9,LU];rw[zw];constructor
  ·rintro⟨t,d,a⟩;rw[pE]at d;unfold rn at a;split at a
   ·rename_i hr;rw[zw]at a;obtain⟨p,e,a⟩:=a;rw[pE]at e;unfold nQ at a;rw[gO]at a;exact⟨_,⟨t.1,t.2.1,t.2.2,p.1,p.2.1,p.2.2,d,e,hr,a.1,rfl⟩,a.2⟩
   ·cases a
  ·rintro⟨l,⟨i,u,h,v,w,h',d,e,hr,b,rfl⟩,rfl⟩;refine⟨(i,u,h),pE.2 d,?_⟩;unfold rn;rw[ip hr,zw];refine⟨(v,w,h'),pE.2 e,?_⟩;unfold nQ;rw[gO];exact⟨b,rfl⟩
 ·show z∈d9 c fs al O 4↔∃l,LU c fs al O 4 l/\z=l.map λn:Nat=>(n:Int);simp only[d9,LU];rw[zw];constructor
  ·rintro⟨i,m,a⟩;rw[Zw (by decide)]at m;unfold lm at a;split at a
   ·cases a
   ·rename_i own f;split at a
    ·cases a
    ·rename_i g;rw[zw]at a;obtain⟨h,b,a⟩:=a;unfold XH at a;rw[zY]at a;have b:=(V7 (by decide)).1 b;exact⟨_,⟨i,h,own,m,f,Bool.eq_false_iff.2 g,b.1,b.2,rfl⟩,a⟩
  ·rintro⟨l,⟨i,h,own,m,f,g,b,o,rfl⟩,rfl⟩;refine⟨i,(Zw (by decide)).2 m,?_⟩;unfold lm;simp only[f];rw[iq (by rw[g];decide),zw];refine⟨h,(V7 (by decide)).2 ⟨b,o⟩,?_⟩;unfold XH;exact zY.2 rfl
 ·show z∈aI c fs↔∃l,(c.ls.length=0/\∃h,tL fs h=2/\l= [h])/\z=l.map λn:Nat=>(n:Int);unfold aI;constructor
  ·intro a;split at a
   ·cases a
   ·rename_i g;rw[zw]at a;obtain⟨h,b,a⟩:=a;rw[Zw (by decide)]at b;unfold T6 at a;rw[zY]at a;exact⟨_,⟨by have:¬(c.ls.length:Int)>0:=λq=>g (zN q);omega,h,b,rfl⟩,a⟩
  ·rintro⟨l,⟨g,h,b,rfl⟩,rfl⟩;rw[iq (λq=>by have:=zg q;omega),zw];refine⟨h,(Zw (by decide)).2 b,?_⟩;unfold T6;exact zY.2 rfl
open Go.Proofs.Tryz
open Go.Proofs
def Nv(fs:List Fac)(i j:Nat):Bool:=tL fs j==0&&tK fs j==tK fs i
def jr(fs:List Fac)(j k:Nat):Bool:=tL fs k==2&&tX fs k==tX fs j
theorem L9{fs:List Fac}{x:D}(c:ye 12 (dj fs) x){i j:Nat}(b:i<fs.length)(a:j<fs.length)(g:Heap):zB prog 65 [x,.int .i64 (i:Int),.int .i64 (j:Int)] g λr h'=>h'=g/\r=.bool (Nv fs i j):=by
 have d:=wR c b;have e:=wR c a;unfold Nv;rw[sg a,ox a,ox b];generalize fs[i]=f at *
 generalize fs[j]=h at *
 simp only[Fac.cells,Ex.cells]at d e;refine z5 zKd ?_;simp only[f65,zA]
 repeat' first|simp only[go_sem, *]|apply bc<;>intro k
 refine zd kr ?_;exact au
theorem QT{fs:List Fac}{x:D}(c:ye 12 (dj fs) x){i j:Nat}(b:i<fs.length)(a:j<fs.length)(g:Heap):zB prog 62 [x,.int .i64 (i:Int),.int .i64 (j:Int)] g λr h'=>h'=g/\r=.bool (jr fs i j):=by
 have d:=wR c b;have e:=wR c a;unfold jr;rw[sg a,lJ a,lJ b];generalize fs[i]=f at *
 generalize fs[j]=h at *
 simp only[Fac.cells,Ex.cells]at d e;refine z5 zKa ?_;simp only[f62,zA]
 repeat' first|simp only[go_sem, *]|apply bc<;>intro k
 refine zd kr ?_;exact au
def RF(os:List (List UInt8))(y:Cho)(s:List UInt8):List UInt8:=if(os.any λx=>x==s)=true then fx y (os.findIdx λx=>x==s)else []
theorem Dg{os:List (List UInt8)}{m:D}(u:ye 1 (uH os) m)(k:os.length<=1048576){y:Cho}{z:D}(A:ZR y z)(E:os.length=y.own.length)(s:List UInt8)(g:Heap):zB prog 61 [m,z,.str s] g λr h'=>h'=g/\r=.str (RF os y s):=by
 have c:=Zi u k s;obtain⟨a,b,rfl,C,o⟩:=A;have w:yN true 2 [a,b] 0=some (.agg [a,b]):=zJ rfl ow;have d:=jF (p:=λx=>x==s) (l:=os);obtain⟨R,e⟩:∃R,RF os y s=R:=⟨_,rfl⟩;rw[e];unfold RF at e;cases f:os.findIdx? λx=>x==s with
 |none=>
  have e1:cK (λx=>x==s) os= -1:=by unfold cK;rw[f]
  rw[e1]at c d;have e2:(os.any λx=>x==s)=false:=by simpa using d.symm
  rw[iq (by rw[e2];decide)]at e;subst e;clear d e1 e2 f;refine z5 zJM ?_;simp only[f61,zA]
  repeat' first|simp only[go_sem, *]|apply bc<;>intro q|(refine zB.mono (c _) ?_;rintro r h ⟨v,rfl⟩)
 |some j=>
  obtain⟨t,i,_⟩:=ql.1 f;have e1:cK (λx=>x==s) os=(j:Int):=by unfold cK;rw[f]
  have e2:(os.any λx=>x==s)=true:=yZ.2 ⟨_,zG t,i⟩;have e3:os.findIdx (λx=>x==s)=j:=(List.findIdx?_eq_some_iff_findIdx_eq.1 f).2;have n:=t9 o (show j<y.own.length by omega);rw[ip e2,e3,fx,zK,zE ow,zA]at e;rw[e]at n;have B:decide ((j:Int)<0)=false:=zO ow;rw[e1]at c;clear d e1 e2 e3 f e i;refine z5 zJM ?_;simp only[f61,zA]
  repeat' first|simp only[go_sem, *]|apply bc<;>intro q|(refine zB.mono (c _) ?_;rintro r h ⟨v,rfl⟩)
def nM(c:Cat)(ts:List Trm)(way rel:Int):List Cla:=ts.flatMap λt=>c.cs.filter (gF (kS c t.a t.b) t.a way rel)
theorem Cla.Fine.ok{x:Cla}(h:x.Fine):x.Ok:=⟨h.1.isSl,h.2⟩
theorem HP(l m:List Cla):lC (l++m)=lC l++lC m:=by simp[lC]
theorem Y3{a b:List Cla}(h:a.map Cla.key=b.map Cla.key):a.length=b.length:=by have:=congrArg List.length h;simpa using this
theorem MP{c:Cat}{d:D}(A:uM c d)(hs:c.Sm)(N:c.cs.length<=128){j:List Trm}{H:D}(P:ye 2 (wW j) H)(hl:j.length<=64)(f rel:Int)(g:Heap):
  zB prog 115 [d,H,.int .i64 f,.int .i64 rel] g λr h'=>h'=g/\Bi (nM c j f rel) r:=by
 refine xU kr λm=>xS ?_;refine xP λQ O=> ?_;have s:=λM I=>A5 A hs M I f rel;have T:=wT P;have n:∀d h (out:List Cla),Own g h 5 (lC out) d->(∀y∈out,y.Ok)->out.map Cla.key=(nM c j f rel).map Cla.key->Q d h:=λd h out v m w=>by
  obtain⟨h1,B,cs,h3,h4,h5⟩:=v.finC m;exact O _ _ ⟨h1,B,cs,h3,h4,h5.trans w⟩
 obtain⟨a,b,e,p,rfl,_,_,_,_⟩:=A;have ak:yN true 4 [a,b,e,p] 0=some (.agg [a,b,e,p]):=zJ rfl ow;have o:∀k,(nM c (j.take k) f rel).length<=128*k:=λk=>by
  have key:∀l:List Trm,(nM c l f rel).length<=128*l.length:=λl=>by
   induction l with
   |nil=>simp[nM]
   |cons x l ih=>
    have:=qM (gF (kS c x.a x.b) x.a f rel) c.cs;simp only[nM,tP,zM,zm]at ih⊢;omega
  have:=key (j.take k);rw[z7]at this;omega
 clear O m;refine z5 zGl ?_;simp only[f115,zA]
 repeat' first|simp only[go_sem, *]|apply bc<;>intro A
 refine zV (λk fr h=>fr 1=H/\fr 2=.int .i64 f/\fr 3=.int .i64 rel/\fr 4=.iptr [a,b,e,p] 0/\fr 10=.int .i64 (k:Int)/\∃out:List Cla,Own g h 5 (lC out) (fr 9)/\(∀y∈out,y.Ok)/\out.map Cla.key=(nM c (j.take k) f rel).map Cla.key) j.length ow ?_ ?_ ?_
 ·have h0:∃out:List Cla,Own g g 5 (lC out) .nilsl/\(∀y∈out,y.Ok)/\out.map Cla.key=(nM c (j.take 0) f rel).map Cla.key:=⟨[],Own.start (Ext.refl g) 5,(λy L=>by cases L),by simp[nM]⟩;clear n o s;simp only[go_sem,zQ,zS,zF];exact h0
 ·rintro k fr h E X ew ⟨Y,Z,f3,f4,J,out,v,m,w⟩;obtain⟨u,K⟩:∃u,fr 9=u:=⟨_,rfl⟩;rw[K]at v;have V:=rA P E;have ai:out.length<=8192:=by have:=o k;rw[Y3 w];omega
  have C:=s j[k].a j[k].b;have G:nM c (j.take (k+1)) f rel=nM c (j.take k) f rel++c.cs.filter (gF (kS c j[k].a j[k].b) j[k].a f rel):=by
   unfold nM;rw[zH E,tS,List.flatMap_singleton]
  rw[G];have ag:=qM (gF (kS c j[k].a j[k].b) j[k].a f rel) c.cs;generalize c.cs.filter (gF (kS c j[k].a j[k].b) j[k].a f rel)=S at *
  generalize j[k]=t at *
  simp only[Trm.cells]at V;generalize nM c (j.take k) f rel=R at *
  clear n o s G
  repeat' first|simp only[go_sem, *]|apply bc<;>intro A
  refine qD Heap.emp [(1,.no,false),(0,.no,false),(2,.no,false),(3,.no,false),(4,.no,false),(5,.no,false),(6,.no,false),(7,.no,false),(8,.no,false),(9,.no,false),(10,.no,false)] kr kr (λi ob e=>by cases e) ?_
  repeat' first|simp only[go_sem, *]|apply bc<;>intro A
  refine(C _).mono ?_;rintro r B ⟨hq,cs,h1,B,h3⟩;subst hq;have ab:cs.length=S.length:=Y3 h3
  repeat' first|simp only[go_sem, *]|apply bc<;>intro A
  refine v.appI (ys:=lC cs) cW Pc gk ow (λx hx=>by
   obtain⟨z,_,rfl⟩:=zT.1 hx;rfl) h1 (by rw[sS,sS,YH];unfold lim;omega) (by rw[sS,sS];unfold lim;omega) λW h' F=> ?_
  have U:∃out:List Cla,Own g h' 5 (lC out) W/\(∀y∈out,y.Ok)/\out.map Cla.key=(R++S).map Cla.key:=⟨out++cs,by rw[HP];exact F,λy L=>(yD.1 L).elim (m y) λq=>(B y q).ok,by rw[yX,yX,w,h3]⟩;clear F v C h1 B h3;exact au
 ·rintro fr h X ⟨Y,Z,f3,f4,J,out,v,m,w⟩;obtain⟨u,K⟩:∃u,fr 9=u:=⟨_,rfl⟩;rw[K]at v;rw[zb]at w;have n:=n _ _ _ v m w;clear v s o m w;exact au
def H8(c:Cat)(x y:List UInt8):Bool:=c.ps.any λz=>(z.a==x&&z.b==y)||(z.a==y&&z.b==x)
def WG(c:Cat)(b:List Trm)(x:Trm):Bool:=b.any λy=>H8 c x.a y.a
theorem MM{c:Cat}{d:D}(u:uM c d)(U:c.Sm){s t:List Trm}{I J:D}(L:ye 2 (wW s) I)(S:s.length<=64)(M:ye 2 (wW t) J)(T:t.length<=64)(g:Heap):
  zB prog 116 [d,I,J] g λr h'=>h'=g/\r=.bool (s.any (WG c t)):=by
 have l:=λx y=>HA u U x y;have X:=wT L;have Y:=wT M;obtain⟨a,b,e,p,rfl,_,_,_,_⟩:=u;have V:yN true 4 [a,b,e,p] 0=some (.agg [a,b,e,p]):=zJ rfl ow;refine z5 zGm ?_;simp only[f116,zA]
 repeat' first|simp only[go_sem, *]|apply bc<;>intro u
 refine zV (λi fr h=>fr 1=I/\fr 2=J/\fr 3=.iptr [a,b,e,p] 0/\fr 7=.int .i64 (i:Int)/\h=g/\∀j (n:j<s.length),j<i->WG c t s[j]=false) s.length ow ?_ ?_ ?_
 ·clear l;simp only[go_sem,zQ,zS,zF];exact λj n h0=>absurd h0 (zj _)
 ·rintro i fr h o P W ⟨E,F,G,H,w,n⟩;subst w;have N:=rA L o;have m:=λq=>qp (p:=WG c t) o n q;have f:=λq=>pW (p:=WG c t) o q;generalize s[i]=x at *
  simp only[Trm.cells]at N;clear n
  repeat' first|simp only[go_sem, *]|apply bc<;>intro u
  refine zV (λk fr h'=>fr 1=I/\fr 2=J/\fr 3=.iptr [a,b,e,p] 0/\fr 7=.int .i64 (i:Int)/\fr 8=.int .i64 (k:Int)/\h'=h/\∀j (n:j<t.length),j<k->H8 c x.a t[j].a=false) t.length ow ?_ ?_ ?_
  ·clear l m f;simp only[go_sem,zQ,zS,zF,E,F,G,H];exact λj n h0=>absurd h0 (zj _)
  ·clear E F G H fr;rintro k fr h' o K Q ⟨E,F,G,H,R,w,n⟩;subst w;have O:=rA M o;have C:=λq=>qp (p:=λy:Trm=>H8 c x.a y.a) o n q;have A:=λq=>pW (p:=λy:Trm=>H8 c x.a y.a) o q;generalize t[k]=y at *
   simp only[Trm.cells]at O;have l:=l x.a y.a;have e:(c.ps.any λz=>(z.a==x.a&&z.b==y.a)||(z.a==y.a&&z.b==x.a))=H8 c x.a y.a:=rfl;rw[e]at l;clear n e m;cases hr:H8 c x.a y.a with
   |true=>
    rw[hr]at l;have v:=f (A hr);rw[v];clear C A f v hr
    repeat' first|simp only[go_sem, *]|apply bc<;>intro u
    refine zd kr ?_
    repeat' first|simp only[go_sem, *]|apply bc<;>intro u|(refine zB.mono (l _) ?_;rintro r h ⟨w,rfl⟩)
   |false=>
    rw[hr]at l;have v:=C hr;clear C A f hr
    repeat' first|simp only[go_sem, *]|apply bc<;>intro u
    refine zd kr ?_
    repeat' first|simp only[go_sem, *]|apply bc<;>intro u|(refine zB.mono (l _) ?_;rintro r h ⟨w,rfl⟩)
    exact v
  ·clear E F G H fr;rintro fr h' K ⟨E,F,G,H,R,w,n⟩;subst w;have v:=m (rO (p:=λy:Trm=>H8 c x.a y.a) λj B=>n j B);clear m f n l
   repeat' first|simp only[go_sem, *]|apply bc<;>intro u
   exact v
 ·rintro fr h P ⟨E,F,G,H,w,n⟩;subst w;have v:=rO (p:=WG c t) λj B=>n j B;rw[v];clear n v l;exact au
def Qt(fs:List Fac)(y:Cho)(i:Nat):Alt:=if(tL fs i==1)=true then lU y (lH fs i)else⟨[],.nilsl⟩
theorem Kv(fs:List Fac)(y:Cho)(i:Nat):(Qt fs y i).ts=aX (alS fs y) i:=by
 unfold Qt aX alS tL;cases fs[i]? with
 |none=>rfl
 |some f=>
  simp only;split
  ·split
   ·rename_i a h1;split at h1
    ·cases h1;rfl
    ·cases h1
   ·rename_i h1;split at h1
    ·cases h1
    ·rename_i q
     have:¬((lU y (lH fs i)).ts.length:Int)>0:=by simpa using q
     exact yv.1 ow
  ·rfl
def Vz(fs:List Fac)(y:Cho)(i:Nat):List D:=(List.range i).map (λk=>(Qt fs y k).d)++List.replicate (fs.length-i) .nilsl
theorem Hp(fs:List Fac)(y:Cho){i:Nat}(h:i<=fs.length):(Vz fs y i).length=fs.length:=by
 unfold Vz;rw[zM,zI,kE,List.length_replicate];omega
theorem Kx(fs:List Fac)(y:Cho){i:Nat}(h:i<fs.length):(Vz fs y i).set i (Qt fs y i).d=Vz fs y (i+1):=by
 unfold Vz;rw[show fs.length-i=(fs.length- (i+1))+1 by omega,wJ,sG,yX,z8,oo _ _ (by simp)];simp
theorem Kw(fs:List Fac)(y:Cho){i:Nat}(h:i<fs.length)(a:(Qt fs y i).d=.nilsl):Vz fs y i=Vz fs y (i+1):=by
 unfold Vz;rw[show fs.length-i=(fs.length- (i+1))+1 by omega,wJ,sG,yX,z8];simp[a]
def ZZ(fs:List Fac)(y:Cho):List Alt:=(List.range fs.length).map (Qt fs y)
theorem Ho(fs:List Fac)(y:Cho):Vz fs y fs.length=(qJ (ZZ fs y)).flatten:=by
 unfold Vz ZZ;rw[ov,an,dW,zp,qm];rfl
def Alt.clean(a:Alt):Alt:=⟨a.ts,wD a.d⟩
theorem Xk(l:List Trm):∀x∈wW l,sH x:=λx a=>by
 obtain⟨y,_,rfl⟩:=zT.1 a;exact⟨rfl,by simp[Trm.cells,qZ,below],rfl⟩
theorem Xh:∀l:List Alt,oB (qJ l)=qJ (l.map Alt.clean)
 | []=>rfl
 |y::l=>by
  have a:=Xh l;simp only[qJ,qL,oB]at a⊢;rw[a];rfl
theorem VC{l:List Trm}{d:D}(h:ye 2 (wW l) d):Fin 2 (wW l) (wD d):=by
 rcases h with⟨rfl,e⟩ | ⟨tk,rfl⟩
 ·exact .inl ⟨rfl,e⟩
 ·exact .inr (qg (Xk l) tk).1
theorem Md{l:List Trm}{d:D}(h:Fin 2 (wW l) d):sH [d]:=by
 rcases h with⟨rfl,_⟩ |rfl
 ·exact⟨rfl,by simp[qZ,below],rfl⟩
 ·have:=qg (sz:=2) (Xk l) .no;exact⟨rfl,⟨this.2,trivial⟩,by simp only[wU,this.1]⟩
def zJx(fs:List Fac)(y:Cho)(r:D):Prop:=∃al:List Alt,Fin 1 (qJ al) r/\al.length=fs.length/\(∀i (h:i<al.length),al[i].ts=aX (alS fs y) i)/\∀a∈al,ye 2 (wW a.ts) a.d
theorem QS{fs:List Fac}{x z:D}(R:ye 12 (dj fs) x)(hl:fs.length<=256){y:Cho}(hy:ZR y z)(Z:y.Sm)(hk:lH fs fs.length<=y.ts.length)(g:Heap):zB prog 60 [x,z] g λr h'=>h'=g/\zJx fs y r:=by
 refine xU kr λad=>xS (zB.freezeOr ?_);refine xP λQ hQ=> ?_;have ab:=rh R;have B:∀i,ye 2 (wW (Qt fs y i).ts) (Qt fs y i).d:=λi=>by
  unfold Qt;split
  ·unfold lU;rw[zK];cases A:y.ts[lH fs i]? with
   |none=>exact ye.mk .no
   |some a=>exact(Z.ts a (zh A)).sl
  ·exact ye.nil
 obtain⟨ta,oa,rfl,Y,a0⟩:=hy;have a5:yN true 2 [ta,oa] 0=some (.agg [ta,oa]):=zJ rfl ow;have w:∀nid H,sM prog true nid 30 (.int .i64 (fs.length:Int)) (.int .i64 (fs.length:Int)) H=some (.rs nid 1 0 fs.length,H.new nid (.row (List.replicate fs.length .nilsl))):=λnid H=>by
  have J:fs.length*24<=lim:=by unfold lim;omega
  have V:fs.length<=lim:=by unfold lim;omega
  simp only[sM,uc,bi,uT,tt,rY];rw[ip (by simp[D.notTuple,D.cells,J,V])]
  have:∀m,nz m D.nilsl.cells=List.replicate m .nilsl:=λm=>by
   unfold nz;simp only[D.cells]
   induction m with
   |zero=>rfl
   |succ m ih=>rw[wJ,yc,ih,wJ];rfl
  simp only[qG,this]
 obtain⟨l,ai⟩:∃n,g.next=n:=⟨_,rfl⟩;obtain⟨G,T,p,S,ak⟩:∃G:Heap,g.new l (.row (List.replicate fs.length .nilsl))=G/\G.at' l=some (.row (List.replicate fs.length .nilsl))/\Ext g G/\l<G.next:=⟨_,rfl,yQ _ _ _,(Ext.refl g).new ow _,by rw[qW _ ow];omega⟩;have o:∀H:Heap,Ext g H->H.at' l=some (.row (Vz fs y fs.length))->Q (.rs l 1 0 fs.length) H:=λH S h1=>by
  rw[Ho]at h1;have e:(ZZ fs y).length=fs.length:=by simp[ZZ]
  have M:frz l (qJ (ZZ fs y)).flatten (.rs l 1 0 (qJ (ZZ fs y)).length)=.sl 1 (qJ (ZZ fs y)) .no:=aB (rest:=[]) (rE _) rfl (by simp);rw[ym,e]at M;have I:wD (.sl 1 (qJ (ZZ fs y)) .no)=.sl 1 (qJ ((ZZ fs y).map Alt.clean)) .no:=by simp only[wD,Xh]
  have W:=qg (sz:=1) (xs:=qJ ((ZZ fs y).map Alt.clean)) (λx R=>by
   obtain⟨a,U,rfl⟩:=zT.1 R;obtain⟨b,J,rfl⟩:=zT.1 U;obtain⟨k,_,rfl⟩:=zT.1 J;exact Md (VC (B k))) .no
  refine hQ _ _ (.inr ⟨l,_,h1,?_⟩);rw[M,I];refine⟨S.del ow,qw (yg _) _ W.2,_,.inr rfl,by simp[ZZ],λi hi=> ?_,λa U=> ?_⟩
  ·simp only[ZZ,List.getElem_map,List.getElem_range,Alt.clean];exact Kv fs y i
  ·obtain⟨b,J,rfl⟩:=zT.1 U;obtain⟨k,_,rfl⟩:=zT.1 J;exact(VC (B k)).isSl
 clear hQ;have X:List.replicate fs.length D.nilsl=Vz fs y 0:=by unfold Vz;simp
 rw[X]at p T w;refine z5 zKZ ?_;simp only[f60,zA]
 repeat' first|simp only[go_sem, *]|apply bc<;>intro
 refine zV (λi fr h=>fr 0=x/\fr 3=.iptr [ta,oa] 0/\fr 5=.rs l 1 0 fs.length/\fr 6=.int .i64 ((lH fs i:Nat):Int)/\fr 7=.int .i64 (i:Int)/\h=G.set l (.row (Vz fs y i))) fs.length ow ?_ ?_ ?_
 ·have hz:lH fs 0=0:=rfl;have hs:=nh p;clear o w;simp only[go_sem,zQ,zS,zF,hz];exact hs.symm
 ·rintro i fr h j ec ew ⟨f0,f3,f5,f6,f7,A⟩;have a1:=wR R j;have a4:=Hp fs y (mz j);have F:=Kx fs y j;have c:=Kw fs y j;have e:=cx j;have O:=Qu (fs:=fs) (i:=i+1) (fs.length- (i+1)) ow;rw[show i+1+(fs.length- (i+1))=fs.length by omega]at O;have q:h.at' l=some (.row (Vz fs y i)):=by rw[A];exact zi _ _ _
  have E:=B i;have J:=aF i (mz j);have N:=sg j;have K:Qt fs y i=if(fs[i].kind==1)=true then lU y (lH fs i)else⟨[],.nilsl⟩:=by unfold Qt;rw[N]
  have s:(G.set l (.row (Vz fs y i))).set l (.row (Vz fs y (i+1)))=G.set l (.row (Vz fs y (i+1))):=by rw[jP]
  generalize fs[i]=f at *
  simp only[Fac.cells,Ex.cells]at a1;clear o w p T N;cases u:(f.kind==1)with
  |false=>
   rw[u,iq (by decide)]at K;rw[u,iq (by decide)]at e;replace e:lH fs (i+1)=lH fs i:=e;have c:=c (by rw[K]);rw[c]at A;rw[e];clear F s q E c
   repeat' first|simp only[go_sem, *]|apply bc<;>intro hc
  |true=>
   rw[u,ip rfl]at K;rw[u,ip rfl]at e;have C:lH fs i<y.ts.length:=ow;have a2:=ru Y C;have L:y.ts[lH fs i]=Qt fs y i:=by rw[K,lU,zK,zE C];rfl
   rw[L]at a2;have ag:IntKind.i64.wrap (((lH fs i:Nat):Int)+1)=((lH fs i+1:Nat):Int):=by rw[qE ow ow];omega
   rw[e];have a3:=wE (P:=prog) (sz:=1) (id:=l) uc uT (k:=.i64) j;rw[uz]at a3;obtain⟨u1,u2,u3⟩:=yR E;have I:=qO (P:=prog) (t:=108) (off:=i) (x:=(Qt fs y i).d) q uT ow u1 u3;subst A;rw[F,s]at I;clear c s F K L B O;generalize(Qt fs y i).d=v at *
   generalize Vz fs y (i+1)=R1 at *
   exact au
 ·rintro fr h ec ⟨f0,f3,f5,f6,f7,A⟩;have o:=o h (by rw[A];exact S.set ow _) (by rw[A];exact zi _ _ _);clear w p T;subst A;exact au
def RA(own:List UInt8)(d:Int)(l:List (List UInt8)):Bool:=(d==4)&& !(own== [])&&decide (cK (λx=>x==own) l<0)
def kQ(fs:List Fac)(j:Nat)(d:Int)(l:Nat):Bool:=tL fs l==4&&tK fs l==tK fs j&&ay fs l==d&&(!(d==2)||MW fs j)
def Rx(fs:List Fac)(own:List UInt8)(i j k:Nat)(d:Int)(l:List (List UInt8))(v:Vio):Prop:=
 ((d==5)=true/\v= ⟨0,wa [(i:Int),(j:Int),(k:Int)]⟩)\/(RA own d l=true/\v= ⟨1,wa [(i:Int),(j:Int),(k:Int)]⟩)\/∃z,z<fs.length/\kQ fs j d z=true/\v= ⟨2,wa [(i:Int),(j:Int),(k:Int),(z:Int)]⟩
theorem uh.skip{P:Vio->Prop}{n:Nat}{r:D}{b:Bool}{w:Vio}(h:uh P n r)(a:b=false):uh (λv=>P v\/(b=true/\v=w)) (n+1) r:=
 h.congr (λv=>⟨.inl,λq=>q.elim id λe=>by rw[a]at e;cases e.1⟩) ow
theorem uh.put{P:Vio->Prop}{n:Nat}{r:D}{b:Bool}{w:Vio}(h:uh (λv=>P v\/v=w) n r)(a:b=true):uh (λv=>P v\/(b=true/\v=w)) n r:=
 h.congr (λv=>tN ⟨λe=>⟨a,e⟩,λe=>e.2⟩) (zD _)
theorem zCh{S T:List Cla}(h:S.map Cla.key=T.map Cla.key){F:Int->List (List UInt8)->Prop} :(∃y∈S,F y.duty y.list)↔∃y∈T,F y.duty y.list:=by
 have key:∀L:List Cla,(∃y∈L,F y.duty y.list)↔∃q∈L.map Cla.key,F q.2.2.2.1 q.2.2.2.2:=λL=>by
  constructor
  ·rintro⟨y,a,hf⟩;exact⟨_,zT.2 ⟨y,a,rfl⟩,hf⟩
  ·rintro⟨q,b,hf⟩;obtain⟨y,a,rfl⟩:=zT.1 b;exact⟨y,a,hf⟩
 rw[key,key,h]
theorem ix3(cs:List D):yP prog 133 (.iptr cs 0) (.int .i64 0)=some (.iptr cs 0)/\yP prog 133 (.iptr cs 0) (.int .i64 1)=some (.iptr cs 1)/\yP prog 133 (.iptr cs 0) (.int .i64 2)=some (.iptr cs 2):=by
 refine⟨?_,?_,?_⟩ <;>simp[yP,KX,Pk,pj]
def FO(x:D)(own:List UInt8)(i j k n0:Nat)(kd:D)(fr:Frm):Prop:=fr 1=x/\fr 3=.str own/\fr 11=.iptr [.int .i64 (i:Int),.int .i64 (j:Int),.int .i64 (k:Int)] 0/\fr 13=.ptr n0 0/\fr 15=kd
@[go_sem] theorem zJv(x:D)(own:List UInt8)(i j k n0:Nat)(kd:D)(fr:Frm):FO x own i j k n0 kd fr=(fr 1=x/\fr 3=.str own/\fr 11=.iptr [.int .i64 (i:Int),.int .i64 (j:Int),.int .i64 (k:Int)] 0/\fr 13=.ptr n0 0/\fr 15=kd):=(rfl)
noncomputable def KO:Cfg:=zl [] [(1,[(0,.no),(1,.no),(2,.st),(3,.no),(4,.st),(5,.no),(6,.no),(7,.st),(8,.no),(9,.st),(10,.al 0),(11,.al 1),(12,.no),(13,.no)]),(14,nr 0 41)]
theorem p0(t:Tmp):KO.mu t=List.contains (α:=Nat) [] t:=(rfl)
theorem zH4:JE prog KO f66=true:=kr
theorem zE7(n:Nat)(h:Heap):HLe ⟨n,λ_=>none⟩ h=True:=eq_true λi a e=>by cases e
theorem A9{c:Cat}{d:D}(K:uM c d)(hs:c.Sm)(a9:c.cs.length<=128){fs:List Fac}{x:D}(hx:ye 12 (dj fs) x)(cp:fs.length<=16)(bx:∀f∈fs,f.Ok){ts:List Trm}{ad:D}(ha:ye 2 (wW ts) ad)(hl:ts.length<=64)
  {P:Vio->Prop} {n:Nat} {l:D} (hv:uh P n l) (hn:n<=1073000000) (own:List UInt8) {i j k:Nat} (hi:i<fs.length) (hj:j<fs.length) (hk:k<fs.length) (g:Heap):
  zB prog 66 [d,x,l,.str own,ad,.agg [.int .i64 (i:Int),.int .i64 (j:Int),.int .i64 (k:Int)]] g λr h'=>h'=g/\uh (λv=>P v\/∃y∈nM c ts (oW fs k) (sJ fs j),Rx fs own i j k y.duty y.list v) (n+147456) r:=by
 refine xU kr λca=>xS ?_;refine xP λQ W=> ?_;have ai:=MP K hs a9 ha hl (oW fs k) (sJ fs j);have c6:=rh hx;have b1:=wR hx hj;have b2:=wR hx hk;have w1:∀f:Fac,yN true 12 f.cells 0=some (.agg f.cells):=λf=>zJ rfl ow;have a7:=w1 fs[j];have a8:=w1 fs[k];clear w1;have ak:∀f∈fs,f.cells.all D.flat=true:=λf hf=>by
  show(true&&(true&&(true&&(true&&(true&&(true&&(true&&(true&&(true&&(true&&(f.e.d.flat&&(f.d.flat&&true))))))))))))=true;rw[Ex.flat (bx f hf).e,nH (bx f hf).list];rfl
 obtain⟨a,b,e,p,rfl,_,_,_,_⟩:=K;have b7:yN true 4 [a,b,e,p] 0=some (.agg [a,b,e,p]):=zJ rfl ow;have c7:yN true 3 [D.int .i64 (i:Int),.int .i64 (j:Int),.int .i64 (k:Int)] 0=some (.agg [.int .i64 (i:Int),.int .i64 (j:Int),.int .i64 (k:Int)]):=zJ rfl ow;obtain⟨U,b6⟩:∃n,g.next=n:=⟨_,rfl⟩;refine xO mix func66 zH4 rfl rfl ?_;simp only[f66,zA];refine tH (λfr h=>fr 1=x/\fr 2=l/\fr 3=.str own/\fr 4=ad/\fr 6=.iptr [a,b,e,p] 0/\fr 11=.iptr [.int .i64 (i:Int),.int .i64 (j:Int),.int .i64 (k:Int)] 0/\h=g) ?_ ?_
 ·clear W ai
  repeat' first|simp only[go_sem,p0, *]|apply bc<;>intro K
 rintro fr h ⟨S,M,T,f4,f6,E,N⟩;subst N;refine tH (λfr G=>fr 1=x/\fr 2=l/\fr 3=.str own/\fr 4=ad/\fr 6=.iptr [a,b,e,p] 0/\fr 11=.iptr [.int .i64 (i:Int),.int .i64 (j:Int),.int .i64 (k:Int)] 0/\fr 13=.ptr U 0/\fr 14=.ptr (U+1) 0/\Ext h G/\G.at' U=some (.row fs[j].cells)/\G.at' (U+1)=some (.row fs[k].cells)) ?_ ?_
 ·clear W ai;obtain⟨x0,x1,x2⟩:=ix3 [.int .i64 (i:Int),.int .i64 (j:Int),.int .i64 (k:Int)];obtain⟨G0,cu,E0⟩:∃G,h.bump 2=G/\Ext h G:=⟨_,rfl,Nat.le_add_right _ _,λi hi=>rfl⟩;obtain⟨G1,cv,r1,E1⟩:∃G,G0.new U (.row Bg)=G/\G.at' U=some (.row Bg)/\Ext h G:=⟨_,rfl,yQ _ _ _,E0.new ow _⟩;obtain⟨G2,cw,r2,q2,E2⟩:∃G,G1.new (U+1) (.row Bg)=G/\G.at' U=some (.row Bg)/\G.at' (U+1)=some (.row Bg)/\Ext h G:=⟨_,rfl,by rw[zz ow];exact r1,yQ _ _ _,E1.new ow _⟩;have b8:=rU (P:=prog) (t:=56) (cs':=fs[j].cells) r2 Rg rfl (by show 0<12;omega) (ak _ (zG hj))
  obtain⟨G3,ba,r3,q3,E3⟩:∃G,G2.set U (.row fs[j].cells)=G/\G.at' U=some (.row fs[j].cells)/\G.at' (U+1)=some (.row Bg)/\Ext h G:=⟨_,rfl,zi _ _ _,by rw[zx ow];exact q2,E2.set ow _⟩;rw[ba]at b8;have b9:=rU (P:=prog) (t:=56) (cs':=fs[k].cells) q3 Rg rfl (by show 0<12;omega) (ak _ (zG hk));obtain⟨G4,bb,r4,q4,E4⟩:∃G,G3.set (U+1) (.row fs[k].cells)=G/\G.at' U=some (.row fs[j].cells)/\G.at' (U+1)=some (.row fs[k].cells)/\Ext h G:=⟨_,rfl,by rw[zx ow];exact r3,zi _ _ _,E3.set ow _⟩;rw[bb]at b9;clear ba bb r1 r2 q2 r3 q3 E1 E2 E3 ak;generalize fs[j].cells=c1 at *
  generalize fs[k].cells=c2 at *
  have w1:yN true 12 c1 0=some (.agg c1):=a7;have w2:yN true 12 c2 0=some (.agg c2):=a8
  repeat' first|simp only[go_sem,p0, *]|apply bc<;>intro K
  refine II 1 (λ_=>none) [(0,.no,true),(1,.no,true),(2,.st,true),(3,.no,true),(4,.st,true),(5,.no,true),(6,.no,true),(7,.st,true),(8,.no,true),(9,.st,true),(10,.al 0,true),(11,.al 1,true),(12,.no,true),(13,.no,true)] kr kr (λ_ _ e=>by cases e) ?_
  repeat' first|simp only[go_sem,p0,zE7,wl, *]|apply bc<;>intro K
 clear S M T f4 f6 E fr;rintro fr G ⟨S,M,T,f4,f6,E,H,b4,hE,a5,b0⟩;have W:∀r,uh (λv=>P v\/∃y∈nM c ts (oW fs k) (sJ fs j),Rx fs own i j k y.duty y.list v) (n+147456) r->Q r G:=λr hr=>by
  obtain⟨ws,h1,L⟩:=hr;obtain⟨e1,e2⟩:=Ki (fW ws) h1 h.next;exact W _ _ ⟨hE,by rw[e1];exact e2,ws,by rw[e1];exact h1,L⟩
 refine tH (λfr h=>fr 2=l/\fr 1=x/\fr 3=.str own/\fr 11=.iptr [.int .i64 (i:Int),.int .i64 (j:Int),.int .i64 (k:Int)] 0/\fr 13=.ptr U 0/\h=G/\∃cs:List Cla,ye 5 (lC cs) (fr 15)/\(∀y∈cs,y.Fine)/\cs.map Cla.key=(nM c ts (oW fs k) (sJ fs j)).map Cla.key) ?_ ?_
 ·have e1:oW fs k=fs[k].way:=by unfold oW;rw[zE hk]
  have e2:sJ fs j=fs[j].rel:=by unfold sJ;rw[zE hj]
  rw[e1,e2]at ai⊢;clear W hE b1 b2 a7 a8 ak e1 e2;generalize fs[j]=fj at *
  generalize fs[k]=fk at *
  simp only[Fac.cells,Ex.cells]at a5 b0
  repeat' first|simp only[go_sem,p0, *]|apply bc<;>intro K|(refine zB.mono (ai _) ?_;rintro r h ⟨N,b5⟩)
  exact b5
 clear S M T f4 f6 E H b4 fr;rintro fr G ⟨M,S,T,E,H,N,cs,q1,q2,q3⟩;subst N;obtain⟨kd,I⟩:∃kd,fr 15=kd:=⟨_,rfl⟩;rw[I]at q1;have c0:cs.length<=8192:=by
  have e1:=Y3 q3;have key:∀l:List Trm,(nM c l (oW fs k) (sJ fs j)).length<=128*l.length:=λl=>by
   induction l with
   |nil=>simp[nM]
   |cons x l ih=>
    have:=qM (gF (kS c x.a x.b) x.a (oW fs k) (sJ fs j)) c.cs;simp only[nM,tP,zM,zm]at ih⊢;omega
  have:=key ts;omega
 replace W:∀r,uh (λv=>P v\/∃y∈cs.take cs.length,Rx fs own i j k y.duty y.list v) (n+18*cs.length) r->Q r G:=λr hr=>W r (hr.congr (λv=>tN (by rw[zb];exact zCh (F:=λd l=>Rx fs own i j k d l v) q3)) ow);have c5:=nb q1;have r1:=a5;clear ai b0 b1 b2 a7 a8 ak q3 hE b7 b6 ha hl;refine tH (λfr h=>h=G/\uh (λv=>P v\/∃y∈cs.take cs.length,Rx fs own i j k y.duty y.list v) (n+18*cs.length) (fr 2)) ?_ ?_
 ·clear W
  repeat' first|simp only[go_sem,p0, *]|apply bc<;>intro K
  refine zV (λq fr h=>FO x own i j k U kd fr/\fr 16=.int .i64 (q:Int)/\h=G/\uh (λv=>P v\/∃y∈cs.take q,Rx fs own i j k y.duty y.list v) (n+18*q) (fr 2)) cs.length ow ?_ ?_ ?_
  ·have a6:uh (λv=>P v\/∃y∈cs.take 0,Rx fs own i j k y.duty y.list v) (n+18*0) l:=hv.congr (λv=>by simp) ow;simp only[go_sem,zQ,zS,zF,S,T,E,H,I,M];exact a6
  ·clear S T E H I M fr;rintro q fr h a4 ec ew ⟨⟨S,T,E,H,I⟩,O,N,u⟩;subst N;have R:∀r m,m<=n+18*q+18->uh (λv=>((P v\/∃y∈cs.take q,Rx fs own i j k y.duty y.list v)\/(((cs[q].duty==5)=true/\v= ⟨0,wa [(i:Int),(j:Int),(k:Int)]⟩)\/(RA own cs[q].duty cs[q].list=true/\v= ⟨1,wa [(i:Int),(j:Int),(k:Int)]⟩)))\/∃z,z<fs.length/\kQ fs j cs[q].duty z=true/\v= ⟨2,wa [(i:Int),(j:Int),(k:Int),(z:Int)]⟩) m r->uh (λv=>P v\/∃y∈cs.take (q+1),Rx fs own i j k y.duty y.list v) (n+18*(q+1)) r:=λr m hm hr=>hr.congr (λv=>by
    rw[zH a4];simp only[yD,zY,or_and_right,exists_or,exists_eq_left,Rx,bG]) ow
   have a1:=lV q1 a4;have hy:=q2 _ (zG a4);generalize cs[q]=y at *
   simp only[Cla.cells]at a1;obtain⟨PQ,a3⟩:∃PQ:Vio->Prop,(λv=>P v\/∃y∈cs.take q,Rx fs own i j k y.duty y.list v)=PQ:=⟨_,rfl⟩;rw[a3]at u;replace R:∀r m,m<=n+18*q+18->uh (λv=>((PQ v\/((y.duty==5)=true/\v= ⟨0,wa [(i:Int),(j:Int),(k:Int)]⟩))\/(RA own y.duty y.list=true/\v= ⟨1,wa [(i:Int),(j:Int),(k:Int)]⟩))\/∃z,z<fs.length/\kQ fs j y.duty z=true/\v= ⟨2,wa [(i:Int),(j:Int),(k:Int),(z:Int)]⟩) m r->_:=λr m hm hr=>R r m hm (hr.congr (λv=>by
    rw[<-a3,bG (a:=P v\/∃y∈cs.take q,Rx fs own i j k y.duty y.list v)]) (zD _))
   clear a3;obtain⟨x0,x1,x2⟩:=ix3 [.int .i64 (i:Int),.int .i64 (j:Int),.int .i64 (k:Int)];obtain⟨o,M⟩:∃o,fr 2=o:=⟨_,rfl⟩;rw[M]at u;refine tH (λfr L=>fr 2=o/\FO x own i j k U kd fr/\fr 16=.int .i64 (q:Int)/\h=L) ?_ ?_
   ·clear R u W
    repeat' first|simp only[go_sem,p0, *]|apply bc<;>intro K
   clear S M T E H I O fr;rintro fr L ⟨M,⟨S,T,E,H,I⟩,O,N⟩;subst N;rw[rV,Xt];refine tH (λfr L=>fr 2=o/\FO x own i j k U kd fr/\fr 16=.int .i64 (q:Int)/\fr 17=.sl 1 (uq [(i:Int),(j:Int),(k:Int)]) .full/\h=L) ?_ ?_
   ·have c3:=bs3 (i:Int) (j:Int) (k:Int);clear R u W
    repeat' first|simp only[go_sem,p0, *]|apply bc<;>intro K
   clear S M T E H I O fr;rintro fr L ⟨M,⟨S,T,E,H,I⟩,O,a0,N⟩;subst N;obtain⟨R1,ab⟩:∃R1:Vio->Prop,(λv=>PQ v\/((y.duty==5)=true/\v= ⟨0,wa [(i:Int),(j:Int),(k:Int)]⟩))=R1:=⟨_,rfl⟩;have B:(y.duty==5)=false->uh R1 (n+18*q+1) o:=λZ=>by rw[<-ab];exact u.skip Z
   have A:(y.duty==5)=true->∀r,uh (λv=>PQ v\/v= ⟨0,wa [(i:Int),(j:Int),(k:Int)]⟩) (n+18*q+1) r->uh R1 (n+18*q+1) r:=λZ r h=>by rw[<-ab];exact h.put Z
   refine tH (λfr L=>FO x own i j k U kd fr/\fr 16=.int .i64 (q:Int)/\fr 17=.sl 1 (uq [(i:Int),(j:Int),(k:Int)]) .full/\h=L/\uh R1 (n+18*q+1) (fr 2)) ?_ ?_
   ·have J:=br (row:=0) (facts:=[(i:Int),(j:Int),(k:Int)]) u ow (ye.mk .full) (by simp) (by simp);clear R W ab u;cases Z:(y.duty==5)with
    |false=>
     have C:=B Z;clear B A J
     repeat' first|simp only[go_sem,p0, *]|apply bc<;>intro K
     all_goals exact C
    |true=>
     have A:=A Z;clear B
     repeat' first|simp only[go_sem,p0, *]|apply bc<;>intro K|(refine zB.mono (J _) ?_;rintro r h ⟨N,hr⟩)
     all_goals exact A _ hr
   clear S M T E H I O a0 u B A fr o;rintro fr L ⟨⟨S,T,E,H,I⟩,O,a0,N,u⟩;subst N;obtain⟨o,M⟩:∃o,fr 2=o:=⟨_,rfl⟩;rw[M]at u;obtain⟨b2,s⟩:∃b,RA own y.duty y.list=b:=⟨_,rfl⟩;obtain⟨V,ag⟩:∃V:Vio->Prop,(λv=>R1 v\/(RA own y.duty y.list=true/\v= ⟨1,wa [(i:Int),(j:Int),(k:Int)]⟩))=V:=⟨_,rfl⟩;have B:b2=false->uh V (n+18*q+2) o:=λZ=>by rw[<-ag];exact u.skip (s.trans Z)
   have A:b2=true->∀r,uh (λv=>R1 v\/v= ⟨1,wa [(i:Int),(j:Int),(k:Int)]⟩) (n+18*q+2) r->uh V (n+18*q+2) r:=λZ r h=>by rw[<-ag];exact h.put (s.trans Z)
   have J:=br (row:=1) (facts:=[(i:Int),(j:Int),(k:Int)]) u ow (ye.mk .full) (by simp) (by simp);refine tH (λfr L=>FO x own i j k U kd fr/\fr 16=.int .i64 (q:Int)/\h=L/\uh V (n+18*q+2) (fr 2)) ?_ ?_
   ·have bk:=Zi hy.1.isSl hy.2 own;unfold RA at s;clear R W ab ag u;generalize cK (λx=>x==own) y.list=ix at *
    cases h1:(y.duty==4)with
    |false=>
     have C:=B (by rw[<-s,h1];rfl);clear B A J s
     repeat' first|simp only[go_sem,p0, *]|apply bc<;>intro K
     all_goals exact C
    |true=>
    cases h3:(own== [])with
    |true=>
     have C:=B (by rw[<-s,h1,h3];rfl);clear B A J s
     repeat' first|simp only[go_sem,p0, *]|apply bc<;>intro K
     all_goals exact C
    |false=>
    cases h4:decide (ix<0)with
    |false=>
     have C:=B (by rw[<-s,h1,h3,h4];rfl);clear B A J s
     repeat' first|simp only[go_sem,p0, *]|apply bc<;>intro K|(refine zB.mono (bk _) ?_;rintro r h ⟨N,rfl⟩)
     all_goals exact C
    |true=>
     have A:=A (by rw[<-s,h1,h3,h4];rfl);clear B s
     repeat' first|simp only[go_sem,p0, *]|apply bc<;>intro K|(refine zB.mono (bk _) ?_;rintro r h ⟨N,rfl⟩)|(refine zB.mono (J _) ?_;rintro r h ⟨N,hr⟩)
     all_goals exact A _ hr
   clear S M T E H I O a0 u B A J fr o;rintro fr L ⟨⟨S,T,E,H,I⟩,O,N,u⟩;subst N;obtain⟨o,M⟩:∃o,fr 2=o:=⟨_,rfl⟩;rw[M]at u;replace R:∀r m,m<=n+18*q+18->uh (λv=>V v\/∃z,z<fs.length/\kQ fs j y.duty z=true/\v= ⟨2,wa [(i:Int),(j:Int),(k:Int),(z:Int)]⟩) m r->_:=λr m hm hr=>R r m hm (hr.congr (λv=>by rw[<-ag,<-ab]) (zD _));clear ab ag s;have au:(λv=>V v\/∃z,z<0/\kQ fs j y.duty z=true/\v= ⟨2,wa [(i:Int),(j:Int),(k:Int),(z:Int)]⟩)=V:=by funext v;simp
   repeat' first|simp only[go_sem,p0, *]|apply bc<;>intro K
   refine zV (λz fr L=>FO x own i j k U kd fr/\fr 16=.int .i64 (q:Int)/\h=L/\fr 18=.int .i64 (z:Int)/\uh (λv=>V v\/∃w,w<z/\kQ fs j y.duty w=true/\v= ⟨2,wa [(i:Int),(j:Int),(k:Int),(w:Int)]⟩) (n+18*q+2+z) (fr 2)) fs.length ow ?_ ?_ ?_
   ·have a6:uh (λv=>V v\/∃z,z<0/\kQ fs j y.duty z=true/\v= ⟨2,wa [(i:Int),(j:Int),(k:Int),(z:Int)]⟩) (n+18*q+2+0) o:=by rw[au];exact u
    clear W R au;simp only[go_sem,zQ,zS,zF,S,M,T,E,H,I,O];exact a6
   ·clear W R au u S M T E H I O fr;rintro z fr L hz b3 cb ⟨⟨S,T,E,H,I⟩,O,N,cc,X⟩;subst N;obtain⟨o,M⟩:∃o,fr 2=o:=⟨_,rfl⟩;rw[M]at X;obtain⟨b2,s⟩:∃b,kQ fs j y.duty z=b:=⟨_,rfl⟩;have Y:(λv=>(V v\/∃w,w<z/\kQ fs j y.duty w=true/\v= ⟨2,wa [(i:Int),(j:Int),(k:Int),(w:Int)]⟩)\/(kQ fs j y.duty z=true/\v= ⟨2,wa [(i:Int),(j:Int),(k:Int),(z:Int)]⟩))=(λv=>V v\/∃w,w<z+1/\kQ fs j y.duty w=true/\v= ⟨2,wa [(i:Int),(j:Int),(k:Int),(w:Int)]⟩):=by
     funext v
     rw[eq_iff_iff,bG];refine tN ⟨?_,?_⟩
     ·rintro(⟨w,h1,L⟩ |L)
      ·exact⟨w,by omega,L⟩
      ·exact⟨z,by omega,L⟩
     ·rintro⟨w,h1,L⟩;by_cases e:w=z
      ·subst e;exact .inr L
      ·exact .inl ⟨w,by omega,L⟩
    have B:b2=false->uh (λv=>V v\/∃w,w<z+1/\kQ fs j y.duty w=true/\v= ⟨2,wa [(i:Int),(j:Int),(k:Int),(w:Int)]⟩) (n+18*q+2+(z+1)) o:=λZ=>by rw[<-Y];exact X.skip (s.trans Z)
    have A:b2=true->∀r,uh (λv=>(V v\/∃w,w<z/\kQ fs j y.duty w=true/\v= ⟨2,wa [(i:Int),(j:Int),(k:Int),(w:Int)]⟩)\/v= ⟨2,wa [(i:Int),(j:Int),(k:Int),(z:Int)]⟩) (n+18*q+2+z+1) r->uh (λv=>V v\/∃w,w<z+1/\kQ fs j y.duty w=true/\v= ⟨2,wa [(i:Int),(j:Int),(k:Int),(w:Int)]⟩) (n+18*q+2+(z+1)) r:=λZ r h=>by rw[<-Y];exact h.put (s.trans Z)
    have J:=br (row:=2) (facts:=[(i:Int),(j:Int),(k:Int),(z:Int)]) X ow (ye.mk .full) (by simp) (by simp);clear X Y;have a2:=wR hx hz;have c4:=bs4 (i:Int) (j:Int) (k:Int) (z:Int);have bs:kQ fs j y.duty z=(fs[z].kind==4&&fs[z].comp==fs[j].comp&&fs[z].duty==y.duty&&(!(y.duty==2)||fs[j].chg)):=by
     unfold kQ ay MW;rw[sg hz,ox hz,ox hj,zE hz,zE hj]
    rw[bs]at s;clear bs;generalize(λv=>V v\/∃w,w<z+1/\kQ fs j y.duty w=true/\v= ⟨2,wa [(i:Int),(j:Int),(k:Int),(w:Int)]⟩)=R3 at *
    generalize(λv=>(V v\/∃w,w<z/\kQ fs j y.duty w=true/\v= ⟨2,wa [(i:Int),(j:Int),(k:Int),(w:Int)]⟩)\/v= ⟨2,wa [(i:Int),(j:Int),(k:Int),(z:Int)]⟩)=R4 at *
    generalize fs[z]=fz at *
    generalize fs[j]=fj at *
    clear a5;simp only[Fac.cells,Ex.cells]at a2 r1;cases h1:(fz.kind==4)with
    |false=>
     have C:=B (by rw[<-s,h1];rfl);clear B A J s
     repeat' first|simp only[go_sem,p0, *]|apply bc<;>intro K
     refine zd kr ?_
     repeat' first|simp only[go_sem,p0, *]|apply bc<;>intro K
     all_goals exact C
    |true=>
    cases L:(fz.comp==fj.comp)with
    |false=>
     have C:=B (by rw[<-s,h1,L];rfl);clear B A J s
     repeat' first|simp only[go_sem,p0, *]|apply bc<;>intro K
     refine zd kr ?_
     repeat' first|simp only[go_sem,p0, *]|apply bc<;>intro K
     all_goals exact C
    |true=>
    cases h3:(fz.duty==y.duty)with
    |false=>
     have C:=B (by rw[<-s,h1,L,h3];rfl);clear B A J s
     repeat' first|simp only[go_sem,p0, *]|apply bc<;>intro K
     refine zd kr ?_
     repeat' first|simp only[go_sem,p0, *]|apply bc<;>intro K
     all_goals exact C
    |true=>
    cases h4:(y.duty==2)with
    |false=>
     have A:=A (by rw[<-s,h1,L,h3,h4];rfl);clear B s
     repeat' first|simp only[go_sem,p0, *]|apply bc<;>intro K
     refine zd kr ?_
     repeat' first|simp only[go_sem,p0, *]|apply bc<;>intro K|(refine zB.mono (J _) ?_;rintro r h ⟨N,hr⟩)
     all_goals exact A _ hr
    |true=>
    cases h5:fj.chg with
    |false=>
     have C:=B (by rw[<-s,h1,L,h3,h4,h5];rfl);clear B A J s
     repeat' first|simp only[go_sem,p0, *]|apply bc<;>intro K
     refine zd kr ?_
     repeat' first|simp only[go_sem,p0, *]|apply bc<;>intro K
     all_goals exact C
    |true=>
     have A:=A (by rw[<-s,h1,L,h3,h4,h5];rfl);clear B s
     repeat' first|simp only[go_sem,p0, *]|apply bc<;>intro K
     refine zd kr ?_
     repeat' first|simp only[go_sem,p0, *]|apply bc<;>intro K|(refine zB.mono (J _) ?_;rintro r h ⟨N,hr⟩)
     all_goals exact A _ hr
   ·rintro fr L b3 ⟨⟨g1,g3,cf,cg,ch⟩,cl,N,cm,X⟩;subst N;clear S M T E H I O u au W;obtain⟨o2,g2⟩:∃o,fr 2=o:=⟨_,rfl⟩;rw[g2]at X;have bd:=R _ _ ow X;clear R X
    repeat' first|simp only[go_sem,p0, *]|apply bc<;>intro K
    all_goals exact bd
  ·clear S M T E H I fr;rintro fr h ec ⟨⟨S,T,E,H,I⟩,O,N,u⟩;subst N;obtain⟨o,M⟩:∃o,fr 2=o:=⟨_,rfl⟩;rw[M]at u
   repeat' first|simp only[go_sem,p0, *]|apply bc<;>intro K
   all_goals exact u
 ·clear S M T E H I fr;rintro fr h ⟨N,u⟩;subst N;obtain⟨o,M⟩:∃o,fr 2=o:=⟨_,rfl⟩;rw[M]at u;have W:=W _ u;clear u
  repeat' first|simp only[go_sem,p0, *]|apply bc<;>intro K
def exS(P:Vio->Prop)(F:Nat->Vio->Prop)(z:Nat):Vio->Prop:=λv=>P v\/∃w,w<z/\F w v
theorem lE(P:Vio->Prop)(F:Nat->Vio->Prop):exS P F 0=P:=by funext v;simp[exS]
theorem fK(P:Vio->Prop)(F:Nat->Vio->Prop)(z:Nat):(λv=>exS P F z v\/F z v)=exS P F (z+1):=by
 funext v
 unfold exS;rw[eq_iff_iff,bG];refine tN ⟨?_,?_⟩
 ·rintro(⟨w,h1,a⟩ |a)
  ·exact⟨w,by omega,a⟩
  ·exact⟨z,by omega,a⟩
 ·rintro⟨w,h1,a⟩;by_cases e:w=z
  ·subst e;exact .inr a
  ·exact .inl ⟨w,by omega,a⟩
theorem uh.none{P:Vio->Prop}{F:Nat->Vio->Prop}{n m z:Nat}{r:D}(h:uh (exS P F z) n r)(a:∀v,¬F z v)(b:n<=m):uh (exS P F (z+1)) m r:=by
 rw[<-fK];exact h.congr (λv=>⟨.inl,λq=>q.elim id λq=>absurd q (a v)⟩) b
theorem uh.one{P:Vio->Prop}{F:Nat->Vio->Prop}{n m z:Nat}{w:Vio}{r:D}(h:uh (λv=>exS P F z v\/v=w) n r)(a:∀v,F z v↔v=w)(b:n<=m):uh (exS P F (z+1)) m r:=by
 rw[<-fK];exact h.congr (λv=>tN (a v).symm) b
theorem uh.more{P:Vio->Prop}{F E:Nat->Vio->Prop}{n m z k:Nat}{r:D}(h:uh (exS (exS P F z) E k) n r)(a:∀v,F z v↔∃w,w<k/\E w v)(b:n<=m):uh (exS P F (z+1)) m r:=by
 rw[<-fK];exact h.congr (λv=>tN (a v).symm) b
def zDx(fs:List Fac)(i h j g:Nat):Bool:=Nv fs i j&&Nv fs h g&& !(tK fs i==tK fs h&& !((j:Int)==(g:Int)))&&sJ fs j==0&&sJ fs g==0&&tX fs j==tX fs g
def X3(fs:List Fac)(i h j g k:Nat)(v:Vio):Prop:=jr fs j k=true/\v= ⟨3,wa [(i:Int),(h:Int),(j:Int),(g:Int),(k:Int)]⟩
def YB(fs:List Fac)(i h j g:Nat)(v:Vio):Prop:=zDx fs i h j g=true/\∃k,k<fs.length/\X3 fs i h j g k v
def dY(fs:List Fac)(i h j:Nat)(v:Vio):Prop:=∃g,g<fs.length/\YB fs i h j g v
def d7(c:Cat)(a b:List Trm):Bool:= !((a.length:Int)==0)&& !((b.length:Int)==0)&&a.any (WG c b)
theorem HG{c:Cat}{d:D}(C:uM c d)(hs:c.Sm){fs:List Fac}{x:D}(Q:ye 12 (dj fs) x)(ba:fs.length<=16){a b:List Trm}{ad bd:D}(ha:ye 2 (wW a) ad)(a5:a.length<=64)(E:ye 2 (wW b) bd)(a6:b.length<=64)
  {P:Vio->Prop} {n:Nat} {l:D} (f:uh P n l) (hn:n<=1073700000) {i h:Nat} (hi:i<fs.length) (hh:h<fs.length) (O:Heap):
  zB prog 67 [d,x,l,ad,bd,.int .i64 (i:Int),.int .i64 (h:Int)] O λr h'=>h'=O/\uh (λv=>P v\/(d7 c a b=true/\∃j,j<fs.length/\dY fs i h j v)) (n+4096) r:=by
 have L:=MM C hs ha a5 E a6;have bk:=rh Q;have la:=wT ha;have lb:=wT E;have t:d7 c a b=false->uh (λv=>P v\/(d7 c a b=true/\∃j,j<fs.length/\dY fs i h j v)) (n+4096) l:=λe=>f.congr (λv=>by rw[e];simp) ow;have w:d7 c a b=true->∀r,uh (exS P (dY fs i h) fs.length) (n+256*fs.length) r->uh (λv=>P v\/(d7 c a b=true/\∃j,j<fs.length/\dY fs i h j v)) (n+4096) r:=λe r hr=>hr.congr (λv=>by rw[e];simp[exS]) ow;obtain⟨R,hR⟩:∃R,(λv=>P v\/(d7 c a b=true/\∃j,j<fs.length/\dY fs i h j v))=R:=⟨_,rfl⟩;rw[hR]at t w⊢;clear hR;obtain⟨pb,B⟩:∃pb,d7 c a b=pb:=⟨_,rfl⟩;rw[B]at t w;unfold d7 at B
 obtain⟨ca,cb,ce,cp,rfl,_,_,_,_⟩:=C;have bx:yN true 4 [ca,cb,ce,cp] 0=some (.agg [ca,cb,ce,cp]):=zJ rfl ow;refine z5 zKe ?_;simp only[f67,zA];cases q1:((a.length:Int)==0)with
 |true=>
  have t:=t (by rw[<-B,q1];rfl);clear w B
  repeat' first|simp only[go_sem, *]|apply bc<;>intro C
  all_goals exact t
 |false=>
 cases q2:((b.length:Int)==0)with
 |true=>
  have t:=t (by rw[<-B,q1,q2];rfl);clear w B
  repeat' first|simp only[go_sem, *]|apply bc<;>intro C
  all_goals exact t
 |false=>
 generalize a.any (WG c b)=ab at *
 cases ab with
 |false=>
  have t:=t (by rw[<-B,q1,q2];rfl);clear w B
  repeat' first|simp only[go_sem, *]|apply bc<;>intro C|(refine zB.mono (L _) ?_;rintro r h ⟨u,rfl⟩)
  all_goals exact t
 |true=>
 have w:=w (by rw[<-B,q1,q2];rfl);clear t B
 repeat' first|simp only[go_sem, *]|apply bc<;>intro C|(refine zB.mono (L _) ?_;rintro r h ⟨u,rfl⟩)
 subst u
 rename Heap=>O
 refine zV (λj fr H=>fr 1=x/\fr 5=.int .i64 (i:Int)/\fr 6=.int .i64 (h:Int)/\fr 15=.int .i64 (j:Int)/\O=H/\uh (exS P (dY fs i h) j) (n+256*j) (fr 2)) fs.length ow ?_ ?_ ?_
 ·have K:uh (exS P (dY fs i h) 0) (n+256*0) l:=by rw[lE];exact f
  clear w L;simp only[go_sem,zQ,zS,zF];exact K
 ·clear w L f;rintro j fr H X ec ew ⟨F,G,I,p,u,f⟩;subst u;obtain⟨o,A⟩:∃o,fr 2=o:=⟨_,rfl⟩;rw[A]at f;have m:∀r,uh (exS (exS P (dY fs i h) j) (YB fs i h j) fs.length) (n+256*j+16*fs.length) r->uh (exS P (dY fs i h) (j+1)) (n+256*(j+1)) r:=λr hr=>hr.more (λv=>Iff.rfl) ow;have Y:n+256*j<=1073710000:=ow;generalize exS P (dY fs i h) (j+1)=P1 at *
  generalize exS P (dY fs i h) j=T at *
  generalize n+256*(j+1)=n1 at *
  generalize n+256*j=S at *
  repeat' first|simp only[go_sem, *]|apply bc<;>intro C
  refine zV (λg fr J=>fr 1=x/\fr 5=.int .i64 (i:Int)/\fr 6=.int .i64 (h:Int)/\fr 15=.int .i64 (j:Int)/\fr 16=.int .i64 (g:Int)/\O=J/\uh (exS T (YB fs i h j) g) (S+16*g) (fr 2)) fs.length ow ?_ ?_ ?_
  ·have K:uh (exS T (YB fs i h j) 0) (S+16*0) o:=by rw[lE];exact f
   clear m;simp only[go_sem,zQ,zS,zF,F,A,G,I,p];exact K
  ·clear m f F A G I p fr;rintro g fr J hg ai a8 ⟨F,G,I,p,z,u,f⟩;subst u;obtain⟨o,A⟩:∃o,fr 2=o:=⟨_,rfl⟩;rw[A]at f;obtain⟨b,E⟩:∃b,zDx fs i h j g=b:=⟨_,rfl⟩;have y:b=false->uh (exS T (YB fs i h j) (g+1)) (S+16*(g+1)) o:=λe=>f.none (λv q=>by rw[YB,E,e]at q;cases q.1) ow;have m:b=true->∀r,uh (exS (exS T (YB fs i h j) g) (X3 fs i h j g) fs.length) (S+16*g+fs.length) r->uh (exS T (YB fs i h j) (g+1)) (S+16*(g+1)) r:=λe r hr=>hr.more (λv=>by rw[YB,E,e];simp) ow;have a7:S+16*g<=1073720000:=ow;generalize exS T (YB fs i h j) (g+1)=P2 at *
   generalize exS T (YB fs i h j) g=V at *
   generalize S+16*(g+1)=n2 at *
   generalize S+16*g=n3 at *
   clear Y;refine tH (λfr J=>fr 1=x/\fr 5=.int .i64 (i:Int)/\fr 6=.int .i64 (h:Int)/\fr 15=.int .i64 (j:Int)/\fr 16=.int .i64 (g:Int)/\fr 2=o/\O=J) ?_ ?_
   ·clear y m E f;exact au
   clear F A G I p z fr;rintro fr J ⟨F,G,I,p,z,A,u⟩;subst u;rw[rV,Xt,rV,rV];refine rz (λfr J=>fr 1=x/\fr 5=.int .i64 (i:Int)/\fr 6=.int .i64 (h:Int)/\fr 15=.int .i64 (j:Int)/\fr 16=.int .i64 (g:Int)/\fr 2=o/\fr 104=.bool (!b)/\O=J) ?_ ?_
   ·have U:=L9 Q hi X;have ag:=L9 Q hh hg;have a1:=wR Q hi;have a2:=wR Q hh;have a3:=wR Q X;have a4:=wR Q hg;have e1:sJ fs j=fs[j].rel:=by unfold sJ;rw[zE X]
    have e2:sJ fs g=fs[g].rel:=by unfold sJ;rw[zE hg]
    unfold zDx at E;rw[ox hi,ox hh,e1,e2,lJ X,lJ hg]at E;clear y m f e1 e2;generalize fs[i]=fi at *
    generalize fs[h]=fh at *
    generalize fs[j]=fj at *
    generalize fs[g]=fg at *
    generalize Nv fs i j=u1 at *
    generalize Nv fs h g=u2 at *
    simp only[Fac.cells,Ex.cells]at a1 a2 a3 a4;cases u1 with
    |false=>
     have E:b=false:=by rw[<-E];rfl
     subst E
     repeat' first|simp only[go_sem, *]|apply bc<;>intro C
     refine zd kr ?_
     repeat' first|simp only[go_sem, *]|apply bc<;>intro C|(refine zB.mono (U _) ?_;rintro r h ⟨u,rfl⟩)
    |true=>
    cases u2 with
    |false=>
     have E:b=false:=by rw[<-E];rfl
     subst E
     repeat' first|simp only[go_sem, *]|apply bc<;>intro C
     refine zd kr ?_
     repeat' first|simp only[go_sem, *]|apply bc<;>intro C|(refine zB.mono (U _) ?_;rintro r h ⟨u,rfl⟩)|(refine zB.mono (ag _) ?_;rintro r h ⟨u,rfl⟩)
    |true=>
     subst E
     repeat' first|simp only[go_sem, *]|apply bc<;>intro C
     refine zd kr ?_
     repeat' first|simp only[go_sem, *]|apply bc<;>intro C|(refine zB.mono (U _) ?_;rintro r h ⟨u,rfl⟩)|(refine zB.mono (ag _) ?_;rintro r h ⟨u,rfl⟩)
   clear F A G I p z fr;rintro fr J ⟨F,G,I,p,z,A,N,u⟩;subst u;clear E;cases b with
   |false=>
    have y:=y rfl;clear m f
    repeat' first|simp only[go_sem, *]|apply bc<;>intro C
    all_goals exact y
   |true=>
   have m:=m rfl;clear y
   repeat' first|simp only[go_sem, *]|apply bc<;>intro C
   refine zV (λk fr J=>fr 1=x/\fr 5=.int .i64 (i:Int)/\fr 6=.int .i64 (h:Int)/\fr 15=.int .i64 (j:Int)/\fr 16=.int .i64 (g:Int)/\fr 17=.int .i64 (k:Int)/\O=J/\uh (exS V (X3 fs i h j g) k) (n3+k) (fr 2)) fs.length ow ?_ ?_ ?_
   ·have K:uh (exS V (X3 fs i h j g) 0) (n3+0) o:=by rw[lE];exact f
    clear m;simp only[go_sem,zQ,zS,zF,F,A,G,I,p,z];exact K
   ·clear m f F A G I p z N fr;rintro k fr J hk ak a9 ⟨F,G,I,p,z,a0,u,f⟩;subst u;obtain⟨o,A⟩:∃o,fr 2=o:=⟨_,rfl⟩;rw[A]at f;have Z:=QT Q X hk;have bb:=bs5 (i:Int) (h:Int) (j:Int) (g:Int) (k:Int);have W:=br (row:=3) (facts:=[(i:Int),(h:Int),(j:Int),(g:Int),(k:Int)]) f ow (ye.mk .full) (by simp) (by simp);have y:jr fs j k=false->uh (exS V (X3 fs i h j g) (k+1)) (n3+(k+1)) o:=λe=>f.none (λv q=>by rw[X3,e]at q;cases q.1) ow
    have M:jr fs j k=true->∀r,uh (λv=>exS V (X3 fs i h j g) k v\/v= ⟨3,wa [(i:Int),(h:Int),(j:Int),(g:Int),(k:Int)]⟩) (n3+k+1) r->uh (exS V (X3 fs i h j g) (k+1)) (n3+(k+1)) r:=λe r hr=>hr.one (λv=>by rw[X3,e];simp) ow;clear f;generalize(λv=>exS V (X3 fs i h j g) k v\/v= ⟨3,wa [(i:Int),(h:Int),(j:Int),(g:Int),(k:Int)]⟩)=R4 at *
    generalize jr fs j k=s at *
    cases s with
    |false=>
     have y:=y rfl;clear M W
     repeat' first|simp only[go_sem, *]|apply bc<;>intro C|(refine zB.mono (Z _) ?_;rintro r h ⟨u,rfl⟩)
     all_goals exact y
    |true=>
     have M:=M rfl;clear y
     repeat' first|simp only[go_sem, *]|apply bc<;>intro C|(refine zB.mono (Z _) ?_;rintro r h ⟨u,rfl⟩)|(refine zB.mono (W _) ?_;rintro r h ⟨bs,hr⟩)
     all_goals exact M _ hr
   ·clear f F A G I p z N fr;rintro fr J ak ⟨F,G,I,p,z,a0,u,f⟩;subst u;obtain⟨o,A⟩:∃o,fr 2=o:=⟨_,rfl⟩;rw[A]at f;have m:=m _ f;clear f
    repeat' first|simp only[go_sem, *]|apply bc<;>intro C
    all_goals exact m
  ·clear f F A G I p fr;rintro fr J ai ⟨F,G,I,p,z,u,f⟩;subst u;obtain⟨o,A⟩:∃o,fr 2=o:=⟨_,rfl⟩;rw[A]at f;have m:=m _ f;clear f
   repeat' first|simp only[go_sem, *]|apply bc<;>intro C
   all_goals exact m
 ·clear f;rintro fr H ec ⟨F,G,I,p,u,f⟩;subst u;obtain⟨o,A⟩:∃o,fr 2=o:=⟨_,rfl⟩;rw[A]at f;have hQ:=w _ f;clear f w
  repeat' first|simp only[go_sem, *]|apply bc<;>intro C
  all_goals exact hQ
section
variable(c:Cat)(fs:List Fac)(y:Cho)(os:List (List UInt8))
def tsR(i:Nat):List Trm:=aX (alS fs y) i
def Uu(i:Nat):List UInt8:=RF os y (tX fs i)
def Z9(i k:Nat)(v:Vio):Prop:=(jr fs i k&& !(Uu fs y os i== [])&&decide (cK (λx=>x==Uu fs y os i) (Y6 fs i)<0))=true/\v= ⟨4,wa [(i:Int),(k:Int)]⟩
def Uw(i:Nat)(v:Vio):Prop:=(tL fs i==3)=true/\∃k,k<fs.length/\Z9 fs y os i k v
def WF(i:Nat):Bool:=tL fs i==2&&(c.ls.length:Int)==0
def IS(i j k:Nat)(v:Vio):Prop:=(Nv fs i j&&jr fs j k)=true/\∃z∈nM c (tsR fs y i) (oW fs k) (sJ fs j),Rx fs (Uu fs y os j) i j k z.duty z.list v
def Gd(i j:Nat)(v:Vio):Prop:=∃k,k<fs.length/\IS c fs y os i j k v
def Bk(i:Nat)(v:Vio):Prop:=∃j,j<fs.length/\Gd c fs y os i j v
def ApH(i h:Nat)(v:Vio):Prop:=(tL fs h==1)=true/\(d7 c (tsR fs y i) (tsR fs y h)=true/\∃j,j<fs.length/\dY fs i h j v)
def LX(i:Nat):Bool:=tL fs i==1&& !(((tsR fs y i).length:Int)==0)
def Pd(i:Nat)(v:Vio):Prop:=(Uw fs y os i v\/(WF c fs i=true/\v= ⟨5,wa [(i:Int)]⟩))\/(LX fs y i=true/\(Bk c fs y os i v\/∃t,t<fs.length-i/\ApH c fs y i (i+t) v))
end
theorem J5{c:Cat}{fs:List Fac}{y:Cho}{p:Bool}(h:qR c fs y p=0):(wZ c fs).2.1=(yn y fs fs.length).outs:=by grind [qR,wZ,cC,uC,gv]
theorem zIz(h:Heap):HLe Heap.emp h=True:=eq_true λi a e=>by cases e
def FA(x ca cb ce cp ta oa od td:D)(i:Nat)(fr:Frm):Prop:=fr 1=x/\fr 3=.iptr [ca,cb,ce,cp] 0/\fr 5=.iptr [ta,oa] 0/\fr 8=od/\fr 10=td/\fr 12=.int .i64 (i:Int)
@[go_sem] theorem zJu(x ca cb ce cp ta oa od td:D)(i:Nat)(fr:Frm):FA x ca cb ce cp ta oa od td i fr=(fr 1=x/\fr 3=.iptr [ca,cb,ce,cp] 0/\fr 5=.iptr [ta,oa] 0/\fr 8=od/\fr 10=td/\fr 12=.int .i64 (i:Int)):=(rfl)
theorem bA3(a b d:Int):wO prog 133 [(0,.int .i64 a),(1,.int .i64 b),(2,.int .i64 d)]=some (.agg [.int .i64 a,.int .i64 b,.int .i64 d]):=by
 simp[wO,IM,Q5,Pk,pj,tp,uG,D.cells,D.notTuple]
theorem A3{c:Cat}{d x z:D}(I:uM c d)(hs:c.Sm)(cc:c.cs.length<=128){fs:List Fac}(hx:ye 12 (dj fs) x)(cf:fs.length<=16)(b5:∀f∈fs,f.Ok)(b9:∀f∈fs,f.e.size<=120){y:Cho}(hy:ZR y z)(B:y.Sm){os:List (List UInt8)}(dt:(wZ c fs).2.1=os)(ds:os.length<=1048576)(c4:os.length=y.own.length)(c0:lH fs fs.length<=y.ts.length)(cg:∀i,(tsR fs y i).length<=64)(g:Heap):
  zB prog 25 [d,x,z] g λr h'=>h'=g/\uh (λv=>∃i,i<fs.length/\Pd c fs y os i v) 605028624 r:=by
 have c7:=TO I hs hx ow b5 b9;have X:=QS hx ow hy B c0;have ea:=rh hx;have F:=λ{od} (ho:ye 1 (uH os) od)=>Dg ho ds hy c4;have N:=λ{ts:List Trm} {ad:D} (ha:ye 2 (wW ts) ad) (hl:ts.length<=64) {P:Vio->Prop} {n:Nat} {l:D} (w:uh P n l) (hn:n<=1073000000) (own:List UInt8) {i j k:Nat} (hi:i<fs.length) (hj:j<fs.length) (hk:k<fs.length)=>A9 I hs cc hx cf b5 ha hl w hn own hi hj hk
 have Q:=λ{a b:List Trm} {ad bd:D} (ha:ye 2 (wW a) ad) (bx:a.length<=64) (O:ye 2 (wW b) bd) (di:b.length<=64) {P:Vio->Prop} {n:Nat} {l:D} (w:uh P n l) (hn:n<=1073700000) {i h:Nat} (hi:i<fs.length) (hh:h<fs.length)=>HG I hs hx cf ha bx O di w hn hi hh;obtain⟨ta,oa,rfl,_,_⟩:=hy;obtain⟨ca,cb,ce,cp,rfl,dk,_,_,_⟩:=I;have ee:=pK dk;have hQ:∀r,uh (exS (λ_=>False) (Pd c fs y os) fs.length) (37814289*fs.length) r->uh (λv=>∃i,i<fs.length/\Pd c fs y os i v) 605028624 r:=λr hr=>hr.congr (λv=>by simp[exS]) ow;generalize(λv=>∃i,i<fs.length/\Pd c fs y os i v)=RR at *
 refine z5 zKG ?_;simp only[f25,zA]
 repeat' first|simp only[go_sem, *]|apply bc<;>intro I
 refine(c7 _).mono ?_;rintro r h ⟨G,ts,tq,od,rfl,_,_,_,b4⟩;subst G;rw[dt]at b4
 repeat' first|simp only[go_sem, *]|apply bc<;>intro I
 refine(X _).mono ?_;rintro td h ⟨G,al,b6,bx,cm,cl⟩;subst G;have F:=F b4.isSl;have cw:=tf b6.isSl;have hA:∀i,i<fs.length->∃ad,yP prog 30 td (.int .i64 (i:Int))=some (.iptr [ad] 0)/\ye 2 (wW (tsR fs y i)) ad:=λi hi=>by
  have b0:i<al.length:=ow;refine⟨_,ru b6.isSl b0,?_⟩;have:=cl _ (zG b0)
  rwa [cm i b0]at this
 clear c7 X cw b6 bx cm cl b4
 rename Heap=>g
 have U:uh (exS (λ_=>False) (Pd c fs y os) 0) (37814289*0) .nilsl:=by
  rw[lE];exact⟨[],.inl ⟨rfl,rfl⟩,.nil,λx=>⟨λq=>(by cases q),λq=>q.elim⟩,zD _,λv w=>by cases w⟩
 repeat' first|simp only[go_sem, *]|apply bc<;>intro I
 refine zV (λi fr h=>FA x ca cb ce cp ta oa od td i fr/\g=h/\uh (exS (λ_=>False) (Pd c fs y os) i) (37814289*i) (fr 11)) fs.length ow ?_ ?_ ?_
 ·clear hQ F N Q;simp only[go_sem,zQ,zS,zF];exact U
 ·clear hQ U;rintro i fr h hi ec ew ⟨⟨J,K,L,M,C,E⟩,G,w⟩;subst G;obtain⟨o,p⟩:∃o,fr 11=o:=⟨_,rfl⟩;rw[p]at w;have H:∀{r m},m<=37814289*i+37814289->uh (λv=>exS (λ_=>False) (Pd c fs y os) i v\/Pd c fs y os i v) m r->uh (exS (λ_=>False) (Pd c fs y os) (i+1)) (37814289*(i+1)) r:=λhm hr=>by rw[<-fK];exact hr.congr (λv=>Iff.rfl) ow
  have du:37814289*i<=610000000:=ow;generalize exS (λ_=>False) (Pd c fs y os) (i+1)=P9 at *
  generalize exS (λ_=>False) (Pd c fs y os) i=P0 at *
  generalize 37814289*(i+1)=n9 at *
  generalize 37814289*i=R at *
  have a1:=wR hx hi;obtain⟨b1,d0,ba⟩:=hA i hi;have ab:=sg hi;have W:tX fs i=fs[i].out:=lJ hi;have X:Y6 fs i=fs[i].list:=by unfold Y6;rw[zE hi]
  have ai:=b5 _ (zG hi);refine tH (λfr h=>FA x ca cb ce cp ta oa od td i fr/\g=h/\fr 11=o) ?_ ?_
  ·clear H w F N Q;exact au
  clear J K L M C p E fr;rintro fr h ⟨⟨J,K,L,M,C,E⟩,G,p⟩;subst G;rw[rV,Xt];refine tH (λfr h=>FA x ca cb ce cp ta oa od td i fr/\g=h/\uh (λv=>P0 v\/Uw fs y os i v) (R+16) (fr 11)) ?_ ?_
  ·clear H N Q;have F:=F (tX fs i);have T:RF os y (tX fs i)=Uu fs y os i:=rfl;rw[T,W]at F;obtain⟨b,O⟩:∃b,(tL fs i==3)=b:=⟨_,rfl⟩;have A:b=false->uh (λv=>P0 v\/Uw fs y os i v) (R+16) o:=λe=>w.congr (λv=>⟨.inl,λq=>q.elim id λq=>by rw[Uw,O,e]at q;cases q.1⟩) ow;have B:b=true->∀r,uh (exS P0 (Z9 fs y os i) fs.length) (R+fs.length) r->uh (λv=>P0 v\/Uw fs y os i v) (R+16) r:=λe r hr=>hr.congr (λv=>tN (by rw[Uw,O,e];simp)) ow;rw[ab]at O;clear W T;have a7:=Zi ai.list ai.ll (Uu fs y os i)
   have ag:∀k,Z9 fs y os i k=λv=>(jr fs i k&& !(Uu fs y os i== [])&&decide (cK (λx=>x==Uu fs y os i) fs[i].list<0))=true/\v= ⟨4,wa [(i:Int),(k:Int)]⟩:=λk=>by funext v;unfold Z9;rw[X]
   clear X ai ab;generalize(λv=>P0 v\/Uw fs y os i v)=P1 at *
   generalize fs[i]=fi at *
   simp only[Fac.cells,Ex.cells]at a1;generalize Uu fs y os i=own at *
   cases b with
   |false=>
    have A:=A rfl;clear B F ag a7
    repeat' first|simp only[go_sem, *]|apply bc<;>intro I
    all_goals exact A
   |true=>
    have B:=B rfl;clear A
    repeat' first|simp only[go_sem, *]|apply bc<;>intro I
    refine qD Heap.emp [(1,.no,false),(0,.no,false),(2,.no,false),(3,.no,false),(4,.no,false),(5,.no,false),(6,.no,false),(7,.no,false),(8,.no,false)] kr kr (λi ob e=>by cases e) ?_
    repeat' first|simp only[go_sem, *]|apply bc<;>intro I|(refine zB.mono (F _) ?_;rintro r h ⟨G,rfl⟩)
    subst G
    rename Heap=>g
    clear F;generalize cK (λx=>x==own) fi.list=ix at *
    refine zV (λk fr h=>FA x ca cb ce cp ta oa od td i fr/\fr 13=.str own/\fr 14=.int .i64 (k:Int)/\g=h/\uh (exS P0 (Z9 fs y os i) k) (R+k) (fr 11)) fs.length ow ?_ ?_ ?_
    ·have U:uh (exS P0 (Z9 fs y os i) 0) (R+0) o:=by rw[lE];exact w
     clear B ag a7;simp only[go_sem,zQ,zS,zF,J,K,L,M,C,p,E];exact U
    ·clear B w J K L M C p E fr;rintro k fr h hk a9 c9 ⟨⟨J,K,L,M,C,E⟩,da,db,G,w⟩;subst G;obtain⟨o,p⟩:∃o,fr 11=o:=⟨_,rfl⟩;rw[p]at w;have ak:=QT hx hi hk;have d2:=bs2 (i:Int) (k:Int);have Z:=br (row:=4) (facts:=[(i:Int),(k:Int)]) w ow (ye.mk .full) (by simp) (by simp);have ag:=ag k;generalize jr fs i k=s at *
     obtain⟨b,O⟩:∃b,(s&& !(own== [])&&decide (ix<0))=b:=⟨_,rfl⟩;rw[O]at ag;have A:b=false->uh (exS P0 (Z9 fs y os i) (k+1)) (R+(k+1)) o:=λe=>w.none (λv q=>by rw[ag,e]at q;cases q.1) ow;have B:b=true->∀r,uh (λv=>exS P0 (Z9 fs y os i) k v\/v= ⟨4,wa [(i:Int),(k:Int)]⟩) (R+k+1) r->uh (exS P0 (Z9 fs y os i) (k+1)) (R+(k+1)) r:=λe r hr=>hr.one (λv=>by rw[ag,e];simp) ow;clear w ag;generalize(λv=>exS P0 (Z9 fs y os i) k v\/v= ⟨4,wa [(i:Int),(k:Int)]⟩)=R4 at *
     generalize exS P0 (Z9 fs y os i) (k+1)=R5 at *
     cases s with
     |false=>
      have A:=A (by rw[<-O];rfl);clear B Z O
      repeat' first|simp only[go_sem, *]|apply bc<;>intro I|(refine zB.mono (ak _) ?_;rintro r h ⟨G,rfl⟩)
      all_goals exact A
     |true=>
     cases h3:(own== [])with
     |true=>
      have A:=A (by rw[<-O,h3];rfl);clear B Z O
      repeat' first|simp only[go_sem, *]|apply bc<;>intro I|(refine zB.mono (ak _) ?_;rintro r h ⟨G,rfl⟩)
      all_goals exact A
     |false=>
     cases h4:decide (ix<0)with
     |false=>
      have A:=A (by rw[<-O,h3,h4];rfl);clear B Z O
      repeat' first|simp only[go_sem, *]|apply bc<;>intro I|(refine zB.mono (ak _) ?_;rintro r h ⟨G,rfl⟩)|(refine zB.mono (a7 _) ?_;rintro r h ⟨V,rfl⟩)
      all_goals exact A
     |true=>
      have B:=B (by rw[<-O,h3,h4];rfl);clear A O
      repeat' first|simp only[go_sem, *]|apply bc<;>intro I|(refine zB.mono (ak _) ?_;rintro r h ⟨G,rfl⟩)|(refine zB.mono (a7 _) ?_;rintro r h ⟨V,rfl⟩)|(refine zB.mono (Z _) ?_;rintro r h ⟨eb,hr⟩)
      all_goals exact B _ hr
    ·clear w J K L M C p E fr;rintro fr h a9 ⟨⟨J,K,L,M,C,E⟩,da,db,G,w⟩;subst G;obtain⟨o,p⟩:∃o,fr 11=o:=⟨_,rfl⟩;rw[p]at w;have B:=B _ w;clear w
     repeat' first|simp only[go_sem, *]|apply bc<;>intro I
     all_goals exact B
  clear J K L M C p E w fr o;rintro fr h ⟨⟨J,K,L,M,C,E⟩,G,w⟩;subst G;obtain⟨o,p⟩:∃o,fr 11=o:=⟨_,rfl⟩;rw[p]at w;obtain⟨P1,a4⟩:∃P1:Vio->Prop,(λv=>P0 v\/Uw fs y os i v)=P1:=⟨_,rfl⟩;rw[a4]at w;refine tH (λfr h=>FA x ca cb ce cp ta oa od td i fr/\g=h/\uh (λv=>P1 v\/(WF c fs i=true/\v= ⟨5,wa [(i:Int)]⟩)) (R+17) (fr 11)) ?_ ?_
  ·clear H N Q F a4;obtain⟨b,O⟩:∃b,WF c fs i=b:=⟨_,rfl⟩;have A:b=false->uh (λv=>P1 v\/(WF c fs i=true/\v= ⟨5,wa [(i:Int)]⟩)) (R+17) o:=λe=>w.skip (by rw[O,e]);have B:b=true->∀r,uh (λv=>P1 v\/v= ⟨5,wa [(i:Int)]⟩) (R+16+1) r->uh (λv=>P1 v\/(WF c fs i=true/\v= ⟨5,wa [(i:Int)]⟩)) (R+17) r:=λe r hr=>hr.put (by rw[O,e]);have Z:=br (row:=5) (facts:=[(i:Int)]) w ow (ye.mk .full) (by simp) (by simp);have cu:=bs1 (i:Int);generalize(λv=>P1 v\/(WF c fs i=true/\v= ⟨5,wa [(i:Int)]⟩))=R4 at *
   unfold WF at O;rw[ab]at O;clear ab W X ai w;generalize fs[i]=fi at *
   simp only[Fac.cells,Ex.cells]at a1;cases k1:(fi.kind==2)with
   |false=>
    have A:=A (by rw[<-O,k1];rfl);clear B Z O
    repeat' first|simp only[go_sem, *]|apply bc<;>intro I
    all_goals exact A
   |true=>
   cases k2:((c.ls.length:Int)==0)with
   |false=>
    have A:=A (by rw[<-O,k1,k2];rfl);clear B Z O
    repeat' first|simp only[go_sem, *]|apply bc<;>intro I
    all_goals exact A
   |true=>
    have B:=B (by rw[<-O,k1,k2];rfl);clear A O
    repeat' first|simp only[go_sem, *]|apply bc<;>intro I|(refine zB.mono (Z _) ?_;rintro r h ⟨G,hr⟩)
    all_goals exact B _ hr
  clear J K L M C p E w fr o;rintro fr h ⟨⟨J,K,L,M,C,E⟩,G,w⟩;subst G;obtain⟨o,p⟩:∃o,fr 11=o:=⟨_,rfl⟩;rw[p]at w;obtain⟨P2,a6⟩:∃P2:Vio->Prop,(λv=>P1 v\/(WF c fs i=true/\v= ⟨5,wa [(i:Int)]⟩))=P2:=⟨_,rfl⟩;rw[a6]at w;have S:LX fs y i=false->uh P9 n9 o:=λe=>H (m:=R+17) ow (w.congr (λv=>by
   rw[<-a6,<-a4,Pd,e];simp only[zW,false_and,lI,bG]) ow)
  replace H:LX fs y i=true->∀{r m},m<=R+37814289->uh (λv=>(P2 v\/Bk c fs y os i v)\/∃t,t<fs.length-i/\ApH c fs y i (i+t) v) m r->uh P9 n9 r:=λe r m hm hr=>H hm (hr.congr (λv=>by
   rw[<-a6,<-a4,Pd,e];simp only[zQ,bG]) (zD _))
  clear a4 a6;rw[rV,rV];refine rz (λfr h=>FA x ca cb ce cp ta oa od td i fr/\g=h/\fr 11=o/\fr 106=.bool (!LX fs y i)) ?_ ?_
  ·clear H S N Q F w;unfold LX;rw[ab];have d5:=wT ba;clear ab W X ai;generalize fs[i]=fi at *
   simp only[Fac.cells,Ex.cells]at a1;cases k1:(fi.kind==1)with
   |false=>
    repeat' first|simp only[go_sem, *]|apply bc<;>intro I
   |true=>
   cases k2:(((tsR fs y i).length:Int)==0)with
   |_=>
    exact au
  clear J K L M C p E fr;rintro fr h ⟨⟨J,K,L,M,C,E⟩,G,p,Y⟩;subst G;cases a8:LX fs y i with
  |false=>
   rw[a8]at Y;have S:=S a8;clear H N Q F w
   repeat' first|simp only[go_sem, *]|apply bc<;>intro I
   all_goals exact S
  |true=>
  rw[a8]at Y;replace H:=λ{r m} =>H a8 (r:=r) (m:=m);clear S;refine Xu (by rw[Y];rfl) ?_;have c6:=cg i;refine tH (λfr h=>FA x ca cb ce cp ta oa od td i fr/\g=h/\uh (λv=>P2 v\/Bk c fs y os i v) (R+17+37748736) (fr 11)) ?_ ?_
  ·clear H Q Y ab W X ai a1;have a5:∀r,uh (exS P2 (Gd c fs y os i) fs.length) (R+17+2359296*fs.length) r->uh (λv=>P2 v\/Bk c fs y os i v) (R+17+37748736) r:=λr hr=>hr.congr (λv=>Iff.rfl) ow;generalize(λv=>P2 v\/Bk c fs y os i v)=P3 at *
   repeat' first|simp only[go_sem, *]|apply bc<;>intro I
   refine zV (λj fr h=>FA x ca cb ce cp ta oa od td i fr/\fr 15=.int .i64 (j:Int)/\g=h/\uh (exS P2 (Gd c fs y os i) j) (R+17+2359296*j) (fr 11)) fs.length ow ?_ ?_ ?_
   ·have U:uh (exS P2 (Gd c fs y os i) 0) (R+17+2359296*0) o:=by rw[lE];exact w
    clear a5 F N;simp only[go_sem,zQ,zS,zF,J,K,L,M,C,p,E];exact U
   ·clear a5 w J K L M C p E fr;rintro j fr h hj c8 dv ⟨⟨J,K,L,M,C,E⟩,a0,G,w⟩;subst G;obtain⟨o,p⟩:∃o,fr 11=o:=⟨_,rfl⟩;rw[p]at w;have a2:∀r,uh (exS (exS P2 (Gd c fs y os i) j) (IS c fs y os i j) fs.length) (R+17+2359296*j+147456*fs.length) r->uh (exS P2 (Gd c fs y os i) (j+1)) (R+17+2359296*(j+1)) r:=λr hr=>hr.more (λv=>Iff.rfl) ow;have b3:R+17+2359296*j<=650000000:=ow;generalize exS P2 (Gd c fs y os i) (j+1)=P5 at *
    generalize exS P2 (Gd c fs y os i) j=P4 at *
    obtain⟨n4,c2⟩:∃n4,n4=R+17+2359296*j:=⟨_,rfl⟩;rw[<-c2]at w a2 b3;clear c2
    repeat' first|simp only[go_sem, *]|apply bc<;>intro I
    refine zV (λk fr h=>FA x ca cb ce cp ta oa od td i fr/\fr 15=.int .i64 (j:Int)/\fr 16=.int .i64 (k:Int)/\g=h/\uh (exS P4 (IS c fs y os i j) k) (n4+147456*k) (fr 11)) fs.length ow ?_ ?_ ?_
    ·have U:uh (exS P4 (IS c fs y os i j) 0) (n4+147456*0) o:=by rw[lE];exact w
     clear a2 F N;simp only[go_sem,zQ,zS,zF,J,K,L,M,C,p,E,a0];exact U
    ·clear a2 w J K L M C p E a0 fr;rintro k fr h hk a9 c9 ⟨⟨J,K,L,M,C,E⟩,a0,dd,G,w⟩;subst G;obtain⟨o,p⟩:∃o,fr 11=o:=⟨_,rfl⟩;rw[p]at w;have b7:=L9 hx hi hj;have ak:=QT hx hj hk;have F:=F (tX fs j);have T:RF os y (tX fs j)=Uu fs y os j:=rfl;rw[T]at F;have a3:=wR hx hj;have c3:tX fs j=fs[j].out:=lJ hj;rw[c3]at F;have h1:=N ba c6 w ow (Uu fs y os j) hi hj hk;have bk:IS c fs y os i j k=λv=>(Nv fs i j&&jr fs j k)=true/\∃z∈nM c (tsR fs y i) (oW fs k) (sJ fs j),Rx fs (Uu fs y os j) i j k z.duty z.list v:=rfl
     have A:(Nv fs i j&&jr fs j k)=false->uh (exS P4 (IS c fs y os i j) (k+1)) (n4+147456*(k+1)) o:=λe=>w.none (λv q=>by rw[bk,e]at q;cases q.1) ow;have B:(Nv fs i j&&jr fs j k)=true->∀r,uh (λv=>exS P4 (IS c fs y os i j) k v\/∃z∈nM c (tsR fs y i) (oW fs k) (sJ fs j),Rx fs (Uu fs y os j) i j k z.duty z.list v) (n4+147456*k+147456) r->uh (exS P4 (IS c fs y os i j) (k+1)) (n4+147456*(k+1)) r:=λe r hr=>by
      rw[<-fK];exact hr.congr (λv=>tN (by rw[bk,e];simp)) ow
     have d3:=bA3 (i:Int) (j:Int) (k:Int);clear w bk N T c3;generalize(λv=>exS P4 (IS c fs y os i j) k v\/∃z∈nM c (tsR fs y i) (oW fs k) (sJ fs j),Rx fs (Uu fs y os j) i j k z.duty z.list v)=R4 at *
     generalize exS P4 (IS c fs y os i j) (k+1)=R5 at *
     generalize fs[j]=fj at *
     simp only[Fac.cells,Ex.cells]at a3;generalize Uu fs y os j=own at *
     generalize Nv fs i j=u at *
     generalize jr fs j k=s at *
     cases u with
     |false=>
      have A:=A rfl;clear B h1 F
      repeat' first|simp only[go_sem, *]|apply bc<;>intro I|(refine zB.mono (b7 _) ?_;rintro r h ⟨G,rfl⟩)
      all_goals exact A
     |true=>
     cases s with
     |false=>
      have A:=A rfl;clear B h1 F
      repeat' first|simp only[go_sem, *]|apply bc<;>intro I|(refine zB.mono (b7 _) ?_;rintro r h ⟨G,rfl⟩)|(refine zB.mono (ak _) ?_;rintro r h ⟨V,rfl⟩)
      all_goals exact A
     |true=>
      have B:=B rfl;clear A
      repeat' first|simp only[go_sem, *]|apply bc<;>intro I|(refine zB.mono (b7 _) ?_;rintro r h ⟨G,rfl⟩)|(refine zB.mono (ak _) ?_;rintro r h ⟨V,rfl⟩)
      refine qD Heap.emp [(0,.st,true),(4,.no,true),(1,.no,true),(2,.no,true),(3,.no,true),(5,.no,true),(6,.no,true),(7,.no,true),(8,.no,true),(9,.no,true),(11,.no,true),(12,.no,true),(13,.no,true),(14,.st,true),(15,.no,true),(16,.no,true),(17,.no,true),(18,.no,true),(10,.no,true),(19,.no,true),(20,.no,true)] kr kr (λi ob e=>by cases e) ?_;have d6:=zIz
      repeat' first|simp only[go_sem, *]|apply bc<;>intro I|(refine zB.mono (F _) ?_;rintro r h ⟨G,rfl⟩)|(refine zB.mono (h1 _) ?_;rintro r h ⟨V,hr⟩)
      all_goals exact B _ hr
    ·clear w J K L M C p E a0 fr;rintro fr h a9 ⟨⟨J,K,L,M,C,E⟩,a0,dd,G,w⟩;subst G;obtain⟨o,p⟩:∃o,fr 11=o:=⟨_,rfl⟩;rw[p]at w;have a2:=a2 _ w;clear w N F
     repeat' first|simp only[go_sem, *]|apply bc<;>intro I
     all_goals exact a2
   ·clear w J K L M C p E fr;rintro fr h c8 ⟨⟨J,K,L,M,C,E⟩,a0,G,w⟩;subst G;obtain⟨o,p⟩:∃o,fr 11=o:=⟨_,rfl⟩;rw[p]at w;have a5:=a5 _ w;clear w N F
    repeat' first|simp only[go_sem, *]|apply bc<;>intro I
    all_goals exact a5
  clear J K L M C p E Y w fr o;rintro fr h ⟨⟨J,K,L,M,C,E⟩,G,w⟩;subst G;obtain⟨o,p⟩:∃o,fr 11=o:=⟨_,rfl⟩;rw[p]at w;obtain⟨P3,bs⟩:∃P3:Vio->Prop,(λv=>P2 v\/Bk c fs y os i v)=P3:=⟨_,rfl⟩;rw[bs]at w;obtain⟨n3,c1⟩:∃n3,n3=R+17+37748736:=⟨_,rfl⟩;rw[<-c1]at w;have H:∀r,uh (exS P3 (λt=>ApH c fs y i (i+t)) (fs.length-i)) (n3+4096*(fs.length-i)) r->uh P9 n9 r:=λr hr=>H (m:=n3+4096*(fs.length-i)) ow (hr.congr (λv=>by rw[<-bs];rfl) (zD _));have dr:n3<=650000000:=ow;clear bs c1 N F ab W X ai a1
  repeat' first|simp only[go_sem, *]|apply bc<;>intro I
  refine zV (λt fr h=>FA x ca cb ce cp ta oa od td i fr/\fr 17=.int .i64 ((i+t:Nat):Int)/\g=h/\uh (exS P3 (λt=>ApH c fs y i (i+t)) t) (n3+4096*t) (fr 11)) (fs.length-i) ow ?_ ?_ ?_
  ·have U:uh (exS P3 (λt=>ApH c fs y i (i+t)) 0) (n3+4096*0) o:=by rw[lE];exact w
   have d4:i+0=i:=rfl;clear H Q;simp only[go_sem,zQ,zS,zF,J,K,L,M,C,p,E];exact⟨rfl,U⟩
  ·clear H w J K L M C p E fr;rintro t fr h ht _ _ ⟨⟨J,K,L,M,C,E⟩,b8,G,w⟩;subst G;obtain⟨o,p⟩:∃o,fr 11=o:=⟨_,rfl⟩;rw[p]at w;obtain⟨q,G⟩:∃q,i+t=q:=⟨_,rfl⟩;have V:q<fs.length:=ow;have cu:decide ((q:Int)<(fs.length:Int))=true:=zN ow;have ed:IntKind.i64.wrap ((q:Int)+1)=((q+1:Nat):Int):=by rw[qE ow ow];omega
   have c5:i+(t+1)=q+1:=ow;obtain⟨b2,d1,ch⟩:=hA q V;have h1:=Q ba c6 ch (cg q) w ow hi V;have cv:=sg V;have a3:=wR hx V;have bb:∀v,ApH c fs y i (i+t) v↔(tL fs q==1)=true/\(d7 c (tsR fs y i) (tsR fs y q)=true/\∃j,j<fs.length/\dY fs i q j v):=λv=>by rw[G];exact Iff.rfl
   rw[G]at b8;have A:(tL fs q==1)=false->uh (exS P3 (λt=>ApH c fs y i (i+t)) (t+1)) (n3+4096*(t+1)) o:=λe=>w.none (λv q0=>by have q0:=(bb v).1 q0;rw[e]at q0;cases q0.1) ow;have B:(tL fs q==1)=true->∀r,uh (λv=>exS P3 (λt=>ApH c fs y i (i+t)) t v\/(d7 c (tsR fs y i) (tsR fs y q)=true/\∃j,j<fs.length/\dY fs i q j v)) (n3+4096*t+4096) r->uh (exS P3 (λt=>ApH c fs y i (i+t)) (t+1)) (n3+4096*(t+1)) r:=λe r hr=>by
    rw[<-fK];exact hr.congr (λv=>tN (Iff.trans (by rw[e];simp) (bb v).symm)) ow
   rw[c5];clear w bb Q G c5 hA ch;generalize(λv=>exS P3 (λt=>ApH c fs y i (i+t)) t v\/(d7 c (tsR fs y i) (tsR fs y q)=true/\∃j,j<fs.length/\dY fs i q j v))=R4 at *
   generalize exS P3 (λt=>ApH c fs y i (i+t)) (t+1)=R5 at *
   rw[cv]at A B;clear cv;generalize fs[q]=fq at *
   simp only[Fac.cells,Ex.cells]at a3;cases k1:(fq.kind==1)with
   |false=>
    have A:=A k1;clear B h1
    repeat' first|simp only[go_sem, *]|apply bc<;>intro I
    all_goals exact A
   |true=>
    have B:=B k1;clear A
    repeat' first|simp only[go_sem, *]|apply bc<;>intro I
    refine zd kr ?_
    repeat' first|simp only[go_sem, *]|apply bc<;>intro I|(refine zB.mono (h1 _) ?_;rintro r h ⟨V,hr⟩)
    all_goals exact B _ hr
  ·clear w J K L M C p E fr;rintro fr h _ ⟨⟨J,K,L,M,C,E⟩,b8,G,w⟩;subst G;obtain⟨o,p⟩:∃o,fr 11=o:=⟨_,rfl⟩;rw[p]at w;have cu:decide (((i+(fs.length-i):Nat):Int)<(fs.length:Int))=false:=zO ow;have H:=H _ w;clear w Q
   repeat' first|simp only[go_sem, *]|apply bc<;>intro I
   all_goals exact H
 ·rintro fr h ec ⟨⟨J,K,L,M,C,E⟩,G,w⟩;subst G;obtain⟨o,p⟩:∃o,fr 11=o:=⟨_,rfl⟩;rw[p]at w;have hQ:=hQ _ w;clear w Q N F U
  repeat' first|simp only[go_sem, *]|apply bc<;>intro I
  all_goals exact hQ
structure Emb(fs gs:List Fac)(f:Nat->Nat):Prop where
 get:∀j,j<gs.length->gs[j]? =fs[f j]?
 mono:∀i j,i<j->j<gs.length->f i<f j
section
variable{c:Cat}{fs gs:List Fac}{f:Nat->Nat}{al al':Nat->Option Alt}{O O':KV}(E:Emb fs gs f)
include E
end
section
variable{fs:List Fac}{I:List Nat}
def Ck(y:Cho)(outs:List (List UInt8))(o:List UInt8):Option (List UInt8):=
 if o∈outs/\fx y (outs.findIdx λz=>z==o)≠[]then some (fx y (outs.findIdx λz=>z==o))else none
theorem Np{y:Cho} :∀k,k<=fs.length->∀o,o5 o (yn y fs k).O=Ck y (yn y fs k).outs o
 |0,_,o=>by simp[yn,Ck,o5]
 |k+1,l,o=>by
  have d:=Np (y:=y) k ow;have g:k<fs.length:=ow;rw[mc g];split
  ·split<;>exact d o
  split
  ·split
   ·exact d o
   ·rename_i f;have f:fs[k].out∉(yn y fs k).outs:=λc=>f (yZ.2 ⟨_,c,by simp⟩);generalize(yn y fs k).outs=a at *
    generalize(yn y fs k).O=O at *
    generalize fs[k].out=s at *
    show o5 o (if(!(fx y a.length== []))=true then dp s (fx y a.length) O else O)=Ck y (a++ [s]) o
    have i:(a++ [s]).findIdx (λz=>z==s)=a.length:=by
     rw[dU]
     have:a.findIdx (λz=>z==s)=a.length:=List.findIdx_eq_length.2 λz j=>by
      have:z≠s:=λe=>f (e▸j);simpa using this
     rw[iq ow];simp[List.findIdx_cons]
    have h:o∈a->(a++ [s]).findIdx (λz=>z==o)=a.findIdx (λz=>z==o):=λc=>by
     rw[dU];rw[ip (List.findIdx_lt_length.2 ⟨o,c,by simp⟩)]
    have b:∀v,o5 o (dp s v O)=if o=s then some v else o5 o O:=λv=>by
     rw[Tt];by_cases e:o=s
     ·rw[ip e,ip (by simpa using e)]
     ·rw[iq e,iq (by simpa using e)]
    by_cases e:o=s
    ·subst e;unfold Ck;rw[i];by_cases q:fx y a.length= []
     ·rw[iq (by simp[q]),iq (by simp[q]),d o,Ck,iq (by simp[f])]
     ·rw[ip (by simpa using q),b,ip rfl,ip ⟨by simp,q⟩]
    ·have h1:o5 o (if(!(fx y a.length== []))=true then dp s (fx y a.length) O else O)=o5 o O:=by
      split
      ·rw[b,iq e]
      ·rfl
     rw[h1,d o];unfold Ck;by_cases c:o∈a
     ·rw[h c];simp[c]
     ·rw[iq (by simp[c]),iq (by simp[c,e])]
  ·exact d o
end
def KnT(c:Cat)(l:List Trm):Prop:=∀t∈l,nZ c t.a t.b=true
theorem Ku{c:Cat}(h0:qz c=0){x:Lic}(a:x∈c.ls):nZ c x.name []=true:=by
 unfold nZ;rw[aA h0]
 have:(c.ls.find? λz=>z.name==x.name).isSome=true:=List.find?_isSome.2 ⟨x,a,by simp⟩;rw[this];rfl
theorem K6{c:Cat}{l:List (List Trm)}(h:∀t∈l,KnT c t):∀t∈yO l,KnT c t:=λt a=>by
 obtain⟨y,b,rfl⟩:=ZD a;exact λz d=>h y b z (T7.1 d)
theorem Cn{c:Cat}{a x:List UInt8}{f:List Ex}{d:D}(hf:(Ex.mk 0 a x f d).Fit c):nZ c a x=true:=by
 have b:=hf.self.2;replace b:(if(!(a== [])&& !nZ c a x)=true then(7:Int)else 0)=0:=b
 obtain⟨_,_,_,y,h⟩ | ⟨q,_⟩:=Zm hf
 ·by_cases e:(!(a== [])&& !nZ c a x)=true
  ·rw[ip e]at b;exact absurd b (by decide)
  ·cases g:(a== [])with
   |true=>
    exfalso;have h1:=hf.self.1;replace h1:nJ 0 a x f.length=0:=h1;unfold nJ at h1
    have:a= []:=by simpa using g
    subst this;simp only[wM,qy,qG]at h1;split at h1
    ·cases h1
    ·simp[ww]at h1
   |false=>
    rw[g]at e;simpa using e
 ·omega
theorem Cp{c:Cat}(h0:qz c=0):∀n:Nat,(∀e:Ex,e.size<=n->e.Fit c->∀l,rB c e=some l->∀t∈l,KnT c t)/\
  ∀(k:Int)(b:List Ex),yt b<=n->(∀e∈b,e.Fit c)->∀(first:Bool)(out R:List (List Trm)),(∀t∈out,KnT c t)->oK c k b first out=some R->∀t∈R,KnT c t:=by
 intro n
 induction n with
 |zero=>
  refine⟨λe h=> ?_,λk b h hf first out R h1 a=> ?_⟩
  ·cases e;simp only[Ex.size]at h;omega
  ·cases b with
   |nil=>simp only[oK]at a;cases a;exact h1
   |cons e l=>cases e;simp only[yt,Ex.size]at h;omega
 |succ n p=>
  have key:∀e:Ex,e.size<=n+1->e.Fit c->∀l,rB c e=some l->∀t∈l,KnT c t:=λe h hf l f=>by
   obtain⟨k,H,x,b,d⟩:=e;simp only[Ex.size]at h;rw[rB]at f;split at f
   ·rename_i q;cases f
    have:k=0:=by simpa using q
    subst this;intro t g z m;cases zY.1 g;cases zY.1 m;exact Cn hf
   split at f
   ·split at f
    ·cases f
    ·rename_i y C;obtain⟨rfl,r⟩:=nj f;refine K6 λt g=> ?_;obtain⟨s,F,rfl⟩:=zT.1 g;intro z m;cases zY.1 m;obtain⟨w,G,rfl⟩:=zT.1 F;exact Ku h0 (pn.1 G).1
   ·split at f
    ·cases f
    ·rename_i out j;obtain⟨rfl,r⟩:=nj f;exact K6 (p.2 k b ow (λe D=>hf.kid D) true [] out (λt g=>by cases g) j)
  refine⟨key,λk b h hf first out R h1 a=> ?_⟩
  cases b with
  |nil=>simp only[oK]at a;cases a;exact h1
  |cons e b=>
   have A:0<e.size:=by cases e;simp only[Ex.size];omega
   simp only[yt]at h;rw[oK]at a;split at a
   ·cases a
   ·rename_i l f;have u:=key e ow (hf e (by simp)) l f;have i:∀e∈b,e.Fit c:=λx v=>hf x (qI _ v);split at a
    ·exact p.2 k b ow i false (out++l) R (λt g=>(yD.1 g).elim (h1 t) (u t)) a
    ·split at a
     ·exact p.2 k b ow i false l R u a
     ·split at a
      ·cases a
      ·rename_i o E;obtain⟨rfl,B⟩:=nj E;exact p.2 k b ow i false _ R (K6 λt g=>by
        obtain⟨x,v,y,C,rfl⟩:=Ws g;exact λz m=>(yD.1 m).elim (h1 x v z) (u y C z)) a
theorem zCt{c:Cat}(h0:qz c=0){e:Ex}(h:(nK c e==0)=true):∀t∈ofL c e,KnT c t:=by
 unfold nK at h;unfold ofL;split at h
 ·rename_i q;obtain⟨_,b,h3⟩:=Tb (show tT c e=0 by simpa using q);split at h
  ·rename_i l a;rw[a];exact(Cp h0 e.size).1 e (zD _) h3 l a
  ·exact absurd h (by decide)
 ·rename_i q;exact absurd h q
theorem Ub{c:Cat}(h0:qz c=0):∀{l:List Fac}{t:List (List (List Trm))}{o:List (List UInt8)},(∀a∈t,∀b∈a,KnT c b)->∀a∈(bl c l t o).1,∀b∈a,KnT c b
 | [],t,o,h=>by rw[bl];exact h
 |f::fs,t,o,h=>by
  rw[bl];split
  ·split
   ·rename_i q;exact Ub h0 λa d=>by
     rcases yD.1 d with g|g
     ·exact h a g
     ·cases zY.1 g;exact zCt h0 q
   ·intro a d;cases d
  ·split
   ·exact Ub h0 h
   ·exact Ub h0 h
theorem TS{c:Cat}{fs:List Fac}{y:Cho}{p:Bool}(h:qR c fs y p=0):qz c=0/\∀a∈y.ts,KnT c a.ts:=by
 unfold qR at h;split at h
 ·rename_i q;rw[h]at q;exact absurd q (by decide)
 ·rename_i B;have v0:(wZ c fs).2.2=0:=by simpa using B
  split at h
  ·exact absurd h (by decide)
  ·rename_i u;split at h
   ·rename_i q;rw[h]at q;exact absurd q (by decide)
   ·rename_i C;have r:ml (nk (wZ c fs).1 y.ts p) y.ts.length=0:=by simpa using C
    unfold wZ at v0 u r;by_cases k:(!((uC c fs).2==0))=true
    ·rw[ip k]at v0;rw[v0]at k;exact absurd k (by decide)
    ·rw[iq k]at v0 u r;have g:qz c=0:=Qb (by simpa using k);refine⟨g,λa m=> ?_⟩;have A:=Ub g (l:=fs) (t:=[]) (o:=[]) (λa m=>by cases m);obtain⟨i,s,rfl⟩:=yH.1 m;have:=jH r i s;unfold nk at this;rw[zE s]at this;simp only at this;by_cases j:y.ts[i].ts= []
     ·rw[j];intro t x;cases x
     have w:(((y.ts[i].ts.length:Int))==0)=false:=by
      have:=yF.2 j;simp;omega
     rw[w,qK,iq (by decide)]at this;split at this
     ·exact absurd this (by decide)
     ·rename_i q;have d:((bl c fs [] []).1.getD i []).any (λb=>cJ y.ts[i].ts b)=true:=by simpa using q
      obtain⟨b,f,v⟩:=yZ.1 d;have e:=(oX _ _).1 v;rw[e];rw[zK]at f;cases n:(bl c fs [] []).1[i]? with
      |none=>rw[n]at f;cases f
      |some z=>
       rw[n]at f;exact A z (zh n) b f
theorem NP{c:Cat}{a b:List UInt8}(h:nZ c a b=true):Ty c a b=some (kS c a b):=by
 unfold nZ at h;unfold Ty kS;simp only[zC]at h;obtain⟨h1,d⟩:=h;rw[iq (by rw[h1];decide)];split
 ·rfl
 ·rename_i q;have h3:(kM c a b).isSome=true:=by
   cases e:(b== [])with
   |true=>exact absurd e q
   |false=>rw[e]at d;simpa using d
  cases f:kM c a b with
  |none=>rw[f]at h3;cases h3
  |some x=>rfl
theorem Wg{c:Cat}{g:List Trm}(i:KnT c g)(f rel a:Int)(q:List (List UInt8)->Bool):Th c g f rel a q=true↔∃z∈nM c g f rel,z.duty=a/\q z.list=true:=by
 unfold Th nM;rw[yZ];constructor
 ·rintro⟨t,d,h⟩;unfold Cg mN at h;rw[NP (i t d)]at h;obtain⟨z,e,b⟩:=yZ.1 h;unfold Mk at b;simp only[zC,yU]at b;exact⟨z,zw.2 ⟨t,d,e⟩,b⟩
 ·rintro⟨z,e,h1,b⟩;obtain⟨t,d,e⟩:=zw.1 e;refine⟨t,d,?_⟩;unfold Cg mN;rw[NP (i t d)];refine yZ.2 ⟨z,e,?_⟩;unfold Mk;simp[h1,b]
theorem zAH{c:Cat}(h:qz c=0):∀z∈c.ps,l8 z.a z.b=true:=λz g=>by
 have e:c.e4=0:=by
  unfold qz at h
  (repeat' split at h)<;>first
   |exact h
   |(exfalso;revert h;decide)
   |(rename_i q;rw[h]at q;exact absurd q (by decide))
   |(rename_i q _;rw[h]at q;exact absurd q (by decide))
 obtain⟨i,d,rfl⟩:=yH.1 g;have:=jH e i d;rw[dE d]at this;unfold nR at this;split at this
 ·cases this
 ·split at this
  ·cases this
  ·rename_i q;cases f:l8 c.ps[i].a c.ps[i].b with
   |true=>rfl
   |false=>rw[f]at q;simp at q
theorem E9{c:Cat}(h:qz c=0)(x y:List UInt8):jl c x y=H8 c x y:=by
 have g:=zAH h;unfold jl H8;rw[h];show(true&&_)=_;rw[yL];have key:∀z∈c.ps,((AB x y).a==z.a&&(AB x y).b==z.b)=((z.a==x&&z.b==y)||(z.a==y&&z.b==x)):=λz m=>by
  have f:=g z m;rw[tR];simp only[zC,yS,yU];unfold AB;constructor
  ·split
   ·rintro⟨h1,d⟩;exact .inr ⟨h1.symm,d.symm⟩
   ·rintro⟨h1,d⟩;exact .inl ⟨h1.symm,d.symm⟩
  ·rintro(⟨h1,d⟩ | ⟨h1,d⟩)
   ·rw[h1,d]at f;rw[iq (by rw[f];simp)];exact⟨h1.symm,d.symm⟩
   ·rw[h1,d]at f;have j:l8 x y=false:=by
     rw[lg]at f⊢;exact zO λq=>sX _ (gj q (zg f))
    have i:(x==y)=false:=by
     rw[lg]at f;refine beq_false_of_ne λe=> ?_;rw[e]at f;exact sX _ (zg f)
    rw[ip (by rw[j,i];rfl)];exact⟨h1.symm,d.symm⟩
 clear g;generalize c.ps=L at key⊢
 induction L with
 |nil=>rfl
 |cons z l n=>
  rw[sQ,sQ,key z (mv ..),n λw k=>key w (qI _ k)]
theorem zEE{c:Cat}(h:qz c=0)(a b:List Trm):d7 c a b=IY c a b:=by
 have e:IY c a b=a.any (WG c b):=by
  unfold IY;congr 1
  funext x
  unfold AA WG;congr 1
  funext y
  exact E9 h _ _
 rw[e];unfold d7;cases a with
 |nil=>rfl
 |cons x a=>
  cases b with
  |nil=>
   have:∀l:List Trm,l.any (WG c [])=false:=λl=>by
    induction l with
    |nil=>rfl
    |cons x l f=>rw[sQ,f];rfl
   rw[this];simp
  |cons y b=>
   have h1:((((x::a).length:Nat):Int)==0)=false:=by simp;omega
   have d:((((y::b).length:Nat):Int)==0)=false:=by simp;omega
   rw[h1,d];rfl
theorem zCl{fs:List Fac}{y:Cho}{s own:List UInt8} :o5 s (yn y fs fs.length).O=some own↔own=RF (yn y fs fs.length).outs y s/\own≠[]:=by
 rw[Np _ (zD _)];generalize(yn y fs fs.length).outs=os;unfold Ck RF;have e:(os.any λx=>x==s)=true↔s∈os:=by simp
 by_cases a:s∈os
 ·rw[ip (e.2 a)];by_cases b:fx y (os.findIdx λz=>z==s)= []
  ·rw[iq (by simp[b])];constructor
   ·intro q;cases q
   ·rintro⟨rfl,q⟩;exact absurd b q
  ·rw[ip ⟨a,b⟩];constructor
   ·intro q;cases q;exact⟨rfl,b⟩
   ·rintro⟨rfl,q⟩;rfl
 ·rw[iq (λq=>a q.1),iq (λq=>a (e.1 q))];constructor
  ·intro q;cases q
  ·rintro⟨rfl,q⟩;exact absurd rfl q
theorem zCn{fs:List Fac}{y:Cho}{i:Nat} :LX fs y i=true↔i<fs.length/\(alS fs y i).isSome=true:=by
 unfold LX tsR aX tL alS;cases a:fs[i]? with
 |none=>
  have:¬i<fs.length:=λh=>by rw[zE h]at a;cases a
  simp[this]
 |some f=>
  have b:=(zR.1 a).1;simp only[b,zQ];cases c:(f.kind==1)with
  |false=>simp
  |true=>
   simp only[qG,yL];by_cases q:0<(lU y (lH fs i)).ts.length
   ·have h:=yF.1 q;rw[ip (zN ow)];simp[h]
   ·have e:(lU y (lH fs i)).ts= []:=yv.1 ow;rw[e];simp
theorem IB{c:Cat}{fs:List Fac}{y:Cho}{v:Vio} :v∈ly c fs y↔∃i:Nat,i<6/\v.row=(i:Int)/\∃l,LU c fs (alS fs y) (yn y fs fs.length).O i l/\wa (l.map λn:Nat=>(n:Int))=v.facts:=by
 rw[IA];constructor
 ·rintro⟨i,h1,a,z,d,e⟩;obtain⟨l,b,rfl⟩:=NV.1 d;exact⟨i,h1,a,l,b,e⟩
 ·rintro⟨i,h1,a,l,b,e⟩;exact⟨i,h1,a,_,NV.2 ⟨l,b,rfl⟩,e⟩
theorem zES{c:Cat}{fs:List Fac}{y:Cho}(h:∀a∈y.ts,KnT c a.ts)(i:Nat):KnT c (tsR fs y i):=by
 have b:KnT c []:=λt f=>by cases f
 have d:∀k,KnT c (lU y k).ts:=λk=>by
  unfold lU;rw[zK];cases e:y.ts[k]? with
  |none=>exact b
  |some a=>exact h a (zh e)
 unfold tsR;rw[<-Kv];unfold Qt;split
 ·exact d _
 ·exact b
theorem BW{fs:List Fac}{i j:Nat} :Nv fs i j=true↔tL fs j=0/\tK fs j=tK fs i:=by
 unfold Nv;simp
theorem Z5{fs:List Fac}{j k:Nat} :jr fs j k=true↔tL fs k=2/\tX fs k=tX fs j:=by
 unfold jr;simp
theorem gp{fs:List Fac}{y:Cho}{i j k:Nat} :TriP fs (alS fs y) i j k↔LX fs y i=true/\Nv fs i j=true/\jr fs j k=true:=by
 rw[BW,Z5,zCn];exact⟨λh=>⟨⟨h.lt,h.al⟩,⟨h.ku,h.cu⟩,h.kh,h.oh⟩,λh=>⟨h.1.1,h.1.2,h.2.1.1,h.2.1.2,h.2.2.1,h.2.2.2⟩⟩
theorem Li(a b:Int):(a==b)=(b==a):=by
 rw[tR,yU,yU];exact eq_comm
theorem NG{l:List (List UInt8)}{s:List UInt8} :decide (cK (λx=>x==s) l<0)=true↔(l.any λx=>x==s)=false:=by
 rw[jF];simp
theorem kP{fs:List Fac}{k:Int}{i:Nat}(a:0<=k)(h:tL fs i=k):i<fs.length:=cn h a
theorem E7{c:Cat}{fs:List Fac}{y:Cho}{p:Bool}(h:qR c fs y p=0)(v:Vio):(∃i,i<fs.length/\Pd c fs y (yn y fs fs.length).outs i v)↔v∈ly c fs y:=by
 obtain⟨h0,P⟩:=TS h;have f:=zES (fs:=fs) P;have q:=λ{s own} =>zCl (fs:=fs) (y:=y) (s:=s) (own:=own);rw[IB];have b:∀{l:List UInt8},(!(l== []))=true↔l≠[]:=λ{l} =>by simp
 have o:∀i,aX (alS fs y) i=tsR fs y i:=λi=>rfl;constructor
 ·rintro⟨i,hi,(⟨h3,k,L,V,rfl⟩ | ⟨h3,rfl⟩)| ⟨u,⟨j,Y,k,L,D,z,A,h5⟩ | ⟨t,ht,h1,B,j,Y,g,hg,C,k,L,x,rfl⟩⟩⟩
  ·simp only[zC]at V;obtain⟨⟨h5,m⟩,H⟩:=V;rw[b]at m;rw[NG]at H;obtain⟨I,J⟩:=Z5.1 h5;exact⟨4,by omega,rfl,[i,k],⟨i,k,Uu fs y (yn y fs fs.length).outs i,by simpa using h3,q.2 ⟨rfl,m⟩,H,I,J,rfl⟩,rfl⟩
  ·unfold WF at h3;simp only[zC,yU]at h3;exact⟨5,by omega,rfl,[i],⟨by omega,i,h3.1,rfl⟩,rfl⟩
  ·simp only[zC]at D;have a:=gp.2 ⟨u,D.1,D.2⟩;rcases h5 with⟨m,rfl⟩ | ⟨m,rfl⟩ | ⟨w,hw,m,rfl⟩
   ·exact⟨0,by omega,rfl,[i,j,k],⟨i,j,k,a,(Wg (f i) _ _ _ _).2 ⟨z,A,by simpa using m,rfl⟩,rfl⟩,rfl⟩
   ·unfold RA at m;simp only[zC]at m;obtain⟨⟨H,I⟩,J⟩:=m;rw[b]at I;rw[NG]at J;refine⟨1,by omega,rfl,[i,j,k],⟨i,j,k,Uu fs y (yn y fs fs.length).outs j,a,q.2 ⟨rfl,I⟩,(Wg (f i) _ _ _ _).2 ⟨z,A,by simpa using H,?_⟩,rfl⟩,rfl⟩;unfold bO;rw[J];rfl
   ·unfold kQ at m;simp only[zC,yU]at m;obtain⟨⟨⟨H,I⟩,J⟩,N⟩:=m;refine⟨2,by omega,rfl,[i,j,k,w],⟨i,j,k,w,a,H,I.trans a.cu,?_,rfl⟩,rfl⟩;rw[zC,J];exact⟨N,(Wg (f i) _ _ _ _).2 ⟨z,A,rfl,rfl⟩⟩
  ·unfold zDx at C;simp only[zC]at C;obtain⟨⟨⟨⟨⟨u1,u2⟩,u3⟩,u4⟩,u5⟩,u6⟩:=C;have Q:LX fs y (i+t)=true:=by
    unfold LX;unfold d7 at B;simp only[zC]at B⊢;exact⟨h1,B.1.2⟩
   have U:jr fs g k=true:=by
    rw[Z5]at x⊢;exact⟨x.1,by rw[x.2];simpa using u6⟩
   have a:=gp.2 ⟨u,u1,x⟩;have d:=gp.2 ⟨Q,u2,U⟩;refine⟨3,by omega,rfl,[i,i+t,j,g,k],⟨i,j,k,i+t,g,k,a,d,u4,?_,rfl⟩,rfl⟩;rw[zC,o,o,<-zEE h0];refine⟨?_,B⟩;unfold RZ;have e1:decide (((i+t:Nat):Int)<(i:Int))=false:=zO ow;simp only[e1,u5,wM,wH,wj,qe];have e2:((g:Int)==(j:Int))=((j:Int)==(g:Int)):=Li _ _;rw[e2];exact u3
 ·rintro⟨r,hr,W,l,u,hf⟩;obtain⟨row,facts⟩:=v;simp only at W hf;subst W;subst hf;rcases r with _|_|_|_|_|r
  ·obtain⟨i,j,k,a,n,rfl⟩:=u;obtain⟨E,F,G⟩:=gp.1 a;obtain⟨z,A,h1,_⟩:=(Wg (f i) _ _ _ _).1 n;exact⟨i,a.lt,.inr ⟨E,.inl ⟨j,kP ow a.ku,k,kP ow a.kh,by rw[F,G];rfl,z,A,.inl ⟨by rw[h1];rfl,rfl⟩⟩⟩⟩
  ·obtain⟨i,j,k,own,a,K,n,rfl⟩:=u;obtain⟨E,F,G⟩:=gp.1 a;obtain⟨z,A,h1,B⟩:=(Wg (f i) _ _ _ _).1 n;obtain⟨o1,o2⟩:=q.1 K;refine⟨i,a.lt,.inr ⟨E,.inl ⟨j,kP ow a.ku,k,kP ow a.kh,by rw[F,G];rfl,z,A,.inr (.inl ⟨?_,rfl⟩)⟩⟩⟩;unfold RA;have e:Uu fs y (yn y fs fs.length).outs j=own:=o1.symm;rw[e,zC,zC,b,NG];unfold bO at B;exact⟨⟨by rw[h1];rfl,o2⟩,by simpa using B⟩
  ·obtain⟨i,j,k,w,a,k1,k2,n,rfl⟩:=u;obtain⟨E,F,G⟩:=gp.1 a;rw[zC]at n;obtain⟨z,A,h1,_⟩:=(Wg (f i) _ _ _ _).1 n.2;refine⟨i,a.lt,.inr ⟨E,.inl ⟨j,kP ow a.ku,k,kP ow a.kh,by rw[F,G];rfl,z,A,.inr (.inr ⟨w,kP ow k1,?_,rfl⟩)⟩⟩⟩;unfold kQ;rw[k1,k2,a.cu,h1];rw[wM,wM,wM];exact n.1
  ·obtain⟨i,j,k,M,g,k2,a,d,S,n,rfl⟩:=u;rw[zC]at n;obtain⟨T,K⟩:=n;unfold RZ at T;simp only[qF,wQ,yy,pk,yU]at T;obtain⟨⟨⟨s1,s2⟩,s3⟩,s4⟩:=T;have L:k2=k:=ow;subst L;obtain⟨E,F,G⟩:=gp.1 a;obtain⟨r1,r2,r3⟩:=gp.1 d;have X:=d.lt;have e:i+(M-i)=M:=ow;refine⟨i,a.lt,.inr ⟨E,.inr ⟨M-i,by omega,?_⟩⟩⟩;rw[e];have O:(tL fs M==1)=true:=by unfold LX at r1;simp only[zC]at r1;exact r1.1
   rw[o,o,<-zEE h0]at K;refine⟨O,K,j,kP ow a.ku,g,kP ow d.ku,?_,k2,kP ow a.kh,G,rfl⟩;unfold zDx;simp only[zC];refine⟨⟨⟨⟨⟨F,r2⟩,?_⟩,S⟩,by rw[s3];rfl⟩,by rw[<-a.oh,<-d.oh];simp⟩;have e2:((g:Int)==(j:Int))=((j:Int)==(g:Int)):=Li _ _;rw[<-e2,s4];rfl
  ·obtain⟨i,k,own,k1,K,Z,k2,k3,rfl⟩:=u;obtain⟨o1,o2⟩:=q.1 K;refine⟨i,kP ow k1,.inl (.inl ⟨by rw[k1];rfl,k,kP ow k2,?_,rfl⟩)⟩;have e:Uu fs y (yn y fs fs.length).outs i=own:=o1.symm;rw[e,zC,zC,b,NG];exact⟨⟨Z5.2 ⟨k2,k3⟩,o2⟩,Z⟩
  ·have R:r=0:=ow;subst R;obtain⟨h1,k,k1,rfl⟩:=u;refine⟨k,kP ow k1,.inl (.inr ⟨?_,rfl⟩)⟩;unfold WF;rw[k1,h1];rfl
theorem Dr{c:Cat}(h0:qz c=0):c.cs.length<=128:=by
 unfold qz at h0;split at h0
 ·cases h0
 ·rename_i q;unfold Cat.big at q;simp only[yS,zP,ZE]at q;omega
structure RIn(c:Cat)(fs:List Fac)(y:Cho)(d x yd:D):Prop where
 cat:uM c d
 sm:c.Sm
 x:ye 12 (dj fs) x
 few:(fs.length<=16\/256<fs.length)/\fs.length<=260
 ok:∀f∈fs,f.Ok
 e120:∀f∈fs,f.e.size<=120
 cho:ZR y yd
 ysm:y.Sm
section
variable{c:Cat}{fs:List Fac}{y:Cho}{d x yd:D}(I:RIn c fs y d x yd)
include I
theorem RIn.check(p:Bool)(g:Heap):zB prog 24 [d,x,yd,.bool p] g λr h'=>h'=g/\r=.int .i64 (qR c fs y p):=WB I.cat I.sm I.x I.few.2 I.ok I.e120 I.cho I.ysm p g
theorem RIn.all{p:Bool}(h:qR c fs y p=0)(g:Heap):zB prog 25 [d,x,yd] g λr h'=>h'=g/\(Fin 2 (vcs (ly c fs y)) r/\(ly c fs y).length<=1073741000):=by
 have j:=YY h I.ysm;have h0:=(TS h).1;have l:fs.length<=16:=by
  have:=YW j.case;rcases I.few.1 with q|q<;>omega
 have m:∀i,(tsR fs y i).length<=64:=λi=>by
  unfold tsR aX alS;cases fs[i]? with
  |none=>exact yg _
  |some f=>
   simp only;split
   ·rename_i a q;split at q
    ·split at q
     ·rename_i h1 b;cases q;have b:=zg b;unfold lU at b⊢;rw[zK]at b⊢;cases k:y.ts[lH fs i]? with
      |none=>simp[mkA]
      |some z=>
       rw[k]at b;exact(j.okk z (zh k) λe=>by simp[e]at b).2
     ·cases q
    ·cases q
   ·exact yg _
 have n:=j.outs;have s:=I.ysm.ol;refine(A3 I.cat I.sm (Dr h0) I.x l I.ok I.e120 I.cho I.ysm (J5 h) ow n (by rw[j.lic];exact zD _) m g).mono ?_;rintro r h' ⟨k,t,h1,b,h3,o,_⟩;have e:t=ly c fs y:=mR aO b J9 λv=>(h3 v).trans (E7 h v);rw[e]at h1 o;exact⟨k,h1,by omega⟩
end
theorem zK8{c:Cat}{fs:List Fac}{y:Cho}{d x yd:D}(I:RIn c fs y d x yd)(g:Heap):
  zB prog 8 [d,x,yd] g λr h'=>h'=g/\∃l,r=.tuple [l,.int .i64 (zK4 c fs y)]/\(zK4 c fs y=0->Fin 2 (vcs (ly c fs y)) l)/\(zK4 c fs y≠0->l=.nilsl):=by
 suffices h:∀K:D->Prop,(zK4 c fs y≠0->K (.tuple [.nilsl,.int .i64 (zK4 c fs y)]))->(∀l,zK4 c fs y=0->Fin 2 (vcs (ly c fs y)) l->K (.tuple [l,.int .i64 (zK4 c fs y)]))->zB prog 8 [d,x,yd] g λr h'=>h'=g/\K r from h _ (λq=>⟨_,rfl,λe=>absurd e q,λ_=>rfl⟩) (λl q hf=>⟨l,rfl,λ_=>hf,λe=>absurd q e⟩)
 intro K i k;have m:=I.check true;have j:=λh=>I.all (p:=true) h;have s:(Ig c fs y).length=(ly c fs y).length:=by rw[U1,wG]
 obtain⟨a,b,e,p,rfl,_⟩:=I.cat;obtain⟨A,z,rfl,_⟩:=I.cho;have C:yN true 4 [a,b,e,p] 0=some (.agg [a,b,e,p]):=zJ rfl ow;have B:yN true 2 [A,z] 0=some (.agg [A,z]):=zJ rfl ow;obtain⟨E,f⟩:∃E,zK4 c fs y=E:=⟨_,rfl⟩;rw[f]at i k;unfold zK4 at f;rw[s]at f;clear s;refine z5 ok8 ?_;simp only[f8,zA];cases n:(qR c fs y true==0)with
 |false=>
  have o:qR c fs y true≠0:=by simpa using n
  rw[n]at f;replace f:qR c fs y true=E:=f;subst f;have i:=i o;clear j o k
  repeat' first|simp only[go_sem, *]|apply bc<;>intro v|(refine zB.mono (m _) ?_;rintro r h ⟨u,rfl⟩)
 |true=>
  have h0:qR c fs y true=0:=by simpa using n
  have j:=j h0;rw[n]at f;replace f:(if decide (((ly c fs y).length:Int)>1024)=true then(10:Int)else 0)=E:=f
  rw[h0]at m n;clear h0
  repeat' first|simp only[go_sem, *]|apply bc<;>intro v|(refine zB.mono (m _) ?_;rintro r h ⟨u,rfl⟩)
  subst u;refine(j _).mono ?_;rintro r h1 ⟨u,t,_⟩;subst u;have F:=λh=>Vv t.isSl h;cases w:decide (((ly c fs y).length:Int)>1024)with
  |true=>
   rw[w]at f;replace f:(10:Int)=E:=f;subst f;have i:=i (by decide);clear j t k
   repeat' first|simp only[go_sem, *]|apply bc<;>intro v
  |false=>
   rw[w]at f;replace f:(0:Int)=E:=f;subst f;have k:=k r rfl t;clear j t i;exact au
theorem QP{c:Cat}{fs:List Fac}{y:Cho}{d x yd:D}(I:RIn c fs y d x yd)(g:Heap):
  zB prog 13 [d,x,yd] g λr h'=>h'=g/\r=gG c fs y:=by
 have j:=I.check false;have i:=λh=>I.all (p:=false) h;have k:(Ig c fs y).head?.isSome= !(((ly c fs y).length:Int)==0):=by
  rw[U1];cases ly c fs y with
  |nil=>rfl
  |cons v l=>
   have:((((v::l).length:Nat):Int)==0)=false:=by simp;omega
   rw[this];rfl
 obtain⟨a,b,e,p,rfl,_⟩:=I.cat;obtain⟨s,q,rfl,_⟩:=I.cho;have w:yN true 4 [a,b,e,p] 0=some (.agg [a,b,e,p]):=zJ rfl ow;have u:yN true 2 [s,q] 0=some (.agg [s,q]):=zJ rfl ow;obtain⟨E,f⟩:∃E,gG c fs y=E:=⟨_,rfl⟩;rw[f];unfold gG at f;rw[k,wX]at f;clear k;refine z5 zJ8 ?_;simp only[f13,zA];cases m:(qR c fs y false==0)with
 |false=>
  rw[m]at f;replace f:D.tuple [.bool false,.int .i64 (qR c fs y false)]=E:=f;subst f;clear i
  repeat' first|simp only[go_sem, *]|apply bc<;>intro t|(refine zB.mono (j _) ?_;rintro r h ⟨n,rfl⟩)
 |true=>
  have h0:qR c fs y false=0:=by simpa using m
  have i:=i h0;rw[m]at f;replace f:D.tuple [.bool (((ly c fs y).length:Int)==0),.int .i64 0]=E:=f;rw[h0]at j m;subst f;clear h0
  repeat' first|simp only[go_sem, *]|apply bc<;>intro t|(refine zB.mono (j _) ?_;rintro r h ⟨n,rfl⟩)
  subst n;refine(i _).mono ?_;rintro r h1 ⟨n,o,_⟩;subst n;have z:=λh=>Vv o.isSl h;clear i o;exact au
theorem MX(v w:Vio):(w.row==v.row&&tc w.facts v.facts==0)=(nS v w==0):=by
 rw[tR,HR,zC,yU,yU];constructor
 ·rintro⟨h1,a⟩;replace a:=Ye _ _ a;cases v;cases w;simp only at h1 a;subst h1;subst a;rfl
 ·rintro rfl;exact⟨rfl,d8.refl _⟩
theorem HB{c:Cat}{fs:List Fac}{y:Cho}{d x yd:D}(I:RIn c fs y d x yd){v:Vio}{cv:List D}(U:v.Is cv)(g:Heap):
  zB prog 15 [d,x,yd,.agg cv] g λr h'=>h'=g/\r=.int .i64 (dJ c fs y v):=by
 have z:=I.check true;have n:=λh=>I.all (p:=true) h;have h5:∀w∈ly c fs y,w.facts.length<=1048576:=λw X=>by
  obtain⟨d,h1,h2,h3⟩:=N1 w X;exact h3
 obtain⟨a,b,e,p,rfl,_⟩:=I.cat;obtain⟨ta,oa,rfl,_⟩:=I.cho;obtain⟨Y,rfl,M,W⟩:=U;have V:yN true 4 [a,b,e,p] 0=some (.agg [a,b,e,p]):=zJ rfl ow;obtain⟨E,m⟩:∃E,dJ c fs y v=E:=⟨_,rfl⟩;rw[m];unfold dJ at m;refine z5 zJ9 ?_;simp only[f15,zA];cases G:(qR c fs y true==0)with
 |false=>
  rw[G]at m;replace m:qR c fs y true=E:=m;subst m;clear n
  repeat' first|simp only[go_sem, *]|apply bc<;>intro u|(refine zB.mono (z _) ?_;rintro r h ⟨o,rfl⟩)
 |true=>
  have h0:qR c fs y true=0:=by simpa using G
  have n:=n h0;rw[G]at m;replace m:(if(!((ly c fs y).any λw=>nS v w==0))=true then(18:Int)else 0)=E:=m
  rw[h0]at z G;clear h0
  repeat' first|simp only[go_sem, *]|apply bc<;>intro u|(refine zB.mono (z _) ?_;rintro r h ⟨o,rfl⟩)
  subst o;refine(n _).mono ?_;rintro r h1 ⟨o,P,T⟩;subst o;have hl:=λh=>Vv P.isSl h
  rename Heap=>g
  generalize ly c fs y=F at *
  repeat' first|simp only[go_sem, *]|apply bc<;>intro u
  refine zV (λi fr h=>fr 7=.iptr [.int .i64 v.row,Y] 0/\fr 10=r/\fr 11=.int .i64 (i:Int)/\g=h/\∀j (B:j<F.length),j<i->(nS v F[j]==0)=false) F.length ow ?_ ?_ ?_
  ·clear m n;simp only[go_sem,zQ,zS,zF];exact λj B h0=>absurd h0 (zj _)
  ·rintro i fr h s R Z ⟨S,J,K,o,B⟩;subst o;have Q:=Pn P.isSl s;have f:=λq=>qp (p:=λw=>nS v w==0) s B q;have l:=λq=>pW (p:=λw=>nS v w==0) s q;have N:=h5 _ (zG s);have C:=MX v F[i];generalize F[i]=w at *
   have A:=gD (ye.mk (xs:=uq w.facts) .no) M N;simp only[Vio.cells]at Q;rw[<-C]at f l;clear C B n;cases H:(w.row==v.row)with
   |false=>
    rw[H]at f;have t:=f rfl;clear f l m
    repeat' first|simp only[go_sem, *]|apply bc<;>intro u
    refine zd kr ?_
    repeat' first|simp only[go_sem, *]|apply bc<;>intro u|(refine zB.mono (A _) ?_;rintro r h ⟨o,rfl⟩)
    all_goals exact t
   |true=>
   generalize tc w.facts v.facts=k at *
   cases O:(k==0)with
   |false=>
    rw[H,O]at f;have t:=f rfl;clear f l m
    repeat' first|simp only[go_sem, *]|apply bc<;>intro u
    refine zd kr ?_
    repeat' first|simp only[go_sem, *]|apply bc<;>intro u|(refine zB.mono (A _) ?_;rintro r h ⟨o,rfl⟩)
    all_goals exact t
   |true=>
    rw[H,O]at l;have t:=l rfl;rw[t]at m;replace m:(0:Int)=E:=m;subst m;clear f l t
    repeat' first|simp only[go_sem, *]|apply bc<;>intro u
    refine zd kr ?_
    repeat' first|simp only[go_sem, *]|apply bc<;>intro u|(refine zB.mono (A _) ?_;rintro r h ⟨o,rfl⟩)
  ·rintro fr h R ⟨S,J,K,o,B⟩;subst o;have t:=rO (p:=λw=>nS v w==0) λj L=>B j L;rw[t]at m;replace m:(18:Int)=E:=m;subst m;clear B t n;exact au
theorem zLE{c:Cat}{fs:List Fac}{y:Cho}{d x yd:D}(I:RIn c fs y d x yd)(g:Heap):
  zB prog 10 [d,x,yd] g λr h'=>h'=g/\r=zK5 c fs y:=by
 refine xU kr λN=>xS ?_;refine xP λQ L=> ?_;have m:=I.check true;have l:=λh=>I.all (p:=true) h;obtain⟨a,b,e,p,rfl,_⟩:=I.cat;obtain⟨ta,Z,rfl,_⟩:=I.cho;have W:yN true 4 [a,b,e,p] 0=some (.agg [a,b,e,p]):=zJ rfl ow;have X:wO prog 42 []=some (.agg [.int .i64 0,.nilsl]):=by simp[wO,aK,ja,tp,D.notTuple,D.cells]
 obtain⟨G,K,k,q,U⟩:∃G:Heap,g.new g.next (.row [.int .i64 0,.nilsl])=G/\Ext g G/\G.at' g.next=some (.row [.int .i64 0,.nilsl])/\g.next<G.next:=⟨_,rfl,(Ext.refl g).new (zD _) _,yQ _ _ _,by rw[yA];omega⟩;have P:qP prog 42 (.ptr g.next 0) (.agg [.int .i64 0,.nilsl]) G=some G:=by
  rw[rU q (by rw[tY];rfl) rfl (by decide) rfl,nh q]
 have j:∀h' v z n,Ext g h'->sH v->zK5 c fs y=.tuple [.agg v,.bool z,.int .i64 n]->Q (.tuple [.agg v,.bool z,.int .i64 n]) h':=λh' v z n S E e=>L _ _ ⟨S,by
  simp only[wD,wU,below,qZ,E.2.2];exact⟨rP (yg _) _ E.2.1,trivial,trivial,trivial⟩,by simp only[wD,wU,E.2.2];exact e.symm⟩
 clear L;refine z5 zLL ?_;simp only[f10,zA];cases u:(qR c fs y true==0)with
 |false=>
  have f:zK5 c fs y=.tuple [.agg [.int .i64 0,.nilsl],.bool false,.int .i64 (qR c fs y true)]:=by unfold zK5;rw[u];rfl
  have o:=j G _ _ _ k (show sH [.int .i64 0,.nilsl]from⟨rfl,⟨trivial,trivial,trivial⟩,rfl⟩) f
  clear j f l
  repeat' first|simp only[go_sem, *]|apply bc<;>intro M|(refine zB.mono (m _) ?_;rintro r h ⟨w,rfl⟩)
 |true=>
  have h0:qR c fs y true=0:=by simpa using u
  have f:zK5 c fs y=.tuple [.agg ((Ig c fs y).head?.getD Ny),.bool ((Ig c fs y).head?.isSome),.int .i64 0]:=by unfold zK5;rw[u];rfl
  have l:=l h0;rw[h0]at m u;clear h0;rw[U1]at f
  repeat' first|simp only[go_sem, *]|apply bc<;>intro M|(refine zB.mono (m _) ?_;rintro r h ⟨w,rfl⟩)
  subst w
  rename Heap=>G
  refine(l _).mono ?_;rintro r h1 ⟨w,C,V⟩;subst w;have Y:=λh=>Vv C.isSl h;clear l m;generalize ly c fs y=H at *
  cases H with
  |nil=>
   replace f:zK5 c fs y=.tuple [.agg [.int .i64 0,.nilsl],.bool false,.int .i64 0]:=f;have A:(((([]:List Vio).length:Nat):Int)==0)=true:=rfl;have o:=j h1 _ _ _ k (show sH [.int .i64 0,.nilsl]from⟨rfl,⟨trivial,trivial,trivial⟩,rfl⟩) f
   clear j f K k
   repeat' first|simp only[go_sem,A, *]|apply bc<;>intro M
  |cons v H=>
   replace f:zK5 c fs y=.tuple [.agg [.int .i64 v.row,.sl 1 (uq v.facts) .no],.bool true,.int .i64 0]:=f;have O:((((v::H).length:Nat):Int)==0)=false:=by simp;omega
   have J:=Pn C.isSl (i:=0) (by simp);have J:yP prog 36 r (.int .i64 0)=some (.iptr [.int .i64 v.row,.sl 1 (uq v.facts) .no] 0):=J;have t:sH [.int .i64 v.row,.sl 1 (uq v.facts) .no]:=fW [v] _ (by simp[vcs,Vio.cells]);obtain⟨F,s,B,T⟩:∃F:Heap,h1.set g.next (.row [.int .i64 v.row,.sl 1 (uq v.facts) .no])=F/\Ext g F/\F.at' g.next=some (.row [.int .i64 v.row,.sl 1 (uq v.facts) .no]):=⟨_,rfl,k.set (zD _) _,zi _ _ _⟩;have R:qP prog 42 (.ptr g.next 0) (.agg [.int .i64 v.row,.sl 1 (uq v.facts) .no]) h1=some F:=by
    rw[rU (cs':=[.int .i64 v.row,.sl 1 (uq v.facts) .no]) q (by rw[tY];rfl) rfl (by simp) t.1,s]
   have o:=j F _ _ _ B t f;clear j f K k s C;exact au
theorem HE{l:List Alt}{d:D}(t:ye 1 (qJ l) d)(L:l.length<=1048576)(C:∀a∈l,a.Sm)(g:Heap):zB prog 48 [d] g λr h'=>h'=g/\∃b,r=.bool b:=by
 refine xP λQ v=> ?_;have hf:∀b,Q (.bool b) g:=λb=>v _ _ ⟨rfl,b,rfl⟩;have G:=tf t;have F:∀h,HLe Heap.emp h:=λh i N e=>by cases e
 clear v;refine z5 zKV ?_;simp only[f48,zA]
 repeat' first|simp only[go_sem, *]|apply bc<;>intro k
 all_goals refine zV (λi fr h=>fr 0=d/\fr 4=.int .i64 (i:Int)/\h=g/\∃m,fr 3=.int .i64 m) l.length ow ?_ ?_ ?_
 all_goals try
  simp only[go_sem,zQ,zS,zF];exact⟨_,rfl⟩
 all_goals try
  rintro fr h x ⟨p,f,rfl,m,c⟩;obtain⟨b,K⟩:∃b,decide (m<=6000)=b:=⟨_,rfl⟩;have M:=hf b;clear hf
  repeat' first|simp only[go_sem, *]|apply bc<;>intro k
  done
 all_goals
  rintro i fr h n x J ⟨p,f,rfl,m,c⟩;have I:=ru t n;have sm:=C _ (zG n);have E:=wT sm.sl;have u:= @rA _ _ sm.sl;have sl:=sm.len;clear t;generalize l[i]=a at *
  obtain⟨A,H⟩:=a
  repeat' first|simp only[go_sem, *]|apply bc<;>intro k
  all_goals refine zV (λj fr h'=>fr 0=d/\fr 4=.int .i64 (i:Int)/\fr 5=.int .i64 (j:Int)/\h'=h/\∃m,fr 3=.int .i64 m) A.length (by show A.length<=_;have:A.length<=1048576:=sl;omega) ?_ ?_ ?_
  rotate_left
  any_goals
   rintro j s B o q y ⟨p,f,z,rfl,m2,c⟩;have w:=u o;simp only[Trm.cells]at w;clear hf u;generalize A[j]=T at *
   repeat' first|simp only[go_sem, *]|apply bc<;>intro k
   refine zd kr ?_
   repeat' first|simp only[go_sem, *]|apply bc<;>intro k
   exact⟨_,rfl⟩
  any_goals
   rintro s B q ⟨p,f,z,rfl,m2,c⟩;clear hf u
   repeat' first|simp only[go_sem, *]|apply bc<;>intro k
   exact⟨_,rfl⟩
  all_goals
   simp only[go_sem,zQ,zS,zF]
   first
    |exact⟨f,_,c⟩
    |exact⟨p,f,_,c⟩
theorem Lw{y:Cho}{d:D}(w:ZR y d)(e:y.Sm)(o:∀s∈y.own,s.length<=1048576)(g:Heap):zB prog 20 [d] g λr h'=>h'=g/\∃b,r=.bool b:=by
 refine xP λQ f=> ?_;have hf:∀b,Q (.bool b) g:=λb=>f _ _ ⟨rfl,b,rfl⟩;obtain⟨z,x,rfl,v,k⟩:=w;have a:=HE v e.tl e.ts;have p:=wd k;have q:=e.ol;clear f;refine z5 zKE ?_;simp only[f20,zA]
 repeat' first|simp only[go_sem, *]|apply bc<;>intro j
 refine(a _).mono ?_;rintro r h ⟨t,b,rfl⟩;subst t;clear a;cases b with
 |false=>
  repeat' first|simp only[go_sem, *]|apply bc<;>intro j
 |true=>
 repeat' first|simp only[go_sem, *]|apply bc<;>intro j
 rename Heap=>g
 refine zV (λi fr h=>fr 1=.iptr [z,x] 0/\fr 3=.int .i64 (i:Int)/\h=g) y.own.length ow ?_ ?_ ?_
 ·simp only[go_sem,zQ,zS,zF]
 ·rintro i fr h c l B ⟨m,n,rfl⟩;have A:=t9 k c;have u:=o _ (zG c);generalize y.own[i]=s at *
  exact au
 ·rintro fr h l ⟨m,n,rfl⟩;exact au
end Go.V
