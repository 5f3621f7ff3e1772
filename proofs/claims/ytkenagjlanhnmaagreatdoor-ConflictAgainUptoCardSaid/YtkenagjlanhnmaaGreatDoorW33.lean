/- Rules of the machine of abstract values, part 7. No condition. -/
import Derived.Test.YtkenagjlanhnmaaGreatDoorW32
set_option linter.all false
set_option maxHeartbeats 8000000
namespace Go.V
def kM(h:Heap)(i:Nat)(o a:Obj):(h.set i o).set i a=h.set i a:=by
 unfold Heap.set;simp only[Heap.mk.injEq,zT]
 funext j
 by_cases e:j=i<;>simp[e]
variable{P:Program}{f:FuncId}{args:List D}{h:Heap}{i n sz:Nat}{z d x:D}{xs:List (List D)}{e:Ex}{c:Cat}{s:List UInt8}{α:Type}{fs:List Fac}
def xP{R:D->Heap->Prop}(H:∀Q:D->Heap->Prop,(∀r h',R r h'->Q r h')->zE P f args h Q):zE P f args h R:=H R λ_ _ x=>x
section
variable{P:Program}{sz:Nat}{t e:TypeId}{id off len:Nat}{h:Heap}{xs:List (List D)}
def rJ(a:tG P t=some e)(c:szT P e=sz){k:IntKind}(b:i<len):yt P t (.rs id sz off len) (.int k (i:Int))=some (.ptr id (off+i*sz)):=by
 simp[yt,a,c,b]
def p8(a:Wt P t=none)(b:tG P t=some e)(d:szT P e=sz){k:IntKind}(c:n<=len):uZ P t (.rs id sz 0 len) (some (.int k (n:Int))) none none h=some (.rs id sz (n*sz) (len-n)):=by
 simp[uZ,a,fR,b,d,rR,VA,Td,c]
def jz(c:∀x∈xs,x.length=sz)(h0:0<sz){a i:Nat}{x:List D}(b:xs[a+i]? =some x):yW true sz xs.flatten (a*sz+i*sz)=some (.agg x):=by
 rw[<-wD];exact nN c h0 b
def IV(cs vs:List D)(off:Nat)(h:off+vs.length=cs.length):wo cs vs off=cs.take off++vs:=by
 unfold wo;rw[th ow,yL]
def I5(a:∀x∈xs,x.length=sz):∀{n:Nat},xs.flatten.take (n*sz)=(xs.take n).flatten:=by
 induction xs with
 |nil=>intro n;simp
 |cons x xs c=>
  intro n;cases n with
  |zero=>simp
  |succ n=>
   have d:=a x (by simp);rw[yS,pq,yS,qf,List.take_append,yV ow,show n*sz+sz-x.length=n*sz by omega,c (λy b=>a y (by simp[b]))]
def WJ(d:tG P t=some e)(j:tJ P e=some z)(c:z.notTuple=true)(a:z.cells.length=sz)(f:h.at' id=some (.row xs.flatten))(i:∀x∈xs,x.length=sz)(p:n<=xs.length):
  ∃rest,dp P t (.rs id sz (n*sz) (xs.length-n)) h=some (h.set id (.row ((xs.take n).flatten++rest))):=by
 by_cases h0:xs.length-n=0
 ·refine⟨[],?_⟩;have b:n=xs.length:=ow;have l:h.set id (.row ((xs.take n).flatten++ []))=h:=by
   rw[b,z6,yL];exact sR f
  rw[l];simp only[dp,d,j,h0,qS]
 ·refine⟨lV (xs.length-n) z.cells,?_⟩;have hr:∀m,(lV m z.cells).length=m*sz:=by
   intro m
   induction m with
   |zero=>simp[lV]
   |succ m o=>
    change (List.replicate m z.cells).flatten.length=m*sz at o;change (List.replicate (m+1) z.cells).flatten.length=(m+1)*sz;rw[tX,yS,zR,a,qf];omega
  have k:=tE i;have g:n*sz+(xs.length-n)*sz=xs.length*sz:=by rw[<-wD];congr 1;omega
  simp only[dp,d,j];rw[iq h0,ip (by simp[c,a]),f];simp only;rw[ip ow,IV _ _ _ (by rw[hr];omega),I5 i]
end
variable{sz:Nat}{xs:List (List D)}{P:Program}{h:Heap}{e:Ex}
def yP(h:yi sz xs d):d.cells= [d]/\d.notTuple=true/\d.flat=true:=by
 rcases h with⟨rfl,_⟩ | ⟨tk,rfl⟩ <;>exact⟨rfl,rfl,rfl⟩
open Go.Proofs.Tryz
open Go.Proofs
set_option maxRecDepth 100000
theorem dC(e:Ex):∀l:List Ex,qZ (l++ [e])=qZ l+e.size
 | []=>by simp[qZ]
 |x::l=>by
  have:=dC e l;simp only[yE,qZ,this];omega
def zGh{a:Nat}(b:a<=4194304):lQ .quo .i64 .i64 (a:Int) 40=some (.int .i64 ((a/40:Nat):Int)):=by
 have c:((a:Int)).tdiv 40=((a/40:Nat):Int):=by
  rw[Int.tdiv_eq_ediv_of_nonneg ow];omega
 have d:a/40<=4194304:=zf (Nat.div_le_self _ _) b;simp only[lQ,Ml,qS];rw[iq (by decide),c];generalize a/40=z at *
 rw[qU ow ow]
theorem Q3:∀(deep:Nat),deep<=40->∀{e:Ex},e.Ok->∀(b:Nat),b<=120->∀g:Heap,zE prog 95 [.agg e.cells,.int .i64 (b:Int),.int .i64 (deep:Int)] g λr h'=>h'=g/\∃n:Nat,r=.int .i64 (n:Int)/\n<=b+100001/\(n<=b->e.size<=n):=by
 intro deep
 induction deep with
 |zero=>
  intro _ e f b V g;refine xP λQ j=> ?_;obtain⟨k,c,x,l,d⟩:=e;simp only[Ex.Ok]at f;obtain⟨F,U,h1,R,v⟩:=f;have P:IntKind.i64.wrap ((b:Int)+1)=((b+1:Nat):Int):=qR (by unfold lim;omega);have J:IntKind.i64.wrap ((c.length:Int)+(x.length:Int))=((c.length+x.length:Nat):Int):=by rw[qU ow ow];omega
  have W:=zGh (a:=c.length+x.length) ow;have G:(((0:Nat):Int)==0)=true:=rfl;have p:=j (.int .i64 ((b+1:Nat):Int)) g ⟨rfl,b+1,rfl,by omega,λq=>by omega⟩;clear j;refine zu zND ?_;simp only[f95,zA];simp only[Ex.cells,Ex.kind,Ex.name,Ex.exc,Ex.d];simp only[go_sem, *]
 |succ deep C=>
  intro S e f b V g;refine xP λQ j=> ?_;obtain⟨k,c,x,l,d⟩:=e;simp only[Ex.Ok]at f;obtain⟨F,U,h1,R,v⟩:=f;have M:=pw F;have J:IntKind.i64.wrap ((c.length:Int)+(x.length:Int))=((c.length+x.length:Nat):Int):=by rw[qU ow ow];omega
  have W:=zGh (a:=c.length+x.length) ow;have K:(c.length+x.length)/40<=52429:=ow;have X:IntKind.i64.wrap (1+(((c.length+x.length)/40:Nat):Int))=((1+(c.length+x.length)/40:Nat):Int):=by
   generalize(c.length+x.length)/40=z at *
   rw[qU ow ow];omega
  have G:(((deep+1:Nat):Int)==0)=false:=by simp;omega
  have T:IntKind.i64.wrap (((deep+1:Nat):Int)-1)=(deep:Int):=by rw[qU ow ow];omega
  have y:(Ex.mk k c x l d).size=qZ l+1:=by simp only[Ex.size]
  rw[y]at j;clear y;generalize Y:1+(c.length+x.length)/40=z at *
  have Z:1<=z:=ow;have ad:z<=52430:=ow;clear Y K;refine zu zND ?_;simp only[f95,zA];simp only[Ex.cells,Ex.kind,Ex.name,Ex.exc,Ex.d];simp only[go_sem, *];refine qx (λi fr h=>fr 1=.int .i64 (b:Int)/\fr 2=.int .i64 ((deep+1:Nat):Int)/\fr 3=.iptr [.int .i64 k,.str c,.str x,d] 0/\fr 8=.int .i64 (i:Int)/\h=g/\∃n:Nat,fr 7=.int .i64 (n:Int)/\n<=b+100001/\(n<=b->qZ (l.take i)+1<=n)) l.length ?_ ?_
  ·have s:∃n:Nat,D.int .i64 (z:Int)=.int .i64 (n:Int)/\n<=b+100001/\(n<=b->qZ (l.take 0)+1<=n):=⟨z,rfl,by omega,λ_=>by simp[qZ];omega⟩;simp only[go_sem,zT,zV,zI];exact s
  rintro i fr h hi ⟨f1,f2,f3,f8,rfl,n,f7,A,B⟩;by_cases o:i<l.length
  ·have e1:decide ((i:Int)<(l.length:Int))=true:=zS ow;have P:IntKind.i64.wrap ((i:Int)+1)=((i+1:Nat):Int):=qR (by unfold lim;omega);cases e2:decide ((n:Int)<=(b:Int))with
   |true=>
    have u:=yK e2;have O:=kX F o;have w:l[i]∈l:=zH o;have N:IntKind.i64.wrap ((b:Int)- (n:Int))=((b-n:Nat):Int):=by rw[qU ow ow];omega
    have t:=C ow (e:=l[i]) (px v _ w) (b-n) ow h;have I:qZ (l.take (i+1))=qZ (l.take i)+l[i].size:=by rw[zQ o,dC]
    simp only[Ex.cells]at O t;generalize l[i]=e at *
    clear j C w;simp only[go_sem, *];refine t.mono ?_;rintro r h3 ⟨H,m,rfl,m1,m2⟩;subst H;have L:IntKind.i64.wrap ((n:Int)+(m:Int))=((n+m:Nat):Int):=by rw[qU ow ow];omega
    have s:i<l.length/\∃E:Nat,D.int .i64 ((n+m:Nat):Int)=.int .i64 (E:Int)/\E<=b+100001/\(E<=b->qZ (l.take (i+1))+1<=E):=⟨o,n+m,rfl,by omega,λq=>by have:=m2 ow;have:=B ow;omega⟩;clear B m2 I m1 A t;simp only[go_sem, *]
   |false=>
    have u:=yO e2;have p:=j (.int .i64 (n:Int)) h ⟨rfl,n,rfl,A,λq=>by omega⟩;clear j C B A u;exact au
  ·have e1:decide ((i:Int)<(l.length:Int))=false:=zP ow;have p:=j (.int .i64 (n:Int)) h ⟨rfl,n,rfl,A,λq=>by have:=B q;rw[yV ow]at this;exact this⟩;clear j C B A;exact au
def K8(d:e.Ok)(g:Heap):zE prog 45 [.agg e.cells] g λr h'=>h'=g/\∃b,r=.bool b/\(b=true->e.size<=120):=by
 refine xP λQ j=> ?_;have f:=Q3 40 ow d 120 ow;have l:yW true 4 e.cells 0=some (.agg e.cells):=zJ rfl ow;have a:((120:Nat):Int)=120:=rfl;have c:((40:Nat):Int)=40:=rfl;rw[a,c]at f;refine zu zOl ?_;simp only[f45,zA];simp only[go_sem, *];refine(f _).mono ?_;rintro r h ⟨k,n,rfl,o,m⟩;subst k;have i:=j (.bool (decide ((n:Int)<=120))) h ⟨rfl,_,rfl,λq=>by have:=yK q;have:=m ow;omega⟩;exact au
def gX(v:uc c d)(y:c.Sm)(s:List UInt8)(g:Heap):zE prog 202 [d,.str s] g λr h'=>h'=g/\r=.int .i64 (UO (λx:Lic=>x.name==s) c.ls):=by
 obtain⟨a,b,e,p,rfl,n,C,D,F⟩:=v;have o:=rS n;have E:=y.ls.1;obtain⟨G,H,_⟩:=yP n;refine zu zKh ?_;simp only[f202,zA];simp only[go_sem, *];refine zd (λi fr h=>fr 1=.str s/\fr 2=.iptr [a,b,e,p] 0/\fr 5=.int .i64 (i:Int)/\h=g/\∀j (k:j<c.ls.length),j<i->(c.ls[j].name==s)=false) c.ls.length ow ?_ ?_ ?_
 ·simp only[go_sem,zT,zV,zI];exact λj k h0=>by omega
 ·rintro i fr h f e1 B ⟨q,t,u,rfl,k⟩;have A:=pu n f;have k0:c.ls[i].cells[0]? =some (.str c.ls[i].name):=rfl;cases l:(c.ls[i].name==s)with
  |true=>
   have z:=jV (p:=λx:Lic=>x.name==s) f k l;simp only[go_sem, *]
  |false=>
   have w:=tB (p:=λx:Lic=>x.name==s) f k l;simp only[go_sem, *];exact w
 ·rintro fr h e1 ⟨q,t,u,rfl,k⟩;have z:=jW (p:=λx:Lic=>x.name==s) λj m=>k j m m;exact au
def RD(x y:Apt)(g:Heap):zE prog 315 [.agg x.cells,.agg y.cells] g λr h'=>h'=g/\∃b,r=.bool b:=by
 refine xP λQ c=> ?_;have a:∀b,Q (.bool b) g:=λb=>c _ _ ⟨rfl,b,rfl⟩;refine zu zLE ?_;simp only[f315,zA];simp only[Apt.cells];exact au
def JB(f:uc c d)(s:c.Sm)(C:i<c.ps.length)(g:Heap):zE prog 240 [d,.int .i64 (i:Int)] g λr h'=>h'=g/\∃n,r=.int .i64 n:=by
 refine xU kr λD=>xS ?_;refine xP λQ A=> ?_;have k:=gX f s;have l:∀n h,Ext g h->Q (.int .i64 n) h:=λn h m=>A _ _ ⟨m,trivial,n,rfl⟩;have q:=RD;obtain⟨a,b,e,p,rfl,L,M,N,u⟩:=f;have I:=aY u C;have F:yW true 4 [a,b,e,p] 0=some (.agg [a,b,e,p]):=zJ rfl ow;have E:∀z:Apt,yW true 2 z.cells 0=some (.agg z.cells):=λz=>zJ rfl ow;have k0:c.ps[i].cells[0]? =some (.str c.ps[i].a):=rfl;have k1:c.ps[i].cells[1]? =some (.str c.ps[i].b):=rfl;have t:yX prog 130 (.ptr g.next 0) (.agg c.ps[i].cells) (g.new g.next (.row [.str [],.str []]))=some (g.new g.next (.row c.ps[i].cells)):=qK TE ow rfl rfl rfl
 refine zu zKq ?_;simp only[f240,zA];obtain⟨G,x,y,m⟩:∃G:Heap,g.new g.next (.row c.ps[i].cells)=G/\G.at' g.next=some (.row c.ps[i].cells)/\Ext g G:=⟨_,rfl,z8 _ _ _,(Ext.refl g).new (zD _) _⟩;rw[x]at t;have B:=λn=>l n G m;rcases i with _|j
 ·have h0:decide (((0:Nat):Int)>0)=false:=rfl
  repeat' first|simp only[go_sem, *]|apply bc<;>intro f|(refine zE.mono (k _ _) ?_;rintro r h ⟨v,rfl⟩)
  refine qH Heap.emp [(0,.no,false),(1,.no,false),(2,.no,false),(3,.no,false),(4,.no,false),(5,.no,false),(6,.no,false),(7,.no,false),(8,.no,false),(15,.no,false),(9,.no,false),(10,.no,false),(11,.no,false),(12,.no,false),(13,.no,false),(14,.no,false),(16,.no,false),(17,.no,false),(18,.no,false),(19,.no,false)] kr kr (λi H e=>by cases e) ?_;exact au
 ·have h0:decide (((j+1:Nat):Int)>0)=true:=zS ow;have K:IntKind.i64.wrap (((j+1:Nat):Int)-1)=(j:Int):=by rw[qU (by have:=s.ps;omega) (by have:=s.ps;omega)];omega
  have J:=aY u (show j<c.ps.length by omega);have o:=q c.ps[j] c.ps[j+1]
  repeat' first|simp only[go_sem, *]|apply bc<;>intro f|(refine zE.mono (k _ _) ?_;rintro r h ⟨v,rfl⟩)
  refine qH Heap.emp [(0,.no,false),(1,.no,false),(2,.no,false),(3,.no,false),(4,.no,false),(5,.no,false),(6,.no,false),(7,.no,false),(8,.no,false),(15,.no,false),(9,.no,false),(10,.no,false),(11,.no,false),(12,.no,false),(13,.no,false),(14,.no,false),(16,.no,false),(17,.no,false),(18,.no,false),(19,.no,false)] kr kr (λi H e=>by cases e) ?_
  repeat' first|simp only[go_sem, *]|apply bc<;>intro f|(refine zE.mono (o _) ?_;rintro r h ⟨v,w,rfl⟩)
def JA(x y:Cla)(g:Heap):zE prog 314 [.agg x.cells,.agg y.cells] g λr h'=>h'=g/\∃b,r=.bool b:=by
 refine xP λQ c=> ?_;have a:∀b,Q (.bool b) g:=λb=>c _ _ ⟨rfl,b,rfl⟩;refine zu zLD ?_;simp only[f314,zA];simp only[Cla.cells];exact au
def Q4(s:List UInt8)(n:s.length<=1048576)(g:Heap):zE prog 313 [.str s] g λr h'=>h'=g/\∃b,r=.bool b:=by
 refine xP λQ j=> ?_;have c:∀b,Q (.bool b) g:=λb=>j _ _ ⟨rfl,b,rfl⟩;have d:∀h,mC prog 9 (.str s) h=some (.int .i64 s.length):=λh=>sJ underlying9;refine zu zLC ?_;simp only[f313,zA]
 repeat' first|simp only[go_sem, *]|apply bc<;>intro m
 refine zd (λi fr h=>fr 0=.str s/\fr 3=.int .i64 (i:Int)/\h=g) s.length ow ?_ ?_ ?_
 ·simp only[go_sem,zT,zV,zI]
 ·rintro i fr h a e1 l ⟨e,f,rfl⟩;have k:nn prog 9 (.str s) (.int .i64 (i:Int))=some (.int .u8 s[i].toNat):=rK underlying9 (zB a);exact au
 ·rintro fr h e1 ⟨e,f,rfl⟩;exact au
def jR(s:List UInt8)(t:s.length<=1048576)(g:Heap):zE prog 311 [.str s] g λr h'=>h'=g/\∃b,r=.bool b:=by
 refine xP λQ k=> ?_;have c:∀b,Q (.bool b) g:=λb=>k _ _ ⟨rfl,b,rfl⟩;have d:∀h,mC prog 9 (.str s) h=some (.int .i64 s.length):=λh=>sJ underlying9;refine zu zLA ?_;simp only[f311,zA];cases h0:decide ((s.length:Int)<1)with
 |true=>
  repeat' first|simp only[go_sem, *]|apply bc<;>intro l
 |false=>
  have j:=yO h0;have m:0<s.length:=ow;have o:nn prog 9 (.str s) (.int .i64 0)=some (.int .u8 s[0].toNat):=rK (n:=0) underlying9 (zB m)
  repeat' first|simp only[go_sem, *]|apply bc<;>intro l
  refine zd (λi fr h=>fr 0=.str s/\fr 3=.int .i64 (i:Int)/\h=g) s.length ow ?_ ?_ ?_
  ·simp only[go_sem,zT,zV,zI]
  ·rintro i fr h a e1 q ⟨e,f,rfl⟩;have p:nn prog 9 (.str s) (.int .i64 (i:Int))=some (.int .u8 s[i].toNat):=rK underlying9 (zB a);exact au
  ·rintro fr h e1 ⟨e,f,rfl⟩;exact au
def RE(z:s.length<=1048576)(g:Heap):zE prog 312 [.str s] g λr h'=>h'=g/\∃a:List (List UInt8),yi 1 (wn a) r/\a.length<=s.length+1:=by
 refine xU kr λx=>xS ?_;refine xP λQ p=> ?_;have q:Q .nilsl g:=p _ _ ⟨Ext.refl g,trivial,[],.inl ⟨rfl,rfl⟩,by simp⟩;have l:∀a d h,Own g h 1 (wn a) d->a.length<=s.length+1->Q d h:=λa d h b y=>p _ _ ⟨(b.fin uo).1,(b.fin uo).2.1,a,(b.fin uo).2.2.isSl,y⟩;refine zu zLB ?_;simp only[f312,zA]
 repeat' first|simp only[go_sem, *]|apply bc<;>intro k
 refine zd (λi fr h'=>fr 0=.str s/\fr 5=.int .i64 (i:Int)/\∃ (d:D) (a:List (List UInt8)) (f:Nat),fr 3=d/\fr 4=.int .i64 (f:Int)/\f<=i/\a.length<=i/\Own g h' 1 (wn a) d) s.length ow ?_ ?_ ?_
 ·simp only[go_sem,zT,zV,zI];exact⟨.nilsl,[],0,rfl,rfl,zD _,zD _,Own.start (Ext.refl g) 1⟩
 ·rintro i fr h' c e1 m ⟨t,w,d,a,f,u,v,hf,n,b⟩;have j:((s[i].toNat:Int)==10)=(s[i]==10):=zLz s[i] 10;cases k:(s[i]==10)with
  |true=>
   repeat' first|simp only[go_sem,Fs c,j,JW hf (Nat.le_of_lt c),gu,m, *]|apply bc<;>intro k
   refine b.str ow λo h' e=> ?_
   repeat' first|simp only[go_sem,m, *]|apply bc<;>intro k
   exact⟨o,_,i+1,rfl,rfl,zD _,by simp;omega,e⟩
  |false=>
   repeat' first|simp only[go_sem,Fs c,j,m, *]|apply bc<;>intro k
   exact⟨d,a,f,rfl,rfl,by omega,by omega,b⟩
 ·rintro fr h' e1 ⟨t,w,d,a,f,u,v,hf,n,b⟩
  repeat' first|simp only[go_sem,Cx hf,gu, *]|apply bc<;>intro k
  refine b.str ow λo h' e=> ?_;have A:=l _ _ _ e (by simp;omega);exact au
def GV(t:uc c d)(P:c.Sm)(O:i<c.ls.length)(g:Heap):zE prog 237 [d,.int .i64 (i:Int)] g λr h'=>h'=g/\∃n,r=.int .i64 n/\(n=0->0<=(c.ls[i]).ver/\(c.ls[i]).ver<=999):=by
 refine xU kr λa0=>xS ?_;refine xP λQ M=> ?_;have F:=P.ls.2 _ (zH O);have hl:=P.ls.1;obtain⟨a,b,e,p,rfl,N,hb,he,hp⟩:=t;have R:=pu N O;have m:∀j,j<c.ls.length->∃y:Lic,yt prog 22 a (.int .i64 (j:Int))=some (.iptr [.str y.name,.str y.fam,.int .i64 y.ver,.str y.text] 0):=λj hj=>⟨_,pu N hj⟩;generalize hx:c.ls[i]=x at *
 obtain⟨z,v,s,A⟩:=x;obtain⟨m1,m2,m3⟩:=F;have u:=hA ⟨z,v,s,A⟩ g g.next;have B:=jR z m1;have C:=jR v m2;have U:=RE m3;have V:=Q4 A m3;simp only[Lic.cells]at R u;obtain⟨G,hG,ag,L⟩:∃G:Heap,g.new g.next (.row [.str z,.str v,.int .i64 s,.str A])=G/\G.at' g.next=some (.row [.str z,.str v,.int .i64 s,.str A])/\Ext g G:=⟨_,rfl,z8 _ _ _,(Ext.refl g).new (zD _) _⟩;rw[hG]at u;have f:∀n,n≠0->Q (.int .i64 n) G:=λn hn=>M _ _ ⟨L,trivial,n,rfl,λq=>absurd q hn⟩;have I:=f 2 (by decide);have f3:=f 3 (by decide);have f4:=f 4 (by decide);have J:=f 5 (by decide);have K:=f 6 (by decide)
 have Z:=f 10 (by decide);have H:decide (s<0)=false->decide (s>999)=false->Q (.int .i64 0) G:=λq1 q2=>M _ _ ⟨L,trivial,0,rfl,λ_=>⟨show 0<=s by have:=yO q1;omega,show s<=999 by have:=yO q2;omega⟩⟩;refine zu zKn ?_;simp only[f237,zA];cases v1:decide (s<0)with
 |true=>
  repeat' first|simp only[go_sem, *]|apply bc<;>intro t|(refine zE.mono (B _) ?_;rintro r h ⟨l,w,rfl⟩)|(refine zE.mono (C _) ?_;rintro r h ⟨l,w,rfl⟩)
 |false=>
 cases v2:decide (s>999)with
 |true=>
  repeat' first|simp only[go_sem, *]|apply bc<;>intro t|(refine zE.mono (B _) ?_;rintro r h ⟨l,w,rfl⟩)|(refine zE.mono (C _) ?_;rintro r h ⟨l,w,rfl⟩)
 |false=>
 have H:=H v1 v2
 repeat' first|simp only[go_sem, *]|apply bc<;>intro t|(refine zE.mono (B _) ?_;rintro r h ⟨l,w,rfl⟩)|(refine zE.mono (C _) ?_;rintro r h ⟨l,w,rfl⟩)
 refine(U _).mono ?_;rintro r h2 ⟨E,ps,D,_⟩;subst E;have ai:=wh D;have hB:=A0
 repeat' first|simp only[go_sem, *]|apply bc<;>intro t|(refine zE.mono (V _) ?_;rintro r h ⟨l,w,rfl⟩)
 refine fS (λo h'=>KU (o 58)/\o 1=.int .i64 (i:Int)/\o 2=.iptr [a,b,e,p] 0/\o 5=.ptr g.next 0/\h'=h2) ?_ ?_
 ·rcases i with _|j
  ·have h0:decide (((0:Nat):Int)>0)=false:=rfl;refine yI kr ?_;exact au
  ·have h0:decide (((j+1:Nat):Int)>0)=true:=zS ow;have X:IntKind.i64.wrap (((j+1:Nat):Int)-1)=(j:Int):=by rw[qU ow ow];omega
   obtain⟨y,S⟩:=m j ow;refine yI kr ?_;exact au
 rintro fr h' ⟨⟨T,ad⟩,g1,g2,g5,l⟩;generalize g.next=n0 at *
 subst l
 repeat' first|simp only[go_sem, *]|apply bc<;>intro t
 refine zd (λk fr h=>fr 1=.int .i64 (i:Int)/\fr 2=.iptr [a,b,e,p] 0/\fr 5=.ptr n0 0/\fr 6=.int .i64 (k:Int)/\h=h') i ow ?_ ?_ ?_
 ·simp only[go_sem,zT,zV,zI,g1,g2,g5]
 ·rintro k fr h ak W X ⟨Y,I,J,K,l⟩;subst l;obtain⟨y,S⟩:=m k ow
  repeat' first|simp only[go_sem, *]|apply bc<;>intro t
  refine yI kr ?_;exact au
 ·rintro fr h W ⟨Y,I,J,K,l⟩;subst l;exact au
def GU(s:uc c d)(J:c.Sm)(P:i<c.es.length)(g:Heap):zE prog 238 [d,.int .i64 (i:Int)] g λr h'=>h'=g/\∃n,r=.int .i64 n:=by
 refine xU kr λai=>xS ?_;refine xP λQ hQ=> ?_;have H:=gX s J;have u:∀n h,Ext g h->Q (.int .i64 n) h:=λn h F=>hQ _ _ ⟨F,trivial,n,rfl⟩;obtain⟨o1,o2,o3⟩:=J.es.2 _ (zH P);have hl:=J.es.1;obtain⟨a,b,e,p,rfl,ha,O,he,hp⟩:=s;have S:=cC O P;have ak:∀a b c:D,yW true 3 [a,b,c] 0=some (.agg [a,b,c]):=λa b c=>zJ rfl ow;have q:∀j,j<c.es.length->∃y:Exc,yt prog 23 b (.int .i64 (j:Int))=some (.iptr [.str y.name,.str y.lic,y.d] 0):=λj I=>⟨_,cC O I⟩;generalize hx:c.es[i]=x at *
 obtain⟨v,A,lf,t⟩:=x;have U:=jR v o3;have o2:lf.length<=1048576:=o2;have R:=nQ o1;have m:∀j,j<lf.length->∃z:Int,yt prog 30 t (.int .i64 (j:Int))=some (.iptr [.int .i64 z] 0):=λj I=>⟨_,gV o1 I⟩;simp only[Exc.cells]at S;have K:yX prog 122 (.ptr g.next 0) (.agg [.str v,.str A,t]) (g.new g.next (.row [.str [],.str [],.nilsl]))=some (g.new g.next (.row [.str v,.str A,t])):=qK WF ow rfl rfl (by show(true&&(true&&(t.flat&&true)))=true;rw[kH o1];rfl)
 obtain⟨G,hG,ad,F⟩:∃G:Heap,g.new g.next (.row [.str v,.str A,t])=G/\G.at' g.next=some (.row [.str v,.str A,t])/\Ext g G:=⟨_,rfl,z8 _ _ _,(Ext.refl g).new (zD _) _⟩;rw[hG]at K;have ag:=λn=>u n G F;generalize hn:g.next=L at *
 refine zu zKo ?_;simp only[f238,zA]
 repeat' first|simp only[go_sem, *]|apply bc<;>intro s|(refine zE.mono (U _) ?_;rintro r h ⟨f,w,rfl⟩)|(refine zE.mono (H _ _) ?_;rintro r h ⟨f,rfl⟩)
 refine zd (λk fr h=>fr 1=.int .i64 (i:Int)/\fr 2=.iptr [a,b,e,p] 0/\fr 5=.ptr L 0/\fr 6=.int .i64 (k:Int)/\h=G) lf.length ow ?_ ?_ ?_
 ·simp only[go_sem,zT,zV,zI]
 ·rintro k fr h o B N ⟨V,W,C,X,f⟩;subst f;obtain⟨z,M⟩:=m k o;exact au
 ·rintro fr h B ⟨V,W,C,X,f⟩;subst f;have hB:=A0
  repeat' first|simp only[go_sem, *]|apply bc<;>intro s
  refine fS (λl h'=>KU (l 62)/\l 5=.ptr L 0/\h'=h) ?_ ?_
  ·rcases i with _|j
   ·have h0:decide (((0:Nat):Int)>0)=false:=rfl;refine yI kr ?_;exact au
   ·have h0:decide (((j+1:Nat):Int)>0)=true:=zS ow;have N:IntKind.i64.wrap (((j+1:Nat):Int)-1)=(j:Int):=by rw[qU ow ow];omega
    obtain⟨y,M⟩:=q j ow;refine yI kr ?_;exact au
  rintro l G ⟨⟨T,Y⟩,E,rfl⟩
  repeat' first|simp only[go_sem, *]|apply bc<;>intro s
  refine ZT (λk fr h=>fr 5=.ptr L 0/\fr 7=.int .i64 (k:Int)/\h=G) lf.length ow ?_ ?_ ?_
  ·simp only[go_sem,zT,zV,zI,E];rfl
  ·rintro k fr h o B N e1 ⟨C,Z,f⟩;subst f;obtain⟨z1,M⟩:=m k ow;obtain⟨z2,a3⟩:=m (k+1) o
   repeat' first|simp only[go_sem, *]|apply bc<;>intro s
   all_goals
    refine yI kr ?_;exact au
  ·rintro k fr h B ⟨C,Z,f⟩;subst f;exact au
def neB(p q:Bool):Bool:=p !=q
@[go_sem] theorem zH3(c p q:Bool):jI prog .neq 4 c (.bool p) (.bool q)=some (.bool (neB p q)):=by cases p<;>cases q<;>simp[jI,FZ,oe,veq,underlying4,neB]
theorem GT(l:uc c d)(R:c.Sm)(W:i<c.cs.length)(g:Heap):zE prog 239 [d,.int .i64 (i:Int)] g λr h'=>h'=g/\∃n,r=.int .i64 n:=by
 refine xU kr λai=>xS ?_;refine xP λQ hQ=> ?_;have B:=gX l R;have P:=JA;have C:∀n h,Ext g h->Q (.int .i64 n) h:=λn h N=>hQ _ _ ⟨N,trivial,n,rfl⟩;obtain⟨o1,o2⟩:=R.cs.2 _ (zH W);have hl:=R.cs.1;obtain⟨a,b,e,p,rfl,ha,hb,V,hp⟩:=l;have Z:=gU V W;have ak:∀a b c e f:D,yW true 5 [a,b,c,e,f] 0=some (.agg [a,b,c,e,f]):=λa b c e f=>zJ rfl ow;have t:∀j,j<c.cs.length->∃y:Cla,yt prog 24 e (.int .i64 (j:Int))=some (.iptr [.str y.lic,.int .i64 y.way,.int .i64 y.rel,.int .i64 y.duty,y.d] 0):=λj O=>⟨_,gU V O⟩;generalize hx:c.cs[i]=x at *
 obtain⟨E,I,H,v,F,u⟩:=x;have X:=wh o1;have q:∀j,j<F.length->∃z:List UInt8,yt prog 45 u (.int .i64 (j:Int))=some (.iptr [.str z] 0):=λj O=>⟨_,rP o1 O⟩;simp only[Cla.cells]at Z;have S:yX prog 126 (.ptr g.next 0) (.agg [.str E,.int .i64 I,.int .i64 H,.int .i64 v,u]) (g.new g.next (.row [.str [],.int .i64 0,.int .i64 0,.int .i64 0,.nilsl]))=some (g.new g.next (.row [.str E,.int .i64 I,.int .i64 H,.int .i64 v,u])):=qK fI ow rfl rfl (by show(true&&(true&&(true&&(true&&(u.flat&&true)))))=true;rw[kH o1];rfl)
 obtain⟨G,hG,ad,N⟩:∃G:Heap,g.new g.next (.row [.str E,.int .i64 I,.int .i64 H,.int .i64 v,u])=G/\G.at' g.next=some (.row [.str E,.int .i64 I,.int .i64 H,.int .i64 v,u])/\Ext g G:=⟨_,rfl,z8 _ _ _,(Ext.refl g).new (zD _) _⟩;rw[hG]at S;have ag:=λn=>C n G N;have hB:=A0;have o2:F.length<=1048576:=o2;generalize hn:g.next=Y at *
 refine zu zKp ?_;simp only[f239,zA]
 repeat' first|simp only[go_sem, *]|apply bc<;>intro l|(refine zE.mono (B _ _) ?_;rintro r h ⟨m,rfl⟩)
 refine zd (λk fr h=>fr 1=.int .i64 (i:Int)/\fr 2=.iptr [a,b,e,p] 0/\fr 5=.ptr Y 0/\fr 6=.int .i64 (k:Int)/\h=G) F.length ow ?_ ?_ ?_
 ·simp only[go_sem,zT,zV,zI]
 ·rintro k fr h s M U ⟨J,K,L,f6,m⟩;subst m;obtain⟨z,T⟩:=q k s
  repeat' first|simp only[go_sem, *]|apply bc<;>intro l
  refine yI kr ?_
  repeat' first|simp only[go_sem, *]|apply bc<;>intro l|(refine zE.mono (B _ _) ?_;rintro r h ⟨m,rfl⟩)
 ·rintro fr h M ⟨J,K,L,f6,m⟩;subst m
  repeat' first|simp only[go_sem, *]|apply bc<;>intro l
  refine ZT (λk o h'=>o 1=.int .i64 (i:Int)/\o 2=.iptr [a,b,e,p] 0/\o 5=.ptr Y 0/\o 7=.int .i64 (k:Int)/\h'=h) F.length ow ?_ ?_ ?_
  ·simp only[go_sem,zT,zV,zI,J,K,L];rfl
  ·rintro k fr h s M U e1 ⟨J,K,L,f7,m⟩;subst m;obtain⟨z1,T⟩:=q k ow;obtain⟨z2,a3⟩:=q (k+1) s
   repeat' first|simp only[go_sem, *]|apply bc<;>intro l
   refine yI kr ?_;exact au
  ·rintro k fr h M ⟨J,K,L,f7,m⟩;subst m;rcases i with _|j
   ·have h0:decide (((0:Nat):Int)>0)=false:=rfl
    repeat' first|simp only[go_sem, *]|apply bc<;>intro l
    refine qH Heap.emp [(0,.no,false),(1,.no,false),(2,.no,false),(9,.no,false),(3,.no,false),(4,.no,false),(5,.no,false),(6,.no,false),(7,.no,false),(8,.no,false),(10,.no,false),(11,.no,false),(12,.no,false)] kr kr (λi ob e=>by cases e) ?_;exact au
   ·have h0:decide (((j+1:Nat):Int)>0)=true:=zS ow;have U:IntKind.i64.wrap (((j+1:Nat):Int)-1)=(j:Int):=by rw[qU ow ow];omega
    obtain⟨y,T⟩:=t j ow;have A:=P y ⟨E,I,H,v,F,u⟩;simp only[Cla.cells]at A
    repeat' first|simp only[go_sem, *]|apply bc<;>intro l
    refine qH Heap.emp [(0,.no,false),(1,.no,false),(2,.no,false),(9,.no,false),(3,.no,false),(4,.no,false),(5,.no,false),(6,.no,false),(7,.no,false),(8,.no,false),(10,.no,false),(11,.no,false),(12,.no,false)] kr kr (λi ob e=>by cases e) ?_
    repeat' first|simp only[go_sem, *]|apply bc<;>intro l|(refine zE.mono (A _) ?_;rintro r h ⟨m,w,rfl⟩)
def mJ(k:uc c d)(v:c.Sm)(g:Heap):zE prog 201 [d] g λr h'=>h'=g/\∃n,r=.int .i64 n/\(n=0->∀x∈c.ls,0<=x.ver/\x.ver<=999):=by
 refine xP λQ F=> ?_;have J:=λi u=>GV (i:=i) k v u;have K:=λi u=>GU (i:=i) k v u;have L:=λi u=>GT (i:=i) k v u;have M:=λi u=>JB (i:=i) k v u;have l:∀n,(n==0)=false->Q (.int .i64 n) g:=λn B=>F _ _ ⟨rfl,n,rfl,λq=>by simp[q]at B⟩;have z:(∀x∈c.ls,0<=x.ver/\x.ver<=999)->Q (.int .i64 0) g:=λs=>F _ _ ⟨rfl,0,rfl,λ_=>s⟩;have N:=l 10 rfl;obtain⟨a,b,e,p,rfl,O,P,R,S⟩:=k;have W:=rS O;have X:=fw P;have Y:=jb R;have Z:=bT S;have s1:=v.ls.1;have s2:=v.es.1;have s3:=v.cs.1;have s4:=v.ps
 obtain⟨V,G,I,H⟩:∃V:Nat->Prop,V 0/\(∀i (u:i<c.ls.length),V i->(0<=(c.ls[i]).ver/\(c.ls[i]).ver<=999)->V (i+1))/\(V c.ls.length->∀x∈c.ls,0<=x.ver/\x.ver<=999):=by
  refine⟨λi=>∀j (A:j<c.ls.length),j<i->0<=(c.ls[j]).ver/\(c.ls[j]).ver<=999,λj A h0=>by omega,λi u s B j A D=> ?_,λs x U=> ?_⟩
  ·rcases z7.1 D with h|rfl
   ·exact s j A h
   ·exact B
  ·obtain⟨j,A,rfl⟩:=yD.1 U;exact s j A A
 have E:=λs=>z (H s);refine zu zKg ?_;simp only[f201,zA]
 repeat' first|simp only[go_sem, *]|apply bc<;>intro k
 refine zd (λi fr h=>fr 1=.iptr [a,b,e,p] 0/\fr 3=.int .i64 (i:Int)/\h=g/\V i) c.ls.length ow ?_ ?_ ?_
 ·simp only[go_sem,zT,zV,zI,G]
 ·rintro i fr h m w C ⟨t,y,f,s⟩;subst f
  repeat' first|simp only[go_sem, *]|apply bc<;>intro k
  refine(J i m _).mono ?_;rintro r h' ⟨f,n,rfl,B⟩;subst f;cases o:(n==0)with
  |false=>
   have hf:=l n o
   repeat' first|simp only[go_sem, *]|apply bc<;>intro k
  |true=>
   have T:=I i m s (B (by simpa using o));exact au
 rintro fr h w ⟨t,y,f,s⟩;subst f;have E:=E s
 repeat' first|simp only[go_sem, *]|apply bc<;>intro k
 refine zd (λi fr h'=>fr 1=.iptr [a,b,e,p] 0/\fr 5=.int .i64 (i:Int)/\h'=h) c.es.length ow ?_ ?_ ?_
 ·simp only[go_sem,zT,zV,zI,t]
 ·rintro i fr h m w C ⟨t,y,f⟩;subst f
  repeat' first|simp only[go_sem, *]|apply bc<;>intro k
  refine(K i m _).mono ?_;rintro r h' ⟨f,n,rfl⟩;subst f;cases o:(n==0)with
  |false=>
   have hf:=l n o
   repeat' first|simp only[go_sem, *]|apply bc<;>intro k
  |true=>
   exact au
 rintro fr h w ⟨t,y,f⟩;subst f
 repeat' first|simp only[go_sem, *]|apply bc<;>intro k
 refine zd (λi fr h'=>fr 1=.iptr [a,b,e,p] 0/\fr 7=.int .i64 (i:Int)/\h'=h) c.cs.length ow ?_ ?_ ?_
 ·simp only[go_sem,zT,zV,zI,t]
 ·rintro i fr h m w C ⟨t,y,f⟩;subst f
  repeat' first|simp only[go_sem, *]|apply bc<;>intro k
  refine(L i m _).mono ?_;rintro r h' ⟨f,n,rfl⟩;subst f;cases o:(n==0)with
  |false=>
   have hf:=l n o
   repeat' first|simp only[go_sem, *]|apply bc<;>intro k
  |true=>
   exact au
 rintro fr h w ⟨t,y,f⟩;subst f
 repeat' first|simp only[go_sem, *]|apply bc<;>intro k
 refine zd (λi fr h'=>fr 1=.iptr [a,b,e,p] 0/\fr 9=.int .i64 (i:Int)/\h'=h) c.ps.length ow ?_ ?_ ?_
 ·simp only[go_sem,zT,zV,zI,t]
 ·rintro i fr h m w C ⟨t,y,f⟩;subst f
  repeat' first|simp only[go_sem, *]|apply bc<;>intro k
  refine(M i m _).mono ?_;rintro r h' ⟨f,n,rfl⟩;subst f;cases o:(n==0)with
  |false=>
   have hf:=l n o
   repeat' first|simp only[go_sem, *]|apply bc<;>intro k
  |true=>
   exact au
 rintro fr h w ⟨t,y,f⟩;subst f;exact au
def AT{l:List α}{p:α->Bool}(h:decide (UO p l<0)=false):∃j,∃_:j<l.length,UO p l=(j:Int):=by
 unfold UO at h⊢;cases hf:l.findIdx? p with
 |none=>rw[hf]at h;cases h
 |some i=>exact⟨i,(qi.1 hf).1,rfl⟩
def Ww(m:uc c d)(z:c.Sm)(k:List UInt8)(g:Heap):zE prog 139 [d,.str k] g λr h'=>h'=g/\∃ (x:Lic) (b:Bool),r=.tuple [.agg [.str x.name,.str x.fam,.int .i64 x.ver,.str x.text],.bool b]/\(b=true->0<=x.ver/\x.ver<=999):=by
 refine xU kr λM=> ?_;refine xP λQ E=> ?_;have u:=mJ m z;have f:=gX m z k;obtain⟨a,b,e,p,rfl,I,w,T,U⟩:=m;have J:qd prog 117 []=some (.agg aV):=by simp[qd,Xq,WR,ur,D.notTuple,D.cells]
 have l:∀(x:Lic)(H:Heap),H.at' g.next=some (.row aV)->yX prog 117 (.ptr g.next 0) (.agg [.str x.name,.str x.fam,.int .i64 x.ver,.str x.text]) H=some (H.set g.next (.row [.str x.name,.str x.fam,.int .i64 x.ver,.str x.text])):=λx H h=>qp h jr rfl (by simp) rfl;obtain⟨G,S,A,B,V⟩:∃G,g.new g.next (.row aV)=G/\G.at' g.next=some (.row aV)/\Ext g G/\g.next<G.next:=⟨_,rfl,z8 _ _ _,(Ext.refl g).new (zD _) _,by rw[za];omega⟩
 have o:∀(x:Lic)(b:Bool),(b=true->0<=x.ver/\x.ver<=999)->Q (.tuple [.agg [.str x.name,.str x.fam,.int .i64 x.ver,.str x.text],.bool b]) (G.set g.next (.row [.str x.name,.str x.fam,.int .i64 x.ver,.str x.text])):=λx b w=>E _ _ ⟨B.set (id:=g.next) (zD _) _,by simp[below,qO],x,b,rfl,w⟩;have W:yX prog 117 (.ptr g.next 0) (.agg aV) G=some (G.set g.next (.row aV)):=l ⟨[],[],0,[]⟩ G A;have R:Q (.tuple [.agg aV,.bool false]) (G.set g.next (.row aV)):=o ⟨[],[],0,[]⟩ false (λq=>by cases q);have l:=λx=>l x G A
 obtain⟨X,F,t⟩:∃X,UO (λx:Lic=>x.name==k) c.ls=X/\(decide (X<0)=false->∃j,∃_:j<c.ls.length,X=(j:Int)):=⟨_,rfl,AT⟩;rw[F]at f;refine zu zKH ?_;simp only[f139,zA]
 repeat' first|simp only[go_sem, *]|apply bc<;>intro m
 refine(u _).mono ?_;rintro r h' ⟨s,n,rfl,L⟩;subst s;cases v:(n==0)with
 |false=>
  repeat' first|simp only[go_sem,zW, *]|apply bc<;>intro m
 |true=>
  have O:=L (by simpa using v);cases v0:decide (X<0)with
  |true=>
   repeat' first|simp only[go_sem,zW, *]|apply bc<;>intro m|(refine zE.mono (f _) ?_;rintro r h ⟨s,rfl⟩)
  |false=>
   obtain⟨j,y,rfl⟩:=t v0;have C:=pu I y;simp only[Lic.cells]at C;have hf:=o c.ls[j] true (λ_=>O _ (zH y));have N:=l c.ls[j]
   repeat' first|simp only[go_sem,zW, *]|apply bc<;>intro m|(refine zE.mono (f _) ?_;rintro r h ⟨s,rfl⟩)
   have K:∀h,HLe Heap.emp h:=λh i P e=>by cases e
   refine qH Heap.emp [(2,.no,true),(0,.no,true),(1,.st,true),(3,.no,true),(4,.no,true),(5,.no,true),(6,.no,true),(7,.no,true),(8,.no,true)] kr kr (λi P e=>by cases e) ?_
   repeat' first|simp only[go_sem,zW, *]|apply bc<;>intro m|(refine zE.mono (f _) ?_;rintro r h ⟨s,rfl⟩)
def OwL(G h:Heap)(d:D)(m:Nat):Prop:=∃ps,Own G h 1 (wn ps) d/\ps.length<=m
def Wx(o:uc c d)(hs:c.Sm)(Z:c.ls.length<=40)(k:List UInt8)(g:Heap):zE prog 154 [d,.str k] g λr h'=>h'=g/\∃ (f:List (List UInt8)) (q:D) (n:Int),r=.tuple [q,.int .i64 n]/\yi 1 (wn f) q/\f.length<=65536:=by
 refine xU kr λad=>xS ?_;refine xP λQ P=> ?_;have L:=Ww o hs k;have E:∀n h,Ext g h->Q (.tuple [.nilsl,.int .i64 n]) h:=λn h u=>P _ _ ⟨u,by simp[qD,qY,below,qO],[],.nilsl,n,by simp[qD,qY],.inl ⟨rfl,rfl⟩,by simp⟩;have s:∀(G:Heap) f d n h,Ext g G->Own G h 1 (wn f) d->f.length<=65536->Q (.tuple [d,.int .i64 n]) h:=λG f d n h u m U=>by
  have hf:=m.2.1.fin uo;have S:=qF (yC g.next) _ hf.1;exact P _ _ ⟨u.trans m.1,by simp[qD,qY,below,qO,S],f,qD d,n,by simp[qD,qY],hf.2.isSl,U⟩
 obtain⟨a,b,e,p,rfl,R,S,he,U⟩:=o;have l1:=rS R;refine zu zKL ?_;simp only[f154,zA]
 repeat' first|simp only[go_sem, *]|apply bc<;>intro o
 refine(L _).mono ?_;rintro r h0 ⟨N,x,W,rfl,hv⟩;subst N;obtain⟨G,hG,J,u,B⟩:∃G:Heap,h0.new h0.next (.row [.str x.name,.str x.fam,.int .i64 x.ver,.str x.text])=G/\G.at' h0.next=some (.row [.str x.name,.str x.fam,.int .i64 x.ver,.str x.text])/\Ext h0 G/\h0.next<G.next:=⟨_,rfl,z8 _ _ _,(Ext.refl h0).new (zD _) _,by rw[za];omega⟩;have O:=hA x h0 h0.next;rw[hG]at O;cases W with
 |false=>
  have hn:=E 7 G u
  repeat' first|simp only[go_sem, *]|apply bc<;>intro o
 |true=>
 obtain⟨v0,v1⟩:=hv rfl;have s:=λf d h=>s G f d 0 h u;have F:∀h,Ext G h->h.at' h0.next=some (.row [.str x.name,.str x.fam,.int .i64 x.ver,.str x.text]):=λh u=>by rw[u.2 _ B];exact J
 repeat' first|simp only[go_sem, *]|apply bc<;>intro o
 refine qx (λi fr h=>fr 2=.iptr [a,b,e,p] 0/\fr 6=.ptr h0.next 0/\fr 9=.int .i64 (x.ver+(i:Int))/\OwL G h (fr 8) (i*40)) (1000-x.ver).toNat ?_ ?_
 ·simp only[go_sem,zT,zV,zI];exact⟨by rw[Int.add_zero],[],Own.start (Ext.refl G) 1,by simp⟩
 rintro i fr h T ⟨y,z,A,f,m,v⟩;obtain⟨d,t⟩:∃d,fr 8=d:=⟨_,rfl⟩;rw[t]at m;have H:i<=1000:=ow;by_cases B:i<(1000-x.ver).toNat
 ·have K:decide (x.ver+(i:Int)<=999)=true:=zS ow;have hw:IntKind.i64.wrap (x.ver+(i:Int)+1)=x.ver+((i+1:Nat):Int):=by rw[qU ow ow];omega
  repeat' first|simp only[go_sem, *]|apply bc<;>intro o
  refine zd (λj fr h=>fr 2=.iptr [a,b,e,p] 0/\fr 6=.ptr h0.next 0/\fr 9=.int .i64 (x.ver+(i:Int))/\fr 10=.int .i64 (j:Int)/\OwL G h (fr 8) (i*40+j)) c.ls.length ow ?_ ?_ ?_
  ·simp only[go_sem,zT,zV,zI,y,z,A];rw[t];exact⟨f,m,by omega⟩
  ·clear y z A t m v;rintro j fr h C X ew ⟨y,z,A,w,f,m,v⟩;obtain⟨d,t⟩:∃d,fr 8=d:=⟨_,rfl⟩;rw[t]at m;have hr:=F h m.1;have V:=pu R C;simp only[Lic.cells]at V;have hB:=A0
   repeat' first|simp only[go_sem, *]|apply bc<;>intro o
   refine fS (λl h'=>KU (l 50)/\l 2=.iptr [a,b,e,p] 0/\l 6=.ptr h0.next 0/\l 9=.int .i64 (x.ver+(i:Int))/\l 10=.int .i64 (j:Int)/\l 8=d/\h'=h) ?_ ?_
   ·refine yI kr ?_;exact au
   rintro l h' ⟨⟨I,Y⟩,y,z,A,w,t,N⟩;subst N;cases I with
   |false=>
    repeat' first|simp only[go_sem, *]|apply bc<;>intro o
    exact⟨f,m,by omega⟩
   |true=>
    repeat' first|simp only[go_sem,gu, *]|apply bc<;>intro o
    refine m.str ow λd' h' M=> ?_
    repeat' first|simp only[go_sem, *]|apply bc<;>intro o
    exact⟨_,M,by simp;omega⟩
  ·rintro fr h X ⟨y,z,A,w,f,m,v⟩;obtain⟨d,t⟩:∃d,fr 8=d:=⟨_,rfl⟩;rw[t]at m
   repeat' first|simp only[go_sem, *]|apply bc<;>intro o
   exact⟨f,m,by omega⟩
 ·have K:decide (x.ver+(i:Int)<=999)=false:=zP ow;have hf:=s f d h m ow;exact au
noncomputable def zA5(a b:Int):Int:=match KS (.int .i64 a) (.int .i64 b)with
 |some (.int _ c)=>c
 |_=>0
def Fb(a b:Int):KS (.int .i64 a) (.int .i64 b)=some (.int .i64 (zA5 a b)):=by
 unfold zA5;simp only[KS,qS]
def zHA(a b:Int):∃c,Fa (.int .i64 a) (.int .i64 b)=some (.int .i64 c):=by
 simp only[Fa,qS];exact⟨_,rfl⟩
def zMA(a b:Int):∃c,KS (.int .i64 a) (.int .i64 b)=some (.int .i64 c):=by
 simp only[KS,qS];exact⟨_,rfl⟩
def RF{F:D}(f:uc c F)(V:c.Sm)(t:c.ls.length<=40):∀(n:Nat){e:Ex},e.size<=n->e.Ok->e.size<=1048576->∀g:Heap,zE prog 96 [F,.agg e.cells] g λr h'=>h'=g/\∃a b,r=.tuple [.int .i64 a,.int .i64 b]:=by
 intro n
 induction n with
 |zero=>intro e h;cases e;simp only[Ex.size]at h;omega
 |succ n W=>
 intro e T p E g;refine xP λQ P=> ?_;have H:∀a b,Q (.tuple [.int .i64 a,.int .i64 b]) g:=λa b=>P _ _ ⟨rfl,a,b,rfl⟩;have y:=Wx f V t;obtain⟨ca,cb,ce,cp,rfl,_,_,_,_⟩:=f;obtain⟨k,X,x,l,d⟩:=e;simp only[Ex.size,Ex.Ok]at T p E;obtain⟨G,hl,_,_,v⟩:=p;have I:=pw G;refine zu zO2 ?_;simp only[f96,zA];simp only[Ex.cells,Ex.kind,Ex.name,Ex.exc,Ex.d];cases k0:(k==0)with
 |true=>
  repeat' first|simp only[go_sem, *]|apply bc<;>intro f
 |false=>
 cases k1:(k==1)with
 |true=>
  repeat' first|simp only[go_sem, *]|apply bc<;>intro f
  refine(y _ _).mono ?_;rintro r h ⟨j,Y,q,m,rfl,C,_⟩;subst j;have R:=wh C;obtain⟨mx,S⟩:=zHA 1 (Y.length:Int)
  repeat' first|simp only[go_sem, *]|apply bc<;>intro f
 |false=>
 repeat' first|simp only[go_sem, *]|apply bc<;>intro f
 refine zd (λi fr h=>fr 2=.iptr [ca,cb,ce,cp] 0/\fr 3=.iptr [.int .i64 k,.str X,.str x,d] 0/\fr 10=.int .i64 (i:Int)/\h=g/\IsI (fr 8)/\IsI (fr 9)) l.length ow ?_ ?_ ?_
 ·simp only[go_sem,zT,zV,zI,isI]
 ·rintro i fr h o K Z ⟨L,M,s,j,⟨u,N⟩,⟨w,O⟩⟩;subst j;have J:=kX G o;have A:l[i]∈l:=zH o;have j:=W (e:=l[i]) (by have:=uI A;omega) (px v _ A) (by have:=uI A;omega);have hI:=isI;simp only[Ex.cells]at J j;have B:∀z:Int,KS (.int .i64 z) (.int .i64 64)=some (.int .i64 (zA5 z 64)):=λz=>Fb z 64
  repeat' first|simp only[go_sem, *]|apply bc<;>intro f
  refine yI kr ?_
  repeat' first|simp only[go_sem, *]|apply bc<;>intro f|(refine zE.mono (j _) ?_;rintro r h ⟨U,a,b,rfl⟩)
 ·rintro fr h K ⟨L,M,s,j,⟨u,N⟩,⟨w,O⟩⟩;subst j;obtain⟨mn,B⟩:=zMA w 1000000;exact au
def Q6{n:D}(i:uc c n)(s:c.Sm)(f:c.ls.length<=40)(j:e.Ok)(m:e.size<=1048576)(g:Heap):zE prog 46 [n,.agg e.cells] g λr h'=>h'=g/\∃a,r=.int .i64 a:=by
 refine xP λQ q=> ?_;have o:∀a,Q (.int .i64 a) g:=λa=>q _ _ ⟨rfl,a,rfl⟩;have p:=RF i s f e.size (zD _) j m;obtain⟨ca,cb,ce,cp,rfl,_,_,_,_⟩:=i;obtain⟨k,u,x,l,d⟩:=e;refine zu zOm ?_;simp only[f46,zA];simp only[Ex.cells]at p⊢
 repeat' first|simp only[go_sem, *]|apply bc<;>intro i|(refine zE.mono (p _) ?_;rintro r h ⟨t,a,b,rfl⟩)
def Kf(c:Cat):Bool:=decide ((c.ls.length:Int)>40)||decide ((c.es.length:Int)>40)||(decide ((c.cs.length:Int)>40)&&decide ((c.cs.length:Int)<=128))||decide ((c.cs.length:Int)>140)||decide ((c.ps.length:Int)>80)
theorem K7(t:uc c d)(A:c.Sm)(g:Heap):zE prog 44 [d] g λr h'=>h'=g/\∃b,r=.bool b/\(b=true->c.ls.length<=40):=by
 refine xP λQ K=> ?_;have hf:Q (.bool false) g:=K _ _ ⟨rfl,_,rfl,λq=>by cases q⟩;have u:Kf c=false->∀b,Q (.bool b) g:=λB b=>K _ _ ⟨rfl,b,rfl,λ_=>by
  unfold Kf at B;simp only[pM,wg]at B;omega⟩
 have D:=A.cs.2;have E:=A.es.2;obtain⟨a,b,e,p,rfl,L,G,H,J⟩:=t;have l1:=rS L;have S:=fw G;have T:=jb H;have U:=bT J;have s1:=A.ls.1;have s2:=A.es.1;have s3:=A.cs.1;have s4:=A.ps;refine zu zOk ?_;simp only[f44,zA];simp only[TX];refine fS (λv h'=>v 1=.iptr [a,b,e,p] 0/\h'=g) ?_ ?_
 ·exact au
 rintro fr h ⟨m,f⟩;subst f;simp only[TX];refine fS (λv h'=>v 42=.bool (Kf c)/\v 1=.iptr [a,b,e,p] 0/\h'=h) ?_ ?_
 ·clear hf u D E;unfold Kf;exact au
 rintro fr h ⟨C,m,f⟩;subst f;cases B:Kf c with
 |true=>
  rw[B]at C
  repeat' first|simp only[go_sem, *]|apply bc<;>intro t
 |false=>
 rw[B]at C;have u:=u B;have R:∀(s:List UInt8) h,mC prog 9 (.str s) h=some (.int .i64 s.length):=λs h=>sJ underlying9;have Z:=isI
 repeat' first|simp only[go_sem, *]|apply bc<;>intro t
 refine zd (λi fr h'=>fr 1=.iptr [a,b,e,p] 0/\fr 4=.int .i64 (i:Int)/\IsI (fr 3)/\h'=h) c.ls.length ow ?_ ?_ ?_
 ·simp only[go_sem,zT,zV,zI,isI,m]
 ·rintro i fr h l z F ⟨m,w,⟨n,o⟩,f⟩;subst f;have y:=pu L l;simp only[Lic.cells]at y
  repeat' first|simp only[go_sem, *]|apply bc<;>intro t
  refine yI kr ?_;exact au
 rintro fr h z ⟨m,w,⟨n,o⟩,f⟩;subst f
 repeat' first|simp only[go_sem, *]|apply bc<;>intro t
 have S:=fw G;refine zd (λi fr h'=>fr 1=.iptr [a,b,e,p] 0/\fr 5=.int .i64 (i:Int)/\IsI (fr 3)/\h'=h) c.es.length ow ?_ ?_ ?_
 ·simp only[go_sem,zT,zV,zI,isI,m,o]
 ·rintro i fr h l z F ⟨m,w,⟨n,o⟩,f⟩;subst f;have y:=cC G l;have o1:=nQ (E _ (zH l)).1;generalize c.es[i]=x at *
  simp only[Exc.cells]at y
  repeat' first|simp only[go_sem, *]|apply bc<;>intro t
  refine yI kr ?_;exact au
 rintro fr h z ⟨m,w,⟨n,o⟩,f⟩;subst f
 repeat' first|simp only[go_sem, *]|apply bc<;>intro t
 have T:=jb H;refine zd (λi fr h'=>fr 1=.iptr [a,b,e,p] 0/\fr 6=.int .i64 (i:Int)/\IsI (fr 3)/\h'=h) c.cs.length ow ?_ ?_ ?_
 ·simp only[go_sem,zT,zV,zI,isI,m,o]
 ·rintro i fr h l z F ⟨m,w,⟨n,o⟩,f⟩;subst f;have y:=gU H l;obtain⟨M,o2⟩:=D _ (zH l);have o1:=wh M;have V:=λj (P:j<c.cs[i].list.length)=>rP M P;generalize c.cs[i]=x at *
  simp only[Cla.cells]at y
  repeat' first|simp only[go_sem, *]|apply bc<;>intro t
  refine yI kr ?_
  repeat' first|simp only[go_sem, *]|apply bc<;>intro t
  refine qx (λk fr h'=>fr 1=.iptr [a,b,e,p] 0/\fr 6=.int .i64 (i:Int)/\fr 7=.int .i64 (k:Int)/\IsI (fr 3)/\h'=h) x.list.length ?_ ?_
  ·simp only[go_sem,zT,zV,zI,isI,m,w,o]
  ·rintro k fr h hk ⟨m,X,Y,⟨n,o⟩,f⟩;subst f;by_cases I:k<x.list.length
   ·have N:decide ((k:Int)<(x.list.length:Int))=true:=zS ow;have O:IntKind.i64.wrap ((k:Int)+1)=((k+1:Nat):Int):=qR (by unfold lim;omega);have W:=V k I;exact au
   ·have N:decide ((k:Int)<(x.list.length:Int))=false:=zP ow;exact au
 rintro fr h z ⟨m,w,⟨n,o⟩,f⟩;subst f
 repeat' first|simp only[go_sem, *]|apply bc<;>intro t
 have U:=bT J;refine zd (λi fr h'=>fr 1=.iptr [a,b,e,p] 0/\fr 8=.int .i64 (i:Int)/\IsI (fr 3)/\h'=h) c.ps.length ow ?_ ?_ ?_
 ·simp only[go_sem,zT,zV,zI,isI,m,o]
 ·rintro i fr h l z F ⟨m,w,⟨n,o⟩,f⟩;subst f;have y:=aY J l;simp only[Apt.cells]at y
  repeat' first|simp only[go_sem, *]|apply bc<;>intro t
  refine yI kr ?_;exact au
 rintro fr h z ⟨m,w,⟨n,o⟩,f⟩;subst f;exact au
structure Fac.Ok0(f:Fac):Prop where
 e:f.e.Ok
 list:yi 1 (wn f.list) f.d
 ll:f.list.length<=1048576
 comp:f.comp.length<=1048576
 out:f.out.length<=1048576
def Fac.Ok0.ok{f:Fac}(h:f.Ok0)(a:f.e.size<=120):f.Ok:=⟨h.e,by omega,h.list,h.ll,h.comp,h.out⟩
def BK(fs:List Fac):Prop:=((fs.length<=24\/256<fs.length)/\fs.length<=260)/\∀f∈fs,f.e.size<=120
def Fk(fs:List Fac):Prop:=((fs.length<=16\/256<fs.length)/\fs.length<=260)/\∀f∈fs,f.e.size<=120
def Fk.few(h:Fk fs):BK fs:=⟨⟨h.1.1.imp_left ow,h.1.2⟩,h.2⟩
def zBJ(n:Nat):Bool:=(decide ((n:Int)>16)&&decide ((n:Int)<=256))||decide ((n:Int)>260)
theorem K9(l:uc c d)(hs:c.Sm)(M:yi 12 (mV fs) x)(hl:fs.length<=1048576)(Y:∀f∈fs,f.Ok0)(g:Heap):zE prog 17 [d,x] g λr h'=>h'=g/\∃b,r=.bool b/\(b=true->Fk fs/\c.ls.length<=40):=by
 refine xP λQ hQ=> ?_;have hf:Q (.bool false) g:=hQ _ _ ⟨rfl,_,rfl,λq=>by cases q⟩;obtain⟨V,N,Z,Vf⟩:∃V:Nat->Prop,V 0/\(∀i (hi:i<fs.length),V i->(fs[i]).e.size<=120->V (i+1))/\(V fs.length->∀f∈fs,f.e.size<=120):=by
  refine⟨λi=>∀j (y:j<fs.length),j<i->(fs[j]).e.size<=120,λj y h0=>by omega,λi hi A hn j y W=> ?_,λA x M=> ?_⟩
  ·rcases z7.1 W with h|rfl
   ·exact A j y h
   ·exact hn
  ·obtain⟨j,y,rfl⟩:=yD.1 M;exact A j y y
 have a:c.ls.length<=40->zBJ fs.length=false->V fs.length->∀b,Q (.bool b) g:=λh4 A H b=>hQ _ _ ⟨rfl,b,rfl,λ_=>by
  unfold zBJ at A;simp only[pM,Bool.and_eq_false_iff,wg]at A;exact⟨⟨by omega,Vf H⟩,h4⟩⟩
 have a4:=pi M;have T:=K7 l hs;have u:=λt=>λ{e:Ex} S v=>Q6 (e:=e) l hs t S v;obtain⟨ca,cb,ce,cp,rfl,_,_,_,_⟩:=l;have ak:=jy;obtain⟨F,ai,p,G⟩:∃F:D->Prop,F (.bool true)/\(c.ls.length<=40->F (.bool (zBJ fs.length)))/\(∀z,F z->∃b,z=.bool b/\(b=false->c.ls.length<=40/\zBJ fs.length=false)):=⟨λz=>∃b,z=.bool b/\(b=false->c.ls.length<=40/\zBJ fs.length=false),⟨true,rfl,λq=>by cases q⟩,λq=>⟨_,rfl,λw=>⟨q,w⟩⟩,λz v=>v⟩;refine zu zOX ?_;simp only[f17,zA];simp only[TX];refine fS (λm h'=>m 1=x/\m 2=.iptr [ca,cb,ce,cp] 0/\h'=g) ?_ ?_
 ·exact au
 rintro fr h ⟨C,E,o⟩;subst o;simp only[TX];refine fS (λm h'=>F (m 26)/\m 1=x/\m 2=.iptr [ca,cb,ce,cp] 0/\h'=h) ?_ ?_
 ·clear hf a u N Z G
  repeat' first|simp only[go_sem, *]|apply bc<;>intro l
  refine(T _).mono ?_;rintro r h ⟨o,b,rfl,I⟩;subst o;cases b with
  |false=>
   repeat' first|simp only[go_sem, *]|apply bc<;>intro l
  |true=>
   have p:=p (I rfl);unfold zBJ at p;cases w1:decide ((fs.length:Int)>16)<;>cases w2:decide ((fs.length:Int)<=256)<;>cases w3:decide ((fs.length:Int)>260)
   all_goals
    rw[w1,w2,w3]at p;simp only[rx,pU,gL,cj,wu,ZX,ry,lX,wV,tz]at p;exact au
 rintro fr h ⟨U,C,E,o⟩;subst o;obtain⟨b,ag,I⟩:=G _ U;cases b with
 |true=>
  repeat' first|simp only[go_sem, *]|apply bc<;>intro l
 |false=>
 obtain⟨t,A⟩:=I rfl;have u:=λ{e:Ex} S v=>u t (e:=e) S v;have a:=a t A;have hI:=isI;have a3:∀(s:List UInt8) h,mC prog 9 (.str s) h=some (.int .i64 s.length):=λs h=>sJ underlying9
 repeat' first|simp only[go_sem, *]|apply bc<;>intro l
 refine zd (λi fr h'=>fr 1=x/\fr 2=.iptr [ca,cb,ce,cp] 0/\fr 6=.int .i64 (i:Int)/\IsI (fr 5)/\h'=h/\V i) fs.length ow ?_ ?_ ?_
 ·simp only[go_sem,zT,zV,zI,isI,N,C,E]
 ·clear a N;rintro i fr h B ec ew ⟨C,E,P,⟨n5,O⟩,o,H⟩;subst o;have a1:=tP M B;have K:=Y _ (zH B);have R:=Z i B H;generalize fs[i]=f at *
  have oi:=λj (y:j<f.list.length)=>rP K.list y;have o1:=wh K.list;have ol:=K.ll;have J:=K8 K.e;have L:=λv=>u K.e v;simp only[Fac.cells]at a1;simp only[Ex.cells]at J L
  repeat' first|simp only[go_sem, *]|apply bc<;>intro l
  refine yI kr ?_
  repeat' first|simp only[go_sem, *]|apply bc<;>intro l
  refine qx (λk fr h'=>fr 1=x/\fr 2=.iptr [ca,cb,ce,cp] 0/\fr 6=.int .i64 (i:Int)/\fr 8=.int .i64 (k:Int)/\IsI (fr 5)/\IsI (fr 7)/\h'=h) f.list.length ?_ ?_
  ·simp only[go_sem,zT,zV,zI,isI,C,E,P,O]
  rintro k fr h hk ⟨C,E,P,f8,⟨n5,O⟩,⟨n,f7⟩,o⟩;subst o;cases v4:decide (n>400)with
  |true=>
   have v5:decide (n<=400)=false:=zP (by have:=yK v4;omega);cases ek:decide ((k:Int)<(f.list.length:Int))
   ·exact au
   ·repeat' first|simp only[go_sem, *]|apply bc<;>intro l
  |false=>
  have v5:decide (n<=400)=true:=zS (by have:=yO v4;omega);by_cases X:k<f.list.length
  ·have ek:decide ((k:Int)<(f.list.length:Int))=true:=zS ow;have ad:IntKind.i64.wrap ((k:Int)+1)=((k+1:Nat):Int):=qR (by unfold lim;omega);have a2:=oi k X;exact au
  ·have ek:decide ((k:Int)<(f.list.length:Int))=false:=zP ow
   repeat' first|simp only[go_sem, *]|apply bc<;>intro l
   refine(J _).mono ?_;rintro r h' ⟨o,b,rfl,I⟩;subst o;cases b with
   |false=>
    repeat' first|simp only[go_sem, *]|apply bc<;>intro l
   |true=>
    have v:=I rfl;have a0:=R v;have hw:=L ow
    repeat' first|simp only[go_sem, *]|apply bc<;>intro l
    refine qH Heap.emp [(1,.no,false),(0,.no,false),(2,.no,false),(3,.no,false),(4,.no,false),(5,.no,false),(6,.no,false),(7,.no,false),(8,.no,false),(9,.no,false)] kr kr (λi ob e=>by cases e) ?_
    repeat' first|simp only[go_sem, *]|apply bc<;>intro l|(refine zE.mono (hw _) ?_;rintro r h ⟨a5,w,rfl⟩)
 ·rintro fr h ec ⟨C,E,P,⟨n5,O⟩,o,H⟩;subst o;have a:=a H;exact au
end Go.V
