/- None, part 2. No condition. -/
import Derived.Test.YtmkfpfodpehkoaaGreatDoorW36
import Derived.Test.YtmkfpfodpehkoaaGreatDoorW38
set_option linter.all false
set_option maxHeartbeats 8000000
namespace Go.V
open Go.Proofs
def jq{α:Type}(f:α->Int):List α->Int
 | []=>0
 |x::l=>if(f x==0)=true then jq f l else f x
theorem fM{α:Type}(f:α->Int):∀a b:List α,jq f (a++b)=if(jq f a==0)=true then jq f b else jq f a
 | [],b=>by simp[jq]
 |x::a,b=>by
  rw[z9,jq,jq];split
  ·exact fM f a b
  ·rfl
theorem Wf{f g:Nat->Int} :∀{n:Nat},(∀i,i<n->f i=g i)->ml f n=ml g n
 |0,_=>rfl
 |n+1,h=>by rw[ml,ml,Wf λi a=>h i ow,h n ow]
theorem Tf{α:Type}(f:α->Int)(d:α):∀l:List α,ml (λi=>f (l.getD i d)) l.length=jq f l:=λl=>by
 obtain⟨r,rfl⟩:∃r:List α,r.reverse=l:=⟨l.reverse,by simp⟩
 induction r with
 |nil=>rfl
 |cons x r b=>
  rw[List.reverse_cons,fM,<-b,zM,ug,ml];have e:ml (λi=>f ((r.reverse++ [x]).getD i d)) r.reverse.length=ml (λi=>f (r.reverse.getD i d)) r.reverse.length:=
   Wf λi a=>by simp only[zK];rw[yk a]
  have e2:f ((r.reverse++ [x]).getD r.reverse.length d)=jq f [x]:=by
   simp only[zK,jq];rw[yf (zD _)];simp
  rw[e,e2]
theorem Ng(k:Int)(n x:List UInt8)(l:List Ex)(d:D):(Ex.mk k n x l d).pre=Ex.mk k n x l d::ju l:=by simp only[Ex.pre]
theorem Ym(e:Ex):ml e.errAt e.size=jq Ex.err e.pre:=by
 rw[<-Tf Ex.err e e.pre,e.pre_len];rfl
theorem BV(c:Cat)(e:Ex):ml (Ex.unk c e) e.size=jq (Xl c) e.pre:=by
 rw[<-Tf (Xl c) e e.pre,e.pre_len];rfl
theorem Yp{α:Type}{f:α->Int} :∀{l:List α},jq f l=0↔∀x∈l,f x=0
 | []=>by simp[jq]
 |x::l=>by
  rw[jq];have a:=Yp (f:=f) (l:=l);split
  ·rename_i q;have q:f x=0:=by simpa using q
   rw[a];simp[q]
  ·rename_i q;have q:f x≠0:=by simpa using q
   simp[q]
mutual
def knE(c:Cat):Ex->Bool
 |.mk k n x l _=>if(decide (k<2))=true then nZ c n x else knL c l
def knL(c:Cat):List Ex->Bool
 | []=>true
 |e::l=>knE c e&&knL c l
end
theorem Kt(c:Cat):∀l:List Ex,knL c l=l.all (knE c)
 | []=>rfl
 |e::l=>by rw[knL,Kt c l];rfl
theorem Mm:ww []=false:=rfl
theorem zCk(c:Cat):∀n:Nat,(∀e:Ex,e.size<=n->jq Ex.err e.pre=0->jq (Xl c) e.pre=if(!knE c e)=true then 7 else 0)/\
  ∀l:List Ex,yt l<=n->jq Ex.err (ju l)=0->jq (Xl c) (ju l)=if(!knL c l)=true then 7 else 0:=by
 intro n
 induction n with
 |zero=>
  refine⟨λe h=> ?_,λl h _=> ?_⟩
  ·cases e;simp only[Ex.size]at h;omega
  ·cases l with
   |nil=>rfl
   |cons e l=>cases e;simp only[yt,Ex.size]at h;omega
 |succ n s=>
  have o:∀e:Ex,e.size<=n+1->jq Ex.err e.pre=0->jq (Xl c) e.pre=if(!knE c e)=true then 7 else 0:=by
   rintro⟨k,f,x,l,d⟩ h h0;simp only[Ex.size]at h;rw[Ng]at h0⊢;have r:=Yp.1 h0;have h1:nJ k f x l.length=0:=r (.mk k f x l d) (by simp);have t:jq Ex.err (ju l)=0:=Yp.2 λy A=>r y (qI _ A);rw[jq,knE];have z:Xl c (.mk k f x l d)=if(!(f== [])&& !nZ c f x)=true then 7 else 0:=rfl
   rw[z];unfold nJ at h1;split at h1
   ·rename_i i;have g:k<2:=by
     simp only[yS,yU]at i;omega
    split at h1
    ·cases h1
    rename_i m;split at h1
    ·cases h1
    rename_i B;have v:l= []:=by
     cases l with
     |nil=>rfl
     |cons a l=>simp at m
    have j:(f== [])=false:=by
     cases f with
     |nil=>simp[Mm]at B
     |cons a b=>rfl
    rw[ip (zN g),j,v];simp only[qY,yL,ju,jq];cases nZ c f x<;>rfl
   ·split at h1
    ·rename_i u i;have g:¬k<2:=by
      simp only[yS,yU]at i;omega
     split at h1
     ·cases h1
     rename_i m;have j:(f== [])=true:=by
      cases w:(f== [])with
      |true=>rfl
      |false=>simp[w]at m
     rw[iq (show¬decide (k<2)=true by simpa using g),j];simp only[wH,yV,zW,yz,wM,qG];exact s.2 l ow t
    ·cases h1
  refine⟨o,λl h h0=> ?_⟩;cases l with
  |nil=>rfl
  |cons e l=>
   have p:1<=e.size:=by cases e;simp only[Ex.size];omega
   simp only[yt]at h;simp only[ju,fM]at h0⊢;have h1:jq Ex.err e.pre=0:=by
    split at h0
    ·rename_i q;simpa using q
    ·exact h0
   rw[ip (by simp[h1])]at h0;rw[o e ow h1,s.2 l ow h0,knL];cases knE c e<;>cases knL c l<;>rfl
theorem Mb(c:Cat)(e:Ex):tT c e=if(!(qz c==0))=true then 1 else if(!(pP e==0))=true then pP e else if(!knE c e)=true then 7 else 0:=by
 unfold tT;split
 ·rfl
 split
 ·rfl
 rename_i q;have h0:pP e=0:=by simpa using q
 unfold pP at h0;split at h0
 ·cases h0
 split at h0
 ·cases h0
 rw[BV];rw[Ym]at h0;exact(zCk c e.size).1 e (zD _) h0
mutual
def Ex.eqv:Ex->Ex->Bool
 |.mk k n x l _,.mk k2 n2 x2 l2 _=>(k==k2)&&(n==n2)&&(x==x2)&&((l.length:Int)==(l2.length:Int))&&Kb l l2
def Kb:List Ex->List Ex->Bool
 | [],_=>true
 |_::_,[]=>true
 |a::l,b::m=>a.eqv b&&Kb l m
end
theorem Kc:∀{l m:List Ex}{i:Nat}(h1:i<l.length)(c:i<m.length),l[i].eqv m[i]=false->Kb l m=false
 |a::l,b::m,0,_,_,h=>by simp only[List.getElem_cons_zero]at h;rw[Kb,h];rfl
 |a::l,b::m,i+1,h1,c,h=>by
  have:=Kc (l:=l) (m:=m) (i:=i) (by simpa using h1) (by simpa using c) (by simpa using h);rw[Kb,this,qK]
theorem NA:∀{l m:List Ex},(∀i (h1:i<l.length)(c:i<m.length),l[i].eqv m[i]=true)->Kb l m=true
 | [],_,_=>by simp[Kb]
 |_::_,[],_=>by simp[Kb]
 |a::l,b::m,h=>by
  rw[Kb,show a.eqv b=true from h 0 (by simp) (by simp),NA λi h1 c=>h (i+1) (by simpa using h1) (by simpa using c)];rfl
def zEr:Ex:=.mk 0 [] [] [] .nilsl
theorem HZ(e:Ex):e.eqv zEr=ZF e:=by
 obtain⟨k,n,x,l,d⟩:=e;unfold zEr ZF;simp only[Ex.eqv,Ex.kind,Ex.name,Ex.exc,Ex.kids];cases l with
 |nil=>simp[Kb]
 |cons a l=>
  simp;intro _ _ _ h;omega
open Go.Proofs.Tryz
set_option maxRecDepth 100000
def XN(c:Cat)(lic exc:List UInt8):D:=
 if(exc== [])=true then .tuple [.nilsl,.bool true]
 else match kM c lic exc with
  |some x=>.tuple [x.d,.bool true]
  |none=>.tuple [.nilsl,.bool false]
theorem Ps{c:Cat}{d:D}(u:uM c d)(E:c.Sm)(n f:List UInt8)(g:Heap):zB prog 235 [d,.agg [.str n,.str f]] g λr h'=>h'=g/\r=XN c n f:=by
 obtain⟨a,b,e,p,rfl,K,B,L,M⟩:=u;have s2:=E.es.1;have P:=fP B;have t:∀j (o:j<c.es.length),yP prog 23 b (.int .i64 (j:Int))=some (.iptr [.str c.es[j].name,.str c.es[j].lic,c.es[j].d] 0):=λj o=>df B o;obtain⟨R,s⟩:∃R,XN c n f=R:=⟨_,rfl⟩;rw[s];unfold XN at s;clear E K B L M;refine z5 zHa ?_;simp only[f235,zA];cases F:(f== [])with
 |true=>
  rw[ip F]at s;subst s;clear t
  repeat' first|simp only[go_sem, *]|apply bc<;>intro u
 |false=>
 rw[iq (by rw[F];decide)]at s
 repeat' first|simp only[go_sem, *]|apply bc<;>intro u
 refine zV (λk fr h=>fr 2=.iptr [a,b,e,p] 0/\fr 3=.iptr [.str n,.str f] 0/\fr 6=.int .i64 (k:Int)/\h=g/\∀j (o:j<c.es.length),j<k->(c.es[j].name==f&&c.es[j].lic==n)=false) c.es.length ow ?_ ?_ ?_
 ·simp only[go_sem,zQ,zS,zF];exact λj o h0=>absurd h0 (zj _)
 ·rintro k fr h w G O ⟨H,I,J,C,o⟩;subst C;have N:=t k w;have m:=λq=>qp (p:=λy:Exc=>y.name==f&&y.lic==n) (l:=c.es) w o q;have i:(c.es[k].name==f&&c.es[k].lic==n)=true->.tuple [c.es[k].d,.bool true]=R:=λq=>by
   have:kM c n f=some c.es[k]:=Vk (p:=λy:Exc=>y.name==f&&y.lic==n) (l:=c.es) w o q;rw[<-s,this]
  generalize c.es[k]=y at *
  clear t o s;cases z:(y.name==f)with
  |false=>
   have v:=m (by simp only[z,yV]);clear m i
   repeat' first|simp only[go_sem, *]|apply bc<;>intro u
   refine zd kr ?_
   repeat' first|simp only[go_sem, *]|apply bc<;>intro u
   exact v
  |true=>
   cases b2:(y.lic==n)with
   |false=>
    have v:=m (by simp only[z,b2,qK]);clear m i
    repeat' first|simp only[go_sem, *]|apply bc<;>intro u
    refine zd kr ?_
    repeat' first|simp only[go_sem, *]|apply bc<;>intro u
    exact v
   |true=>
    have v:=i (by simp only[z,b2,yr]);clear m i;subst v
    repeat' first|simp only[go_sem, *]|apply bc<;>intro u
    refine zd kr ?_;exact au
 ·rintro fr h G ⟨H,I,J,C,o⟩;subst C;have v:kM c n f=none:=Yk λj x=>o j x x;rw[v]at s;have A: .tuple [.nilsl,.bool false]=R:=s;subst A;clear o v s t;exact au
theorem Q8(c:Cat)(b a:List UInt8):∃q,XN c b a=.tuple [q,.bool ((a== [])||(kM c b a).isSome)]:=by
 unfold XN;split
 ·simp_all [qy]
 ·rename_i q;have q:(a== [])=false:=by simpa using q
  rw[q,qe];cases kM c b a with
  |none=>exact⟨_,rfl⟩
  |some x=>exact⟨_,rfl⟩
theorem HF{c:Cat}{d:D}(k:uM c d)(m:c.Sm)(f i:List UInt8)(g:Heap):zB prog 298 [d,.agg [.str f,.str i]] g λr h'=>h'=g/\r=.bool (nZ c f i):=by
 have o:nZ c f i=((qz c==0)&&(c.ls.any λx=>x.name==f)&&((i== [])||(kM c f i).isSome)):=by unfold nZ;rw[Wd]
 rw[o];clear o;have h1:=jA k m;have n:=gE k m f;have h3:=Ps k m f i;have z:=jF (p:=λx:Lic=>x.name==f) (l:=c.ls);obtain⟨q,j⟩:=Q8 c f i;rw[j]at h3;obtain⟨a,b,e,p,rfl,s,t,u,v⟩:=k;have y:yN true 4 [a,b,e,p] 0=some (.agg [a,b,e,p]):=zJ rfl ow;have w:yN true 2 [.str f,.str i] 0=some (.agg [.str f,.str i]):=zJ rfl ow;generalize((i== [])||(kM c f i).isSome)=V at *
 generalize(c.ls.any λx=>x.name==f)=U at *
 clear j m s t u v;refine z5 zHq ?_;simp only[f298,zA];cases A:(qz c==0)with
 |false=>
  repeat' first|simp only[go_sem, *]|apply bc<;>intro k|(refine zB.mono (h1 _) ?_;rintro r h ⟨j,rfl⟩)
 |true=>
 cases U with
 |false=>
  repeat' first|simp only[go_sem, *]|apply bc<;>intro k|(refine zB.mono (h1 _) ?_;rintro r h ⟨j,rfl⟩)|(refine zB.mono (n _) ?_;rintro r h ⟨j,rfl⟩)
 |true=>
  repeat' first|simp only[go_sem, *]|apply bc<;>intro k|(refine zB.mono (h1 _) ?_;rintro r h ⟨j,rfl⟩)|(refine zB.mono (n _) ?_;rintro r h ⟨j,rfl⟩)|(refine zB.mono (h3 _) ?_;rintro r h ⟨j,rfl⟩)
def Cla.clean(y:Cla):Cla:= { y with d:=wD y.d }
theorem GP{l:List (List UInt8)}{d:D}(h:ye 1 (uH l) d):Fin 1 (uH l) (wD d):=by grind [qg,sw,ye,uH,Fin,wD]
theorem Cla.clean_fine{y:Cla}(h:y.Ok):y.clean.Fine:=⟨GP h.1,h.2⟩
theorem cD:∀l:List Cla,oB (lC l)=lC (l.map Cla.clean)
 | []=>rfl
 |y::l=>by
  have a:=cD l;simp only[lC,qL,oB]at a⊢;rw[a];rfl
theorem Own.finC{h0 h:Heap}{out:List Cla}{d:D}(a:Own h0 h 5 (lC out) d)(f:∀y∈out,y.Ok):Ext h0 h/\below h0.next (wD d)/\Bi out (wD d):=by
 have hf:∀y∈out.map Cla.clean,y.Fine:=by grind [Cla.clean_fine]
 have g:∀x∈lC (out.map Cla.clean),sH x:=λx i=>by
  obtain⟨y,b,rfl⟩:=zT.1 i;exact(hf y b).plain
 have c:(out.map Cla.clean).map Cla.key=out.map Cla.key:=by rw[qm];rfl
 rcases a.isSl with⟨rfl,e⟩ | ⟨tk,rfl⟩
 ·have:out= []:=qU.1 e;subst this;exact⟨a.1,trivial,[],.inl ⟨rfl,rfl⟩,(λy b=>by cases b),rfl⟩
 ·refine⟨a.1,?_,out.map Cla.clean,?_,hf,c⟩
  ·simp only[wD,cD];exact qw (yg _) _ (qg g .no).2
  ·simp only[wD,cD];exact ye.mk _
def kS(c:Cat)(lic exc:List UInt8):List Int:=if(exc== [])=true then []else match kM c lic exc with
 |some x=>x.lifts
 |none=>[]
theorem H9{c:Cat}(g:c.Sm)(d a:List UInt8):∃q b,XN c d a=.tuple [q,.bool b]/\ye 1 (uq (kS c d a)) q/\(kS c d a).length<=1048576:=by
 unfold XN kS;split
 ·exact⟨_,_,rfl,ye.nil,by simp⟩
 ·cases f:kM c d a with
  |none=>exact⟨_,_,rfl,ye.nil,by simp⟩
  |some x=>
   have e:=g.es.2 x (lQ f);exact⟨_,_,rfl,e.1,e.2.1⟩
theorem A5{c:Cat}{d:D}(G:uM c d)(B:c.Sm)(l n:List UInt8)(A rel:Int)(g:Heap):
  zB prog 165 [d,.agg [.str l,.str n],.int .i64 A,.int .i64 rel] g λr h'=>h'=g/\Bi (c.cs.filter (gF (kS c l n) l A rel)) r:=by
 refine xU kr λa3=>xS ?_;refine xP λQ hQ=> ?_;have W:=Ps G B l n;obtain⟨q,b0,M,X,a7⟩:=H9 B l n;rw[M]at W;clear M;generalize kS c l n=L at *
 have s3:=B.cs.1;have o:=B.cs.2;obtain⟨i,E⟩:∃i,gF L l A rel=i:=⟨_,rfl⟩;rw[E]at hQ;have t:∀d h,Own g h 5 (lC (c.cs.filter i)) d->Q d h:=λd h I=>hQ _ _ (I.finC λy hy=>o y (pn.1 hy).1);obtain⟨a,b,e,p,rfl,ha,hb,he,hp⟩:=G;have le:=nb he;have a5:=rF X;have C:∀j (hj:j<L.length),yP prog 40 q (.int .i64 (j:Int))=some (.iptr [.int .i64 L[j]] 0):=λj hj=>nG X hj;have a9:yN true 4 [a,b,e,p] 0=some (.agg [a,b,e,p]):=zJ rfl ow;have a8:yN true 2 [.str l,.str n] 0=some (.agg [.str l,.str n]):=zJ rfl ow;have ba:∀a b c e f:D,yN true 5 [a,b,c,e,f] 0=some (.agg [a,b,c,e,f]):=λa b c e f=>zJ rfl ow
 clear hQ a3 B hb hp ha;refine z5 zG9 ?_;simp only[f165,zA]
 repeat' first|simp only[go_sem, *]|apply bc<;>intro G|(refine zB.mono (W _) ?_;rintro r h ⟨M,rfl⟩)
 refine zV (λk fr h=>fr 2=.int .i64 A/\fr 3=.int .i64 rel/\fr 4=.iptr [a,b,e,p] 0/\fr 5=.iptr [.str l,.str n] 0/\fr 9=q/\fr 12=.int .i64 (k:Int)/\Own g h 5 (lC ((c.cs.take k).filter i)) (fr 11)) c.cs.length ow ?_ ?_ ?_
 ·have h0:=Own.start (Ext.refl g) 5;clear t C;simp only[go_sem,zQ,zS,zF];exact h0
 ·rintro k fr h w ec ew ⟨N,O,P,R,S,v,I⟩;obtain⟨u,s⟩:∃u,fr 11=u:=⟨_,rfl⟩;rw[s]at I;have a1:=lV he w;obtain⟨o1,o2⟩:=o _ (zG w);have Z:(c.cs.take (k+1)).filter i=(c.cs.take k).filter i++ [c.cs[k]].filter i:=by
   rw[zH w,rC]
  have a4:((c.cs.take k).filter i).length<=1048576:=za (qM _ _) (by rw[z7];omega);have m:i c.cs[k]=(c.cs[k].lic==l&&c.cs[k].way==A&&c.cs[k].rel==rel&& !(L.any λz=>z==c.cs[k].duty)):=by rw[<-E];rfl
  rw[Z];clear Z o t;generalize(c.cs.take k).filter i=pre at *
  generalize c.cs[k]=y at *
  simp only[Cla.cells]at a1;have J:qP prog 89 (.ptr h.next 0) (.agg [.str y.lic,.int .i64 y.way,.int .i64 y.rel,.int .i64 y.duty,y.d]) (h.new h.next (.row [.str [],.int .i64 0,.int .i64 0,.int .i64 0,.nilsl]))=some (h.new h.next (.row [.str y.lic,.int .i64 y.way,.int .i64 y.rel,.int .i64 y.duty,y.d])):=qk gk ow rfl rfl (by show(true&&(true&&(true&&(true&&(y.d.flat&&true)))))=true;rw[nH o1];rfl)
  obtain⟨H,hH,Y,F⟩:∃H,h.new h.next (.row [.str y.lic,.int .i64 y.way,.int .i64 y.rel,.int .i64 y.duty,y.d])=H/\H.at' h.next=some (.row [.str y.lic,.int .i64 y.way,.int .i64 y.rel,.int .i64 y.duty,y.d])/\Own g H 5 (lC pre) u:=⟨_,rfl,yQ _ _ _,I.ext ((Ext.refl h).new (zD _) _)⟩;rw[hH]at J;have K:=JJ y;simp only[Cla.cells]at K;obtain⟨n0,ak⟩:∃n0,h.next=n0:=⟨_,rfl⟩;rw[ak]at J Y;clear hH I
  repeat' first|simp only[go_sem, *]|apply bc<;>intro G
  refine zV (λj fr h=>fr 2=.int .i64 A/\fr 3=.int .i64 rel/\fr 4=.iptr [a,b,e,p] 0/\fr 5=.iptr [.str l,.str n] 0/\fr 9=q/\fr 11=u/\fr 12=.int .i64 (k:Int)/\fr 13=.ptr n0 0/\fr 15=.int .i64 (j:Int)/\fr 14=.bool ((L.take j).any λz=>z==y.duty)/\h=H) L.length ow ?_ ?_ ?_
  ·simp only[go_sem,zQ,zS,zF,N,O,P,R,S,s,v];rfl
  ·clear N O P R S s v fr;rintro j fr h w ec ew ⟨N,O,P,R,S,s,v,ad,ag,T,M⟩;subst M;have a2:=C j w;have a6:((L.take (j+1)).any λz=>z==y.duty)=(((L.take j).any λz=>z==y.duty)||L[j]==y.duty):=by
    rw[zH w,jw];simp
   generalize((L.take j).any λz=>z==y.duty)=V at *
   clear C m K J a1;cases V with
   |true=>
    repeat' first|simp only[go_sem, *]|apply bc<;>intro G
    refine zd kr ?_
    repeat' first|simp only[go_sem, *]|apply bc<;>intro G
   |false=>
    repeat' first|simp only[go_sem, *]|apply bc<;>intro G
    refine zd kr ?_;exact au
  ·clear N O P R S s v fr;rintro fr h ec ⟨N,O,P,R,S,s,v,ad,ag,T,M⟩;rw[zb]at T;subst M;clear C J a1;generalize(L.any λz=>z==y.duty)=V at *
   cases B:i y with
   |false=>
    rw[B]at m;have ai:Own g h 5 (lC (pre++ [y].filter i)) u:=by simpa [B]using F
    clear F B;replace m:=m.symm
    repeat' first|simp only[go_sem, *]|apply bc<;>intro G
    all_goals first
     |exact ai
     |(simp only[uQ,uk,bne,wA,wk,qe,qy,wj,yV,yL,qK,qd,yr,wH,qY,wX,Bool.true_eq_false,zW, *]at m;done)
   |true=>
    rw[B]at m;have ab: [y].filter i= [y]:=by simp[B]
    have U:lC pre++lC [y]=lC (pre++ [y]):=by simp[lC]
    rw[ab];replace m:=m.symm;simp only[zC]at m;obtain⟨⟨⟨b1,b2⟩,b3⟩,b4⟩:=m;have b4:V=false:=by simpa using b4
    subst b4;clear B ab E
    repeat' first|simp only[go_sem, *]|apply bc<;>intro G
    refine F.appH (ys:=lC [y]) cW Pc gk ow (λx hx=>by
     obtain⟨z,_,rfl⟩:=zT.1 hx;rfl) (by simp[lC]) (by rw[sS,YH];unfold lim;simp[lC];omega) (by rw[sS];unfold lim;simp[lC];omega) λd' h' a0=> ?_
    rw[U]at a0;clear U F;exact au
 ·rintro fr h ec ⟨N,O,P,R,S,v,I⟩;obtain⟨u,s⟩:∃u,fr 11=u:=⟨_,rfl⟩;rw[s,zb]at I;have t:=t _ _ I;clear I C o;exact au
theorem HA{c:Cat}{d:D}(u:uM c d)(B:c.Sm)(x y:List UInt8)(g:Heap):zB prog 166 [d,.str x,.str y] g λr h'=>h'=g/\r=.bool (c.ps.any λz=>(z.a==x&&z.b==y)||(z.a==y&&z.b==x)):=by
 obtain⟨a,b,e,p,rfl,I,t,J,w⟩:=u;have N:=B.ps;have M:=fO w;have n:∀j (m:j<c.ps.length),yP prog 25 p (.int .i64 (j:Int))=some (.iptr [.str c.ps[j].a,.str c.ps[j].b] 0):=λj m=>de w m;clear B I t J w;refine z5 zHA ?_;simp only[f166,zA]
 repeat' first|simp only[go_sem, *]|apply bc<;>intro u
 refine zV (λk fr h=>fr 1=.str x/\fr 2=.str y/\fr 3=.iptr [a,b,e,p] 0/\fr 7=.int .i64 (k:Int)/\h=g/\∀j (m:j<c.ps.length),j<k->((c.ps[j].a==x&&c.ps[j].b==y)||(c.ps[j].a==y&&c.ps[j].b==x))=false) c.ps.length ow ?_ ?_ ?_
 ·simp only[go_sem,zQ,zS,zF];exact λj m h0=>absurd h0 (zj _)
 ·rintro k fr h o C L ⟨E,F,G,H,A,m⟩;subst A;have K:=n k o;have i:=λq=>qp (p:=λz:Apt=>(z.a==x&&z.b==y)||(z.a==y&&z.b==x)) (l:=c.ps) o m q;have f:=λq=>pW (p:=λz:Apt=>(z.a==x&&z.b==y)||(z.a==y&&z.b==x)) (l:=c.ps) o q;generalize c.ps[k]=z at *
  clear n m;cases t:((z.a==x&&z.b==y)||(z.a==y&&z.b==x))with
  |true=>
   have s:=f t;rw[s];clear i f s
   repeat' first|simp only[go_sem, *]|apply bc<;>intro u
   all_goals(simp only[uQ,uk,bne,wA,wk,qe,qy,wj,yV,yL,qK,qd,yr,wH,qY,wX,Bool.true_eq_false,zW, *]at t;done)
  |false=>
   have s:=i t;clear i f
   repeat' first|simp only[go_sem, *]|apply bc<;>intro u
   all_goals first
    |exact s
    |(simp only[uQ,uk,bne,wA,wk,qe,qy,wj,yV,yL,qK,qd,yr,wH,qY,wX,Bool.true_eq_false,zW, *]at t;done)
 ·rintro fr h C ⟨E,F,G,H,A,m⟩;subst A;have s:=rO (p:=λz:Apt=>(z.a==x&&z.b==y)||(z.a==y&&z.b==x)) λj v=>m j v;rw[s];clear m s n;exact au
theorem Di:∀(n:Nat){e:Ex},e.size<=n->e.Ok->e.size<=1048576->∀g:Heap,zB prog 295 [.agg e.cells] g λr h'=>h'=g/\r=.int .i64 (e.size:Int):=by
 intro n
 induction n with
 |zero=>intro e h;cases e;simp only[Ex.size]at h;omega
 |succ n t=>
 intro e E f q g;obtain⟨k,G,x,l,d⟩:=e;simp only[Ex.size,Ex.Ok]at E f q⊢;obtain⟨j,I,_,_,c⟩:=f;have v:=pR j;refine z5 zHo ?_;simp only[f295,zA];simp only[Ex.cells,Ex.kind,Ex.name,Ex.exc,Ex.d]
 repeat' first|simp only[go_sem, *]|apply bc<;>intro D
 refine zV (λi fr h=>fr 1=.iptr [.int .i64 k,.str G,.str x,d] 0/\fr 4=.int .i64 (i:Int)/\fr 3=.int .i64 ((yt (l.take i)+1:Nat):Int)/\h=g) l.length ow ?_ ?_ ?_
 ·simp only[go_sem,zQ,zS,zF];rfl
 ·rintro i fr h a z H ⟨A,B,u,b⟩;subst b;have w:=kG j a;have o:l[i]∈l:=zG a;have p:=uP o;have b:=t (e:=l[i]) ow (pS c _ o) ow;have s:=W6 a;have m:yt (l.take (i+1))<=yt l:=by
   have C:=gh (l.take (i+1)) (l.drop (i+1));rw[yp]at C;omega
  have J:IntKind.i64.wrap (((yt (l.take i)+1:Nat):Int)+(l[i].size:Int))=((yt (l.take (i+1))+1:Nat):Int):=by rw[qE ow ow];omega
  generalize yt (l.take (i+1))=s2 at *
  generalize yt (l.take i)=s1 at *
  generalize l[i]=y at *
  simp only[Ex.cells]at w b;clear t j o c s m p
  repeat' first|simp only[go_sem, *]|apply bc<;>intro D|(refine zB.mono (b _) ?_;rintro r h ⟨F,rfl⟩)
 ·rintro fr h z ⟨A,B,u,b⟩;subst b;rw[zb]at u;clear t;exact au
theorem HC:∀(n:Nat){e:Ex},e.size<=n->e.Ok->e.size<=1048576->∀g:Heap,zB prog 296 [.agg e.cells] g λr h'=>h'=g/\r=.int .i64 (e.depth:Int):=by
 intro n
 induction n with
 |zero=>intro e h;cases e;simp only[Ex.size]at h;omega
 |succ n u=>
 intro e F j s g;have c:=P8 (n+1);obtain⟨k,I,x,l,d⟩:=e;simp only[Ex.size,Ex.Ok,Ex.depth]at F j s⊢;obtain⟨o,K,_,_,f⟩:=j;have w:=pR o;have E:sO l<=yt l:=c.2 l ow;have t:IntKind.i64.wrap ((sO l:Int)+1)=((sO l+1:Nat):Int):=by rw[qE ow ow];omega
 clear c;refine z5 zHp ?_;simp only[f296,zA];simp only[Ex.cells,Ex.kind,Ex.name,Ex.exc,Ex.d]
 repeat' first|simp only[go_sem, *]|apply bc<;>intro D
 refine zV (λi fr h=>fr 1=.iptr [.int .i64 k,.str I,.str x,d] 0/\fr 4=.int .i64 (i:Int)/\fr 3=.int .i64 ((sO (l.take i):Nat):Int)/\h=g) l.length ow ?_ ?_ ?_
 ·simp only[go_sem,zQ,zS,zF];rfl
 ·rintro i fr h a A J ⟨B,C,v,b⟩;subst b;have z:=kG o a;have p:l[i]∈l:=zG a;have H:=uP p;have b:=u (e:=l[i]) ow (pS f _ p) ow;have m:sO (l.take (i+1))=max (sO (l.take i)) l[i].depth:=by rw[zH a,dh]
  have q:=zEl (sO (l.take i)) l[i].depth;rw[<-m]at q;generalize sO (l.take (i+1))=s2 at *
  generalize sO (l.take i)=s1 at *
  generalize l[i]=y at *
  simp only[Ex.cells]at z b;clear u o p f m t
  repeat' first|simp only[go_sem, *]|apply bc<;>intro D|(refine zB.mono (b _) ?_;rintro r h ⟨G,rfl⟩)
 ·rintro fr h A ⟨B,C,v,b⟩;subst b;rw[zb]at v;clear u;exact au
theorem HD:∀(n:Nat){e:Ex},e.size<=n->e.Ok->e.size<=1048576->∀{e2:Ex},e2.Ok->∀g:Heap,zB prog 292 [.agg e.cells,.agg e2.cells] g λr h'=>h'=g/\r=.bool (e.eqv e2):=by
 intro n
 induction n with
 |zero=>intro e h;cases e;simp only[Ex.size]at h;omega
 |succ n w=>
 intro e hn F M e2 s g;obtain⟨k,O,x,l,d⟩:=e;obtain⟨k2,G,P,b,T⟩:=e2;simp only[Ex.size,Ex.Ok,Ex.eqv]at hn F M s⊢;obtain⟨J,hl,_,_,D⟩:=F;obtain⟨t,Z,_,_,p⟩:=s;have N:=pR J;have K:=pR t;refine z5 zHl ?_;simp only[f292,zA];simp only[Ex.cells,Ex.kind,Ex.name,Ex.exc,Ex.d];cases ab:(k==k2)with
 |false=>
  clear w
  repeat' first|simp only[go_sem, *]|apply bc<;>intro o
 |true=>
 cases ad:(O==G)with
 |false=>
  clear w
  repeat' first|simp only[go_sem, *]|apply bc<;>intro o
 |true=>
 cases m:(x==P)with
 |false=>
  clear w
  repeat' first|simp only[go_sem, *]|apply bc<;>intro o
 |true=>
 cases hq:((l.length:Int)==(b.length:Int))with
 |false=>
  clear w
  repeat' first|simp only[go_sem, *]|apply bc<;>intro o
 |true=>
 have Y:l.length<=b.length/\b.length<=l.length:=by have:=yU.1 hq;omega
 obtain⟨R,A⟩:∃R,Kb l b=R:=⟨_,rfl⟩;rw[A]
 repeat' first|simp only[go_sem, *]|apply bc<;>intro o
 refine zV (λi fr h=>fr 2=.iptr [.int .i64 k,.str O,.str x,d] 0/\fr 3=.iptr [.int .i64 k2,.str G,.str P,T] 0/\fr 5=.int .i64 (i:Int)/\h=g/\∀j (h1:j<l.length)(z:j<b.length),j<i->l[j].eqv b[j]=true) l.length ow ?_ ?_ ?_
 ·clear A;simp only[go_sem,zQ,zS,zF];exact λj h1 z h0=>absurd h0 (zj _)
 ·rintro i fr h u U ew ⟨V,W,X,m,C⟩;subst m;have c:i<b.length:=ow;have Q:=kG J u;have S:=kG t c;have H:l[i]∈l:=zG u;have E:b[i]∈b:=zG c;have v:=w (e:=l[i]) (by have:=uP H;omega) (pS D _ H) (by have:=uP H;omega) (pS p _ E);have f:=λq=>(Kc u c q).symm.trans A;have a:l[i].eqv b[i]=true->∀j (h1:j<l.length)(z:j<b.length),j<i+1->l[j].eqv b[j]=true:=λq j h1 z h3=>by
   rcases zo.1 h3 with h|rfl
   ·exact C j h1 z h
   ·exact q
  generalize l[i].eqv b[i]=B at *
  generalize l[i]=y at *
  generalize b[i]=y2 at *
  simp only[Ex.cells]at Q S v;clear w J t H E D p C A;cases B with
  |false=>
   have f:=f rfl;subst f;clear a
   repeat' first|simp only[go_sem, *]|apply bc<;>intro o
   refine zd kr ?_
   repeat' first|simp only[go_sem, *]|apply bc<;>intro o|(refine zB.mono (v _) ?_;rintro r h ⟨L,rfl⟩)
  |true=>
   have a:=a rfl;clear f
   repeat' first|simp only[go_sem, *]|apply bc<;>intro o
   refine zd kr ?_
   repeat' first|simp only[go_sem, *]|apply bc<;>intro o|(refine zB.mono (v _) ?_;rintro r h ⟨L,rfl⟩)
   exact a
 ·rintro fr h U ⟨V,W,X,m,C⟩;subst m;have I:=(NA λi h1 z=>C i h1 z h1).symm.trans A;subst I;clear w C A;exact au
theorem L5{s:List UInt8}(f:s.length<=1048576)(g:Heap):zB prog 329 [.str s] g λr h'=>h'=g/\r=.bool (ww s):=by
 have c:=cQ f;obtain⟨R,a⟩:∃R,ww s=R:=⟨_,rfl⟩;rw[a]at c⊢;cases R with
 |false=>
  refine z5 zDt ?_;simp only[f329,zA]
  repeat' first|simp only[go_sem, *]|apply bc<;>intro e|(refine zB.mono (c _) ?_;rintro r h ⟨d,rfl⟩)
 |true=>
  have h1:(s== [97,110,100])=false/\(s== [111,114])=false/\(s== [119,105,116,104])=false:=by
   cases s with
   |nil=>cases a
   |cons b r=>
    rw[dn]at a;simp only[zC,qF,wQ]at a;exact⟨a.1.1.1.2,a.1.1.2,a.1.2⟩
  obtain⟨h1,i,h3⟩:=h1;refine z5 zDt ?_;simp only[f329,zA]
  repeat' first|simp only[go_sem, *]|apply bc<;>intro e|(refine zB.mono (c _) ?_;rintro r h ⟨d,rfl⟩)
theorem Dc:∀(n:Nat){e:Ex},e.size<=n->e.Ok->e.size<=1048576->∀g:Heap,zB prog 297 [.agg e.cells] g λr h'=>h'=g/\r=.int .i64 (jq Ex.err e.pre):=by
 intro n
 induction n with
 |zero=>intro e h;cases e;simp only[Ex.size]at h;omega
 |succ n M=>
 intro e hn G X g;obtain⟨R,m⟩:∃R,jq Ex.err e.pre=R:=⟨_,rfl⟩;rw[m];obtain⟨k,p,x,l,d⟩:=e;rw[Ng,jq,show(Ex.mk k p x l d).err=nJ k p x l.length from rfl]at m
 simp only[Ex.size,Ex.Ok]at hn G X;obtain⟨S,hl,V,W,t⟩:=G;have ab:=pR S;have v:=L5 V;have z:=L5 W;obtain⟨E,a⟩:∃E,nJ k p x l.length=E:=⟨_,rfl⟩;rw[a]at m;unfold nJ at a;cases b:(E==0)with
 |false=>
  rw[b,iq (by decide)]at m;subst m;clear M t;by_cases k0:k<0
  ·have B:decide (k<0)=true:=zN k0;have e1:(k==0)=false/\(k==1)=false/\(k==2)=false/\(k==3)=false:=by simp;omega
   rw[e1.1,e1.2.1,e1.2.2.1,e1.2.2.2,iq (by decide),iq (by decide)]at a;subst a;clear e1 k0 b;refine z5 JD ?_;simp only[f297,zA];simp only[Ex.cells,Ex.kind,Ex.name,Ex.exc,Ex.d];exact au
  ·have B:decide (k<0)=false:=zO k0;by_cases k3:k>3
   ·have e3:decide (k>3)=true:=zN k3;have e1:(k==0)=false/\(k==1)=false/\(k==2)=false/\(k==3)=false:=by simp;omega
    rw[e1.1,e1.2.1,e1.2.2.1,e1.2.2.2,iq (by decide),iq (by decide)]at a;subst a;clear e1 k0 k3 b;refine z5 JD ?_;simp only[f297,zA];simp only[Ex.cells,Ex.kind,Ex.name,Ex.exc,Ex.d];exact au
   ·have e3:decide (k>3)=false:=zO k3;by_cases k2:k>=2
    ·have e2:decide (k>=2)=true:=zN k2;rw[iq (by simp;omega),ip (by simp;omega)]at a;have c:(decide ((l.length:Int)<2)|| !(p== [])|| !(x== []))=true/\E=1:=by
      split at a
      ·exact⟨by assumption,a.symm⟩
      ·rw[<-a]at b;cases b
     obtain⟨c,rfl⟩:=c;clear k0 k2 k3 a b;refine z5 JD ?_;simp only[f297,zA];simp only[Ex.cells,Ex.kind,Ex.name,Ex.exc,Ex.d]
     repeat' first|simp only[go_sem, *]|apply bc<;>intro D
     all_goals(simp only[uQ,uk,bne,wA,wk,qe,qy,wj,yV,yL,qK,qd,yr,wH,qY,wX,Bool.true_eq_false,zW, *]at c;done)
    ·have e2:decide (k>=2)=false:=zO k2;rw[ip (by simp;omega)]at a;clear k0 k2 k3;refine z5 JD ?_;simp only[f297,zA];simp only[Ex.cells,Ex.kind,Ex.name,Ex.exc,Ex.d];obtain⟨U,P⟩:∃U:Bool,(decide ((l.length:Int)>0)||((k==1)&& !(x== [])))=U:=⟨_,rfl⟩;rw[P]at a;cases U with
     |true=>
      rw[ip rfl]at a;subst a;clear b
      repeat' first|simp only[go_sem, *]|apply bc<;>intro D
      all_goals(simp only[uQ,uk,bne,wA,wk,qe,qy,wj,yV,yL,qK,qd,yr,wH,qY,wX,Bool.true_eq_false,zW, *]at P;done)
     |false=>
      rw[iq (by decide)]at a;have c:(!ww p||(!(x== [])&& !ww x))=true/\E=2:=by
       split at a
       ·exact⟨by assumption,a.symm⟩
       ·rw[<-a]at b;cases b
      obtain⟨c,rfl⟩:=c;clear a b
      repeat' first|simp only[go_sem, *]|apply bc<;>intro D|(refine zB.mono (v _) ?_;rintro r h ⟨o,rfl⟩)|(refine zB.mono (z _) ?_;rintro r h ⟨o,rfl⟩)
      all_goals first
       |(simp only[uQ,uk,bne,wA,wk,qe,qy,wj,yV,yL,qK,qd,yr,wH,qY,wX,Bool.true_eq_false,zW, *]at P;done)
       |(simp only[uQ,uk,bne,wA,wk,qe,qy,wj,yV,yL,qK,qd,yr,wH,qY,wX,Bool.true_eq_false,zW, *]at c;done)
 |true=>
 rw[b,ip rfl]at m;have C:E=0:=by simpa using b
 rw[C]at a;clear b C;have j:∀i (T:i<l.length),jq Ex.err (ju (l.take i))=0->(jq Ex.err l[i].pre=0->jq Ex.err (ju (l.take (i+1)))=0)/\(jq Ex.err l[i].pre≠0->jq Ex.err l[i].pre=R):=λi T h0=>by
  refine⟨λh1=> ?_,λh1=> ?_⟩
  ·rw[zH T,Z0,fM,ip (by simp[h0])];simp only[ju,zp];exact h1
  ·rw[<-m];have e:l.take i++(l[i]::l.drop (i+1))=l:=by rw[<-z6 T,yp]
   have e2:=Z0 (l.take i) (l[i]::l.drop (i+1));rw[e]at e2;rw[e2,fM,ip (by simp[h0])];simp only[ju];rw[fM,iq (by simpa using h1)]
 have f:jq Ex.err (ju (l.take l.length))=0->R=0:=λh=>by rw[zb]at h;rw[<-m,h]
 clear m;have B:decide (k<0)=false/\decide (k>3)=false:=by
  simp only[yy];split at a
  ·rename_i q;simp at q;omega
  ·split at a
   ·rename_i q;simp at q;omega
   ·cases a
 obtain⟨B,e3⟩:=B;have Q:(decide (k>=2)=true/\decide ((l.length:Int)<2)=false/\(p== [])=true/\(x== [])=true)\/(decide (k>=2)=false/\decide ((l.length:Int)>0)=false/\ww p=true/\(x== [])=true/\(k==1)=true)\/(decide (k>=2)=false/\decide ((l.length:Int)>0)=false/\ww p=true/\(x== [])=true/\(k==1)=false)\/(decide (k>=2)=false/\decide ((l.length:Int)>0)=false/\ww p=true/\(x== [])=false/\(k==1)=false/\ww x=true):=by
  split at a
  ·rename_i q;split at a
   ·cases a
   ·rename_i s;split at a
    ·cases a
    ·rename_i N;have O:decide (k>=2)=false:=by simp at q;simp;omega
     simp only[yS,ZE,nC,pk]at s N;have Y:ww p=true:=by simpa using N.1
     refine .inr ?_;cases hx:(x== [])with
     |true=>
      cases ad:(k==1)with
      |true=>exact .inl ⟨O,s.1,Y,rfl,rfl⟩
      |false=>exact .inr (.inl ⟨O,s.1,Y,rfl,rfl⟩)
     |false=>
      rw[hx]at s N;exact .inr (.inr ⟨O,s.1,Y,rfl,by simpa using s.2,by simpa using N.2⟩)
  ·rename_i q;split at a
   ·rename_i q0;split at a
    ·cases a
    ·rename_i s;refine .inl ⟨?_,?_⟩
     ·simp at q0;simp;omega
     ·simp only[yS,ZE,nC]at s;exact⟨s.1.1,by simpa using s.1.2,by simpa using s.2⟩
   ·cases a
 clear a;refine z5 JD ?_;simp only[f297,zA];simp only[Ex.cells,Ex.kind,Ex.name,Ex.exc,Ex.d];rcases Q with⟨H,I,J,K⟩ | ⟨H,I,J,K,Z⟩ | ⟨H,I,J,K,Z⟩ | ⟨H,I,J,K,Z,c6⟩
 all_goals
  repeat' first|simp only[go_sem, *]|apply bc<;>intro D|(refine zB.mono (v _) ?_;rintro r h ⟨o,rfl⟩)|(refine zB.mono (z _) ?_;rintro r h ⟨o,rfl⟩)
  clear v z H I J K B e3;refine zV (λi fr h=>fr 1=.iptr [.int .i64 k,.str p,.str x,d] 0/\fr 3=.int .i64 (i:Int)/\h=g/\jq Ex.err (ju (l.take i))=0) l.length ow ?_ ?_ ?_
  ·clear j f;simp only[go_sem,zQ,zS,zF];rfl
  ·rintro i fr h u ec ew ⟨f1,f3,A,F⟩;subst A;obtain⟨k1,k2⟩:=j i u F;have a1:=kG S u;have L:l[i]∈l:=zG u;have A:=M (e:=l[i]) (by have:=uP L;omega) (pS t _ L) (by have:=uP L;omega);generalize jq Ex.err l[i].pre=w at *
   generalize l[i]=y at *
   simp only[Ex.cells]at a1 A;clear M S L j f t F;cases w0:(w==0)with
   |false=>
    have hw:=k2 (by simpa using w0);subst hw;clear k1 k2
    repeat' first|simp only[go_sem, *]|apply bc<;>intro D|(refine zB.mono (A _) ?_;rintro r h ⟨o,rfl⟩)
   |true=>
    have hn:=k1 (by simpa using w0);clear k1 k2
    repeat' first|simp only[go_sem, *]|apply bc<;>intro D|(refine zB.mono (A _) ?_;rintro r h ⟨o,rfl⟩)
  ·rintro fr h ec ⟨f1,f3,A,F⟩;subst A;have m:=f F;subst m;clear M j F f;exact au
theorem TL{e:Ex}(a:e.Ok)(b:e.size<=1048576)(g:Heap):zB prog 225 [.agg e.cells] g λr h'=>h'=g/\r=.int .i64 (pP e):=by
 have h1:=Di _ (zD _) a b;have d:=HC _ (zD _) a b;have h3:=Dc _ (zD _) a b;rw[<-Ym]at h3;unfold pP;simp only[Ex.cells]at h1 d h3⊢;generalize ml e.errAt e.size=w at *
 refine z5 zHQ ?_;simp only[f225,zA]
 repeat' first|simp only[go_sem, *]|apply bc<;>intro f|(refine zB.mono (h1 _) ?_;rintro r h ⟨c,rfl⟩)|(refine zB.mono (d _) ?_;rintro r h ⟨c,rfl⟩)|(refine zB.mono (h3 _) ?_;rintro r h ⟨c,rfl⟩)
theorem L4{c:Cat}{I:D}(o:uM c I)(X:c.Sm):∀(n:Nat){e:Ex},e.size<=n->e.Ok->e.size<=1048576->∀g:Heap,zB prog 226 [I,.agg e.cells] g λr h'=>h'=g/\r=.bool (knE c e):=by
 intro n
 induction n with
 |zero=>intro e h;cases e;simp only[Ex.size]at h;omega
 |succ n F=>
 intro e W C H g;have m:=λa b=>HF o X a b;obtain⟨M,N,ce,O,rfl,_,_,_,_⟩:=o;obtain⟨k,K,x,l,d⟩:=e;simp only[Ex.size,Ex.Ok,knE,Kt]at W C H⊢;obtain⟨G,hl,U,V,w⟩:=C;have J:=pR G;have Y:∀a b:List UInt8,wO prog 112 [(0,.str a),(1,.str b)]=some (.agg [.str a,.str b]):=λa b=>by simp[wO,oM,so,tp,uG,D.notTuple,D.cells]
 refine z5 zHR ?_;simp only[f226,zA];simp only[Ex.cells,Ex.kind,Ex.name,Ex.exc,Ex.d];cases h0:decide (k<2)with
 |true=>
  have m:=m K x;rw[ip rfl];clear F
  repeat' first|simp only[go_sem, *]|apply bc<;>intro o|(refine zB.mono (m _) ?_;rintro r h ⟨E,rfl⟩)
 |false=>
 rw[iq (by decide)];clear m
 repeat' first|simp only[go_sem, *]|apply bc<;>intro o
 refine zV (λi fr h=>fr 2=.iptr [M,N,ce,O] 0/\fr 3=.iptr [.int .i64 k,.str K,.str x,d] 0/\fr 5=.int .i64 (i:Int)/\h=g/\∀j (s:j<l.length),j<i->knE c l[j]=true) l.length ow ?_ ?_ ?_
 ·simp only[go_sem,zQ,zS,zF];exact λj s h0=>absurd h0 (zj _)
 ·rintro i fr h z P Z ⟨Q,R,S,u,s⟩;subst u;have L:=kG G z;have A:l[i]∈l:=zG z;have u:=F (e:=l[i]) (by have:=uP A;omega) (pS w _ A) (by have:=uP A;omega);have t:knE c l[i]=false->l.all (knE c)=false:=λq=>by
   cases p:l.all (knE c)with
   |false=>rfl
   |true=>rw[ze.1 p _ A]at q;cases q
  have f:knE c l[i]=true->∀j (s:j<l.length),j<i+1->knE c l[j]=true:=λq j h1 h3=>by
   rcases zo.1 h3 with h|rfl
   ·exact s j h1 h
   ·exact q
  generalize knE c l[i]=B at *
  generalize l[i]=y at *
  simp only[Ex.cells]at L u;clear F G A w s;cases B with
  |false=>
   rw[t rfl];clear t f
   repeat' first|simp only[go_sem, *]|apply bc<;>intro o
   refine zd kr ?_
   repeat' first|simp only[go_sem, *]|apply bc<;>intro o|(refine zB.mono (u _) ?_;rintro r h ⟨E,rfl⟩)
  |true=>
   have f:=f rfl;clear t
   repeat' first|simp only[go_sem, *]|apply bc<;>intro o
   refine zd kr ?_
   repeat' first|simp only[go_sem, *]|apply bc<;>intro o|(refine zB.mono (u _) ?_;rintro r h ⟨E,rfl⟩)
   exact f
 ·rintro fr h P ⟨Q,R,S,u,s⟩;subst u;rw[show l.all (knE c)=true from ze.2 λe T=>by
   obtain⟨j,v,rfl⟩:=yH.1 T;exact s j v v]
  clear F s;exact au
theorem TK{c:Cat}{i:D}(f:uM c i)(k:c.Sm){e:Ex}(a:e.Ok)(d:e.size<=1048576)(g:Heap):zB prog 159 [i,.agg e.cells] g λr h'=>h'=g/\r=.int .i64 (tT c e):=by
 rw[Mb];have h1:=jA f k;have j:=TL a d;have h3:=L4 f k _ (zD _) a d;obtain⟨l,m,ce,n,rfl,_,_,_,_⟩:=f;simp only[Ex.cells]at j h3⊢;generalize qz c=u at *
 generalize pP e=v at *
 generalize knE c e=w at *
 refine z5 zG4 ?_;simp only[f159,zA]
 repeat' first|simp only[go_sem, *]|apply bc<;>intro f|(refine zB.mono (h1 _) ?_;rintro r h ⟨b,rfl⟩)|(refine zB.mono (j _) ?_;rintro r h ⟨b,rfl⟩)|(refine zB.mono (h3 _) ?_;rintro r h ⟨b,rfl⟩)
theorem HI{s:List UInt8}(B:s.length<=1048576)(c:UInt8)(h:Heap):
  zB prog 293 [.str s,.int .u8 (c.toNat:Int)] h λr h'=>h'=h/\Fin 1 (uH (qC c s)) r:=by
 refine xU kr λA=>xS ?_;refine z5 zHm ?_;simp only[f293,zA]
 repeat' first|simp only[go_sem, *]|apply bc<;>intro g
 refine zV (λi fr h'=>fr 0=.str s/\fr 1=.int .u8 (c.toNat:Int)/\fr 7=.int .i64 (i:Int)/\∃ (d:D) (m:List (List UInt8)) (f:Nat),fr 5=d/\fr 6=.int .i64 (f:Int)/\f<=i/\m.length<=i/\Own h h' 1 (uH m) d/\m++qC c (s.drop f)=qC c s/\∀j,f<=j->j<i->s[j]? ≠some c) s.length ow ?_ ?_ ?_
 ·simp only[go_sem,zQ,zS,zF];exact⟨.nilsl,[],0,rfl,rfl,zD _,zD _,Own.start (Ext.refl h) 1,by simp,λj h1 o=>by omega⟩
 ·rintro i fr h' a e1 q ⟨v,w,z,d,m,f,x,y,hf,t,p,b,k⟩;have n:((s[i].toNat:Int)==(c.toNat:Int))=(s[i]==c):=GS s[i] c;cases g:(s[i]==c)with
  |true=>
   repeat' first|simp only[go_sem,dF a,n,KS hf (mz a),jN,q, *]|apply bc<;>intro g
   refine p.str ow λu h' l=> ?_
   repeat' first|simp only[go_sem,q, *]|apply bc<;>intro g
   refine⟨u,_,i+1,rfl,rfl,zD _,by simp;omega,l,?_,λj h1 o=>by omega⟩;rw[<-b,Xf hf a (by simpa using g) k,z8];rfl
  |false=>
   repeat' first|simp only[go_sem,dF a,n,q, *]|apply bc<;>intro g
   refine⟨d,m,f,rfl,rfl,by omega,by omega,p,b,λj h1 o=> ?_⟩;rcases zo.1 o with o|rfl
   ·exact k j h1 o
   ·rw[zE a];intro e;have:=rM e;rw[this]at g;simp at g
 ·rintro fr h' e1 ⟨v,w,z,d,m,f,x,y,hf,t,p,b,k⟩
  repeat' first|simp only[go_sem,Ee hf,jN, *]|apply bc<;>intro g
  refine p.str ow λu h' l=> ?_
  repeat' first|simp only[go_sem, *]|apply bc<;>intro g
  rw[W8 k]at b;rw[<-b];exact l.fin sw
def nc(b:UInt8):Bool:=(decide ((b.toNat:Int)<97)||decide ((b.toNat:Int)>122))&&(decide ((b.toNat:Int)<48)||decide ((b.toNat:Int)>57))&& !((b.toNat:Int)==46)&& !((b.toNat:Int)==95)&& !((b.toNat:Int)==45)
theorem Mv(b:UInt8):gU b.toNat=nc b:=by
 have:=Et (p:=λb=>gU b.toNat==nc b) (by decide +kernel) b;simpa using this
theorem RG(n:Nat)(h:128<=n):gU n=true:=by
 simp only[gU,qF,wQ,oe,yy];omega
theorem Mw(b:UInt8)(r:List UInt8):gV (b::r)= !(decide (((b::r).length:Int)>32)||(b.toNat:Int)==46||(b.toNat:Int)==45||(b::r).any nc):=by
 have e1:((b.toNat:Int)==46)=(b==46):=GS b 46;have e2:((b.toNat:Int)==45)=(b==45):=GS b 45;have e3:(b::r).any (λb=>gU b.toNat)=(b::r).any nc:=by congr 1;funext x;exact Mv x
 have a:decide (((b::r).length:Int)>32)=decide ((b::r).length>32):=Qi _ 32;simp only[gV];rw[cM RG ow,uX,e3,e1,e2,a];simp only[Bool.or_assoc]
theorem L7{s:List UInt8}(u:s.length<=1048576)(h:Heap):zB prog 294 [.str s] h λr h'=>h'=h/\r=.bool (gV s):=by
 refine z5 zHn ?_;simp only[f294,zA];cases s with
 |nil=>
  have e1:decide ((([]:List UInt8).length:Int)<1)=true:=rfl
  repeat' first|simp only[go_sem, *]|apply bc<;>intro e
  rfl
 |cons b r=>
  have e1:decide (((b::r).length:Int)<1)=false:=zO (by simp only[zm];omega);have t:kV prog 9 (.str (b::r)) (.int .i64 0)=some (.int .u8 b.toNat):=mA (n:=0) underlying9 rfl;have q:=Mw b r;generalize v:b::r=s at *
  repeat' first|simp only[go_sem, *]|apply bc<;>intro e
  refine zV (λi fr h'=>fr 0=.str s/\fr 3=.int .i64 (i:Int)/\h'=h/\∀j (f:j<s.length),j<i->nc s[j]=false) s.length ow ?_ ?_ ?_
  ·simp[go_sem]
  ·rintro i fr h' a e2 o ⟨l,m,rfl,f⟩;cases d:nc s[i]with
   |true=>
    have c:=d;unfold nc at c
    repeat' first|simp only[go_sem,dF a, *]|apply bc<;>intro e
    all_goals first
     |(rw[pW a d];rfl;done)
     |(simp only[uQ,uk,bne,wA,wk,qe,qy,wj,yV,yL,qK,qd,yr,wH,qY,wX,Bool.true_eq_false,zW, *]at c;done)
   |false=>
    have c:=d;unfold nc at c
    repeat' first|simp only[go_sem,dF a, *]|apply bc<;>intro e
    all_goals first
     |exact λj k g=>qp (p:=nc) a f d j k g
     |(simp only[uQ,uk,bne,wA,wk,qe,qy,wj,yV,yL,qK,qd,yr,wH,qY,wX,Bool.true_eq_false,zW, *]at c;done)
  ·rintro fr h' e2 ⟨l,m,rfl,f⟩
   repeat' first|simp only[go_sem, *]|apply bc<;>intro e
   rw[rO f];rfl
theorem L8{s:List UInt8}(w:s.length<=1048576)(h:Heap):zB prog 224 [.str s] h λr h'=>h'=h/\r=.int .i64 (fy s):=by
 have v:=jS 47 s;have o:=lu 47 s;generalize b:qC 47 s=c at *
 have e:=HI w 47;rw[b]at e;refine z5 zHP ?_;simp only[f224,zA];by_cases q:s.length>128
 ·have e1:decide ((s.length:Int)>128)=true:=zN ow
  repeat' first|simp only[go_sem, *]|apply bc<;>intro d
  rw[fy,ip (.inl q)]
 have e1:decide ((s.length:Int)>128)=false:=zO ow
 repeat' first|simp only[go_sem, *]|apply bc<;>intro d
 refine(e _).mono ?_;rintro r h ⟨rfl,hr⟩;by_cases t:c.length>8
 ·have e2:decide ((c.length:Int)>8)=true:=zN ow
  repeat' first|simp only[go_sem,wd hr.isSl, *]|apply bc<;>intro d
  rw[fy,ip (.inr (.inl (by rw[b];exact t)))]
 have e2:decide ((c.length:Int)>8)=false:=zO ow
 repeat' first|simp only[go_sem,wd hr.isSl, *]|apply bc<;>intro d
 refine zV (λi fr h'=>fr 14=r/\fr 15=.int .i64 c.length/\fr 16=.int .i64 (i:Int)/\h'=h/\∀j (f:j<c.length),j<i->(!gV c[j])=false) c.length ow ?_ ?_ ?_
 ·simp only[go_sem,zQ,zS,zF,wd hr.isSl];exact λj h1 z=>by omega
 ·rintro i fr h' a e3 y ⟨g,k,l,rfl,f⟩;have x:=o _ (zG a);cases u:gV c[i]with
  |true=>
   repeat' first|simp only[go_sem,t9 hr.isSl a, *]|apply bc<;>intro d|refine zB.use (L7 (s:=c[i]) ow _) ?_
   exact λj n m=>qp (p:=λp=> !gV p) a f (by rw[u];rfl) j n m
  |false=>
   repeat' first|simp only[go_sem,t9 hr.isSl a, *]|apply bc<;>intro d|refine zB.use (L7 (s:=c[i]) ow _) ?_
   rw[fy,ip (.inr (.inr (by rw[b];exact pW (p:=λp=> !gV p) a (by rw[u];rfl))))]
 ·rintro fr h' e3 ⟨g,k,l,rfl,f⟩
  repeat' first|simp only[go_sem, *]|apply bc<;>intro d
  rw[fy,iq ?_];rintro(h1|h1|h1)
  ·exact q h1
  ·rw[b]at h1;exact t h1
  ·rw[b,rO (p:=λp=> !gV p) f]at h1;cases h1
theorem zCj(k:Int):k=0\/k=1\/k=2\/k=3\/k=4\/((k==0)=false/\(k==1)=false/\(k==2)=false/\(k==3)=false/\(k==4)=false):=by
 by_cases h0:k=0
 ·exact .inl h0
 by_cases h1:k=1
 ·exact .inr (.inl h1)
 by_cases a:k=2
 ·exact .inr (.inr (.inl a))
 by_cases h3:k=3
 ·exact .inr (.inr (.inr (.inl h3)))
 by_cases b:k=4
 ·exact .inr (.inr (.inr (.inr (.inl b))))
 exact .inr (.inr (.inr (.inr (.inr ⟨by simpa using h0,by simpa using h1,by simpa using a,by simpa using h3,by simpa using b⟩))))
theorem zEY:wO prog 54 []=some (.agg zEx):=by simp[wO,Mx,Ga,tp,D.notTuple,D.cells]
def TZ(f:Fac):Bool:=
 (!(f.kind==0)&&(!(f.rel==0)||f.chg))||(!(f.kind==2)&& !(f.way==0))||(!(f.kind==4)&& !(f.duty==0))||(!(f.kind==3)&&decide ((f.list.length:Int)>0))||(!(f.kind==1)&& !ZF f.e)||(((f.kind==2)||(f.kind==3))&& !(f.comp== []))||(((f.kind==1)||(f.kind==4))&& !(f.out== []))
theorem zCi{k:Int}(h0:decide (k<0)=false)(a:decide (k>4)=false):k=0\/k=1\/k=2\/k=3\/k=4:=by
 have:=zq h0;have:=zq a;omega
def UH(f:Fac):Bool:= !(f.kind==2)&& !(f.kind==3)&& !(fy f.comp==0)
def Zy(f:Fac):Bool:= !(f.kind==1)&& !(f.kind==4)&& !(fy f.out==0)
def Z2(f:Fac):Bool:=decide (f.rel<0)||decide (f.rel>2)||decide (f.way<0)||decide (f.way>2)||decide (f.duty<0)||decide (f.duty>3)
def Qx(c:Cat)(l:List (List UInt8)):Int:=if(l.any λs=> !(sE c s).isSome)=true then 7 else if(!ga l)=true then 5 else 0
def Kg(c:Cat)(f:Fac):Int:=
 if(decide (f.kind<0)||decide (f.kind>4)||TZ f)=true then 1 else if UH f=true then 2 else if Zy f=true then 2 else if Z2 f=true then 3 else if(f.kind==1)=true then tT c f.e else Qx c f.list
theorem Nw{k:Int}(h:k<0\/k>4):(gu k).2=false:=by
 unfold gu;rw[iq (by simp;omega),iq (by simp;omega),iq (by simp;omega),iq (by simp;omega),iq (by simp;omega)]
theorem Kf(c:Cat)(f:Fac):rv c f=Kg c f:=by
 cases h0:decide (f.kind<0)with
 |true=>
  have:=zg h0;unfold Kg rv;rw[h0,Nw (.inl this)];rfl
 |false=>
 cases b:decide (f.kind>4)with
 |true=>
  have:=zg b;unfold Kg rv;rw[h0,b,Nw (.inr this)];rfl
 |false=>
 have a:=zCi h0 b;unfold Kg rv Vj TZ UH Zy Z2 Qx;rw[h0,b];unfold gu dK;rcases a with a|a|a|a|a
 all_goals
  rw[a];generalize(fy f.comp==0)=l;generalize(fy f.out==0)=m;generalize tT c f.e=o;generalize ZF f.e=n;generalize decide ((f.list.length:Int)>0)=k;generalize(f.comp== [])=d;generalize(f.out== [])=i;generalize(f.rel==0)=fr;generalize(f.way==0)=j;generalize(f.duty==0)=g;generalize f.chg=h;simp
  try cases l<;>cases m<;>simp
  all_goals try (cases j<;>cases g<;>cases k<;>cases n<;>simp)
  all_goals try (cases fr<;>cases h<;>cases d<;>cases i<;>simp)
theorem HH{f:Fac}(a:f.Ok)(g:Heap):zB prog 223 [.agg f.cells] g λr h'=>h'=g/\r=.bool (!TZ f):=by
 have heq:=HD _ (zD _) a.e a.es (e2:=zEr) (by simp[Ex.Ok,okL,exs,ye.nil,zEr]);rw[HZ]at heq;have c:zEr.cells=zEx:=rfl;rw[c]at heq;have m:=zEY;have b:=wd a.list;have i:=jX;unfold TZ;obtain⟨k,p,x,y,z,q,o,e,w,d⟩:=f;generalize ZF e=n at *
 simp only[Fac.cells,Ex.cells]at heq b⊢;clear a c;generalize ZF e=n at *
 generalize e.kind=t at *
 generalize e.name=u at *
 generalize e.exc=v at *
 generalize e.d=s at *
 rcases zCj k with rfl|rfl|rfl|rfl|rfl| ⟨k0,k1,k2,k3,k4⟩
 all_goals
  refine z5 zHO ?_;simp only[f223,zA]
  repeat' first|simp only[go_sem, *]|apply bc<;>intro j
  refine zd kr ?_
  repeat' first|simp only[go_sem, *]|apply bc<;>intro j|(refine zB.mono (heq _) ?_;rintro r h ⟨l,rfl⟩)
theorem Xu{P:Program}{g:Cfg}{n:Nat}{ro:Option Nat}{t:Tmp}{a:Code}{K:Frm->Heap->Prop}{Q:Exit->Frm->Heap->Prop}{fr:Frm}{h:Heap}(h1:fr t=.bool false)(b:K fr h):vwp P g n ro (.cond (.tmp t) a .skip) (gm K Q) fr h:=by
 simp only[go_sem,h1];exact b
theorem Wc(c:Cat)(k:List UInt8):∃x:Lic,oy c k=.tuple [.agg [.str x.name,.str x.fam,.int .i64 x.ver,.str x.text],.bool (sE c k).isSome]:=by
 unfold oy;cases sE c k with
 |none=>exact⟨⟨[],[],0,[]⟩,rfl⟩
 |some x=>exact⟨x,rfl⟩
theorem Db{c:Cat}{D0:D}(n:uM c D0)(hs:c.Sm){f:Fac}(t:f.Ok)(g:Heap):zB prog 158 [D0,.agg f.cells] g λr h'=>h'=g/\r=.int .i64 (rv c f):=by
 refine xU kr λa8=> ?_;refine xP λQ hQ=> ?_;obtain⟨R,l⟩:∃R,rv c f=R:=⟨_,rfl⟩;rw[l]at hQ;rw[Kf]at l;have a:∀h,Ext g h->Q (.int .i64 R) h:=λh M=>hQ _ _ ⟨M,by simp[below],rfl⟩;have Y:Q (.int .i64 R) g:=a g (Ext.refl g);have L:=HH t;have Z:=L8 t.comp;have ab:=L8 t.out;have W:=TK n hs t.e t.es;have o:=QR n hs;have a7:=wd t.list;have b:=λi (hi:i<f.list.length)=>t9 t.list hi;have a6:=t.ll;have bb:=jX;have ba:=cH;obtain⟨ca,cb,ce,cp,rfl,_,_,_,_⟩:=n;clear hQ hs;unfold Kg at l;obtain⟨X,hX⟩:∃X,TZ f=X:=⟨_,rfl⟩;obtain⟨A,K⟩:∃A,UH f=A:=⟨_,rfl⟩;obtain⟨B,G⟩:∃B,Zy f=B:=⟨_,rfl⟩;obtain⟨V,F⟩:∃V,Z2 f=V:=⟨_,rfl⟩
 rw[hX]at L;rw[hX,K,G,F]at l;unfold UH at K;unfold Zy at G;unfold Z2 at F;obtain⟨k,cm,ot,rl,wy,O,N,e,E,d⟩:=f;simp only[Fac.cells,Ex.cells]at l L Z ab W a7 b a6 K G F⊢;clear t hX;generalize tT c e=ee at *
 generalize e.kind=S at *
 generalize e.name=T at *
 generalize e.exc=U at *
 generalize e.d=P at *
 refine z5 zG3 ?_;simp only[f158,zA];simp only[rV];refine rz (λfr h=>fr 2=.iptr [ca,cb,ce,cp] 0/\fr 3=.iptr [.int .i64 k,.str cm,.str ot,.int .i64 rl,.int .i64 wy,.int .i64 O,.bool N,.int .i64 S,.str T,.str U,P,d] 0/\h=g) ?_ ?_
 ·clear a l b K G F;exact au
 rintro fr h ⟨z,u,w⟩;subst w;simp only[rV];refine rz (λm h'=>m 21=.bool (decide (k<0)||decide (k>4)||X)/\m 2=.iptr [ca,cb,ce,cp] 0/\m 3=.iptr [.int .i64 k,.str cm,.str ot,.int .i64 rl,.int .i64 wy,.int .i64 O,.bool N,.int .i64 S,.str T,.str U,P,d] 0/\h'=h) ?_ ?_
 ·clear a l b K G F
  repeat' first|simp only[go_sem, *]|apply bc<;>intro n|(refine zB.mono (L _) ?_;rintro r h ⟨w,rfl⟩)
 clear z u fr;rintro fr h1 ⟨J,z,u,w⟩;subst w;cases h0:(decide (k<0)||decide (k>4)||X)with
 |true=>
  rw[h0]at J;rw[h0,ip rfl]at l;subst l;clear a b K G F
  repeat' first|simp only[go_sem, *]|apply bc<;>intro n
 |false=>
 rw[h0]at J;rw[h0,iq (by decide)]at l;refine Xu J ?_;clear J h0 L;simp only[rV];refine rz (λm h'=>m 35=.bool A/\m 2=.iptr [ca,cb,ce,cp] 0/\m 3=.iptr [.int .i64 k,.str cm,.str ot,.int .i64 rl,.int .i64 wy,.int .i64 O,.bool N,.int .i64 S,.str T,.str U,P,d] 0/\h'=h1) ?_ ?_
 ·clear a l b G F;rw[<-K];clear K
  repeat' first|simp only[go_sem, *]|apply bc<;>intro n|(refine zB.mono (Z _) ?_;rintro r h ⟨w,rfl⟩)
 clear z u fr;rintro fr h ⟨ag,z,u,w⟩;subst w;clear K Z;cases A with
 |true=>
  rw[ip rfl]at l;subst l;clear a b G F
  repeat' first|simp only[go_sem, *]|apply bc<;>intro n
 |false=>
 rw[iq (by decide)]at l;refine Xu ag ?_;clear ag;simp only[rV];refine rz (λm h'=>m 49=.bool B/\m 2=.iptr [ca,cb,ce,cp] 0/\m 3=.iptr [.int .i64 k,.str cm,.str ot,.int .i64 rl,.int .i64 wy,.int .i64 O,.bool N,.int .i64 S,.str T,.str U,P,d] 0/\h'=h) ?_ ?_
 ·clear a l b F;rw[<-G];clear G
  repeat' first|simp only[go_sem, *]|apply bc<;>intro n|(refine zB.mono (ab _) ?_;rintro r h ⟨w,rfl⟩)
 clear z u fr;rintro fr h1 ⟨ai,z,u,w⟩;subst w;clear G ab;cases B with
 |true=>
  rw[ip rfl]at l;subst l;clear a b F
  repeat' first|simp only[go_sem, *]|apply bc<;>intro n
 |false=>
 rw[iq (by decide)]at l;refine Xu ai ?_;clear ai;simp only[rV];refine rz (λm h'=>m 77=.bool V/\m 2=.iptr [ca,cb,ce,cp] 0/\m 3=.iptr [.int .i64 k,.str cm,.str ot,.int .i64 rl,.int .i64 wy,.int .i64 O,.bool N,.int .i64 S,.str T,.str U,P,d] 0/\h'=h1) ?_ ?_
 ·clear a l b;rw[<-F];clear F;exact au
 clear z u fr;rintro fr h ⟨ak,z,u,w⟩;subst w;clear F;cases V with
 |true=>
  rw[ip rfl]at l;subst l;clear a b
  repeat' first|simp only[go_sem, *]|apply bc<;>intro n
 |false=>
 rw[iq (by decide)]at l;refine Xu ak ?_;clear ak;cases k1:(k==1)with
 |true=>
  rw[k1,ip rfl]at l;subst l;clear a b o
  repeat' first|simp only[go_sem, *]|apply bc<;>intro n|(refine zB.mono (W _) ?_;rintro r h ⟨w,rfl⟩)
 |false=>
 rw[k1,iq (by decide)]at l;unfold Qx at l;clear W Y
 repeat' first|simp only[go_sem, *]|apply bc<;>intro n
 generalize D.int IntKind.i64 k=a0 at *
 generalize D.str cm=a1 at *
 clear k1;refine zV (λi fr h'=>fr 2=.iptr [ca,cb,ce,cp] 0/\fr 3=.iptr [a0,a1,.str ot,.int .i64 rl,.int .i64 wy,.int .i64 O,.bool N,.int .i64 S,.str T,.str U,P,d] 0/\fr 5=.int .i64 (i:Int)/\Ext h h'/\∀j (v:j<E.length),j<i->(!(sE c E[j]).isSome)=false) E.length ow ?_ ?_ ?_
 ·have M:=Ext.refl h;clear a b;simp only[go_sem,zQ,zS,zF,z,u];exact⟨M,λj v h0=>absurd h0 (zj _)⟩
 ·clear z u fr;rintro i fr h2 C ec ew ⟨z,u,f5,M,v⟩;have b1:=b i C;have bd:∀h,HLe Heap.emp h:=λh i ob e=>by cases e
  obtain⟨x,a3⟩:=Wc c E[i];have o:=o E[i];rw[a3]at o;have bk:=lM x h2 h2.next;have a4:=M.new M.1 (.row [.str x.name,.str x.fam,.int .i64 x.ver,.str x.text]);have I:=λq=>pW (p:=λs=> !(sE c s).isSome) C q;have y:=λq=>qp (p:=λs=> !(sE c s).isSome) C v q;clear b v a3;cases hb:(sE c E[i]).isSome with
  |false=>
   rw[hb]at o I y;rw[I rfl,ip rfl]at l;subst l;have hf:=a _ a4;clear a I y hb;generalize E[i]=s at *
   repeat' first|simp only[go_sem, *]|apply bc<;>intro n
   refine qD Heap.emp [(0,.st,true),(1,.no,true),(2,.st,true),(3,.no,true),(4,.no,true),(5,.st,true),(6,.sq,true),(7,.no,true),(8,.no,true),(9,.no,true),(10,.no,true),(11,.no,true),(12,.no,true)] kr kr (λi ob e=>by cases e) ?_
   repeat' first|simp only[go_sem, *]|apply bc<;>intro n
   refine JH _ (λH=>o H) ⟨_,rfl⟩ ?_;rintro r rfl
   repeat' first|simp only[go_sem, *]|apply bc<;>intro n
  |true=>
   rw[hb]at o I y;have hn:=y rfl;clear a I y hb l;generalize E[i]=s at *
   repeat' first|simp only[go_sem, *]|apply bc<;>intro n
   refine qD Heap.emp [(0,.st,true),(1,.no,true),(2,.st,true),(3,.no,true),(4,.no,true),(5,.st,true),(6,.sq,true),(7,.no,true),(8,.no,true),(9,.no,true),(10,.no,true),(11,.no,true),(12,.no,true)] kr kr (λi ob e=>by cases e) ?_
   repeat' first|simp only[go_sem, *]|apply bc<;>intro n
   refine JH _ (λH=>o H) ⟨_,rfl⟩ ?_;rintro r rfl
   repeat' first|simp only[go_sem, *]|apply bc<;>intro n
   exact hn
 clear z u fr o;rintro fr h1 ec ⟨z,u,f5,M,v⟩;rw[rO v,iq (by decide)]at l;have a:=a h1 M;clear v
 repeat' first|simp only[go_sem, *]|apply bc<;>intro n
 refine ac (λi fr h'=>fr 3=.iptr [a0,a1,.str ot,.int .i64 rl,.int .i64 wy,.int .i64 O,.bool N,.int .i64 S,.str T,.str U,P,d] 0/\fr 8=.int .i64 (i:Int)/\h'=h1/\∀j,j<i-1->j<E.length-1->leB (E.getD (j+1) []) (E.getD j [])=false) E.length ow ?_ ?_ ?_
 ·clear a b;simp only[go_sem,zQ,zS,zF,u];exact⟨rfl,λj v=>absurd v (zj _)⟩
 ·clear z u f5 fr;rintro i fr h' C ad ew a9 ⟨u,f8,w,v⟩;subst w;rw[uA]at v;have b1:=b i ow;have b2:=b (i+1) C;clear b;cases a2:l8 E[i] E[i+1]with
  |false=>
   rw[RT C a2,ip (by decide)]at l;subst l;clear v
   repeat' first|simp only[go_sem, *]|apply bc<;>intro n
   refine zd kr ?_
   repeat' first|simp only[go_sem, *]|apply bc<;>intro n
  |true=>
   have hn:=XV C a2 v;clear v l a
   repeat' first|simp only[go_sem, *]|apply bc<;>intro n
   refine zd kr ?_
   repeat' first|simp only[go_sem, *]|apply bc<;>intro n
   exact hn
 ·clear z u f5 fr;rintro i fr h' ad ⟨u,f8,w,v⟩;subst w;have a5:=zq ad;have hr:ga E=true:=zN λj h=>v j ow ow;rw[hr,iq (by decide)]at l;subst l;clear b v hr a5;exact au
theorem MO{c:Cat}{u x:D}(e:uM c u)(y:c.Sm){fs:List Fac}(z:ye 12 (dj fs) x)(O:fs.length<=1048576)(q:∀f∈fs,f.Ok)(g:Heap):zB prog 108 [u,x] g λr h'=>h'=g/\r=.tuple [.int .i64 (uC c fs).1,.int .i64 (uC c fs).2]:=by
 have k:=jA e y;have d:=λi (L:i<fs.length)=>Db e y (q _ (zG L));have v:=rh z;have K:=cH;obtain⟨C,E,ce,F,rfl,_,_,_,_⟩:=e;obtain⟨R,a⟩:∃R,uC c fs=R:=⟨_,rfl⟩;rw[a];unfold uC at a;refine z5 zGe ?_;simp only[f108,zA];cases A:(qz c==0)with
 |false=>
  rw[ip (by rw[A];rfl)]at a;subst a;clear d
  repeat' first|simp only[go_sem, *]|apply bc<;>intro e|(refine zB.mono (k _) ?_;rintro r h ⟨p,rfl⟩)
 |true=>
 rw[iq (by rw[A];decide)]at a;cases t:decide ((fs.length:Int)>256)with
 |true=>
  rw[ip t]at a;subst a;clear d
  repeat' first|simp only[go_sem, *]|apply bc<;>intro e|(refine zB.mono (k _) ?_;rintro r h ⟨p,rfl⟩)
 |false=>
 rw[iq (by rw[t];decide)]at a
 repeat' first|simp only[go_sem, *]|apply bc<;>intro e|(refine zB.mono (k _) ?_;rintro r h ⟨p,rfl⟩)
 clear k t;refine zV (λi fr h'=>fr 1=x/\fr 2=.iptr [C,E,ce,F] 0/\fr 6=.int .i64 (i:Int)/\h'=g/\∀j,j<i->pw c fs j=0) fs.length ow ?_ ?_ ?_
 ·clear a;simp only[go_sem,zQ,zS,zF];exact λj l=>absurd l (zj _)
 ·rintro i fr h' m G N ⟨H,I,J,p,l⟩;subst p;have B:=wR z m;have o:=d i m;have b:pw c fs i=rv c fs[i]:=by unfold pw;rw[zE m]
  generalize rv c fs[i]=w at *
  generalize fs[i]=f at *
  simp only[Fac.cells]at B o;clear d;cases w0:(w==0)with
  |false=>
   rw[Qo m l (by rw[b];simpa using w0),b]at a;have n:((i:Int),w)=R:=a;subst n;clear l b a
   repeat' first|simp only[go_sem, *]|apply bc<;>intro e
   refine zd kr ?_
   repeat' first|simp only[go_sem, *]|apply bc<;>intro e|(refine zB.mono (o _) ?_;rintro r h ⟨s,rfl⟩)
  |true=>
   have M:=um l (by rw[b];simpa using w0);clear l b a
   repeat' first|simp only[go_sem, *]|apply bc<;>intro e
   refine zd kr ?_
   repeat' first|simp only[go_sem, *]|apply bc<;>intro e|(refine zB.mono (o _) ?_;rintro r h ⟨s,rfl⟩)
   exact M
 ·rintro fr h' G ⟨H,I,J,p,l⟩;subst p;rw[cY l]at a;have n:((0:Int),(0:Int))=R:=a;subst n;clear d l a;exact au
section
variable{β:Type}{c:β->β->Int}
def Zq(c:β->β->Int):List β->β->Bool->List β
 | [],t,d=>if d=true then []else [t]
 |x::xs,t,d=>if(!(d||(c x t==0))&&decide (c t x<0))=true then t::x::Zq c xs t true else x::Zq c xs t (d||(c x t==0))
theorem cj:∀(l:List β)(t:β),Zq c l t true=l
 | [],_=>rfl
 |x::l,t=>by
  have a:=cj l t;simp only[Zq,qy,wH,yV,zW,yz,a]
theorem Vt:∀(l:List β)(t:β)(d:Bool),(Zq c l t d).length<=l.length+1
 | [],_,d=>by cases d<;>simp[Zq]
 |x::l,t,d=>by
  have h1:=Vt l t (d||(c x t==0));simp only[Zq];split
  ·rw[cj];simp
  ·simp only[zm];omega
theorem NH(h:QC c)(g:∀x y,c x y=0->x=y):∀{l:List β}(t:β),l.Pairwise (λa b=>c a b<0)->(Zq c l t false).Pairwise (λa b=>c a b<0)/\∀y,y∈Zq c l t false↔y∈l\/y=t
 | [],t,_=>by simp[Zq]
 |x::l,t,d=>by
  obtain⟨i,n⟩:=qQ.1 d;obtain⟨o,j⟩:=NH h g t n;simp only[Zq,qe];by_cases e:c x t=0
  ·have k:=g _ _ e;subst k;rw[show(c x x==0)=true by simp[e],wH,yV,iq (by decide),cj];refine⟨d,λy=> ?_⟩;simp only[zt];constructor
   ·exact .inl
   ·rintro(q|q)
    ·exact q
    ·exact .inl q
  ·rw[show(c x t==0)=false by simp[e],qY,yL];by_cases h1:c t x<0
   ·rw[ip (zN h1),cj];refine⟨qQ.2 ⟨λy f=> ?_,d⟩,λy=> ?_⟩
    ·rcases zt.1 f with rfl|q
     ·exact h1
     ·exact h.ltle h1 (by have:=i y q;omega)
    ·simp only[zt];constructor
     ·rintro(q|q|q)
      ·exact .inr q
      ·exact .inl (.inl q)
      ·exact .inl (.inr q)
     ·rintro((q|q)|q)
      ·exact .inr (.inl q)
      ·exact .inr (.inr q)
      ·exact .inl q
   ·rw[iq (by simpa using h1)];have m:c x t<0:=by
     have p:=h.anti t x;have r:=h.anti x t;omega
    refine⟨qQ.2 ⟨λy f=> ?_,o⟩,λy=> ?_⟩
    ·rcases(j y).1 f with q|rfl
     ·exact i y q
     ·exact m
    ·simp only[zt,j y];constructor
     ·rintro(q|q|q)
      ·exact .inl (.inl q)
      ·exact .inl (.inr q)
      ·exact .inr q
     ·rintro((q|q)|q)
      ·exact .inl q
      ·exact .inr (.inl q)
      ·exact .inr (.inr q)
def nrm(c:β->β->Int)(l:List β):List β:=cpt c (srt c l)
theorem JC(h:QC c)(l:List β):(nrm c l).Pairwise λa b=>c a b<0:=Qf h (pc h l)
theorem UD(a:∀x y,c x y=0->x=y){l:List β}{x:β} :x∈nrm c l↔x∈l:=(Qg a).trans lv
theorem NI(h:QC c)(a:∀x y,c x y=0->x=y)(l:List β)(t:β):Zq c (nrm c l) t false=nrm c (l++ [t]):=by
 obtain⟨h1,b⟩:=NH h a t (JC h l);refine mR h h1 (JC h _) λx=> ?_;rw[b,UD a,UD a,yD,zY]
end
def Ry:List Trm->Trm->Bool->List Trm
 | [],t,d=>if d=true then []else [t]
 |x::xs,t,d=>if(!(d||(x.a==t.a&&x.b==t.b))&&decide (yI t x<0))=true then t::x::Ry xs t true else x::Ry xs t (d||(x.a==t.a&&x.b==t.b))
theorem Zf:∀(l:List Trm)(t:Trm)(d:Bool),Ry l t d=Zq yI l t d
 | [],_,_=>rfl
 |x::l,t,d=>by rw[Ry,Zq,<-kI,Zf l,Zf l]
theorem If(l:List Trm)(t:Trm)(d:Bool):(Ry l t d).length<=l.length+1:=by rw[Zf];exact Vt l t d
theorem UZ(x t:Trm):(x.a==t.a&&x.b==t.b)=true↔x=t:=by
 obtain⟨a,b⟩:=x;obtain⟨c,d⟩:=t;simp
abbrev Pe(l:List Trm):Prop:=l.Pairwise λa b=>yI a b<0
theorem XJ(l:List Trm):Pe (wn l):=Qf sI (pc sI l)
theorem T7{l:List Trm}{x:Trm} :x∈wn l↔x∈l:=(Qg mO).trans lv
theorem Ld(l:List Trm)(t:Trm):Ry (wn l) t false=wn (l++ [t]):=by rw[Zf];exact NI sI mO l t
theorem Hu{l m:List Trm}(h:Pe l)(a:∀x,x∈l↔x∈m):wn m=l:=
 mR sI (XJ _) h λx=>by rw[T7,a]
theorem fR{l:List Trm}(h:Pe l):wn l=l:=Hu h λ_=>.rfl
theorem V6{l:List Trm}{n:Trm} :LY l n=true↔n∈l:=by
 unfold LY;rw[yZ];constructor
 ·rintro⟨x,a,h⟩;rw[(UZ n x).1 h];exact a
 ·intro h;exact⟨n,h,(UZ n n).2 rfl⟩
theorem nu{a b:List Trm} :tj a b=true↔∀n∈b,n∈a:=by
 unfold tj;rw[qF,rZ];constructor
 ·intro h n c;exact V6.1 (by simpa using h n c)
 ·intro h n c;have:=V6.2 (h n c);simp[this]
section
variable{β:Type}{c:β->β->Int}
theorem Hi(A B:List β)(a x:β):(((A++ [x])++a::B).set (A.length+1) x).set A.length a=A++a::x::B:=by
 rw[z8,oo _ _ ow];simp
theorem Hh(h:QC c)(n:∀x y,c x y=0->x=y){A B T:List β}{a:β}(f:A++B=srt c T)(l:∀b∈B,c a b<0)(k:∀x∈A.getLast?,¬c a x<0):A++a::B=srt c (T++ [a]):=by
 have g:=pc h T;rw[<-f]at g;obtain⟨h1,j,h3⟩:=wg.1 g;refine Rb h n ?_ ?_
 ·refine nE.trans ?_;rw[f];exact((tF T).cons a).trans (List.perm_append_singleton a T).symm
 ·refine wg.2 ⟨h1,qQ.2 ⟨λb m=> ?_,j⟩,λx d y o=> ?_⟩
  ·have:=l b m;have:=h.anti a b;omega
  ·rcases zt.1 o with rfl|q
   ·rcases jx A with rfl| ⟨e,z,rfl⟩
    ·cases d
    ·have i:¬c y z<0:=k z (by simp);rcases yD.1 (by simpa using d:x∈e++ [z])with q|q
     ·have p:¬c z x<0:=by
       have:=wg.1 (by simpa using h1:(e++ [z]).Pairwise λa b=>¬c b a<0);exact this.2.2 x q z (by simp)
      intro h5;have:=h.anti z x;have:=h.anti x z;exact i (h.ltle h5 ow)
     ·cases zY.1 q;exact i
   ·exact h3 x d y q
theorem aW(h:QC c)(d:∀x y,c x y=0->x=y):∀{l:List β},l.Pairwise (λa b=>¬c b a<0)->l.Nodup->l.Pairwise λa b=>c a b<0
 | [],_,_=>.nil
 |x::l,h1,k=>by
  obtain⟨g,i⟩:=qQ.1 h1;obtain⟨j,b2⟩:=po.1 k;refine qQ.2 ⟨λy f=> ?_,aW h d i b2⟩;have h3:=g y f;have m:=h.anti x y;have h5:=h.anti y x;by_cases e:c x y=0
  ·exact absurd (d _ _ e▸f) j
  ·omega
end
theorem Zp:∀{a b:List Trm},Pe a->Pe b->(∀n∈b,n∈a)->b.Sublist a
 | [],b,_,_,h=>by
  cases b with
  |nil=>exact .slnil
  |cons y b=>exact absurd (h y (by simp)) (by simp)
 |x::a,[],_,_,_=>List.nil_sublist _
 |x::a,y::b,j,g,h=>by
  obtain⟨i,d⟩:=qQ.1 j;obtain⟨f,b2⟩:=qQ.1 g;by_cases e:y=x
  ·subst e;refine(Zp d b2 λn c=> ?_).cons_cons y;rcases zt.1 (h n (by simp[c]))with rfl|q
   ·have:=f n c;rw[sI.refl]at this;omega
   ·exact q
  ·refine(Zp d g λn c=> ?_).cons x;rcases zt.1 (h n c)with rfl|q
   ·have k:y∈a:=by
     rcases zt.1 (h y (by simp))with q|q
     ·exact absurd q e
     ·exact q
    have h1:=i y k;rcases zt.1 c with q|q
    ·exact absurd q.symm e
    ·have l:=f n q;have:=sI.anti n y;omega
   ·exact q
theorem cZ{a b:List Trm}(c:Pe a)(d:Pe b)(f:tj a b=true)(e:a.length<=b.length):b=a:=
 (Zp c d (nu.1 f)).eq_of_length_le e
theorem WT{a b:List Trm}(c:Pe a)(d:Pe b)(e:tj a b=true):b.length<=a.length:=(Zp c d (nu.1 e)).length_le
theorem kq(a:List Trm):tj a a=true:=nu.2 λ_ h=>h
theorem gA{a b c:List Trm}(h:tj a b=true)(k:tj b c=true):tj a c=true:=nu.2 λn d=>nu.1 h n (nu.1 k n d)
theorem MB{a b:List Trm}(h:a.length<b.length):ui a b<0:=by
 rw[oD];unfold Vw wm;rw[ip (show(a.length:Int)<b.length by omega),iq (by decide)];decide
def X2(N:List (List Trm))(x:List Trm):Prop:=x∈N/\∀y∈N,tj x y=true->y=x
def Bl(N l:List (List Trm)):Prop:=l.Pairwise (λa b=>ui a b<0)/\∀x,x∈l↔X2 N x
theorem Bl.eq{N l m:List (List Trm)}(h:Bl N l)(k:Bl N m):l=m:=mR pF h.1 k.1 λx=>(h.2 x).trans (k.2 x).symm
def YE(N:List (List Trm))(i k:Nat):Bool:=(!((k:Int)==(i:Int)))&&tj (N.getD i []) (N.getD k [])&&(decide (((N.getD i []).length:Int)>((N.getD k []).length:Int))||decide ((k:Int)<(i:Int)))
def lF(N:List (List Trm))(i n:Nat):Bool:= !((List.range n).any (YE N i))
theorem Qs(N:List (List Trm))(i n:Nat):lF N i (n+1)=(lF N i n&& !YE N i n):=by
 unfold lF;rw[sG,jw];simp
def lZ(N:List (List Trm)):Nat->List (List Trm)
 |0=>[]
 |n+1=>if lF N n N.length=true then lZ N n++ [N.getD n []]else lZ N n
theorem rQ{α:Type}{l:List α}{d:α}{i:Nat}(h:i<l.length):l.getD i d=l[i]:=by rw[zK];simp[h]
theorem Yv{N:List (List Trm)}{x:List Trm} :∀{n:Nat},x∈lZ N n↔∃i,i<n/\lF N i N.length=true/\N.getD i []=x
 |0=>by simp[lZ]
 |n+1=>by
  have b:=Yv (N:=N) (x:=x) (n:=n);rw[lZ];constructor
  ·intro h;split at h
   ·rename_i q;rcases yD.1 h with h|h
    ·obtain⟨i,h1,a,h3⟩:=b.1 h;exact⟨i,by omega,a,h3⟩
    ·exact⟨n,by omega,q,(zY.1 h).symm⟩
   ·obtain⟨i,h1,a,h3⟩:=b.1 h;exact⟨i,by omega,a,h3⟩
  ·rintro⟨i,h1,a,h3⟩;rcases zo.1 h1 with q|rfl
   ·have:=b.2 ⟨i,q,a,h3⟩;split
    ·exact qV _ this
    ·exact this
   ·rw[ip a];exact qn _ (by rw[h3];simp)
theorem aD{N:List (List Trm)}{i n:Nat} :lF N i n=true↔∀k,k<n->YE N i k=false:=by
 unfold lF;simp only[qF,rZ,uZ,nC]
theorem Wi{N:List (List Trm)} :∀n,n<=N.length->(lZ N n).Nodup
 |0,_=>lS
 |n+1,h=>by
  have c:=Wi (N:=N) n ow;rw[lZ];split
  ·rename_i q;refine List.nodup_append.2 ⟨c,by simp,λa d b f e=> ?_⟩;cases zY.1 f;obtain⟨i,h1,g,h3⟩:=Yv.1 d;have:=aD.1 q i ow;unfold YE at this;rw[h3,e,kq,show((i:Int)==(n:Int))=false by simp;omega,show decide ((i:Int)<(n:Int))=true from zN ow]at this
   simp at this
  ·exact c
theorem Ec{p:Nat->Prop} :∀{n:Nat},p n->∃m,m<=n/\p m/\∀k,k<m->¬p k:=λ{n} =>by
 induction n using Nat.strongRecOn with
 |_ n e=>
  intro h;by_cases q:∃k,k<n/\p k
  ·obtain⟨k,h1,a⟩:=q;obtain⟨m,h3,b,h5⟩:=e k h1 a;exact⟨m,by omega,b,h5⟩
  ·exact⟨n,zD _,h,λk c d=>q ⟨k,c,d⟩⟩
theorem Hj{N:List (List Trm)}(g:∀x∈N,Pe x):Bl N (srt ui (lZ N N.length)):=by
 refine⟨aW pF hZ (pc pF _) ((tF _).nodup_iff.2 (Wi _ (zD _))),λx=> ?_⟩;rw[lv,Yv];constructor
 ·rintro⟨i,a,b,rfl⟩;have f:N.getD i []∈N:=by rw[rQ a];exact zG a
  refine⟨f,λy h d=> ?_⟩;obtain⟨k,c,rfl⟩:=yH.1 h;have:=aD.1 b k c;unfold YE at this;rw[rQ c,d]at this;by_cases e:k=i
  ·subst e;rw[rQ a]
  ·rw[show((k:Int)==(i:Int))=false by simp;omega]at this;simp only[qY,yL,wQ,yy]at this;exact cZ (g _ f) (g _ h) d ow
 ·rintro⟨f,m⟩;obtain⟨n,o,rfl⟩:=yH.1 f;obtain⟨i,j,a,l⟩:=Ec (p:=λi=>N.getD i []=N[n]) (n:=n) (rQ o);refine⟨i,by omega,aD.2 λk b=> ?_,a⟩;unfold YE;rw[a,rQ b];cases d:tj N[n] N[k]with
  |false=>simp
  |true=>
   have e:=m _ (zG b) d;rw[e];have h1:¬k<i:=λq=>l k q (by rw[rQ b,e]);rw[show decide ((k:Int)<(i:Int))=false from zO ow]
   simp
theorem Ms{M : List (List Trm)}{x : List Trm} : ∀{n m : Nat}, n <= m -> x ∈ rm M n -> x ∈ rm M m
  | n, m, h, a => by
    induction m with
    | zero => have : n = 0 := by omega
              subst this; exact a
    | succ m b =>
      rcases j6 m n with q | q
      · have : n = m + 1 := by omega
        subst this; exact a
      · have := b q
        rw [rm];split
        · exact this
        · unfold oL
          split
          · exact this
          · exact qV _ this
theorem Q0{M:List (List Trm)}{j:Nat}(c:j<M.length):∃b∈rm M (j+1),tj M[j] b=true:=by
 rw[rm,zE c];simp only[oL];split
 ·rename_i q;obtain⟨b,a,h⟩:=yZ.1 q;exact⟨b,a,h⟩
 ·exact⟨M[j],qn _ (by simp),kq _⟩
theorem XC{M:List (List Trm)}{x:List Trm} :∀{n:Nat},n<=M.length->(x∈rm M n↔∃j,∃h:j<M.length,j<n/\M[j]=x/\∀b∈rm M j,tj x b=false)
 |0,_=>by simp[rm]
 |n+1,h=>by
  have f:=XC (M:=M) (x:=x) (n:=n) ow;have i:n<M.length:=ow;rw[rm,zE i];simp only[oL];constructor
  ·intro a;split at a
   ·obtain⟨j,h1,c,h3⟩:=f.1 a;exact⟨j,h1,by omega,h3⟩
   ·rename_i q;rcases yD.1 a with a|a
    ·obtain⟨j,h1,c,h3⟩:=f.1 a;exact⟨j,h1,by omega,h3⟩
    ·refine⟨n,i,by omega,(zY.1 a).symm,λb d=> ?_⟩;cases e:tj x b with
     |false=>rfl
     |true=>exact absurd (yZ.2 ⟨b,d,by rw[<-zY.1 a];exact e⟩) q
  ·rintro⟨j,h1,c,rfl,h3⟩;rcases zo.1 c with q|rfl
   ·have:=f.2 ⟨j,h1,q,rfl,h3⟩;split
    ·exact this
    ·exact qV _ this
   ·split
    ·rename_i q;obtain⟨b,d,g⟩:=yZ.1 q;rw[h3 b d]at g;cases g
    ·exact qn _ (by simp)
theorem bA{M:List (List Trm)} :∀n,n<=M.length->(rm M n).Sublist (M.take n)
 |0,_=>by simp[rm]
 |n+1,h=>by
  have a:n<M.length:=ow;have b:=bA (M:=M) n ow;rw[rm,zE a,zH a];simp only[oL];split
  ·exact b.trans (List.sublist_append_left _ _)
  ·exact b.append (List.Sublist.refl _)
theorem XE{M:List (List Trm)} :∀n,n<=M.length->(rm M n).Nodup
 |0,_=>lS
 |n+1,h=>by
  have g:n<M.length:=ow;have c:=XE (M:=M) n ow;rw[rm,zE g];simp only[oL];split
  ·exact c
  ·rename_i q;refine List.nodup_append.2 ⟨c,by simp,λa d b f e=> ?_⟩;cases zY.1 f;exact q (yZ.2 ⟨a,d,by rw[e];exact kq _⟩)
theorem K4{N:List (List Trm)}(t:∀x∈N,Pe x):Bl N (rm (srt ui N) (srt ui N).length):=by
 have w:=pc pF N;have g:∀x,x∈srt ui N↔x∈N:=λx=>lv;generalize srt ui N=M at *
 have a:=bA (M:=M) M.length (zD _);rw[zb]at a;refine⟨aW pF hZ (w.sublist a) (XE _ (zD _)),λx=> ?_⟩;rw[XC (zD _)];constructor
 ·rintro⟨j,m,_,rfl,h0⟩;refine⟨(g _).1 (zG m),λy z u=> ?_⟩;have s:=t _ ((g _).1 (zG m));by_cases e:M[j].length<=y.length
  ·exact cZ s (t _ z) u e
  ·obtain⟨i,d,rfl⟩:=yH.1 ((g y).2 z);have f:ui M[i] M[j]<0:=MB ow;have A:i<j:=by
    rcases Nat.lt_trichotomy i j with q|q|q
    ·exact q
    ·subst q;rw[pF.refl]at f;omega
    ·exact absurd f (ua.1 w j i m d q)
   obtain⟨b,h,l⟩:=Q0 d;have:=h0 b (Ms ow h);rw[gA u l]at this;cases this
 ·rintro⟨E,r⟩;obtain⟨n,D,rfl⟩:=yH.1 ((g x).2 E);obtain⟨i,B,d,C⟩:=Ec (p:=λi=>M.getD i []=M[n]) (n:=n) (rQ D);have c:i<M.length:=ow;rw[rQ c]at d;refine⟨i,c,c,d,λb h=> ?_⟩;cases e:tj M[n] b with
  |false=>rfl
  |true=>
   obtain⟨k,v,o,rfl,_⟩:=(XC (M:=M) (x:=b) (n:=i) ow).1 h;have:=r _ ((g _).1 (zG v)) e;exact absurd (by rw[rQ v,this]) (C k o)
theorem bE(l:List (List Trm)):∀x∈l.map wn,Pe x:=λx a=>by
 obtain⟨y,_,rfl⟩:=zT.1 a;exact XJ y
theorem t6(l:List (List Trm)):Bl (l.map wn) (yO l):=K4 (bE l)
theorem Tl(l:List (List Trm)):srt ui (lZ (l.map wn) l.length)=yO l:=by
 have:=Hj (bE l);rw[zI]at this;exact this.eq (t6 l)
theorem X2.inc{l:List (List Trm)}{x:List Trm}(h:X2 (l.map wn) x):Pe x:=bE l x h.1
theorem K5{N:List (List Trm)}(a:∀x∈N,Pe x):∀(n:Nat){x:List Trm},x.length<=n->x∈N->∃b,X2 N b/\tj x b=true
 |n,x,i,e=>by
  induction n using Nat.strongRecOn generalizing x with
  |_ n h=>
   by_cases q:∀y∈N,tj x y=true->y=x
   ·exact⟨x,⟨e,q⟩,kq x⟩
   ·simp only[Classical.not_forall]at q;obtain⟨y,f,c,d⟩:=q;have h1:y.length<x.length:=by
     have:=WT (a x e) (a y f) c;rcases j6 y.length x.length with p|p
     ·exact p
     ·exact absurd (cZ (a x e) (a y f) c p) d
    obtain⟨b,g,h3⟩:=h y.length ow y (zD _) f;exact⟨b,g,gA c h3⟩
theorem ZC{l m:List (List Trm)}(h:∀x,X2 (l.map wn) x↔X2 (m.map wn) x):yO l=yO m:=
 (t6 l).eq ⟨(t6 m).1,λx=>((t6 m).2 x).trans (h x).symm⟩
theorem UB(l:List (List Trm)):yO (l.map wn)=yO l:=ZC λx=>by
 have:(l.map wn).map wn=l.map wn:=by
  rw[qm];exact wI λy _=>fR (XJ y)
 rw[this]
theorem bB(l m:List (List Trm)):yO (yO l++m)=yO (l++m):=ZC λx=>by
 have hid:(yO l).map wn=yO l:=by
  rw[show(yO l).map wn=(yO l).map id from wI λy c=>fR (X2.inc ((t6 l).2 y |>.1 c)),List.map_id]
 have h:=λy=>(t6 l).2 y;rw[yX,yX,hid];have g:=bE l;have hM:=bE m;generalize l.map wn=L at *
 generalize m.map wn=M at *
 constructor
 ·rintro⟨h1,d⟩;refine⟨?_,λy c a=> ?_⟩
  ·rcases yD.1 h1 with q|q
   ·exact qV _ ((h x).1 q).1
   ·exact qn _ q
  ·rcases yD.1 c with q|q
   ·obtain⟨b,i,f⟩:=K5 g _ (zD _) q;have e:=d b (qV _ ((h b).2 i)) (gA a f);subst e;have h3:=WT (by
     rcases yD.1 h1 with p|p
     ·exact X2.inc ((t6 l).2 _ |>.1 p)
     ·exact hM _ p) (g y q) a
    exact(cZ (g y q) (g _ i.1) f h3).symm
   ·exact d y (qn _ q) a
 ·rintro⟨h1,d⟩;have h3:x∈yO l++M:=by
   rcases yD.1 h1 with q|q
   ·exact qV _ ((h x).2 ⟨q,λy c a=>d y (qV _ c) a⟩)
   ·exact qn _ q
  refine⟨h3,λy c a=> ?_⟩;rcases yD.1 c with q|q
  ·exact d y (qV _ ((h y).1 q).1) a
  ·exact d y (qn _ q) a
theorem jK(l:List (List Trm)):yO (yO l)=yO l:=by
 have:=bB l []
 rwa [zp,zp]at this
theorem T3:yO []= []:=(t6 []).eq ⟨.nil,λx=>by simp[X2]⟩
theorem T4(t:Trm):yO [[t]]= [[t]]:=by
 have h:wn [t]= [t]:=fR (tD _ _);refine(t6 [[t]]).eq ⟨tD _ _,λx=> ?_⟩;simp only[X2,qL,rL,h,zY];exact⟨λe=>⟨e,λy a _=>by rw[a,e]⟩,λe=>e.1⟩
theorem T2{c:Cat}{e:Ex}{l:List (List Trm)}(h:rB c e=some l):yO l=l:=by
 obtain⟨k,n,x,a,d⟩:=e;rw[rB]at h;split at h
 ·cases h;exact T4 _
 ·split at h
  ·split at h
   ·cases h
   ·rw[(nj h).1];exact jK _
  ·split at h
   ·cases h
   ·rw[(nj h).1];exact jK _
theorem TJ(x y:Trm)(g:Heap):zB prog 332 [.agg x.cells,.agg y.cells] g λr h'=>h'=g/\r=.bool (decide (yI x y<0)):=by
 have c:decide (yI x y<0)=b2 x.a x.b y.a y.b:=JL x.a x.b y.a y.b;rw[c];unfold b2;clear c;refine z5 zH1 ?_;simp only[f332,zA];simp only[Trm.cells];exact au
theorem H0(x:Trm)(nid:Nat)(h:Heap):yB prog false nid 107 1 [(0,.agg [.str x.a,.str x.b])] h=some (.sl 2 [[.str x.a,.str x.b]] .full,h):=wP Yh so uo rfl rfl ow ow rfl rfl
theorem cr{l:List Trm}{d:D}(a:ye 2 (wW l) d)(h:Heap):js prog 107 d h=some (.int .i64 l.length):=by rw[uV a underlying107,uU]
theorem Zh{l:List Trm}{d:D}(a:ye 2 (wW l) d){i:Nat}(b:i<l.length):yP prog 107 d (.int .i64 (i:Int))=some (.iptr l[i].cells 0):=qA a Yh uo (Z7 b)
theorem VF(l:List Trm):∀x∈wW l,sH x:=λx a=>by
 obtain⟨y,_,rfl⟩:=zT.1 a;exact⟨rfl,by simp[Trm.cells,qZ,below],by simp[Trm.cells,wU,wD]⟩
theorem Own.trm{G h:Heap}{d:D}{c:List Trm}{x:Trm}{tk:Tk}{K:D->Heap->Prop}{w:HidR K}(i:Own G h 2 (wW c) d)(j:c.length<=1048576)(g:∀e h',Own G h' 2 (wW (c++ [x])) e->K e h'):Ei (qh prog false h.next 107 d (.sl 2 [[.str x.a,.str x.b]] tk) h) K w:=by
 refine i.appH (ys:=wW [x]) Yh Us uo ow (p5 _) (by simp[wW]) (by rw[uU,fE];unfold lim;simp[wW];omega) (by rw[uU];unfold lim;simp[wW];omega) λe h' f=> ?_;refine g e h' ?_
 have:wW (c++ [x])=wW c++wW [x]:=by simp[wW]
 rw[this];exact f
theorem A2{l:List Trm}{d:D}(K:ye 2 (wW l) d)(hl:l.length<=65536)(t:Trm)(g:Heap):zB prog 330 [d,.agg t.cells] g λr h'=>h'=g/\Fin 2 (wW (Ry l t false)) r:=by
 refine xU kr λF=>xS ?_;refine xP λQ J=> ?_;have L:=cr K;have u:=H0;have E:=If l t false;have k:∀d h,Own g h 2 (wW (Ry l t false)) d->Q d h:=λd h n=>J _ _ (n.fin (VF _));have U:=Rj;have s:=TJ t;obtain⟨R,w⟩:∃R,Ry l t false=R:=⟨_,rfl⟩;rw[w]at k E;clear J F;simp only[Trm.cells]at s⊢;refine z5 zHz ?_;simp only[f330,zA]
 repeat' first|simp only[go_sem, *]|apply bc<;>intro m
 refine zV (λi fr h=>fr 0=d/\fr 3=.iptr [.str t.a,.str t.b] 0/\fr 7=.int .i64 (i:Int)/\∃ (b:Bool) (p:List Trm),fr 6=.bool b/\Own g h 2 (wW p) (fr 5)/\p++Ry (l.drop i) t b=R) l.length ow ?_ ?_ ?_
 ·have G:∃ (b:Bool) (p:List Trm),D.bool false=.bool b/\Own g g 2 (wW p) .nilsl/\p++Ry (l.drop 0) t b=R:=⟨false,[],rfl,Own.start (Ext.refl g) 2,w⟩;clear k w;simp only[go_sem,zQ,zS,zF];exact G
 ·clear w;rintro i fr h y N Z ⟨O,P,T,b,p,S,n,c⟩;obtain⟨o,C⟩:∃o,fr 5=o:=⟨_,rfl⟩;rw[C]at n;have H:p.length<=65537:=by have:=congrArg List.length c;rw[zM]at this;omega
  rw[z6 y]at c;have M:=Zh K y;generalize l.drop (i+1)=rest at *
  generalize l[i]=x at *
  simp only[Trm.cells]at M;have s:=s x;have f:∀(b:Bool){h:Heap}{d:D}{us:List Trm},Own g h 2 (wW us) d->us++Ry rest t b=R->∃ (b':Bool) (p:List Trm),D.bool b=.bool b'/\Own g h 2 (wW p) d/\p++Ry rest t b'=R:=λb h d us W X=>⟨b,us,rfl,W,X⟩;clear k;cases b with
  |true=>
   rw[Ry,iq (by simp),qy]at c;have f:=λh d q=>f true (h:=h) (d:=d) (us:=p++ [x]) q (by rw[z8];exact c);clear c
   repeat' first|simp only[go_sem, *]|apply bc<;>intro m
   refine qD Heap.emp [(4,.no,false),(0,.no,false),(1,.no,false),(2,.no,false),(3,.no,false),(5,.no,false)] kr kr (λi I e=>by cases e) ?_;cases v:(x.a==t.a&&x.b==t.b)with
   |_=>
    repeat' first|simp only[go_sem, *]|apply bc<;>intro m
    refine zd kr ?_
    repeat' first|simp only[go_sem, *]|apply bc<;>intro m
    refine n.trm ow λA h' j=> ?_;have f:=f _ _ j;clear n j
    repeat' first|simp only[go_sem, *]|apply bc<;>intro m
  |false=>
  rw[Ry,qe]at c;cases v:(x.a==t.a&&x.b==t.b)with
  |true=>
   rw[v,iq (by simp)]at c;have f:=λh d q=>f true (h:=h) (d:=d) (us:=p++ [x]) q (by rw[z8];exact c);clear c
   repeat' first|simp only[go_sem, *]|apply bc<;>intro m
   refine qD Heap.emp [(4,.no,false),(0,.no,false),(1,.no,false),(2,.no,false),(3,.no,false),(5,.no,false)] kr kr (λi I e=>by cases e) ?_
   repeat' first|simp only[go_sem, *]|apply bc<;>intro m
   refine zd kr ?_
   repeat' first|simp only[go_sem, *]|apply bc<;>intro m
   refine n.trm ow λA h' j=> ?_;have f:=f _ _ j;clear n j
   repeat' first|simp only[go_sem, *]|apply bc<;>intro m
  |false=>
  rw[v,qY,yL]at c;generalize decide (yI t x<0)=B at *
  cases B with
  |true=>
   rw[ip rfl]at c;have f:=λh d q=>f true (h:=h) (d:=d) (us:=p++ [t]++ [x]) q (by rw[z8,z8];exact c);clear c
   repeat' first|simp only[go_sem, *]|apply bc<;>intro m
   refine qD Heap.emp [(4,.no,false),(0,.no,false),(1,.no,false),(2,.no,false),(3,.no,false),(5,.no,false)] kr kr (λi I e=>by cases e) ?_
   repeat' first|simp only[go_sem, *]|apply bc<;>intro m
   refine zd kr ?_
   repeat' first|simp only[go_sem, *]|apply bc<;>intro m|(refine zB.mono (s _) ?_;rintro r h ⟨V,rfl⟩)
   refine n.trm ow λA h' j=> ?_;clear n
   repeat' first|simp only[go_sem, *]|apply bc<;>intro m
   refine j.trm (by simp;omega) λY h2 z=> ?_;have f:=f _ _ z;clear j z
   repeat' first|simp only[go_sem, *]|apply bc<;>intro m
  |false=>
   rw[iq (by decide)]at c;have f:=λh d q=>f false (h:=h) (d:=d) (us:=p++ [x]) q (by rw[z8];exact c);clear c
   repeat' first|simp only[go_sem, *]|apply bc<;>intro m
   refine qD Heap.emp [(4,.no,false),(0,.no,false),(1,.no,false),(2,.no,false),(3,.no,false),(5,.no,false)] kr kr (λi I e=>by cases e) ?_
   repeat' first|simp only[go_sem, *]|apply bc<;>intro m
   refine zd kr ?_
   repeat' first|simp only[go_sem, *]|apply bc<;>intro m|(refine zB.mono (s _) ?_;rintro r h ⟨V,rfl⟩)
   refine n.trm ow λA h' j=> ?_;have f:=f _ _ j;clear n j;exact au
 ·clear w;rintro fr h N ⟨O,P,T,b,p,S,n,c⟩;obtain⟨o,C⟩:∃o,fr 5=o:=⟨_,rfl⟩;rw[C]at n;rw[tr,Ry]at c;cases b with
  |true=>
   rw[ip rfl,zp]at c;rw[c]at n;have k:=k _ _ n;clear s u n c
   repeat' first|simp only[go_sem, *]|apply bc<;>intro m
  |false=>
   rw[iq (by decide)]at c;have H:p.length<=65537:=by have:=congrArg List.length c;rw[zM]at this;omega
   repeat' first|simp only[go_sem, *]|apply bc<;>intro m
   refine n.trm ow λA h' j=> ?_;rw[c]at j;have k:=k _ _ j;clear s u n j c;exact au
theorem Lz{a b:List Trm}{d e:D}(w:ye 2 (wW a) d)(y:ye 2 (wW b) e)(L:a.length+b.length<=65536)(g:Heap):zB prog 299 [d,e] g λr h'=>h'=g/\Fin 2 (wW (wn (a++b))) r:=by
 refine xP λQ q=> ?_;have J:=wT w;have K:=wT y;have c:∀(n:List Trm)(t:Trm)(o:D),Fin 2 (wW (wn n)) o->n.length<=65536->∀h,zB prog 330 [o,.agg t.cells] h λr h'=>h'=h/\Fin 2 (wW (wn (n++ [t]))) r:=λn t o h1 H h=>by
  have:=A2 h1.isSl (za (gR n) H) t h
  rwa [Ld]at this
 simp only[Trm.cells]at c;refine z5 zHr ?_;simp only[f299,zA]
 repeat' first|simp only[go_sem, *]|apply bc<;>intro I
 refine zV (λi fr h=>fr 0=d/\fr 1=e/\fr 6=.int .i64 (i:Int)/\h=g/\Fin 2 (wW (wn (a.take i))) (fr 5)) a.length ow ?_ ?_ ?_
 ·have k:Fin 2 (wW (wn (a.take 0))) .nilsl:=.inl ⟨rfl,by rw[ss,fR .nil];rfl⟩;clear c;simp only[go_sem,zQ,zS,zF];exact k
 ·rintro i fr h j u C ⟨E,p,F,m,f⟩;subst m;obtain⟨o,l⟩:∃o,fr 5=o:=⟨_,rfl⟩;rw[l]at f;have s:=rA w j;have v:=c (a.take i) a[i] o f (by rw[z7];omega) h;rw[<-zH j]at v;generalize a.take (i+1)=A at *
  clear c q f;generalize a[i]=x at *
  simp only[Trm.cells]at s;exact au
 rintro fr h u ⟨E,p,F,m,f⟩;subst m;obtain⟨o,l⟩:∃o,fr 5=o:=⟨_,rfl⟩;rw[l,zb]at f;have k:Fin 2 (wW (wn (a++b.take 0))) o:=by rw[ss,zp];exact f
 clear f
 repeat' first|simp only[go_sem, *]|apply bc<;>intro I
 refine zV (λi fr h'=>fr 1=e/\fr 7=.int .i64 (i:Int)/\h'=h/\Fin 2 (wW (wn (a++b.take i))) (fr 5)) b.length ow ?_ ?_ ?_
 ·clear c;simp only[go_sem,zQ,zS,zF,p,l];exact k
 ·rintro i fr h j u C ⟨p,G,m,f⟩;subst m;obtain⟨o,l⟩:∃o,fr 5=o:=⟨_,rfl⟩;rw[l]at f;have s:=rA y j;have v:=c (a++b.take i) b[i] o f (by rw[zM,z7];omega) h;rw[z8,<-zH j]at v;generalize b.take (i+1)=B at *
  clear c q k f;generalize b[i]=x at *
  simp only[Trm.cells]at s;exact au
 ·rintro fr h u ⟨p,G,m,f⟩;subst m;obtain⟨o,l⟩:∃o,fr 5=o:=⟨_,rfl⟩;rw[l,zb]at f;have z:=q o h ⟨rfl,f⟩;clear c q k f;exact au
theorem A7{l:List Trm}{d:D}(v:ye 2 (wW l) d)(J:l.length<=1048576)(t:Trm)(g:Heap):zB prog 331 [d,.agg t.cells] g λr h'=>h'=g/\r=.bool (LY l t):=by
 have s:LY l t=l.any λx:Trm=>x.a==t.a&&x.b==t.b:=by
  rw[tR,V6,yZ];constructor
  ·intro h;exact⟨t,h,(UZ t t).2 rfl⟩
  ·rintro⟨x,G,h⟩;rw[<-(UZ x t).1 h];exact G
 rw[s];clear s;have w:=cr v;have E:=Rj;simp only[Trm.cells];refine z5 zH0 ?_;simp only[f331,zA]
 repeat' first|simp only[go_sem, *]|apply bc<;>intro n
 refine zV (λi fr h=>fr 0=d/\fr 3=.iptr [.str t.a,.str t.b] 0/\fr 5=.int .i64 (i:Int)/\h=g/\∀j (k:j<l.length),j<i->(l[j].a==t.a&&l[j].b==t.b)=false) l.length ow ?_ ?_ ?_
 ·simp only[go_sem,zQ,zS,zF];exact λj k h0=>absurd h0 (zj _)
 ·rintro i fr h m z I ⟨A,B,C,o,k⟩;subst o;have y:=Zh v m;have f:=λq=>qp (p:=λx:Trm=>x.a==t.a&&x.b==t.b) m k q;have c:=λq=>pW (p:=λx:Trm=>x.a==t.a&&x.b==t.b) m q;generalize l[i]=x at *
  simp only[Trm.cells]at y;clear k;cases u:(x.a==t.a&&x.b==t.b)with
  |true=>
   rw[c u];clear f c
   repeat' first|simp only[go_sem, *]|apply bc<;>intro n
   refine qD Heap.emp [(4,.no,false),(0,.no,false),(1,.no,false),(2,.no,false),(3,.no,false),(5,.no,false)] kr kr (λi H e=>by cases e) ?_
   repeat' first|simp only[go_sem, *]|apply bc<;>intro n
  |false=>
   have F:=f u;clear f c
   repeat' first|simp only[go_sem, *]|apply bc<;>intro n
   refine qD Heap.emp [(4,.no,false),(0,.no,false),(1,.no,false),(2,.no,false),(3,.no,false),(5,.no,false)] kr kr (λi H e=>by cases e) ?_
   repeat' first|simp only[go_sem, *]|apply bc<;>intro n
   exact F
 ·rintro fr h z ⟨A,B,C,o,k⟩;subst o;rw[rO k];clear k;exact au
theorem QQ{a b:List Trm}{d e:D}(C:ye 2 (wW a) d)(t:ye 2 (wW b) e)(o:a.length<=1048576)(E:b.length<=1048576)(g:Heap):zB prog 300 [d,e] g λr h'=>h'=g/\r=.bool (tj a b):=by
 have u:=wT t;have k:=A7 C o;simp only[Trm.cells]at k;unfold tj;refine z5 zHs ?_;simp only[f300,zA]
 repeat' first|simp only[go_sem, *]|apply bc<;>intro s
 refine zV (λi fr h=>fr 0=d/\fr 1=e/\fr 5=.int .i64 (i:Int)/\h=g/\∀j (l:j<b.length),j<i->(!LY a b[j])=false) b.length ow ?_ ?_ ?_
 ·clear k;simp only[go_sem,zQ,zS,zF];exact λj l h0=>absurd h0 (zj _)
 ·rintro i fr h m w G ⟨y,z,A,n,l⟩;subst n;have v:=rA t m;have f:=λq=>qp (p:=λx=> !LY a x) m l q;have c:=λq=>pW (p:=λx=> !LY a x) m q;have k:=k b[i];generalize b[i]=x at *
  simp only[Trm.cells]at v;clear l;generalize LY a x=B at *
  cases B with
  |false=>
   rw[c rfl];clear f c
   repeat' first|simp only[go_sem, *]|apply bc<;>intro s|(refine zB.mono (k _) ?_;rintro r h ⟨n,rfl⟩)
  |true=>
   have F:=f rfl;clear f c
   repeat' first|simp only[go_sem, *]|apply bc<;>intro s|(refine zB.mono (k _) ?_;rintro r h ⟨n,rfl⟩)
   exact F
 ·rintro fr h w ⟨y,z,A,n,l⟩;subst n;rw[rO l];clear l k;exact au
theorem KP(a b:List UInt8):nv a b= -1\/nv a b=0\/nv a b=1:=by
 unfold nv;split
 ·exact .inl rfl
 ·split
  ·exact .inr (.inl rfl)
  ·exact .inr (.inr rfl)
theorem KQ(x y:Trm):yI x y= -1\/yI x y=0\/yI x y=1:=by
 unfold yI;simp only[orL];have h1:=KP x.a y.a;have c:=KP x.b y.b;generalize nv x.a y.a=a at *
 generalize nv x.b y.b=b at *
 rcases h1 with rfl|rfl|rfl<;>rcases c with rfl|rfl|rfl<;>decide
theorem MQ{a b:List Trm}{d e:D}(G:ye 2 (wW a) d)(H:ye 2 (wW b) e)(Q:a.length<=1048576)(R:b.length<=1048576)(g:Heap):zB prog 301 [d,e] g λr h'=>h'=g/\r=.int .i64 (ui a b):=by
 have I:=wT G;have E:=wT H;have c:=TJ;simp only[Trm.cells]at c;have h1:=TT a.length b.length;have o:=bv a.length b.length;have F:ui a b=if(!((a.length:Int)==(b.length:Int)))=true then(if decide ((a.length:Int)<(b.length:Int))=true then -1 else 1)else pC a b:=by
  have e1:ui a b=orL [wm a.length b.length,pC a b]:=rfl;rw[e1];by_cases q:(a.length:Int)=(b.length:Int)
  ·rw[show wm a.length b.length=0 by unfold wm;rw[q];simp,iq (by simp[q])];simp only[orL];by_cases v:pC a b=0<;>simp[v]
  ·rw[ip (by simpa using q)];by_cases v:(a.length:Int)<b.length
   ·rw[show wm a.length b.length= -1 by unfold wm;rw[ip v],ip (by simpa using v)];rfl
   ·rw[show wm a.length b.length=1 by unfold wm;rw[iq v,ip ow],iq (by simpa using v)];rfl
 rw[F];clear F h1 o;refine z5 zHt ?_;simp only[f301,zA];cases S:((a.length:Int)==(b.length:Int))with
 |false=>
  rw[ip (by decide)];cases m:decide ((a.length:Int)<(b.length:Int))with
  |_=>
   clear c
   repeat' first|simp only[go_sem, *]|apply bc<;>intro l
 |true=>
 rw[iq (by decide)];have P:a.length<=b.length/\b.length<=a.length:=by have:=yU.1 S;omega
 repeat' first|simp only[go_sem, *]|apply bc<;>intro l
 refine zV (λi fr h=>fr 0=d/\fr 1=e/\fr 5=.int .i64 (i:Int)/\h=g/\∀j (h1:j<a.length)(o:j<b.length),j<i->yI a[j] b[j]=0) a.length ow ?_ ?_ ?_
 ·clear c;simp only[go_sem,zQ,zS,zF];exact λj s o h0=>absurd h0 (zj _)
 ·rintro i fr h B L T ⟨M,N,O,m,s⟩;subst m;have p:i<b.length:=ow;have J:=rA G B;have K:=rA H p;have w:=c a[i] b[i];have b2:=c b[i] a[i];have f:=Ya B p s;have k:yI a[i] b[i]=0->∀j (h1:j<a.length)(o:j<b.length),j<i+1->yI a[j] b[j]=0:=λq j h1 o h3=>by
   rcases zo.1 h3 with h|rfl
   ·exact s j h1 o h
   ·exact q
  have t:=KQ a[i] b[i];have u:=sI.anti b[i] a[i];generalize a[i]=x at *
  generalize b[i]=y at *
  simp only[Trm.cells]at J K;clear c s;by_cases z:yI x y<0
  ·have e1:decide (yI x y<0)=true:=zN z;have A:pC a b= -1:=by rw[f ow];omega
   rw[A];rw[e1]at w;clear f k t u z A e1
   repeat' first|simp only[go_sem, *]|apply bc<;>intro l
   refine zd kr ?_
   repeat' first|simp only[go_sem, *]|apply bc<;>intro l|(refine zB.mono (w _) ?_;rintro r h ⟨n,rfl⟩)
  ·have e1:decide (yI x y<0)=false:=zO z;rw[e1]at w;by_cases C:yI y x<0
   ·have e2:decide (yI y x<0)=true:=zN C;have A:pC a b=1:=by rw[f ow];omega
    rw[A];rw[e2]at b2;clear f k t u z C A e1 e2
    repeat' first|simp only[go_sem, *]|apply bc<;>intro l
    refine zd kr ?_
    repeat' first|simp only[go_sem, *]|apply bc<;>intro l|(refine zB.mono (w _) ?_;rintro r h ⟨n,rfl⟩)
    refine zd kr ?_
    repeat' first|simp only[go_sem, *]|apply bc<;>intro l|(refine zB.mono (b2 _) ?_;rintro r h ⟨n,rfl⟩)
   ·have e2:decide (yI y x<0)=false:=zO C;rw[e2]at b2;have k:=k ow;clear f t u z C e1 e2
    repeat' first|simp only[go_sem, *]|apply bc<;>intro l
    refine zd kr ?_
    repeat' first|simp only[go_sem, *]|apply bc<;>intro l|(refine zB.mono (w _) ?_;rintro r h ⟨n,rfl⟩)
    refine zd kr ?_
    repeat' first|simp only[go_sem, *]|apply bc<;>intro l|(refine zB.mono (b2 _) ?_;rintro r h ⟨n,rfl⟩)
    exact k
 ·rintro fr h L ⟨M,N,O,m,s⟩;subst m;rw[cU λj h1 o=>s j h1 o h1,iq ow,iq ow];clear s c;exact au
end Go.V
