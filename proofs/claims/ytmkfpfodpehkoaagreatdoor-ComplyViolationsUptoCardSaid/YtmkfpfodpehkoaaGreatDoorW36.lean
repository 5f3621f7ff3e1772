/- None, part 1. No condition. -/
import Derived.Test.YtmkfpfodpehkoaaGreatDoorW35
set_option linter.all false
set_option maxHeartbeats 8000000
namespace Go.V
open Go.Proofs
theorem zAG{c:Cat}(h:qz c=0):c.e1=0:=by
 unfold qz at h;split at h
 ·exact absurd h (by decide)
 ·split at h
  ·rename_i q;rw[h]at q;exact absurd q (by decide)
  ·simp_all
theorem zAF{c:Cat}(h0:qz c=0):c.ls.length<=32:=by
 unfold qz at h0;split at h0
 ·cases h0
 ·rename_i q;unfold Cat.big at q;simp only[yS,zP,ZE]at q;omega
theorem Ed{c:Cat}(h:qz c=0){i:Nat}(a:i<c.ls.length):p9 c.ls i c.ls[i]=0:=by
 have:=jH (zAG h) i a
 rwa [dE a]at this
theorem Qv{c:Cat}(h:qz c=0){x:Lic}(b:x∈c.ls):0<=x.ver/\x.ver<=999:=by
 obtain⟨i,a,rfl⟩:=yH.1 b;have:=Ed h a;unfold p9 at this;split at this
 ·cases this
 ·split at this
  ·cases this
  ·omega
theorem NN{c:Cat}(h:qz c=0){i:Nat}(a:i+1<c.ls.length):c.ls[i].name<c.ls[i+1].name:=by
 have:=Ed h a;unfold p9 at this
 (repeat' split at this)<;>try cases this
 rename_i q _;have e:(c.ls.map Lic.name).getD (i+1-1) []=c.ls[i].name:=by rw[uA,zK];simp[show i<c.ls.length by omega]
 rw[e,Y2,lg]at q;by_cases p:c.ls[i].name<c.ls[i+1].name
 ·exact p
 ·exact absurd ⟨by omega,by simp[p]⟩ q
theorem Ky{c:Cat}(h:qz c=0):∀{i j:Nat}(a:i<j)(b:j<c.ls.length),c.ls[i].name<c.ls[j].name
 |i,j+1,a,b=>by
  rcases zo.1 a with q|rfl
  ·exact gj (Ky h q ow) (NN h b)
  ·exact NN h b
theorem Hq{c:Cat}(h:qz c=0){i j:Nat}(a:i<c.ls.length)(b:j<c.ls.length)(e:c.ls[i].name=c.ls[j].name):i=j:=by
 rcases Nat.lt_trichotomy i j with q|q|q
 ·exact absurd (Ky h q b) (by rw[e];exact sX _)
 ·exact q
 ·exact absurd (Ky h q a) (by rw[e];exact sX _)
theorem aA{c:Cat}(h:qz c=0)(k:List UInt8):sE c k=c.ls.find? λx=>x.name==k:=by
 have b:=Vu c k;unfold sE;rw[h,iq (by decide)];unfold pD at b;cases e:gM k c.m with
 |none=>
  rw[e]at b;exact(Yk λj a=>by
   cases q:(c.ls[j].name==k)with
   |false=>rfl
   |true=>rw[yZ.2 ⟨_,zG a,q⟩]at b;cases b).symm
 |some v=>
  obtain⟨j,a,rfl,d⟩:=Vr e;have d:c.ls[j].name=k:=by rw[<-d,zK];simp[a]
  simp only[rY,zE a];exact(Vk a (λi f g=>by
   cases q:(c.ls[i].name==k)with
   |false=>rfl
   |true=>have:=Hq h f a (by rw[d];simpa using q);omega) (by simpa using d)).symm
theorem Wd{c:Cat}(k:List UInt8):(sE c k).isSome=((qz c==0)&&c.ls.any λx=>x.name==k):=by
 by_cases h:qz c=0
 ·rw[aA h,h];rw[show((0:Int)==0)=true from rfl,yL,tR,List.find?_isSome,yZ]
 ·have h':(qz c==0)=false:=by simpa using h
  rw[h',yV];unfold sE;rw[ip (by rw[h'];rfl)];rfl
theorem Ta{α:Type}{p q:α->Bool} :∀{l:List α},(∀x∈l,(p x&&q x)=false)->(l.filter λx=>p x||q x).Perm (l.filter p++l.filter q)
 | [],_=>.nil
 |x::l,h=>by
  have c:=Ta (l:=l) λy e=>h y (qI _ e);have d:=h x mv;cases a:p x with
  |true=>
   have b:q x=false:=by simpa [a]using d
   simp only[sd,a,b,wA,qG,zW,yz,z9];exact c.cons x
  |false=>
   cases b:q x with
   |true=>
    simp only[sd,a,b,wk,qG,zW,yz];exact(c.cons x).trans nE.symm
   |false=>simpa [sd,a,b]using c
def LI(x:Lic)(i:Nat)(y:Lic):Bool:=y.fam==x.fam&&y.ver==x.ver+(i:Int)
def LG(l:List Lic)(x:Lic)(n:Nat):List Lic:=(List.range n).flatMap λi=>l.filter (LI x i)
theorem Rq(l:List Lic)(x:Lic)(n:Nat):LG l x (n+1)=LG l x n++l.filter (LI x n):=by simp[LG,sG]
theorem Xp(l:List Lic)(x:Lic):∀n:Nat,(LG l x n).Perm (l.filter λy=>y.fam==x.fam&&(decide (y.ver>=x.ver)&&decide (y.ver<x.ver+(n:Int))))
 |0=>by
  rw[List.filter_eq_nil_iff.2]
  ·exact .refl _
  ·intro y _ q;simp at q;omega
 |n+1=>by
  rw[Rq];refine((Xp l x n).append_right _).trans ?_;refine(Ta (p:=λy:Lic=>y.fam==x.fam&&(decide (y.ver>=x.ver)&&decide (y.ver<x.ver+(n:Int)))) (q:=LI x n) λy _=> ?_).symm.trans ?_
  ·simp only[LI,Bool.eq_false_iff,ne_eq,zC,yU,zP];omega
  ·refine List.Perm.of_eq (List.filter_congr λy _=> ?_);simp only[LI];cases(y.fam==x.fam)with
   |false=>simp
   |true=>
    simp only[yL];rw[tR];simp only[yS,zC,yU,zP];omega
theorem LH{c:Cat}(h:qz c=0){x:Lic}(a:x∈c.ls):((LG c.ls x (1000-x.ver).toNat).map Lic.name).Perm (pz c x):=by
 refine((Xp c.ls x _).map Lic.name).trans (.of_eq ?_);unfold pz;congr 1;refine List.filter_congr λy b=> ?_;have h1:=Qv h a;have d:=Qv h b;unfold pY;rw[show decide (y.ver<x.ver+((1000-x.ver).toNat:Int))=true from zN ow,qd]
theorem GV{c:Cat}(h:qz c=0){x:Lic}(a:x∈c.ls):(pz c x).length<=c.ls.length:=by
 unfold pz;rw[zI];exact qM _ _
open Go.Proofs.Tryz
set_option maxRecDepth 100000
theorem Me{α:Type}{p:α->Bool}{l:List α} :(l.find? p=none/\cK p l= -1)\/∃ (i:Nat) (h:i<l.length),l.find? p=some l[i]/\cK p l=(i:Int):=by
 unfold cK;cases e:l.findIdx? p with
 |none=>
  rw[uY]at e;exact .inl ⟨List.find?_eq_none.2 λx d=>by rw[e x d];decide,rfl⟩
 |some i=>
  obtain⟨b,h1,c⟩:=ql.1 e;exact .inr ⟨i,b,Vk b (λj f a=>by simpa using c j a) h1,rfl⟩
theorem QR{c:Cat}{d:D}(o:uM c d)(B:c.Sm)(k:List UInt8)(g:Heap):zB prog 59 [d,.str k] g λr h'=>h'=g/\r=oy c k:=by
 refine xU kr λz=> ?_;refine xP λQ y=> ?_;have q:=jA o B;have n:=gE o B k;obtain⟨a,b,e,p,rfl,I,R,S,T⟩:=o;have J:wO prog 80 []=some (.agg cI):=by simp[wO,Wt,Ur,tp,D.notTuple,D.cells]
 have m:∀(x:Lic)(H:Heap),H.at' g.next=some (.row cI)->qP prog 80 (.ptr g.next 0) (.agg [.str x.name,.str x.fam,.int .i64 x.ver,.str x.text]) H=some (H.set g.next (.row [.str x.name,.str x.fam,.int .i64 x.ver,.str x.text])):=λx H h=>rU h bT rfl (by simp) rfl;obtain⟨G,P,E,w,U⟩:∃G,g.new g.next (.row cI)=G/\G.at' g.next=some (.row cI)/\Ext g G/\g.next<G.next:=⟨_,rfl,yQ _ _ _,(Ext.refl g).new (zD _) _,by rw[yA];omega⟩
 have f:∀x:Lic,sE c k=some x->Q (.tuple [.agg [.str x.name,.str x.fam,.int .i64 x.ver,.str x.text],.bool true]) (G.set g.next (.row [.str x.name,.str x.fam,.int .i64 x.ver,.str x.text])):=λx A=>y _ _ ⟨w.set (id:=g.next) (zD _) _,by simp[below,qZ],by unfold oy;rw[A]⟩;have s:sE c k=none->Q (.tuple [.agg cI,.bool false]) (G.set g.next (.row cI)):=λA=>y _ _ ⟨w.set (id:=g.next) (zD _) _,by simp[below,qZ,cI],by unfold oy;rw[A]⟩;have O:qP prog 80 (.ptr g.next 0) (.agg cI) G=some (G.set g.next (.row cI)):=m ⟨[],[],0,[]⟩ G E;have m:=λx=>m x G E;clear y z;refine z5 zKY ?_;simp only[f59,zA]
 clear w;cases C:(qz c==0)with
 |false=>
  have s:=s (by unfold sE;rw[C,ip (by decide)]);clear f n m
  repeat' first|simp only[go_sem,zi, *]|apply bc<;>intro o|(refine zB.mono (q _) ?_;rintro r h ⟨v,rfl⟩)
 |true=>
 have u:=aA (by simpa using C) k;rw[u]at f s;clear u;rcases Me (p:=λx:Lic=>x.name==k) (l:=c.ls)with⟨h1,t⟩ | ⟨j,K,h1,t⟩
 ·have s:=s h1;rw[t]at n;clear f m h1 t
  repeat' first|simp only[go_sem,zi, *]|apply bc<;>intro o|(refine zB.mono (q _) ?_;rintro r h ⟨v,rfl⟩)|(refine zB.mono (n _) ?_;rintro r h ⟨v,rfl⟩)
 ·have F:=pu I K;simp only[Lic.cells]at F;have hf:=f c.ls[j] h1;have M:=m c.ls[j];have v0:decide ((j:Int)<0)=false:=zO ow;rw[t]at n;clear f m O s h1 t
  repeat' first|simp only[go_sem,zi, *]|apply bc<;>intro o|(refine zB.mono (q _) ?_;rintro r h ⟨v,rfl⟩)|(refine zB.mono (n _) ?_;rintro r h ⟨v,rfl⟩)
  have L:∀h,HLe Heap.emp h:=λh i N e=>by cases e
  refine qD Heap.emp [(2,.no,true),(0,.no,true),(1,.st,true),(3,.no,true),(4,.no,true),(5,.no,true),(6,.no,true),(7,.no,true),(8,.no,true)] kr kr (λi N e=>by cases e) ?_
  repeat' first|simp only[go_sem,zi, *]|apply bc<;>intro o|(refine zB.mono (n _) ?_;rintro r h ⟨v,rfl⟩)
theorem Pr{c:Cat}{d:D}(w:uM c d)(hs:c.Sm)(k:List UInt8)(g:Heap):zB prog 181 [d,.str k] g λr h'=>h'=g/\match sE c k with
  |none=>r=.tuple [.nilsl,.int .i64 7]
  |some x=>∃ (ps:List (List UInt8)) (q:D),r=.tuple [q,.int .i64 0]/\Fin 1 (uH ps) q/\ps.Perm (pz c x):=by
 refine xU kr λU=>xS ?_;refine xP λQ J=> ?_;have u:=QR w hs k;cases hf:sE c k with
 |none=>
  have R:oy c k=.tuple [.agg cI,.bool false]:=by unfold oy;rw[hf]
  rw[R]at u;rw[hf]at J;have C:∀h,Ext g h->Q (.tuple [.nilsl,.int .i64 7]) h:=λh v=>J _ _ ⟨v,by simp[wD,wU,below,qZ],by simp[wD,wU]⟩;obtain⟨a,b,e,p,rfl,X,Y,he,hp⟩:=w;have ai:∀a b c e:D,yN true 4 [a,b,c,e] 0=some (.agg [a,b,c,e]):=λa b c e=>zJ rfl ow;have E:=λh:Heap=>lM ⟨[],[],0,[]⟩ h h.next;have v:=λh:Heap=>(Ext.refl h).new (zD _) (.row cI);have C:=C _ (v g);clear J U X Y he hp R hs hf v;refine z5 zDJ ?_;simp only[f181,zA]
  repeat' first|simp only[go_sem, *]|apply bc<;>intro w|(refine zB.mono (u _) ?_;rintro r h ⟨hq,rfl⟩)
 |some x=>
 have R:oy c k=.tuple [.agg [.str x.name,.str x.fam,.int .i64 x.ver,.str x.text],.bool true]:=by unfold oy;rw[hf]
 rw[R]at u;rw[hf]at J;have h0:qz c=0:=by
  by_cases h:qz c=0
  ·exact h
  ·unfold sE at hf;rw[ip (by simpa using h)]at hf;cases hf
 have I:=cX hf;obtain⟨v0,v1⟩:=Qv h0 I;have V:=LH h0 I;have Z:c.ls.length<=32:=by
  unfold qz at h0;split at h0
  ·cases h0
  ·rename_i q;unfold Cat.big at q;simp only[yS,zP,ZE]at q;omega
 obtain⟨G,hG,P,v,S⟩:∃G:Heap,g.new g.next (.row [.str x.name,.str x.fam,.int .i64 x.ver,.str x.text])=G/\G.at' g.next=some (.row [.str x.name,.str x.fam,.int .i64 x.ver,.str x.text])/\Ext g G/\g.next<G.next:=⟨_,rfl,yQ _ _ _,(Ext.refl g).new (zD _) _,by rw[yA];omega⟩;have E:=lM x g g.next;rw[hG]at E;clear hG;have o:∀d h,Own G h 1 (uH ((LG c.ls x (1000-x.ver).toNat).map Lic.name)) d->Q (.tuple [d,.int .i64 0]) h:=λd h l=>by
  have hf:=l.2.1.fin sw;have Y:=qw (yg g.next) _ hf.1;exact J _ _ ⟨v.trans l.1,by simp[wD,wU,below,qZ,Y],_,wD d,by simp[wD,wU],hf.2,V⟩
 obtain⟨a,b,e,p,rfl,X,Y,he,hp⟩:=w;have ai:∀a b c e:D,yN true 4 [a,b,c,e] 0=some (.agg [a,b,c,e]):=λa b c e=>zJ rfl ow;have l1:=pK X;have H:∀n,n<=1000->(LG c.ls x n).length<=32:=λn hn=>by
  rw[(Xp c.ls x n).length_eq];exact za (qM _ _) Z
 clear J U R hf V I h0;have s:∀h,Ext G h->h.at' g.next=some (.row [.str x.name,.str x.fam,.int .i64 x.ver,.str x.text]):=λh v=>by rw[v.2 _ S];exact P
 generalize a2:g.next=n0 at *
 clear v;refine z5 zDJ ?_;simp only[f181,zA]
 repeat' first|simp only[go_sem, *]|apply bc<;>intro w|(refine zB.mono (u _) ?_;rintro r h ⟨hq,rfl⟩)
 clear E P u;refine qx (λi fr h=>fr 2=.iptr [a,b,e,p] 0/\fr 6=.ptr n0 0/\fr 9=.int .i64 (x.ver+(i:Int))/\Own G h 1 (uH ((LG c.ls x i).map Lic.name)) (fr 8)) (1000-x.ver).toNat ?_ ?_
 ·have ad:=Own.start (Ext.refl G) 1;simp only[go_sem,zQ,zS,zF];exact⟨by rw[Int.add_zero],ad⟩
 rintro i fr h ak ⟨L,N,O,l⟩;obtain⟨d,A⟩:∃d,fr 8=d:=⟨_,rfl⟩;rw[A]at l;have z:i<=1000:=ow;by_cases S:i<(1000-x.ver).toNat
 ·have ab:decide (x.ver+(i:Int)<=999)=true:=zN ow;have hw:IntKind.i64.wrap (x.ver+(i:Int)+1)=x.ver+((i+1:Nat):Int):=by rw[qE ow ow];omega
  have ag:=H i z;have F:=Rq c.ls x i
  repeat' first|simp only[go_sem, *]|apply bc<;>intro w
  refine zV (λj fr h=>fr 2=.iptr [a,b,e,p] 0/\fr 6=.ptr n0 0/\fr 9=.int .i64 (x.ver+(i:Int))/\fr 10=.int .i64 (j:Int)/\Own G h 1 (uH ((LG c.ls x i++(c.ls.take j).filter (LI x i)).map Lic.name)) (fr 8)) c.ls.length ow ?_ ?_ ?_
  ·clear F;simp only[go_sem,zQ,zS,zF,L,N,O];rw[A,ss,List.filter_nil,zp];exact l
  ·clear L N O A l;rintro j fr h B ec ew ⟨L,N,O,K,l⟩;obtain⟨d,A⟩:∃d,fr 8=d:=⟨_,rfl⟩;rw[A]at l;have hr:=s h l.1;have a1:=pu X B;have W:LG c.ls x i++(c.ls.take (j+1)).filter (LI x i)=LG c.ls x i++(c.ls.take j).filter (LI x i)++ [c.ls[j]].filter (LI x i):=by rw[zH B,rC,z8]
   have a0:(LG c.ls x i++(c.ls.take j).filter (LI x i)).length<=64:=by
    rw[zM];have:=qM (LI x i) (c.ls.take j);rw[z7]at this;omega
   rw[W];clear W;generalize LG c.ls x i++(c.ls.take j).filter (LI x i)=pre at *
   generalize c.ls[j]=y at *
   simp only[Lic.cells]at a1;clear o s hw F H ag
   repeat' first|simp only[go_sem, *]|apply bc<;>intro w
   refine rz (λm h'=>m 50=.bool (y.fam==x.fam&&y.ver==x.ver+(i:Int))/\m 2=.iptr [a,b,e,p] 0/\m 6=.ptr n0 0/\m 9=.int .i64 (x.ver+(i:Int))/\m 10=.int .i64 (j:Int)/\m 8=d/\h'=h) ?_ ?_
   ·refine zd kr ?_;exact au
   rintro m h' ⟨M,L,N,O,K,A,hq⟩;subst hq;have t: [y].filter (LI x i)=if(y.fam==x.fam&&y.ver==x.ver+(i:Int))=true then [y]else []:=by
    rw[sd];rfl
   cases f:(y.fam==x.fam&&y.ver==x.ver+(i:Int))with
   |false=>
    rw[f,iq (by decide)]at t;rw[f]at M;rw[t,zp];clear t f
    repeat' first|simp only[go_sem, *]|apply bc<;>intro w
   |true=>
    rw[f,ip rfl]at t;rw[f]at M;rw[t];clear t f
    repeat' first|simp only[go_sem,jN, *]|apply bc<;>intro w
    refine l.str (by rw[zI];omega) λd' h' T=> ?_;have a3:Own G h' 1 (uH ((pre++ [y]).map Lic.name)) d':=by rw[yX];exact T
    clear l T;exact au
  ·rintro fr h ec ⟨L,N,O,K,l⟩;obtain⟨d,A⟩:∃d,fr 8=d:=⟨_,rfl⟩;rw[A,zb]at l;clear o s F;exact au
 ·have ab:decide (x.ver+(i:Int)<=999)=false:=zO ow;have hi:i=(1000-x.ver).toNat:=ow;rw[hi]at l;have hf:=o d h l;clear o s hi H l;exact au
variable{c:Cat}{d x:D}{e:Ex}{fs:List Fac}
def MS(f:uM c d)(i:c.Sm)(e:c.ls.length<=40)(k:List UInt8)(g:Heap):zB prog 181 [d,.str k] g λr h'=>h'=g/\∃ (a:List (List UInt8)) (q:D) (n:Int),r=.tuple [q,.int .i64 n]/\ye 1 (uH a) q/\a.length<=65536:=by
 refine(Pr f i k g).mono ?_;rintro r h' ⟨h,hr⟩;refine⟨h,?_⟩;cases hf:sE c k with
 |none=>
  rw[hf]at hr;exact⟨[],.nilsl,7,hr,ye.nil,by simp⟩
 |some x=>
  rw[hf]at hr;obtain⟨a,q,h1,b,h3⟩:=hr;refine⟨a,q,0,h1,b.isSl,?_⟩;have e1:=h3.length_eq;have e2:(pz c x).length<=c.ls.length:=by
   unfold pz;rw[zI];exact qM _ _
  omega
noncomputable def Bc(a b:Int):Int:=match LZ (.int .i64 a) (.int .i64 b)with
 |some (.int _ c)=>c
 |_=>0
def GX(a b:Int):LZ (.int .i64 a) (.int .i64 b)=some (.int .i64 (Bc a b)):=by
 unfold Bc;simp only[LZ,qG]
def zIM(a b:Int):∃c,GW (.int .i64 a) (.int .i64 b)=some (.int .i64 c):=by
 simp only[GW,qG];exact⟨_,rfl⟩
def zIN(a b:Int):∃c,LZ (.int .i64 a) (.int .i64 b)=some (.int .i64 c):=by
 simp only[LZ,qG];exact⟨_,rfl⟩
def TP{F:D}(f:uM c F)(Y:c.Sm)(t:c.ls.length<=40):∀(n:Nat){e:Ex},e.size<=n->e.Ok->e.size<=1048576->∀g:Heap,zB prog 145 [F,.agg e.cells] g λr h'=>h'=g/\∃a b,r=.tuple [.int .i64 a,.int .i64 b]:=by
 intro n
 induction n with
 |zero=>intro e h;cases e;simp only[Ex.size]at h;omega
 |succ n Z=>
 intro e W p E g;refine xP λQ T=> ?_;have H:∀a b,Q (.tuple [.int .i64 a,.int .i64 b]) g:=λa b=>T _ _ ⟨rfl,a,b,rfl⟩;have y:=MS f Y t;obtain⟨K,L,ce,M,rfl,_,_,_,_⟩:=f;obtain⟨k,nm,x,l,d⟩:=e;simp only[Ex.size,Ex.Ok]at W p E;obtain⟨G,hl,_,_,v⟩:=p;have I:=pR G;refine z5 zG0 ?_;simp only[f145,zA];simp only[Ex.cells,Ex.kind,Ex.name,Ex.exc,Ex.d];cases k0:(k==0)with
 |true=>
  repeat' first|simp only[go_sem, *]|apply bc<;>intro f
 |false=>
 cases k1:(k==1)with
 |true=>
  repeat' first|simp only[go_sem, *]|apply bc<;>intro f
  refine(y _ _).mono ?_;rintro r h ⟨j,ps,q,m,rfl,C,_⟩;subst j;have U:=wd C;obtain⟨mx,V⟩:=zIM 1 (ps.length:Int)
  repeat' first|simp only[go_sem, *]|apply bc<;>intro f
 |false=>
 repeat' first|simp only[go_sem, *]|apply bc<;>intro f
 refine zV (λi fr h=>fr 2=.iptr [K,L,ce,M] 0/\fr 3=.iptr [.int .i64 k,.str nm,.str x,d] 0/\fr 10=.int .i64 (i:Int)/\h=g/\IsI (fr 8)/\IsI (fr 9)) l.length ow ?_ ?_ ?_
 ·simp only[go_sem,zQ,zS,zF,isI]
 ·rintro i fr h o N ew ⟨O,P,s,j,⟨u,R⟩,⟨w,S⟩⟩;subst j;have J:=kG G o;have A:l[i]∈l:=zG o;have j:=Z (e:=l[i]) (by have:=uP A;omega) (pS v _ A) (by have:=uP A;omega);have hI:=isI;simp only[Ex.cells]at J j;have B:∀z:Int,LZ (.int .i64 z) (.int .i64 64)=some (.int .i64 (Bc z 64)):=λz=>GX z 64
  repeat' first|simp only[go_sem, *]|apply bc<;>intro f
  refine zd kr ?_
  repeat' first|simp only[go_sem, *]|apply bc<;>intro f|(refine zB.mono (j _) ?_;rintro r h ⟨X,a,b,rfl⟩)
 ·rintro fr h N ⟨O,P,s,j,⟨u,R⟩,⟨w,S⟩⟩;subst j;obtain⟨mn,B⟩:=zIN w 1000000;exact au
def QY{n:D}(i:uM c n)(s:c.Sm)(f:c.ls.length<=40)(j:e.Ok)(m:e.size<=1048576)(g:Heap):zB prog 94 [n,.agg e.cells] g λr h'=>h'=g/\∃a,r=.int .i64 a:=by
 refine xP λQ q=> ?_;have o:∀a,Q (.int .i64 a) g:=λa=>q _ _ ⟨rfl,a,rfl⟩;have p:=TP i s f e.size (zD _) j m;obtain⟨t,u,ce,v,rfl,_,_,_,_⟩:=i;obtain⟨k,y,x,l,d⟩:=e;refine z5 zKs ?_;simp only[f94,zA];simp only[Ex.cells]at p⊢
 repeat' first|simp only[go_sem, *]|apply bc<;>intro i|(refine zB.mono (p _) ?_;rintro r h ⟨w,a,b,rfl⟩)
def Lh(c:Cat):Bool:=decide ((c.ls.length:Int)>40)||decide ((c.es.length:Int)>40)||(decide ((c.cs.length:Int)>40)&&decide ((c.cs.length:Int)<=128))||decide ((c.cs.length:Int)>140)||decide ((c.ps.length:Int)>80)
theorem KA(t:uM c d)(A:c.Sm)(g:Heap):zB prog 92 [d] g λr h'=>h'=g/\∃b,r=.bool b/\(b=true->c.ls.length<=40):=by
 refine xP λQ K=> ?_;have hf:Q (.bool false) g:=K _ _ ⟨rfl,_,rfl,λq=>by cases q⟩;have u:Lh c=false->∀b,Q (.bool b) g:=λB b=>K _ _ ⟨rfl,b,rfl,λ_=>by
  unfold Lh at B;simp only[wQ,yy]at B;omega⟩
 have D:=A.cs.2;have E:=A.es.2;obtain⟨a,b,e,p,rfl,L,G,H,J⟩:=t;have l1:=pK L;have S:=fP G;have T:=nb H;have U:=fO J;have s1:=A.ls.1;have s2:=A.es.1;have s3:=A.cs.1;have s4:=A.ps;refine z5 zKq ?_;simp only[f92,zA];simp only[rV];refine rz (λv h'=>v 1=.iptr [a,b,e,p] 0/\h'=g) ?_ ?_
 ·exact au
 rintro fr h ⟨m,f⟩;subst f;simp only[rV];refine rz (λv h'=>v 42=.bool (Lh c)/\v 1=.iptr [a,b,e,p] 0/\h'=h) ?_ ?_
 ·clear hf u D E;unfold Lh;exact au
 rintro fr h ⟨C,m,f⟩;subst f;cases B:Lh c with
 |true=>
  rw[B]at C
  repeat' first|simp only[go_sem, *]|apply bc<;>intro t
 |false=>
 rw[B]at C;have u:=u B;have R:∀(s:List UInt8) h,js prog 9 (.str s) h=some (.int .i64 s.length):=λs h=>pN underlying9;have Z:=isI
 repeat' first|simp only[go_sem, *]|apply bc<;>intro t
 refine zV (λi fr h'=>fr 1=.iptr [a,b,e,p] 0/\fr 4=.int .i64 (i:Int)/\IsI (fr 3)/\h'=h) c.ls.length ow ?_ ?_ ?_
 ·simp only[go_sem,zQ,zS,zF,isI,m]
 ·rintro i fr h l z F ⟨m,w,⟨n,o⟩,f⟩;subst f;have y:=pu L l;simp only[Lic.cells]at y
  repeat' first|simp only[go_sem, *]|apply bc<;>intro t
  refine zd kr ?_;exact au
 rintro fr h z ⟨m,w,⟨n,o⟩,f⟩;subst f
 repeat' first|simp only[go_sem, *]|apply bc<;>intro t
 have S:=fP G;refine zV (λi fr h'=>fr 1=.iptr [a,b,e,p] 0/\fr 5=.int .i64 (i:Int)/\IsI (fr 3)/\h'=h) c.es.length ow ?_ ?_ ?_
 ·simp only[go_sem,zQ,zS,zF,isI,m,o]
 ·rintro i fr h l z F ⟨m,w,⟨n,o⟩,f⟩;subst f;have y:=df G l;have o1:=rF (E _ (zG l)).1;generalize c.es[i]=x at *
  simp only[Exc.cells]at y
  repeat' first|simp only[go_sem, *]|apply bc<;>intro t
  refine zd kr ?_;exact au
 rintro fr h z ⟨m,w,⟨n,o⟩,f⟩;subst f
 repeat' first|simp only[go_sem, *]|apply bc<;>intro t
 have T:=nb H;refine zV (λi fr h'=>fr 1=.iptr [a,b,e,p] 0/\fr 6=.int .i64 (i:Int)/\IsI (fr 3)/\h'=h) c.cs.length ow ?_ ?_ ?_
 ·simp only[go_sem,zQ,zS,zF,isI,m,o]
 ·rintro i fr h l z F ⟨m,w,⟨n,o⟩,f⟩;subst f;have y:=lV H l;obtain⟨M,o2⟩:=D _ (zG l);have o1:=wd M;have V:=λj (P:j<c.cs[i].list.length)=>t9 M P;generalize c.cs[i]=x at *
  simp only[Cla.cells]at y
  repeat' first|simp only[go_sem, *]|apply bc<;>intro t
  refine zd kr ?_
  repeat' first|simp only[go_sem, *]|apply bc<;>intro t
  refine qx (λk fr h'=>fr 1=.iptr [a,b,e,p] 0/\fr 6=.int .i64 (i:Int)/\fr 7=.int .i64 (k:Int)/\IsI (fr 3)/\h'=h) x.list.length ?_ ?_
  ·simp only[go_sem,zQ,zS,zF,isI,m,w,o]
  ·rintro k fr h hk ⟨m,X,Y,⟨n,o⟩,f⟩;subst f;by_cases I:k<x.list.length
   ·have N:decide ((k:Int)<(x.list.length:Int))=true:=zN ow;have O:IntKind.i64.wrap ((k:Int)+1)=((k+1:Nat):Int):=qT (by unfold lim;omega);have W:=V k I;exact au
   ·have N:decide ((k:Int)<(x.list.length:Int))=false:=zO ow;exact au
 rintro fr h z ⟨m,w,⟨n,o⟩,f⟩;subst f
 repeat' first|simp only[go_sem, *]|apply bc<;>intro t
 have U:=fO J;refine zV (λi fr h'=>fr 1=.iptr [a,b,e,p] 0/\fr 8=.int .i64 (i:Int)/\IsI (fr 3)/\h'=h) c.ps.length ow ?_ ?_ ?_
 ·simp only[go_sem,zQ,zS,zF,isI,m,o]
 ·rintro i fr h l z F ⟨m,w,⟨n,o⟩,f⟩;subst f;have y:=de J l;simp only[Apt.cells]at y
  repeat' first|simp only[go_sem, *]|apply bc<;>intro t
  refine zd kr ?_;exact au
 rintro fr h z ⟨m,w,⟨n,o⟩,f⟩;subst f;exact au
structure Fac.Ok0(f:Fac):Prop where
 e:f.e.Ok
 list:ye 1 (uH f.list) f.d
 ll:f.list.length<=1048576
 comp:f.comp.length<=1048576
 out:f.out.length<=1048576
def Fac.Ok0.ok{f:Fac}(h:f.Ok0)(a:f.e.size<=120):f.Ok:=⟨h.e,by omega,h.list,h.ll,h.comp,h.out⟩
def Ez(fs:List Fac):Prop:=((fs.length<=16\/256<fs.length)/\fs.length<=260)/\∀f∈fs,f.e.size<=120
def Bt(n:Nat):Bool:=(decide ((n:Int)>16)&&decide ((n:Int)<=256))||decide ((n:Int)>260)
theorem KD(l:uM c d)(hs:c.Sm)(P:ye 12 (dj fs) x)(hl:fs.length<=1048576)(ad:∀f∈fs,f.Ok0)(g:Heap):zB prog 46 [d,x] g λr h'=>h'=g/\∃b,r=.bool b/\(b=true->Ez fs/\c.ls.length<=40):=by
 refine xP λQ hQ=> ?_;have hf:Q (.bool false) g:=hQ _ _ ⟨rfl,_,rfl,λq=>by cases q⟩;obtain⟨V,R,Vs,Vf⟩:∃V:Nat->Prop,V 0/\(∀i (hi:i<fs.length),V i->(fs[i]).e.size<=120->V (i+1))/\(V fs.length->∀f∈fs,f.e.size<=120):=by
  refine⟨λi=>∀j (y:j<fs.length),j<i->(fs[j]).e.size<=120,λj y h0=>by omega,λi hi A hn j y Z=> ?_,λA x P=> ?_⟩
  ·rcases zo.1 Z with h|rfl
   ·exact A j y h
   ·exact hn
  ·obtain⟨j,y,rfl⟩:=yH.1 P;exact A j y y
 have a:c.ls.length<=40->Bt fs.length=false->V fs.length->∀b,Q (.bool b) g:=λh4 A H b=>hQ _ _ ⟨rfl,b,rfl,λ_=>by
  unfold Bt at A;simp only[wQ,oe,yy]at A;exact⟨⟨by omega,Vf H⟩,h4⟩⟩
 have a5:=rh P;have X:=KA l hs;have u:=λt=>λ{e:Ex} W v=>QY (e:=e) l hs t W v;obtain⟨M,N,ce,O,rfl,_,_,_,_⟩:=l;have a0:=jX;obtain⟨F,ak,p,G⟩:∃F:D->Prop,F (.bool true)/\(c.ls.length<=40->F (.bool (Bt fs.length)))/\(∀z,F z->∃b,z=.bool b/\(b=false->c.ls.length<=40/\Bt fs.length=false)):=⟨λz=>∃b,z=.bool b/\(b=false->c.ls.length<=40/\Bt fs.length=false),⟨true,rfl,λq=>by cases q⟩,λq=>⟨_,rfl,λw=>⟨q,w⟩⟩,λz v=>v⟩;refine z5 zKT ?_;simp only[f46,zA];simp only[rV];refine rz (λm h'=>m 1=x/\m 2=.iptr [M,N,ce,O] 0/\h'=g) ?_ ?_
 ·exact au
 rintro fr h ⟨C,E,o⟩;subst o;simp only[rV];refine rz (λm h'=>F (m 26)/\m 1=x/\m 2=.iptr [M,N,ce,O] 0/\h'=h) ?_ ?_
 ·clear hf a u R Vs G
  repeat' first|simp only[go_sem, *]|apply bc<;>intro l
  refine(X _).mono ?_;rintro r h ⟨o,b,rfl,I⟩;subst o;cases b with
  |false=>
   repeat' first|simp only[go_sem, *]|apply bc<;>intro l
  |true=>
   have p:=p (I rfl);unfold Bt at p;cases w1:decide ((fs.length:Int)>16)<;>cases w2:decide ((fs.length:Int)<=256)<;>cases w3:decide ((fs.length:Int)>260)
   all_goals
    rw[w1,w2,w3]at p;simp only[qd,qK,wk,wA,yr,wj,qe,qy,yV,yL]at p;exact au
 rintro fr h ⟨Y,C,E,o⟩;subst o;obtain⟨b,ai,I⟩:=G _ Y;cases b with
 |true=>
  repeat' first|simp only[go_sem, *]|apply bc<;>intro l
 |false=>
 obtain⟨t,A⟩:=I rfl;have u:=λ{e:Ex} W v=>u t (e:=e) W v;have a:=a t A;have hI:=isI;have a4:∀(s:List UInt8) h,js prog 9 (.str s) h=some (.int .i64 s.length):=λs h=>pN underlying9
 repeat' first|simp only[go_sem, *]|apply bc<;>intro l
 refine zV (λi fr h'=>fr 1=x/\fr 2=.iptr [M,N,ce,O] 0/\fr 6=.int .i64 (i:Int)/\IsI (fr 5)/\h'=h/\V i) fs.length ow ?_ ?_ ?_
 ·simp only[go_sem,zQ,zS,zF,isI,R,C,E]
 ·clear a R;rintro i fr h B ec ew ⟨C,E,T,⟨n5,S⟩,o,H⟩;subst o;have a1:=wR P B;have K:=ad _ (zG B);have U:=Vs i B H;generalize fs[i]=f at *
  have oi:=λj (y:j<f.list.length)=>t9 K.list y;have o1:=wd K.list;have ol:=K.ll;have J:=KB K.e;have L:=λv=>u K.e v;simp only[Fac.cells]at a1;simp only[Ex.cells]at J L
  repeat' first|simp only[go_sem, *]|apply bc<;>intro l
  refine zd kr ?_
  repeat' first|simp only[go_sem, *]|apply bc<;>intro l
  refine qx (λk fr h'=>fr 1=x/\fr 2=.iptr [M,N,ce,O] 0/\fr 6=.int .i64 (i:Int)/\fr 8=.int .i64 (k:Int)/\IsI (fr 5)/\IsI (fr 7)/\h'=h) f.list.length ?_ ?_
  ·simp only[go_sem,zQ,zS,zF,isI,C,E,T,S]
  rintro k fr h hk ⟨C,E,T,f8,⟨n5,S⟩,⟨n,f7⟩,o⟩;subst o;cases v4:decide (n>400)with
  |true=>
   have v5:decide (n<=400)=false:=zO (by have:=zg v4;omega);cases ek:decide ((k:Int)<(f.list.length:Int))
   ·exact au
   ·repeat' first|simp only[go_sem, *]|apply bc<;>intro l
  |false=>
  have v5:decide (n<=400)=true:=zN (by have:=zq v4;omega);by_cases ab:k<f.list.length
  ·have ek:decide ((k:Int)<(f.list.length:Int))=true:=zN ow;have ag:IntKind.i64.wrap ((k:Int)+1)=((k+1:Nat):Int):=qT (by unfold lim;omega);have a2:=oi k ab;exact au
  ·have ek:decide ((k:Int)<(f.list.length:Int))=false:=zO ow
   repeat' first|simp only[go_sem, *]|apply bc<;>intro l
   refine(J _).mono ?_;rintro r h' ⟨o,b,rfl,I⟩;subst o;cases b with
   |false=>
    repeat' first|simp only[go_sem, *]|apply bc<;>intro l
   |true=>
    have v:=I rfl;have a3:=U v;have hw:=L ow
    repeat' first|simp only[go_sem, *]|apply bc<;>intro l
    refine qD Heap.emp [(1,.no,false),(0,.no,false),(2,.no,false),(3,.no,false),(4,.no,false),(5,.no,false),(6,.no,false),(7,.no,false),(8,.no,false),(9,.no,false)] kr kr (λi ob e=>by cases e) ?_
    repeat' first|simp only[go_sem, *]|apply bc<;>intro l|(refine zB.mono (hw _) ?_;rintro r h ⟨a6,w,rfl⟩)
 ·rintro fr h ec ⟨C,E,T,⟨n5,S⟩,o,H⟩;subst o;have a:=a H;exact au
end Go.V
