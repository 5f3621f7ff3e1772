/- Rules of the machine of abstract values, part 8. No condition. -/
import Derived.Test.YtmkfpfodpehkoaaGreatDoorW31
set_option linter.all false
set_option maxHeartbeats 8000000
namespace Go.V
def jP(h:Heap)(i:Nat)(o a:Obj):(h.set i o).set i a=h.set i a:=by
 unfold Heap.set;simp only[Heap.mk.injEq,zQ]
 funext j
 by_cases e:j=i<;>simp[e]
variable{P:Program}{f:FuncId}{args:List D}{h:Heap}{i n sz:Nat}{z d:D}{xs:List (List D)}{e:Ex}{c:Cat}
def xP{R:D->Heap->Prop}(H:∀Q:D->Heap->Prop,(∀r h',R r h'->Q r h')->zB P f args h Q):zB P f args h R:=H R λ_ _ x=>x
section
variable{P:Program}{sz:Nat}{t e:TypeId}{id off len:Nat}{h:Heap}{xs:List (List D)}
def sy(a:tQ P t=some e)(c:szT P e=sz){k:IntKind}(b:i<len):yP P t (.rs id sz off len) (.int k (i:Int))=some (.ptr id (off+i*sz)):=by
 simp[yP,a,c,b]
def ph(a:X5 P t=none)(b:tQ P t=some e)(d:szT P e=sz){k:IntKind}(c:n<=len):wi P t (.rs id sz 0 len) (some (.int k (n:Int))) none none h=some (.rs id sz (n*sz) (len-n)):=by
 simp[wi,a,mj,b,d,to,Zo,Xy,c]
def jY(c:∀x∈xs,x.length=sz)(h0:0<sz){a i:Nat}{x:List D}(b:xs[a+i]? =some x):yN true sz xs.flatten (a*sz+i*sz)=some (.agg x):=by
 rw[<-wF];exact mB c h0 b
def JT(cs vs:List D)(off:Nat)(h:off+vs.length=cs.length):uG cs vs off=cs.take off++vs:=by
 unfold uG;rw[wq ow,zp]
def Jy(a:∀x∈xs,x.length=sz):∀{n:Nat},xs.flatten.take (n*sz)=(xs.take n).flatten:=by
 induction xs with
 |nil=>intro n;simp
 |cons x xs c=>
  intro n;cases n with
  |zero=>simp
  |succ n=>
   have d:=a x (by simp);rw[yc,mH,yc,qf,List.take_append,yj ow,show n*sz+sz-x.length=n*sz by omega,c (λy b=>a y (by simp[b]))]
def Xo(d:tQ P t=some e)(j:sD P e=some z)(c:z.notTuple=true)(a:z.cells.length=sz)(f:h.at' id=some (.row xs.flatten))(i:∀x∈xs,x.length=sz)(p:n<=xs.length):
  ∃rest,dQ P t (.rs id sz (n*sz) (xs.length-n)) h=some (h.set id (.row ((xs.take n).flatten++rest))):=by
 by_cases h0:xs.length-n=0
 ·refine⟨[],?_⟩;have b:n=xs.length:=ow;have l:h.set id (.row ((xs.take n).flatten++ []))=h:=by
   rw[b,zb,zp];exact nh f
  rw[l];simp only[dQ,d,j,h0,qG]
 ·refine⟨nz (xs.length-n) z.cells,?_⟩;have hr:∀m,(nz m z.cells).length=m*sz:=by
   intro m
   induction m with
   |zero=>simp[nz]
   |succ m o=>
    change (List.replicate m z.cells).flatten.length=m*sz at o;change (List.replicate (m+1) z.cells).flatten.length=(m+1)*sz;rw[wJ,yc,zM,a,qf];omega
  have k:=tE i;have g:n*sz+(xs.length-n)*sz=xs.length*sz:=by rw[<-wF];congr 1;omega
  simp only[dQ,d,j];rw[iq h0,ip (by simp[c,a]),f];simp only;rw[ip ow,JT _ _ _ (by rw[hr];omega),Jy i]
end
variable{sz:Nat}{xs:List (List D)}{P:Program}{h:Heap}{e:Ex}
def yR(h:ye sz xs d):d.cells= [d]/\d.notTuple=true/\d.flat=true:=by
 rcases h with⟨rfl,_⟩ | ⟨tk,rfl⟩ <;>exact⟨rfl,rfl,rfl⟩
open Go.Proofs.Tryz
open Go.Proofs
set_option maxRecDepth 100000
theorem fU(e:Ex):∀l:List Ex,yt (l++ [e])=yt l+e.size
 | []=>by simp[yt]
 |x::l=>by
  have:=fU e l;simp only[z9,yt,this];omega
def zEI{a:Nat}(b:a<=4194304):mg .quo .i64 .i64 (a:Int) 40=some (.int .i64 ((a/40:Nat):Int)):=by
 have c:((a:Int)).tdiv 40=((a/40:Nat):Int):=by
  rw[Int.tdiv_eq_ediv_of_nonneg ow];omega
 have d:a/40<=4194304:=za (Nat.div_le_self _ _) b;simp only[mg,Nx,qG];rw[iq (by decide),c];generalize a/40=z at *
 rw[qE ow ow]
theorem QV:∀(deep:Nat),deep<=40->∀{e:Ex},e.Ok->∀(b:Nat),b<=120->∀g:Heap,zB prog 144 [.agg e.cells,.int .i64 (b:Int),.int .i64 (deep:Int)] g λr h'=>h'=g/\∃n:Nat,r=.int .i64 (n:Int)/\n<=b+100001/\(n<=b->e.size<=n):=by
 intro deep
 induction deep with
 |zero=>
  intro _ e f b V g;refine xP λQ j=> ?_;obtain⟨k,c,x,l,d⟩:=e;simp only[Ex.Ok]at f;obtain⟨F,U,h1,R,v⟩:=f;have P:IntKind.i64.wrap ((b:Int)+1)=((b+1:Nat):Int):=qT (by unfold lim;omega);have J:IntKind.i64.wrap ((c.length:Int)+(x.length:Int))=((c.length+x.length:Nat):Int):=by rw[qE ow ow];omega
  have W:=zEI (a:=c.length+x.length) ow;have G:(((0:Nat):Int)==0)=true:=rfl;have p:=j (.int .i64 ((b+1:Nat):Int)) g ⟨rfl,b+1,rfl,by omega,λq=>by omega⟩;clear j;refine z5 zC9 ?_;simp only[f144,zA];simp only[Ex.cells,Ex.kind,Ex.name,Ex.exc,Ex.d];simp only[go_sem, *]
 |succ deep C=>
  intro S e f b V g;refine xP λQ j=> ?_;obtain⟨k,c,x,l,d⟩:=e;simp only[Ex.Ok]at f;obtain⟨F,U,h1,R,v⟩:=f;have M:=pR F;have J:IntKind.i64.wrap ((c.length:Int)+(x.length:Int))=((c.length+x.length:Nat):Int):=by rw[qE ow ow];omega
  have W:=zEI (a:=c.length+x.length) ow;have K:(c.length+x.length)/40<=52429:=ow;have X:IntKind.i64.wrap (1+(((c.length+x.length)/40:Nat):Int))=((1+(c.length+x.length)/40:Nat):Int):=by
   generalize(c.length+x.length)/40=z at *
   rw[qE ow ow];omega
  have G:(((deep+1:Nat):Int)==0)=false:=by simp;omega
  have T:IntKind.i64.wrap (((deep+1:Nat):Int)-1)=(deep:Int):=by rw[qE ow ow];omega
  have y:(Ex.mk k c x l d).size=yt l+1:=by simp only[Ex.size]
  rw[y]at j;clear y;generalize Y:1+(c.length+x.length)/40=z at *
  have Z:1<=z:=ow;have ab:z<=52430:=ow;clear Y K;refine z5 zC9 ?_;simp only[f144,zA];simp only[Ex.cells,Ex.kind,Ex.name,Ex.exc,Ex.d];simp only[go_sem, *];refine qx (λi fr h=>fr 1=.int .i64 (b:Int)/\fr 2=.int .i64 ((deep+1:Nat):Int)/\fr 3=.iptr [.int .i64 k,.str c,.str x,d] 0/\fr 8=.int .i64 (i:Int)/\h=g/\∃n:Nat,fr 7=.int .i64 (n:Int)/\n<=b+100001/\(n<=b->yt (l.take i)+1<=n)) l.length ?_ ?_
  ·have s:∃n:Nat,D.int .i64 (z:Int)=.int .i64 (n:Int)/\n<=b+100001/\(n<=b->yt (l.take 0)+1<=n):=⟨z,rfl,by omega,λ_=>by simp[yt];omega⟩;simp only[go_sem,zQ,zS,zF];exact s
  rintro i fr h hi ⟨f1,f2,f3,f8,rfl,n,f7,A,B⟩;by_cases o:i<l.length
  ·have e1:decide ((i:Int)<(l.length:Int))=true:=zN ow;have P:IntKind.i64.wrap ((i:Int)+1)=((i+1:Nat):Int):=qT (by unfold lim;omega);cases e2:decide ((n:Int)<=(b:Int))with
   |true=>
    have u:=zg e2;have O:=kG F o;have w:l[i]∈l:=zG o;have N:IntKind.i64.wrap ((b:Int)- (n:Int))=((b-n:Nat):Int):=by rw[qE ow ow];omega
    have t:=C ow (e:=l[i]) (pS v _ w) (b-n) ow h;have I:yt (l.take (i+1))=yt (l.take i)+l[i].size:=by rw[zH o,fU]
    simp only[Ex.cells]at O t;generalize l[i]=e at *
    clear j C w;simp only[go_sem, *];refine t.mono ?_;rintro r h3 ⟨H,m,rfl,m1,m2⟩;subst H;have L:IntKind.i64.wrap ((n:Int)+(m:Int))=((n+m:Nat):Int):=by rw[qE ow ow];omega
    have s:i<l.length/\∃E:Nat,D.int .i64 ((n+m:Nat):Int)=.int .i64 (E:Int)/\E<=b+100001/\(E<=b->yt (l.take (i+1))+1<=E):=⟨o,n+m,rfl,by omega,λq=>by have:=m2 ow;have:=B ow;omega⟩;clear B m2 I m1 A t;simp only[go_sem, *]
   |false=>
    have u:=zq e2;have p:=j (.int .i64 (n:Int)) h ⟨rfl,n,rfl,A,λq=>by omega⟩;clear j C B A u;exact au
  ·have e1:decide ((i:Int)<(l.length:Int))=false:=zO ow;have p:=j (.int .i64 (n:Int)) h ⟨rfl,n,rfl,A,λq=>by have:=B q;rw[yj ow]at this;exact this⟩;clear j C B A;exact au
def KB(d:e.Ok)(g:Heap):zB prog 93 [.agg e.cells] g λr h'=>h'=g/\∃b,r=.bool b/\(b=true->e.size<=120):=by
 refine xP λQ j=> ?_;have f:=QV 40 ow d 120 ow;have l:yN true 4 e.cells 0=some (.agg e.cells):=zJ rfl ow;have a:((120:Nat):Int)=120:=rfl;have c:((40:Nat):Int)=40:=rfl;rw[a,c]at f;refine z5 zKr ?_;simp only[f93,zA];simp only[go_sem, *];refine(f _).mono ?_;rintro r h ⟨k,n,rfl,o,m⟩;subst k;have i:=j (.bool (decide ((n:Int)<=120))) h ⟨rfl,_,rfl,λq=>by have:=zg q;have:=m ow;omega⟩;exact au
def gE(v:uM c d)(y:c.Sm)(s:List UInt8)(g:Heap):zB prog 112 [d,.str s] g λr h'=>h'=g/\r=.int .i64 (cK (λx:Lic=>x.name==s) c.ls):=by
 obtain⟨a,b,e,p,rfl,n,C,D,F⟩:=v;have o:=pK n;have E:=y.ls.1;obtain⟨G,H,_⟩:=yR n;refine z5 zGi ?_;simp only[f112,zA];simp only[go_sem, *];refine zV (λi fr h=>fr 1=.str s/\fr 2=.iptr [a,b,e,p] 0/\fr 5=.int .i64 (i:Int)/\h=g/\∀j (k:j<c.ls.length),j<i->(c.ls[j].name==s)=false) c.ls.length ow ?_ ?_ ?_
 ·simp only[go_sem,zQ,zS,zF];exact λj k h0=>by omega
 ·rintro i fr h f e1 B ⟨q,t,u,rfl,k⟩;have A:=pu n f;have k0:c.ls[i].cells[0]? =some (.str c.ls[i].name):=rfl;cases l:(c.ls[i].name==s)with
  |true=>
   have z:=lX (p:=λx:Lic=>x.name==s) f k l;simp only[go_sem, *]
  |false=>
   have w:=qp (p:=λx:Lic=>x.name==s) f k l;simp only[go_sem, *];exact w
 ·rintro fr h e1 ⟨q,t,u,rfl,k⟩;have z:=lY (p:=λx:Lic=>x.name==s) λj m=>k j m m;exact au
def T5(b:UInt8):Bool:=decide ((b.toNat:Int)>=97)&&decide ((b.toNat:Int)<=122)||decide ((b.toNat:Int)>=48)&&decide ((b.toNat:Int)<=57)||(b.toNat:Int)==45||(b.toNat:Int)==46
theorem Et{p:UInt8->Bool}(h:(List.range 256).all (λn=>p (UInt8.ofNat n))=true)(b:UInt8):p b=true:=by
 have:=ze.1 h b.toNat (uZ.2 (UInt8.toNat_lt b));simpa using this
theorem Ht(b:UInt8):jL.contains b=T5 b:=by
 have:=Et (p:=λb=>jL.contains b==T5 b) (by decide +kernel) b;simpa using this
theorem Tj(b:UInt8)(r:List UInt8):ww (b::r)=(!(decide (((b::r).length:Int)>32)||decide ((b.toNat:Int)<97)||decide ((b.toNat:Int)>122)||((b::r:List UInt8)== [97,110,100])||((b::r:List UInt8)== [111,114])||((b::r:List UInt8)== [119,105,116,104]))&&(b::r).all T5):=by grind [T5,Ht,ww,jL,J0,Qi]
theorem An{p:UInt8->Bool}{s:List UInt8}{i:Nat}(a:i<s.length)(h:p s[i]=false):s.all p=false:=by grind
theorem E8{p:UInt8->Bool}{s:List UInt8}(h:∀j (a:j<s.length),j<s.length->p s[j]=true):s.all p=true:=ze.2 λx b=>by
 obtain⟨j,a,rfl⟩:=yH.1 b;exact h j a a
theorem Ih{p:UInt8->Bool}{s:List UInt8}{i:Nat}(b:i<s.length)(a:∀j (a:j<s.length),j<i->p s[j]=true)(c:p s[i]=true):∀j (a:j<s.length),j<i+1->p s[j]=true:=by grind
theorem cQ{s:List UInt8}(t:s.length<=1048576)(h:Heap):zB prog 230 [.str s] h λr h'=>h'=h/\r=.bool (ww s):=by
 refine z5 zHV ?_;simp only[f230,zA];cases s with
 |nil=>
  have e1:decide ((([]:List UInt8).length:Int)<1)=true:=rfl
  repeat' first|simp only[go_sem,ww, *]|apply bc<;>intro d
 |cons b r=>
  have e1:decide (((b::r).length:Int)<1)=false:=zO (by simp only[zm];omega);have q:kV prog 9 (.str (b::r)) (.int .i64 0)=some (.int .u8 b.toNat):=mA (n:=0) underlying9 rfl;have p:=Tj b r;generalize u:b::r=s at *
  repeat' first|simp only[go_sem, *]|apply bc<;>intro d
  refine zV (λi fr h'=>fr 0=.str s/\fr 3=.int .i64 (i:Int)/\h'=h/\∀j (e:j<s.length),j<i->T5 s[j]=true) s.length ow ?_ ?_ ?_
  ·simp[go_sem]
  ·rintro i fr h' a e2 o ⟨l,m,rfl,e⟩;cases c:T5 s[i]with
   |true=>
    have k:=c;unfold T5 at k
    repeat' first|simp only[go_sem,dF a, *]|apply bc<;>intro d
    all_goals first
     |exact λj g f=>Ih a e c j g f
     |(exfalso;simp_all;done)
     |(exfalso;simp_all;omega)
   |false=>
    have k:=c;unfold T5 at k
    repeat' first|simp only[go_sem,dF a, *]|apply bc<;>intro d
    all_goals first
     |(rw[An a c];done)
     |(exfalso;simp_all;done)
     |(exfalso;simp_all;omega)
  ·rintro fr h' e2 ⟨l,m,rfl,e⟩
   repeat' first|simp only[go_sem, *]|apply bc<;>intro d
   rw[E8 e]
theorem MR{s:List UInt8}(n:s.length<=1048576)(h:Heap):zB prog 232 [.str s] h λr h'=>h'=h/\r=.bool (!s.any rG):=by
 refine z5 zHX ?_;simp only[f232,zA]
 repeat' first|simp only[go_sem, *]|apply bc<;>intro d
 refine zV (λi fr h'=>fr 0=.str s/\fr 3=.int .i64 (i:Int)/\h'=h/\∀j (c:j<s.length),j<i->rG s[j]=false) s.length ow ?_ ?_ ?_
 ·simp[go_sem]
 ·rintro i fr h' a e2 m ⟨k,l,rfl,c⟩;cases b:rG s[i]with
  |true=>
   have g:=b;unfold rG at g
   repeat' first|simp only[go_sem,dF a, *]|apply bc<;>intro d
   all_goals first
    |(rw[pW a b];rfl;done)
    |(exfalso;simp_all;done)
    |(exfalso;simp_all;omega)
  |false=>
   have g:=b;unfold rG at g
   repeat' first|simp only[go_sem,dF a, *]|apply bc<;>intro d
   all_goals first
    |exact λj f e=>qp (p:=rG) a c b j f e
    |(exfalso;simp_all;done)
    |(exfalso;simp_all;omega)
 ·rintro fr h' e2 ⟨k,l,rfl,c⟩
  repeat' first|simp only[go_sem, *]|apply bc<;>intro d
  rw[rO c];rfl
theorem Xf{c:UInt8}{s:List UInt8}{f i:Nat}(h1:f<=i)(d:i<s.length)(b:s[i]=c)(a:∀j,f<=j->j<i->s[j]? ≠some c):qC c (s.drop f)=((s.take i).drop f)::qC c (s.drop (i+1)):=by
 rw[Xd (m:=i-f) (by rw[yh,show f+(i-f)=i by omega,zE d,b]) λk e=>by rw[yh];exact a _ ow ow];rw[tI,show f+(i-f+1)=i+1 by omega,dC]
theorem W8{c:UInt8}{s:List UInt8}{f:Nat}(b:∀j,f<=j->j<s.length->s[j]? ≠some c):qC c (s.drop f)= [s.drop f]:=
 jT λd=>by
  obtain⟨k,a⟩:=yY.1 d;rw[yh]at a;have:=(zR.1 a).1;exact b (f+k) ow this a
theorem QW{s:List UInt8}(C:s.length<=1048576)(h:Heap):
  zB prog 231 [.str s] h λr h'=>h'=h/\Fin 1 (uH (jm s)) r:=by
 refine xU kr λB=>xS ?_;refine z5 zHW ?_;simp only[f231,zA];cases h0:(s== [])with
 |true=>
  have w:s= []:=by simpa using h0
  have t:jm s= []:=by rw[jm,ip w]
  have o:Ext h h/\below h.next (wD .nilsl)/\Fin 1 (uH []) (wD .nilsl):=⟨Ext.refl h,by simp[below,wD],.inl ⟨rfl,rfl⟩⟩;clear w
  repeat' first|simp only[go_sem, *]|apply bc<;>intro c
  all_goals exact o
 |false=>
 have t:jm s=qC 10 s:=by rw[jm,iq (by simpa using h0)]
 rw[t];clear t
 repeat' first|simp only[go_sem, *]|apply bc<;>intro c
 refine zV (λi fr h'=>fr 0=.str s/\fr 5=.int .i64 (i:Int)/\∃ (d:D) (l:List (List UInt8)) (f:Nat),fr 3=d/\fr 4=.int .i64 (f:Int)/\f<=i/\l.length<=i/\Own h h' 1 (uH l) d/\l++qC 10 (s.drop f)=qC 10 s/\∀j,f<=j->j<i->s[j]? ≠some 10) s.length ow ?_ ?_ ?_
 ·simp only[go_sem,zQ,zS,zF];exact⟨.nilsl,[],0,rfl,rfl,zD _,zD _,Own.start (Ext.refl h) 1,by simp,λj h1 n=>by omega⟩
 ·rintro i fr h' a e1 q ⟨x,A,d,l,f,y,z,hf,u,p,b,g⟩;have m:((s[i].toNat:Int)==10)=(s[i]==10):=GS s[i] 10;cases c:(s[i]==10)with
  |true=>
   repeat' first|simp only[go_sem,dF a,m,KS hf (mz a),jN,q, *]|apply bc<;>intro c
   refine p.str ow λv h' k=> ?_
   repeat' first|simp only[go_sem,q, *]|apply bc<;>intro c
   refine⟨v,_,i+1,rfl,rfl,zD _,by simp;omega,k,?_,λj h1 n=>by omega⟩;rw[<-b,Xf hf a (by simpa using c) g,z8];rfl
  |false=>
   repeat' first|simp only[go_sem,dF a,m,q, *]|apply bc<;>intro c
   refine⟨d,l,f,rfl,rfl,by omega,by omega,p,b,λj h1 n=> ?_⟩;rcases zo.1 n with n|rfl
   ·exact g j h1 n
   ·rw[zE a];intro e;have:=rM e;rw[this]at c;simp at c
 ·rintro fr h' e1 ⟨x,A,d,l,f,y,z,hf,u,p,b,g⟩
  repeat' first|simp only[go_sem,Ee hf,jN, *]|apply bc<;>intro c
  refine p.str ow λv h' k=> ?_
  repeat' first|simp only[go_sem, *]|apply bc<;>intro c
  rw[W8 g]at b;rw[<-b];exact k.fin sw
theorem Y2(a b:List UInt8):leB a b= !l8 b a:=by
 unfold leB;rw[lg,lg];cases h1:decide (a<b)with
 |true=>
  have:=zg h1;have d:¬b<a:=λq=>sX a (gj this q);simp[d]
 |false=>
  have c:=zq h1;by_cases e:a=b
  ·subst e;simp[sX]
  ·have:b<a:=by
    rcases List.le_total a b with q|q
    ·exact absurd (ZK q e) c
    ·exact ZK q (j7 e)
   simp[e,this]
theorem A8{c:Cat}{d:D}(n:uM c d)(X:c.Sm){i:Nat}(hi:i<c.ls.length)(g:Heap):zB prog 161 [d,.int .i64 (i:Int)] g λr h'=>h'=g/\r=.int .i64 (p9 c.ls i c.ls[i]):=by
 refine xU kr λa0=>xS ?_;refine xP λQ U=> ?_;have Y:=X.ls.2 _ (zG hi);have hl:=X.ls.1;obtain⟨a,b,e,p,rfl,ha,hb,he,hp⟩:=n;have a1:=pu ha hi;have f:∀j (o:j<c.ls.length),∃y,y=c.ls[j]/\yP prog 22 a (.int .i64 (j:Int))=some (.iptr [.str y.name,.str y.fam,.int .i64 y.ver,.str y.text] 0):=λj o=>⟨_,rfl,(λj o=>pu ha o) j o⟩;obtain⟨R,l⟩:∃R,p9 c.ls i c.ls[i]=R:=⟨_,rfl⟩;rw[l]at U;generalize hx:c.ls[i]=x at *
 obtain⟨z,u,A,H⟩:=x;obtain⟨m1,m2,m3⟩:=Y;have M:=lM ⟨z,u,A,H⟩ g g.next;have I:=cQ (s:=z) m1;have J:=cQ (s:=u) m2;have K:=QW m3;have C:=MR m3;simp only[Lic.cells]at a1 M;obtain⟨G,hG,ab,hE⟩:∃G:Heap,g.new g.next (.row [.str z,.str u,.int .i64 A,.str H])=G/\G.at' g.next=some (.row [.str z,.str u,.int .i64 A,.str H])/\Ext g G:=⟨_,rfl,yQ _ _ _,(Ext.refl g).new (zD _) _⟩;rw[hG]at M;have O:Q (.int .i64 R) G:=U _ _ ⟨hE,trivial,rfl⟩;clear U hG hx hE X hb he hp;generalize ak:g.next=n0 at *
 unfold p9 at l;simp only at l;refine z5 zG5 ?_;simp only[f161,zA];cases Z:ww z with
 |false=>
  rw[ip (by rw[Z];rfl)]at l;subst l;clear f K C
  repeat' first|simp only[go_sem, *]|apply bc<;>intro n|(refine zB.mono (I _) ?_;rintro r h ⟨m,rfl⟩)|(refine zB.mono (J _) ?_;rintro r h ⟨m,rfl⟩)
 |true=>
 cases n2:ww u with
 |false=>
  rw[ip (by rw[Z,n2];rfl)]at l;subst l;clear f K C
  repeat' first|simp only[go_sem, *]|apply bc<;>intro n|(refine zB.mono (I _) ?_;rintro r h ⟨m,rfl⟩)|(refine zB.mono (J _) ?_;rintro r h ⟨m,rfl⟩)
 |true=>
 rw[iq (by rw[Z,n2];decide)]at l;cases v1:decide (A<0)with
 |true=>
  rw[ip (.inl (zg v1))]at l;subst l;clear f K C
  repeat' first|simp only[go_sem, *]|apply bc<;>intro n|(refine zB.mono (I _) ?_;rintro r h ⟨m,rfl⟩)|(refine zB.mono (J _) ?_;rintro r h ⟨m,rfl⟩)
 |false=>
 cases v2:decide (A>999)with
 |true=>
  rw[ip (.inr (zg v2))]at l;subst l;clear f K C
  repeat' first|simp only[go_sem, *]|apply bc<;>intro n|(refine zB.mono (I _) ?_;rintro r h ⟨m,rfl⟩)|(refine zB.mono (J _) ?_;rintro r h ⟨m,rfl⟩)
 |false=>
 rw[iq (λq=>q.elim (zq v1) (zq v2))]at l;cases t1:decide ((H.length:Int)>4096)with
 |true=>
  have F:=zg t1;rw[ip (.inl ow)]at l;subst l;clear F f K C
  repeat' first|simp only[go_sem, *]|apply bc<;>intro n|(refine zB.mono (I _) ?_;rintro r h ⟨m,rfl⟩)|(refine zB.mono (J _) ?_;rintro r h ⟨m,rfl⟩)
 |false=>
 have F:=zq t1
 repeat' first|simp only[go_sem, *]|apply bc<;>intro n|(refine zB.mono (I _) ?_;rintro r h ⟨m,rfl⟩)|(refine zB.mono (J _) ?_;rintro r h ⟨m,rfl⟩)
 refine(K _).mono ?_;rintro r h2 ⟨W,S⟩;have ag:=wd S.isSl;clear K M S;subst W;cases t2:decide (((jm H).length:Int)>999)with
 |true=>
  have N:=zg t2;rw[ip (.inr ow)]at l;subst l;clear F N f C
  repeat' first|simp only[go_sem, *]|apply bc<;>intro n
 |false=>
 have N:=zq t2;rw[iq ow]at l;clear F N;cases b1:H.any rG with
 |true=>
  rw[ip b1]at l;subst l;clear f
  repeat' first|simp only[go_sem, *]|apply bc<;>intro n|(refine zB.mono (C _) ?_;rintro r h ⟨m,rfl⟩)
 |false=>
 rw[iq (by rw[b1];exact zf)]at l
 repeat' first|simp only[go_sem, *]|apply bc<;>intro n|(refine zB.mono (C _) ?_;rintro r h ⟨m,rfl⟩)
 clear I J C;obtain⟨B,v⟩:∃B:Bool,(decide (0<i)&&leB z ((c.ls.map Lic.name).getD (i-1) []))=B:=⟨_,rfl⟩;refine rz (λE h'=>E 58=.bool B/\E 1=.int .i64 (i:Int)/\E 2=.iptr [a,b,e,p] 0/\E 5=.ptr n0 0/\h'=h2) ?_ ?_
 ·rcases i with _|j
  ·have h0:decide (((0:Nat):Int)>0)=false:=rfl;have v:B=false:=by rw[<-v];rfl
   subst v;clear f l;refine zd kr ?_;exact au
  ·have h0:decide (((j+1:Nat):Int)>0)=true:=zN ow;have ew:IntKind.i64.wrap (((j+1:Nat):Int)-1)=(j:Int):=by rw[qE ow ow];omega
   obtain⟨y,rfl,a2⟩:=f j ow;have o:(c.ls.map Lic.name).getD j []=(c.ls[j]'ow).name:=by rw[zK];simp[show j<c.ls.length by omega]
   rw[uA,o]at v;have ad:l8 (c.ls[j]'ow).name z= !B:=by rw[<-v,Y2];simp
   clear f l v o;refine zd kr ?_;exact au
 rintro fr h' ⟨T,g1,g2,g5,m⟩;subst m;cases B with
 |true=>
  have w:0<i/\leB z ((c.ls.map Lic.name).getD (i-1) [])=true:=by simpa using v
  rw[ip w]at l;subst l;clear v w f
  repeat' first|simp only[go_sem, *]|apply bc<;>intro n
 |false=>
 have w:¬(0<i/\leB z ((c.ls.map Lic.name).getD (i-1) [])=true):=λq=>by rw[q.2,zN q.1]at v;cases v
 rw[iq w]at l;clear v w
 repeat' first|simp only[go_sem, *]|apply bc<;>intro n
 clear T;refine zV (λk fr h=>fr 1=.int .i64 (i:Int)/\fr 2=.iptr [a,b,e,p] 0/\fr 5=.ptr n0 0/\fr 6=.int .i64 (k:Int)/\h=h'/\∀j (o:j<c.ls.length),j<k->(c.ls[j].fam==u&&c.ls[j].ver==A)=false) i ow ?_ ?_ ?_
 ·simp only[go_sem,zQ,zS,zF,g1,g2,g5];exact λj o h0=>absurd h0 (zj _)
 ·rintro k fr h ai ec ew ⟨f1,f2,f5,f6,m,t⟩;subst m;have hk:k<c.ls.length:=ow;obtain⟨y,rfl,a2⟩:=f k hk;cases L:(c.ls[k].fam==u&&c.ls[k].ver==A)with
  |true=>
   rw[ip (show jI c.ls i ⟨z,u,A,H⟩ =true from yZ.2 ⟨c.ls[k],by rw[pB];exact⟨k,by omega,rfl⟩,L⟩)]at l
   subst l;clear f t;simp only[zC]at L;obtain⟨P,V⟩:=L
   repeat' first|simp only[go_sem, *]|apply bc<;>intro n
   refine zd kr ?_
   repeat' first|simp only[go_sem, *]|apply bc<;>intro n
  |false=>
   have hn:∀j (o:j<c.ls.length),j<k+1->(c.ls[j].fam==u&&c.ls[j].ver==A)=false:=λj o h1=>by
    rcases zo.1 h1 with q|rfl
    ·exact t j o q
    ·exact L
   clear f t l O;cases P:(c.ls[k].fam==u)with
   |true=>
    have V:(c.ls[k].ver==A)=false:=by simpa [P]using L
    clear L
    repeat' first|simp only[go_sem, *]|apply bc<;>intro n
    refine zd kr ?_
    repeat' first|simp only[go_sem, *]|apply bc<;>intro n
    exact hn
   |false=>
    clear L
    repeat' first|simp only[go_sem, *]|apply bc<;>intro n
    refine zd kr ?_
    repeat' first|simp only[go_sem, *]|apply bc<;>intro n
    exact hn
 ·rintro fr h ec ⟨f1,f2,f5,f6,m,t⟩;subst m;have ht:jI c.ls i ⟨z,u,A,H⟩ =false:=by
   unfold jI;rw[rZ];intro y hy;obtain⟨j,o,rfl⟩:=pB.1 hy;have:=t j ow ow;simpa using this
  rw[iq (by rw[ht];exact zf)]at l;subst l;clear f t;exact au
def b2(a b c d:List UInt8):Bool:=l8 a c||(a==c&&l8 b d)
theorem Hr(a:List UInt8):l8 a a=false:=by rw[lg];exact zO (sX a)
theorem Qc(a b:List UInt8):decide (nv a b<0)=l8 a b:=by
 unfold nv;cases h1:l8 a b with
 |true=>simp
 |false=>by_cases e:a=b<;>simp[e]
theorem F9(a b:List UInt8):(nv a b==0)=(a==b):=by
 unfold nv;cases h1:l8 a b with
 |true=>
  have:a≠b:=λe=>by rw[e,Hr]at h1;cases h1
  simp[this]
 |false=>by_cases e:a=b<;>simp[e]
theorem JL(a b c d:List UInt8):decide (orL [nv a c,nv b d]<0)=b2 a b c d:=by
 have h1:=Qc a c;have f:=F9 a c;have h3:=Qc b d;unfold b2;rw[<-h1,<-f,<-h3];generalize nv a c=x;generalize nv b d=y;simp only[orL];by_cases e:x=0
 ·subst e;by_cases e2:y=0<;>simp[e2]
 ·simp[e]
theorem KU(x:Int):decide (x>=0)= !decide (x<0):=by
 by_cases h:x<0
 ·simp[h]
 ·simp[h,Int.not_lt.1 h]
theorem MN(x y:Apt)(g:Heap):zB prog 234 [.agg x.cells,.agg y.cells] g λr h'=>h'=g/\r=.bool (!decide (Yb x y>=0)):=by
 have c:(!decide (Yb x y>=0))=b2 x.a x.b y.a y.b:=by rw[KU,wX];exact JL x.a x.b y.a y.b
 rw[c];unfold b2;clear c;refine z5 zHZ ?_;simp only[f234,zA];simp only[Apt.cells];exact au
theorem jF{α:Type}{l:List α}{p:α->Bool} :decide (cK p l<0)= !(l.any p):=by
 rw[<-jE (l:=l) (p:=p),KU,wX]
theorem Tq(l:List Lic)(s:List UInt8):∀n,n<=l.length->pD (Vq l n) s=(l.take n).any λx=>x.name==s
 |0,_=>rfl
 |n+1,h=>by
  have a:=Tq l s n ow;have e:(l.map Lic.name).getD n []=(l[n]'ow).name:=by rw[zK];simp[show n<l.length by omega]
  rw[zH ow,jw,<-a];simp only[sQ,List.any_nil,wA];unfold pD at *
  rw[Vq,e,Yy];split
  ·rename_i q;have q:s=(l[n]'ow).name:=by simpa using q
   rw[q];simp
  ·rename_i q;have q:((l[n]'ow).name==s)=false:=by
    cases p:((l[n]'ow).name==s)with
    |false=>rfl
    |true=>exact absurd (by simpa using(yU.1 p).symm) q
   rw[q];simp
theorem Vu(c:Cat)(s:List UInt8):pD c.m s=c.ls.any λx=>x.name==s:=by
 unfold Cat.m;rw[Tq _ _ _ (zD _),zb]
theorem Dh{c:Cat}{d:D}(l:uM c d)(y:c.Sm){i:Nat}(P:i<c.ps.length)(g:Heap):zB prog 164 [d,.int .i64 (i:Int)] g λr h'=>h'=g/\r=.int .i64 (nR c.m c.ps i c.ps[i]):=by
 refine xU kr λS=>xS ?_;refine xP λQ v=> ?_;have k:=gE l y;obtain⟨R,f⟩:∃R,nR c.m c.ps i c.ps[i]=R:=⟨_,rfl⟩;rw[f]at v;have w:=λs=>(jF (p:=λx:Lic=>x.name==s)).trans (congrArg (!·) (Vu c s).symm);have n:∀h,Ext g h->Q (.int .i64 R) h:=λh u=>v _ _ ⟨u,trivial,rfl⟩;have t:=MN;obtain⟨a,b,e,p,rfl,Y,Z,he,I⟩:=l;clear v;have V:=de I P;have U:yN true 4 [a,b,e,p] 0=some (.agg [a,b,e,p]):=zJ rfl ow;have T:∀z:Apt,yN true 2 z.cells 0=some (.agg z.cells):=λz=>zJ rfl ow;have k0:c.ps[i].cells[0]? =some (.str c.ps[i].a):=rfl;have k1:c.ps[i].cells[1]? =some (.str c.ps[i].b):=rfl
 have A:qP prog 93 (.ptr g.next 0) (.agg c.ps[i].cells) (g.new g.next (.row [.str [],.str []]))=some (g.new g.next (.row c.ps[i].cells)):=qk Nr ow rfl rfl rfl;refine z5 zG8 ?_;simp only[f164,zA];obtain⟨G,F,M,u⟩:∃G:Heap,g.new g.next (.row c.ps[i].cells)=G/\G.at' g.next=some (.row c.ps[i].cells)/\Ext g G:=⟨_,rfl,yQ _ _ _,(Ext.refl g).new (zD _) _⟩;rw[F]at A;have O:=n G u;clear n F u;have f:(if(!pD c.m c.ps[i].a|| !pD c.m c.ps[i].b)=true then(7:Int)else if(!l8 c.ps[i].a c.ps[i].b||(decide ((i:Int)>0)&&decide (Yb (c.ps.getD (i-1) c.ps[i]) c.ps[i]>=0)))=true then 5 else 0)=R:=by
  rw[<-f];simp[nR]
 have k2:=w c.ps[i].a;have k3:=w c.ps[i].b;clear w;cases C:pD c.m c.ps[i].a with
 |false=>
  rw[ip (by rw[C];rfl)]at f;subst f
  repeat' first|simp only[go_sem, *]|apply bc<;>intro l|(refine zB.mono (k _ _) ?_;rintro r h ⟨o,rfl⟩)
 |true=>
 cases J:pD c.m c.ps[i].b with
 |false=>
  rw[ip (by rw[C,J];rfl)]at f;subst f
  repeat' first|simp only[go_sem, *]|apply bc<;>intro l|(refine zB.mono (k _ _) ?_;rintro r h ⟨o,rfl⟩)
 |true=>
 rw[iq (by rw[C,J];decide)]at f;rcases i with _|j
 ·have h0:decide (((0:Nat):Int)>0)=false:=rfl;simp only[h0,yV,wA]at f;cases K:l8 c.ps[0].a c.ps[0].b with
  |true=>
   rw[iq (by rw[K];decide)]at f;subst f
   repeat' first|simp only[go_sem, *]|apply bc<;>intro l|(refine zB.mono (k _ _) ?_;rintro r h ⟨o,rfl⟩)
   refine qD Heap.emp [(0,.no,false),(1,.no,false),(2,.no,false),(3,.no,false),(4,.no,false),(5,.no,false),(6,.no,false),(7,.no,false),(8,.no,false),(15,.no,false),(9,.no,false),(10,.no,false),(11,.no,false),(12,.no,false),(13,.no,false),(14,.no,false),(16,.no,false),(17,.no,false),(18,.no,false),(19,.no,false)] kr kr (λi E e=>by cases e) ?_
   repeat' first|simp only[go_sem, *]|apply bc<;>intro l
  |false=>
   rw[ip (by rw[K];rfl)]at f;subst f
   repeat' first|simp only[go_sem, *]|apply bc<;>intro l|(refine zB.mono (k _ _) ?_;rintro r h ⟨o,rfl⟩)
   refine qD Heap.emp [(0,.no,false),(1,.no,false),(2,.no,false),(3,.no,false),(4,.no,false),(5,.no,false),(6,.no,false),(7,.no,false),(8,.no,false),(15,.no,false),(9,.no,false),(10,.no,false),(11,.no,false),(12,.no,false),(13,.no,false),(14,.no,false),(16,.no,false),(17,.no,false),(18,.no,false),(19,.no,false)] kr kr (λi E e=>by cases e) ?_;exact au
 ·have h0:decide (((j+1:Nat):Int)>0)=true:=zN ow;have X:IntKind.i64.wrap (((j+1:Nat):Int)-1)=(j:Int):=by rw[qE (by have:=y.ps;omega) (by have:=y.ps;omega)];omega
  have H:c.ps.getD (j+1-1) c.ps[j+1]=c.ps[j]:=by rw[uA,zK];simp[show j<c.ps.length by omega]
  rw[H]at f;have W:=de I (show j<c.ps.length by omega);have q:=t c.ps[j] c.ps[j+1];clear H t;simp only[h0,yL]at f;generalize decide (Yb c.ps[j] c.ps[j+1]>=0)=B at *
  obtain⟨L,N⟩:∃L,l8 c.ps[j+1].a c.ps[j+1].b=L:=⟨_,rfl⟩;rw[N]at f;cases L with
  |false=>
   rw[ip (by cases B<;>rfl)]at f;subst f
   repeat' first|simp only[go_sem, *]|apply bc<;>intro l|(refine zB.mono (k _ _) ?_;rintro r h ⟨o,rfl⟩)
   refine qD Heap.emp [(0,.no,false),(1,.no,false),(2,.no,false),(3,.no,false),(4,.no,false),(5,.no,false),(6,.no,false),(7,.no,false),(8,.no,false),(15,.no,false),(9,.no,false),(10,.no,false),(11,.no,false),(12,.no,false),(13,.no,false),(14,.no,false),(16,.no,false),(17,.no,false),(18,.no,false),(19,.no,false)] kr kr (λi E e=>by cases e) ?_
   repeat' first|simp only[go_sem, *]|apply bc<;>intro l|(refine zB.mono (q _) ?_;rintro r h ⟨o,rfl⟩)
  |true=>
   cases B with
   |_=>
    simp at f;subst f
    repeat' first|simp only[go_sem, *]|apply bc<;>intro l|(refine zB.mono (k _ _) ?_;rintro r h ⟨o,rfl⟩)
    refine qD Heap.emp [(0,.no,false),(1,.no,false),(2,.no,false),(3,.no,false),(4,.no,false),(5,.no,false),(6,.no,false),(7,.no,false),(8,.no,false),(15,.no,false),(9,.no,false),(10,.no,false),(11,.no,false),(12,.no,false),(13,.no,false),(14,.no,false),(16,.no,false),(17,.no,false),(18,.no,false),(19,.no,false)] kr kr (λi E e=>by cases e) ?_
    repeat' first|simp only[go_sem, *]|apply bc<;>intro l|(refine zB.mono (q _) ?_;rintro r h ⟨o,rfl⟩)
def Hm(x y:Cla):Bool:=if(!(x.lic==y.lic))=true then l8 x.lic y.lic else if(!(x.way==y.way))=true then decide (x.way<y.way)else if(!(x.rel==y.rel))=true then decide (x.rel<y.rel)else decide (x.duty<y.duty)
theorem bv(a b:Int):decide (wm a b<0)=decide (a<b):=by
 unfold wm;split
 ·rename_i h;simp[h]
 ·rename_i h;split<;>simp[h]
theorem TT(a b:Int):(wm a b==0)=(a==b):=by
 unfold wm;split
 ·rename_i h
  have:a≠b:=ow;simp[this]
 ·split
  ·rename_i h
   have:a≠b:=ow;simp[this]
  ·have:a=b:=ow;simp[this]
theorem Hn(x y:Cla):Hm x y= !decide (Yc x y>=0):=by
 rw[KU,wX];have h1:=Qc x.lic y.lic;have f:=F9 x.lic y.lic;have h3:=bv x.way y.way;have g:=TT x.way y.way;have h5:=bv x.rel y.rel;have h:=TT x.rel y.rel;have i:=bv x.duty y.duty;unfold Hm Yc;rw[<-h1,<-f,<-h3,<-g,<-h5,<-h,<-i];generalize nv x.lic y.lic=a;generalize wm x.way y.way=b;generalize wm x.rel y.rel=c;generalize wm x.duty y.duty=d;simp only[orL];by_cases e1:a=0
 ·by_cases e2:b=0
  ·by_cases e3:c=0
   ·by_cases e:d=0<;>simp[e1,e2,e3,e]
   ·simp[e1,e2,e3]
  ·simp[e1,e2]
 ·simp[e1]
theorem De(x y:Cla)(g:Heap):zB prog 233 [.agg x.cells,.agg y.cells] g λr h'=>h'=g/\r=.bool (!decide (Yc x y>=0)):=by
 rw[<-Hn];obtain⟨R,a⟩:∃R,Hm x y=R:=⟨_,rfl⟩;rw[a];unfold Hm at a;refine z5 zHY ?_;simp only[f233,zA];simp only[Cla.cells];cases e1:(x.lic==y.lic)with
 |false=>
  rw[ip (by rw[e1];rfl)]at a;subst a
  repeat' first|simp only[go_sem, *]|apply bc<;>intro b
 |true=>
 rw[iq (by rw[e1];decide)]at a;cases e2:(x.way==y.way)with
 |false=>
  rw[ip (by rw[e2];rfl)]at a;subst a
  repeat' first|simp only[go_sem, *]|apply bc<;>intro b
 |true=>
 rw[iq (by rw[e2];decide)]at a;cases e3:(x.rel==y.rel)with
 |false=>
  rw[ip (by rw[e3];rfl)]at a;subst a
  repeat' first|simp only[go_sem, *]|apply bc<;>intro b
 |true=>
 rw[iq (by rw[e3];decide)]at a;subst a;exact au
theorem JW{l:List Int}{i:Nat}(h:i+1<l.length)(a:decide (l[i]>=l[i+1])=true):bM l=false:=zO λq=>by
 have:=q i ow;rw[Tg h,Tg ow]at this;have:=zg a;omega
theorem PD{l:List Int}{i:Nat}(h:i+1<l.length)(b:decide (l[i]>=l[i+1])=false)(c:∀j,j<i->j<l.length-1->l.getD j 0<l.getD (j+1) 0):∀j,j<i+1->j<l.length-1->l.getD j 0<l.getD (j+1) 0:=λj h1 a=>by
 rcases zo.1 h1 with q|rfl
 ·exact c j q a
 ·rw[Tg h,Tg ow];have:=zq b;omega
theorem A6{c:Cat}{d:D}(w:uM c d)(U:c.Sm){i:Nat}(hi:i<c.es.length)(g:Heap):zB prog 162 [d,.int .i64 (i:Int)] g λr h'=>h'=g/\r=.int .i64 (mP c.m c.es i c.es[i]):=by
 refine xU kr λai=>xS ?_;refine xP λQ W=> ?_;obtain⟨R,o⟩:∃R,mP c.m c.es i c.es[i]=R:=⟨_,rfl⟩;rw[o]at W;have K:=gE w U;have Y:=λs=>(jF (p:=λx:Lic=>x.name==s)).trans (congrArg (!·) (Vu c s).symm);obtain⟨o1,o2,o3⟩:=U.es.2 _ (zG hi);have hl:=U.es.1;obtain⟨a,b,e,p,rfl,ha,X,he,hp⟩:=w;have a1:=df X hi;have a0:yN true 4 [a,b,e,p] 0=some (.agg [a,b,e,p]):=zJ rfl ow;have ak:∀a b c:D,yN true 3 [a,b,c] 0=some (.agg [a,b,c]):=λa b c=>zJ rfl ow;have f:∀j (l:j<c.es.length),∃y,y=c.es[j]/\yP prog 23 b (.int .i64 (j:Int))=some (.iptr [.str y.name,.str y.lic,y.d] 0):=λj l=>⟨_,rfl,(λj l=>df X l) j l⟩
 generalize hx:c.es[i]=x at *
 obtain⟨E,L,lf,M⟩:=x;have O:=cQ (s:=E) o3;have o2:lf.length<=1048576:=o2;have ab:=rF o1;have t:∀j (l:j<lf.length),yP prog 40 M (.int .i64 (j:Int))=some (.iptr [.int .i64 lf[j]] 0):=λj l=>nG o1 l;simp only[Exc.cells]at a1;have N:qP prog 85 (.ptr g.next 0) (.agg [.str E,.str L,M]) (g.new g.next (.row [.str [],.str [],.nilsl]))=some (g.new g.next (.row [.str E,.str L,M])):=qk Rh ow rfl rfl (by show(true&&(true&&(M.flat&&true)))=true;rw[nH o1];rfl)
 obtain⟨G,hG,ad,hE⟩:∃G:Heap,g.new g.next (.row [.str E,.str L,M])=G/\G.at' g.next=some (.row [.str E,.str L,M])/\Ext g G:=⟨_,rfl,yQ _ _ _,(Ext.refl g).new (zD _) _⟩;rw[hG]at N;have z:Q (.int .i64 R) G:=W _ _ ⟨hE,trivial,rfl⟩;clear W hG hx hE U ha X he hp;generalize T:g.next=n0 at *
 unfold mP at o;simp only at o;have Y:=Y L;refine z5 zG6 ?_;simp only[f162,zA];cases n1:ww E with
 |false=>
  rw[ip (by rw[n1];rfl)]at o;subst o;clear t f
  repeat' first|simp only[go_sem, *]|apply bc<;>intro w|(refine zB.mono (O _) ?_;rintro r h ⟨v,rfl⟩)
 |true=>
 rw[iq (by rw[n1];decide)]at o;cases n2:pD c.m L with
 |false=>
  rw[ip (by rw[n2];rfl)]at o;subst o;clear t f
  repeat' first|simp only[go_sem, *]|apply bc<;>intro w|(refine zB.mono (O _) ?_;rintro r h ⟨v,rfl⟩)|(refine zB.mono (K _ _) ?_;rintro r h ⟨v,rfl⟩)
 |true=>
 rw[iq (by rw[n2];decide)]at o
 repeat' first|simp only[go_sem, *]|apply bc<;>intro w|(refine zB.mono (O _) ?_;rintro r h ⟨v,rfl⟩)|(refine zB.mono (K _ _) ?_;rintro r h ⟨v,rfl⟩)
 clear O K N Y;refine zV (λk fr h=>fr 1=.int .i64 (i:Int)/\fr 2=.iptr [a,b,e,p] 0/\fr 5=.ptr n0 0/\fr 6=.int .i64 (k:Int)/\h=G/\∀j (l:j<lf.length),j<k->(!(decide (lf[j]>=0)&&decide (lf[j]<=5)))=false) lf.length ow ?_ ?_ ?_
 ·simp only[go_sem,zQ,zS,zF];exact λj l h0=>absurd h0 (zj _)
 ·rintro k fr h u P ew ⟨f1,f2,S,f6,v,l⟩;subst v;have a2:=t k u;clear t f;cases q:(!(decide (lf[k]>=0)&&decide (lf[k]<=5)))with
  |true=>
   rw[ip (pW u q)]at o;subst o;clear l;have C:lf[k]<0\/lf[k]>5:=by
    simp only[qF,oe,yy]at q;omega
   clear q;rcases C with C|C
   ·have e1:decide (lf[k]<0)=true:=zN C;clear C;exact au
   ·have e1:decide (lf[k]<0)=false:=zO ow;have e2:decide (lf[k]>5)=true:=zN C;clear C
    repeat' first|simp only[go_sem, *]|apply bc<;>intro w
  |false=>
   have T:=qp (p:=λn:Int=> !(decide (n>=0)&&decide (n<=5))) u l q;have C:0<=lf[k]/\lf[k]<=5:=by
    simp only[pk,zC,zP]at q;exact q
   have e1:decide (lf[k]<0)=false:=zO ow;have e2:decide (lf[k]>5)=false:=zO ow;clear q C l o z
   repeat' first|simp only[go_sem, *]|apply bc<;>intro w
   exact T
 ·rintro fr h P ⟨f1,f2,S,f6,v,l⟩;subst v;rw[iq (by rw[rO l];decide)]at o;clear l;obtain⟨B,J⟩:∃B:Bool,(decide ((i:Int)>0)&&leB E ((c.es.map Exc.name).getD (i-1) []))=B:=⟨_,rfl⟩;obtain⟨A,hA⟩:∃A:Bool,((lf.length:Int)==0)=A:=⟨_,rfl⟩;rw[J,hA]at o
  repeat' first|simp only[go_sem, *]|apply bc<;>intro w
  refine rz (λH h'=>H 62=.bool (A||B)/\H 5=.ptr n0 0/\h'=h) ?_ ?_
  ·clear o z t;rcases i with _|j
   ·have h0:decide (((0:Nat):Int)>0)=false:=rfl;rw[h0]at J;subst J;clear f;refine zd kr ?_;exact au
   ·have h0:decide (((j+1:Nat):Int)>0)=true:=zN ow;have ew:IntKind.i64.wrap (((j+1:Nat):Int)-1)=(j:Int):=by rw[qE ow ow];omega
    obtain⟨y,rfl,a2⟩:=f j ow;have l:(c.es.map Exc.name).getD j []=(c.es[j]'ow).name:=by rw[zK];simp[show j<c.es.length by omega]
    rw[uA,l,h0,yL]at J;have ag:l8 (c.es[j]'ow).name E= !B:=by rw[<-J,Y2];simp
    clear f J l;refine zd kr ?_;exact au
  rintro H G' ⟨F,V,v⟩;clear f f1 f2 S f6 hA J;cases I:(A||B)with
  |true=>
   rw[I]at F;rw[show(A||(!bM lf||B))=true by cases A<;>cases B<;>simp_all]at o;rw[ip rfl]at o;subst o v;clear t
   repeat' first|simp only[go_sem, *]|apply bc<;>intro w
  |false=>
  rw[show(A||(!bM lf||B))= !bM lf by cases A<;>cases B<;>simp_all]at o;rw[I]at F;clear I;subst v
  repeat' first|simp only[go_sem, *]|apply bc<;>intro w
  clear F;refine ac (λk fr h=>fr 5=.ptr n0 0/\fr 7=.int .i64 (k:Int)/\h=G'/\∀j,j<k-1->j<lf.length-1->lf.getD j 0<lf.getD (j+1) 0) lf.length ow ?_ ?_ ?_
  ·simp only[go_sem,zQ,zS,zF,V];exact⟨rfl,λj l=>absurd l (zj _)⟩
  ·rintro k fr h u P ew e1 ⟨S,f7,v,l⟩;subst v;rw[uA]at l;have a2:=t k ow;have a3:=t (k+1) u;clear t;cases q:decide (lf[k]>=lf[k+1])with
   |true=>
    rw[JW u q,ip (by decide)]at o;subst o;clear l
    repeat' first|simp only[go_sem, *]|apply bc<;>intro w
    refine zd kr ?_
    repeat' first|simp only[go_sem, *]|apply bc<;>intro w
   |false=>
    have T:=PD u q l;clear l o z
    repeat' first|simp only[go_sem, *]|apply bc<;>intro w
    refine zd kr ?_
    repeat' first|simp only[go_sem, *]|apply bc<;>intro w
    exact T
  ·rintro k fr h P ⟨S,f7,v,l⟩;subst v;have Z:=zq P;have hr:bM lf=true:=zN λj h=>l j ow ow;rw[hr,iq (by decide)]at o;subst o;clear t l hr Z;exact au
theorem RT{l:List (List UInt8)}{i:Nat}(h:i+1<l.length)(a:l8 l[i] l[i+1]=false):ga l=false:=zO λq=>by
 have:=q i ow;rw[ZX h,ZX ow,Y2,a]at this;cases this
theorem XV{l:List (List UInt8)}{i:Nat}(h:i+1<l.length)(b:l8 l[i] l[i+1]=true)(c:∀j,j<i->j<l.length-1->leB (l.getD (j+1) []) (l.getD j [])=false):∀j,j<i+1->j<l.length-1->leB (l.getD (j+1) []) (l.getD j [])=false:=λj h1 a=>by
 rcases zo.1 h1 with q|rfl
 ·exact c j q a
 ·rw[ZX h,ZX ow,Y2,b];rfl
def zE9(p q:Bool):Bool:=p !=q
def zGW(p q:Bool):Bool:=p==q
@[go_sem] theorem zEa(c p q:Bool):fV prog .neq 4 c (.bool p) (.bool q)=some (.bool (zE9 p q)):=by cases p<;>cases q<;>simp[fV,GU,oA,veq,underlying4,zE9]
@[go_sem] theorem zEZ(c p q:Bool):fV prog .eql 4 c (.bool p) (.bool q)=some (.bool (zGW p q)):=by cases p<;>cases q<;>simp[fV,GU,oA,veq,underlying4,zGW]
theorem A4{c:Cat}{d:D}(u:uM c d)(hs:c.Sm){i:Nat}(hi:i<c.cs.length)(g:Heap):zB prog 163 [d,.int .i64 (i:Int)] g λr h'=>h'=g/\r=.int .i64 (mM c.m c.cs i c.cs[i]):=by
 refine xU kr λai=>xS ?_;refine xP λQ hQ=> ?_;obtain⟨R,n⟩:∃R,mM c.m c.cs i c.cs[i]=R:=⟨_,rfl⟩;rw[n]at hQ;have A:=gE u hs;have v:=De;have M:=λs=>(jF (p:=λx:Lic=>x.name==s)).trans (congrArg (!·) (Vu c s).symm);obtain⟨o1,o2⟩:=hs.cs.2 _ (zG hi);have hl:=hs.cs.1;obtain⟨a,b,e,p,rfl,ha,hb,he,hp⟩:=u;have a1:=lV he hi;have ak:yN true 4 [a,b,e,p] 0=some (.agg [a,b,e,p]):=zJ rfl ow;have a0:∀a b c e f:D,yN true 5 [a,b,c,e,f] 0=some (.agg [a,b,c,e,f]):=λa b c e f=>zJ rfl ow
 have l:∀j (o:j<c.cs.length),∃y,y=c.cs[j]/\yP prog 24 e (.int .i64 (j:Int))=some (.iptr [.str y.lic,.int .i64 y.way,.int .i64 y.rel,.int .i64 y.duty,y.d] 0):=λj o=>⟨_,rfl,(λj o=>lV he o) j o⟩;obtain⟨B,I⟩:∃B:Bool,(decide ((i:Int)>0)&&decide (Yc (c.cs.getD (i-1) c.cs[i]) c.cs[i]>=0))=B:=⟨_,rfl⟩;unfold mM at n;rw[I]at n;generalize hx:c.cs[i]=x at *
 obtain⟨O,L,K,t,w,P⟩:=x;have ad:=wd o1;have q:∀j (o:j<w.length),yP prog 31 P (.int .i64 (j:Int))=some (.iptr [.str w[j]] 0):=λj o=>t9 o1 o;simp only[Cla.cells]at a1;have X:qP prog 89 (.ptr g.next 0) (.agg [.str O,.int .i64 L,.int .i64 K,.int .i64 t,P]) (g.new g.next (.row [.str [],.int .i64 0,.int .i64 0,.int .i64 0,.nilsl]))=some (g.new g.next (.row [.str O,.int .i64 L,.int .i64 K,.int .i64 t,P])):=qk gk ow rfl rfl (by show(true&&(true&&(true&&(true&&(P.flat&&true)))))=true;rw[nH o1];rfl)
 obtain⟨G,hG,ag,hE⟩:∃G:Heap,g.new g.next (.row [.str O,.int .i64 L,.int .i64 K,.int .i64 t,P])=G/\G.at' g.next=some (.row [.str O,.int .i64 L,.int .i64 K,.int .i64 t,P])/\Ext g G:=⟨_,rfl,yQ _ _ _,(Ext.refl g).new (zD _) _⟩;rw[hG]at X;have T:Q (.int .i64 R) G:=hQ _ _ ⟨hE,trivial,rfl⟩;have o2:w.length<=1048576:=o2;have W:=M O;clear hQ hG hx hE hs ha hb he hp;generalize hn:g.next=n0 at *
 simp only at n;refine z5 zG7 ?_;simp only[f163,zA];cases n1:pD c.m O with
 |false=>
  rw[ip (by rw[n1];rfl)]at n;subst n;clear q l v M I
  repeat' first|simp only[go_sem, *]|apply bc<;>intro u|(refine zB.mono (A _ _) ?_;rintro r h ⟨E,rfl⟩)
 |true=>
 rw[iq (by rw[n1];decide)]at n;obtain⟨V,hV⟩:∃V:Bool,(decide (L<0)||decide (L>2)||decide (K<0)||decide (K>2)|| !(decide (t>=0)&&decide (t<=5)))=V:=⟨_,rfl⟩;rw[hV]at n;have N:(decide (L<0)||decide (L>2)||decide (K<0)||decide (K>2)||decide (t<0)||decide (t>5))=V:=by
  rw[<-hV];have e1:(!(decide (t>=0)&&decide (t<=5)))=(decide (t<0)||decide (t>5)):=by
   by_cases q1:t<0
   ·simp[q1]
   ·by_cases q2:t>5
    ·simp[q2]
    ·have q3:0<=t:=ow;have q4:t<=5:=ow;simp[q1,q2,q3,q4]
  rw[e1,<-Bool.or_assoc]
 clear hV;cases V with
 |true=>
  rw[ip rfl]at n;subst n;clear q l v M I
  repeat' first|simp only[go_sem, *]|apply bc<;>intro u|(refine zB.mono (A _ _) ?_;rintro r h ⟨E,rfl⟩)
  all_goals(simp only[uQ,uk,bne,wA,wk,qe,qy,wj,yV,yL,qK,qd,yr,wH,qY,wX,Bool.true_eq_false,zW, *]at N;done)
 |false=>
 rw[iq (by decide)]at n;simp only[wQ]at N;obtain⟨⟨⟨⟨⟨r1,r2⟩,r3⟩,r4⟩,r5⟩,r6⟩:=N;obtain⟨U,hU⟩:∃U:Bool,zE9 (t==4) (decide ((w.length:Int)>0))=U:=⟨_,rfl⟩;have S:(!(decide ((w.length:Int)>0)==(t==4)))=U:=by rw[<-hU];unfold zE9;cases(t==4)<;>cases decide ((w.length:Int)>0)<;>rfl
 rw[S]at n;clear S;cases U with
 |true=>
  rw[ip rfl]at n;subst n;clear q l v M I
  repeat' first|simp only[go_sem, *]|apply bc<;>intro u|(refine zB.mono (A _ _) ?_;rintro r h ⟨E,rfl⟩)
 |false=>
 rw[iq (by decide)]at n
 repeat' first|simp only[go_sem, *]|apply bc<;>intro u|(refine zB.mono (A _ _) ?_;rintro r h ⟨E,rfl⟩)
 clear X r1 r2 r3 r4 r5 r6 hU n1 W;refine zV (λk fr h=>fr 1=.int .i64 (i:Int)/\fr 2=.iptr [a,b,e,p] 0/\fr 5=.ptr n0 0/\fr 6=.int .i64 (k:Int)/\h=G/\∀j (o:j<w.length),j<k->(!pD c.m w[j])=false) w.length ow ?_ ?_ ?_
 ·simp only[go_sem,zQ,zS,zF];exact λj o h0=>absurd h0 (zj _)
 ·rintro k fr h C Y ew ⟨Z,f2,f5,f6,E,o⟩;subst E;have a2:=q k C;have W:=M w[k];cases F:(!pD c.m w[k])with
  |true=>
   rw[ip (pW (p:=λs=> !pD c.m s) C F)]at n;subst n;clear q l o M v
   repeat' first|simp only[go_sem, *]|apply bc<;>intro u
   refine zd kr ?_
   repeat' first|simp only[go_sem, *]|apply bc<;>intro u|(refine zB.mono (A _ _) ?_;rintro r h ⟨E,rfl⟩)
  |false=>
   have hn:=qp (p:=λs=> !pD c.m s) C o F;clear q l o M n v T
   repeat' first|simp only[go_sem, *]|apply bc<;>intro u
   refine zd kr ?_
   repeat' first|simp only[go_sem, *]|apply bc<;>intro u|(refine zB.mono (A _ _) ?_;rintro r h ⟨E,rfl⟩)
   exact hn
 ·rintro fr h Y ⟨Z,f2,f5,f6,E,o⟩;subst E;rw[iq (by rw[rO o];decide)]at n;clear o A M
  repeat' first|simp only[go_sem, *]|apply bc<;>intro u
  clear f6;refine ac (λk H h'=>H 1=.int .i64 (i:Int)/\H 2=.iptr [a,b,e,p] 0/\H 5=.ptr n0 0/\H 7=.int .i64 (k:Int)/\h'=h/\∀j,j<k-1->j<w.length-1->leB (w.getD (j+1) []) (w.getD j [])=false) w.length ow ?_ ?_ ?_
  ·simp only[go_sem,zQ,zS,zF,Z,f2,f5];exact⟨rfl,λj o=>absurd o (zj _)⟩
  ·rintro k fr h C Y ew e1 ⟨Z,f2,f5,f7,E,o⟩;subst E;rw[uA]at o;have a2:=q k ow;have a3:=q (k+1) C;clear q l v;cases F:l8 w[k] w[k+1]with
   |false=>
    rw[RT C F,ip (by cases B<;>rfl)]at n;subst n;clear o
    repeat' first|simp only[go_sem, *]|apply bc<;>intro u
    refine zd kr ?_
    repeat' first|simp only[go_sem, *]|apply bc<;>intro u
   |true=>
    have hn:=XV C F o;clear o n T
    repeat' first|simp only[go_sem, *]|apply bc<;>intro u
    refine zd kr ?_
    repeat' first|simp only[go_sem, *]|apply bc<;>intro u
    exact hn
  ·rintro k fr h Y ⟨Z,f2,f5,f7,E,o⟩;subst E;have ab:=zq Y;have hr:ga w=true:=zN λj h=>o j ow ow;rw[hr]at n;clear q o hr ab;rcases i with _|j
   ·have h0:decide (((0:Nat):Int)>0)=false:=rfl;rw[h0,yV]at I;subst I;rw[iq (by decide)]at n;subst n;clear l v
    repeat' first|simp only[go_sem, *]|apply bc<;>intro u
    refine qD Heap.emp [(0,.no,false),(1,.no,false),(2,.no,false),(9,.no,false),(3,.no,false),(4,.no,false),(5,.no,false),(6,.no,false),(7,.no,false),(8,.no,false),(10,.no,false),(11,.no,false),(12,.no,false)] kr kr (λi ob e=>by cases e) ?_;exact au
   ·have h0:decide (((j+1:Nat):Int)>0)=true:=zN ow;have ew:IntKind.i64.wrap (((j+1:Nat):Int)-1)=(j:Int):=by rw[qE ow ow];omega
    have o:∀z,c.cs.getD (j+1-1) z=c.cs[j]:=λz=>by rw[uA,zK];simp[show j<c.cs.length by omega]
    rw[o,h0,yL]at I;obtain⟨y,rfl,a2⟩:=l j ow;have J:=v c.cs[j] ⟨O,L,K,t,w,P⟩;rw[I]at J;simp only[Cla.cells]at J;clear l v o I;cases B with
    |true=>
     rw[ip (by decide)]at n;subst n
     repeat' first|simp only[go_sem, *]|apply bc<;>intro u
     refine qD Heap.emp [(0,.no,false),(1,.no,false),(2,.no,false),(9,.no,false),(3,.no,false),(4,.no,false),(5,.no,false),(6,.no,false),(7,.no,false),(8,.no,false),(10,.no,false),(11,.no,false),(12,.no,false)] kr kr (λi ob e=>by cases e) ?_
     repeat' first|simp only[go_sem, *]|apply bc<;>intro u|(refine zB.mono (J _) ?_;rintro r h ⟨E,rfl⟩)
    |false=>
     rw[iq (by decide)]at n;subst n
     repeat' first|simp only[go_sem, *]|apply bc<;>intro u
     refine qD Heap.emp [(0,.no,false),(1,.no,false),(2,.no,false),(9,.no,false),(3,.no,false),(4,.no,false),(5,.no,false),(6,.no,false),(7,.no,false),(8,.no,false),(10,.no,false),(11,.no,false),(12,.no,false)] kr kr (λi ob e=>by cases e) ?_
     repeat' first|simp only[go_sem, *]|apply bc<;>intro u|(refine zB.mono (J _) ?_;rintro r h ⟨E,rfl⟩)
theorem jA{c:Cat}{d:D}(x:uM c d)(B:c.Sm)(g:Heap):zB prog 111 [d] g λr h'=>h'=g/\r=.int .i64 (qz c):=by
 have K:=λi F=>A8 (i:=i) x B F;have I:=λi F=>A6 (i:=i) x B F;have H:=λi F=>A4 (i:=i) x B F;have C:=λi F=>Dh (i:=i) x B F;obtain⟨a,b,e,p,rfl,N,O,P,Q⟩:=x;have S:yN true 4 [a,b,e,p] 0=some (.agg [a,b,e,p]):=zJ rfl ow;have X:=pK N;have Y:=fP O;have Z:=nb P;have l4:=fO Q;have s1:=B.ls.1;have s2:=B.es.1;have s3:=B.cs.1;have s4:=B.ps;clear B N O P Q;refine z5 zGh ?_;simp only[f111,zA];cases q:c.big with
 |true=>
  have w:qz c=10:=ip q;unfold Cat.big at q;clear K I H C
  repeat' first|simp only[go_sem, *]|apply bc<;>intro x
  all_goals(simp only[uQ,uk,bne,wA,wk,qe,qy,wj,yV,yL,qK,qd,yr,wH,qY,wX,Bool.true_eq_false,zW, *]at q;done)
 |false=>
 have w:qz c=if(!(c.e1==0))=true then c.e1 else if(!(c.e2==0))=true then c.e2 else if(!(c.e3==0))=true then c.e3 else c.e4:=iq (by rw[q];exact zf)
 obtain⟨R,M⟩:∃R,qz c=R:=⟨_,rfl⟩;rw[M]at w⊢;have J:=w.symm;clear w;have w:=J;clear J;clear M;unfold Cat.big at q;simp only[wQ]at q;obtain⟨⟨⟨T,U⟩,V⟩,W⟩:=q
 repeat' first|simp only[go_sem, *]|apply bc<;>intro x
 clear T U V W;refine zV (λk fr h=>fr 1=.iptr [a,b,e,p] 0/\fr 3=.int .i64 (k:Int)/\h=g/\∀j,j<k->atE (p9 c.ls) c.ls j=0) c.ls.length ow ?_ ?_ ?_
 ·simp only[go_sem,zQ,zS,zF];exact λj n=>absurd n (zj _)
 ·rintro k fr h o E L ⟨z,A,t,n⟩;subst t;have s:=K k o;have l:=dE (f:=p9 c.ls) o;clear K I H C;generalize p9 c.ls k c.ls[k]=v at *
  cases y:(v==0)with
  |false=>
   have u:c.e1=v:=(show ml (atE (p9 c.ls) c.ls) c.ls.length=v by rw[pQ o n (by rw[l];simpa using y),l]);rw[u,ip (by rw[y];rfl)]at w;subst w;clear n l u
   repeat' first|simp only[go_sem, *]|apply bc<;>intro x|(refine zB.mono (s _) ?_;rintro r h ⟨t,rfl⟩)
  |true=>
   have G:=um n (by rw[l];simpa using y);clear n l
   repeat' first|simp only[go_sem, *]|apply bc<;>intro x|(refine zB.mono (s _) ?_;rintro r h ⟨t,rfl⟩)
   exact G
 rintro fr h E ⟨z,A,t,n⟩;subst t;have u:c.e1=0:=u9 n;rw[u,iq (by decide)]at w;clear n u K
 repeat' first|simp only[go_sem, *]|apply bc<;>intro x
 clear A;refine zV (λk fr h'=>fr 1=.iptr [a,b,e,p] 0/\fr 5=.int .i64 (k:Int)/\h'=h/\∀j,j<k->atE (mP c.m c.es) c.es j=0) c.es.length ow ?_ ?_ ?_
 ·simp only[go_sem,zQ,zS,zF,z];exact λj n=>absurd n (zj _)
 ·rintro k fr h o E L ⟨z,A,t,n⟩;subst t;have s:=I k o;have l:=dE (f:=mP c.m c.es) o;clear I H C;generalize mP c.m c.es k c.es[k]=v at *
  cases y:(v==0)with
  |false=>
   have u:c.e2=v:=(show ml (atE (mP c.m c.es) c.es) c.es.length=v by rw[pQ o n (by rw[l];simpa using y),l]);rw[u,ip (by rw[y];rfl)]at w;subst w;clear n l u
   repeat' first|simp only[go_sem, *]|apply bc<;>intro x|(refine zB.mono (s _) ?_;rintro r h ⟨t,rfl⟩)
  |true=>
   have G:=um n (by rw[l];simpa using y);clear n l
   repeat' first|simp only[go_sem, *]|apply bc<;>intro x|(refine zB.mono (s _) ?_;rintro r h ⟨t,rfl⟩)
   exact G
 rintro fr h E ⟨z,A,t,n⟩;subst t;have u:c.e2=0:=u9 n;rw[u,iq (by decide)]at w;clear n u I
 repeat' first|simp only[go_sem, *]|apply bc<;>intro x
 clear A;refine zV (λk fr h'=>fr 1=.iptr [a,b,e,p] 0/\fr 7=.int .i64 (k:Int)/\h'=h/\∀j,j<k->atE (mM c.m c.cs) c.cs j=0) c.cs.length ow ?_ ?_ ?_
 ·simp only[go_sem,zQ,zS,zF,z];exact λj n=>absurd n (zj _)
 ·rintro k fr h o E L ⟨z,A,t,n⟩;subst t;have s:=H k o;have l:=dE (f:=mM c.m c.cs) o;clear H C;generalize mM c.m c.cs k c.cs[k]=v at *
  cases y:(v==0)with
  |false=>
   have u:c.e3=v:=(show ml (atE (mM c.m c.cs) c.cs) c.cs.length=v by rw[pQ o n (by rw[l];simpa using y),l]);rw[u,ip (by rw[y];rfl)]at w;subst w;clear n l u
   repeat' first|simp only[go_sem, *]|apply bc<;>intro x|(refine zB.mono (s _) ?_;rintro r h ⟨t,rfl⟩)
  |true=>
   have G:=um n (by rw[l];simpa using y);clear n l
   repeat' first|simp only[go_sem, *]|apply bc<;>intro x|(refine zB.mono (s _) ?_;rintro r h ⟨t,rfl⟩)
   exact G
 rintro fr h E ⟨z,A,t,n⟩;subst t;have u:c.e3=0:=u9 n;rw[u,iq (by decide)]at w;clear n u H
 repeat' first|simp only[go_sem, *]|apply bc<;>intro x
 clear A;refine zV (λk fr h'=>fr 1=.iptr [a,b,e,p] 0/\fr 9=.int .i64 (k:Int)/\h'=h/\∀j,j<k->atE (nR c.m c.ps) c.ps j=0) c.ps.length ow ?_ ?_ ?_
 ·simp only[go_sem,zQ,zS,zF,z];exact λj n=>absurd n (zj _)
 ·rintro k fr h o E L ⟨z,A,t,n⟩;subst t;have s:=C k o;have l:=dE (f:=nR c.m c.ps) o;clear C;generalize nR c.m c.ps k c.ps[k]=v at *
  cases y:(v==0)with
  |false=>
   have u:c.e4=v:=(show ml (atE (nR c.m c.ps) c.ps) c.ps.length=v by rw[pQ o n (by rw[l];simpa using y),l]);rw[u]at w;subst w;clear n l u
   repeat' first|simp only[go_sem, *]|apply bc<;>intro x|(refine zB.mono (s _) ?_;rintro r h ⟨t,rfl⟩)
  |true=>
   have G:=um n (by rw[l];simpa using y);clear n l
   repeat' first|simp only[go_sem, *]|apply bc<;>intro x|(refine zB.mono (s _) ?_;rintro r h ⟨t,rfl⟩)
   exact G
 rintro fr h E ⟨z,A,t,n⟩;subst t;have u:c.e4=0:=u9 n;rw[u]at w;subst w;clear n u C;exact au
end Go.V
