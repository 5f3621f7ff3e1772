/- Rules of the machine of abstract values, part 7. No condition. -/
import Derived.Test.YtkenagjlanhnmaaGreatDoorW30
set_option linter.all false
set_option maxHeartbeats 8000000
namespace Go.V
def mi(h:Heap)(i:Nat)(o a:Obj):(h.set i o).set i a=h.set i a:=by
 unfold Heap.set;simp only[Heap.mk.injEq,zM]
 funext j
 by_cases e:j=i<;>simp[e]
variable{P:Program}{f:FuncId}{args:List D}{h:Heap}{i n sz:Nat}{z d x:D}{xs:List (List D)}{e:Ex}{c:Cat}{s:List UInt8}{α:Type}{fs:List Fac}
def xP{R:D->Heap->Prop}(H:∀Q:D->Heap->Prop,(∀r h',R r h'->Q r h')->zD P f args h Q):zD P f args h R:=H R λ_ _ x=>x
section
variable{P:Program}{sz:Nat}{t e:TypeId}{id off len:Nat}{h:Heap}{xs:List (List D)}
def sr(a:uu P t=some e)(c:szT P e=sz){k:IntKind}(b:i<len):yc P t (.rs id sz off len) (.int k (i:Int))=some (.ptr id (off+i*sz)):=by
 simp[yc,a,c,b]
def pn(a:Wu P t=none)(b:uu P t=some e)(d:szT P e=sz){k:IntKind}(c:n<=len):uN P t (.rs id sz 0 len) (some (.int k (n:Int))) none none h=some (.rs id sz (n*sz) (len-n)):=by
 simp[uN,a,fG,b,d,s8,VA,Te,c]
def jb(c:∀x∈xs,x.length=sz)(h0:0<sz){a i:Nat}{x:List D}(b:xs[a+i]? =some x):yO true sz xs.flatten (a*sz+i*sz)=some (.agg x):=by
 rw[<-qx];exact o5 c h0 b
def IR(cs vs:List D)(off:Nat)(h:off+vs.length=cs.length):wS cs vs off=cs.take off++vs:=by
 unfold wS;rw[uQ ow,yK]
def I2(a:∀x∈xs,x.length=sz):∀{n:Nat},xs.flatten.take (n*sz)=(xs.take n).flatten:=by
 induction xs with
 |nil=>intro n;simp
 |cons x xs c=>
  intro n;cases n with
  |zero=>simp
  |succ n=>
   have d:=a x jS;rw[yT,pT,yT,qh,je,yP ow,show n*sz+sz-x.length=n*sz by omega,c (λy b=>a y (by simp[b]))]
def WM(d:uu P t=some e)(j:uo P e=some z)(c:z.notTuple=true)(a:z.cells.length=sz)(f:h.at' id=some (.row xs.flatten))(i:∀x∈xs,x.length=sz)(p:n<=xs.length):
  ∃rest,dq P t (.rs id sz (n*sz) (xs.length-n)) h=some (h.set id (.row ((xs.take n).flatten++rest))):=by
 by_cases h0:xs.length-n=0
 .refine⟨[],?_⟩
  have b:n=xs.length:=ow;have l:h.set id (.row ((xs.take n).flatten++ []))=h:=by
   rw[b,yC,yK];exact sC f
  rw[l];simp only[dq,d,j,h0,qF]
 .refine⟨mw (xs.length-n) z.cells,?_⟩
  have hr:∀m,(mw m z.cells).length=m*sz:=by
   intro m
   induction m with
   |zero=>simp[mw]
   |succ m o=>
    change (List.replicate m z.cells).flatten.length=m*sz at o;change (List.replicate (m+1) z.cells).flatten.length=(m+1)*sz;rw[tH,yT,zQ,a,qh];omega
  have k:=uP i;have g:n*sz+(xs.length-n)*sz=xs.length*sz:=by rw[<-qx];congr 1;omega
  simp only[dq,d,j];rw[iq h0,ip (by simp[c,a]),f];simp only;rw[ip ow,IR _ _ _ (by rw[hr];omega),I2 i]
end
variable{sz:Nat}{xs:List (List D)}{P:Program}{h:Heap}{e:Ex}
theorem zw(h:yZ sz xs d):d.cells= [d]/\d.notTuple=true/\d.flat=true:=by
 rcases h with⟨rfl,_⟩ | ⟨tk,rfl⟩ <;>exact⟨rfl,rfl,rfl⟩
open Go.Proofs.Tryz
open Go.Proofs
set_option maxRecDepth 100000
theorem dB(e:Ex):∀l:List Ex,qR (l++ [e])=qR l+e.size
 | []=>by simp[qR]
 |x::l=>by
  have:=dB e l;simp only[yG,qR,this];omega
def zGy{a:Nat}(b:a<=4194304):mr .quo .i64 .i64 (a:Int) 40=some (.int .i64 ((a/40:Nat):Int)):=by
 have c:((a:Int)).tdiv 40=((a/40:Nat):Int):=by
  rw[Int.tdiv_eq_ediv_of_nonneg ow];omega
 have d:a/40<=4194304:=zb (Nat.div_le_self _ _) b;simp only[mr,Mi,qF];rw[iq jD,c];generalize a/40=z at *
 rw[qP ow ow]
theorem PA:∀(deep:Nat),deep<=40->∀{e:Ex},e.Ok->∀(b:Nat),b<=120->∀g:Heap,zD prog 95 [.agg e.cells,.int .i64 (b:Int),.int .i64 (deep:Int)] g λr h'=>h'=g/\∃n:Nat,r=.int .i64 (n:Int)/\n<=b+100001/\(n<=b->e.size<=n):=by
 intro deep
 induction deep with
 |zero=>
  intro _ e f b V g;refine xP λQ j=> ?_;obtain⟨k,c,x,l,d⟩:=e;simp only[Ex.Ok]at f;obtain⟨F,U,h1,R,v⟩:=f;have P:IntKind.i64.wrap ((b:Int)+1)=((b+1:Nat):Int):=qH jL;have J:IntKind.i64.wrap ((c.length:Int)+(x.length:Int))=((c.length+x.length:Nat):Int):=by rw[qP ow ow];omega
  have W:=zGy (a:=c.length+x.length) ow;have G:(((0:Nat):Int)==0)=true:=rfl;have p:=j (.int .i64 ((b+1:Nat):Int)) g ⟨rfl,b+1,rfl,ow,λq=>by omega⟩;clear j;refine zj zNw ?_;simp only[f95,zA];simp only[Ex.cells,Ex.kind,Ex.name,Ex.exc,Ex.d];simp only[go_sem, *]
 |succ deep C=>
  intro S e f b V g;refine xP λQ j=> ?_;obtain⟨k,c,x,l,d⟩:=e;simp only[Ex.Ok]at f;obtain⟨F,U,h1,R,v⟩:=f;have M:=pZ F;have J:IntKind.i64.wrap ((c.length:Int)+(x.length:Int))=((c.length+x.length:Nat):Int):=by rw[qP ow ow];omega
  have W:=zGy (a:=c.length+x.length) ow;have K:(c.length+x.length)/40<=52429:=ow;have X:IntKind.i64.wrap (1+(((c.length+x.length)/40:Nat):Int))=((1+(c.length+x.length)/40:Nat):Int):=by
   generalize(c.length+x.length)/40=z at *
   rw[qP ow ow];omega
  have G:(((deep+1:Nat):Int)==0)=false:=jO;have T:IntKind.i64.wrap (((deep+1:Nat):Int)-1)=(deep:Int):=by rw[qP ow ow];omega
  have y:(Ex.mk k c x l d).size=qR l+1:=by simp only[Ex.size]
  rw[y]at j;clear y;generalize Y:1+(c.length+x.length)/40=z at *
  have Z:1<=z:=ow;have ad:z<=52430:=ow;clear Y K;refine zj zNw ?_;simp only[f95,zA];simp only[Ex.cells,Ex.kind,Ex.name,Ex.exc,Ex.d];simp only[go_sem, *];refine qn (λi fr h=>fr 1=.int .i64 (b:Int)/\fr 2=.int .i64 ((deep+1:Nat):Int)/\fr 3=.iptr [.int .i64 k,.str c,.str x,d] 0/\fr 8=.int .i64 (i:Int)/\h=g/\∃n:Nat,fr 7=.int .i64 (n:Int)/\n<=b+100001/\(n<=b->qR (l.take i)+1<=n)) l.length ?_ ?_
  .have s:∃n:Nat,D.int .i64 (z:Int)=.int .i64 (n:Int)/\n<=b+100001/\(n<=b->qR (l.take 0)+1<=n):=⟨z,rfl,ow,λ_=>by simp[qR];omega⟩
   simp only[go_sem,zM,zV,zG];exact s
  rintro i fr h hi ⟨f1,f2,f3,f8,rfl,n,f7,A,B⟩;by_cases o:i<l.length
  .have e1:decide ((i:Int)<(l.length:Int))=true:=zR ow
   have P:IntKind.i64.wrap ((i:Int)+1)=((i+1:Nat):Int):=qH jL;cases e2:decide ((n:Int)<=(b:Int))with
   |true=>
    have u:=yE e2;have O:=l9 F o;have w:l[i]∈l:=zH o;have N:IntKind.i64.wrap ((b:Int)- (n:Int))=((b-n:Nat):Int):=by rw[qP ow ow];omega
    have t:=C ow (e:=l[i]) (pa v _ w) (b-n) ow h;have I:qR (l.take (i+1))=qR (l.take i)+l[i].size:=by rw[zP o,dB]
    simp only[Ex.cells]at O t;generalize l[i]=e at *
    clear j C w;simp only[go_sem, *];refine t.mono ?_;rintro r h3 ⟨H,m,rfl,m1,m2⟩;subst H;have L:IntKind.i64.wrap ((n:Int)+(m:Int))=((n+m:Nat):Int):=by rw[qP ow ow];omega
    have s:i<l.length/\∃E:Nat,D.int .i64 ((n+m:Nat):Int)=.int .i64 (E:Int)/\E<=b+100001/\(E<=b->qR (l.take (i+1))+1<=E):=⟨o,n+m,rfl,ow,λq=>by have:=m2 ow;have:=B ow;omega⟩;clear B m2 I m1 A t;simp only[go_sem, *]
   |false=>
    have u:=yA e2;have p:=j (.int .i64 (n:Int)) h ⟨rfl,n,rfl,A,λq=>by omega⟩;clear j C B A u;exact au
  .have e1:decide ((i:Int)<(l.length:Int))=false:=zN ow
   have p:=j (.int .i64 (n:Int)) h ⟨rfl,n,rfl,A,λq=>by have:=B q;rw[yP ow]at this;exact this⟩;clear j C B A;exact au
def K4(d:e.Ok)(g:Heap):zD prog 45 [.agg e.cells] g λr h'=>h'=g/\∃b,r=.bool b/\(b=true->e.size<=120):=by
 refine xP λQ j=> ?_;have f:=PA 40 ow d 120 ow;have l:yO true 4 e.cells 0=some (.agg e.cells):=zJ rfl ow;have a:((120:Nat):Int)=120:=rfl;have c:((40:Nat):Int)=40:=rfl;rw[a,c]at f;refine zj zOb ?_;simp only[f45,zA];simp only[go_sem, *];refine(f _).mono ?_;rintro r h ⟨k,n,rfl,o,m⟩;subst k;have i:=j (.bool (decide ((n:Int)<=120))) h ⟨rfl,_,rfl,λq=>by have:=yE q;have:=m ow;omega⟩;exact au
def gI(v:uB c d)(y:c.Sm)(s:List UInt8)(g:Heap):zD prog 202 [d,.str s] g λr h'=>h'=g/\r=.int .i64 (UT (λx:Lic=>x.name==s) c.ls):=by
 obtain⟨a,b,e,p,rfl,n,C,D,F⟩:=v;have o:=rF n;have E:=y.ls.1;obtain⟨G,H,_⟩:=zw n;refine zj zKP ?_;simp only[f202,zA];simp only[go_sem, *];refine zY (λi fr h=>fr 1=.str s/\fr 2=.iptr [a,b,e,p] 0/\fr 5=.int .i64 (i:Int)/\h=g/\∀j (k:j<c.ls.length),j<i->(c.ls[j].name==s)=false) c.ls.length ow ?_ ?_ ?_
 .simp only[go_sem,zM,zV,zG]
  exact λj k h0=>by omega
 .rintro i fr h f e1 B ⟨q,t,u,rfl,k⟩
  have A:=pV n f;have k0:c.ls[i].cells[0]? =some (.str c.ls[i].name):=rfl;cases l:(c.ls[i].name==s)with
  |true=>
   have z:=jF (p:=λx:Lic=>x.name==s) f k l;simp only[go_sem, *]
  |false=>
   have w:=ug (p:=λx:Lic=>x.name==s) f k l;simp only[go_sem, *];exact w
 .rintro fr h e1 ⟨q,t,u,rfl,k⟩
  have z:=jG (p:=λx:Lic=>x.name==s) λj m=>k j m m;exact au
def RG(x y:Apt)(g:Heap):zD prog 315 [.agg x.cells,.agg y.cells] g λr h'=>h'=g/\∃b,r=.bool b:=by
 refine xP λQ c=> ?_;have a:∀b,Q (.bool b) g:=λb=>c _ _ ⟨rfl,b,rfl⟩;refine zj zKv ?_;simp only[f315,zA];simp only[Apt.cells];exact au
def K7(f:uB c d)(s:c.Sm)(C:i<c.ps.length)(g:Heap):zD prog 240 [d,.int .i64 (i:Int)] g λr h'=>h'=g/\∃n,r=.int .i64 n:=by
 refine xU kr λD=>xS ?_;refine xP λQ A=> ?_;have k:=gI f s;have l:∀n h,Ext g h->Q (.int .i64 n) h:=λn h m=>A _ _ ⟨m,trivial,n,rfl⟩;have q:=RG;obtain⟨a,b,e,p,rfl,L,M,N,u⟩:=f;have I:=aZ u C;have F:yO true 4 [a,b,e,p] 0=some (.agg [a,b,e,p]):=zJ rfl ow;have E:∀z:Apt,yO true 2 z.cells 0=some (.agg z.cells):=λz=>zJ rfl ow;have k0:c.ps[i].cells[0]? =some (.str c.ps[i].a):=rfl;have k1:c.ps[i].cells[1]? =some (.str c.ps[i].b):=rfl;have t:yW prog 130 (.ptr g.next 0) (.agg c.ps[i].cells) (g.new g.next (.row [.str [],.str []]))=some (g.new g.next (.row c.ps[i].cells)):=ym TI ow rfl rfl rfl
 refine zj zKX ?_;simp only[f240,zA];obtain⟨G,x,y,m⟩:∃G:Heap,g.new g.next (.row c.ps[i].cells)=G/\G.at' g.next=some (.row c.ps[i].cells)/\Ext g G:=⟨_,rfl,z5 _ _ _,(Ext.refl g).new (zC _) _⟩;rw[x]at t;have B:=λn=>l n G m;rcases i with _|j
 .have h0:decide (((0:Nat):Int)>0)=false:=rfl
  repeat' first|simp only[go_sem, *]|apply bc<;>intro f|(refine zD.mono (k _ _) ?_;rintro r h ⟨v,rfl⟩)
  refine yq Heap.emp (pwf [0,1,2,3,4,5,6,7,8,15,9,10,11,12,13,14,16,17,18,19] []) kr kr (λi H e=>by cases e) ?_;exact au
 .have h0:decide (((j+1:Nat):Int)>0)=true:=zR ow
  have K:IntKind.i64.wrap (((j+1:Nat):Int)-1)=(j:Int):=by rw[qP (by have:=s.ps;omega) (by have:=s.ps;omega)];omega
  have J:=aZ u (show j<c.ps.length by omega);have o:=q c.ps[j] c.ps[j+1]
  repeat' first|simp only[go_sem, *]|apply bc<;>intro f|(refine zD.mono (k _ _) ?_;rintro r h ⟨v,rfl⟩)
  refine yq Heap.emp (pwf [0,1,2,3,4,5,6,7,8,15,9,10,11,12,13,14,16,17,18,19] []) kr kr (λi H e=>by cases e) ?_
  repeat' first|simp only[go_sem, *]|apply bc<;>intro f|(refine zD.mono (o _) ?_;rintro r h ⟨v,w,rfl⟩)
def K6(x y:Cla)(g:Heap):zD prog 314 [.agg x.cells,.agg y.cells] g λr h'=>h'=g/\∃b,r=.bool b:=by
 refine xP λQ c=> ?_;have a:∀b,Q (.bool b) g:=λb=>c _ _ ⟨rfl,b,rfl⟩;refine zj zKu ?_;simp only[f314,zA];simp only[Cla.cells];exact au
def PB(s:List UInt8)(n:s.length<=1048576)(g:Heap):zD prog 313 [.str s] g λr h'=>h'=g/\∃b,r=.bool b:=by
 refine xP λQ j=> ?_;have c:∀b,Q (.bool b) g:=λb=>j _ _ ⟨rfl,b,rfl⟩;have d:∀h,o9 prog 9 (.str s) h=some (.int .i64 s.length):=λh=>tm underlying9;refine zj zKt ?_;simp only[f313,zA]
 repeat' first|simp only[go_sem, *]|apply bc<;>intro m
 refine zY (λi fr h=>fr 0=.str s/\fr 3=.int .i64 (i:Int)/\h=g) s.length ow ?_ ?_ ?_
 .simp only[go_sem,zM,zV,zG]
 .rintro i fr h a e1 l ⟨e,f,rfl⟩
  have k:nS prog 9 (.str s) (.int .i64 (i:Int))=some (.int .u8 s[i].toNat):=ss underlying9 (zB a);exact au
 .rintro fr h e1 ⟨e,f,rfl⟩
  exact au
def kp(s:List UInt8)(t:s.length<=1048576)(g:Heap):zD prog 311 [.str s] g λr h'=>h'=g/\∃b,r=.bool b:=by
 refine xP λQ k=> ?_;have c:∀b,Q (.bool b) g:=λb=>k _ _ ⟨rfl,b,rfl⟩;have d:∀h,o9 prog 9 (.str s) h=some (.int .i64 s.length):=λh=>tm underlying9;refine zj zKr ?_;simp only[f311,zA];cases h0:decide ((s.length:Int)<1)with
 |true=>
  repeat' first|simp only[go_sem, *]|apply bc<;>intro l
 |false=>
  have j:=yA h0;have m:0<s.length:=ow;have o:nS prog 9 (.str s) (.int .i64 0)=some (.int .u8 s[0].toNat):=ss (n:=0) underlying9 (zB m)
  repeat' first|simp only[go_sem, *]|apply bc<;>intro l
  refine zY (λi fr h=>fr 0=.str s/\fr 3=.int .i64 (i:Int)/\h=g) s.length ow ?_ ?_ ?_
  .simp only[go_sem,zM,zV,zG]
  .rintro i fr h a e1 q ⟨e,f,rfl⟩
   have p:nS prog 9 (.str s) (.int .i64 (i:Int))=some (.int .u8 s[i].toNat):=ss underlying9 (zB a);exact au
  .rintro fr h e1 ⟨e,f,rfl⟩
   exact au
def RH(z:s.length<=1048576)(g:Heap):zD prog 312 [.str s] g λr h'=>h'=g/\∃a:List (List UInt8),yZ 1 (wg a) r/\a.length<=s.length+1:=by
 refine xU kr λx=>xS ?_;refine xP λQ p=> ?_;have q:Q .nilsl g:=p _ _ ⟨Ext.refl g,trivial,[],.inl ⟨rfl,rfl⟩,jS⟩;have l:∀a d h,Own g h 1 (wg a) d->a.length<=s.length+1->Q d h:=λa d h b y=>p _ _ ⟨(b.fin uj).1,(b.fin uj).2.1,a,(b.fin uj).2.2.isSl,y⟩;refine zj zKs ?_;simp only[f312,zA]
 repeat' first|simp only[go_sem, *]|apply bc<;>intro k
 refine zY (λi fr h'=>fr 0=.str s/\fr 5=.int .i64 (i:Int)/\∃ (d:D) (a:List (List UInt8)) (f:Nat),fr 3=d/\fr 4=.int .i64 (f:Int)/\f<=i/\a.length<=i/\Own g h' 1 (wg a) d) s.length ow ?_ ?_ ?_
 .simp only[go_sem,zM,zV,zG]
  exact⟨.nilsl,[],0,rfl,rfl,zC _,zC _,Own.start (Ext.refl g) 1⟩
 .rintro i fr h' c e1 m ⟨t,w,d,a,f,u,v,hf,n,b⟩
  have j:((s[i].toNat:Int)==10)=(s[i]==10):=zLk s[i] 10;cases k:(s[i]==10)with
  |true=>
   repeat' first|simp only[go_sem,F5 c,j,JU hf (Nat.le_of_lt c),gb,m, *]|apply bc<;>intro k
   refine b.str ow λo h' e=> ?_
   repeat' first|simp only[go_sem,m, *]|apply bc<;>intro k
   exact⟨o,_,i+1,rfl,rfl,zC _,jO,e⟩
  |false=>
   repeat' first|simp only[go_sem,F5 c,j,m, *]|apply bc<;>intro k
   exact⟨d,a,f,rfl,rfl,ow,ow,b⟩
 .rintro fr h' e1 ⟨t,w,d,a,f,u,v,hf,n,b⟩
  repeat' first|simp only[go_sem,C7 hf,gb, *]|apply bc<;>intro k
  refine b.str ow λo h' e=> ?_;have A:=l _ _ _ e jO;exact au
def Gb(t:uB c d)(P:c.Sm)(O:i<c.ls.length)(g:Heap):zD prog 237 [d,.int .i64 (i:Int)] g λr h'=>h'=g/\∃n,r=.int .i64 n/\(n=0->0<=(c.ls[i]).ver/\(c.ls[i]).ver<=999):=by
 refine xU kr λak=>xS ?_;refine xP λQ M=> ?_;have F:=P.ls.2 _ (zH O);have hl:=P.ls.1;obtain⟨a,b,e,p,rfl,N,hb,he,hp⟩:=t;have R:=pV N O;have m:∀j,j<c.ls.length->∃y:Lic,yc prog 22 a (.int .i64 (j:Int))=some (.iptr [.str y.name,.str y.fam,.int .i64 y.ver,.str y.text] 0):=λj hj=>⟨_,pV N hj⟩;generalize hx:c.ls[i]=x at *
 obtain⟨z,v,s,A⟩:=x;obtain⟨m1,m2,m3⟩:=F;have u:=jo ⟨z,v,s,A⟩ g g.next;have B:=kp z m1;have C:=kp v m2;have U:=RH m3;have V:=PB A m3;simp only[Lic.cells]at R u;obtain⟨G,hG,ag,L⟩:∃G:Heap,g.new g.next (.row [.str z,.str v,.int .i64 s,.str A])=G/\G.at' g.next=some (.row [.str z,.str v,.int .i64 s,.str A])/\Ext g G:=⟨_,rfl,z5 _ _ _,(Ext.refl g).new (zC _) _⟩;rw[hG]at u;have f:∀n,n≠0->Q (.int .i64 n) G:=λn hn=>M _ _ ⟨L,trivial,n,rfl,λq=>absurd q hn⟩;have I:=f 2 jD;have f3:=f 3 jD;have f4:=f 4 jD;have J:=f 5 jD;have K:=f 6 jD;have Z:=f 10 jD
 have H:decide (s<0)=false->decide (s>999)=false->Q (.int .i64 0) G:=λq1 q2=>M _ _ ⟨L,trivial,0,rfl,λ_=>⟨show 0<=s by have:=yA q1;omega,show s<=999 by have:=yA q2;omega⟩⟩;refine zj zKU ?_;simp only[f237,zA];cases v1:decide (s<0)with
 |true=>
  repeat' first|simp only[go_sem, *]|apply bc<;>intro t|(refine zD.mono (B _) ?_;rintro r h ⟨l,w,rfl⟩)|(refine zD.mono (C _) ?_;rintro r h ⟨l,w,rfl⟩)
 |false=>
 cases v2:decide (s>999)with
 |true=>
  repeat' first|simp only[go_sem, *]|apply bc<;>intro t|(refine zD.mono (B _) ?_;rintro r h ⟨l,w,rfl⟩)|(refine zD.mono (C _) ?_;rintro r h ⟨l,w,rfl⟩)
 |false=>
 have H:=H v1 v2
 repeat' first|simp only[go_sem, *]|apply bc<;>intro t|(refine zD.mono (B _) ?_;rintro r h ⟨l,w,rfl⟩)|(refine zD.mono (C _) ?_;rintro r h ⟨l,w,rfl⟩)
 refine(U _).mono ?_;rintro r h2 ⟨E,ps,D,_⟩;subst E;have ai:=wO D;have hB:=A3
 repeat' first|simp only[go_sem, *]|apply bc<;>intro t|(refine zD.mono (V _) ?_;rintro r h ⟨l,w,rfl⟩)
 refine fI (λo h'=>KO (o 58)/\o 1=.int .i64 (i:Int)/\o 2=.iptr [a,b,e,p] 0/\o 5=.ptr g.next 0/\h'=h2) ?_ ?_
 .rcases i with _|j
  .have h0:decide (((0:Nat):Int)>0)=false:=rfl
   refine yJ kr ?_;exact au
  .have h0:decide (((j+1:Nat):Int)>0)=true:=zR ow
   have X:IntKind.i64.wrap (((j+1:Nat):Int)-1)=(j:Int):=by rw[qP ow ow];omega
   obtain⟨y,S⟩:=m j ow;refine yJ kr ?_;exact au
 rintro fr h' ⟨⟨T,ad⟩,g1,g2,g5,l⟩;generalize g.next=n0 at *
 subst l
 repeat' first|simp only[go_sem, *]|apply bc<;>intro t
 refine zY (λk fr h=>fr 1=.int .i64 (i:Int)/\fr 2=.iptr [a,b,e,p] 0/\fr 5=.ptr n0 0/\fr 6=.int .i64 (k:Int)/\h=h') i ow ?_ ?_ ?_
 .simp only[go_sem,zM,zV,zG,g1,g2,g5]
 .rintro k fr h aj W X ⟨Y,I,J,K,l⟩
  subst l;obtain⟨y,S⟩:=m k ow
  repeat' first|simp only[go_sem, *]|apply bc<;>intro t
  refine yJ kr ?_;exact au
 .rintro fr h W ⟨Y,I,J,K,l⟩
  subst l;exact au
def Ga(s:uB c d)(J:c.Sm)(P:i<c.es.length)(g:Heap):zD prog 238 [d,.int .i64 (i:Int)] g λr h'=>h'=g/\∃n,r=.int .i64 n:=by
 refine xU kr λai=>xS ?_;refine xP λQ hQ=> ?_;have H:=gI s J;have u:∀n h,Ext g h->Q (.int .i64 n) h:=λn h F=>hQ _ _ ⟨F,trivial,n,rfl⟩;obtain⟨o1,o2,o3⟩:=J.es.2 _ (zH P);have hl:=J.es.1;obtain⟨a,b,e,p,rfl,ha,O,he,hp⟩:=s;have S:=cE O P;have aj:∀a b c:D,yO true 3 [a,b,c] 0=some (.agg [a,b,c]):=λa b c=>zJ rfl ow;have q:∀j,j<c.es.length->∃y:Exc,yc prog 23 b (.int .i64 (j:Int))=some (.iptr [.str y.name,.str y.lic,y.d] 0):=λj I=>⟨_,cE O I⟩;generalize hx:c.es[i]=x at *
 obtain⟨v,A,lf,t⟩:=x;have U:=kp v o3;have o2:lf.length<=1048576:=o2;have R:=t8 o1;have m:∀j,j<lf.length->∃z:Int,yc prog 30 t (.int .i64 (j:Int))=some (.iptr [.int .i64 z] 0):=λj I=>⟨_,lX o1 I⟩;simp only[Exc.cells]at S;have K:yW prog 122 (.ptr g.next 0) (.agg [.str v,.str A,t]) (g.new g.next (.row [.str [],.str [],.nilsl]))=some (g.new g.next (.row [.str v,.str A,t])):=ym WH ow rfl rfl (by show(true&&(true&&(t.flat&&true)))=true;rw[lZ o1];rfl)
 obtain⟨G,hG,ad,F⟩:∃G:Heap,g.new g.next (.row [.str v,.str A,t])=G/\G.at' g.next=some (.row [.str v,.str A,t])/\Ext g G:=⟨_,rfl,z5 _ _ _,(Ext.refl g).new (zC _) _⟩;rw[hG]at K;have ag:=λn=>u n G F;generalize hn:g.next=L at *
 refine zj zKV ?_;simp only[f238,zA]
 repeat' first|simp only[go_sem, *]|apply bc<;>intro s|(refine zD.mono (U _) ?_;rintro r h ⟨f,w,rfl⟩)|(refine zD.mono (H _ _) ?_;rintro r h ⟨f,rfl⟩)
 refine zY (λk fr h=>fr 1=.int .i64 (i:Int)/\fr 2=.iptr [a,b,e,p] 0/\fr 5=.ptr L 0/\fr 6=.int .i64 (k:Int)/\h=G) lf.length ow ?_ ?_ ?_
 .simp only[go_sem,zM,zV,zG]
 .rintro k fr h o B N ⟨V,W,C,X,f⟩
  subst f;obtain⟨z,M⟩:=m k o;exact au
 .rintro fr h B ⟨V,W,C,X,f⟩
  subst f;have hB:=A3
  repeat' first|simp only[go_sem, *]|apply bc<;>intro s
  refine fI (λl h'=>KO (l 62)/\l 5=.ptr L 0/\h'=h) ?_ ?_
  .rcases i with _|j
   .have h0:decide (((0:Nat):Int)>0)=false:=rfl
    refine yJ kr ?_;exact au
   .have h0:decide (((j+1:Nat):Int)>0)=true:=zR ow
    have N:IntKind.i64.wrap (((j+1:Nat):Int)-1)=(j:Int):=by rw[qP ow ow];omega
    obtain⟨y,M⟩:=q j ow;refine yJ kr ?_;exact au
  rintro l G ⟨⟨T,Y⟩,E,rfl⟩
  repeat' first|simp only[go_sem, *]|apply bc<;>intro s
  refine ZS (λk fr h=>fr 5=.ptr L 0/\fr 7=.int .i64 (k:Int)/\h=G) lf.length ow ?_ ?_ ?_
  .simp only[go_sem,zM,zV,zG,E]
   rfl
  .rintro k fr h o B N e1 ⟨C,Z,f⟩
   subst f;obtain⟨z1,M⟩:=m k ow;obtain⟨z2,a3⟩:=m (k+1) o
   repeat' first|simp only[go_sem, *]|apply bc<;>intro s
   all_goals
    refine yJ kr ?_;exact au
  .rintro k fr h B ⟨C,Z,f⟩
   subst f;exact au
def neB(p q:Bool):Bool:=p !=q
@[go_sem] def zId(c p q:Bool):kW prog .neq 4 c (.bool p) (.bool q)=some (.bool (neB p q)):=by cases p<;>cases q<;>simp[kW,Fi,oH,veq,underlying4,neB]
def GZ(l:uB c d)(R:c.Sm)(W:i<c.cs.length)(g:Heap):zD prog 239 [d,.int .i64 (i:Int)] g λr h'=>h'=g/\∃n,r=.int .i64 n:=by
 refine xU kr λai=>xS ?_;refine xP λQ hQ=> ?_;have B:=gI l R;have P:=K6;have C:∀n h,Ext g h->Q (.int .i64 n) h:=λn h N=>hQ _ _ ⟨N,trivial,n,rfl⟩;obtain⟨o1,o2⟩:=R.cs.2 _ (zH W);have hl:=R.cs.1;obtain⟨a,b,e,p,rfl,ha,hb,V,hp⟩:=l;have Z:=gF V W;have aj:∀a b c e f:D,yO true 5 [a,b,c,e,f] 0=some (.agg [a,b,c,e,f]):=λa b c e f=>zJ rfl ow;have t:∀j,j<c.cs.length->∃y:Cla,yc prog 24 e (.int .i64 (j:Int))=some (.iptr [.str y.lic,.int .i64 y.way,.int .i64 y.rel,.int .i64 y.duty,y.d] 0):=λj O=>⟨_,gF V O⟩;generalize hx:c.cs[i]=x at *
 obtain⟨E,I,H,v,F,u⟩:=x;have X:=wO o1;have q:∀j,j<F.length->∃z:List UInt8,yc prog 45 u (.int .i64 (j:Int))=some (.iptr [.str z] 0):=λj O=>⟨_,sP o1 O⟩;simp only[Cla.cells]at Z;have S:yW prog 126 (.ptr g.next 0) (.agg [.str E,.int .i64 I,.int .i64 H,.int .i64 v,u]) (g.new g.next (.row [.str [],.int .i64 0,.int .i64 0,.int .i64 0,.nilsl]))=some (g.new g.next (.row [.str E,.int .i64 I,.int .i64 H,.int .i64 v,u])):=ym gu ow rfl rfl (by show(true&&(true&&(true&&(true&&(u.flat&&true)))))=true;rw[lZ o1];rfl)
 obtain⟨G,hG,ad,N⟩:∃G:Heap,g.new g.next (.row [.str E,.int .i64 I,.int .i64 H,.int .i64 v,u])=G/\G.at' g.next=some (.row [.str E,.int .i64 I,.int .i64 H,.int .i64 v,u])/\Ext g G:=⟨_,rfl,z5 _ _ _,(Ext.refl g).new (zC _) _⟩;rw[hG]at S;have ag:=λn=>C n G N;have hB:=A3;have o2:F.length<=1048576:=o2;generalize hn:g.next=Y at *
 refine zj zKW ?_;simp only[f239,zA]
 repeat' first|simp only[go_sem, *]|apply bc<;>intro l|(refine zD.mono (B _ _) ?_;rintro r h ⟨m,rfl⟩)
 refine zY (λk fr h=>fr 1=.int .i64 (i:Int)/\fr 2=.iptr [a,b,e,p] 0/\fr 5=.ptr Y 0/\fr 6=.int .i64 (k:Int)/\h=G) F.length ow ?_ ?_ ?_
 .simp only[go_sem,zM,zV,zG]
 .rintro k fr h s M U ⟨J,K,L,f6,m⟩
  subst m;obtain⟨z,T⟩:=q k s
  repeat' first|simp only[go_sem, *]|apply bc<;>intro l
  refine yJ kr ?_
  repeat' first|simp only[go_sem, *]|apply bc<;>intro l|(refine zD.mono (B _ _) ?_;rintro r h ⟨m,rfl⟩)
 .rintro fr h M ⟨J,K,L,f6,m⟩
  subst m
  repeat' first|simp only[go_sem, *]|apply bc<;>intro l
  refine ZS (λk o h'=>o 1=.int .i64 (i:Int)/\o 2=.iptr [a,b,e,p] 0/\o 5=.ptr Y 0/\o 7=.int .i64 (k:Int)/\h'=h) F.length ow ?_ ?_ ?_
  .simp only[go_sem,zM,zV,zG,J,K,L]
   rfl
  .rintro k fr h s M U e1 ⟨J,K,L,f7,m⟩
   subst m;obtain⟨z1,T⟩:=q k ow;obtain⟨z2,a3⟩:=q (k+1) s
   repeat' first|simp only[go_sem, *]|apply bc<;>intro l
   refine yJ kr ?_;exact au
  .rintro k fr h M ⟨J,K,L,f7,m⟩
   subst m;rcases i with _|j
   .have h0:decide (((0:Nat):Int)>0)=false:=rfl
    repeat' first|simp only[go_sem, *]|apply bc<;>intro l
    refine yq Heap.emp (pwf [0,1,2,9,3,4,5,6,7,8,10,11,12] []) kr kr (λi ob e=>by cases e) ?_;exact au
   .have h0:decide (((j+1:Nat):Int)>0)=true:=zR ow
    have U:IntKind.i64.wrap (((j+1:Nat):Int)-1)=(j:Int):=by rw[qP ow ow];omega
    obtain⟨y,T⟩:=t j ow;have A:=P y ⟨E,I,H,v,F,u⟩;simp only[Cla.cells]at A
    repeat' first|simp only[go_sem, *]|apply bc<;>intro l
    refine yq Heap.emp (pwf [0,1,2,9,3,4,5,6,7,8,10,11,12] []) kr kr (λi ob e=>by cases e) ?_
    repeat' first|simp only[go_sem, *]|apply bc<;>intro l|(refine zD.mono (A _) ?_;rintro r h ⟨m,w,rfl⟩)
def nn(k:uB c d)(v:c.Sm)(g:Heap):zD prog 201 [d] g λr h'=>h'=g/\∃n,r=.int .i64 n/\(n=0->∀x∈c.ls,0<=x.ver/\x.ver<=999):=by
 refine xP λQ F=> ?_;have J:=λi u=>Gb (i:=i) k v u;have K:=λi u=>Ga (i:=i) k v u;have L:=λi u=>GZ (i:=i) k v u;have M:=λi u=>K7 (i:=i) k v u;have l:∀n,(n==0)=false->Q (.int .i64 n) g:=λn B=>F _ _ ⟨rfl,n,rfl,λq=>by simp[q]at B⟩;have z:(∀x∈c.ls,0<=x.ver/\x.ver<=999)->Q (.int .i64 0) g:=λs=>F _ _ ⟨rfl,0,rfl,λ_=>s⟩;have N:=l 10 rfl;obtain⟨a,b,e,p,rfl,O,P,R,S⟩:=k;have W:=rF O;have X:=fe P;have Y:=jM R;have Z:=bW S;have s1:=v.ls.1;have s2:=v.es.1;have s3:=v.cs.1;have s4:=v.ps
 obtain⟨V,G,I,H⟩:∃V:Nat->Prop,V 0/\(∀i (u:i<c.ls.length),V i->(0<=(c.ls[i]).ver/\(c.ls[i]).ver<=999)->V (i+1))/\(V c.ls.length->∀x∈c.ls,0<=x.ver/\x.ver<=999):=by
  refine⟨λi=>∀j (A:j<c.ls.length),j<i->0<=(c.ls[j]).ver/\(c.ls[j]).ver<=999,λj A h0=>by omega,λi u s B j A D=> ?_,λs x U=> ?_⟩
  .rcases zp.1 D with h|rfl
   .exact s j A h
   .exact B
  .obtain⟨j,A,rfl⟩:=zz.1 U
   exact s j A A
 have E:=λs=>z (H s);refine zj zKO ?_;simp only[f201,zA]
 repeat' first|simp only[go_sem, *]|apply bc<;>intro k
 refine zY (λi fr h=>fr 1=.iptr [a,b,e,p] 0/\fr 3=.int .i64 (i:Int)/\h=g/\V i) c.ls.length ow ?_ ?_ ?_
 .simp only[go_sem,zM,zV,zG,G]
 .rintro i fr h m w C ⟨t,y,f,s⟩
  subst f
  repeat' first|simp only[go_sem, *]|apply bc<;>intro k
  refine(J i m _).mono ?_;rintro r h' ⟨f,n,rfl,B⟩;subst f;cases o:(n==0)with
  |false=>
   have hf:=l n o
   repeat' first|simp only[go_sem, *]|apply bc<;>intro k
  |true=>
   have T:=I i m s (B (by simpa using o));exact au
 rintro fr h w ⟨t,y,f,s⟩;subst f;have E:=E s
 repeat' first|simp only[go_sem, *]|apply bc<;>intro k
 refine zY (λi fr h'=>fr 1=.iptr [a,b,e,p] 0/\fr 5=.int .i64 (i:Int)/\h'=h) c.es.length ow ?_ ?_ ?_
 .simp only[go_sem,zM,zV,zG,t]
 .rintro i fr h m w C ⟨t,y,f⟩
  subst f
  repeat' first|simp only[go_sem, *]|apply bc<;>intro k
  refine(K i m _).mono ?_;rintro r h' ⟨f,n,rfl⟩;subst f;cases o:(n==0)with
  |false=>
   have hf:=l n o
   repeat' first|simp only[go_sem, *]|apply bc<;>intro k
  |true=>
   exact au
 rintro fr h w ⟨t,y,f⟩;subst f
 repeat' first|simp only[go_sem, *]|apply bc<;>intro k
 refine zY (λi fr h'=>fr 1=.iptr [a,b,e,p] 0/\fr 7=.int .i64 (i:Int)/\h'=h) c.cs.length ow ?_ ?_ ?_
 .simp only[go_sem,zM,zV,zG,t]
 .rintro i fr h m w C ⟨t,y,f⟩
  subst f
  repeat' first|simp only[go_sem, *]|apply bc<;>intro k
  refine(L i m _).mono ?_;rintro r h' ⟨f,n,rfl⟩;subst f;cases o:(n==0)with
  |false=>
   have hf:=l n o
   repeat' first|simp only[go_sem, *]|apply bc<;>intro k
  |true=>
   exact au
 rintro fr h w ⟨t,y,f⟩;subst f
 repeat' first|simp only[go_sem, *]|apply bc<;>intro k
 refine zY (λi fr h'=>fr 1=.iptr [a,b,e,p] 0/\fr 9=.int .i64 (i:Int)/\h'=h) c.ps.length ow ?_ ?_ ?_
 .simp only[go_sem,zM,zV,zG,t]
 .rintro i fr h m w C ⟨t,y,f⟩
  subst f
  repeat' first|simp only[go_sem, *]|apply bc<;>intro k
  refine(M i m _).mono ?_;rintro r h' ⟨f,n,rfl⟩;subst f;cases o:(n==0)with
  |false=>
   have hf:=l n o
   repeat' first|simp only[go_sem, *]|apply bc<;>intro k
  |true=>
   exact au
 rintro fr h w ⟨t,y,f⟩;subst f;exact au
def AX{l:List α}{p:α->Bool}(h:decide (UT p l<0)=false):∃j,∃_:j<l.length,UT p l=(j:Int):=by
 unfold UT at h⊢;cases hf:l.findIdx? p with
 |none=>rw[hf]at h;cases h
 |some i=>exact⟨i,(qw.1 hf).1,rfl⟩
def Wy(m:uB c d)(z:c.Sm)(k:List UInt8)(g:Heap):zD prog 139 [d,.str k] g λr h'=>h'=g/\∃ (x:Lic) (b:Bool),r=.tuple [.agg [.str x.name,.str x.fam,.int .i64 x.ver,.str x.text],.bool b]/\(b=true->0<=x.ver/\x.ver<=999):=by
 refine xU kr λM=> ?_;refine xP λQ E=> ?_;have u:=nn m z;have f:=gI m z k;obtain⟨a,b,e,p,rfl,I,w,T,U⟩:=m;have J:qW prog 117 []=some (.agg aT):=by simp[qW,Xq,WQ,ua,D.notTuple,D.cells]
 have l:∀(x:Lic)(H:Heap),H.at' g.next=some (.row aT)->yW prog 117 (.ptr g.next 0) (.agg [.str x.name,.str x.fam,.int .i64 x.ver,.str x.text]) H=some (H.set g.next (.row [.str x.name,.str x.fam,.int .i64 x.ver,.str x.text])):=λx H h=>ql h jW rfl jS rfl;obtain⟨G,S,A,B,V⟩:∃G,g.new g.next (.row aT)=G/\G.at' g.next=some (.row aT)/\Ext g G/\g.next<G.next:=⟨_,rfl,z5 _ _ _,(Ext.refl g).new (zC _) _,by rw[za];omega⟩
 have o:∀(x:Lic)(b:Bool),(b=true->0<=x.ver/\x.ver<=999)->Q (.tuple [.agg [.str x.name,.str x.fam,.int .i64 x.ver,.str x.text],.bool b]) (G.set g.next (.row [.str x.name,.str x.fam,.int .i64 x.ver,.str x.text])):=λx b w=>E _ _ ⟨B.set (id:=g.next) (zC _) _,by simp[below,qC],x,b,rfl,w⟩;have W:yW prog 117 (.ptr g.next 0) (.agg aT) G=some (G.set g.next (.row aT)):=l ⟨[],[],0,[]⟩ G A;have R:Q (.tuple [.agg aT,.bool false]) (G.set g.next (.row aT)):=o ⟨[],[],0,[]⟩ false (λq=>by cases q);have l:=λx=>l x G A
 obtain⟨X,F,t⟩:∃X,UT (λx:Lic=>x.name==k) c.ls=X/\(decide (X<0)=false->∃j,∃_:j<c.ls.length,X=(j:Int)):=⟨_,rfl,AX⟩;rw[F]at f;refine zj zJ4 ?_;simp only[f139,zA]
 repeat' first|simp only[go_sem, *]|apply bc<;>intro m
 refine(u _).mono ?_;rintro r h' ⟨s,n,rfl,L⟩;subst s;cases v:(n==0)with
 |false=>
  repeat' first|simp only[go_sem,zW, *]|apply bc<;>intro m
 |true=>
  have O:=L (by simpa using v);cases v0:decide (X<0)with
  |true=>
   repeat' first|simp only[go_sem,zW, *]|apply bc<;>intro m|(refine zD.mono (f _) ?_;rintro r h ⟨s,rfl⟩)
  |false=>
   obtain⟨j,y,rfl⟩:=t v0;have C:=pV I y;simp only[Lic.cells]at C;have hf:=o c.ls[j] true (λ_=>O _ (zH y));have N:=l c.ls[j]
   repeat' first|simp only[go_sem,zW, *]|apply bc<;>intro m|(refine zD.mono (f _) ?_;rintro r h ⟨s,rfl⟩)
   have K:∀h,HLe Heap.emp h:=λh i P e=>by cases e
   refine yq Heap.emp (pwt [2,0] ((1,.st,true)::(pwt [3,4,5,6,7,8] []))) kr kr (λi P e=>by cases e) ?_
   repeat' first|simp only[go_sem,zW, *]|apply bc<;>intro m|(refine zD.mono (f _) ?_;rintro r h ⟨s,rfl⟩)
def OwL(G h:Heap)(d:D)(m:Nat):Prop:=∃ps,Own G h 1 (wg ps) d/\ps.length<=m
def Wz(o:uB c d)(hs:c.Sm)(Z:c.ls.length<=40)(k:List UInt8)(g:Heap):zD prog 154 [d,.str k] g λr h'=>h'=g/\∃ (f:List (List UInt8)) (q:D) (n:Int),r=.tuple [q,.int .i64 n]/\yZ 1 (wg f) q/\f.length<=65536:=by
 refine xU kr λad=>xS ?_;refine xP λQ P=> ?_;have L:=Wy o hs k;have E:∀n h,Ext g h->Q (.tuple [.nilsl,.int .i64 n]) h:=λn h u=>P _ _ ⟨u,by simp[qM,qU,below,qC],[],.nilsl,n,by simp[qM,qU],.inl ⟨rfl,rfl⟩,jS⟩;have s:∀(G:Heap) f d n h,Ext g G->Own G h 1 (wg f) d->f.length<=65536->Q (.tuple [d,.int .i64 n]) h:=λG f d n h u m U=>by
  have hf:=m.2.1.fin uj;have S:=qQ (yM g.next) _ hf.1;exact P _ _ ⟨u.trans m.1,by simp[qM,qU,below,qC,S],f,qM d,n,by simp[qM,qU],hf.2.isSl,U⟩
 obtain⟨a,b,e,p,rfl,R,S,he,U⟩:=o;have l1:=rF R;refine zj zJ8 ?_;simp only[f154,zA]
 repeat' first|simp only[go_sem, *]|apply bc<;>intro o
 refine(L _).mono ?_;rintro r h0 ⟨N,x,W,rfl,hv⟩;subst N;obtain⟨G,hG,J,u,B⟩:∃G:Heap,h0.new h0.next (.row [.str x.name,.str x.fam,.int .i64 x.ver,.str x.text])=G/\G.at' h0.next=some (.row [.str x.name,.str x.fam,.int .i64 x.ver,.str x.text])/\Ext h0 G/\h0.next<G.next:=⟨_,rfl,z5 _ _ _,(Ext.refl h0).new (zC _) _,by rw[za];omega⟩;have O:=jo x h0 h0.next;rw[hG]at O;cases W with
 |false=>
  have hn:=E 7 G u
  repeat' first|simp only[go_sem, *]|apply bc<;>intro o
 |true=>
 obtain⟨v0,v1⟩:=hv rfl;have s:=λf d h=>s G f d 0 h u;have F:∀h,Ext G h->h.at' h0.next=some (.row [.str x.name,.str x.fam,.int .i64 x.ver,.str x.text]):=λh u=>by rw[u.2 _ B];exact J
 repeat' first|simp only[go_sem, *]|apply bc<;>intro o
 refine qn (λi fr h=>fr 2=.iptr [a,b,e,p] 0/\fr 6=.ptr h0.next 0/\fr 9=.int .i64 (x.ver+(i:Int))/\OwL G h (fr 8) (i*40)) (1000-x.ver).toNat ?_ ?_
 .simp only[go_sem,zM,zV,zG]
  exact⟨by rw[Int.add_zero],[],Own.start (Ext.refl G) 1,jS⟩
 rintro i fr h T ⟨y,z,A,f,m,v⟩;obtain⟨d,t⟩:∃d,fr 8=d:=⟨_,rfl⟩;rw[t]at m;have H:i<=1000:=ow;by_cases B:i<(1000-x.ver).toNat
 .have K:decide (x.ver+(i:Int)<=999)=true:=zR ow
  have hw:IntKind.i64.wrap (x.ver+(i:Int)+1)=x.ver+((i+1:Nat):Int):=by rw[qP ow ow];omega
  repeat' first|simp only[go_sem, *]|apply bc<;>intro o
  refine zY (λj fr h=>fr 2=.iptr [a,b,e,p] 0/\fr 6=.ptr h0.next 0/\fr 9=.int .i64 (x.ver+(i:Int))/\fr 10=.int .i64 (j:Int)/\OwL G h (fr 8) (i*40+j)) c.ls.length ow ?_ ?_ ?_
  .simp only[go_sem,zM,zV,zG,y,z,A]
   rw[t];exact⟨f,m,ow⟩
  .clear y z A t m v
   rintro j fr h C X ew ⟨y,z,A,w,f,m,v⟩;obtain⟨d,t⟩:∃d,fr 8=d:=⟨_,rfl⟩;rw[t]at m;have hr:=F h m.1;have V:=pV R C;simp only[Lic.cells]at V;have hB:=A3
   repeat' first|simp only[go_sem, *]|apply bc<;>intro o
   refine fI (λl h'=>KO (l 50)/\l 2=.iptr [a,b,e,p] 0/\l 6=.ptr h0.next 0/\l 9=.int .i64 (x.ver+(i:Int))/\l 10=.int .i64 (j:Int)/\l 8=d/\h'=h) ?_ ?_
   .refine yJ kr ?_
    exact au
   rintro l h' ⟨⟨I,Y⟩,y,z,A,w,t,N⟩;subst N;cases I with
   |false=>
    repeat' first|simp only[go_sem, *]|apply bc<;>intro o
    exact⟨f,m,ow⟩
   |true=>
    repeat' first|simp only[go_sem,gb, *]|apply bc<;>intro o
    refine m.str ow λd' h' M=> ?_
    repeat' first|simp only[go_sem, *]|apply bc<;>intro o
    exact⟨_,M,jO⟩
  .rintro fr h X ⟨y,z,A,w,f,m,v⟩
   obtain⟨d,t⟩:∃d,fr 8=d:=⟨_,rfl⟩;rw[t]at m
   repeat' first|simp only[go_sem, *]|apply bc<;>intro o
   exact⟨f,m,ow⟩
 .have K:decide (x.ver+(i:Int)<=999)=false:=zN ow
  have hf:=s f d h m ow;exact au
noncomputable def zBD(a b:Int):Int:=match KR (.int .i64 a) (.int .i64 b)with
 |some (.int _ c)=>c
 |_=>0
def Fm(a b:Int):KR (.int .i64 a) (.int .i64 b)=some (.int .i64 (zBD a b)):=by
 unfold zBD;simp only[KR,qF]
def zHX(a b:Int):∃c,Fk (.int .i64 a) (.int .i64 b)=some (.int .i64 c):=by
 simp only[Fk,qF];exact⟨_,rfl⟩
def zLu(a b:Int):∃c,KR (.int .i64 a) (.int .i64 b)=some (.int .i64 c):=by
 simp only[KR,qF];exact⟨_,rfl⟩
def RI{F:D}(f:uB c F)(V:c.Sm)(t:c.ls.length<=40):∀(n:Nat){e:Ex},e.size<=n->e.Ok->e.size<=1048576->∀g:Heap,zD prog 96 [F,.agg e.cells] g λr h'=>h'=g/\∃a b,r=.tuple [.int .i64 a,.int .i64 b]:=by
 intro n
 induction n with
 |zero=>intro e h;cases e;simp only[Ex.size]at h;omega
 |succ n W=>
 intro e T p E g;refine xP λQ P=> ?_;have H:∀a b,Q (.tuple [.int .i64 a,.int .i64 b]) g:=λa b=>P _ _ ⟨rfl,a,b,rfl⟩;have y:=Wz f V t;obtain⟨ca,cb,ce,cp,rfl,_,_,_,_⟩:=f;obtain⟨k,X,x,l,d⟩:=e;simp only[Ex.size,Ex.Ok]at T p E;obtain⟨G,hl,_,_,v⟩:=p;have I:=pZ G;refine zj zOt ?_;simp only[f96,zA];simp only[Ex.cells,Ex.kind,Ex.name,Ex.exc,Ex.d];cases k0:(k==0)with
 |true=>
  repeat' first|simp only[go_sem, *]|apply bc<;>intro f
 |false=>
 cases k1:(k==1)with
 |true=>
  repeat' first|simp only[go_sem, *]|apply bc<;>intro f
  refine(y _ _).mono ?_;rintro r h ⟨j,Y,q,m,rfl,C,_⟩;subst j;have R:=wO C;obtain⟨mx,S⟩:=zHX 1 (Y.length:Int)
  repeat' first|simp only[go_sem, *]|apply bc<;>intro f
 |false=>
 repeat' first|simp only[go_sem, *]|apply bc<;>intro f
 refine zY (λi fr h=>fr 2=.iptr [ca,cb,ce,cp] 0/\fr 3=.iptr [.int .i64 k,.str X,.str x,d] 0/\fr 10=.int .i64 (i:Int)/\h=g/\IsI (fr 8)/\IsI (fr 9)) l.length ow ?_ ?_ ?_
 .simp only[go_sem,zM,zV,zG,isI]
 .rintro i fr h o K Z ⟨L,M,s,j,⟨u,N⟩,⟨w,O⟩⟩
  subst j;have J:=l9 G o;have A:l[i]∈l:=zH o;have j:=W (e:=l[i]) (by have:=wu A;omega) (pa v _ A) (by have:=wu A;omega);have hI:=isI;simp only[Ex.cells]at J j;have B:∀z:Int,KR (.int .i64 z) (.int .i64 64)=some (.int .i64 (zBD z 64)):=λz=>Fm z 64
  repeat' first|simp only[go_sem, *]|apply bc<;>intro f
  refine yJ kr ?_
  repeat' first|simp only[go_sem, *]|apply bc<;>intro f|(refine zD.mono (j _) ?_;rintro r h ⟨U,a,b,rfl⟩)
 .rintro fr h K ⟨L,M,s,j,⟨u,N⟩,⟨w,O⟩⟩
  subst j;obtain⟨mn,B⟩:=zLu w 1000000;exact au
def PD{n:D}(i:uB c n)(s:c.Sm)(f:c.ls.length<=40)(j:e.Ok)(m:e.size<=1048576)(g:Heap):zD prog 46 [n,.agg e.cells] g λr h'=>h'=g/\∃a,r=.int .i64 a:=by
 refine xP λQ q=> ?_;have o:∀a,Q (.int .i64 a) g:=λa=>q _ _ ⟨rfl,a,rfl⟩;have p:=RI i s f e.size (zC _) j m;obtain⟨ca,cb,ce,cp,rfl,_,_,_,_⟩:=i;obtain⟨k,u,x,l,d⟩:=e;refine zj zOc ?_;simp only[f46,zA];simp only[Ex.cells]at p⊢
 repeat' first|simp only[go_sem, *]|apply bc<;>intro i|(refine zD.mono (p _) ?_;rintro r h ⟨t,a,b,rfl⟩)
def Ka(c:Cat):Bool:=decide ((c.ls.length:Int)>40)||decide ((c.es.length:Int)>40)||(decide ((c.cs.length:Int)>40)&&decide ((c.cs.length:Int)<=128))||decide ((c.cs.length:Int)>140)||decide ((c.ps.length:Int)>80)
theorem K3(t:uB c d)(A:c.Sm)(g:Heap):zD prog 44 [d] g λr h'=>h'=g/\∃b,r=.bool b/\(b=true->c.ls.length<=40):=by
 refine xP λQ K=> ?_;have hf:Q (.bool false) g:=K _ _ ⟨rfl,_,rfl,λq=>by cases q⟩;have u:Ka c=false->∀b,Q (.bool b) g:=λB b=>K _ _ ⟨rfl,b,rfl,λ_=>by
  unfold Ka at B;simp only[rv,wY]at B;omega⟩
 have D:=A.cs.2;have E:=A.es.2;obtain⟨a,b,e,p,rfl,L,G,H,J⟩:=t;have l1:=rF L;have S:=fe G;have T:=jM H;have U:=bW J;have s1:=A.ls.1;have s2:=A.es.1;have s3:=A.cs.1;have s4:=A.ps;refine zj zOa ?_;simp only[f44,zA];simp only[Ta];refine fI (λv h'=>v 1=.iptr [a,b,e,p] 0/\h'=g) ?_ ?_
 .exact au
 rintro fr h ⟨m,f⟩;subst f;simp only[Ta];refine fI (λv h'=>v 42=.bool (Ka c)/\v 1=.iptr [a,b,e,p] 0/\h'=h) ?_ ?_
 .clear hf u D E
  unfold Ka;exact au
 rintro fr h ⟨C,m,f⟩;subst f;cases B:Ka c with
 |true=>
  rw[B]at C
  repeat' first|simp only[go_sem, *]|apply bc<;>intro t
 |false=>
 rw[B]at C;have u:=u B;have R:∀(s:List UInt8) h,o9 prog 9 (.str s) h=some (.int .i64 s.length):=λs h=>tm underlying9;have Z:=isI
 repeat' first|simp only[go_sem, *]|apply bc<;>intro t
 refine zY (λi fr h'=>fr 1=.iptr [a,b,e,p] 0/\fr 4=.int .i64 (i:Int)/\IsI (fr 3)/\h'=h) c.ls.length ow ?_ ?_ ?_
 .simp only[go_sem,zM,zV,zG,isI,m]
 .rintro i fr h l z F ⟨m,w,⟨n,o⟩,f⟩
  subst f;have y:=pV L l;simp only[Lic.cells]at y
  repeat' first|simp only[go_sem, *]|apply bc<;>intro t
  refine yJ kr ?_;exact au
 rintro fr h z ⟨m,w,⟨n,o⟩,f⟩;subst f
 repeat' first|simp only[go_sem, *]|apply bc<;>intro t
 have S:=fe G;refine zY (λi fr h'=>fr 1=.iptr [a,b,e,p] 0/\fr 5=.int .i64 (i:Int)/\IsI (fr 3)/\h'=h) c.es.length ow ?_ ?_ ?_
 .simp only[go_sem,zM,zV,zG,isI,m,o]
 .rintro i fr h l z F ⟨m,w,⟨n,o⟩,f⟩
  subst f;have y:=cE G l;have o1:=t8 (E _ (zH l)).1;generalize c.es[i]=x at *
  simp only[Exc.cells]at y
  repeat' first|simp only[go_sem, *]|apply bc<;>intro t
  refine yJ kr ?_;exact au
 rintro fr h z ⟨m,w,⟨n,o⟩,f⟩;subst f
 repeat' first|simp only[go_sem, *]|apply bc<;>intro t
 have T:=jM H;refine zY (λi fr h'=>fr 1=.iptr [a,b,e,p] 0/\fr 6=.int .i64 (i:Int)/\IsI (fr 3)/\h'=h) c.cs.length ow ?_ ?_ ?_
 .simp only[go_sem,zM,zV,zG,isI,m,o]
 .rintro i fr h l z F ⟨m,w,⟨n,o⟩,f⟩
  subst f;have y:=gF H l;obtain⟨M,o2⟩:=D _ (zH l);have o1:=wO M;have V:=λj (P:j<c.cs[i].list.length)=>sP M P;generalize c.cs[i]=x at *
  simp only[Cla.cells]at y
  repeat' first|simp only[go_sem, *]|apply bc<;>intro t
  refine yJ kr ?_
  repeat' first|simp only[go_sem, *]|apply bc<;>intro t
  refine qn (λk fr h'=>fr 1=.iptr [a,b,e,p] 0/\fr 6=.int .i64 (i:Int)/\fr 7=.int .i64 (k:Int)/\IsI (fr 3)/\h'=h) x.list.length ?_ ?_
  .simp only[go_sem,zM,zV,zG,isI,m,w,o]
  .rintro k fr h hk ⟨m,X,Y,⟨n,o⟩,f⟩
   subst f;by_cases I:k<x.list.length
   .have N:decide ((k:Int)<(x.list.length:Int))=true:=zR ow
    have O:IntKind.i64.wrap ((k:Int)+1)=((k+1:Nat):Int):=qH jL;have W:=V k I;exact au
   .have N:decide ((k:Int)<(x.list.length:Int))=false:=zN ow
    exact au
 rintro fr h z ⟨m,w,⟨n,o⟩,f⟩;subst f
 repeat' first|simp only[go_sem, *]|apply bc<;>intro t
 have U:=bW J;refine zY (λi fr h'=>fr 1=.iptr [a,b,e,p] 0/\fr 8=.int .i64 (i:Int)/\IsI (fr 3)/\h'=h) c.ps.length ow ?_ ?_ ?_
 .simp only[go_sem,zM,zV,zG,isI,m,o]
 .rintro i fr h l z F ⟨m,w,⟨n,o⟩,f⟩
  subst f;have y:=aZ J l;simp only[Apt.cells]at y
  repeat' first|simp only[go_sem, *]|apply bc<;>intro t
  refine yJ kr ?_;exact au
 rintro fr h z ⟨m,w,⟨n,o⟩,f⟩;subst f;exact au
structure Fac.Ok0(f:Fac):Prop where
 e:f.e.Ok
 list:yZ 1 (wg f.list) f.d
 ll:f.list.length<=1048576
 comp:f.comp.length<=1048576
 out:f.out.length<=1048576
def Fac.Ok0.ok{f:Fac}(h:f.Ok0)(a:f.e.size<=120):f.Ok:=⟨h.e,ow,h.list,h.ll,h.comp,h.out⟩
def Hp(fs:List Fac):Prop:=((fs.length<=24\/256<fs.length)/\fs.length<=260)/\∀f∈fs,f.e.size<=120
def Fx(fs:List Fac):Prop:=((fs.length<=16\/256<fs.length)/\fs.length<=260)/\∀f∈fs,f.e.size<=120
def Fx.few(h:Fx fs):Hp fs:=⟨⟨h.1.1.imp_left ow,h.1.2⟩,h.2⟩
def zBP(n:Nat):Bool:=(decide ((n:Int)>16)&&decide ((n:Int)<=256))||decide ((n:Int)>260)
theorem K5(l:uB c d)(hs:c.Sm)(M:yZ 12 (sL fs) x)(hl:fs.length<=1048576)(Y:∀f∈fs,f.Ok0)(g:Heap):zD prog 17 [d,x] g λr h'=>h'=g/\∃b,r=.bool b/\(b=true->Fx fs/\c.ls.length<=40):=by
 refine xP λQ hQ=> ?_;have hf:Q (.bool false) g:=hQ _ _ ⟨rfl,_,rfl,λq=>by cases q⟩;obtain⟨V,N,Z,Vf⟩:∃V:Nat->Prop,V 0/\(∀i (hi:i<fs.length),V i->(fs[i]).e.size<=120->V (i+1))/\(V fs.length->∀f∈fs,f.e.size<=120):=by
  refine⟨λi=>∀j (y:j<fs.length),j<i->(fs[j]).e.size<=120,λj y h0=>by omega,λi hi A hn j y W=> ?_,λA x M=> ?_⟩
  .rcases zp.1 W with h|rfl
   .exact A j y h
   .exact hn
  .obtain⟨j,y,rfl⟩:=zz.1 M
   exact A j y y
 have a:c.ls.length<=40->zBP fs.length=false->V fs.length->∀b,Q (.bool b) g:=λh4 A H b=>hQ _ _ ⟨rfl,b,rfl,λ_=>by
  unfold zBP at A;simp only[rv,jz,wY]at A;exact⟨⟨ow,Vf H⟩,h4⟩⟩
 have a3:=nu M;have T:=K3 l hs;have u:=λt=>λ{e:Ex} S v=>PD (e:=e) l hs t S v;obtain⟨ca,cb,ce,cp,rfl,_,_,_,_⟩:=l;have aj:=ja;obtain⟨F,ai,p,G⟩:∃F:D->Prop,F (.bool true)/\(c.ls.length<=40->F (.bool (zBP fs.length)))/\(∀z,F z->∃b,z=.bool b/\(b=false->c.ls.length<=40/\zBP fs.length=false)):=⟨λz=>∃b,z=.bool b/\(b=false->c.ls.length<=40/\zBP fs.length=false),⟨true,rfl,λq=>by cases q⟩,λq=>⟨_,rfl,λw=>⟨q,w⟩⟩,λz v=>v⟩;refine zj zOQ ?_;simp only[f17,zA];simp only[Ta];refine fI (λm h'=>m 1=x/\m 2=.iptr [ca,cb,ce,cp] 0/\h'=g) ?_ ?_
 .exact au
 rintro fr h ⟨C,E,o⟩;subst o;simp only[Ta];refine fI (λm h'=>F (m 26)/\m 1=x/\m 2=.iptr [ca,cb,ce,cp] 0/\h'=h) ?_ ?_
 .clear hf a u N Z G
  repeat' first|simp only[go_sem, *]|apply bc<;>intro l
  refine(T _).mono ?_;rintro r h ⟨o,b,rfl,I⟩;subst o;cases b with
  |false=>
   repeat' first|simp only[go_sem, *]|apply bc<;>intro l
  |true=>
   have p:=p (I rfl);unfold zBP at p;cases w1:decide ((fs.length:Int)>16)<;>cases w2:decide ((fs.length:Int)<=256)<;>cases w3:decide ((fs.length:Int)>260)
   all_goals
    rw[w1,w2,w3]at p;simp only[rh,pD,nC,nk,wU,lC,uw,pd,wi,uT]at p;exact au
 rintro fr h ⟨U,C,E,o⟩;subst o;obtain⟨b,ag,I⟩:=G _ U;cases b with
 |true=>
  repeat' first|simp only[go_sem, *]|apply bc<;>intro l
 |false=>
 obtain⟨t,A⟩:=I rfl;have u:=λ{e:Ex} S v=>u t (e:=e) S v;have a:=a t A;have hI:=isI;have a0:∀(s:List UInt8) h,o9 prog 9 (.str s) h=some (.int .i64 s.length):=λs h=>tm underlying9
 repeat' first|simp only[go_sem, *]|apply bc<;>intro l
 refine zY (λi fr h'=>fr 1=x/\fr 2=.iptr [ca,cb,ce,cp] 0/\fr 6=.int .i64 (i:Int)/\IsI (fr 5)/\h'=h/\V i) fs.length ow ?_ ?_ ?_
 .simp only[go_sem,zM,zV,zG,isI,N,C,E]
 .clear a N
  rintro i fr h B ec ew ⟨C,E,P,⟨n5,O⟩,o,H⟩;subst o;have a1:=tR M B;have K:=Y _ (zH B);have R:=Z i B H;generalize fs[i]=f at *
  have oi:=λj (y:j<f.list.length)=>sP K.list y;have o1:=wO K.list;have ol:=K.ll;have J:=K4 K.e;have L:=λv=>u K.e v;simp only[Fac.cells]at a1;simp only[Ex.cells]at J L
  repeat' first|simp only[go_sem, *]|apply bc<;>intro l
  refine yJ kr ?_
  repeat' first|simp only[go_sem, *]|apply bc<;>intro l
  refine qn (λk fr h'=>fr 1=x/\fr 2=.iptr [ca,cb,ce,cp] 0/\fr 6=.int .i64 (i:Int)/\fr 8=.int .i64 (k:Int)/\IsI (fr 5)/\IsI (fr 7)/\h'=h) f.list.length ?_ ?_
  .simp only[go_sem,zM,zV,zG,isI,C,E,P,O]
  rintro k fr h hk ⟨C,E,P,f8,⟨n5,O⟩,⟨n,f7⟩,o⟩;subst o;cases v4:decide (n>400)with
  |true=>
   have v5:decide (n<=400)=false:=zN (by have:=yE v4;omega);cases ek:decide ((k:Int)<(f.list.length:Int))
   .exact au
   .repeat' first|simp only[go_sem, *]|apply bc<;>intro l
  |false=>
  have v5:decide (n<=400)=true:=zR (by have:=yA v4;omega);by_cases X:k<f.list.length
  .have ek:decide ((k:Int)<(f.list.length:Int))=true:=zR ow
   have ad:IntKind.i64.wrap ((k:Int)+1)=((k+1:Nat):Int):=qH jL;have a2:=oi k X;exact au
  .have ek:decide ((k:Int)<(f.list.length:Int))=false:=zN ow
   repeat' first|simp only[go_sem, *]|apply bc<;>intro l
   refine(J _).mono ?_;rintro r h' ⟨o,b,rfl,I⟩;subst o;cases b with
   |false=>
    repeat' first|simp only[go_sem, *]|apply bc<;>intro l
   |true=>
    have v:=I rfl;have ak:=R v;have hw:=L ow
    repeat' first|simp only[go_sem, *]|apply bc<;>intro l
    refine yq Heap.emp (pwf [1,0,2,3,4,5,6,7,8,9] []) kr kr (λi ob e=>by cases e) ?_
    repeat' first|simp only[go_sem, *]|apply bc<;>intro l|(refine zD.mono (hw _) ?_;rintro r h ⟨a4,w,rfl⟩)
 .rintro fr h ec ⟨C,E,P,⟨n5,O⟩,o,H⟩
  subst o;have a:=a H;exact au
end Go.V
