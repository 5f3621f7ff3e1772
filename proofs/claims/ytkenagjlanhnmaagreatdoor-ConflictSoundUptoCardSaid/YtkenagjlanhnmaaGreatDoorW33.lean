/- Rules of the machine of abstract values, part 9. No condition. -/
import Derived.Test.YtkenagjlanhnmaaGreatDoorW32
set_option linter.all false
set_option maxHeartbeats 8000000
namespace Go.V
open Go.Shelf Go.Proofs Go.Sort
open Go.RowKit (Below)
variable{P:Program}{f:FuncId}{args cap:List D}{d:D}{M:Imm}{ρ:Ren}{w:World}{n k i:Nat}{va:Array Value}{α β:Type}{vs:List Value}{g:Heap}
def zD.stays{x:Value}(A:∀H,zD P f args H λr _=>r=d)(t:∀M ρ v,rel M ρ d v->v=x)
  (h:∀b o v,M b o=some v->w.cell? ⟨b,o,none⟩ =some v) (u:KT P w) (k:l7 ρ n) (hr:wG M ρ args va.toList):
  Calls P f va w λe a=>e=.returned x/\∃q C,a=Go.Sort.grow (w.drewN q) C:=by
 let B:Base:=⟨w,M,λb=>b<w.heap.size,λ_ g=>g⟩
 have z:Sim B [] M ρ ⟨n,λ_=>none⟩ w:=
  { below:=⟨rfl,rfl,rfl,zC _,λ_ _=>rfl,zC _⟩,imm:=h,live:=λi J e=>(by cases e),apart:=λi j K L G I e=>(by cases e),gdef:=λb g=>(by cases g),old:=λb o v _ e=>e }
 refine((A ⟨n,λ_=>none⟩).2 B [] M ρ w va (Tg.start u) z k hr).mono λe a y=> ?_;obtain⟨v,M',N,D,h',rfl,_,_,k3,_,k5,rfl⟩:=y;refine⟨by rw[t _ _ _ k5],a.drawn-w.drawn,a.heap.extract w.heap.size a.heap.size,?_⟩;have c:=k3.below;have e1:a.os=w.os:=c.os;have e2:a.tape=w.tape:=c.tape;have e3:a.output=w.output:=c.output;have p:w.drawn<=a.drawn:=c.drawn;have E:w.heap.size<=a.heap.size:=c.size;have s:∀b,b<w.heap.size->a.heap[b]? =w.heap[b]? :=λb g=>c.block b g;have l:a.heap=w.heap++a.heap.extract w.heap.size a.heap.size:=by
  apply Array.ext_getElem?;intro i;rw[Array.getElem?_append];split
  .rename_i m;rw[s i m]
  .rename_i m
   rw[Array.getElem?_extract];split
   .congr 1;omega
   .rename_i F;rw[sv ow]
 cases a;cases w;simp only at e1 e2 e3 p l;subst e1 e2 e3;simp only[Go.Sort.grow,World.drewN,World.mk.injEq,zM,zV];exact⟨l,ow⟩
def QH [Inhabited α](enc:α->Value)(off:Nat)(d:Array α)(c:Array Value):putCells enc off d c=putCells id off (d.map enc) c:=by
 unfold putCells;congr 1
 funext k x
 simp only[Array.size_map,id];split
 .rename_i h
  rw[wr d _ ow,wr (d.map enc) _ jO,Array.getElem_map]
 .rfl
def ZF [Inhabited α](enc:α->Value)(w:World)(a off:Nat)(d:Array α):putRow enc w a off d=putRow id w a off (d.map enc):=by
 unfold putRow;congr 1
 funext c
 exact QH enc off d c
theorem C0:∀{xs:List (List Value)}(_:∀x∈xs,x.length=k){i j:Nat}(_:j<k){x:List Value}(_:xs[i]? =some x),xs.flatten[i*k+j]? =x[j]?
 | [],_,i,j,_,x,h=>by simp at h
 |y::xs,a,0,j,b,x,h=>by
  simp only[wW,wX]at h;subst h;rw[sK,yH,yT,yj (by rw[a y jS];exact b)]
 |y::xs,a,i+1,j,b,x,h=>by
  simp only[uz]at h;have d:=a y jS;rw[yT,qh,yf ow,show i*k+k+j-y.length=i*k+j by omega];exact C0 (λz c=>a z (by simp[c])) b h
theorem W9:∀{xs:List (List Value)}(_:∀x∈xs,x.length=k),xs.flatten.length=xs.length*k
 | [],_=>by simp
 |y::xs,a=>by rw[yT,zQ,a y jS,W9 λz b=>a z (by simp[b]),zx,qh];omega
def LV [Inhabited α]{enc:α->List Value}(b:∀x,(enc x).length=k)(h1:0<k)(d:Array α):flatK enc k d=(d.toList.map enc).flatten.toArray:=by
 apply Array.ext_getElem?;intro i;have c:∀x∈d.toList.map enc,x.length=k:=λx l=>by
  obtain⟨y,_,rfl⟩:=zS.1 l;exact b y
 have f:(d.toList.map enc).flatten.length=d.size*k:=by rw[W9 c,zI,yI]
 by_cases a:i<d.size*k
 .have j:i/k<d.size:=by rw[nH h1];exact a
  have h:i%k<k:=aV _ h1;have e:(d.toList.map enc)[i/k]? =some (enc d[i/k]!):=by
   rw[zm,wr d _ j,qA,to j];rfl
  have:=C0 c h e;rw[gB,Nat.div_add_mod]at this;have g:=get_flatK enc k d i a;rw[wr (flatK enc k d) i (by simpa using a)]at g;rw[to (by simpa using a),g,uX,this,wr (enc d[i/k]!) (i%k) (by rw[b];exact h),zB]
 .rw[sv (by simpa using a),uX,nD ow]
def PermIn.list [Inhabited α]{d a:Array α}(h:PermIn 0 d.size d a):a.toList.Perm d.toList:=by
 obtain⟨h1,_,h3⟩:=h;have e1:a.extract 0 d.size=a:=by rw[<-h1];simp
 have e2:d.extract 0 d.size=d:=jS
 rwa [e1,e2]at h3
def YD [Inhabited α](enc:α->List Value)(k:Nat)(w:World)(a off m:Nat)(c:Array α)(d:Array Go.Obj):∀b,b≠a->b<w.heap.size->(sortWorldK enc k w a off m c d).heap[b]? =w.heap[b]? :=λb f g=>by
 show((putRow id (Go.Sort.ahead w m) a off (flatK enc k c)).heap++d)[b]? =_;have h:(putRow id (Go.Sort.ahead w m) a off (flatK enc k c)).heap.size=w.heap.size:=by simp[putRow,mapBlock,Go.Sort.ahead]
 rw[tP ow];show((Go.Sort.ahead w m).heap.modify a _)[b]? =_;rw[rK,iq (λe=>f e.symm)];rfl
section
variable{P:Program}{f cmp:FuncId}{β:Type}{k:Nat}{cells:β->List D}{xs:List β}{id:Nat}{pre post:List D}{h:Heap}{cf:β->β->Int}
abbrev KP(cells:β->List D)(xs:List β)(M:Imm)(ρ:Ren):= {p:β×List Value // p.1∈xs/\wG M ρ (cells p.1) p.2/\(cells p.1).all D.flat=true}
abbrev zBH:= {p:D×Value // p.1.flat=true}
instance:Inhabited zBH:=⟨⟨(.bool true,.bool true),rfl⟩⟩
def dY{M:Imm}{ρ:Ren}(p:KP cells xs M ρ):List zBH:=((cells p.1.1).zip p.1.2).attach.map λq=>⟨q.1,by
 have h1:=(List.of_mem_zip q.2).1;exact zT.1 p.2.2.2 _ h1⟩
def VO(p:KP cells xs M ρ):(dY p).map (λq=>q.1.1)=cells p.1.1:=by
 have a:=yw p.2.2.1;unfold dY;rw[wB];show List.map (λq: {q // q∈(cells p.1.1).zip p.1.2} =>q.1.1) _=_;rw[show(λq: {q // q∈(cells p.1.1).zip p.1.2} =>q.1.1)=Prod.fst ∘ Subtype.val from rfl,<-wB,mJ,List.map_fst_zip ow]
def VP(p:KP cells xs M ρ):(dY p).map (λq=>q.1.2)=p.1.2:=by
 have a:=yw p.2.2.1;unfold dY;rw[wB];show List.map (λq: {q // q∈(cells p.1.1).zip p.1.2} =>q.1.2) _=_;rw[show(λq: {q // q∈(cells p.1.1).zip p.1.2} =>q.1.2)=Prod.snd ∘ Subtype.val from rfl,<-wB,mJ,List.map_snd_zip ow]
def Lk(p:KP cells xs M ρ):∀q∈dY p,rel M ρ q.1.1 q.1.2:=λq d=>by
 obtain⟨i,c⟩:=yh.1 d;have a:=congrArg (λl=>l[i]?) (VO p);have b:=congrArg (λl=>l[i]?) (VP p);simp only[zm,c,qZ]at a b;obtain⟨v,e1,e2⟩:=th p.2.2.1 i _ a.symm;rw[<-b]at e1;cases e1;exact e2
theorem Vd:∀{e c:List D}{vs:List Value},wG M ρ (e++c) vs->∃b d,vs=b++d/\wG M ρ e b/\wG M ρ c d
 | [],c,vs,h=>⟨[],vs,rfl,by simp only[wG],h⟩
 |a::e,c,vs,h=>by
  simp only[yG,wG]at h;obtain⟨v,i,rfl,h1,f⟩:=h;obtain⟨b,d,rfl,h3,g⟩:=Vd f;exact⟨v::b,d,rfl,by simp only[wG];exact⟨v,b,rfl,h1,h3⟩,g⟩
theorem zD.of_sortK{mid:List D}{midV:List Value}(bs:∀M ρ vs,wG M ρ mid vs->vs=midV)(h0:xs≠[])(aj:0<k)(hk:∀x∈xs,(cells x).length=k)(he:rP P f=true)(b6:∀args w,(callFunc cmp args).run P w=.ok (.enter cmp args) w)
  (Y:h.at' id=some (.row (pre++(xs.map cells).flatten++post))) (hO:SWO (ltOf cf)) (bk:xs.length<4611686018427387904)
  (a6:∀x∈xs,∀y∈xs,∀H,zD P cmp [.agg (cells x),.agg (cells y)] H λr H'=>H'=H/\r=.int .i64 (cf x y))
  (bo:∀(α:Type)[Inhabited α](enc:α->List Value),(∀x,(enc x).length=k)->(∀x,∀v∈enc x,v.oneCell'=true)->∀(cf:α->α->Int),SWO (ltOf cf)->∀(g:Nat)(cb:Array Value)(F off cap:Nat)(d:Array α)(w:World),
   (∀args w,(callFunc g args).run P w=.ok (.enter g args) w)->CmpLays P g cb enc k cf F off d.size w->HoldsK enc k w F off d->F<w.heap.size->d.size<4611686018427387904->
   d.size=xs.length->Calls P f (.slice (some ⟨F,off,none⟩) d.size cap::(midV++ [.func (.func g) #[] cb])).toArray w λe w'=>e=.returned (.tuple #[])/\∃A n os,PermIn 0 d.size d A/\SortedIn (ltOf cf) 0 d.size A/\w'=sortWorldK enc k w F off n A os):
  zD P f (.rs id k pre.length xs.length::(mid++ [.fn (.func cmp) [] []])) h λr h'=>r=.tuple []/\∃ys:List β,ys.Perm xs/\ys.Pairwise (λa b=>¬cf b a<0)/\h'=h.set id (.row (pre++(ys.map cells).flatten++post)):=by
 refine⟨he,λw0 G M ρ w va T Z bb hr=> ?_⟩;simp only[wG]at hr;obtain⟨v,c7,cl,hv,cp⟩:=hr;obtain⟨vm,vf,rfl,a1,b4⟩:=Vd cp;have a1:=bs _ _ _ a1;subst a1;simp only[wG]at b4;obtain⟨v2,c8,rfl,b2,rfl⟩:=b4;simp only[rel,wG]at hv b2;obtain⟨_,cx,l,cap,o,hl,rfl,⟨c0,c1⟩,c6,ho⟩:=hv;obtain⟨_,fa,fc,rfl,b8,b9⟩:=b2;have a8:fa= #[]:=tU (by simpa using b8);have a9:fc= #[]:=tU (by simpa using b9);subst a8 a9;have cs:0<xs.length:=zy.2 h0;have ho:o=pre.length:=by
  rcases ho with hz|ho
  .omega
  .exact ho
 subst ho;have b3:va=(.slice (some ⟨l.blk,pre.length,none⟩) xs.length cap::(vm++ [.func (.func cmp) #[] #[]])).toArray:=tU (by simpa using cl);subst b3;obtain⟨l',h1,O,hM,c,e,hw,c5,a5,B⟩:=Z.live id _ Y;rw[hl]at h1;cases h1;have a4:l.blk<w.heap.size:=(yF.1 hw).1;have hL:∀x∈xs.map cells,x.length=k:=λx hx=>by
  obtain⟨y,hy,rfl⟩:=zS.1 hx;exact hk y hy
 have ba:(xs.map cells).flatten.length=xs.length*k:=by rw[uP hL,zI]
 have S:∀i (E:i<xs.length),((c.toList.drop (pre.length+i*k)).take k).length=k/\wG M ρ (cells xs[i]) ((c.toList.drop (pre.length+i*k)).take k)/\(cells xs[i]).all D.flat=true:=λi E=>by
  have c4:i*k+k<=xs.length*k:=by rw[<-qh];exact yg k E
  have cv:pre.length+xs.length*k+post.length<=c.size:=by have q:=a5;rwa [zQ,zQ,ba]at q
  have au:=XJ hL (i:=i) (x:=cells xs[i]) (by rw[zm,zB E];rfl);have cg:=hk xs[i] (zH E);have a3:∀j d,(cells xs[i])[j]? =some d->(pre++(xs.map cells).flatten++post)[pre.length+(i*k+j)]? =some d:=λj d N=>by
   have ai:j<k:=by have:=(zK.1 N).1;omega
   rw[qV,yf ow,u0,yj ow];rw[<-au,zu,ip ai,yy]at N;exact N
  have Q:((c.toList.drop (pre.length+i*k)).take k).length=k:=by
   rw[yB,qJ,yI];omega
  refine⟨Q,wF (by rw[Q,cg]) λj d v C hv=> ?_,zT.2 λd C=> ?_⟩
  .have ai:j<k:=by have:=(zK.1 C).1;omega
   obtain⟨_,u,e1,e2⟩:=B _ _ (a3 j d C);rw[zu,ip ai,yy,qA,qf,e1]at hv;cases hv;exact e2
  .obtain⟨j,N⟩:=yh.1 C
   exact(B _ _ (a3 j d N)).1
 let mk:_root_.Fin xs.length->KP cells xs M ρ:=λi=>⟨(xs[i.1],(c.toList.drop (pre.length+i.1*k)).take k),zH i.2,(S i.1 i.2).2.1,(S i.1 i.2).2.2⟩
 letI:Inhabited (KP cells xs M ρ):=⟨mk ⟨0,cs⟩⟩
 let enc:KP cells xs M ρ->List Value:=λp=>p.1.2
 have J:∀p,(enc p).length=k:=λp=>by rw[show(enc p).length=(cells p.1.1).length from yw p.2.2.1];exact hk _ p.2.1
 have ad:∀p,∀v∈enc p,v.oneCell'=true:=λp=>sR p.2.2.1 p.2.2.2
 let d:Array (KP cells xs M ρ):=Array.ofFn mk
 have C:d.size=xs.length:=by simp[d]
 have b7:∀i (E:i<xs.length),d[i]! =mk ⟨i,E⟩:=λi E=>by rw[wr d i (by rw[C];exact E)];simp[d]
 have a7:d.toList.map (λp=>p.1.1)=xs:=by
  apply oN;intro i;rw[zm,qA];by_cases E:i<xs.length
  .rw[to (by rw[C];exact E),zB E,qZ]
   simp[d,mk]
  .rw[sv ow,nD ow];rfl
 have s:∀(V:Array (KP cells xs M ρ)),(V.toList.map dY).flatten.map (λq=>q.1.1)=((V.toList.map λp=>p.1.1).map cells).flatten/\(V.toList.map dY).flatten.map (λq=>q.1.2)=(V.toList.map enc).flatten:=λV=>by
  constructor
  .rw[List.map_flatten,wB,wB]
   congr 1;exact wR λp _=>VO p
  .rw[List.map_flatten,wB]
   congr 1;exact wR λp _=>VP p
 have b5:SWO (ltOf λp q:KP cells xs M ρ=>cf p.1.1 q.1.1):=⟨λx=>hO.irrefl _,λx y z=>hO.trans _ _ _,λx y z=>hO.ntrans _ _ _⟩;have cw:pre.length+xs.length*k+post.length<=c.size:=by have q:=a5;rwa [zQ,zQ,ba]at q
 have U:HoldsK enc k w l.blk pre.length d:=by
  intro j N;rw[size_flatK,C]at N;refine⟨?_,by simp[World.frozen?,hw]⟩;rw[get_flatK enc k d j (by rw[C];exact N)];have X:j/k<xs.length:=by rw[nH aj];exact N
  have hm:j%k<k:=aV _ aj;rw[b7 _ X];have cm:=(S (j/k) X).1;show _=some (_root_.id ((((c.toList.drop (pre.length+j/k*k)).take k))[j%k]!));have e5:j/k*k+j%k=j:=by rw[gB];exact Nat.div_add_mod j k
  have e6:((c.toList.drop (pre.length+j/k*k)).take k)[j%k]? =c[pre.length+j]? :=by
   rw[zu,ip hm,yy,qf,e5,qA]
  have h9:j%k<((c.toList.drop (pre.length+j/k*k)).take k).length:=by rw[cm];exact hm
  have e8:c[pre.length+j]? =some (((c.toList.drop (pre.length+j/k*k)).take k)[j%k]'h9):=by rw[<-e6];exact zB h9
  rw[wr (((c.toList.drop (pre.length+j/k*k)).take k)) (j%k) h9];simp only[World.cell?,hw,tZ,zg,yp,_root_.id];exact e8
 have ak:CmpLays P cmp #[] enc k (λp q=>cf p.1.1 q.1.1) l.blk pre.length d.size w:=by
  intro m os V c3 x y;have K:=YD enc k w l.blk pre.length m V os;have ag:KT P (sortWorldK enc k w l.blk pre.length m V os):=⟨λg hg=>by
   have h2:=T.here Z.below hg;unfold Lib.TabIs World.var? at h2⊢;rw[hg]at h2⊢;simp only[sY]at h2⊢;have L:=(T.1 g hg).1;rw[K g (λq=>O (q▸L)) (zl (w0.kept g L) Z.below.size)];exact h2,λg hg=>by
   obtain⟨m,hm⟩:=T.max Z.below hg;have L:=(T.2 g hg).1;exact⟨m,(wa (w:=w) (K g (λq=>O (q▸L)) (zl (w0.kept g L) Z.below.size))).trans hm⟩⟩
  refine zD.stays (λH=>(a6 x.1.1 x.2.1 y.1.1 y.2.1 H).mono λr H' X=>X.2) (λM ρ v hv=>by simp only[rel]at hv;exact hv.1) (M:=M) (ρ:=ρ) (n:=h.next) (λb o v hb=> ?_) ag bb ?_
  .have ch:b≠l.blk:=λq=>by subst q;rw[hM o]at hb;cases hb
   rw[<-Z.imm b o v hb];exact wa (w:=w) (K b ch (Z.lt hb))
  .have W:∀p:KP cells xs M ρ,rel M ρ (.agg (cells p.1.1)) (.agg (enc p).toArray):=λp=>by
    simp only[rel];exact⟨_,rfl,by simpa using p.2.2.1,p.2.2.2⟩
   show wG M ρ _ [_,_];simp only[wG];exact⟨_,_,rfl,W x,_,_,rfl,W y,rfl⟩
 have I:=bo (KP cells xs M ρ) enc J ad (λp q=>cf p.1.1 q.1.1) b5 cmp #[] l.blk pre.length cap d w b6 ak U a4 (by rw[C];exact bk) C;rw[C]at I;refine I.mono λe w' X=> ?_;obtain⟨rfl,A,n,os,t,R,rfl⟩:=X;rw[<-C]at t;have bx:=PermIn.list t;have c2:A.size=xs.length:=by rw[t.1,C]
 have cu:(A.toList.map λp=>p.1.1).Perm xs:=by
  have q:=bx.map (λp=>p.1.1)
  rwa [a7]at q
 have a0:h.at' id=some (.row (pre++(d.toList.map dY).flatten.map (λq=>q.1.1)++post)):=by rw[(s d).1,a7];exact Y
 have b1:((A.toList.map dY).flatten:List zBH).Perm (d.toList.map dY).flatten:=(bx.map _).flatten;have hS:=(Z.ahead n).putRow (α:=zBH) (enc:=λq=>q.1.2) (dd:=λq=>q.1.1) (λq=>q.2) a0 hl b1.length_eq (λq X=>by
  obtain⟨p,hp,ck⟩:=List.mem_flatten.1 X;obtain⟨x,hx,rfl⟩:=zS.1 hp;exact Lk x q ck)
 have a2:=hS.grow os;rw[ZF,jd,(s A).2,<-LV J aj A,(s A).1]at a2;refine⟨.tuple #[],M,ρ,.tuple [],_,rfl,MLe.refl _,RLe.refl _,a2,bb,by simp only[rel,wG];exact⟨#[],rfl,rfl⟩,rfl,A.toList.map (λp=>p.1.1),cu,?_,rfl⟩;rw[List.pairwise_map,tr];intro i j E N ca;have cc:j<A.size:=by simpa using N
 have:=R i j (yM _) ca ow;rw[wr A j cc,wr A i ow]at this;simpa [ltOf]using this
end
open Go.Proofs
def QC.swo{c:β->β->Int}(h:QC c):Go.Sort.SWO (ltOf c) where
 irrefl x:=by simp[ltOf,h.refl]
 trans x y z h1 h2:=by
  simp only[ltOf,zO]at *
  exact h.ltle h1 ow
 ntrans x y z h1 h2:=by
  simp only[ltOf,wY]at *
  have a1:=h.anti x y;have a2:=h.anti y z;have a3:=h.anti x z;have:=h.trans z y x ow ow;omega
open Go.Proofs.Tryz
open Go.Proofs Go.Shelf Go.Sort
set_option maxRecDepth 100000
def Tv(l:n<=1048576)(h:Heap):zD prog 234 [.int .u64 (n:Int)] h λr h'=>h'=h/\r=.int .i64 (Lib.bitLen n:Nat):=by
 refine(zD.of_lib (P:=prog) (f:=234) (ds:=[.int .u64 (n:Int)]) (d:=.int .i64 (Lib.bitLen n:Nat)) kr (λM ρ j w hr=> ?_) h).mono λa b c=>⟨c.2,c.1⟩;simp only[wG,rel]at hr;obtain⟨v,vs,e,⟨rfl,_⟩,rfl⟩:=hr;have ev:j= #[.int .u64 (n:Int)]:=tU (by simpa using e);subst ev;have g:=Any.bits_Len (SlLaysF0.n15.bits (P:=prog) (ρ:=Tryz.sortLic_ren) { Tryz.sortLic with }) (n:Int) w ow ow;refine Calls.mono g λe m i=> ?_;obtain⟨rfl,rfl⟩:=i;refine⟨_,rfl,Bel.refl _ _,λM' o=> ?_⟩;rw[wV];have k:=Lib.bitLen_le n 62 ow ow;exact wx (by unfold fits;rw[qP ow ow])
def FC{a b c:Int}(h:wG M ρ [.int .i64 a,.int .i64 b,.int .i64 c] vs):vs= [.int .i64 a,.int .i64 b,.int .i64 c]:=by
 simp only[wG,rel]at h;obtain⟨_,_,rfl,⟨rfl,_⟩,_,_,rfl,⟨rfl,_⟩,_,_,rfl,⟨rfl,_⟩,rfl⟩:=h;rfl
def zCX{id:Nat}{l:List Trm}(h0:l≠[])(C:l.length<=1048576)(a:g.at' id=some (.row (wj l).flatten)):
  zD prog 379 [.rs id 2 0 l.length,.int .i64 0,.int .i64 l.length,.int .i64 (Lib.bitLen l.length:Nat),.fn (.func 330) [] []] g λr h'=>r=.tuple []/\h'=g.set id (.row (wj (srt yk l)).flatten):=by
 have q:=Lib.bitLen_le l.length 62 ow ow;have:=zD.of_sortK (P:=prog) (f:=379) (cmp:=330) (k:=2) (cells:=Trm.cells) (xs:=l) (id:=id) (pre:=[]) (post:=[]) (h:=g) (cf:=yk) (mid:=[.int .i64 0,.int .i64 l.length,.int .i64 (Lib.bitLen l.length:Nat)]) (λM ρ vs h=>FC h) h0 ow (λ_ _=>rfl) kr (enters_of func330 kr rfl) (by simpa [wj]using a) gf.swo ow
  (λx _ y _ H=>dW x y H) (λα _ enc h1 o cf j g cb b off cap d w u s i p c m=>by
   have:=AnyQ.pdqsortCmpFunc_all Tryz.pdqTrm 2 (isAgg197) (sizeOf197) enc cf g cb j b off cap d w u s ⟨h1,o,i,p⟩ (d.size+1) 0 d.size (Lib.bitLen d.size) d w ow rfl (SWK.start i) (yM _) (zC _) c (by rw[m];omega) (Or.inl rfl);rw[<-m];refine Calls.mono this λe D z=> ?_;obtain⟨t,n,B,A⟩:=z;have h:=pdq_sorts (ltOf cf) j d 0 d.size (Lib.bitLen d.size) true true (yM _) (zC _) (Or.inl rfl);exact⟨t,_,n,B,h.1,h.2,A⟩)
 refine this.mono λr h' ⟨e1,ys,v,c,e2⟩=>⟨e1,?_⟩;rw[e2,Mb gf bH v c];simp[wj]
def AE{id:Nat}{l:List Trm}(h0:l≠[])(d:l.length<=1048576)(a:g.at' id=some (.row (wj l).flatten)):
  zD prog 329 [.rs id 2 0 l.length,.fn (.func 330) [] []] g λr h'=>r=.tuple []/\h'=g.set id (.row (wj (srt yk l)).flatten):=by
 have e:=λ(h:Heap)=>oz (P:=prog) (t:=195) (sz:=2) (id:=id) (off:=0) (len:=l.length) (h:=h) underlying195;have f:o8 prog 3 299 (.int .i64 (l.length:Int))=some (.int .u64 (l.length:Int)):=by
  have i:prog.underlying 299=some (.int .u64):=kr;have j:IntKind.u64.wrap (l.length:Int)=l.length:=by
   unfold IntKind.wrap;simp[IntKind.signed,IntKind.bits];omega
  simp only[o8,underlying3,i,j]
 have b:=Tv d;have c:=zCX h0 d a;refine zj zKy ?_;simp only[f329,zA]
 repeat' first|simp only[go_sem, *]|apply bc<;>intro k|refine zD.use (b _) ?_|(refine zD.mono c ?_;rintro r h ⟨rfl,rfl⟩)
structure Alt where
 ts:List Trm
 d:D
structure Alt.Ok(a:Alt):Prop where
 sl:yZ 2 (wj a.ts) a.d
 ne:a.ts≠[]
 len:a.ts.length<=4096
def mkA(ts:List Trm):Alt:=⟨ts,.sl 2 (wj ts) .no⟩
def qT(l:List Alt):List (List D):=l.map λa=>[a.d]
def yr(l:List Alt):(qT l).length=l.length:=zI ..
def H0{l:List Alt}(h:i<l.length):(qT l)[i]? =some [l[i].d]:=by simp[qT,h]
def sO(l:List Alt):∀x∈qT l,x.length=1:=λx a=>by
 obtain⟨s,_,rfl⟩:=zS.1 a;rfl
def pz(l:List Alt):(qT l).flatten=l.map Alt.d:=by
 induction l with
 |nil=>rfl
 |cons a l b=>simp only[qT,qe,yT]at b⊢;rw[b];rfl
def uh{l:List Alt}(a:yZ 1 (qT l) d)(h:Heap):o9 prog 44 d h=some (.int .i64 l.length):=by rw[wL a underlying44,yr]
def p4{l:List Alt}(a:yZ 1 (qT l) d)(b:i<l.length):yc prog 44 d (.int .i64 (i:Int))=some (.iptr [l[i].d] 0):=yR a uG uK (H0 b)
def bf(a:List Trm):uA [(mkA a).d]:=by
 have h:=qY (sz:=2) (xs:=wj a) (λx b=>by
  obtain⟨y,_,rfl⟩:=zS.1 b;exact⟨rfl,by simp[Trm.cells,qC,below],rfl⟩) .no
 exact⟨rfl,by simp only[qC];exact⟨h.2,trivial⟩,by simp only[qU];rw[show(mkA a).d=.sl 2 (wj a) .no from rfl,h.1]⟩
variable{f:FuncId}{P:Program}{k:Nat}
def T5{l:List Alt}(n:yZ 1 (qT l) d)(D:l.length<=1048576){p:Alt->Bool}(z:∀s∈l,yZ 2 (wj s.ts) s.d/\zD prog f ([]++ [s.d]++cap) g λr h'=>h'=g/\r=.bool (p s)):
  zD prog 190 [d,.fn (.func f) [] cap] g λr h'=>h'=g/\r=.int .i64 (UT p l):=by
 have o:=uh n;refine zj zFf ?_;simp only[f190,zA]
 repeat' first|simp only[go_sem, *]|apply bc<;>intro m
 refine zY (λi fr h=>fr 1=.fn (.func f) [] cap/\fr 0=d/\fr 6=d/\fr 7=.int .i64 (l.length:Int)/\fr 8=.int .i64 (i:Int)/\h=g/\∀j (b:j<l.length),j<i->p l[j]=false) l.length ow ?_ ?_ ?_
 .simp only[go_sem,zM,zV,zG]
  exact λj b h0=>by omega
 .rintro i fr h a e1 C ⟨t,q,u,v,w,rfl,b⟩
  have B:=p4 n a;obtain⟨y,e⟩:=z _ (zH a);obtain⟨k1,k2,k3⟩:=zw y;simp only[yU,yG]at e;cases k:p l[i]with
  |true=>
   have A:=jF a b k;rw[k]at e
   repeat' first|simp only[go_sem, *]|apply bc<;>intro m|refine zD.use e ?_
  |false=>
   have x:=ug (p:=p) a b k;rw[k]at e
   repeat' first|simp only[go_sem, *]|apply bc<;>intro m|refine zD.use e ?_
   exact x
 .rintro fr h e1 ⟨t,q,u,v,w,rfl,b⟩
  have A:=jG (p:=p) λj c=>b j c c;exact au
def gH{l:List Alt}(b:yZ 1 (qT l) d)(e:l.length<=1048576){p:Alt->Bool}(h:∀s∈l,yZ 2 (wj s.ts) s.d/\zD prog f ([]++ [s.d]++cap) g λr h'=>h'=g/\r=.bool (p s)):
  zD prog 124 [d,.fn (.func f) [] cap] g λr h'=>h'=g/\r=.bool (l.any p):=by
 have a:=T5 b e h;have c:=gQ (l:=l) (p:=p);refine zj zFG ?_;simp only[f124,zA]
 repeat' first|simp only[go_sem, *]|apply bc<;>intro i|refine zD.use a ?_
def cQ(d:D)(nid:Nat)(h:Heap)(h1:d.cells= [d])(a:d.notTuple=true)(h3:d.flat=true):yD prog false nid 44 1 [(0,d)] h=some (.sl 1 [[d]] .full,h):=by
 have:=qd (P:=prog) (nid:=nid) (h:=h) (x:=d) uG fL uK rfl rfl ow ow a (by rw[h1];rfl);rw[h1]at this;exact this
def zCT{id:Nat}{a b:Alt}(c:a.Ok)(e:b.Ok)(h:g.at' id=some (.row [a.d])):
  zD prog 334 [b.d,.ptr id 0] g λr h'=>h'=g/\r=.bool (cy a.ts b.ts):=by
 have f:=UG c.sl e.sl (by have:=c.len;omega) (by have:=e.len;omega);refine zj zK2 ?_;simp only[f334,zA]
 repeat' first|simp only[go_sem, *]|apply bc<;>intro f|refine zD.use (f _) ?_
end Go.V
