/- Rules of the machine of abstract values, part 9. No condition. -/
import Derived.Test.YtkenagjlanhnmaaGreatDoorW32
set_option linter.all false
set_option maxHeartbeats 8000000
namespace Go.V
open Go.Shelf Go.Proofs Go.Sort
open Go.RowKit (Below)
variable{P:Program}{f:FuncId}{args cap:List D}{d:D}{M:Imm}{ρ:Ren}{w:World}{n k i:Nat}{va:Array Value}{α β:Type}{vs:List Value}{g:Heap}
def zE.stays{x:Value}(A:∀H,zE P f args H λr _=>r=d)(t:∀M ρ v,rel M ρ d v->v=x)
  (h:∀b o v,M b o=some v->w.cell? ⟨b,o,none⟩ =some v) (u:Jz P w) (k:km ρ n) (hr:wI M ρ args va.toList):
  Calls P f va w λe a=>e=.returned x/\∃q C,a=Go.Sort.grow (w.drewN q) C:=by
 let B:Base:=⟨w,M,λb=>b<w.heap.size,λ_ g=>g⟩
 have z:Sim B [] M ρ ⟨n,λ_=>none⟩ w:=
  { below:=⟨rfl,rfl,rfl,zD _,λ_ _=>rfl,zD _⟩,imm:=h,live:=λi J e=>(by cases e),apart:=λi j K L G I e=>(by cases e),gdef:=λb g=>(by cases g),old:=λb o v _ e=>e }
 refine((A ⟨n,λ_=>none⟩).2 B [] M ρ w va (Rg.start u) z k hr).mono λe a y=> ?_;obtain⟨v,M',N,D,h',rfl,_,_,k3,_,k5,rfl⟩:=y;refine⟨by rw[t _ _ _ k5],a.drawn-w.drawn,a.heap.extract w.heap.size a.heap.size,?_⟩;have c:=k3.below;have e1:a.os=w.os:=c.os;have e2:a.tape=w.tape:=c.tape;have e3:a.output=w.output:=c.output;have p:w.drawn<=a.drawn:=c.drawn;have E:w.heap.size<=a.heap.size:=c.size;have s:∀b,b<w.heap.size->a.heap[b]? =w.heap[b]? :=λb g=>c.block b g;have l:a.heap=w.heap++a.heap.extract w.heap.size a.heap.size:=by
  apply Array.ext_getElem?;intro i;rw[Array.getElem?_append];split
  .rename_i m;rw[s i m]
  .rename_i m
   rw[Array.getElem?_extract];split
   .congr 1;omega
   .rename_i F;rw[rQ ow]
 cases a;cases w;simp only at e1 e2 e3 p l;subst e1 e2 e3;simp only[Go.Sort.grow,World.drewN,World.mk.injEq,zQ,zT];exact⟨l,ow⟩
def PJ [Inhabited α](enc:α->Value)(off:Nat)(d:Array α)(c:Array Value):putCells enc off d c=putCells id off (d.map enc) c:=by
 unfold putCells;congr 1
 funext k x
 simp only[Array.size_map,id];split
 .rename_i h
  rw[uF d _ ow,uF (d.map enc) _ jO,Array.getElem_map]
 .rfl
def Z0 [Inhabited α](enc:α->Value)(w:World)(a off:Nat)(d:Array α):putRow enc w a off d=putRow id w a off (d.map enc):=by
 unfold putRow;congr 1
 funext c
 exact PJ enc off d c
theorem Af:∀{xs:List (List Value)}(_:∀x∈xs,x.length=k){i j:Nat}(_:j<k){x:List Value}(_:xs[i]? =some x),xs.flatten[i*k+j]? =x[j]?
 | [],_,i,j,_,x,h=>by simp at h
 |y::xs,a,0,j,b,x,h=>by
  simp only[wJ,uB]at h;subst h;rw[sr,yP,yH,yi (by rw[a y jS];exact b)]
 |y::xs,a,i+1,j,b,x,h=>by
  simp only[wb]at h;have d:=a y jS;rw[yH,qp,yT ow,show i*k+k+j-y.length=i*k+j by omega];exact Af (λz c=>a z (by simp[c])) b h
theorem V7:∀{xs:List (List Value)}(_:∀x∈xs,x.length=k),xs.flatten.length=xs.length*k
 | [],_=>by simp
 |y::xs,a=>by rw[yH,zS,a y jS,V7 λz b=>a z (by simp[b]),zu,qp];omega
def JB [Inhabited α]{enc:α->List Value}(b:∀x,(enc x).length=k)(h1:0<k)(d:Array α):flatK enc k d=(d.toList.map enc).flatten.toArray:=by
 apply Array.ext_getElem?;intro i;have c:∀x∈d.toList.map enc,x.length=k:=λx l=>by
  obtain⟨y,_,rfl⟩:=zN.1 l;exact b y
 have f:(d.toList.map enc).flatten.length=d.size*k:=by rw[V7 c,zH,yX]
 by_cases a:i<d.size*k
 .have j:i/k<d.size:=by rw[nj h1];exact a
  have h:i%k<k:=ZW _ h1;have e:(d.toList.map enc)[i/k]? =some (enc d[i/k]!):=by
   rw[zh,uF d _ j,qo,sM j];rfl
  have:=Af c h e;rw[gp,Nat.div_add_mod]at this;have g:=get_flatK enc k d i a;rw[uF (flatK enc k d) i (by simpa using a)]at g;rw[sM (by simpa using a),g,t9,this,uF (enc d[i/k]!) (i%k) (by rw[b];exact h),zB]
 .rw[rQ (by simpa using a),t9,wx ow]
def PermIn.list [Inhabited α]{d a:Array α}(h:PermIn 0 d.size d a):a.toList.Perm d.toList:=by
 obtain⟨h1,_,h3⟩:=h;have e1:a.extract 0 d.size=a:=by rw[<-h1];simp
 have e2:d.extract 0 d.size=d:=jS
 rwa [e1,e2]at h3
def Yz [Inhabited α](enc:α->List Value)(k:Nat)(w:World)(a off m:Nat)(c:Array α)(d:Array Go.Obj):∀b,b≠a->b<w.heap.size->(sortWorldK enc k w a off m c d).heap[b]? =w.heap[b]? :=λb f g=>by
 show((putRow id (Go.Sort.ahead w m) a off (flatK enc k c)).heap++d)[b]? =_;have h:(putRow id (Go.Sort.ahead w m) a off (flatK enc k c)).heap.size=w.heap.size:=by simp[putRow,mapBlock,Go.Sort.ahead]
 rw[tu ow];show((Go.Sort.ahead w m).heap.modify a _)[b]? =_;rw[rZ,iq (λe=>f e.symm)];rfl
section
variable{P:Program}{f cmp:FuncId}{β:Type}{k:Nat}{cells:β->List D}{xs:List β}{id:Nat}{pre post:List D}{h:Heap}{cf:β->β->Int}
abbrev Jv(cells:β->List D)(xs:List β)(M:Imm)(ρ:Ren):= {p:β×List Value // p.1∈xs/\wI M ρ (cells p.1) p.2/\(cells p.1).all D.flat=true}
abbrev zCs:= {p:D×Value // p.1.flat=true}
instance:Inhabited zCs:=⟨⟨(.bool true,.bool true),rfl⟩⟩
def cS{M:Imm}{ρ:Ren}(p:Jv cells xs M ρ):List zCs:=((cells p.1.1).zip p.1.2).attach.map λq=>⟨q.1,by
 have h1:=(List.of_mem_zip q.2).1;exact zb.1 p.2.2.2 _ h1⟩
def UN(p:Jv cells xs M ρ):(cS p).map (λq=>q.1.1)=cells p.1.1:=by
 have a:=qL p.2.2.1;unfold cS;rw[wA];show List.map (λq: {q // q∈(cells p.1.1).zip p.1.2} =>q.1.1) _=_;rw[show(λq: {q // q∈(cells p.1.1).zip p.1.2} =>q.1.1)=Prod.fst ∘ Subtype.val from rfl,<-wA,mq,List.map_fst_zip ow]
def UO(p:Jv cells xs M ρ):(cS p).map (λq=>q.1.2)=p.1.2:=by
 have a:=qL p.2.2.1;unfold cS;rw[wA];show List.map (λq: {q // q∈(cells p.1.1).zip p.1.2} =>q.1.2) _=_;rw[show(λq: {q // q∈(cells p.1.1).zip p.1.2} =>q.1.2)=Prod.snd ∘ Subtype.val from rfl,<-wA,mq,List.map_snd_zip ow]
def JN(p:Jv cells xs M ρ):∀q∈cS p,rel M ρ q.1.1 q.1.2:=λq d=>by
 obtain⟨i,c⟩:=yy.1 d;have a:=congrArg (λl=>l[i]?) (UN p);have b:=congrArg (λl=>l[i]?) (UO p);simp only[zh,c,qt]at a b;obtain⟨v,e1,e2⟩:=sJ p.2.2.1 i _ a.symm;rw[<-b]at e1;cases e1;exact e2
theorem Ua:∀{e c:List D}{vs:List Value},wI M ρ (e++c) vs->∃b d,vs=b++d/\wI M ρ e b/\wI M ρ c d
 | [],c,vs,h=>⟨[],vs,rfl,by simp only[wI],h⟩
 |a::e,c,vs,h=>by
  simp only[zq,wI]at h;obtain⟨v,i,rfl,h1,f⟩:=h;obtain⟨b,d,rfl,h3,g⟩:=Ua f;exact⟨v::b,d,rfl,by simp only[wI];exact⟨v,b,rfl,h1,h3⟩,g⟩
theorem zE.of_sortK{mid:List D}{midV:List Value}(bs:∀M ρ vs,wI M ρ mid vs->vs=midV)(h0:xs≠[])(aj:0<k)(hk:∀x∈xs,(cells x).length=k)(he:pU P f=true)(b5:∀args w,(callFunc cmp args).run P w=.ok (.enter cmp args) w)
  (Y:h.at' id=some (.row (pre++(xs.map cells).flatten++post))) (hO:SWO (ltOf cf)) (bk:xs.length<4611686018427387904)
  (a6:∀x∈xs,∀y∈xs,∀H,zE P cmp [.agg (cells x),.agg (cells y)] H λr H'=>H'=H/\r=.int .i64 (cf x y))
  (bo:∀(α:Type)[Inhabited α](enc:α->List Value),(∀x,(enc x).length=k)->(∀x,∀v∈enc x,v.oneCell'=true)->∀(cf:α->α->Int),SWO (ltOf cf)->∀(g:Nat)(cb:Array Value)(F off cap:Nat)(d:Array α)(w:World),
   (∀args w,(callFunc g args).run P w=.ok (.enter g args) w)->CmpLays P g cb enc k cf F off d.size w->HoldsK enc k w F off d->F<w.heap.size->d.size<4611686018427387904->
   d.size=xs.length->Calls P f (.slice (some ⟨F,off,none⟩) d.size cap::(midV++ [.func (.func g) #[] cb])).toArray w λe w'=>e=.returned (.tuple #[])/\∃A n os,PermIn 0 d.size d A/\SortedIn (ltOf cf) 0 d.size A/\w'=sortWorldK enc k w F off n A os):
  zE P f (.rs id k pre.length xs.length::(mid++ [.fn (.func cmp) [] []])) h λr h'=>r=.tuple []/\∃ys:List β,ys.Perm xs/\ys.Pairwise (λa b=>¬cf b a<0)/\h'=h.set id (.row (pre++(ys.map cells).flatten++post)):=by
 refine⟨he,λw0 G M ρ w va T Z bb hr=> ?_⟩;simp only[wI]at hr;obtain⟨v,c6,ck,hv,cm⟩:=hr;obtain⟨vm,vf,rfl,a1,b3⟩:=Ua cm;have a1:=bs _ _ _ a1;subst a1;simp only[wI]at b3;obtain⟨v2,c7,rfl,b1,rfl⟩:=b3;simp only[rel,wI]at hv b1;obtain⟨_,cw,l,cap,o,hl,rfl,⟨cx,c0⟩,c5,ho⟩:=hv;obtain⟨_,fa,fc,rfl,b7,b8⟩:=b1;have a8:fa= #[]:=sY (by simpa using b7);have a9:fc= #[]:=sY (by simpa using b8);subst a8 a9;have cp:0<xs.length:=z7.2 h0;have ho:o=pre.length:=by
  rcases ho with hz|ho
  .omega
  .exact ho
 subst ho;have b2:va=(.slice (some ⟨l.blk,pre.length,none⟩) xs.length cap::(vm++ [.func (.func cmp) #[] #[]])).toArray:=sY (by simpa using ck);subst b2;obtain⟨l',h1,O,hM,c,e,hw,c4,a5,B⟩:=Z.live id _ Y;rw[hl]at h1;cases h1;have a4:l.blk<w.heap.size:=(yS.1 hw).1;have hL:∀x∈xs.map cells,x.length=k:=λx hx=>by
  obtain⟨y,hy,rfl⟩:=zN.1 hx;exact hk y hy
 have ba:(xs.map cells).flatten.length=xs.length*k:=by rw[uu hL,zH]
 have S:∀i (E:i<xs.length),((c.toList.drop (pre.length+i*k)).take k).length=k/\wI M ρ (cells xs[i]) ((c.toList.drop (pre.length+i*k)).take k)/\(cells xs[i]).all D.flat=true:=λi E=>by
  have c3:i*k+k<=xs.length*k:=by rw[<-qp];exact yt k E
  have cu:pre.length+xs.length*k+post.length<=c.size:=by have q:=a5;rwa [zS,zS,ba]at q
  have au:=X5 hL (i:=i) (x:=cells xs[i]) (by rw[zh,zB E];rfl);have cc:=hk xs[i] (zI E);have a3:∀j d,(cells xs[i])[j]? =some d->(pre++(xs.map cells).flatten++post)[pre.length+(i*k+j)]? =some d:=λj d N=>by
   have ai:j<k:=by have:=(zK.1 N).1;omega
   rw[yY,yT ow,uR,yi ow];rw[<-au,yI,ip ai,qY]at N;exact N
  have Q:((c.toList.drop (pre.length+i*k)).take k).length=k:=by
   rw[yK,tC,yX];omega
  refine⟨Q,wT (by rw[Q,cc]) λj d v C hv=> ?_,zb.2 λd C=> ?_⟩
  .have ai:j<k:=by have:=(zK.1 C).1;omega
   obtain⟨_,u,e1,e2⟩:=B _ _ (a3 j d C);rw[yI,ip ai,qY,qo,qn,e1]at hv;cases hv;exact e2
  .obtain⟨j,N⟩:=yy.1 C
   exact(B _ _ (a3 j d N)).1
 let mk:_root_.Fin xs.length->Jv cells xs M ρ:=λi=>⟨(xs[i.1],(c.toList.drop (pre.length+i.1*k)).take k),zI i.2,(S i.1 i.2).2.1,(S i.1 i.2).2.2⟩
 letI:Inhabited (Jv cells xs M ρ):=⟨mk ⟨0,cp⟩⟩
 let enc:Jv cells xs M ρ->List Value:=λp=>p.1.2
 have J:∀p,(enc p).length=k:=λp=>by rw[show(enc p).length=(cells p.1.1).length from qL p.2.2.1];exact hk _ p.2.1
 have ad:∀p,∀v∈enc p,v.oneCell'=true:=λp=>pK p.2.2.1 p.2.2.2
 let d:Array (Jv cells xs M ρ):=Array.ofFn mk
 have C:d.size=xs.length:=by simp[d]
 have b6:∀i (E:i<xs.length),d[i]! =mk ⟨i,E⟩:=λi E=>by rw[uF d i (by rw[C];exact E)];simp[d]
 have a7:d.toList.map (λp=>p.1.1)=xs:=by
  apply tR;intro i;rw[zh,qo];by_cases E:i<xs.length
  .rw[sM (by rw[C];exact E),zB E,qt]
   simp[d,mk]
  .rw[rQ ow,wx ow];rfl
 have s:∀(V:Array (Jv cells xs M ρ)),(V.toList.map cS).flatten.map (λq=>q.1.1)=((V.toList.map λp=>p.1.1).map cells).flatten/\(V.toList.map cS).flatten.map (λq=>q.1.2)=(V.toList.map enc).flatten:=λV=>by
  constructor
  .rw[List.map_flatten,wA,wA]
   congr 1;exact wY λp _=>UN p
  .rw[List.map_flatten,wA]
   congr 1;exact wY λp _=>UO p
 have b4:SWO (ltOf λp q:Jv cells xs M ρ=>cf p.1.1 q.1.1):=⟨λx=>hO.irrefl _,λx y z=>hO.trans _ _ _,λx y z=>hO.ntrans _ _ _⟩;have cv:pre.length+xs.length*k+post.length<=c.size:=by have q:=a5;rwa [zS,zS,ba]at q
 have U:HoldsK enc k w l.blk pre.length d:=by
  intro j N;rw[size_flatK,C]at N;refine⟨?_,by simp[World.frozen?,hw]⟩;rw[get_flatK enc k d j (by rw[C];exact N)];have X:j/k<xs.length:=by rw[nj aj];exact N
  have hm:j%k<k:=ZW _ aj;rw[b6 _ X];have cl:=(S (j/k) X).1;show _=some (_root_.id ((((c.toList.drop (pre.length+j/k*k)).take k))[j%k]!));have e5:j/k*k+j%k=j:=by rw[gp];exact Nat.div_add_mod j k
  have e6:((c.toList.drop (pre.length+j/k*k)).take k)[j%k]? =c[pre.length+j]? :=by
   rw[yI,ip hm,qY,qn,e5,qo]
  have h9:j%k<((c.toList.drop (pre.length+j/k*k)).take k).length:=by rw[cl];exact hm
  have e8:c[pre.length+j]? =some (((c.toList.drop (pre.length+j/k*k)).take k)[j%k]'h9):=by rw[<-e6];exact zB h9
  rw[uF (((c.toList.drop (pre.length+j/k*k)).take k)) (j%k) h9];simp only[World.cell?,hw,sE,zf,yr,_root_.id];exact e8
 have ak:CmpLays P cmp #[] enc k (λp q=>cf p.1.1 q.1.1) l.blk pre.length d.size w:=by
  intro m os V c2 x y;have K:=Yz enc k w l.blk pre.length m V os;have ag:Jz P (sortWorldK enc k w l.blk pre.length m V os):=⟨λg hg=>by
   have h2:=T.here Z.below hg;unfold Lib.TabIs World.var? at h2⊢;rw[hg]at h2⊢;simp only[rC]at h2⊢;have L:=(T.1 g hg).1;rw[K g (λq=>O (q▸L)) (zl (w0.kept g L) Z.below.size)];exact h2,λg hg=>by
   obtain⟨m,hm⟩:=T.max Z.below hg;have L:=(T.2 g hg).1;exact⟨m,(wi (w:=w) (K g (λq=>O (q▸L)) (zl (w0.kept g L) Z.below.size))).trans hm⟩⟩
  refine zE.stays (λH=>(a6 x.1.1 x.2.1 y.1.1 y.2.1 H).mono λr H' X=>X.2) (λM ρ v hv=>by simp only[rel]at hv;exact hv.1) (M:=M) (ρ:=ρ) (n:=h.next) (λb o v hb=> ?_) ag bb ?_
  .have cg:b≠l.blk:=λq=>by subst q;rw[hM o]at hb;cases hb
   rw[<-Z.imm b o v hb];exact wi (w:=w) (K b cg (Z.lt hb))
  .have W:∀p:Jv cells xs M ρ,rel M ρ (.agg (cells p.1.1)) (.agg (enc p).toArray):=λp=>by
    simp only[rel];exact⟨_,rfl,by simpa using p.2.2.1,p.2.2.2⟩
   show wI M ρ _ [_,_];simp only[wI];exact⟨_,_,rfl,W x,_,_,rfl,W y,rfl⟩
 have I:=bo (Jv cells xs M ρ) enc J ad (λp q=>cf p.1.1 q.1.1) b4 cmp #[] l.blk pre.length cap d w b5 ak U a4 (by rw[C];exact bk) C;rw[C]at I;refine I.mono λe w' X=> ?_;obtain⟨rfl,A,n,os,t,R,rfl⟩:=X;rw[<-C]at t;have bx:=PermIn.list t;have c1:A.size=xs.length:=by rw[t.1,C]
 have cs:(A.toList.map λp=>p.1.1).Perm xs:=by
  have q:=bx.map (λp=>p.1.1)
  rwa [a7]at q
 have a0:h.at' id=some (.row (pre++(d.toList.map cS).flatten.map (λq=>q.1.1)++post)):=by rw[(s d).1,a7];exact Y
 have b0:((A.toList.map cS).flatten:List zCs).Perm (d.toList.map cS).flatten:=(bx.map _).flatten;have hS:=(Z.ahead n).putRow (α:=zCs) (enc:=λq=>q.1.2) (dd:=λq=>q.1.1) (λq=>q.2) a0 hl b0.length_eq (λq X=>by
  obtain⟨p,hp,ch⟩:=List.mem_flatten.1 X;obtain⟨x,hx,rfl⟩:=zN.1 hp;exact JN x q ch)
 have a2:=hS.grow os;rw[Z0,gG,(s A).2,<-JB J aj A,(s A).1]at a2;refine⟨.tuple #[],M,ρ,.tuple [],_,rfl,MLe.refl _,RLe.refl _,a2,bb,by simp only[rel,wI];exact⟨#[],rfl,rfl⟩,rfl,A.toList.map (λp=>p.1.1),cs,?_,rfl⟩;rw[nH,uo];intro i j E N b9;have ca:j<A.size:=by simpa using N
 have:=R i j (yD _) b9 ow;rw[uF A j ca,uF A i ow]at this;simpa [ltOf]using this
end
open Go.Proofs
def QC.swo{c:β->β->Int}(h:QC c):Go.Sort.SWO (ltOf c) where
 irrefl x:=by simp[ltOf,h.refl]
 trans x y z h1 h2:=by
  simp only[ltOf,zP]at *
  exact h.ltle h1 ow
 ntrans x y z h1 h2:=by
  simp only[ltOf,wc]at *
  have a1:=h.anti x y;have a2:=h.anti y z;have a3:=h.anti x z;have:=h.trans z y x ow ow;omega
open Go.Proofs.Tryz
open Go.Proofs Go.Shelf Go.Sort
set_option maxRecDepth 100000
def Rx(l:n<=1048576)(h:Heap):zE prog 234 [.int .u64 (n:Int)] h λr h'=>h'=h/\r=.int .i64 (Lib.bitLen n:Nat):=by
 refine(zE.of_lib (P:=prog) (f:=234) (ds:=[.int .u64 (n:Int)]) (d:=.int .i64 (Lib.bitLen n:Nat)) kr (λM ρ j w hr=> ?_) h).mono λa b c=>⟨c.2,c.1⟩;simp only[wI,rel]at hr;obtain⟨v,vs,e,⟨rfl,_⟩,rfl⟩:=hr;have ev:j= #[.int .u64 (n:Int)]:=sY (by simpa using e);subst ev;have g:=Any.bits_Len (SlLaysF0.n15.bits (P:=prog) (ρ:=Tryz.sortLic_ren) { Tryz.sortLic with }) (n:Int) w ow ow;refine Calls.mono g λe m i=> ?_;obtain⟨rfl,rfl⟩:=i;refine⟨_,rfl,Bel.refl _ _,λM' o=> ?_⟩;rw[wE];have k:=Lib.bitLen_le n 62 ow ow;exact uJ (by unfold fits;rw[qJ ow ow])
def Ez{a b c:Int}(h:wI M ρ [.int .i64 a,.int .i64 b,.int .i64 c] vs):vs= [.int .i64 a,.int .i64 b,.int .i64 c]:=by
 simp only[wI,rel]at h;obtain⟨_,_,rfl,⟨rfl,_⟩,_,_,rfl,⟨rfl,_⟩,_,_,rfl,⟨rfl,_⟩,rfl⟩:=h;rfl
def zEE{id:Nat}{l:List Trm}(h0:l≠[])(C:l.length<=1048576)(a:g.at' id=some (.row (wp l).flatten)):
  zE prog 379 [.rs id 2 0 l.length,.int .i64 0,.int .i64 l.length,.int .i64 (Lib.bitLen l.length:Nat),.fn (.func 330) [] []] g λr h'=>r=.tuple []/\h'=g.set id (.row (wp (srt yu l)).flatten):=by
 have q:=Lib.bitLen_le l.length 62 ow ow;have:=zE.of_sortK (P:=prog) (f:=379) (cmp:=330) (k:=2) (cells:=Trm.cells) (xs:=l) (id:=id) (pre:=[]) (post:=[]) (h:=g) (cf:=yu) (mid:=[.int .i64 0,.int .i64 l.length,.int .i64 (Lib.bitLen l.length:Nat)]) (λM ρ vs h=>Ez h) h0 ow (λ_ _=>rfl) kr (enters_of func330 kr rfl) (by simpa [wp]using a) jK.swo ow
  (λx _ y _ H=>cP x y H) (λα _ enc h1 o cf j g cb b off cap d w u s i p c m=>by
   have:=AnyQ.pdqsortCmpFunc_all Tryz.pdqTrm 2 (isAgg197) (sizeOf197) enc cf g cb j b off cap d w u s ⟨h1,o,i,p⟩ (d.size+1) 0 d.size (Lib.bitLen d.size) d w ow rfl (SWK.start i) (yD _) (zD _) c (by rw[m];omega) (Or.inl rfl);rw[<-m];refine Calls.mono this λe D z=> ?_;obtain⟨t,n,B,A⟩:=z;have h:=pdq_sorts (ltOf cf) j d 0 d.size (Lib.bitLen d.size) true true (yD _) (zD _) (Or.inl rfl);exact⟨t,_,n,B,h.1,h.2,A⟩)
 refine this.mono λr h' ⟨e1,ys,v,c,e2⟩=>⟨e1,?_⟩;rw[e2,L9 jK bw v c];simp[wp]
def zAr{id:Nat}{l:List Trm}(h0:l≠[])(d:l.length<=1048576)(a:g.at' id=some (.row (wp l).flatten)):
  zE prog 329 [.rs id 2 0 l.length,.fn (.func 330) [] []] g λr h'=>r=.tuple []/\h'=g.set id (.row (wp (srt yu l)).flatten):=by
 have e:=λ(h:Heap)=>oC (P:=prog) (t:=195) (sz:=2) (id:=id) (off:=0) (len:=l.length) (h:=h) underlying195;have f:ng prog 3 299 (.int .i64 (l.length:Int))=some (.int .u64 (l.length:Int)):=by
  have i:prog.underlying 299=some (.int .u64):=kr;have j:IntKind.u64.wrap (l.length:Int)=l.length:=by
   unfold IntKind.wrap;simp[IntKind.signed,IntKind.bits];omega
  simp only[ng,underlying3,i,j]
 have b:=Rx d;have c:=zEE h0 d a;refine zo zMc ?_;simp only[f329,zA]
 repeat' first|simp only[go_sem, *]|apply bc<;>intro k|refine zE.use (b _) ?_|(refine zE.mono c ?_;rintro r h ⟨rfl,rfl⟩)
structure Alt where
 ts:List Trm
 d:D
structure Alt.Ok(a:Alt):Prop where
 sl:yg 2 (wp a.ts) a.d
 ne:a.ts≠[]
 len:a.ts.length<=4096
def mkA(ts:List Trm):Alt:=⟨ts,.sl 2 (wp ts) .no⟩
def qe(l:List Alt):List (List D):=l.map λa=>[a.d]
def qB(l:List Alt):(qe l).length=l.length:=zH ..
def Fp{l:List Alt}(h:i<l.length):(qe l)[i]? =some [l[i].d]:=by simp[qe,h]
def sv(l:List Alt):∀x∈qe l,x.length=1:=λx a=>by
 obtain⟨s,_,rfl⟩:=zN.1 a;rfl
def oY(l:List Alt):(qe l).flatten=l.map Alt.d:=by
 induction l with
 |nil=>rfl
 |cons a l b=>simp only[qe,qV,yH]at b⊢;rw[b];rfl
def tA{l:List Alt}(a:yg 1 (qe l) d)(h:Heap):o5 prog 44 d h=some (.int .i64 l.length):=by rw[wL a underlying44,qB]
def oc{l:List Alt}(a:yg 1 (qe l) d)(b:i<l.length):yj prog 44 d (.int .i64 (i:Int))=some (.iptr [l[i].d] 0):=yW a uS uZ (Fp b)
def aU(a:List Trm):wl [(mkA a).d]:=by
 have h:=yh (sz:=2) (xs:=wp a) (λx b=>by
  obtain⟨y,_,rfl⟩:=zN.1 b;exact⟨rfl,by simp[Trm.cells,qM,below],rfl⟩) .no
 exact⟨rfl,by simp only[qM];exact⟨h.2,trivial⟩,by simp only[qW];rw[show(mkA a).d=.sl 2 (wp a) .no from rfl,h.1]⟩
variable{f:FuncId}{P:Program}{k:Nat}
def R3{l:List Alt}(n:yg 1 (qe l) d)(D:l.length<=1048576){p:Alt->Bool}(z:∀s∈l,yg 2 (wp s.ts) s.d/\zE prog f ([]++ [s.d]++cap) g λr h'=>h'=g/\r=.bool (p s)):
  zE prog 190 [d,.fn (.func f) [] cap] g λr h'=>h'=g/\r=.int .i64 (Y7 p l):=by
 have o:=tA n;refine zo zHM ?_;simp only[f190,zA]
 repeat' first|simp only[go_sem, *]|apply bc<;>intro m
 refine zZ (λi fr h=>fr 1=.fn (.func f) [] cap/\fr 0=d/\fr 6=d/\fr 7=.int .i64 (l.length:Int)/\fr 8=.int .i64 (i:Int)/\h=g/\∀j (b:j<l.length),j<i->p l[j]=false) l.length ow ?_ ?_ ?_
 .simp only[go_sem,zQ,zT,zG]
  exact λj b h0=>by omega
 .rintro i fr h a e1 C ⟨t,q,u,v,w,rfl,b⟩
  have B:=oc n a;obtain⟨y,e⟩:=z _ (zI a);obtain⟨k1,k2,k3⟩:=zp y;simp only[yL,zq]at e;cases k:p l[i]with
  |true=>
   have A:=kL a b k;rw[k]at e
   repeat' first|simp only[go_sem, *]|apply bc<;>intro m|refine zE.use e ?_
  |false=>
   have x:=uq (p:=p) a b k;rw[k]at e
   repeat' first|simp only[go_sem, *]|apply bc<;>intro m|refine zE.use e ?_
   exact x
 .rintro fr h e1 ⟨t,q,u,v,w,rfl,b⟩
  have A:=kM (p:=p) λj c=>b j c c;exact au
def fC{l:List Alt}(b:yg 1 (qe l) d)(e:l.length<=1048576){p:Alt->Bool}(h:∀s∈l,yg 2 (wp s.ts) s.d/\zE prog f ([]++ [s.d]++cap) g λr h'=>h'=g/\r=.bool (p s)):
  zE prog 124 [d,.fn (.func f) [] cap] g λr h'=>h'=g/\r=.bool (l.any p):=by
 have a:=R3 b e h;have c:=fJ (l:=l) (p:=p);refine zo zGw ?_;simp only[f124,zA]
 repeat' first|simp only[go_sem, *]|apply bc<;>intro i|refine zE.use a ?_
def bM(d:D)(nid:Nat)(h:Heap)(h1:d.cells= [d])(a:d.notTuple=true)(h3:d.flat=true):yA prog false nid 44 1 [(0,d)] h=some (.sl 1 [[d]] .full,h):=by
 have:=qD (P:=prog) (nid:=nid) (h:=h) (x:=d) uS dF uZ rfl rfl ow ow a (by rw[h1];rfl);rw[h1]at this;exact this
def zEA{id:Nat}{a b:Alt}(c:a.Ok)(e:b.Ok)(h:g.at' id=some (.row [a.d])):
  zE prog 334 [b.d,.ptr id 0] g λr h'=>h'=g/\r=.bool (bi a.ts b.ts):=by
 have f:=TC c.sl e.sl (by have:=c.len;omega) (by have:=e.len;omega);refine zo zMg ?_;simp only[f334,zA]
 repeat' first|simp only[go_sem, *]|apply bc<;>intro f|refine zE.use (f _) ?_
end Go.V
