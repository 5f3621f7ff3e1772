/- Rules of the machine of abstract values, part 9. No condition. -/
import Derived.Test.YtkenagjlanhnmaaGreatDoorW34
set_option linter.all false
set_option maxHeartbeats 8000000
namespace Go.V
open Go.Shelf Go.Proofs Go.Sort
open Go.RowKit (Below)
variable{P:Program}{f:FuncId}{args cap:List D}{d:D}{M:Imm}{ρ:Ren}{w:World}{n k i:Nat}{va:Array Value}{α β:Type}{vs:List Value}{g:Heap}
def zE.stays{x:Value}(A:∀H,zE P f args H λr _=>r=d)(t:∀M ρ v,rel M ρ d v->v=x)
  (h:∀b o v,M b o=some v->w.cell? ⟨b,o,none⟩ =some v) (u:KT P w) (k:kU ρ n) (hr:wJ M ρ args va.toList):
  Calls P f va w λe a=>e=.returned x/\∃q C,a=Go.Sort.grow (w.drewN q) C:=by
 let B:Base:=⟨w,M,λb=>b<w.heap.size,λ_ g=>g⟩
 have z:Sim B [] M ρ ⟨n,λ_=>none⟩ w:=
  { below:=⟨rfl,rfl,rfl,zD _,λ_ _=>rfl,zD _⟩,imm:=h,live:=λi J e=>(by cases e),apart:=λi j K L G I e=>(by cases e),gdef:=λb g=>(by cases g),old:=λb o v _ e=>e }
 refine((A ⟨n,λ_=>none⟩).2 B [] M ρ w va (Tf.start u) z k hr).mono λe a y=> ?_;obtain⟨v,M',N,D,h',rfl,_,_,k3,_,k5,rfl⟩:=y;refine⟨by rw[t _ _ _ k5],a.drawn-w.drawn,a.heap.extract w.heap.size a.heap.size,?_⟩;have c:=k3.below;have e1:a.os=w.os:=c.os;have e2:a.tape=w.tape:=c.tape;have e3:a.output=w.output:=c.output;have p:w.drawn<=a.drawn:=c.drawn;have E:w.heap.size<=a.heap.size:=c.size;have s:∀b,b<w.heap.size->a.heap[b]? =w.heap[b]? :=λb g=>c.block b g;have l:a.heap=w.heap++a.heap.extract w.heap.size a.heap.size:=by
  apply Array.ext_getElem?;intro i;rw[Array.getElem?_append];split
  ·rename_i m;rw[s i m]
  ·rename_i m;rw[Array.getElem?_extract];split
   ·congr 1;omega
   ·rename_i F;rw[rL ow]
 cases a;cases w;simp only at e1 e2 e3 p l;subst e1 e2 e3;simp only[Go.Sort.grow,World.drewN,World.mk.injEq,zT,zV];exact⟨l,by omega⟩
def R9 [Inhabited α](enc:α->Value)(off:Nat)(d:Array α)(c:Array Value):putCells enc off d c=putCells id off (d.map enc) c:=by
 unfold putCells;congr 1
 funext k x
 simp only[Array.size_map,id];split
 ·rename_i h;rw[uH d _ ow,uH (d.map enc) _ (by simp;omega),Array.getElem_map]
 ·rfl
def ZD [Inhabited α](enc:α->Value)(w:World)(a off:Nat)(d:Array α):putRow enc w a off d=putRow id w a off (d.map enc):=by
 unfold putRow;congr 1
 funext c
 exact R9 enc off d c
theorem Cq:∀{xs:List (List Value)}(_:∀x∈xs,x.length=k){i j:Nat}(_:j<k){x:List Value}(_:xs[i]? =some x),xs.flatten[i*k+j]? =x[j]?
 | [],_,i,j,_,x,h=>by simp at h
 |y::xs,a,0,j,b,x,h=>by
  simp only[wK,uD]at h;subst h;rw[sZ,yZ,yS,yg (by rw[a y (by simp)];exact b)]
 |y::xs,a,i+1,j,b,x,h=>by
  simp only[we]at h;have d:=a y (by simp);rw[yS,qf,yT ow,show i*k+k+j-y.length=i*k+j by omega];exact Cq (λz c=>a z (by simp[c])) b h
theorem W8:∀{xs:List (List Value)}(_:∀x∈xs,x.length=k),xs.flatten.length=xs.length*k
 | [],_=>by simp
 |y::xs,a=>by rw[yS,zR,a y (by simp),W8 λz b=>a z (by simp[b]),zm,qf];omega
def LU [Inhabited α]{enc:α->List Value}(b:∀x,(enc x).length=k)(h1:0<k)(d:Array α):flatK enc k d=(d.toList.map enc).flatten.toArray:=by
 apply Array.ext_getElem?;intro i;have c:∀x∈d.toList.map enc,x.length=k:=λx l=>by
  obtain⟨y,_,rfl⟩:=zM.1 l;exact b y
 have f:(d.toList.map enc).flatten.length=d.size*k:=by rw[W8 c,zG,yQ]
 by_cases a:i<d.size*k
 ·have j:i/k<d.size:=by rw[nV h1];exact a
  have h:i%k<k:=aX _ h1;have e:(d.toList.map enc)[i/k]? =some (enc d[i/k]!):=by
   rw[zj,uH d _ j,qn,sK j];rfl
  have:=Cq c h e;rw[gR,Nat.div_add_mod]at this;have g:=get_flatK enc k d i a;rw[uH (flatK enc k d) i (by simpa using a)]at g;rw[sK (by simpa using a),g,t5,this,uH (enc d[i/k]!) (i%k) (by rw[b];exact h),zB]
 ·rw[rL (by simpa using a),t5,t4 ow]
def PermIn.list [Inhabited α]{d a:Array α}(h:PermIn 0 d.size d a):a.toList.Perm d.toList:=by
 obtain⟨h1,_,h3⟩:=h;have e1:a.extract 0 d.size=a:=by rw[<-h1];simp
 have e2:d.extract 0 d.size=d:=by simp
 rwa [e1,e2]at h3
def YE [Inhabited α](enc:α->List Value)(k:Nat)(w:World)(a off m:Nat)(c:Array α)(d:Array Go.Obj):∀b,b≠a->b<w.heap.size->(sortWorldK enc k w a off m c d).heap[b]? =w.heap[b]? :=λb f g=>by
 show((putRow id (Go.Sort.ahead w m) a off (flatK enc k c)).heap++d)[b]? =_;have h:(putRow id (Go.Sort.ahead w m) a off (flatK enc k c)).heap.size=w.heap.size:=by simp[putRow,mapBlock,Go.Sort.ahead]
 rw[tr ow];show((Go.Sort.ahead w m).heap.modify a _)[b]? =_;rw[rV,iq (λe=>f e.symm)];rfl
section
variable{P:Program}{f cmp:FuncId}{β:Type}{k:Nat}{cells:β->List D}{xs:List β}{id:Nat}{pre post:List D}{h:Heap}{cf:β->β->Int}
abbrev KP(cells:β->List D)(xs:List β)(M:Imm)(ρ:Ren):= {p:β×List Value // p.1∈xs/\wJ M ρ (cells p.1) p.2/\(cells p.1).all D.flat=true}
abbrev zBC:= {p:D×Value // p.1.flat=true}
instance:Inhabited zBC:=⟨⟨(.bool true,.bool true),rfl⟩⟩
def dX{M:Imm}{ρ:Ren}(p:KP cells xs M ρ):List zBC:=((cells p.1.1).zip p.1.2).attach.map λq=>⟨q.1,by
 have h1:=(List.of_mem_zip q.2).1;exact zo.1 p.2.2.2 _ h1⟩
def VN(p:KP cells xs M ρ):(dX p).map (λq=>q.1.1)=cells p.1.1:=by
 have a:=qI p.2.2.1;unfold dX;rw[wF];show List.map (λq: {q // q∈(cells p.1.1).zip p.1.2} =>q.1.1) _=_;rw[show(λq: {q // q∈(cells p.1.1).zip p.1.2} =>q.1.1)=Prod.fst ∘ Subtype.val from rfl,<-wF,mb,List.map_fst_zip ow]
def VO(p:KP cells xs M ρ):(dX p).map (λq=>q.1.2)=p.1.2:=by
 have a:=qI p.2.2.1;unfold dX;rw[wF];show List.map (λq: {q // q∈(cells p.1.1).zip p.1.2} =>q.1.2) _=_;rw[show(λq: {q // q∈(cells p.1.1).zip p.1.2} =>q.1.2)=Prod.snd ∘ Subtype.val from rfl,<-wF,mb,List.map_snd_zip ow]
def Lj(p:KP cells xs M ρ):∀q∈dX p,rel M ρ q.1.1 q.1.2:=λq d=>by
 obtain⟨i,c⟩:=yw.1 d;have a:=congrArg (λl=>l[i]?) (VN p);have b:=congrArg (λl=>l[i]?) (VO p);simp only[zj,c,wB]at a b;obtain⟨v,e1,e2⟩:=sF p.2.2.1 i _ a.symm;rw[<-b]at e1;cases e1;exact e2
theorem Vc:∀{e c:List D}{vs:List Value},wJ M ρ (e++c) vs->∃b d,vs=b++d/\wJ M ρ e b/\wJ M ρ c d
 | [],c,vs,h=>⟨[],vs,rfl,by simp only[wJ],h⟩
 |a::e,c,vs,h=>by
  simp only[yE,wJ]at h;obtain⟨v,i,rfl,h1,f⟩:=h;obtain⟨b,d,rfl,h3,g⟩:=Vc f;exact⟨v::b,d,rfl,by simp only[wJ];exact⟨v,b,rfl,h1,h3⟩,g⟩
theorem zE.of_sortK{mid:List D}{midV:List Value}(bx:∀M ρ vs,wJ M ρ mid vs->vs=midV)(h0:xs≠[])(ak:0<k)(hk:∀x∈xs,(cells x).length=k)(he:pQ P f=true)(b6:∀args w,(callFunc cmp args).run P w=.ok (.enter cmp args) w)
  (Y:h.at' id=some (.row (pre++(xs.map cells).flatten++post))) (hO:SWO (ltOf cf)) (bo:xs.length<4611686018427387904)
  (a7:∀x∈xs,∀y∈xs,∀H,zE P cmp [.agg (cells x),.agg (cells y)] H λr H'=>H'=H/\r=.int .i64 (cf x y))
  (bs:∀(α:Type)[Inhabited α](enc:α->List Value),(∀x,(enc x).length=k)->(∀x,∀v∈enc x,v.oneCell'=true)->∀(cf:α->α->Int),SWO (ltOf cf)->∀(g:Nat)(cb:Array Value)(F off cap:Nat)(d:Array α)(w:World),
   (∀args w,(callFunc g args).run P w=.ok (.enter g args) w)->CmpLays P g cb enc k cf F off d.size w->HoldsK enc k w F off d->F<w.heap.size->d.size<4611686018427387904->
   d.size=xs.length->Calls P f (.slice (some ⟨F,off,none⟩) d.size cap::(midV++ [.func (.func g) #[] cb])).toArray w λe w'=>e=.returned (.tuple #[])/\∃A n os,PermIn 0 d.size d A/\SortedIn (ltOf cf) 0 d.size A/\w'=sortWorldK enc k w F off n A os):
  zE P f (.rs id k pre.length xs.length::(mid++ [.fn (.func cmp) [] []])) h λr h'=>r=.tuple []/\∃ys:List β,ys.Perm xs/\ys.Pairwise (λa b=>¬cf b a<0)/\h'=h.set id (.row (pre++(ys.map cells).flatten++post)):=by
 refine⟨he,λw0 G M ρ w va T Z bk hr=> ?_⟩;simp only[wJ]at hr;obtain⟨v,c7,cl,hv,cp⟩:=hr;obtain⟨vm,vf,rfl,a2,b4⟩:=Vc cp;have a2:=bx _ _ _ a2;subst a2;simp only[wJ]at b4;obtain⟨v2,c8,rfl,b2,rfl⟩:=b4;simp only[rel,wJ]at hv b2;obtain⟨_,cx,l,cap,o,hl,rfl,⟨c0,c1⟩,c6,ho⟩:=hv;obtain⟨_,fa,fc,rfl,b8,b9⟩:=b2;have a9:fa= #[]:=sS (by simpa using b8);have ba:fc= #[]:=sS (by simpa using b9);subst a9 ba;have cs:0<xs.length:=yA.2 h0;have ho:o=pre.length:=by
  rcases ho with hz|ho
  ·omega
  ·exact ho
 subst ho;have b3:va=(.slice (some ⟨l.blk,pre.length,none⟩) xs.length cap::(vm++ [.func (.func cmp) #[] #[]])).toArray:=sS (by simpa using cl);subst b3;obtain⟨l',h1,O,hM,c,e,hw,c5,a6,B⟩:=Z.live id _ Y;rw[hl]at h1;cases h1;have a5:l.blk<w.heap.size:=(yJ.1 hw).1;have hL:∀x∈xs.map cells,x.length=k:=λx hx=>by
  obtain⟨y,hy,rfl⟩:=zM.1 hx;exact hk y hy
 have bb:(xs.map cells).flatten.length=xs.length*k:=by rw[tE hL,zG]
 have S:∀i (E:i<xs.length),((c.toList.drop (pre.length+i*k)).take k).length=k/\wJ M ρ (cells xs[i]) ((c.toList.drop (pre.length+i*k)).take k)/\(cells xs[i]).all D.flat=true:=λi E=>by
  have c4:i*k+k<=xs.length*k:=by rw[<-qf];exact yv k E
  have cv:pre.length+xs.length*k+post.length<=c.size:=by have q:=a6;rwa [zR,zR,bb]at q
  have a0:=XH hL (i:=i) (x:=cells xs[i]) (by rw[zj,zB E];rfl);have cg:=hk xs[i] (zH E);have a4:∀j d,(cells xs[i])[j]? =some d->(pre++(xs.map cells).flatten++post)[pre.length+(i*k+j)]? =some d:=λj d N=>by
   have ai:j<k:=by have:=(zK.1 N).1;omega
   rw[qh,yT ow,uR,yg ow];rw[<-a0,yF,ip ai,qX]at N;exact N
  have Q:((c.toList.drop (pre.length+i*k)).take k).length=k:=by
   rw[yR,tF,yQ];omega
  refine⟨Q,wW (by rw[Q,cg]) λj d v C hv=> ?_,zo.2 λd C=> ?_⟩
  ·have ai:j<k:=by have:=(zK.1 C).1;omega
   obtain⟨_,u,e1,e2⟩:=B _ _ (a4 j d C);rw[yF,ip ai,qX,qn,wA,e1]at hv;cases hv;exact e2
  ·obtain⟨j,N⟩:=yw.1 C;exact(B _ _ (a4 j d N)).1
 let mk:_root_.Fin xs.length->KP cells xs M ρ:=λi=>⟨(xs[i.1],(c.toList.drop (pre.length+i.1*k)).take k),zH i.2,(S i.1 i.2).2.1,(S i.1 i.2).2.2⟩
 letI:Inhabited (KP cells xs M ρ):=⟨mk ⟨0,cs⟩⟩
 let enc:KP cells xs M ρ->List Value:=λp=>p.1.2
 have J:∀p,(enc p).length=k:=λp=>by rw[show(enc p).length=(cells p.1.1).length from qI p.2.2.1];exact hk _ p.2.1
 have ad:∀p,∀v∈enc p,v.oneCell'=true:=λp=>pF p.2.2.1 p.2.2.2
 let d:Array (KP cells xs M ρ):=Array.ofFn mk
 have C:d.size=xs.length:=by simp[d]
 have b7:∀i (E:i<xs.length),d[i]! =mk ⟨i,E⟩:=λi E=>by rw[uH d i (by rw[C];exact E)];simp[d]
 have a8:d.toList.map (λp=>p.1.1)=xs:=by
  apply sT;intro i;rw[zj,qn];by_cases E:i<xs.length
  ·rw[sK (by rw[C];exact E),zB E,wB];simp[d,mk]
  ·rw[rL ow,t4 ow];rfl
 have s:∀(V:Array (KP cells xs M ρ)),(V.toList.map dX).flatten.map (λq=>q.1.1)=((V.toList.map λp=>p.1.1).map cells).flatten/\(V.toList.map dX).flatten.map (λq=>q.1.2)=(V.toList.map enc).flatten:=λV=>by
  constructor
  ·rw[List.map_flatten,wF,wF];congr 1;exact wL λp _=>VN p
  ·rw[List.map_flatten,wF];congr 1;exact wL λp _=>VO p
 have b5:SWO (ltOf λp q:KP cells xs M ρ=>cf p.1.1 q.1.1):=⟨λx=>hO.irrefl _,λx y z=>hO.trans _ _ _,λx y z=>hO.ntrans _ _ _⟩;have cw:pre.length+xs.length*k+post.length<=c.size:=by have q:=a6;rwa [zR,zR,bb]at q
 have U:HoldsK enc k w l.blk pre.length d:=by
  intro j N;rw[size_flatK,C]at N;refine⟨?_,by simp[World.frozen?,hw]⟩;rw[get_flatK enc k d j (by rw[C];exact N)];have X:j/k<xs.length:=by rw[nV ak];exact N
  have hm:j%k<k:=aX _ ak;rw[b7 _ X];have cm:=(S (j/k) X).1;show _=some (_root_.id ((((c.toList.drop (pre.length+j/k*k)).take k))[j%k]!));have e5:j/k*k+j%k=j:=by rw[gR];exact Nat.div_add_mod j k
  have e6:((c.toList.drop (pre.length+j/k*k)).take k)[j%k]? =c[pre.length+j]? :=by
   rw[yF,ip hm,qX,wA,e5,qn]
  have h9:j%k<((c.toList.drop (pre.length+j/k*k)).take k).length:=by rw[cm];exact hm
  have e8:c[pre.length+j]? =some (((c.toList.drop (pre.length+j/k*k)).take k)[j%k]'h9):=by rw[<-e6];exact zB h9
  rw[uH (((c.toList.drop (pre.length+j/k*k)).take k)) (j%k) h9];simp only[World.cell?,hw,sC,zl,yy,_root_.id];exact e8
 have au:CmpLays P cmp #[] enc k (λp q=>cf p.1.1 q.1.1) l.blk pre.length d.size w:=by
  intro m os V c3 x y;have K:=YE enc k w l.blk pre.length m V os;have ag:KT P (sortWorldK enc k w l.blk pre.length m V os):=⟨λg hg=>by
   have h2:=T.here Z.below hg;unfold Lib.TabIs World.var? at h2⊢;rw[hg]at h2⊢;simp only[sw]at h2⊢;have L:=(T.1 g hg).1;rw[K g (λq=>O (q▸L)) (zq (w0.kept g L) Z.below.size)];exact h2,λg hg=>by
   obtain⟨m,hm⟩:=T.max Z.below hg;have L:=(T.2 g hg).1;exact⟨m,(wj (w:=w) (K g (λq=>O (q▸L)) (zq (w0.kept g L) Z.below.size))).trans hm⟩⟩
  refine zE.stays (λH=>(a7 x.1.1 x.2.1 y.1.1 y.2.1 H).mono λr H' X=>X.2) (λM ρ v hv=>by simp only[rel]at hv;exact hv.1) (M:=M) (ρ:=ρ) (n:=h.next) (λb o v hb=> ?_) ag bk ?_
  ·have ch:b≠l.blk:=λq=>by subst q;rw[hM o]at hb;cases hb
   rw[<-Z.imm b o v hb];exact wj (w:=w) (K b ch (Z.lt hb))
  ·have W:∀p:KP cells xs M ρ,rel M ρ (.agg (cells p.1.1)) (.agg (enc p).toArray):=λp=>by
    simp only[rel];exact⟨_,rfl,by simpa using p.2.2.1,p.2.2.2⟩
   show wJ M ρ _ [_,_];simp only[wJ];exact⟨_,_,rfl,W x,_,_,rfl,W y,rfl⟩
 have I:=bs (KP cells xs M ρ) enc J ad (λp q=>cf p.1.1 q.1.1) b5 cmp #[] l.blk pre.length cap d w b6 au U a5 (by rw[C];exact bo) C;rw[C]at I;refine I.mono λe w' X=> ?_;obtain⟨rfl,A,n,os,t,R,rfl⟩:=X;rw[<-C]at t;have b0:=PermIn.list t;have c2:A.size=xs.length:=by rw[t.1,C]
 have cu:(A.toList.map λp=>p.1.1).Perm xs:=by
  have q:=b0.map (λp=>p.1.1)
  rwa [a8]at q
 have a1:h.at' id=some (.row (pre++(d.toList.map dX).flatten.map (λq=>q.1.1)++post)):=by rw[(s d).1,a8];exact Y
 have b1:((A.toList.map dX).flatten:List zBC).Perm (d.toList.map dX).flatten:=(b0.map _).flatten;have hS:=(Z.ahead n).putRow (α:=zBC) (enc:=λq=>q.1.2) (dd:=λq=>q.1.1) (λq=>q.2) a1 hl b1.length_eq (λq X=>by
  obtain⟨p,hp,ck⟩:=List.mem_flatten.1 X;obtain⟨x,hx,rfl⟩:=zM.1 hp;exact Lj x q ck)
 have a3:=hS.grow os;rw[ZD,j7,(s A).2,<-LU J ak A,(s A).1]at a3;refine⟨.tuple #[],M,ρ,.tuple [],_,rfl,MLe.refl _,RLe.refl _,a3,bk,by simp only[rel,wJ];exact⟨#[],rfl,rfl⟩,rfl,A.toList.map (λp=>p.1.1),cu,?_,rfl⟩;rw[tT,uy];intro i j E N ca;have cc:j<A.size:=by simpa using N
 have:=R i j (yC _) ca ow;rw[uH A j cc,uH A i ow]at this;simpa [ltOf]using this
end
open Go.Proofs
def QC.swo{c:β->β->Int}(h:QC c):Go.Sort.SWO (ltOf c) where
 irrefl x:=by simp[ltOf,h.refl]
 trans x y z h1 h2:=by
  simp only[ltOf,zO]at *
  exact h.ltle h1 ow
 ntrans x y z h1 h2:=by
  simp only[ltOf,wg]at *
  have a1:=h.anti x y;have a2:=h.anti y z;have a3:=h.anti x z;have:=h.trans z y x ow ow;omega
open Go.Proofs.Tryz
open Go.Proofs Go.Shelf Go.Sort
set_option maxRecDepth 100000
def Tt(l:n<=1048576)(h:Heap):zE prog 234 [.int .u64 (n:Int)] h λr h'=>h'=h/\r=.int .i64 (Lib.bitLen n:Nat):=by
 refine(zE.of_lib (P:=prog) (f:=234) (ds:=[.int .u64 (n:Int)]) (d:=.int .i64 (Lib.bitLen n:Nat)) kr (λM ρ j w hr=> ?_) h).mono λa b c=>⟨c.2,c.1⟩;simp only[wJ,rel]at hr;obtain⟨v,vs,e,⟨rfl,_⟩,rfl⟩:=hr;have ev:j= #[.int .u64 (n:Int)]:=sS (by simpa using e);subst ev;have g:=Any.bits_Len (SlLaysF0.n15.bits (P:=prog) (ρ:=Tryz.sortLic_ren) { Tryz.sortLic with }) (n:Int) w ow ow;refine Calls.mono g λe m i=> ?_;obtain⟨rfl,rfl⟩:=i;refine⟨_,rfl,Bel.refl _ _,λM' o=> ?_⟩;rw[ui];have k:=Lib.bitLen_le n 62 ow ow;exact uM (by unfold fits;rw[qU ow ow])
def Gy{a b c:Int}(h:wJ M ρ [.int .i64 a,.int .i64 b,.int .i64 c] vs):vs= [.int .i64 a,.int .i64 b,.int .i64 c]:=by
 simp only[wJ,rel]at h;obtain⟨_,_,rfl,⟨rfl,_⟩,_,_,rfl,⟨rfl,_⟩,_,_,rfl,⟨rfl,_⟩,rfl⟩:=h;rfl
def zCS{id:Nat}{l:List Trm}(h0:l≠[])(C:l.length<=1048576)(a:g.at' id=some (.row (wt l).flatten)):
  zE prog 379 [.rs id 2 0 l.length,.int .i64 0,.int .i64 l.length,.int .i64 (Lib.bitLen l.length:Nat),.fn (.func 330) [] []] g λr h'=>r=.tuple []/\h'=g.set id (.row (wt (srt yk l)).flatten):=by
 have q:=Lib.bitLen_le l.length 62 ow ow;have:=zE.of_sortK (P:=prog) (f:=379) (cmp:=330) (k:=2) (cells:=Trm.cells) (xs:=l) (id:=id) (pre:=[]) (post:=[]) (h:=g) (cf:=yk) (mid:=[.int .i64 0,.int .i64 l.length,.int .i64 (Lib.bitLen l.length:Nat)]) (λM ρ vs h=>Gy h) h0 ow (λ_ _=>rfl) kr (enters_of func330 kr rfl) (by simpa [wt]using a) gx.swo ow
  (λx _ y _ H=>dW x y H) (λα _ enc h1 o cf j g cb b off cap d w u s i p c m=>by
   have:=AnyQ.pdqsortCmpFunc_all Tryz.pdqTrm 2 (isAgg197) (sizeOf197) enc cf g cb j b off cap d w u s ⟨h1,o,i,p⟩ (d.size+1) 0 d.size (Lib.bitLen d.size) d w ow rfl (SWK.start i) (yC _) (zD _) c (by rw[m];omega) (Or.inl rfl);rw[<-m];refine Calls.mono this λe D z=> ?_;obtain⟨t,n,B,A⟩:=z;have h:=pdq_sorts (ltOf cf) j d 0 d.size (Lib.bitLen d.size) true true (yC _) (zD _) (Or.inl rfl);exact⟨t,_,n,B,h.1,h.2,A⟩)
 refine this.mono λr h' ⟨e1,ys,v,c,e2⟩=>⟨e1,?_⟩;rw[e2,Md gx bG v c];simp[wt]
def B8{id:Nat}{l:List Trm}(h0:l≠[])(d:l.length<=1048576)(a:g.at' id=some (.row (wt l).flatten)):
  zE prog 329 [.rs id 2 0 l.length,.fn (.func 330) [] []] g λr h'=>r=.tuple []/\h'=g.set id (.row (wt (srt yk l)).flatten):=by
 have e:=λ(h:Heap)=>nM (P:=prog) (t:=195) (sz:=2) (id:=id) (off:=0) (len:=l.length) (h:=h) underlying195;have f:nR prog 3 299 (.int .i64 (l.length:Int))=some (.int .u64 (l.length:Int)):=by
  have i:prog.underlying 299=some (.int .u64):=kr;have j:IntKind.u64.wrap (l.length:Int)=l.length:=by
   unfold IntKind.wrap;simp[IntKind.signed,IntKind.bits];omega
  simp only[nR,underlying3,i,j]
 have b:=Tt d;have c:=zCS h0 d a;refine zu zLH ?_;simp only[f329,zA]
 repeat' first|simp only[go_sem, *]|apply bc<;>intro k|refine zE.use (b _) ?_|(refine zE.mono c ?_;rintro r h ⟨rfl,rfl⟩)
structure Alt where
 ts:List Trm
 d:D
structure Alt.Ok(a:Alt):Prop where
 sl:yi 2 (wt a.ts) a.d
 ne:a.ts≠[]
 len:a.ts.length<=4096
def mkA(ts:List Trm):Alt:=⟨ts,.sl 2 (wt ts) .no⟩
def qe(l:List Alt):List (List D):=l.map λa=>[a.d]
def qC(l:List Alt):(qe l).length=l.length:=zG ..
def Hw{l:List Alt}(h:i<l.length):(qe l)[i]? =some [l[i].d]:=by simp[qe,h]
def si(l:List Alt):∀x∈qe l,x.length=1:=λx a=>by
 obtain⟨s,_,rfl⟩:=zM.1 a;rfl
def oM(l:List Alt):(qe l).flatten=l.map Alt.d:=by
 induction l with
 |nil=>rfl
 |cons a l b=>simp only[qe,qm,yS]at b⊢;rw[b];rfl
def tn{l:List Alt}(a:yi 1 (qe l) d)(h:Heap):mC prog 44 d h=some (.int .i64 l.length):=by rw[wa a underlying44,qC]
def ox{l:List Alt}(a:yi 1 (qe l) d)(b:i<l.length):yt prog 44 d (.int .i64 (i:Int))=some (.iptr [l[i].d] 0):=yn a uV ue (Hw b)
def bd(a:List Trm):wr [(mkA a).d]:=by
 have h:=yj (sz:=2) (xs:=wt a) (λx b=>by
  obtain⟨y,_,rfl⟩:=zM.1 b;exact⟨rfl,by simp[Trm.cells,qO,below],rfl⟩) .no
 exact⟨rfl,by simp only[qO];exact⟨h.2,trivial⟩,by simp only[qY];rw[show(mkA a).d=.sl 2 (wt a) .no from rfl,h.1]⟩
variable{f:FuncId}{P:Program}{k:Nat}
def Tz{l:List Alt}(n:yi 1 (qe l) d)(D:l.length<=1048576){p:Alt->Bool}(z:∀s∈l,yi 2 (wt s.ts) s.d/\zE prog f ([]++ [s.d]++cap) g λr h'=>h'=g/\r=.bool (p s)):
  zE prog 190 [d,.fn (.func f) [] cap] g λr h'=>h'=g/\r=.int .i64 (UO p l):=by
 have o:=tn n;refine zu zFR ?_;simp only[f190,zA]
 repeat' first|simp only[go_sem, *]|apply bc<;>intro m
 refine zd (λi fr h=>fr 1=.fn (.func f) [] cap/\fr 0=d/\fr 6=d/\fr 7=.int .i64 (l.length:Int)/\fr 8=.int .i64 (i:Int)/\h=g/\∀j (b:j<l.length),j<i->p l[j]=false) l.length ow ?_ ?_ ?_
 ·simp only[go_sem,zT,zV,zI];exact λj b h0=>by omega
 ·rintro i fr h a e1 C ⟨t,q,u,v,w,rfl,b⟩;have B:=ox n a;obtain⟨y,e⟩:=z _ (zH a);obtain⟨k1,k2,k3⟩:=yP y;simp only[yc,yE]at e;cases k:p l[i]with
  |true=>
   have A:=jV a b k;rw[k]at e
   repeat' first|simp only[go_sem, *]|apply bc<;>intro m|refine zE.use e ?_
  |false=>
   have x:=tB (p:=p) a b k;rw[k]at e
   repeat' first|simp only[go_sem, *]|apply bc<;>intro m|refine zE.use e ?_
   exact x
 ·rintro fr h e1 ⟨t,q,u,v,w,rfl,b⟩;have A:=jW (p:=p) λj c=>b j c c;exact au
def gW{l:List Alt}(b:yi 1 (qe l) d)(e:l.length<=1048576){p:Alt->Bool}(h:∀s∈l,yi 2 (wt s.ts) s.d/\zE prog f ([]++ [s.d]++cap) g λr h'=>h'=g/\r=.bool (p s)):
  zE prog 124 [d,.fn (.func f) [] cap] g λr h'=>h'=g/\r=.bool (l.any p):=by
 have a:=Tz b e h;have c:=gb (l:=l) (p:=p);refine zu zE5 ?_;simp only[f124,zA]
 repeat' first|simp only[go_sem, *]|apply bc<;>intro i|refine zE.use a ?_
def cQ(d:D)(nid:Nat)(h:Heap)(h1:d.cells= [d])(a:d.notTuple=true)(h3:d.flat=true):yB prog false nid 44 1 [(0,d)] h=some (.sl 1 [[d]] .full,h):=by
 have:=qW (P:=prog) (nid:=nid) (h:=h) (x:=d) uV fU ue rfl rfl ow ow a (by rw[h1];rfl);rw[h1]at this;exact this
def zCO{id:Nat}{a b:Alt}(c:a.Ok)(e:b.Ok)(h:g.at' id=some (.row [a.d])):
  zE prog 334 [b.d,.ptr id 0] g λr h'=>h'=g/\r=.bool (ct a.ts b.ts):=by
 have f:=UC c.sl e.sl (by have:=c.len;omega) (by have:=e.len;omega);refine zu zLL ?_;simp only[f334,zA]
 repeat' first|simp only[go_sem, *]|apply bc<;>intro f|refine zE.use (f _) ?_
end Go.V
