/- Rules of the machine of abstract values, part 9. No condition. -/
import Derived.Test.YtmkfpfodpehkoaaGreatDoorW33
set_option linter.all false
set_option maxHeartbeats 8000000
namespace Go.V
open Go.Shelf Go.Proofs Go.Sort
open Go.RowKit (Below)
variable{P:Program}{f:FuncId}{args cs:List D}{d:D}{M:Imm}{ρ:Ren}{w:World}{n k:Nat}{va:Array Value}{α β:Type}{vs:List Value}{g:Heap}{ys:List (List D)}{tk:Tk}{t u:TypeId}{K:D->Heap->Prop}
def zB.stays{x:Value}(A:∀H,zB P f args H λr _=>r=d)(t:∀M ρ v,rel M ρ d v->v=x)
  (h:∀b o v,M b o=some v->w.cell? ⟨b,o,none⟩ =some v) (u:La P w) (k:kD ρ n) (hr:wL M ρ args va.toList):
  Calls P f va w λe a=>e=.returned x/\∃q os,a=Go.Sort.grow (w.drewN q) os:=by
 let B:Base:=⟨w,M,λb=>b<w.heap.size,λ_ g=>g⟩
 have z:Sim B [] M ρ ⟨n,λ_=>none⟩ w:=
  { below:=⟨rfl,rfl,rfl,zD _,λ_ _=>rfl,zD _⟩,imm:=h,live:=λi I e=>(by cases e),apart:=λi j J K F G e=>(by cases e),gdef:=λb g=>(by cases g),old:=λb o v _ e=>e }
 refine((A ⟨n,λ_=>none⟩).2 B [] M ρ w va (Uv.start u) z k hr).mono λe a y=> ?_;obtain⟨v,M',L,C,h',rfl,_,_,k3,_,k5,rfl⟩:=y;refine⟨by rw[t _ _ _ k5],a.drawn-w.drawn,a.heap.extract w.heap.size a.heap.size,?_⟩;have c:=k3.below;have e1:a.os=w.os:=c.os;have e2:a.tape=w.tape:=c.tape;have e3:a.output=w.output:=c.output;have p:w.drawn<=a.drawn:=c.drawn;have D:w.heap.size<=a.heap.size:=c.size;have s:∀b,b<w.heap.size->a.heap[b]? =w.heap[b]? :=λb g=>c.block b g;have l:a.heap=w.heap++a.heap.extract w.heap.size a.heap.size:=by
  apply Array.ext_getElem?;intro i;rw[Array.getElem?_append];split
  ·rename_i m;rw[s i m]
  ·rename_i m;rw[Array.getElem?_extract];split
   ·congr 1;omega
   ·rename_i E;rw[s8 ow]
 cases a;cases w;simp only at e1 e2 e3 p l;subst e1 e2 e3;simp only[Go.Sort.grow,World.drewN,World.mk.injEq,zQ,zS];exact⟨l,by omega⟩
def RJ [Inhabited α](enc:α->Value)(off:Nat)(d:Array α)(c:Array Value):putCells enc off d c=putCells id off (d.map enc) c:=by
 unfold putCells;congr 1
 funext k x
 simp only[Array.size_map,id];split
 ·rename_i h;rw[uJ d _ ow,uJ (d.map enc) _ (by simp;omega),Array.getElem_map]
 ·rfl
def aM [Inhabited α](enc:α->Value)(w:World)(a off:Nat)(d:Array α):putRow enc w a off d=putRow id w a off (d.map enc):=by
 unfold putRow;congr 1
 funext c
 exact RJ enc off d c
theorem EW:∀{xs:List (List Value)}(_:∀x∈xs,x.length=k){i j:Nat}(_:j<k){x:List Value}(_:xs[i]? =some x),xs.flatten[i*k+j]? =x[j]?
 | [],_,i,j,_,x,h=>by simp at h
 |y::xs,a,0,j,b,x,h=>by
  simp only[wb,wt]at h;subst h;rw[pV,yo,yc,yk (by rw[a y (by simp)];exact b)]
 |y::xs,a,i+1,j,b,x,h=>by
  simp only[tC]at h;have d:=a y (by simp);rw[yc,qf,yf ow,show i*k+k+j-y.length=i*k+j by omega];exact EW (λz c=>a z (by simp[c])) b h
theorem We:∀{xs:List (List Value)}(_:∀x∈xs,x.length=k),xs.flatten.length=xs.length*k
 | [],_=>by simp
 |y::xs,a=>by rw[yc,zM,a y (by simp),We λz b=>a z (by simp[b]),zm,qf];omega
def Mg [Inhabited α]{enc:α->List Value}(b:∀x,(enc x).length=k)(h1:0<k)(d:Array α):flatK enc k d=(d.toList.map enc).flatten.toArray:=by
 apply Array.ext_getElem?;intro i;have c:∀x∈d.toList.map enc,x.length=k:=λx l=>by
  obtain⟨y,_,rfl⟩:=zT.1 l;exact b y
 have f:(d.toList.map enc).flatten.length=d.size*k:=by rw[We c,zI,yJ]
 by_cases a:i<d.size*k
 ·have j:i/k<d.size:=by rw[ou h1];exact a
  have h:i%k<k:=fC _ h1;have e:(d.toList.map enc)[i/k]? =some (enc d[i/k]!):=by
   rw[yK,uJ d _ j,qX,t8 j];rfl
  have:=EW c h e;rw[pU,Nat.div_add_mod]at this;have g:=get_flatK enc k d i a;rw[uJ (flatK enc k d) i (by simpa using a)]at g;rw[t8 (by simpa using a),g,tu,this,uJ (enc d[i/k]!) (i%k) (by rw[b];exact h),zE]
 ·rw[s8 (by simpa using a),tu,og ow]
def PermIn.list [Inhabited α]{d a:Array α}(h:PermIn 0 d.size d a):a.toList.Perm d.toList:=by
 obtain⟨h1,_,h3⟩:=h;have e1:a.extract 0 d.size=a:=by rw[<-h1];simp
 have e2:d.extract 0 d.size=d:=by simp
 rwa [e1,e2]at h3
def Ze [Inhabited α](enc:α->List Value)(k:Nat)(w:World)(a off m:Nat)(c:Array α)(os:Array Go.Obj):∀b,b≠a->b<w.heap.size->(sortWorldK enc k w a off m c os).heap[b]? =w.heap[b]? :=λb d f=>by
 show((putRow id (Go.Sort.ahead w m) a off (flatK enc k c)).heap++os)[b]? =_;have g:(putRow id (Go.Sort.ahead w m) a off (flatK enc k c)).heap.size=w.heap.size:=by simp[putRow,mapBlock,Go.Sort.ahead]
 rw[tm ow];show((Go.Sort.ahead w m).heap.modify a _)[b]? =_;rw[rI,iq (λe=>d e.symm)];rfl
section
variable{P:Program}{f cmp:FuncId}{β:Type}{k:Nat}{cells:β->List D}{xs:List β}{id:Nat}{pre post:List D}{h:Heap}{cf:β->β->Int}
abbrev LV(cells:β->List D)(xs:List β)(M:Imm)(ρ:Ren):= {p:β×List Value // p.1∈xs/\wL M ρ (cells p.1) p.2/\(cells p.1).all D.flat=true}
abbrev Bj:= {p:D×Value // p.1.flat=true}
instance:Inhabited Bj:=⟨⟨(.bool true,.bool true),rfl⟩⟩
def dL{M:Imm}{ρ:Ren}(p:LV cells xs M ρ):List Bj:=((cells p.1.1).zip p.1.2).attach.map λq=>⟨q.1,by
 have h1:=(List.of_mem_zip q.2).1;exact ze.1 p.2.2.2 _ h1⟩
def Wo(p:LV cells xs M ρ):(dL p).map (λq=>q.1.1)=cells p.1.1:=by
 have a:=yu p.2.2.1;unfold dL;rw[qm];show List.map (λq: {q // q∈(cells p.1.1).zip p.1.2} =>q.1.1) _=_;rw[show(λq: {q // q∈(cells p.1.1).zip p.1.2} =>q.1.1)=Prod.fst ∘ Subtype.val from rfl,<-qm,mD,List.map_fst_zip ow]
def Wp(p:LV cells xs M ρ):(dL p).map (λq=>q.1.2)=p.1.2:=by
 have a:=yu p.2.2.1;unfold dL;rw[qm];show List.map (λq: {q // q∈(cells p.1.1).zip p.1.2} =>q.1.2) _=_;rw[show(λq: {q // q∈(cells p.1.1).zip p.1.2} =>q.1.2)=Prod.snd ∘ Subtype.val from rfl,<-qm,mD,List.map_snd_zip ow]
def Mu(p:LV cells xs M ρ):∀q∈dL p,rel M ρ q.1.1 q.1.2:=λq d=>by
 obtain⟨i,c⟩:=yY.1 d;have a:=congrArg (λl=>l[i]?) (Wo p);have b:=congrArg (λl=>l[i]?) (Wp p);simp only[yK,c,qo]at a b;obtain⟨v,e1,e2⟩:=t7 p.2.2.1 i _ a.symm;rw[<-b]at e1;cases e1;exact e2
theorem W2:∀{e c:List D}{vs:List Value},wL M ρ (e++c) vs->∃b d,vs=b++d/\wL M ρ e b/\wL M ρ c d
 | [],c,vs,h=>⟨[],vs,rfl,by simp only[wL],h⟩
 |a::e,c,vs,h=>by
  simp only[z9,wL]at h;obtain⟨v,i,rfl,h1,f⟩:=h;obtain⟨b,d,rfl,h3,g⟩:=W2 f;exact⟨v::b,d,rfl,by simp only[wL];exact⟨v,b,rfl,h1,h3⟩,g⟩
theorem zB.of_sortK{mid:List D}{midV:List Value}(bs:∀M ρ vs,wL M ρ mid vs->vs=midV)(h0:xs≠[])(ai:0<k)(hk:∀x∈xs,(cells x).length=k)(he:pO P f=true)(b6:∀args w,(callFunc cmp args).run P w=.ok (.enter cmp args) w)
  (Y:h.at' id=some (.row (pre++(xs.map cells).flatten++post))) (hO:SWO (ltOf cf)) (bd:xs.length<4611686018427387904)
  (a6:∀x∈xs,∀y∈xs,∀H,zB P cmp [.agg (cells x),.agg (cells y)] H λr H'=>H'=H/\r=.int .i64 (cf x y))
  (bk:∀(α:Type)[Inhabited α](enc:α->List Value),(∀x,(enc x).length=k)->(∀x,∀v∈enc x,v.oneCell'=true)->∀(cf:α->α->Int),SWO (ltOf cf)->∀(g:Nat)(cb:Array Value)(F off cap:Nat)(d:Array α)(w:World),
   (∀args w,(callFunc g args).run P w=.ok (.enter g args) w)->CmpLays P g cb enc k cf F off d.size w->HoldsK enc k w F off d->F<w.heap.size->d.size<4611686018427387904->
   d.size=xs.length->Calls P f (.slice (some ⟨F,off,none⟩) d.size cap::(midV++ [.func (.func g) #[] cb])).toArray w λe w'=>e=.returned (.tuple #[])/\∃A n os,PermIn 0 d.size d A/\SortedIn (ltOf cf) 0 d.size A/\w'=sortWorldK enc k w F off n A os):
  zB P f (.rs id k pre.length xs.length::(mid++ [.fn (.func cmp) [] []])) h λr h'=>r=.tuple []/\∃ys:List β,ys.Perm xs/\ys.Pairwise (λa b=>¬cf b a<0)/\h'=h.set id (.row (pre++(ys.map cells).flatten++post)):=by
 refine⟨he,λw0 G M ρ w va T Z bb hr=> ?_⟩;simp only[wL]at hr;obtain⟨v,c9,cm,hv,cs⟩:=hr;obtain⟨vm,vf,rfl,a1,b4⟩:=W2 cs;have a1:=bs _ _ _ a1;subst a1;simp only[wL]at b4;obtain⟨v2,da,rfl,b1,rfl⟩:=b4;simp only[rel,wL]at hv b1;obtain⟨_,c1,l,cap,o,hl,rfl,⟨c2,c3⟩,c8,ho⟩:=hv;obtain⟨_,fa,fc,rfl,b8,b9⟩:=b1;have a8:fa= #[]:=sr (by simpa using b8);have a9:fc= #[]:=sr (by simpa using b9);subst a8 a9;have cu:0<xs.length:=yF.2 h0;have ho:o=pre.length:=by
  rcases ho with hz|ho
  ·omega
  ·exact ho
 subst ho;have b3:va=(.slice (some ⟨l.blk,pre.length,none⟩) xs.length cap::(vm++ [.func (.func cmp) #[] #[]])).toArray:=sr (by simpa using cm);subst b3;obtain⟨l',h1,O,hM,c,e,hw,c7,a5,B⟩:=Z.live id _ Y;rw[hl]at h1;cases h1;have a4:l.blk<w.heap.size:=(yE.1 hw).1;have hL:∀x∈xs.map cells,x.length=k:=λx hx=>by
  obtain⟨y,hy,rfl⟩:=zT.1 hx;exact hk y hy
 have ba:(xs.map cells).flatten.length=xs.length*k:=by rw[tE hL,zI]
 have S:∀i (E:i<xs.length),((c.toList.drop (pre.length+i*k)).take k).length=k/\wL M ρ (cells xs[i]) ((c.toList.drop (pre.length+i*k)).take k)/\(cells xs[i]).all D.flat=true:=λi E=>by
  have c6:i*k+k<=xs.length*k:=by rw[<-qf];exact yW k E
  have cw:pre.length+xs.length*k+post.length<=c.size:=by have q:=a5;rwa [zM,zM,ba]at q
  have au:=Yl hL (i:=i) (x:=cells xs[i]) (by rw[yK,zE E];rfl);have cg:=hk xs[i] (zG E);have a3:∀j d,(cells xs[i])[j]? =some d->(pre++(xs.map cells).flatten++post)[pre.length+(i*k+j)]? =some d:=λj d N=>by
   have ag:j<k:=by have:=(zR.1 N).1;omega
   rw[z8,yf ow,pq,yk ow];rw[<-au,yC,ip ag,yh]at N;exact N
  have Q:((c.toList.drop (pre.length+i*k)).take k).length=k:=by
   rw[z7,uw,yJ];omega
  refine⟨Q,wS (by rw[Q,cg]) λj d v C hv=> ?_,ze.2 λd C=> ?_⟩
  ·have ag:j<k:=by have:=(zR.1 C).1;omega
   obtain⟨_,u,e1,e2⟩:=B _ _ (a3 j d C);rw[yC,ip ag,yh,qX,wB,e1]at hv;cases hv;exact e2
  ·obtain⟨j,N⟩:=yY.1 C;exact(B _ _ (a3 j d N)).1
 let mk:_root_.Fin xs.length->LV cells xs M ρ:=λi=>⟨(xs[i.1],(c.toList.drop (pre.length+i.1*k)).take k),zG i.2,(S i.1 i.2).2.1,(S i.1 i.2).2.2⟩
 letI:Inhabited (LV cells xs M ρ):=⟨mk ⟨0,cu⟩⟩
 let enc:LV cells xs M ρ->List Value:=λp=>p.1.2
 have J:∀p,(enc p).length=k:=λp=>by rw[show(enc p).length=(cells p.1.1).length from yu p.2.2.1];exact hk _ p.2.1
 have ab:∀p,∀v∈enc p,v.oneCell'=true:=λp=>rg p.2.2.1 p.2.2.2
 let d:Array (LV cells xs M ρ):=Array.ofFn mk
 have C:d.size=xs.length:=by simp[d]
 have b7:∀i (E:i<xs.length),d[i]! =mk ⟨i,E⟩:=λi E=>by rw[uJ d i (by rw[C];exact E)];simp[d]
 have a7:d.toList.map (λp=>p.1.1)=xs:=by
  apply oC;intro i;rw[yK,qX];by_cases E:i<xs.length
  ·rw[t8 (by rw[C];exact E),zE E,qo];simp[d,mk]
  ·rw[s8 ow,og ow];rfl
 have s:∀(V:Array (LV cells xs M ρ)),(V.toList.map dL).flatten.map (λq=>q.1.1)=((V.toList.map λp=>p.1.1).map cells).flatten/\(V.toList.map dL).flatten.map (λq=>q.1.2)=(V.toList.map enc).flatten:=λV=>by
  constructor
  ·rw[List.map_flatten,qm,qm];congr 1;exact wI λp _=>Wo p
  ·rw[List.map_flatten,qm];congr 1;exact wI λp _=>Wp p
 have b5:SWO (ltOf λp q:LV cells xs M ρ=>cf p.1.1 q.1.1):=⟨λx=>hO.irrefl _,λx y z=>hO.trans _ _ _,λx y z=>hO.ntrans _ _ _⟩;have c0:pre.length+xs.length*k+post.length<=c.size:=by have q:=a5;rwa [zM,zM,ba]at q
 have U:HoldsK enc k w l.blk pre.length d:=by
  intro j N;rw[size_flatK,C]at N;refine⟨?_,by simp[World.frozen?,hw]⟩;rw[get_flatK enc k d j (by rw[C];exact N)];have X:j/k<xs.length:=by rw[ou ai];exact N
  have hm:j%k<k:=fC _ ai;rw[b7 _ X];have cp:=(S (j/k) X).1;show _=some (_root_.id ((((c.toList.drop (pre.length+j/k*k)).take k))[j%k]!));have e5:j/k*k+j%k=j:=by rw[pU];exact Nat.div_add_mod j k
  have e6:((c.toList.drop (pre.length+j/k*k)).take k)[j%k]? =c[pre.length+j]? :=by
   rw[yC,ip hm,yh,wB,e5,qX]
  have h9:j%k<((c.toList.drop (pre.length+j/k*k)).take k).length:=by rw[cp];exact hm
  have e8:c[pre.length+j]? =some (((c.toList.drop (pre.length+j/k*k)).take k)[j%k]'h9):=by rw[<-e6];exact zE h9
  rw[uJ (((c.toList.drop (pre.length+j/k*k)).take k)) (j%k) h9];simp only[World.cell?,hw,rD,zW,yz,_root_.id];exact e8
 have ak:CmpLays P cmp #[] enc k (λp q=>cf p.1.1 q.1.1) l.blk pre.length d.size w:=by
  intro m os V c5 x y;have K:=Ze enc k w l.blk pre.length m V os;have ad:La P (sortWorldK enc k w l.blk pre.length m V os):=⟨λg hg=>by
   have h2:=T.here Z.below hg;unfold Lib.TabIs World.var? at h2⊢;rw[hg]at h2⊢;simp only[sf]at h2⊢;have L:=(T.1 g hg).1;rw[K g (λq=>O (q▸L)) (zy (w0.kept g L) Z.below.size)];exact h2,λg hg=>by
   obtain⟨m,hm⟩:=T.max Z.below hg;have L:=(T.2 g hg).1;exact⟨m,(wh (w:=w) (K g (λq=>O (q▸L)) (zy (w0.kept g L) Z.below.size))).trans hm⟩⟩
  refine zB.stays (λH=>(a6 x.1.1 x.2.1 y.1.1 y.2.1 H).mono λr H' X=>X.2) (λM ρ v hv=>by simp only[rel]at hv;exact hv.1) (M:=M) (ρ:=ρ) (n:=h.next) (λb o v hb=> ?_) ad bb ?_
  ·have ch:b≠l.blk:=λq=>by subst q;rw[hM o]at hb;cases hb
   rw[<-Z.imm b o v hb];exact wh (w:=w) (K b ch (Z.lt hb))
  ·have W:∀p:LV cells xs M ρ,rel M ρ (.agg (cells p.1.1)) (.agg (enc p).toArray):=λp=>by
    simp only[rel];exact⟨_,rfl,by simpa using p.2.2.1,p.2.2.2⟩
   show wL M ρ _ [_,_];simp only[wL];exact⟨_,_,rfl,W x,_,_,rfl,W y,rfl⟩
 have I:=bk (LV cells xs M ρ) enc J ab (λp q=>cf p.1.1 q.1.1) b5 cmp #[] l.blk pre.length cap d w b6 ak U a4 (by rw[C];exact bd) C;rw[C]at I;refine I.mono λe w' X=> ?_;obtain⟨rfl,A,n,os,t,R,rfl⟩:=X;rw[<-C]at t;have bx:=PermIn.list t;have c4:A.size=xs.length:=by rw[t.1,C]
 have cv:(A.toList.map λp=>p.1.1).Perm xs:=by
  have q:=bx.map (λp=>p.1.1)
  rwa [a7]at q
 have a0:h.at' id=some (.row (pre++(d.toList.map dL).flatten.map (λq=>q.1.1)++post)):=by rw[(s d).1,a7];exact Y
 have b0:((A.toList.map dL).flatten:List Bj).Perm (d.toList.map dL).flatten:=(bx.map _).flatten;have hS:=(Z.ahead n).putRow (α:=Bj) (enc:=λq=>q.1.2) (dd:=λq=>q.1.1) (λq=>q.2) a0 hl b0.length_eq (λq X=>by
  obtain⟨p,hp,cl⟩:=List.mem_flatten.1 X;obtain⟨x,hx,rfl⟩:=zT.1 hp;exact Mu x q cl)
 have a2:=hS.grow os;rw[aM,jh,(s A).2,<-Mg J ai A,(s A).1]at a2;refine⟨.tuple #[],M,ρ,.tuple [],_,rfl,MLe.refl _,RLe.refl _,a2,bb,by simp only[rel,wL];exact⟨#[],rfl,rfl⟩,rfl,A.toList.map (λp=>p.1.1),cv,?_,rfl⟩;rw[kF,ua];intro i j E N ca;have cc:j<A.size:=by simpa using N
 have:=R i j (yg _) ca ow;rw[uJ A j cc,uJ A i ow]at this;simpa [ltOf]using this
end
open Go.Proofs
def QC.swo{c:β->β->Int}(h:QC c):Go.Sort.SWO (ltOf c) where
 irrefl x:=by simp[ltOf,h.refl]
 trans x y z h1 h2:=by
  simp only[ltOf,zP]at *
  exact h.ltle h1 ow
 ntrans x y z h1 h2:=by
  simp only[ltOf,yy]at *
  have a1:=h.anti x y;have a2:=h.anti y z;have a3:=h.anti x z;have:=h.trans z y x ow ow;omega
open Go.Proofs.Tryz
open Go.Proofs Go.Shelf Go.Sort
set_option maxRecDepth 100000
def U7(l:n<=1048576)(h:Heap):zB prog 156 [.int .u64 (n:Int)] h λr h'=>h'=h/\r=.int .i64 (Lib.bitLen n:Nat):=by
 refine(zB.of_lib (P:=prog) (f:=156) (ds:=[.int .u64 (n:Int)]) (d:=.int .i64 (Lib.bitLen n:Nat)) kr (λM ρ j w hr=> ?_) h).mono λa b c=>⟨c.2,c.1⟩;simp only[wL,rel]at hr;obtain⟨v,vs,e,⟨rfl,_⟩,rfl⟩:=hr;have ev:j= #[.int .u64 (n:Int)]:=sr (by simpa using e);subst ev;have g:=Any.bits_Len (SlLaysF0.n15.bits (P:=prog) (ρ:=Tryz.sortLic_ren) { Tryz.sortLic with }) (n:Int) w ow ow;refine Calls.mono g λe m i=> ?_;obtain⟨rfl,rfl⟩:=i;refine⟨_,rfl,Bel.refl _ _,λM' o=> ?_⟩;rw[rY];have k:=Lib.bitLen_le n 62 ow ow;exact uD (by unfold fits;rw[qE ow ow])
def Hs{a b c:Int}(h:wL M ρ [.int .i64 a,.int .i64 b,.int .i64 c] vs):vs= [.int .i64 a,.int .i64 b,.int .i64 c]:=by
 simp only[wL,rel]at h;obtain⟨_,_,rfl,⟨rfl,_⟩,_,_,rfl,⟨rfl,_⟩,_,_,rfl,⟨rfl,_⟩,rfl⟩:=h;rfl
def A1{id:Nat}{l:List Trm}(h0:l≠[])(C:l.length<=1048576)(a:g.at' id=some (.row (wW l).flatten)):
  zB prog 318 [.rs id 2 0 l.length,.int .i64 0,.int .i64 l.length,.int .i64 (Lib.bitLen l.length:Nat),.fn (.func 269) [] []] g λr h'=>r=.tuple []/\h'=g.set id (.row (wW (srt yI l)).flatten):=by
 have s:=Lib.bitLen_le l.length 62 ow ow;have:=zB.of_sortK (P:=prog) (f:=318) (cmp:=269) (k:=2) (cells:=Trm.cells) (xs:=l) (id:=id) (pre:=[]) (post:=[]) (h:=g) (cf:=yI) (mid:=[.int .i64 0,.int .i64 l.length,.int .i64 (Lib.bitLen l.length:Nat)]) (λM ρ vs h=>Hs h) h0 ow (λ_ _=>rfl) kr (enters_of func269 kr rfl) (by simpa [wW]using a) sI.swo ow
  (λx _ y _ H=>dH x y H) (λα _ enc h1 p cf j g o b off cap d w v t i q c m=>by
   have:=AnyQ.pdqsortCmpFunc_all Tryz.pdqTrm 2 (isAgg112) (sizeOf112) enc cf g o j b off cap d w v t ⟨h1,p,i,q⟩ (d.size+1) 0 d.size (Lib.bitLen d.size) d w ow rfl (SWK.start i) (yg _) (zD _) c (by rw[m];omega) (Or.inl rfl);rw[<-m];refine Calls.mono this λe D A=> ?_;obtain⟨u,n,os,B⟩:=A;have h:=pdq_sorts (ltOf cf) j d 0 d.size (Lib.bitLen d.size) true true (yg _) (zD _) (Or.inl rfl);exact⟨u,_,n,os,h.1,h.2,B⟩)
 refine this.mono λr h' ⟨e1,ys,z,c,e2⟩=>⟨e1,?_⟩;rw[e2,Rb sI mO z c];simp[wW]
def Dn{id:Nat}{l:List Trm}(h0:l≠[])(d:l.length<=1048576)(a:g.at' id=some (.row (wW l).flatten)):
  zB prog 268 [.rs id 2 0 l.length,.fn (.func 269) [] []] g λr h'=>r=.tuple []/\h'=g.set id (.row (wW (srt yI l)).flatten):=by
 have e:=λ(h:Heap)=>lz (P:=prog) (t:=108) (sz:=2) (id:=id) (off:=0) (len:=l.length) (h:=h) underlying108;have f:oc prog 3 210 (.int .i64 (l.length:Int))=some (.int .u64 (l.length:Int)):=by
  have i:prog.underlying 210=some (.int .u64):=kr;have j:IntKind.u64.wrap (l.length:Int)=l.length:=by
   unfold IntKind.wrap;simp[IntKind.signed,IntKind.bits];omega
  simp only[oc,underlying3,i,j]
 have b:=U7 d;have c:=A1 h0 d a;refine z5 zHd ?_;simp only[f268,zA]
 repeat' first|simp only[go_sem, *]|apply bc<;>intro k|refine zB.use (b _) ?_|(refine zB.mono c ?_;rintro r h ⟨rfl,rfl⟩)
def YA(h0 h:Heap)(sz:Nat)(xs:List (List D))(d:D):Prop:=Ext h0 h/\((d=.nilsl/\xs= [])\/∃id,d=.rs id sz 0 xs.length/\h.at' id=some (.row xs.flatten)/\h0.next<=id/\id<h.next/\xs≠[])
section
variable{h0 h h':Heap}{sz:Nat}{xs:List (List D)}{d:D}
def YA.start(a:Ext h0 h)(sz:Nat):YA h0 h sz [] .nilsl:=⟨a,.inl ⟨rfl,rfl⟩⟩
def YA.ext(b:YA h0 h sz xs d)(a:Ext h h'):YA h0 h' sz xs d:=by
 refine⟨b.1.trans a,?_⟩;rcases b.2 with h1| ⟨id,rfl,h1,c,h3,e⟩
 ·exact .inl h1
 ·exact .inr ⟨id,rfl,by rw[a.2 _ h3];exact h1,c,zy h3 a.1,e⟩
def YA.flat(a:YA h0 h sz xs d):d.flat=true/\d.cells= [d]/\d.notTuple=true:=by
 rcases a.2 with⟨rfl,_⟩ | ⟨t,rfl,_⟩ <;>exact⟨rfl,rfl,rfl⟩
def YA.trunc(b:YA h0 h sz xs d)(a:∀y∈xs,y.length=sz)(x:D):sY d x h=h:=by
 rcases b.2 with⟨rfl,_⟩ | ⟨id,rfl,h1,_⟩
 ·rfl
 ·unfold sY;simp only;split
  ·rfl
  ·rw[h1];simp only;rw[iq (by rw[tE a];simp)]
variable{P:Program}
def RV{e x:TypeId}(a:P.underlying e=some (.slice x)):nU P e cs=.row cs:=by simp[nU,a]
def YA.app{t e:TypeId}(r:YA h0 h sz xs d)(v:tQ P t=some e)(A:X0 P e=true)(z:szT P e=sz)(x:0<sz)(hr:∀cs,nU P e cs=.row cs)(g:∀y∈xs,y.length=sz)(p:∀y∈ys,y.length=sz)(c:ys≠[])
  (j:(xs.length+ys.length)*uW P e<=lim) (m:xs.length+ys.length<=lim):∃a G,qh P true h.next t d (.sl sz ys tk) h=some (a,G)/\YA h0 G sz (xs++ys) a/\sY d (.sl sz ys tk) h=h:=by
 have f:=r.trunc g (.sl sz ys tk)
 suffices∃a G,qh P true h.next t d (.sl sz ys tk) h=some (a,G)/\YA h0 G sz (xs++ys) a from by
  obtain⟨a,G,B,C⟩:=this;exact⟨a,G,B,C,f⟩
 clear f;have l:ys.flatten.length=ys.length*sz:=tE p;have q:0<ys.length:=yF.2 c;obtain⟨b,u⟩:=r;simp only[qh,v,A,z,LF,qG,l,ur _ x];have n:∀o,Ext h0 (h.new h.next o):=λo=>b.new b.1 o;rcases u with⟨rfl,rfl⟩ | ⟨id,rfl,h1,D,h3,E⟩
 ·refine⟨.rs h.next sz 0 ys.length,h.new h.next (.row ys.flatten),?_,n _,.inr ⟨h.next,by simp,by rw[yQ];rfl,b.1,by rw[yA];omega,by simpa using c⟩⟩;simp only[th];rw[iq ow,ip (by simp only[zC,zP];simp only[yw,yo]at j m;exact⟨j,m⟩)];simp[hr]
 ·have k:xs.flatten.length=xs.length*sz:=tE g;have s:Ext h0 ((h.del id).new h.next (.row (xs.flatten++ys.flatten))):=by
   refine⟨za b.1 (by show h.next<=max h.next _;omega),λi w=> ?_⟩;rw[zz (by have:=b.1;omega),uK ow];exact b.2 i w
  refine⟨.rs h.next sz 0 (xs.length+ys.length),(h.del id).new h.next (.row (xs.flatten++ys.flatten)),?_,s,.inr ⟨h.next,by simp,by rw[yQ,List.flatten_append],b.1,by show h.next<max h.next (h.next+1);omega,by simp[c]⟩⟩;simp only[th,yL,uQ];rw[ip (by simp only[zC,zP];exact⟨j,m⟩)];simp only[h1,k,qG,hr]
end
structure Own2(h0 h:Heap)(s1:Nat)(xs:List (List D))(d:D)(s2:Nat)(ys:List (List D))(e:D):Prop where
 a:Own h0 h s1 xs d
 b:Own h0 h s2 ys e
 ap:∀i,pT d i->pT e i->False
section
variable{h0 h h':Heap}{s1 s2:Nat}{xs ys:List (List D)}{d e:D}
def Own2.start(a:Ext h0 h)(s1 s2:Nat):Own2 h0 h s1 [] .nilsl s2 [] .nilsl:=⟨Own.start a _,Own.start a _,λi h=>h.elim⟩
def Own2.ext(c:Own2 h0 h s1 xs d s2 ys e)(f:Ext h h'):Own2 h0 h' s1 xs d s2 ys e:=⟨c.a.ext f,c.b.ext f,c.ap⟩
def Own2.swap(c:Own2 h0 h s1 xs d s2 ys e):Own2 h0 h s2 ys e s1 xs d:=⟨c.b,c.a,λi q p=>c.ap i p q⟩
variable{P:Program}
def Own2.appH{zs:List (List D)}{w:HidR K}(g:Own2 h0 h s1 xs d s2 ys e)(v:tQ P t=some u)(B:X0 P u=true)(A:szT P u=s1)(z:0<s1)(p:∀y∈zs,y.length=s1)(m:zs≠[])
  (s:(xs.length+zs.length)*uW P u<=lim) (x:xs.length+zs.length<=lim) (r:∀l h',Own2 h0 h' s1 (xs++zs) l s2 ys e->K l h'):Ei (qh P false h.next t d (.sl s1 zs tk) h) K w:=
 g.a.2.1.app2 v B A z p m s x λl h' o n j tk c f=>r l h' ⟨⟨⟨za g.a.1.1 n,λi k=>by rw[j i (zy k g.a.1.1) (λq=>by have:=g.a.2.2 i q;omega)];exact g.a.1.2 i k⟩,o,λi k=>za g.a.1.1 (tk i k)⟩,
  ⟨⟨za g.a.1.1 n,λi k=>by rw[j i (zy k g.a.1.1) (λq=>by have:=g.a.2.2 i q;omega)];exact g.a.1.2 i k⟩,g.b.2.1.loc n λi k=>j i (g.b.2.1.tok k).1 λq=>g.ap i q k,g.b.2.2⟩,
  λi C E=>by have:=tk i C;have:=(g.b.2.1.tok E).1;omega⟩
end
end Go.V
