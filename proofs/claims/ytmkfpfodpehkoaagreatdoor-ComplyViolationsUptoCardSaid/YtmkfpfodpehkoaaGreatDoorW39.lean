/- A machine of abstract values for programs of the model, further rules, part 2. No condition. -/
import Derived.Test.YtmkfpfodpehkoaaGreatDoorW38
import Derived.Test.YtmkfpfodpehkoaaGreatDoorW36
set_option linter.all false
set_option maxHeartbeats 8000000
namespace Go.V
open Go.Shelf Go.Proofs Go.Sort
open Go.RowKit (Below)
variable{P:Program}{f:FuncId}{id sz nid k:Nat}{h g h':Heap}{xs ys:List (List D)}{d:D}{tk:Tk}{num:Int}{S:Nat->Prop}{α:Type}
def zB.of_sortI{xs:List Int}(h0:xs≠[])(U:pO P f=true)(g:h.at' id=some (.row (xs.map (D.int .i64))))(s:xs.length<4611686018427387904)
  (t:∀(b off cap:Nat)(zs:List Int)(w:World),Go.Sort.Holds (Value.int .i64) w b off zs.toArray->b<w.heap.size->zs.length<4611686018427387904->
   Calls P f #[.slice (some ⟨b,off,none⟩) zs.length cap] w λe N=>e=.returned (.tuple #[])/\∃n os,N=Go.Sort.grow (putRow (Value.int .i64) (Go.Sort.ahead w n) b off (zs.mergeSort λx y=>decide (x<=y)).toArray) os):
  zB P f [.rs id 1 0 xs.length] h λr h'=>r=.tuple []/\h'=h.set id (.row ((xs.mergeSort λx y=>decide (x<=y)).map (D.int .i64))):=by
 refine⟨U,λw0 G M ρ w va V K B hr=> ?_⟩;simp only[wL]at hr;obtain⟨v,ad,F,L,rfl⟩:=hr;simp only[rel,wL]at L;obtain⟨_,J,l,cap,o,I,rfl,⟨R,S⟩,Z,u⟩:=L;have ab:0<xs.length:=yF.2 h0;have u:o=0:=by
  rcases u with hz|u
  ·omega
  ·exact u
 subst u;have z:va= #[.slice (some ⟨l.blk,0,none⟩) xs.length cap]:=sr (by simpa using F);subst z;obtain⟨l',h1,C,hM,c,e,H,Y,T,a⟩:=K.live id _ g;rw[I]at h1;cases h1;have m:l.blk<w.heap.size:=(yE.1 H).1;have d:Go.Sort.Holds (Value.int .i64) w l.blk 0 xs.toArray:=by
  intro j X;have p:j<xs.length:=by simpa using X
  refine⟨?_,by simp[World.frozen?,H]⟩;obtain⟨_,v,O,h3⟩:=a j (.int .i64 xs[j]) (by rw[yK,zE p];rfl);simp only[rel]at h3;obtain⟨rfl,_⟩:=h3;simp only[World.cell?,H,rD,zW,yz];rw[yo,O];simp[p]
 refine(t l.blk 0 cap xs w d m s).mono λe N E=> ?_;obtain⟨rfl,n,os,rfl⟩:=E;have k:h.at' id=some (.row ([]++xs.map (D.int .i64)++ [])):=by simpa using g
 have Q:=(K.ahead n).putRow (α:=Int) (enc:=Value.int .i64) (dd:=D.int .i64) (λq=>rfl) k I (ys:=xs.mergeSort λx y=>decide (x<=y)) (List.length_mergeSort _) (λq E=>by
  obtain⟨i,W,rfl⟩:=yH.1 (List.mem_mergeSort.1 E);obtain⟨_,v,_,h3⟩:=a i (.int .i64 xs[i]) (by rw[yK,zE W];rfl);simp only[rel]at h3;exact uD h3.2)
 have A:=Q.grow os;refine⟨.tuple #[],M,ρ,.tuple [],_,rfl,MLe.refl _,RLe.refl _,A,B,by simp only[rel,wL];exact⟨#[],rfl,rfl⟩,rfl,by simp⟩
open Go.Proofs.Tryz
open Go.Proofs
set_option maxRecDepth 100000
def ck(l:List Int):(uq l).flatten=l.map (D.int .i64):=by
 induction l with
 |nil=>rfl
 |cons a l b=>simp only[uq,qL,yc]at b⊢;rw[b];rfl
def Ys{l:List Int} :∀x∈uq l,x.length=1:=λx a=>by
 obtain⟨y,_,rfl⟩:=zT.1 a;rfl
def Pz(x y:Int):(wm x y==0)=(x==y):=by
 unfold wm;split
 ·have:x≠y:=ow;simp[this]
 ·split
  ·have:x≠y:=ow;simp[this]
  ·have:x=y:=ow;simp[this]
theorem MH{l:List Int}(h0:l≠[])(hl:l.length<=1048576)(G:g.at' id=some (.row (l.map (D.int .i64)))):
  zB prog 105 [.rs id 1 0 l.length] g λr h'=>r=.rs id 1 0 (cpt wm l).length/\∃rest,h'=g.set id (.row ((cpt wm l).map (D.int .i64)++rest)):=by
 have ai:=λ(h:Heap)=>lz (P:=prog) (t:=40) (sz:=1) (id:=id) (off:=0) (len:=l.length) (h:=h) underlying40;have s:0<l.length:=yF.2 h0;have b:∀n,n<=l.length->(∀i (h:i+1<l.length),i+1<n->(wm l[i+1] l[i]==0)=false)->uv wm l n=l.take n:=λn hn hh=>by
  induction n with
  |zero=>rfl
  |succ n ih=>
   cases n with
   |zero=>rw[fH s,km];simp[s9,s]
   |succ k=>
    rw[pv ow,iq (by rw[hh k ow ow];exact zf),ih ow λi h1 I=>hh i h1 ow];exact(zH ow).symm
 refine xP λQ S=> ?_;have a:(∀i (h:i+1<l.length),i+1<l.length->(wm l[i+1] l[i]==0)=false)->Q (.rs id 1 0 l.length) g:=λhh=>S _ _ (by
  have e:cpt wm l=l:=by
   have:=b l.length (zD _) hh;rw[zb]at this;exact this
  rw[e];exact⟨rfl,[],by rw[zp,nh G]⟩)
 refine z5 zCz ?_;simp only[f105,zA];cases q1:decide ((l.length:Int)<2)with
 |true=>
  have hd:=a λi h1 I=>by have:=zg q1;omega
  clear a S;simp only[go_sem, *]
 |false=>
 simp only[go_sem, *];refine qx (λi fr h=>fr 0=.rs id 1 0 l.length/\fr 3=.int .i64 ((i+1:Nat):Int)/\h=g/\i+1<=l.length/\∀j (h:j+1<l.length),j+1<i+1->(wm l[j+1] l[j]==0)=false) l.length ?_ ?_
 ·simp only[go_sem,zQ,zS,zF];exact⟨rfl,s,λj h1 I=>by omega⟩
 rintro i fr h hi ⟨f0,f3,rfl,W,N⟩;by_cases C:i+1<l.length
 ·have e1:decide (((i+1:Nat):Int)<(l.length:Int))=true:=zN ow;have ew:IntKind.i64.wrap (((i+1:Nat):Int)+1)=((i+2:Nat):Int):=qT (by unfold lim;omega);have O:IntKind.i64.wrap (((i+1:Nat):Int)-1)=((i:Nat):Int):=by rw[qE ow ow];omega
  have a1:=wE (P:=prog) (sz:=1) (id:=id) uL pj (k:=.i64) C;have a2:=wE (P:=prog) (sz:=1) (id:=id) uL pj (k:=.i64) (show i<l.length by omega);have p1:(l.map (D.int .i64))[i+1]? =some (.int .i64 l[i+1]):=by simp[C]
  have p2:(l.map (D.int .i64))[i]? =some (.int .i64 l[i]):=by simp[show i<l.length by omega]
  have L:=Pz l[i+1] l[i];rw[uz]at a1 a2;cases q:(wm l[i+1] l[i]==0)with
  |false=>
   rw[q]at L;replace L:=L.symm;have hn:∀j (h:j+1<l.length),j+1<i+2->(wm l[j+1] l[j]==0)=false:=λj h1 I=>by
    by_cases e:j=i
    ·subst e;exact q
    ·exact N j h1 ow
   clear N a b q1 h0 q;simp only[go_sem, *];refine zd kr ?_;simp only[go_sem, *];exact⟨by omega,C,hn⟩
  |true=>
   rw[q]at L;replace L:=L.symm;have B:uv wm l (i+2)=l.take (i+1):=by
    rw[pv C,ip q,b (i+1) ow λj h1 I=>N j h1 I]
   have M:=ph (P:=prog) (t:=40) (sz:=1) (id:=id) (h:=h) QA uL pj (k:=.i64) W;rw[uz]at M;clear N a b q1 h0 q;simp only[go_sem, *];refine zd kr ?_;simp only[go_sem, *];refine qx (λm fr h'=>fr 0=.rs id 1 0 l.length/\fr 4=.rs id 1 (i+1) (l.length- (i+1))/\fr 5=.int .i64 ((m+1:Nat):Int)/\i+1+(m+1)<=l.length/\∃ys:List Int,ys.length=l.length/\h'=h.set id (.row (ys.map (D.int .i64)))/\
    (uv wm l (i+2+m)).length<=i+1+m/\fr 3=.int .i64 (((uv wm l (i+2+m)).length:Nat):Int)/\ys.take (uv wm l (i+2+m)).length=uv wm l (i+2+m)/\ys.drop (i+1+m)=l.drop (i+1+m)) l.length ?_ ?_
   ·have w:(uv wm l (i+2)).length=i+1:=by rw[B,z7];omega
    have A:uv wm l (i+2+0)=uv wm l (i+2):=rfl;have u:i+1+(0+1)<=l.length/\∃ys:List Int,ys.length=l.length/\h=h.set id (.row (ys.map (D.int .i64)))/\
     (uv wm l (i+2+0)).length<=i+1+0/\D.int .i64 ((i+1:Nat):Int)=.int .i64 (((uv wm l (i+2+0)).length:Nat):Int)/\ys.take (uv wm l (i+2+0)).length=uv wm l (i+2+0)/\ys.drop (i+1+0)=l.drop (i+1+0):=
     ⟨by omega,l,rfl,(nh G).symm,by rw[A,w];omega,by rw[A,w],by rw[A,w,B],rfl⟩
    clear w A B;simp only[go_sem,zQ,zS,zF];obtain⟨r0,ys,r1,r2,r3,r4,r5,r6⟩:=u;exact⟨f0,rfl,r0,ys,r1,r2,r3,f3.trans r4,r5,r6⟩
   clear B M L p1 p2 a1 a2 f0 f3 e1 ew O;rintro m a0 I hm ⟨f0,f4,f5,a4,ys,E,rfl,K,f3,o,f⟩;have v:(h.set id (.row (ys.map (D.int .i64)))).at' id=some (.row (ys.map (D.int .i64))):=zi _ _ _;have ad:=λ(H:Heap)=>lz (P:=prog) (t:=40) (sz:=1) (id:=id) (off:=i+1) (len:=l.length- (i+1)) (h:=H) underlying40;by_cases X:m+1<l.length- (i+1)
   ·have e1:decide (((m+1:Nat):Int)<((l.length- (i+1):Nat):Int))=true:=zN ow;have ew:IntKind.i64.wrap (((m+1:Nat):Int)+1)=((m+2:Nat):Int):=qT (by unfold lim;omega);have O:IntKind.i64.wrap (((m+1:Nat):Int)-1)=((m:Nat):Int):=by rw[qE ow ow];omega
    have a1:=sy (P:=prog) (sz:=1) (id:=id) (off:=i+1) uL pj (k:=.i64) X;have a2:=sy (P:=prog) (sz:=1) (id:=id) (off:=i+1) uL pj (k:=.i64) (show m<l.length- (i+1) by omega);obtain⟨x,hx⟩:∃x,l[i+1+m+1]? =some x:=⟨_,zE ow⟩;obtain⟨y,hy⟩:∃y,l[i+1+m]? =some y:=⟨_,zE ow⟩;have g1:ys[i+1+(m+1)]? =some x:=by
     have:=congrArg (λz=>z[1]?) f;simp only[yh]at this;rw[show i+1+(m+1)=i+1+m+1 by omega,this,hx]
    have g2:ys[i+1+m]? =some y:=by
     have:=congrArg (λz=>z[0]?) f;simp only[yh,wl]at this;rw[this,hy]
    rw[uz]at a1 a2;have p1:(ys.map (D.int .i64))[i+1+(m+1)]? =some (.int .i64 x):=by rw[yK,g1];rfl
    have p2:(ys.map (D.int .i64))[i+1+m]? =some (.int .i64 y):=by rw[yK,g2];rfl
    have d:uv wm l (i+2+(m+1))=if(wm x y==0)=true then uv wm l (i+2+m)else uv wm l (i+2+m)++ [x]:=by
     have:=Qe (c:=wm) hx hy;rw[show i+2+(m+1)=i+1+m+2 by omega,this,show i+2+m=i+1+m+1 by omega]
    have p:∀zs:List Int,zs.drop (i+1+m)=l.drop (i+1+m)->zs.drop (i+1+(m+1))=l.drop (i+1+(m+1)):=λzs e=>by
     have:=congrArg (List.drop 1) e;simpa [tI,wB]using this
    generalize hR:uv wm l (i+2+m)=R at *
    have Z:=(Pz x y).symm;cases q:(wm x y==0)with
    |true=>
     rw[q]at Z;rw[ip q]at d;have u:m<l.length/\i+1+(m+1+1)<=l.length/\∃zs:List Int,zs.length=l.length/\h.set id (.row (ys.map (D.int .i64)))=h.set id (.row (zs.map (D.int .i64)))/\
      (uv wm l (i+2+(m+1))).length<=i+1+(m+1)/\D.int .i64 ((R.length:Nat):Int)=.int .i64 (((uv wm l (i+2+(m+1))).length:Nat):Int)/\zs.take (uv wm l (i+2+(m+1))).length=uv wm l (i+2+(m+1))/\zs.drop (i+1+(m+1))=l.drop (i+1+(m+1)):=
      ⟨by omega,by omega,ys,E,rfl,by rw[d];omega,by rw[d],by rw[d];exact o,p _ f⟩
     clear o f p d g1 g2 hx hy hR K q;simp only[go_sem, *];refine zd kr ?_;simp only[go_sem, *]
    |false=>
     rw[q]at Z;rw[iq (by rw[q];exact zf)]at d;have T:R.length<l.length:=ow;have a3:=wE (P:=prog) (sz:=1) (id:=id) uL pj (k:=.i64) T;rw[uz]at a3;have a6:qP prog 3 (.ptr id R.length) (.int .i64 x) (h.set id (.row (ys.map (D.int .i64))))=some (h.set id (.row ((ys.set R.length x).map (D.int .i64)))):=by
      rw[qO v pj (by rw[zI,E];exact T) rfl rfl,jP,mr]
     have ak:IntKind.i64.wrap (((R.length:Nat):Int)+1)=((R.length+1:Nat):Int):=qT (by unfold lim;omega);have u:m<l.length/\i+1+(m+1+1)<=l.length/\∃zs:List Int,zs.length=l.length/\h.set id (.row ((ys.set R.length x).map (D.int .i64)))=h.set id (.row (zs.map (D.int .i64)))/\
      (uv wm l (i+2+(m+1))).length<=i+1+(m+1)/\D.int .i64 ((R.length+1:Nat):Int)=.int .i64 (((uv wm l (i+2+(m+1))).length:Nat):Int)/\zs.take (uv wm l (i+2+(m+1))).length=uv wm l (i+2+(m+1))/\zs.drop (i+1+(m+1))=l.drop (i+1+(m+1)):=by
      have J:(R++ [x]).length=R.length+1:=by simp
      refine⟨by omega,by omega,ys.set R.length x,by simpa using E,rfl,by rw[d,J];omega,by rw[d,J],?_,?_⟩
      ·rw[d,J,zH (by rw[rK];omega),om,mG (zD _),o]
      ·rw[mF ow];exact p _ f
     clear o f p d g1 g2 hx hy hR K q;simp only[go_sem, *];refine zd kr ?_;exact au
   ·have e1:decide (((m+1:Nat):Int)<((l.length- (i+1):Nat):Int))=false:=zO ow;have Y:i+2+m=l.length:=ow;have U:uv wm l (i+2+m)=cpt wm l:=by rw[Y];rfl
    rw[U]at o f3 K;have F:(cpt wm l).length<=l.length:=lD _;have M:∀H:Heap,wi prog 40 (.rs id 1 0 l.length) (some (.int .i64 (((cpt wm l).length:Nat):Int))) none none H=some (.rs id 1 (cpt wm l).length (l.length- (cpt wm l).length)):=λH=>by
     have:=ph (P:=prog) (t:=40) (sz:=1) (id:=id) (h:=H) QA uL pj (k:=.i64) F;rw[uz]at this;exact this
    have a5:=λ(H:Heap)=>nB (P:=prog) (t:=40) (h:=H) QA uL (id:=id) (sz:=1) pj (k:=.i64) F;obtain⟨rest,V⟩:=Xo (P:=prog) (sz:=1) (t:=40) (xs:=uq ys) uL nO rfl rfl (by rw[ck];exact v) Ys (n:=(cpt wm l).length) (by rw[sA];omega);have ab:((uq ys).take (cpt wm l).length).flatten=(cpt wm l).map (D.int .i64):=by rw[uq,<-nW,o];exact ck _
    rw[ab,jP,sA,E,uz]at V;have ag:=S (.rs id 1 0 (cpt wm l).length) (h.set id (.row ((cpt wm l).map (D.int .i64)++rest))) ⟨rfl,rest,rfl⟩;clear o f Y U ab S;exact au
 ·have e1:decide (((i+1:Nat):Int)<(l.length:Int))=false:=zO ow;have hd:=a λj h1 I=>N j h1 ow;clear N a b q1 h0 S;exact au
def BO(l:List Int):(l.mergeSort λx y=>decide (x<=y))=srt wm l:=by
 unfold srt;congr 1
 funext a b
 unfold wm;by_cases h:a<=b
 ·rw[zN h];have h1:¬b<a:=ow;rw[iq h1];split<;>simp
 ·rw[zO h];have h1:b<a:=ow;rw[ip h1];rfl
def wa(l:List Int):List Int:=cpt wm (srt wm l)
def Iz{l:List Int}(h0:l≠[])(e:l.length<=1048576)(tk:Tk)(h:Heap):zB prog 103 [.sl 1 (uq l) tk] h λr h'=>r=.rs h.next 1 0 l.length/\h'=h.new h.next (.row (l.map (D.int .i64))):=by
 have b:0<l.length:=yF.2 h0;have c:fV prog .eql 40 true (.sl 1 (uq l) tk) .nilsl=some (.bool false):=by rw[jV (ye.mk tk) underlying40];rfl
 have d:=λnid h=>nN (P:=prog) (nid:=nid) (h:=h) uL nO pj rfl rfl (by omega:0<1);have a:qh prog true h.next 40 (.sl 1 [] .full) (.sl 1 (uq l) tk) h=some (.rs h.next 1 0 l.length,h.new h.next (.row (l.map (D.int .i64)))):=by
  rw[bV uL Ey pj ow Ys (by rw[Po,sA];unfold lim;omega) (by rw[sA];unfold lim;omega),sA,iq ow,M4 underlying3,ck]
 refine z5 zCy ?_;simp only[f103,zA];simp only[sY,go_sem,c,d,a]
def Dl{l:List Int}(h0:l≠[])(d:l.length<=1048576)(a:g.at' id=some (.row (l.map (D.int .i64)))):
  zB prog 104 [.rs id 1 0 l.length] g λr h'=>r=.tuple []/\h'=g.set id (.row ((srt wm l).map (D.int .i64))):=by
 have:=zB.of_sortI (P:=prog) (f:=104) h0 kr a ow (λb off cap zs w h1 c h3=>Tryz.slices_Sort_int b off cap zs w h1 c h3);rw[BO]at this;exact this
def QH{l:List Int}(h0:l≠[])(b:l.length<=1048576)(a:g.at' id=some (.row (l.map (D.int .i64)))):
  zB prog 105 [.rs id 1 0 l.length] g λr h'=>h'=g.del id/\r=.sl 1 (uq (cpt wm l)) .no:=
 zB.freezeD ((MH h0 b a).mono (by
  rintro r h' ⟨rfl,rest,rfl⟩;exact⟨id,_,zi _ _ _,by rw[Qj],aB Ys (sA _) (by rw[ck])⟩))
def WO(num:Int)(ks:List Int):List D:=[.int .i64 num,.sl 1 (uq (wa ks)) .no]
def Nz(num:Int)(ks:List (List Int)):∀c∈ks.map (WO num),c.length=2:=λc a=>by
 obtain⟨k,_,rfl⟩:=zT.1 a;rfl
def IT(h:Heap)(sz:Nat)(xs:List (List D))(d:D):Prop:=(d=.nilsl/\xs= [])\/∃id,d=.rs id sz 0 xs.length/\h.at' id=some (.row xs.flatten)/\id<h.next/\xs≠[]
def WI(d:D)(i:Nat):Prop:=match d with
 |.rs id _ _ _=>i=id
 |_=>False
def IT.loc(c:IT h sz xs d)(e:h.next<=h'.next)(b:∀i,WI d i->h'.at' i=h.at' i):IT h' sz xs d:=by
 rcases c with h1| ⟨t,rfl,h1,a⟩
 ·exact .inl h1
 ·exact .inr ⟨t,rfl,by rw[b t rfl];exact h1,by omega,a.2⟩
def IT.app{t e:TypeId}(p:IT h sz xs d)(n:tQ P t=some e)(r:X0 P e=true)(q:szT P e=sz)(h0:0<sz)(hr:∀cs,nU P e cs=.row cs)(j:∀y∈xs,y.length=sz)(l:∀y∈ys,y.length=sz)(k:ys≠[])
  (a:(xs.length+ys.length)*uW P e<=lim) (f:xs.length+ys.length<=lim):∃g:Heap,qh P true nid t d (.sl sz ys tk) h=some (.rs nid sz 0 (xs++ys).length,g.new nid (.row (xs++ys).flatten))/\g.next=h.next/\(∀i,¬WI d i->g.at' i=h.at' i):=by
 have c:ys.flatten.length=ys.length*sz:=tE l;have m:0<ys.length:=yF.2 k;simp only[qh,n,r,q,LF,qG,c,ur _ h0];rcases p with⟨rfl,rfl⟩ | ⟨id,rfl,h1,s⟩
 ·refine⟨h,?_,rfl,λ_ _=>rfl⟩;simp only[th];rw[iq ow,ip (by simp only[zC,zP];simp only[yw,yo]at a f;exact⟨a,f⟩)];simp[hr]
 ·refine⟨h.del id,?_,rfl,λi o=>uK λe=>o (by rw[e];rfl)⟩;have b:xs.flatten.length=xs.length*sz:=tE j;simp only[th,yL,uQ];rw[ip (by simp only[zC,zP];exact⟨a,f⟩)];simp only[h1,b,qG];simp
def IT.trunc(a:IT h sz xs d)(b:∀x∈xs,x.length=sz)(x:D):sY d x h=h:=by
 rcases a with⟨rfl,_⟩ | ⟨id,rfl,hr,_⟩
 ·rfl
 ·have hf:xs.flatten.length=xs.length*sz:=tE b;cases x<;>simp[sY,hr,hf]
def YVf(num:Int)(fn:D)(nl nr:Nat)(ks:List (List Int))(S:Nat->Prop)(h:Heap):Prop:=
 nl<h.next/\nr<h.next/\nl≠nr/\h.at' nr=some (.row [.int .i64 num,fn])/\∃d,h.at' nl=some (.row [d])/\IT h 2 (ks.map (WO num)) d/\¬WI d nl/\¬WI d nr/\∀i,S i↔(i=nl\/i=nr\/WI d i)
theorem DN{fn:D}{nl nr:Nat}{ks:List (List Int)}(X:ks.length<16777216)(R:YVf num fn nl nr ks S h){l:List Int}(K:l≠[])(hl:l.length<=5)(tk:Tk):
  zB prog 102 [.sl 1 (uq l) tk,.ptr nl 0,.ptr nr 0] h λ_ h'=>∃S',(∀i,S' i->S i\/h.next<=i)/\But S h h'/\YVf num fn nl nr (ks++ [l]) S' h':=by
 obtain⟨y1,y2,M,N,d,O,P,y7,y8,Q⟩:=R;have C:=Iz K ow tk h;have I:=Dl K ow (yQ h h.next (.row (l.map (D.int .i64))));have s0:srt wm l≠[]:=λe=>K (yv.1 (by rw[<-(tF (c:=wm) l).length_eq,e];rfl));have sl:(srt wm l).length=l.length:=(tF l).length_eq;have o:=QH s0 ow (zi (h.new h.next (.row (l.map (D.int .i64)))) h.next (.row ((srt wm l).map (D.int .i64))));rw[sl]at o;refine z5 zCx ?_;simp only[f102,zA]
 repeat' first|simp only[go_sem, *]|apply bc<;>intro U
 refine C.mono ?_;rintro r h1 ⟨rfl,rfl⟩
 repeat' first|simp only[go_sem, *]|apply bc<;>intro U
 refine I.mono ?_;rintro r h1 ⟨rfl,rfl⟩;obtain⟨h0,e1,e2,e3⟩:∃h0:Heap,h0.at' nl=some (.row [d])/\h0.at' nr=some (.row [.int .i64 num,fn])/\∀i s,h0.at' i=some s->(i=nl\/i=nr)/\h.at' i=some s:=by
  refine⟨⟨h.next,λi=>if i=nl\/i=nr then h.at' i else none⟩,by simp[O],by simp[N],λi s e=> ?_⟩
  simp only at e;split at e
  ·exact⟨‹_›,e⟩
  ·cases e
 obtain⟨m,n,j⟩:∃m,(h.new h.next (.row (l.map (D.int .i64)))).set h.next (.row ((srt wm l).map (D.int .i64)))=m/\HLe h0 m:=⟨_,rfl,λi s e=>by
  obtain⟨z,A⟩:=e3 i s e;have v:i≠h.next:=by rcases z with rfl|rfl<;>omega
  rw[zx v,zz v];exact A⟩
 have G:(m.del h.next).next=h.next+1:=by rw[<-n];exact yA h (.row (l.map (D.int .i64)))
 have a:∀i,i≠h.next->(m.del h.next).at' i=h.at' i:=λi f=>by rw[<-n,uK f,zx f,zz f]
 have k:HLe h0 (m.del h.next):=λi s e=>by
  obtain⟨z,A⟩:=e3 i s e;rw[a _ (by rcases z with rfl|rfl<;>omega)];exact A
 rw[n]at o⊢;have T:wO prog 42 [(0,.int .i64 num),(1,.sl 1 (uq (wa l)) .no)]=some (.agg (WO num l)):=by
  simp[wO,aK,ja,tp,uG,WO,D.cells,D.notTuple]
 have B:∀nid H,yB prog false nid 36 1 [(0,.agg (WO num l))] H=some (.sl 2 [WO num l] .full,H):=λnid H=>wP (x:=.agg (WO num l)) wc ja tY rfl rfl ow ow rfl rfl;refine qD h0 [(0,.st,true),(1,.no,true),(2,.st,true),(3,.no,true),(4,.no,true),(5,.no,true),(6,.no,true),(7,.no,false),(8,.no,false)] kr kr j ?_;simp only[go_sem,e1,e2,eq_true j];refine o.mono ?_;rintro r b ⟨rfl,rfl⟩;generalize m.del h.next=b at G a k⊢;have y:IT b 2 (ks.map (WO num)) d:=P.loc ow λi f=>by
  refine a i ?_;rcases P with⟨rfl,_⟩ | ⟨id,rfl,_,hid,_⟩
  ·exact f.elim
  ·simp only[WI]at f;omega
 have u:(ks.map (WO num)).length=ks.length:=zI ..;obtain⟨g,t,V,p⟩:=IT.app (nid:=b.next) (tk:=.full) y wc jb tY ow (λcs=>ng underlying42) (Nz num ks) (ys:=[WO num l]) (by simp[WO]) (by simp) (by rw[u,mK];unfold lim;simp;omega) (by rw[u];unfold lim;simp;omega);have E:ks.map (WO num)++ [WO num l]=(ks++ [l]).map (WO num):=by simp
 rw[E]at t;have F:(g.new b.next (.row ((ks++ [l]).map (WO num)).flatten)).at' nl=some (.row [d]):=by rw[zz ow,p _ y7,a _ ow,O]
 have w:qP prog 36 (.ptr nl 0) (.rs b.next 2 0 ((ks++ [l]).map (WO num)).length) (g.new b.next (.row ((ks++ [l]).map (WO num)).flatten))=some ((g.new b.next (.row ((ks++ [l]).map (WO num)).flatten)).set nl (.row [.rs b.next 2 0 ((ks++ [l]).map (WO num)).length])):=by
  rw[qO F Er (by simp) rfl rfl];rfl
 have W:(g.new b.next (.row ((ks++ [l]).map (WO num)).flatten)).next=h.next+2:=by simp only[Heap.new];omega
 have J:=y.trunc (Nz num ks);have q:cpt wm (srt wm l)=wa l:=rfl;simp only[go_sem,q,T,B,J,t,w,eq_true k];refine⟨λi=>i=nl\/i=nr\/i=b.next,λi f=> ?_,⟨by simp only[qS];omega,λi f L=> ?_⟩,by simp only[qS];omega,by simp only[qS];omega,M,?_,_,zi _ _ _,.inr ⟨b.next,rfl,?_,?_,by simp⟩,?_,?_,λi=>Iff.rfl⟩
 ·rcases f with rfl|rfl|rfl
  ·exact .inl (.inl rfl)
  ·exact .inl (.inr (.inl rfl))
  ·exact .inr ow
 ·have Y:i≠nl:=λe=>L ((Q i).2 (.inl e));have Z:¬WI d i:=λe=>L ((Q i).2 (.inr (.inr e)));rw[zx Y,zz ow,p _ Z,a _ ow]
 ·rw[zx (j7 M),zz ow,p _ y8,a _ ow,N]
 ·rw[zx ow,yQ]
 ·simp only[qS];omega
 ·simp only[WI];omega
 ·simp only[WI];omega
def Hd{fn:D}{nl nr:Nat} :Fnd2 prog 5 102 [.ptr nl 0,.ptr nr 0] (YVf num fn nl nr):=by
 refine⟨λks S h c i a=> ?_,λks S h h' c t e=> ?_,λks S h l tk c s h0 q r=> ?_⟩
 ·obtain⟨g,j,k,m,d,n,f,o,p,b⟩:=c;rcases(b i).1 a with rfl|rfl|a
  ·exact g
  ·exact j
  ·rcases f with⟨rfl,_⟩ | ⟨id,rfl,_,hid,_⟩
   ·exact a.elim
   ·simp only[WI]at a;omega
 ·obtain⟨g,j,k,m,d,n,f,o,p,b⟩:=c;exact⟨by omega,by omega,k,by rw[e nr ((b _).2 (.inr (.inl rfl)))];exact m,d,by rw[e nl ((b _).2 (.inl rfl))];exact n,f.loc t λi a=>e i ((b i).2 (.inr (.inr a))),o,p,b⟩
 ·exact DN s c (yF.1 h0) q tk
open Go.Proofs Go.Shelf Go.Sort
def Au{l m:List Int}{d e:D}(q:ye 1 (uq l) d)(s:ye 1 (uq m) e)(J:l.length<=1048576)(g:Heap):zB prog 117 [d,e] g λr h'=>h'=g/\r=.int .i64 (tc l m):=by
 have y:=rF q;have A:=rF s;obtain⟨L,M,_⟩:=yR q;obtain⟨N,O,_⟩:=yR s;refine z5 zC1 ?_;simp only[f117,zA]
 repeat' first|simp only[go_sem, *]|apply bc<;>intro n
 refine qx (λi fr h'=>fr 0=d/\fr 1=e/\fr 9=d/\fr 10=.int .i64 l.length/\fr 11=.int .i64 (i:Int)/\h'=g/\i<=m.length/\tc (l.drop i) (m.drop i)=tc l m) l.length ?_ ?_
 ·simp only[go_sem,zQ,zS,zF];exact⟨yg _,rfl⟩
 rintro i fr h' I ⟨F,G,H,w,x,rfl,c,a⟩;by_cases f:i<l.length
 ·have e1:decide ((i:Int)<(l.length:Int))=true:=zN ow;have B:=nG q f;by_cases j:i>=m.length
  ·have e2:decide ((i:Int)>=(m.length:Int))=true:=zN ow;have hr:tc l m=1:=by
    rw[z6 f,wp j]at a;rw[<-a];rfl
   rw[hr];clear a hr c j;exact au
  ·have e2:decide ((i:Int)>=(m.length:Int))=false:=zO ow;have b:i<m.length:=ow;have C:=nG s b;rw[TU f b]at a;simp only[zK,zE f,zE b,zA]at a;have n:=YK l[i] m[i] h';have E:IntKind.i64.wrap ((i:Int)+1)=((i+1:Nat):Int):=qT (by unfold lim;omega);generalize v:wm l[i] m[i]=z at *
   cases t:(z==0)with
   |true=>
    have h0:z=0:=by simpa using t
    rw[ip h0]at a;have u:i<l.length/\i+1<=m.length/\tc (l.drop (i+1)) (m.drop (i+1))=tc l m:=⟨f,b,a⟩;clear a c j v h0
    repeat' first|simp only[go_sem, *]|apply bc<;>intro n|(refine zB.mono n ?_;rintro r h ⟨K,rfl⟩)
   |false=>
    have h0:¬z=0:=by simpa using t
    rw[iq h0]at a;rw[<-a];clear a c j v h0
    repeat' first|simp only[go_sem, *]|apply bc<;>intro n|refine zB.use n ?_
 ·have e1:decide ((i:Int)<(l.length:Int))=false:=zO ow;have k:l.length<=i:=ow;rw[wp k]at a;cases o:decide ((l.length:Int)<(m.length:Int))with
  |true=>
   have p:=zg o;have hr:tc l m= -1:=by
    rw[z6 (show i<m.length by omega)]at a;rw[<-a];rfl
   rw[hr];clear a hr c k
   repeat' first|simp only[go_sem, *]|apply bc<;>intro n
  |false=>
   have p:=zq o;have hr:tc l m=0:=by
    rw[wp ow]at a;rw[<-a];rfl
   rw[hr];clear a hr c k;exact au
structure Vio where
 row:Int
 facts:List Int
def Vio.Is(v:Vio)(cs:List D):Prop:=∃d,cs= [.int .i64 v.row,d]/\ye 1 (uq v.facts) d/\v.facts.length<=1048576
def nS(v w:Vio):Int:=orL [wm v.row w.row,tc v.facts w.facts]
def U9{v w:Vio}{cv cw:List D}(m:v.Is cv)(n:w.Is cw)(g:Heap):zB prog 69 [.agg cv,.agg cw] g λr h'=>h'=g/\r=.int .i64 (nS v w):=by
 obtain⟨d,rfl,b,a⟩:=m;obtain⟨e,rfl,c,j⟩:=n;have h1:=YK v.row w.row;have f:=Au b c a;have h3:=A0 (l:=[wm v.row w.row,tc v.facts w.facts]) (ye.mk .full) (by simp);have o:=bs2 (wm v.row w.row) (tc v.facts w.facts);obtain⟨p,q,_⟩:=yR b;obtain⟨s,t,_⟩:=yR c;have k:∀h:Heap,HLe h h:=λ_ _ _ e=>e;unfold nS;refine z5 zJO ?_;simp only[f69,zA]
 repeat' first|simp only[go_sem, *]|apply bc<;>intro i
 refine qD g [(0,.no,true),(1,.no,true),(2,.no,true),(3,.no,true),(5,.no,true),(6,.st,true),(7,.no,true),(8,.st,true),(4,.no,true),(9,.no,true),(10,.no,true),(11,.no,true),(12,.no,true)] kr kr (λ_ _ e=>e) ?_
 repeat' first|simp only[go_sem, *]|apply bc<;>intro i|refine zB.use (h1 _) ?_|refine zB.use (f _) ?_|refine zB.use (h3 _) ?_
def Vio.Is.two{v:Vio}{cv:List D}(a:v.Is cv):yN true 2 cv 0=some (.agg cv):=by
 obtain⟨d,rfl,_⟩:=a;exact zJ rfl ow
def Lq{v w:Vio}{cv cw:List D}(b:v.Is cv)(c:w.Is cw)(g:Heap):zB prog 30 [.agg cv,.agg cw] g λr h'=>h'=g/\r=.bool (nS v w==0):=by
 have a:=U9 b c;have h1:=Vio.Is.two b;have d:=Vio.Is.two c;refine z5 zJA ?_;simp only[f30,zA]
 repeat' first|simp only[go_sem, *]|apply bc<;>intro a|refine zB.use (a _) ?_
theorem jB:∀a b:List Int,tc a b=ZB wm a b
 | [],[]=>rfl
 | [],_::_=>rfl
 |_::_,[]=>rfl
 |x::xs,y::ys=>by
  simp only[tc,ZB,Vw,jB xs ys]
def d8:QC tc:=by
 have:=aN.list;exact⟨λx y=>by rw[jB,jB];exact this.anti x y,λx y z=>by rw[jB,jB,jB];exact this.trans x y z⟩
def Ye(x y:List Int)(h:tc x y=0):x=y:=by
 rw[jB]at h;exact Vx Yd _ _ h
def LJ(num:Int)(x:List Int):List D:=[.int .i64 num,.sl 1 (uq x) .no]
def vbs(num:Int)(l:List (List Int)):List (List D):=l.map (LJ num)
def pf(num:Int)(l:List (List Int)):(vbs num l).length=l.length:=zI ..
def lx(num:Int)(l:List (List Int)):∀x∈vbs num l,x.length=2:=λx a=>by
 obtain⟨y,_,rfl⟩:=zT.1 a;rfl
def Uh(num:Int){x:List Int}(h:x.length<=1048576):(Vio.mk num x).Is (LJ num x):=⟨_,rfl,ye.mk .no,h⟩
def Yf(num:Int)(x y:List Int):nS ⟨num,x⟩ ⟨num,y⟩ =tc x y:=by
 have h:wm num num=0:=aN.refl num;simp only[nS,orL,h,qG];split
 ·rename_i q;exact q.symm
 ·rfl
def Do{l:List (List Int)}(h0:l≠[])(z:l.length<=16777216)(a:∀x∈l,x.length<=1048576)(b:g.at' id=some (.row (vbs num l).flatten)):
  zB prog 106 [.rs id 2 0 l.length,.fn (.func 69) [] []] g λr h'=>r=.tuple []/\h'=g.set id (.row (vbs num (srt tc l)).flatten):=by
 have:=zB.of_sortK (P:=prog) (f:=106) (cmp:=69) (k:=2) (cells:=LJ num) (xs:=l) (id:=id) (pre:=[]) (post:=[]) (h:=g) (cf:=tc) (mid:=[]) (midV:=[]) (λM ρ vs h=>by simpa [wL]using h) h0 ow (λx i=>rfl) kr (enters_of func69 kr rfl) (by simpa [vbs]using b) d8.swo ow
  (λx i y u H=>by have:=U9 (Uh num (a x i)) (Uh num (a y u)) H;rw[Yf]at this;exact this) (λα _ enc h1 m cf o g j c off cap d w s q n p e v=>AnyQ.slices_SortFunc Tryz.sortVio 2 (isAgg42) (sizeOf42) enc h1 m cf o g j c off cap d w s q n p e)
 refine this.mono λr h' ⟨e1,ys,t,e,e2⟩=>⟨e1,?_⟩;rw[e2,Rb d8 Ye t e];simp[vbs]
theorem nI{f:α->List D}{p:α->Prop} :∀{ys:List (List D)},(∀y∈ys,∃s,y=f s/\p s)->∃l:List α,ys=l.map f/\∀s∈l,p s
 | [],_=>⟨[],rfl,λn b=>by cases b⟩
 |y::ys,h=>by
  obtain⟨n,rfl,b⟩:=h y (by simp);obtain⟨ks,rfl,c⟩:=nI (ys:=ys) λz d=>h z (qI _ d);exact⟨n::ks,rfl,λm a=>by
   rcases zt.1 a with rfl|a
   ·exact b
   ·exact c m a⟩
def Nn{c:List D}(h:Shp prog k 31 c):∃d l,c= [d]/\ye 1 (uH l) d/\l.length<=1048576:=by
 obtain⟨d,xs,j,e,m,b,_,a,g⟩:=gg underlying31 md h;obtain⟨l,rfl,n⟩:=nI (f:=λs:List UInt8=>[D.str s]) λy i=>rx underlying9 (g y i);rw[zI]at a;exact⟨d,l,e,b,a⟩
def Nm{c:List D}(h:Shp prog k 40 c):∃d l,c= [d]/\ye 1 (uq l) d/\l.length<=1048576:=by
 obtain⟨d,xs,j,e,m,b,_,a,g⟩:=gg underlying40 pj h;obtain⟨l,rfl,n⟩:=nI (f:=λs:Int=>[D.int .i64 s]) λy i=>ma underlying3 (g y i);rw[zI]at a;exact⟨d,l,e,b,a⟩
def BF{c:List D}(h:Shp prog k 80 c):∃n:Lic,c=n.cells/\n.Sm:=by
 obtain⟨j,_,hf⟩:=sv underlying80 h;obtain⟨l,r1,rfl,h1,hf⟩:=qB hf;obtain⟨m,r2,rfl,d,hf⟩:=qB hf;obtain⟨o,r3,rfl,h3,hf⟩:=qB hf;obtain⟨p,r4,rfl,e,hf⟩:=qB hf;obtain rfl:=oZ hf;obtain⟨s1,rfl,a⟩:=rx underlying9 h1;obtain⟨s2,rfl,b2⟩:=rx underlying9 d;obtain⟨f,rfl,i⟩:=ma underlying3 h3;obtain⟨g,rfl,b⟩:=rx underlying9 e;exact⟨⟨s1,s2,f,g⟩,rfl,a,b2,b⟩
def BD{c:List D}(h:Shp prog k 85 c):∃n:Exc,c=n.cells/\n.Ok:=by
 obtain⟨j,_,hf⟩:=sv underlying85 h;obtain⟨g,r1,rfl,h1,hf⟩:=qB hf;obtain⟨i,r2,rfl,e,hf⟩:=qB hf;obtain⟨m,r3,rfl,h3,hf⟩:=qB hf;obtain rfl:=oZ hf;obtain⟨s1,rfl,a⟩:=rx underlying9 h1;obtain⟨s2,rfl,b2⟩:=rx underlying9 e;obtain⟨d,l,rfl,f,b⟩:=Nm h3;exact⟨⟨s1,s2,l,d⟩,rfl,f,b,a⟩
def BC{c:List D}(h:Shp prog k 89 c):∃n:Cla,c=n.cells/\n.Ok:=by
 obtain⟨j,_,hf⟩:=sv underlying89 h;obtain⟨q,r1,rfl,h1,hf⟩:=qB hf;obtain⟨r,r2,rfl,b,hf⟩:=qB hf;obtain⟨s,r3,rfl,h3,hf⟩:=qB hf;obtain⟨t,r4,rfl,e,hf⟩:=qB hf;obtain⟨u,r5,rfl,h5,hf⟩:=qB hf;obtain rfl:=oZ hf;obtain⟨s1,rfl,m⟩:=rx underlying9 h1;obtain⟨s2,rfl,b2⟩:=ma underlying3 b;obtain⟨g,rfl,o⟩:=ma underlying3 h3;obtain⟨i,rfl,p⟩:=ma underlying3 e;obtain⟨d,l,rfl,f,a⟩:=Nn h5;exact⟨⟨s1,s2,g,i,l,d⟩,rfl,f,a⟩
def C9{c:List D}(h:Shp prog k 93 c):∃n:Apt,c=n.cells/\True:=by
 obtain⟨j,_,hf⟩:=sv underlying93 h;obtain⟨d,r1,rfl,h1,hf⟩:=qB hf;obtain⟨e,r2,rfl,a,hf⟩:=qB hf;obtain rfl:=oZ hf;obtain⟨s1,rfl,b⟩:=rx underlying9 h1;obtain⟨s2,rfl,b2⟩:=rx underlying9 a;exact⟨⟨s1,s2⟩,rfl,trivial⟩
def BA{c:List D}(h:Shp prog k 27 c):∃n:Cat,uM n (.agg c)/\n.Sm:=by
 obtain⟨j,_,hf⟩:=sv underlying27 h;obtain⟨x,r1,rfl,h1,hf⟩:=qB hf;obtain⟨z,r2,rfl,b,hf⟩:=qB hf;obtain⟨A,r3,rfl,h3,hf⟩:=qB hf;obtain⟨B,r4,rfl,d,hf⟩:=qB hf;obtain rfl:=oZ hf;obtain⟨i,H,C,rfl,_,p,_,e,h1⟩:=gg underlying22 bT h1;obtain⟨l,I,E,rfl,_,q,_,b2,b⟩:=gg underlying23 Rh b;obtain⟨m,J,F,rfl,_,r,_,f,h3⟩:=gg underlying24 gk h3;obtain⟨o,K,G,rfl,_,s,_,g,d⟩:=gg underlying25 Nr d;obtain⟨t,rfl,k1⟩:=nI λy a=>BF (h1 y a);obtain⟨u,rfl,k2⟩:=nI λy a=>BD (b y a);obtain⟨v,rfl,k3⟩:=nI λy a=>BC (h3 y a);obtain⟨w,rfl,k4⟩:=nI λy a=>C9 (d y a);rw[zI]at e b2 f g
 exact⟨⟨t,u,v,w⟩,⟨i,l,m,o,rfl,p,q,r,s⟩,⟨e,k1⟩,⟨b2,k2⟩,⟨f,k3⟩,g⟩
theorem Eh:∀{l:List Ex},(∀e∈l,e.Ok)->okL l
 | [],_=>by simp only[okL]
 |e::l,h=>by simp only[okL];exact⟨h e (by simp),Eh λx a=>h x (qI _ a)⟩
def zEL(k:Nat):∀{c:List D},Shp prog k 54 c->∃e:Ex,c=e.cells/\e.Ok:=by
 induction k using Nat.strongRecOn with
 |_ k o=>
 intro c h;obtain⟨j,w,hf⟩:=sv underlying54 h;obtain⟨s,r1,rfl,h1,hf⟩:=qB hf;obtain⟨t,r2,rfl,g,hf⟩:=qB hf;obtain⟨u,r3,rfl,h3,hf⟩:=qB hf;obtain⟨v,r4,rfl,a,hf⟩:=qB hf;obtain rfl:=oZ hf;obtain⟨s1,rfl,r⟩:=ma underlying3 h1;obtain⟨s2,rfl,b2⟩:=rx underlying9 g;obtain⟨q,rfl,d⟩:=rx underlying9 h3;obtain⟨f,z,m,rfl,x,n,_,b,a⟩:=gg underlying52 Jx a;obtain⟨l,rfl,p⟩:=nI λy i=>o m ow (a y i);rw[zI]at b;exact⟨.mk s1 s2 q l f,rfl,by simp only[Ex.Ok];exact⟨n,b,b2,d,Eh p⟩⟩
def BE{c:List D}(h:Shp prog k 56 c):∃f:Fac,c=f.cells/\f.Ok0:=by
 obtain⟨j,_,hf⟩:=sv underlying56 h;obtain⟨B,r1,rfl,h1,hf⟩:=qB hf;obtain⟨C,r2,rfl,i,hf⟩:=qB hf;obtain⟨E,r3,rfl,h3,hf⟩:=qB hf;obtain⟨F,r4,rfl,m,hf⟩:=qB hf;obtain⟨G,r5,rfl,h5,hf⟩:=qB hf;obtain⟨H,r6,rfl,n,hf⟩:=qB hf;obtain⟨I,r7,rfl,o,hf⟩:=qB hf;obtain⟨J,r8,rfl,p,hf⟩:=qB hf;obtain⟨K,r9,rfl,q,hf⟩:=qB hf;obtain rfl:=oZ hf;obtain⟨s1,rfl,x⟩:=ma underlying3 h1;obtain⟨s2,rfl,b2⟩:=rx underlying9 i;obtain⟨s,rfl,a⟩:=rx underlying9 h3;obtain⟨t,rfl,y⟩:=ma underlying3 m;obtain⟨u,rfl,z⟩:=ma underlying3 h5;obtain⟨v,rfl,A⟩:=ma underlying3 n;obtain⟨w,rfl⟩:=GF underlying4 o;obtain⟨e,rfl,b⟩:=zEL _ p
 obtain⟨d,l,rfl,r,g⟩:=Nn q;exact⟨⟨s1,s2,s,t,u,v,w,e,l,d⟩,rfl,b,r,g,b2,a⟩
def GG{c:List D}(h:Shp prog k 29 c):∃d fs,c= [d]/\ye 12 (dj fs) d/\fs.length<=1048576/\∀f∈fs,f.Ok0:=by
 obtain⟨d,xs,j,e,n,g,_,a,i⟩:=gg underlying29 Rg h;obtain⟨l,rfl,b⟩:=nI λy m=>BE (i y m);rw[zI]at a;exact⟨d,l,e,g,a,b⟩
def BH{c:List D}(h:Shp prog k 42 c):∃v:Vio,v.Is c:=by
 obtain⟨j,_,hf⟩:=sv underlying42 h;obtain⟨f,r1,rfl,h1,hf⟩:=qB hf;obtain⟨g,r2,rfl,a,hf⟩:=qB hf;obtain rfl:=oZ hf;obtain⟨s1,rfl,e⟩:=ma underlying3 h1;obtain⟨d,l,rfl,b,b2⟩:=Nm a;exact⟨⟨s1,l⟩,d,rfl,b,b2⟩
end Go.V
