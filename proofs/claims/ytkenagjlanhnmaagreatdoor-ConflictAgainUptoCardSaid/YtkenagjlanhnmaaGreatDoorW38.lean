/- A machine of abstract values for programs of the model, further rules, part 2. No condition. -/
import Derived.Test.YtkenagjlanhnmaaGreatDoorW37
set_option linter.all false
set_option maxHeartbeats 8000000
namespace Go.V
open Go.Shelf Go.Proofs Go.Sort
open Go.RowKit (Below)
variable{P:Program}{f:FuncId}{id sz nid k i:Nat}{h g h':Heap}{xs ys:List (List D)}{d:D}{tk:Tk}{num:Int}{S:Nat->Prop}{α:Type}{c:Cat}{fs:List Fac}{al:Nat->Option Alt}{sc cap:List D}
def zE.of_sortI{xs:List Int}(h0:xs≠[])(V:pQ P f=true)(g:h.at' id=some (.row (xs.map (D.int .i64))))(s:xs.length<4611686018427387904)
  (t:∀(b off cap:Nat)(zs:List Int)(w:World),Go.Sort.Holds (Value.int .i64) w b off zs.toArray->b<w.heap.size->zs.length<4611686018427387904->
   Calls P f #[.slice (some ⟨b,off,none⟩) zs.length cap] w λe O=>e=.returned (.tuple #[])/\∃n I,O=Go.Sort.grow (putRow (Value.int .i64) (Go.Sort.ahead w n) b off (zs.mergeSort λx y=>decide (x<=y)).toArray) I):
  zE P f [.rs id 1 0 xs.length] h λr h'=>r=.tuple []/\h'=h.set id (.row ((xs.mergeSort λx y=>decide (x<=y)).map (D.int .i64))):=by
 refine⟨V,λw0 G M ρ w va W L B hr=> ?_⟩;simp only[wJ]at hr;obtain⟨v,ai,F,N,rfl⟩:=hr;simp only[rel,wJ]at N;obtain⟨_,K,l,cap,o,J,rfl,⟨S,T⟩,ad,u⟩:=N;have ag:0<xs.length:=yA.2 h0;have u:o=0:=by
  rcases u with hz|u
  ·omega
  ·exact u
 subst u;have z:va= #[.slice (some ⟨l.blk,0,none⟩) xs.length cap]:=sS (by simpa using F);subst z;obtain⟨l',h1,C,hM,c,e,H,Z,U,a⟩:=L.live id _ g;rw[J]at h1;cases h1;have m:l.blk<w.heap.size:=(yJ.1 H).1;have d:Go.Sort.Holds (Value.int .i64) w l.blk 0 xs.toArray:=by
  intro j Y;have p:j<xs.length:=by simpa using Y
  refine⟨?_,by simp[World.frozen?,H]⟩;obtain⟨_,v,Q,h3⟩:=a j (.int .i64 xs[j]) (by rw[zj,zB p];rfl);simp only[rel]at h3;obtain⟨rfl,_⟩:=h3;simp only[World.cell?,H,sC,zl,yy];rw[yZ,Q];simp[p]
 refine(t l.blk 0 cap xs w d m s).mono λe O E=> ?_;obtain⟨rfl,n,I,rfl⟩:=E;have k:h.at' id=some (.row ([]++xs.map (D.int .i64)++ [])):=by simpa using g
 have R:=(L.ahead n).putRow (α:=Int) (enc:=Value.int .i64) (dd:=D.int .i64) (λq=>rfl) k J (ys:=xs.mergeSort λx y=>decide (x<=y)) (List.length_mergeSort _) (λq E=>by
  obtain⟨i,X,rfl⟩:=yD.1 (List.mem_mergeSort.1 E);obtain⟨_,v,_,h3⟩:=a i (.int .i64 xs[i]) (by rw[zj,zB X];rfl);simp only[rel]at h3;exact uM h3.2)
 have A:=R.grow I;refine⟨.tuple #[],M,ρ,.tuple [],_,rfl,MLe.refl _,RLe.refl _,A,B,by simp only[rel,wJ];exact⟨#[],rfl,rfl⟩,rfl,by simp⟩
open Go.Proofs.Tryz
open Go.Proofs
set_option maxRecDepth 100000
def bQ(l:List Int):(wY l).flatten=l.map (D.int .i64):=by
 induction l with
 |nil=>rfl
 |cons a l b=>simp only[wY,qm,yS]at b⊢;rw[b];rfl
def bR{l:List Int} :∀x∈wY l,x.length=1:=λx a=>by
 obtain⟨y,_,rfl⟩:=zM.1 a;rfl
def Nh(x y:Int):(tC x y==0)=(x==y):=by
 unfold tC;split
 ·have:x≠y:=ow;simp[this]
 ·split
  ·have:x≠y:=ow;simp[this]
  ·have:x=y:=ow;simp[this]
theorem LC{l:List Int}(h0:l≠[])(hl:l.length<=1048576)(G:g.at' id=some (.row (l.map (D.int .i64)))):
  zE prog 196 [.rs id 1 0 l.length] g λr h'=>r=.rs id 1 0 (cpt tC l).length/\∃rest,h'=g.set id (.row ((cpt tC l).map (D.int .i64)++rest)):=by
 have ak:=λ(h:Heap)=>nM (P:=prog) (t:=30) (sz:=1) (id:=id) (off:=0) (len:=l.length) (h:=h) underlying30;have s:0<l.length:=yA.2 h0;have b:∀n,n<=l.length->(∀i (h:i+1<l.length),i+1<n->(tC l[i+1] l[i]==0)=false)->tD tC l n=l.take n:=λn hn hh=>by
  induction n with
  |zero=>rfl
  |succ n ih=>
   cases n with
   |zero=>rw[fh s,jN];simp[tj,s]
   |succ k=>
    rw[oQ ow,iq (by rw[hh k ow ow];exact zZ),ih ow λi h1 I=>hh i h1 ow];exact(zQ ow).symm
 refine xP λQ S=> ?_;have a:(∀i (h:i+1<l.length),i+1<l.length->(tC l[i+1] l[i]==0)=false)->Q (.rs id 1 0 l.length) g:=λhh=>S _ _ (by
  have e:cpt tC l=l:=by
   have:=b l.length (zD _) hh;rw[z6]at this;exact this
  rw[e];exact⟨rfl,[],by rw[yL,sR G]⟩)
 refine zu zFW ?_;simp only[f196,zA];cases q1:decide ((l.length:Int)<2)with
 |true=>
  have hd:=a λi h1 I=>by have:=yK q1;omega
  clear a S;simp only[go_sem, *]
 |false=>
 simp only[go_sem, *];refine qx (λi fr h=>fr 0=.rs id 1 0 l.length/\fr 3=.int .i64 ((i+1:Nat):Int)/\h=g/\i+1<=l.length/\∀j (h:j+1<l.length),j+1<i+1->(tC l[j+1] l[j]==0)=false) l.length ?_ ?_
 ·simp only[go_sem,zT,zV,zI];exact⟨rfl,s,λj h1 I=>by omega⟩
 rintro i fr h hi ⟨f0,f3,rfl,W,N⟩;by_cases C:i+1<l.length
 ·have e1:decide (((i+1:Nat):Int)<(l.length:Int))=true:=zS ow;have ew:IntKind.i64.wrap (((i+1:Nat):Int)+1)=((i+2:Nat):Int):=qR (by unfold lim;omega);have O:IntKind.i64.wrap (((i+1:Nat):Int)-1)=((i:Nat):Int):=by rw[qU ow ow];omega
  have a1:=qj (P:=prog) (sz:=1) (id:=id) qv sI (k:=.i64) C;have a2:=qj (P:=prog) (sz:=1) (id:=id) qv sI (k:=.i64) (show i<l.length by omega);have p1:(l.map (D.int .i64))[i+1]? =some (.int .i64 l[i+1]):=by simp[C]
  have p2:(l.map (D.int .i64))[i]? =some (.int .i64 l[i]):=by simp[show i<l.length by omega]
  have L:=Nh l[i+1] l[i];rw[ww]at a1 a2;cases q:(tC l[i+1] l[i]==0)with
  |false=>
   rw[q]at L;replace L:=L.symm;have hn:∀j (h:j+1<l.length),j+1<i+2->(tC l[j+1] l[j]==0)=false:=λj h1 I=>by
    by_cases e:j=i
    ·subst e;exact q
    ·exact N j h1 ow
   clear N a b q1 h0 q;simp only[go_sem, *];refine yI kr ?_;simp only[go_sem, *];exact⟨by omega,C,hn⟩
  |true=>
   rw[q]at L;replace L:=L.symm;have B:tD tC l (i+2)=l.take (i+1):=by
    rw[oQ C,ip q,b (i+1) ow λj h1 I=>N j h1 I]
   have M:=p8 (P:=prog) (t:=30) (sz:=1) (id:=id) (h:=h) Qn qv sI (k:=.i64) W;rw[ww]at M;clear N a b q1 h0 q;simp only[go_sem, *];refine yI kr ?_;simp only[go_sem, *];refine qx (λm fr h'=>fr 0=.rs id 1 0 l.length/\fr 4=.rs id 1 (i+1) (l.length- (i+1))/\fr 5=.int .i64 ((m+1:Nat):Int)/\i+1+(m+1)<=l.length/\∃ys:List Int,ys.length=l.length/\h'=h.set id (.row (ys.map (D.int .i64)))/\
    (tD tC l (i+2+m)).length<=i+1+m/\fr 3=.int .i64 (((tD tC l (i+2+m)).length:Nat):Int)/\ys.take (tD tC l (i+2+m)).length=tD tC l (i+2+m)/\ys.drop (i+1+m)=l.drop (i+1+m)) l.length ?_ ?_
   ·have w:(tD tC l (i+2)).length=i+1:=by rw[B,yR];omega
    have A:tD tC l (i+2+0)=tD tC l (i+2):=rfl;have u:i+1+(0+1)<=l.length/\∃ys:List Int,ys.length=l.length/\h=h.set id (.row (ys.map (D.int .i64)))/\
     (tD tC l (i+2+0)).length<=i+1+0/\D.int .i64 ((i+1:Nat):Int)=.int .i64 (((tD tC l (i+2+0)).length:Nat):Int)/\ys.take (tD tC l (i+2+0)).length=tD tC l (i+2+0)/\ys.drop (i+1+0)=l.drop (i+1+0):=
     ⟨by omega,l,rfl,(sR G).symm,by rw[A,w];omega,by rw[A,w],by rw[A,w,B],rfl⟩
    clear w A B;simp only[go_sem,zT,zV,zI];obtain⟨r0,ys,r1,r2,r3,r4,r5,r6⟩:=u;exact⟨f0,rfl,r0,ys,r1,r2,r3,f3.trans r4,r5,r6⟩
   clear B M L p1 p2 a1 a2 f0 f3 e1 ew O;rintro m a4 I hm ⟨f0,f4,f5,a5,ys,E,rfl,K,f3,o,f⟩;have v:(h.set id (.row (ys.map (D.int .i64)))).at' id=some (.row (ys.map (D.int .i64))):=zW _ _ _;have ag:=λ(H:Heap)=>nM (P:=prog) (t:=30) (sz:=1) (id:=id) (off:=i+1) (len:=l.length- (i+1)) (h:=H) underlying30;by_cases X:m+1<l.length- (i+1)
   ·have e1:decide (((m+1:Nat):Int)<((l.length- (i+1):Nat):Int))=true:=zS ow;have ew:IntKind.i64.wrap (((m+1:Nat):Int)+1)=((m+2:Nat):Int):=qR (by unfold lim;omega);have O:IntKind.i64.wrap (((m+1:Nat):Int)-1)=((m:Nat):Int):=by rw[qU ow ow];omega
    have a1:=rJ (P:=prog) (sz:=1) (id:=id) (off:=i+1) qv sI (k:=.i64) X;have a2:=rJ (P:=prog) (sz:=1) (id:=id) (off:=i+1) qv sI (k:=.i64) (show m<l.length- (i+1) by omega);obtain⟨x,hx⟩:∃x,l[i+1+m+1]? =some x:=⟨_,zB ow⟩;obtain⟨y,hy⟩:∃y,l[i+1+m]? =some y:=⟨_,zB ow⟩;have g1:ys[i+1+(m+1)]? =some x:=by
     have:=congrArg (λz=>z[1]?) f;simp only[qX]at this;rw[show i+1+(m+1)=i+1+m+1 by omega,this,hx]
    have g2:ys[i+1+m]? =some y:=by
     have:=congrArg (λz=>z[0]?) f;simp only[qX,uB]at this;rw[this,hy]
    rw[ww]at a1 a2;have p1:(ys.map (D.int .i64))[i+1+(m+1)]? =some (.int .i64 x):=by rw[zj,g1];rfl
    have p2:(ys.map (D.int .i64))[i+1+m]? =some (.int .i64 y):=by rw[zj,g2];rfl
    have d:tD tC l (i+2+(m+1))=if(tC x y==0)=true then tD tC l (i+2+m)else tD tC l (i+2+m)++ [x]:=by
     have:=PD (c:=tC) hx hy;rw[show i+2+(m+1)=i+1+m+2 by omega,this,show i+2+m=i+1+m+1 by omega]
    have p:∀zs:List Int,zs.drop (i+1+m)=l.drop (i+1+m)->zs.drop (i+1+(m+1))=l.drop (i+1+(m+1)):=λzs e=>by
     have:=congrArg (List.drop 1) e;simpa [uN,wA]using this
    generalize hR:tD tC l (i+2+m)=R at *
    have Z:=(Nh x y).symm;cases q:(tC x y==0)with
    |true=>
     rw[q]at Z;rw[ip q]at d;have u:m<l.length/\i+1+(m+1+1)<=l.length/\∃zs:List Int,zs.length=l.length/\h.set id (.row (ys.map (D.int .i64)))=h.set id (.row (zs.map (D.int .i64)))/\
      (tD tC l (i+2+(m+1))).length<=i+1+(m+1)/\D.int .i64 ((R.length:Nat):Int)=.int .i64 (((tD tC l (i+2+(m+1))).length:Nat):Int)/\zs.take (tD tC l (i+2+(m+1))).length=tD tC l (i+2+(m+1))/\zs.drop (i+1+(m+1))=l.drop (i+1+(m+1)):=
      ⟨by omega,by omega,ys,E,rfl,by rw[d];omega,by rw[d],by rw[d];exact o,p _ f⟩
     clear o f p d g1 g2 hx hy hR K q;simp only[go_sem, *];refine yI kr ?_;simp only[go_sem, *]
    |false=>
     rw[q]at Z;rw[iq (by rw[q];exact zZ)]at d;have T:R.length<l.length:=ow;have a3:=qj (P:=prog) (sz:=1) (id:=id) qv sI (k:=.i64) T;rw[ww]at a3;have a7:yX prog 3 (.ptr id R.length) (.int .i64 x) (h.set id (.row (ys.map (D.int .i64))))=some (h.set id (.row ((ys.set R.length x).map (D.int .i64)))):=by
      rw[yU v sI (by rw[zG,E];exact T) rfl rfl,kM,tR]
     have a0:IntKind.i64.wrap (((R.length:Nat):Int)+1)=((R.length+1:Nat):Int):=qR (by unfold lim;omega);have u:m<l.length/\i+1+(m+1+1)<=l.length/\∃zs:List Int,zs.length=l.length/\h.set id (.row ((ys.set R.length x).map (D.int .i64)))=h.set id (.row (zs.map (D.int .i64)))/\
      (tD tC l (i+2+(m+1))).length<=i+1+(m+1)/\D.int .i64 ((R.length+1:Nat):Int)=.int .i64 (((tD tC l (i+2+(m+1))).length:Nat):Int)/\zs.take (tD tC l (i+2+(m+1))).length=tD tC l (i+2+(m+1))/\zs.drop (i+1+(m+1))=l.drop (i+1+(m+1)):=by
      have J:(R++ [x]).length=R.length+1:=by simp
      refine⟨by omega,by omega,ys.set R.length x,by simpa using E,rfl,by rw[d,J];omega,by rw[d,J],?_,?_⟩
      ·rw[d,J,zQ (by rw[uQ];omega),nS,mg (zD _),o]
      ·rw[mc ow];exact p _ f
     clear o f p d g1 g2 hx hy hR K q;simp only[go_sem, *];refine yI kr ?_;exact au
   ·have e1:decide (((m+1:Nat):Int)<((l.length- (i+1):Nat):Int))=false:=zP ow;have Y:i+2+m=l.length:=ow;have U:tD tC l (i+2+m)=cpt tC l:=by rw[Y];rfl
    rw[U]at o f3 K;have F:(cpt tC l).length<=l.length:=lv _;have M:∀H:Heap,uZ prog 30 (.rs id 1 0 l.length) (some (.int .i64 (((cpt tC l).length:Nat):Int))) none none H=some (.rs id 1 (cpt tC l).length (l.length- (cpt tC l).length)):=λH=>by
     have:=p8 (P:=prog) (t:=30) (sz:=1) (id:=id) (h:=H) Qn qv sI (k:=.i64) F;rw[ww]at this;exact this
    have a6:=λ(H:Heap)=>np (P:=prog) (t:=30) (h:=H) Qn qv (id:=id) (sz:=1) sI (k:=.i64) F;obtain⟨rest,V⟩:=WJ (P:=prog) (sz:=1) (t:=30) (xs:=wY ys) qv rv rfl rfl (by rw[bQ];exact v) bR (n:=(cpt tC l).length) (by rw[wI];omega);have ad:((wY ys).take (cpt tC l).length).flatten=(cpt tC l).map (D.int .i64):=by rw[wY,<-jL,o];exact bQ _
    rw[ad,kM,wI,E,ww]at V;have ai:=S (.rs id 1 0 (cpt tC l).length) (h.set id (.row ((cpt tC l).map (D.int .i64)++rest))) ⟨rfl,rest,rfl⟩;clear o f Y U ad S;exact au
 ·have e1:decide (((i+1:Nat):Int)<(l.length:Int))=false:=zP ow;have hd:=a λj h1 I=>N j h1 ow;clear N a b q1 h0 S;exact au
def zAs(l:List Int):(l.mergeSort λx y=>decide (x<=y))=srt tC l:=by
 unfold srt;congr 1
 funext a b
 unfold tC;by_cases h:a<=b
 ·rw[zS h];have h1:¬b<a:=ow;rw[iq h1];split<;>simp
 ·rw[zP h];have h1:b<a:=ow;rw[ip h1];rfl
def n7(l:List Int):List Int:=cpt tC (srt tC l)
def GA{l:List Int}(h0:l≠[])(e:l.length<=1048576)(tk:Tk)(h:Heap):zE prog 79 [.sl 1 (wY l) tk] h λr h'=>r=.rs h.next 1 0 l.length/\h'=h.new h.next (.row (l.map (D.int .i64))):=by
 have b:0<l.length:=yA.2 h0;have c:jI prog .eql 30 true (.sl 1 (wY l) tk) .nilsl=some (.bool false):=by rw[tI (yi.mk tk) underlying30];rfl
 have d:=λnid h=>wc (P:=prog) (nid:=nid) (h:=h) qv rv sI rfl rfl (by omega:0<1);have a:qg prog true h.next 30 (.sl 1 [] .full) (.sl 1 (wY l) tk) h=some (.rs h.next 1 0 l.length,h.new h.next (.row (l.map (D.int .i64)))):=by
  rw[oX qv Z3 sI ow bR (by rw[lq,wI];unfold lim;omega) (by rw[wI];unfold lim;omega),wI,iq ow,Ve underlying3,bQ]
 refine zu zLl ?_;simp only[f79,zA];simp only[tu,go_sem,c,d,a]
def B6{l:List Int}(h0:l≠[])(d:l.length<=1048576)(a:g.at' id=some (.row (l.map (D.int .i64)))):
  zE prog 195 [.rs id 1 0 l.length] g λr h'=>r=.tuple []/\h'=g.set id (.row ((srt tC l).map (D.int .i64))):=by
 have:=zE.of_sortI (P:=prog) (f:=195) h0 kr a ow (λb off cap zs w h1 c h3=>Tryz.slices_Sort_int b off cap zs w h1 c h3);rw[zAs]at this;exact this
def Qt{l:List Int}(h0:l≠[])(b:l.length<=1048576)(a:g.at' id=some (.row (l.map (D.int .i64)))):
  zE prog 196 [.rs id 1 0 l.length] g λr h'=>h'=g.del id/\r=.sl 1 (wY (cpt tC l)) .no:=
 zE.freezeD ((LC h0 b a).mono (by
  rintro r h' ⟨rfl,rest,rfl⟩;exact⟨id,_,zW _ _ _,by rw[PG],XN bR (wI _) (by rw[bQ])⟩))
def Wj(num:Int)(ks:List Int):List D:=[.int .i64 num,.sl 1 (wY (n7 ks)) .no]
def Mm(num:Int)(ks:List (List Int)):∀c∈ks.map (Wj num),c.length=2:=λc a=>by
 obtain⟨k,_,rfl⟩:=zM.1 a;rfl
def NH(h:Heap)(sz:Nat)(xs:List (List D))(d:D):Prop:=(d=.nilsl/\xs= [])\/∃id,d=.rs id sz 0 xs.length/\h.at' id=some (.row xs.flatten)/\id<h.next/\xs≠[]
def bp(d:D)(i:Nat):Prop:=match d with
 |.rs id _ _ _=>i=id
 |_=>False
def NH.loc(c:NH h sz xs d)(e:h.next<=h'.next)(b:∀i,bp d i->h'.at' i=h.at' i):NH h' sz xs d:=by
 rcases c with h1| ⟨t,rfl,h1,a⟩
 ·exact .inl h1
 ·exact .inr ⟨t,rfl,by rw[b t rfl];exact h1,by omega,a.2⟩
def NH.app{t e:TypeId}(p:NH h sz xs d)(n:tG P t=some e)(r:ZW P e=true)(q:szT P e=sz)(h0:0<sz)(hr:∀cs,og P e cs=.row cs)(j:∀y∈xs,y.length=sz)(l:∀y∈ys,y.length=sz)(k:ys≠[])
  (a:(xs.length+ys.length)*uE P e<=lim) (f:xs.length+ys.length<=lim):∃g:Heap,qg P true nid t d (.sl sz ys tk) h=some (.rs nid sz 0 (xs++ys).length,g.new nid (.row (xs++ys).flatten))/\g.next=h.next/\(∀i,¬bp d i->g.at' i=h.at' i):=by
 have c:ys.flatten.length=ys.length*sz:=tE l;have m:0<ys.length:=yA.2 k;simp only[qg,n,r,q,QU,qS,c,tA _ h0];rcases p with⟨rfl,rfl⟩ | ⟨id,rfl,h1,s⟩
 ·refine⟨h,?_,rfl,λ_ _=>rfl⟩;simp only[tp];rw[iq ow,ip (by simp only[zF,zO];simp only[yo,yZ]at a f;exact⟨a,f⟩)];simp[hr]
 ·refine⟨h.del id,?_,rfl,λi o=>wT λe=>o (by rw[e];rfl)⟩;have b:xs.flatten.length=xs.length*sz:=tE j;simp only[tp,tz,cG];rw[ip (by simp only[zF,zO];exact⟨a,f⟩)];simp only[h1,b,qS];simp
def NH.trunc(a:NH h sz xs d)(b:∀x∈xs,x.length=sz)(x:D):tu d x h=h:=by
 rcases a with⟨rfl,_⟩ | ⟨id,rfl,hr,_⟩
 ·rfl
 ·have hf:xs.flatten.length=xs.length*sz:=tE b;cases x<;>simp[tu,hr,hf]
def YVf(num:Int)(fn:D)(nl nr:Nat)(ks:List (List Int))(S:Nat->Prop)(h:Heap):Prop:=
 nl<h.next/\nr<h.next/\nl≠nr/\h.at' nr=some (.row [.int .i64 num,fn])/\∃d,h.at' nl=some (.row [d])/\NH h 2 (ks.map (Wj num)) d/\¬bp d nl/\¬bp d nr/\∀i,S i↔(i=nl\/i=nr\/bp d i)
theorem Bf{fn:D}{nl nr:Nat}{ks:List (List Int)}(X:ks.length<16777216)(R:YVf num fn nl nr ks S h){l:List Int}(K:l≠[])(hl:l.length<=5)(tk:Tk):
  zE prog 194 [.sl 1 (wY l) tk,.ptr nl 0,.ptr nr 0] h λ_ h'=>∃S',(∀i,S' i->S i\/h.next<=i)/\But S h h'/\YVf num fn nl nr (ks++ [l]) S' h':=by
 obtain⟨y1,y2,M,N,d,O,P,y7,y8,Q⟩:=R;have C:=GA K ow tk h;have I:=B6 K ow (z8 h h.next (.row (l.map (D.int .i64))));have s0:srt tC l≠[]:=λe=>K (yM.1 (by rw[<-(sH (c:=tC) l).length_eq,e];rfl));have sl:(srt tC l).length=l.length:=(sH l).length_eq;have o:=Qt s0 ow (zW (h.new h.next (.row (l.map (D.int .i64)))) h.next (.row ((srt tC l).map (D.int .i64))));rw[sl]at o;refine zu zFV ?_;simp only[f194,zA]
 repeat' first|simp only[go_sem, *]|apply bc<;>intro U
 refine C.mono ?_;rintro r h1 ⟨rfl,rfl⟩
 repeat' first|simp only[go_sem, *]|apply bc<;>intro U
 refine I.mono ?_;rintro r h1 ⟨rfl,rfl⟩;obtain⟨h0,e1,e2,e3⟩:∃h0:Heap,h0.at' nl=some (.row [d])/\h0.at' nr=some (.row [.int .i64 num,fn])/\∀i s,h0.at' i=some s->(i=nl\/i=nr)/\h.at' i=some s:=by
  refine⟨⟨h.next,λi=>if i=nl\/i=nr then h.at' i else none⟩,by simp[O],by simp[N],λi s e=> ?_⟩
  simp only at e;split at e
  ·exact⟨‹_›,e⟩
  ·cases e
 obtain⟨m,n,j⟩:∃m,(h.new h.next (.row (l.map (D.int .i64)))).set h.next (.row ((srt tC l).map (D.int .i64)))=m/\HLe h0 m:=⟨_,rfl,λi s e=>by
  obtain⟨z,A⟩:=e3 i s e;have v:i≠h.next:=by rcases z with rfl|rfl<;>omega
  rw[zY v,zi v];exact A⟩
 have G:(m.del h.next).next=h.next+1:=by rw[<-n];exact za h (.row (l.map (D.int .i64)))
 have a:∀i,i≠h.next->(m.del h.next).at' i=h.at' i:=λi f=>by rw[<-n,wT f,zY f,zi f]
 have k:HLe h0 (m.del h.next):=λi s e=>by
  obtain⟨z,A⟩:=e3 i s e;rw[a _ (by rcases z with rfl|rfl<;>omega)];exact A
 rw[n]at o⊢;have T:qd prog 137 [(0,.int .i64 num),(1,.sl 1 (wY (n7 l)) .no)]=some (.agg (Wj num l)):=by
  simp[qd,cR,fT,ur,wo,Wj,D.cells,D.notTuple]
 have B:∀nid H,yB prog false nid 157 1 [(0,.agg (Wj num l))] H=some (.sl 2 [Wj num l] .full,H):=λnid H=>qW (x:=.agg (Wj num l)) sx fT so rfl rfl ow ow rfl rfl;refine qH h0 [(0,.st,true),(1,.no,true),(2,.st,true),(3,.no,true),(4,.no,true),(5,.no,true),(6,.no,true),(7,.no,false),(8,.no,false)] kr kr j ?_;simp only[go_sem,e1,e2,eq_true j];refine o.mono ?_;rintro r b ⟨rfl,rfl⟩;generalize m.del h.next=b at G a k⊢;have y:NH b 2 (ks.map (Wj num)) d:=P.loc ow λi f=>by
  refine a i ?_;rcases P with⟨rfl,_⟩ | ⟨id,rfl,_,hid,_⟩
  ·exact f.elim
  ·simp only[bp]at f;omega
 have u:(ks.map (Wj num)).length=ks.length:=zG ..;obtain⟨g,t,V,p⟩:=NH.app (nid:=b.next) (tk:=.full) y sx Fi so ow (λcs=>pH underlying137) (Mm num ks) (ys:=[Wj num l]) (by simp[Wj]) (by simp) (by rw[u,M7];unfold lim;simp;omega) (by rw[u];unfold lim;simp;omega);have E:ks.map (Wj num)++ [Wj num l]=(ks++ [l]).map (Wj num):=by simp
 rw[E]at t;have F:(g.new b.next (.row ((ks++ [l]).map (Wj num)).flatten)).at' nl=some (.row [d]):=by rw[zi ow,p _ y7,a _ ow,O]
 have w:yX prog 157 (.ptr nl 0) (.rs b.next 2 0 ((ks++ [l]).map (Wj num)).length) (g.new b.next (.row ((ks++ [l]).map (Wj num)).flatten))=some ((g.new b.next (.row ((ks++ [l]).map (Wj num)).flatten)).set nl (.row [.rs b.next 2 0 ((ks++ [l]).map (Wj num)).length])):=by
  rw[yU F zAw (by simp) rfl rfl];rfl
 have W:(g.new b.next (.row ((ks++ [l]).map (Wj num)).flatten)).next=h.next+2:=by simp only[Heap.new];omega
 have J:=y.trunc (Mm num ks);have q:cpt tC (srt tC l)=n7 l:=rfl;simp only[go_sem,q,T,B,J,t,w,eq_true k];refine⟨λi=>i=nl\/i=nr\/i=b.next,λi f=> ?_,⟨by simp only[ym];omega,λi f L=> ?_⟩,by simp only[ym];omega,by simp only[ym];omega,M,?_,_,zW _ _ _,.inr ⟨b.next,rfl,?_,?_,by simp⟩,?_,?_,λi=>Iff.rfl⟩
 ·rcases f with rfl|rfl|rfl
  ·exact .inl (.inl rfl)
  ·exact .inl (.inr (.inl rfl))
  ·exact .inr ow
 ·have Y:i≠nl:=λe=>L ((Q i).2 (.inl e));have Z:¬bp d i:=λe=>L ((Q i).2 (.inr (.inr e)));rw[zY Y,zi ow,p _ Z,a _ ow]
 ·rw[zY (jO M),zi ow,p _ y8,a _ ow,N]
 ·rw[zY ow,z8]
 ·simp only[ym];omega
 ·simp only[bp];omega
 ·simp only[bp];omega
def Gp{fn:D}{nl nr:Nat} :Fnd2 prog 5 194 [.ptr nl 0,.ptr nr 0] (YVf num fn nl nr):=by
 refine⟨λks S h c i a=> ?_,λks S h h' c t e=> ?_,λks S h l tk c s h0 q r=> ?_⟩
 ·obtain⟨g,j,k,m,d,n,f,o,p,b⟩:=c;rcases(b i).1 a with rfl|rfl|a
  ·exact g
  ·exact j
  ·rcases f with⟨rfl,_⟩ | ⟨id,rfl,_,hid,_⟩
   ·exact a.elim
   ·simp only[bp]at a;omega
 ·obtain⟨g,j,k,m,d,n,f,o,p,b⟩:=c;exact⟨by omega,by omega,k,by rw[e nr ((b _).2 (.inr (.inl rfl)))];exact m,d,by rw[e nl ((b _).2 (.inl rfl))];exact n,f.loc t λi a=>e i ((b i).2 (.inr (.inr a))),o,p,b⟩
 ·exact Bf s c (yA.1 h0) q tk
open Go.Proofs Go.Shelf Go.Sort
def zCK{l m:List Int}{d e:D}(q:yi 1 (wY l) d)(s:yi 1 (wY m) e)(J:l.length<=1048576)(g:Heap):zE prog 236 [d,e] g λr h'=>h'=g/\r=.int .i64 (ss l m):=by
 have y:=nQ q;have A:=nQ s;obtain⟨L,M,_⟩:=yP q;obtain⟨N,O,_⟩:=yP s;refine zu zFj ?_;simp only[f236,zA]
 repeat' first|simp only[go_sem, *]|apply bc<;>intro n
 refine qx (λi fr h'=>fr 0=d/\fr 1=e/\fr 9=d/\fr 10=.int .i64 l.length/\fr 11=.int .i64 (i:Int)/\h'=g/\i<=m.length/\ss (l.drop i) (m.drop i)=ss l m) l.length ?_ ?_
 ·simp only[go_sem,zT,zV,zI];exact⟨yC _,rfl⟩
 rintro i fr h' I ⟨F,G,H,w,x,rfl,c,a⟩;by_cases f:i<l.length
 ·have e1:decide ((i:Int)<(l.length:Int))=true:=zS ow;have B:=gV q f;by_cases j:i>=m.length
  ·have e2:decide ((i:Int)>=(m.length:Int))=true:=zS ow;have hr:ss l m=1:=by
    rw[yf f,rM j]at a;rw[<-a];rfl
   rw[hr];clear a hr c j;exact au
  ·have e2:decide ((i:Int)>=(m.length:Int))=false:=zP ow;have b:i<m.length:=ow;have C:=gV s b;rw[JS f b]at a;simp only[zC,zB f,zB b,zA]at a;have n:=Yr l[i] m[i] h';have E:IntKind.i64.wrap ((i:Int)+1)=((i+1:Nat):Int):=qR (by unfold lim;omega);generalize v:tC l[i] m[i]=z at *
   cases t:(z==0)with
   |true=>
    have h0:z=0:=by simpa using t
    rw[ip h0]at a;have u:i<l.length/\i+1<=m.length/\ss (l.drop (i+1)) (m.drop (i+1))=ss l m:=⟨f,b,a⟩;clear a c j v h0
    repeat' first|simp only[go_sem, *]|apply bc<;>intro n|(refine zE.mono n ?_;rintro r h ⟨K,rfl⟩)
   |false=>
    have h0:¬z=0:=by simpa using t
    rw[iq h0]at a;rw[<-a];clear a c j v h0
    repeat' first|simp only[go_sem, *]|apply bc<;>intro n|refine zE.use n ?_
 ·have e1:decide ((i:Int)<(l.length:Int))=false:=zP ow;have k:l.length<=i:=ow;rw[rM k]at a;cases o:decide ((l.length:Int)<(m.length:Int))with
  |true=>
   have p:=yK o;have hr:ss l m= -1:=by
    rw[yf (show i<m.length by omega)]at a;rw[<-a];rfl
   rw[hr];clear a hr c k
   repeat' first|simp only[go_sem, *]|apply bc<;>intro n
  |false=>
   have p:=yO o;have hr:ss l m=0:=by
    rw[rM ow]at a;rw[<-a];rfl
   rw[hr];clear a hr c k;exact au
structure Vio where
 row:Int
 facts:List Int
def Vio.Is(v:Vio)(cs:List D):Prop:=∃d,cs= [.int .i64 v.row,d]/\yi 1 (wY v.facts) d/\v.facts.length<=1048576
def zER(v w:Vio):Int:=orL [tC v.row w.row,ss v.facts w.facts]
def Tw{v w:Vio}{b c:List D}(o:v.Is b)(p:w.Is c)(g:Heap):zE prog 198 [.agg b,.agg c] g λr h'=>h'=g/\r=.int .i64 (zER v w):=by
 obtain⟨d,rfl,f,a⟩:=o;obtain⟨e,rfl,i,m⟩:=p;have h1:=Yr v.row w.row;have j:=zCK f i a;have h3:=zCR (l:=[tC v.row w.row,ss v.facts w.facts]) (yi.mk .full) (by simp);have q:=bs2 (tC v.row w.row) (ss v.facts w.facts);obtain⟨s,t,_⟩:=yP f;obtain⟨u,x,_⟩:=yP i;have n:∀h:Heap,HLe h h:=λ_ _ _ e=>e;unfold zER;refine zu zFY ?_;simp only[f198,zA]
 repeat' first|simp only[go_sem, *]|apply bc<;>intro k
 refine qH g [(0,.no,true),(1,.no,true),(2,.no,true),(3,.no,true),(5,.no,true),(6,.st,true),(7,.no,true),(8,.st,true),(4,.no,true),(9,.no,true),(10,.no,true),(11,.no,true),(12,.no,true)] kr kr (λ_ _ e=>e) ?_
 repeat' first|simp only[go_sem, *]|apply bc<;>intro k|refine zE.use (h1 _) ?_|refine zE.use (j _) ?_|refine zE.use (h3 _) ?_
def Vio.Is.two{v:Vio}{a:List D}(b:v.Is a):yW true 2 a 0=some (.agg a):=by
 obtain⟨d,rfl,_⟩:=b;exact zJ rfl ow
def Bc{v w:Vio}{a b:List D}(d:v.Is a)(e:w.Is b)(g:Heap):zE prog 189 [.agg a,.agg b] g λr h'=>h'=g/\r=.bool (zER v w==0):=by
 have c:=Tw d e;have h1:=Vio.Is.two d;have f:=Vio.Is.two e;refine zu zFQ ?_;simp only[f189,zA]
 repeat' first|simp only[go_sem, *]|apply bc<;>intro c|refine zE.use (c _) ?_
theorem jT:∀a b:List Int,ss a b=Zn tC a b
 | [],[]=>rfl
 | [],_::_=>rfl
 |_::_,[]=>rfl
 |x::xs,y::ys=>by
  simp only[ss,Zn,N5,jT xs ys]
def IX:QC ss:=by
 have:=ZE.list;exact⟨λx y=>by rw[jT,jT];exact this.anti x y,λx y z=>by rw[jT,jT,jT];exact this.trans x y z⟩
def JT(x y:List Int)(h:ss x y=0):x=y:=by
 rw[jT]at h;exact UY JR _ _ h
def KB(num:Int)(x:List Int):List D:=[.int .i64 num,.sl 1 (wY x) .no]
def vbs(num:Int)(l:List (List Int)):List (List D):=l.map (KB num)
def nK(num:Int)(l:List (List Int)):(vbs num l).length=l.length:=zG ..
def jw(num:Int)(l:List (List Int)):∀x∈vbs num l,x.length=2:=λx a=>by
 obtain⟨y,_,rfl⟩:=zM.1 a;rfl
def TP(num:Int){x:List Int}(h:x.length<=1048576):(Vio.mk num x).Is (KB num x):=⟨_,rfl,yi.mk .no,h⟩
def RO(num:Int)(x y:List Int):zER ⟨num,x⟩ ⟨num,y⟩ =ss x y:=by
 have h:tC num num=0:=ZE.refl num;simp only[zER,orL,h,qS];split
 ·rename_i q;exact q.symm
 ·rfl
def B9{l:List (List Int)}(h0:l≠[])(v:l.length<=16777216)(a:∀x∈l,x.length<=1048576)(b:g.at' id=some (.row (vbs num l).flatten)):
  zE prog 197 [.rs id 2 0 l.length,.fn (.func 198) [] []] g λr h'=>r=.tuple []/\h'=g.set id (.row (vbs num (srt ss l)).flatten):=by
 have:=zE.of_sortK (P:=prog) (f:=197) (cmp:=198) (k:=2) (cells:=KB num) (xs:=l) (id:=id) (pre:=[]) (post:=[]) (h:=g) (cf:=ss) (mid:=[]) (midV:=[]) (λM ρ vs h=>by simpa [wJ]using h) h0 ow (λx i=>rfl) kr (enters_of func198 kr rfl) (by simpa [vbs]using b) IX.swo ow
  (λx i y t H=>by have:=Tw (TP num (a x i)) (TP num (a y t)) H;rw[RO]at this;exact this) (λα _ enc h1 j cf n g cb c off cap d w q p m o e u=>AnyQ.slices_SortFunc Tryz.sortVio 2 (isAgg137) (sizeOf137) enc h1 j cf n g cb c off cap d w q p m o e)
 refine this.mono λr h' ⟨e1,ys,s,e,e2⟩=>⟨e1,?_⟩;rw[e2,Md IX JT s e];simp[vbs]
theorem jd{f:α->List D}{p:α->Prop} :∀{ys:List (List D)},(∀y∈ys,∃s,y=f s/\p s)->∃l:List α,ys=l.map f/\∀s∈l,p s
 | [],_=>⟨[],rfl,λn b=>by cases b⟩
 |y::ys,h=>by
  obtain⟨n,rfl,b⟩:=h y (by simp);obtain⟨ks,rfl,c⟩:=jd (ys:=ys) λz d=>h z (zt _ d);exact⟨n::ks,rfl,λm a=>by
   rcases zw.1 a with rfl|a
   ·exact b
   ·exact c m a⟩
def MZ{c:List D}(h:Shp prog k 45 c):∃d l,c= [d]/\yi 1 (wn l) d/\l.length<=1048576:=by
 obtain⟨d,xs,j,e,m,b,_,a,g⟩:=dc underlying45 pz h;obtain⟨l,rfl,n⟩:=jd (f:=λs:List UInt8=>[D.str s]) λy i=>rQ underlying9 (g y i);rw[zG]at a;exact⟨d,l,e,b,a⟩
def FM{c:List D}(h:Shp prog k 30 c):∃d l,c= [d]/\yi 1 (wY l) d/\l.length<=1048576:=by
 obtain⟨d,xs,j,e,m,b,_,a,g⟩:=dc underlying30 sI h;obtain⟨l,rfl,n⟩:=jd (f:=λs:Int=>[D.int .i64 s]) λy i=>py underlying3 (g y i);rw[zG]at a;exact⟨d,l,e,b,a⟩
def zAk{c:List D}(h:Shp prog k 117 c):∃n:Lic,c=n.cells/\n.Sm:=by
 obtain⟨j,_,hf⟩:=pI underlying117 h;obtain⟨m,r1,rfl,h1,hf⟩:=qA hf;obtain⟨o,r2,rfl,e,hf⟩:=qA hf;obtain⟨p,r3,rfl,h3,hf⟩:=qA hf;obtain⟨q,r4,rfl,f,hf⟩:=qA hf;obtain rfl:=mO hf;obtain⟨s1,rfl,a⟩:=rQ underlying9 h1;obtain⟨s2,rfl,b⟩:=rQ underlying9 e;obtain⟨g,rfl,l⟩:=py underlying3 h3;obtain⟨i,rfl,d⟩:=rQ underlying9 f;exact⟨⟨s1,s2,g,i⟩,rfl,a,b,d⟩
def zAi{c:List D}(h:Shp prog k 122 c):∃n:Exc,c=n.cells/\n.Ok:=by
 obtain⟨j,_,hf⟩:=pI underlying122 h;obtain⟨i,r1,rfl,h1,hf⟩:=qA hf;obtain⟨m,r2,rfl,e,hf⟩:=qA hf;obtain⟨o,r3,rfl,h3,hf⟩:=qA hf;obtain rfl:=mO hf;obtain⟨s1,rfl,a⟩:=rQ underlying9 h1;obtain⟨s2,rfl,g⟩:=rQ underlying9 e;obtain⟨d,l,rfl,f,b⟩:=FM h3;exact⟨⟨s1,s2,l,d⟩,rfl,f,b,a⟩
def zAh{c:List D}(h:Shp prog k 126 c):∃n:Cla,c=n.cells/\n.Ok:=by
 obtain⟨j,_,hf⟩:=pI underlying126 h;obtain⟨r,r1,rfl,h1,hf⟩:=qA hf;obtain⟨s,r2,rfl,b,hf⟩:=qA hf;obtain⟨t,r3,rfl,h3,hf⟩:=qA hf;obtain⟨u,r4,rfl,e,hf⟩:=qA hf;obtain⟨v,r5,rfl,h5,hf⟩:=qA hf;obtain rfl:=mO hf;obtain⟨s1,rfl,m⟩:=rQ underlying9 h1;obtain⟨s2,rfl,o⟩:=py underlying3 b;obtain⟨g,rfl,p⟩:=py underlying3 h3;obtain⟨i,rfl,q⟩:=py underlying3 e;obtain⟨d,l,rfl,f,a⟩:=MZ h5;exact⟨⟨s1,s2,g,i,l,d⟩,rfl,f,a⟩
def zAf{c:List D}(h:Shp prog k 130 c):∃n:Apt,c=n.cells/\True:=by
 obtain⟨j,_,hf⟩:=pI underlying130 h;obtain⟨e,r1,rfl,h1,hf⟩:=qA hf;obtain⟨f,r2,rfl,a,hf⟩:=qA hf;obtain rfl:=mO hf;obtain⟨s1,rfl,b⟩:=rQ underlying9 h1;obtain⟨s2,rfl,d⟩:=rQ underlying9 a;exact⟨⟨s1,s2⟩,rfl,trivial⟩
def zAg{c:List D}(h:Shp prog k 27 c):∃n:Cat,uc n (.agg c)/\n.Sm:=by
 obtain⟨j,_,hf⟩:=pI underlying27 h;obtain⟨z,r1,rfl,h1,hf⟩:=qA hf;obtain⟨A,r2,rfl,b,hf⟩:=qA hf;obtain⟨B,r3,rfl,h3,hf⟩:=qA hf;obtain⟨C,r4,rfl,d,hf⟩:=qA hf;obtain rfl:=mO hf;obtain⟨l,I,E,rfl,_,q,_,e,h1⟩:=dc underlying22 jr h1;obtain⟨m,J,F,rfl,_,r,_,f,b⟩:=dc underlying23 WF b;obtain⟨o,K,G,rfl,_,s,_,g,h3⟩:=dc underlying24 fI h3;obtain⟨p,L,H,rfl,_,t,_,i,d⟩:=dc underlying25 TE d;obtain⟨u,rfl,k1⟩:=jd λy a=>zAk (h1 y a);obtain⟨v,rfl,k2⟩:=jd λy a=>zAi (b y a);obtain⟨w,rfl,k3⟩:=jd λy a=>zAh (h3 y a);obtain⟨x,rfl,k4⟩:=jd λy a=>zAf (d y a);rw[zG]at e f g i
 exact⟨⟨u,v,w,x⟩,⟨l,m,o,p,rfl,q,r,s,t⟩,⟨e,k1⟩,⟨f,k2⟩,⟨g,k3⟩,i⟩
theorem C0:∀{l:List Ex},(∀e∈l,e.Ok)->okL l
 | [],_=>by simp only[okL]
 |e::l,h=>by simp only[okL];exact⟨h e (by simp),C0 λx a=>h x (zt _ a)⟩
def zGk(k:Nat):∀{c:List D},Shp prog k 55 c->∃e:Ex,c=e.cells/\e.Ok:=by
 induction k using Nat.strongRecOn with
 |_ k p=>
 intro c h;obtain⟨j,x,hf⟩:=pI underlying55 h;obtain⟨t,r1,rfl,h1,hf⟩:=qA hf;obtain⟨u,r2,rfl,i,hf⟩:=qA hf;obtain⟨v,r3,rfl,h3,hf⟩:=qA hf;obtain⟨w,r4,rfl,a,hf⟩:=qA hf;obtain rfl:=mO hf;obtain⟨s1,rfl,s⟩:=py underlying3 h1;obtain⟨s2,rfl,d⟩:=rQ underlying9 i;obtain⟨r,rfl,f⟩:=rQ underlying9 h3;obtain⟨g,A,m,rfl,z,o,_,b,a⟩:=dc underlying53 hP a;obtain⟨l,rfl,q⟩:=jd λy n=>p m ow (a y n);rw[zG]at b;exact⟨.mk s1 s2 r l g,rfl,by simp only[Ex.Ok];exact⟨o,b,d,f,C0 q⟩⟩
def zAj{c:List D}(h:Shp prog k 57 c):∃f:Fac,c=f.cells/\f.Ok0:=by
 obtain⟨j,_,hf⟩:=pI underlying57 h;obtain⟨C,r1,rfl,h1,hf⟩:=qA hf;obtain⟨E,r2,rfl,m,hf⟩:=qA hf;obtain⟨F,r3,rfl,h3,hf⟩:=qA hf;obtain⟨G,r4,rfl,n,hf⟩:=qA hf;obtain⟨H,r5,rfl,h5,hf⟩:=qA hf;obtain⟨I,r6,rfl,o,hf⟩:=qA hf;obtain⟨J,r7,rfl,p,hf⟩:=qA hf;obtain⟨K,r8,rfl,q,hf⟩:=qA hf;obtain⟨L,r9,rfl,r,hf⟩:=qA hf;obtain rfl:=mO hf;obtain⟨s1,rfl,y⟩:=py underlying3 h1;obtain⟨s2,rfl,a⟩:=rQ underlying9 m;obtain⟨t,rfl,b⟩:=rQ underlying9 h3;obtain⟨u,rfl,z⟩:=py underlying3 n;obtain⟨v,rfl,A⟩:=py underlying3 h5;obtain⟨w,rfl,B⟩:=py underlying3 o;obtain⟨x,rfl⟩:=MX underlying4 p;obtain⟨e,rfl,g⟩:=zGk _ q
 obtain⟨d,l,rfl,s,i⟩:=MZ r;exact⟨⟨s1,s2,t,u,v,w,x,e,l,d⟩,rfl,g,s,i,a,b⟩
structure SA where
 M:KM Int
 O:KV
 outs:List (List UInt8)
def oY(fs:List Fac)(i:Nat):Nat:=((fs.take i).filter λf=>f.kind==1).length
def nX(y:Cho)(k:Nat):Alt:=y.ts.getD k (mkA [])
def mL(y:Cho)(k:Nat):List UInt8:=y.own.getD k []
def zAv(y:Cho)(fs:List Fac)(i:Nat)(s:SA):SA:=match fs[i]? with
 |none=>s
 |some f=>if(f.kind==1)=true then(if decide (((nX y (oY fs i)).ts.length:Int)>0)=true then⟨bS (i:Int) (nX y (oY fs i)).d s.M,s.O,s.outs⟩else s)
  else if(f.kind==2)=true then(if(s.outs.any λz=>z==f.out)=true then s else⟨s.M,if(!(mL y s.outs.length== []))=true then cK f.out (mL y s.outs.length) s.O else s.O,s.outs++ [f.out]⟩)else s
def qJ(y:Cho)(fs:List Fac):Nat->SA
 |0=>⟨[],[],[]⟩
 |i+1=>zAv y fs i (qJ y fs i)
def alS(fs:List Fac)(y:Cho)(i:Nat):Option Alt:=match fs[i]? with
 |none=>none
 |some f=>if(f.kind==1)=true then(if decide (((nX y (oY fs i)).ts.length:Int)>0)=true then some (nX y (oY fs i))else none)else none
section
variable{y:Cho}{fs:List Fac}
def lN(h:i<fs.length):qJ y fs (i+1)=if(fs[i].kind==1)=true then(if decide (((nX y (oY fs i)).ts.length:Int)>0)=true then⟨bS (i:Int) (nX y (oY fs i)).d (qJ y fs i).M,(qJ y fs i).O,(qJ y fs i).outs⟩else qJ y fs i)
  else if(fs[i].kind==2)=true then(if((qJ y fs i).outs.any λz=>z==fs[i].out)=true then qJ y fs i else⟨(qJ y fs i).M,if(!(mL y (qJ y fs i).outs.length== []))=true then cK fs[i].out (mL y (qJ y fs i).outs.length) (qJ y fs i).O else(qJ y fs i).O,(qJ y fs i).outs++ [fs[i].out]⟩)else qJ y fs i:=by
 show zAv y fs i (qJ y fs i)=_;unfold zAv;rw[zB h]
def zCA(h:i<fs.length):alS fs y i=if(fs[i].kind==1)=true then(if decide (((nX y (oY fs i)).ts.length:Int)>0)=true then some (nX y (oY fs i))else none)else none:=by
 unfold alS;rw[zB h]
theorem Vj:∀k,k<=fs.length->∀j:Nat,dJ (j:Int) (qJ y fs k).M=if j<k then(alS fs y j).map Alt.d else none
 |0,_,j=>by simp[qJ,dJ]
 |k+1,g,j=>by
  have c:=Vj k ow j;have b:k<fs.length:=ow;have f:=zCA (y:=y) b;have key:dJ (j:Int) (qJ y fs (k+1)).M=if j=k then(alS fs y k).map Alt.d else dJ (j:Int) (qJ y fs k).M:=by
   rw[lN b,f];have a:j=k->dJ (j:Int) (qJ y fs k).M=none:=λe=>by rw[c,iq ow]
   split
   ·split
    ·rw[Rj];by_cases e:j=k
     ·subst e;simp
     ·have:((j:Int)==(k:Int))=false:=by simp;omega
      rw[this,iq e];simp
    ·by_cases e:j=k
     ·rw[ip e,a e];rfl
     ·rw[iq e]
   ·split
    ·split
     ·by_cases e:j=k
      ·rw[ip e,a e];rfl
      ·rw[iq e]
     ·by_cases e:j=k
      ·rw[ip e,a e];rfl
      ·rw[iq e]
    ·by_cases e:j=k
     ·rw[ip e,a e];rfl
     ·rw[iq e]
  rw[key,c];by_cases e:j=k
  ·subst e;simp
  ·rw[iq e];by_cases e2:j<k
   ·rw[ip e2,ip ow]
   ·rw[iq e2,iq ow]
def R7(h:i<fs.length):(qJ y fs (i+1)).outs=(qJ y fs i).outs\/∃o,(qJ y fs (i+1)).outs=(qJ y fs i).outs++ [o]:=by
 rw[lN h];split
 ·split<;>exact .inl rfl
 ·split
  ·split
   ·exact .inl rfl
   ·exact .inr ⟨_,rfl⟩
  ·exact .inl rfl
theorem IG{i:Nat} :∀k,i+k<=fs.length->(qJ y fs i).outs.length<=(qJ y fs (i+k)).outs.length
 |0,_=>zD _
 |k+1,h=>by
  have a:=IG (i:=i) k ow;rcases R7 (y:=y) (fs:=fs) (i:=i+k) ow with e| ⟨o,e⟩
  ·rw[<-wA,e];exact a
  ·rw[<-wA,e,zR];omega
theorem VM:∀k,k<=fs.length->(qJ y fs k).outs.length<=k
 |0,_=>zD _
 |k+1,h=>by
  have a:=VM k ow;rcases R7 (y:=y) (fs:=fs) (i:=k) ow with e| ⟨o,e⟩
  ·rw[e];omega
  ·rw[e,zR,t6];omega
def bW(h:i<fs.length):oY fs (i+1)=oY fs i+(if(fs[i].kind==1)=true then 1 else 0):=by
 unfold oY;rw[zQ h,oG,zR];congr 1;by_cases e:(fs[i].kind==1)=true<;>simp[e]
theorem Jv{i:Nat} :∀k,i+k<=fs.length->oY fs i<=oY fs (i+k)
 |0,_=>zD _
 |k+1,h=>by
  have a:=Jv (i:=i) k ow;rw[<-wA,bW ow];omega
theorem VG:∀k,k<=fs.length->oY fs k<=k
 |0,_=>by simp[oY]
 |k+1,h=>by
  have a:=VG k ow;rw[bW ow];split<;>omega
end
def uW:List Fac->List (List UInt8)->List (List UInt8)
 | [],o=>o
 |f::fs,o=>if(f.kind==1)=true then uW fs o else if(f.kind==2)=true then uW fs (if(o.any λz=>z==f.out)=true then o else o++ [f.out])else uW fs o
theorem lz:∀(l:List Fac)(f:Fac)(o:List (List UInt8)),uW (l++ [f]) o=uW [f] (uW l o)
 | [],f,o=>rfl
 |g::l,f,o=>by
  by_cases h1:(g.kind==1)=true
  ·have e:∀m,uW (g::m) o=uW m o:=λm=>by rw[uW,ip h1]
   rw[yE,e,e,lz l f]
  ·by_cases a:(g.kind==2)=true
   ·have e:∀m,uW (g::m) o=uW m (if(o.any λz=>z==g.out)=true then o else o++ [g.out]):=λm=>by rw[uW,iq h1,ip a]
    rw[yE,e,e,lz l f]
   ·have e:∀m,uW (g::m) o=uW m o:=λm=>by rw[uW,iq h1,iq a]
    rw[yE,e,e,lz l f]
theorem lM{y:Cho}{fs:List Fac} :∀k,k<=fs.length->(qJ y fs k).outs=uW (fs.take k) []
 |0,_=>rfl
 |k+1,h=>by
  have a:k<fs.length:=ow;have b:=lM (y:=y) (fs:=fs) k ow;rw[zQ a,lz,<-b,lN a];simp only[uW];split
  ·split<;>rfl
  ·split
   ·split<;>rfl
   ·rfl
theorem jE:∀{l:List Fac}{t:List (List (List Trm))}{o:List (List UInt8)},(dn c l t o).2.2=0->(dn c l t o).1.length=t.length+(l.filter λf=>f.kind==1).length/\(dn c l t o).2.1=uW l o
 | [],t,o,_=>⟨rfl,rfl⟩
 |f::fs,t,o,h=>by
  rw[dn]at h⊢;by_cases h1:(f.kind==1)=true
  ·rw[ip h1]at h⊢;by_cases a:(lD c f.e==0)=true
   ·rw[ip a]at h⊢;obtain⟨b,d⟩:=jE h;refine⟨?_,by rw[d,uW,ip h1]⟩;rw[b,tO (by exact h1)];simp only[zR,zm,yo];omega
   ·rw[iq a]at h;exact absurd h (by simpa using a)
  ·rw[iq h1]at h⊢;by_cases a:(f.kind==2)=true
   ·rw[ip a]at h⊢;obtain⟨b,d⟩:=jE h;exact⟨by rw[b,tN (by exact h1)],by rw[d,uW,iq h1,ip a]⟩
   ·rw[iq a]at h⊢;obtain⟨b,d⟩:=jE h;exact⟨by rw[b,tN (by exact h1)],by rw[d,uW,iq h1,iq a]⟩
def Y5{l:List Fac}(h:(wk c l).2=0):l.length<=256:=by
 unfold wk at h;split at h
 ·exact absurd h (by decide)
 ·split at h
  ·exact absurd h (by decide)
  ·rename_i q
   have:¬((l.length:Int)>256):=by simpa using q
   omega
structure ChoiceOk(c:Cat)(fs:List Fac)(y:Cho):Prop where
 case:(wk c fs).2=0
 lic:oY fs fs.length=y.ts.length
 outs:(qJ y fs fs.length).outs.length=y.own.length
 okk:∀a∈y.ts,a.ts≠[]->a.Ok/\a.ts.length<=64
variable{fs:List Fac}
def RL{y:Cho}{p:Bool}(h:uT c fs y p=0)(r:y.Sm):ChoiceOk c fs y:=by
 unfold uT at h;split at h
 ·rename_i q;rw[h]at q;exact absurd q (by decide)
 ·rename_i B;have v0:(yH c fs).2.2=0:=by simpa using B
  split at h
  ·exact absurd h (by decide)
  ·rename_i n;split at h
   ·rename_i q;rw[h]at q;exact absurd q (by decide)
   ·rename_i C;have o:j9 (n9 (yH c fs).1 y.ts p) y.ts.length=0:=by simpa using C
    have m:=pc (c:=c) (l:=fs);unfold yH at v0 n o m;by_cases j:(!((wk c fs).2==0))=true
    ·rw[ip j]at v0;rw[v0]at j;exact absurd j (by decide)
    ·rw[iq j]at v0 n o m;obtain⟨v,w⟩:=jE v0;have u:(dn c fs [] []).1.length=y.ts.length/\(dn c fs [] []).2.1.length=y.own.length:=by
      simp only[qB,qM,yr,ne_eq,Xk,Decidable.not_not]at n;omega
     refine⟨by simpa using j,?_,?_,λa s g=> ?_⟩
     ·rw[<-u.1,v];simp[oY]
     ·rw[lM _ (zD _),z6,<-w];exact u.2
     ·obtain⟨i,t,rfl⟩:=yD.1 s;have:=fo o i t;unfold n9 at this;rw[zB t]at this;simp only at this;have A:(((y.ts[i].ts.length:Int))==0)=false:=by
       have:=yA.2 g;simp;omega
      rw[A,pU,iq (by decide)]at this;split at this
      ·exact absurd this (by decide)
      ·rename_i q;have d:((dn c fs [] []).1.getD i []).any (λb=>RT y.ts[i].ts b)=true:=by simpa using q
       obtain⟨b,f,x⟩:=yu.1 d;have e:=(lw _ _).1 x;have key:y.ts[i].ts.length<=64->y.ts[i].Ok/\y.ts[i].ts.length<=64:=λq=>⟨⟨(r.ts _ s).sl,g,by omega⟩,q⟩;refine key ?_;rw[e];rw[zC]at f;cases k:(dn c fs [] []).1[i]? with
       |none=>rw[k]at f;cases f
       |some z=>
        rw[k]at f;have:=((m z (zg k)).2.ts b f).2;omega
structure CIn(c:Cat)(fs:List Fac)(y:Cho)(d x yd:D):Prop where
 cat:uc c d
 sm:c.Sm
 x:yi 12 (mV fs) x
 len:fs.length<=1048576
 few:fs.length<=24\/256<fs.length
 ok:∀f∈fs,f.Ok
 cho:BL y yd
 ysm:y.Sm
section
variable{c:Cat}{fs:List Fac}{y:Cho}{d x yd:D}(I:CIn c fs y d x yd)
include I
def CIn.check(p:Bool)(g:Heap):zE prog 74 [d,x,yd,.bool p] g λr h'=>h'=g/\r=.int .i64 (uT c fs y p):=UD I.cat I.sm I.x I.len I.ok I.cho I.ysm p g
def CIn.n16{p:Bool}(h:uT c fs y p=0):fs.length<=24:=by
 have:=Y5 (RL h I.ysm).case;rcases I.few with q|q
 ·exact q
 ·omega
end
variable{c:Cat}{d:D}{fs:List Fac}
def PA{l:List Fac}(h:(wk c l).2=0):pJ c=0:=by
 unfold wk at h;by_cases h1:(!(pJ c==0))=true
 ·rw[ip h1]at h;exact absurd h (by decide)
 ·simpa using h1
theorem LF{l:List (List Int)}(h0:l≠[])(hl:l.length<=16777216)(ag:∀x∈l,x.length<=1048576)(J:g.at' id=some (.row (vbs num l).flatten)):
  zE prog 199 [.rs id 2 0 l.length,.fn (.func 189) [] []] g λr h'=>r=.rs id 2 0 (cpt ss l).length/\∃rest,h'=g.set id (.row ((vbs num (cpt ss l)).flatten++rest)):=by
 have a8:=λ(h:Heap)=>nM (P:=prog) (t:=157) (sz:=2) (id:=id) (off:=0) (len:=l.length) (h:=h) underlying157;have u:0<l.length:=yA.2 h0;have heq:∀x∈l,∀y∈l,∀H,zE prog 189 [.agg (KB num x),.agg (KB num y)] H λr h'=>h'=H/\r=.bool (ss x y==0):=λx S y T H=>by
  have:=Bc (TP num (ag x S)) (TP num (ag y T)) H;rw[RO]at this;exact this
 have b:∀n,n<=l.length->(∀i (h:i+1<l.length),i+1<n->(ss l[i+1] l[i]==0)=false)->tD ss l n=l.take n:=λn hn hh=>by
  induction n with
  |zero=>rfl
  |succ n ih=>
   cases n with
   |zero=>rw[fh u,jN];simp[tj,u]
   |succ k=>
    rw[oQ ow,iq (by rw[hh k ow ow];exact zZ),ih ow λi h1 L=>hh i h1 ow];exact(zQ ow).symm
 refine xP λQ W=> ?_;have a:(∀i (h:i+1<l.length),i+1<l.length->(ss l[i+1] l[i]==0)=false)->Q (.rs id 2 0 l.length) g:=λhh=>W _ _ (by
  have e:cpt ss l=l:=by
   have:=b l.length (zD _) hh;rw[z6]at this;exact this
  rw[e];exact⟨rfl,[],by rw[yL,sR J]⟩)
 refine zu zAH ?_;simp only[f199,zA];cases q1:decide ((l.length:Int)<2)with
 |true=>
  have hd:=a λi h1 L=>by have:=yK q1;omega
  clear a W
  repeat' first|simp only[go_sem, *]|apply bc<;>intro A
 |false=>
 repeat' first|simp only[go_sem, *]|apply bc<;>intro A
 refine qx (λi fr h=>fr 0=.rs id 2 0 l.length/\fr 1=.fn (.func 189) [] []/\fr 5=.int .i64 ((i+1:Nat):Int)/\h=g/\i+1<=l.length/\∀j (h:j+1<l.length),j+1<i+1->(ss l[j+1] l[j]==0)=false) l.length ?_ ?_
 ·simp only[go_sem,zT,zV,zI];exact⟨rfl,u,λj h1 L=>by omega⟩
 rintro i fr k0 hi ⟨f0,f1,f5,rfl,ad,U⟩;by_cases s:i+1<l.length
 ·have e1:decide (((i+1:Nat):Int)<(l.length:Int))=true:=zS ow;have ew:IntKind.i64.wrap (((i+1:Nat):Int)+1)=((i+2:Nat):Int):=qR (by unfold lim;omega);have V:IntKind.i64.wrap (((i+1:Nat):Int)-1)=((i:Nat):Int):=by rw[qU ow ow];omega
  have a1:=qj (P:=prog) (sz:=2) (id:=id) sx so (k:=.i64) s;have a2:=qj (P:=prog) (sz:=2) (id:=id) sx so (k:=.i64) (show i<l.length by omega);have p1:=nN (jw num l) ow (show(vbs num l)[i+1]? =some (KB num l[i+1]) by simp[vbs,s]);have p2:=nN (jw num l) ow (show(vbs num l)[i]? =some (KB num l[i]) by simp[vbs,show i<l.length by omega]);have hq:=heq l[i+1] (zH s) l[i] (zH ow) k0;cases q:(ss l[i+1] l[i]==0)with
  |false=>
   rw[q]at hq;have hn:∀j (h:j+1<l.length),j+1<i+2->(ss l[j+1] l[j]==0)=false:=λj h1 L=>by
    by_cases e:j=i
    ·subst e;exact q
    ·exact U j h1 ow
   clear U a b q1 h0 q heq
   repeat' first|simp only[go_sem, *]|apply bc<;>intro A
   refine yI kr ?_
   repeat' first|simp only[go_sem, *]|apply bc<;>intro A|(refine zE.mono hq ?_;rintro r h ⟨O,rfl⟩)
   exact⟨by omega,s,hn⟩
  |true=>
   rw[q]at hq;have E:tD ss l (i+2)=l.take (i+1):=by
    rw[oQ s,ip q,b (i+1) ow λj h1 L=>U j h1 L]
   have a0:=p8 (P:=prog) (t:=157) (sz:=2) (id:=id) (h:=k0) V7 sx so (k:=.i64) ad;clear U a b q1 h0 q
   repeat' first|simp only[go_sem, *]|apply bc<;>intro A
   refine yI kr ?_
   repeat' first|simp only[go_sem, *]|apply bc<;>intro A|(refine zE.mono hq ?_;rintro r h ⟨O,rfl⟩)
   refine qx (λm fr h'=>fr 0=.rs id 2 0 l.length/\fr 1=.fn (.func 189) [] []/\fr 6=.rs id 2 ((i+1)*2) (l.length- (i+1))/\fr 7=.int .i64 ((m+1:Nat):Int)/\i+1+(m+1)<=l.length/\∃ys:List (List Int),ys.length=l.length/\h'=k0.set id (.row (vbs num ys).flatten)/\
    (tD ss l (i+2+m)).length<=i+1+m/\fr 5=.int .i64 (((tD ss l (i+2+m)).length:Nat):Int)/\ys.take (tD ss l (i+2+m)).length=tD ss l (i+2+m)/\ys.drop (i+1+m)=l.drop (i+1+m)) l.length ?_ ?_
   ·have B:(tD ss l (i+2)).length=i+1:=by rw[E,yR];omega
    have C:tD ss l (i+2+0)=tD ss l (i+2):=rfl;have v:i+1+(0+1)<=l.length/\∃ys:List (List Int),ys.length=l.length/\k0=k0.set id (.row (vbs num ys).flatten)/\
     (tD ss l (i+2+0)).length<=i+1+0/\D.int .i64 ((i+1:Nat):Int)=.int .i64 (((tD ss l (i+2+0)).length:Nat):Int)/\ys.take (tD ss l (i+2+0)).length=tD ss l (i+2+0)/\ys.drop (i+1+0)=l.drop (i+1+0):=
     ⟨by omega,l,rfl,(sR J).symm,by rw[C,B];omega,by rw[C,B],by rw[C,B,E],rfl⟩
    clear B C E;simp only[go_sem,zT,zV,zI];obtain⟨r0,ys,r1,r2,r3,r4,r5,r6⟩:=v;exact⟨f0,f1,rfl,r0,ys,r1,r2,r3,f5.trans r4,r5,r6⟩
   clear E a0 hq p1 p2 a1 a2 f0 f1 f5 e1 ew V;rintro m ba L hm ⟨f0,f1,f6,f7,bb,ys,G,rfl,N,f5,o,f⟩;have w:(k0.set id (.row (vbs num ys).flatten)).at' id=some (.row (vbs num ys).flatten):=zW _ _ _;have a5:=λ(H:Heap)=>nM (P:=prog) (t:=157) (sz:=2) (id:=id) (off:=(i+1)*2) (len:=l.length- (i+1)) (h:=H) underlying157;by_cases ai:m+1<l.length- (i+1)
   ·have e1:decide (((m+1:Nat):Int)<((l.length- (i+1):Nat):Int))=true:=zS ow;have ew:IntKind.i64.wrap (((m+1:Nat):Int)+1)=((m+2:Nat):Int):=qR (by unfold lim;omega);have V:IntKind.i64.wrap (((m+1:Nat):Int)-1)=((m:Nat):Int):=by rw[qU ow ow];omega
    have a1:=rJ (P:=prog) (sz:=2) (id:=id) (off:=(i+1)*2) sx so (k:=.i64) ai;have a2:=rJ (P:=prog) (sz:=2) (id:=id) (off:=(i+1)*2) sx so (k:=.i64) (show m<l.length- (i+1) by omega);obtain⟨x,S⟩:∃x,l[i+1+m+1]? =some x:=⟨_,zB ow⟩;obtain⟨y,T⟩:∃y,l[i+1+m]? =some y:=⟨_,zB ow⟩;have g1:ys[i+1+(m+1)]? =some x:=by
     have:=congrArg (λz=>z[1]?) f;simp only[qX]at this;rw[show i+1+(m+1)=i+1+m+1 by omega,this,S]
    have g2:ys[i+1+m]? =some y:=by
     have:=congrArg (λz=>z[0]?) f;simp only[qX,uB]at this;rw[this,T]
    have cg:∀(k:Nat)(x:List Int),ys[k]? =some x->(vbs num ys)[k]? =some (KB num x):=λk x e=>by simp[vbs,e]
    have p1:=jz (jw num ys) ow (cg _ _ g1);have p2:=jz (jw num ys) ow (cg _ _ g2);have d:tD ss l (i+2+(m+1))=if(ss x y==0)=true then tD ss l (i+2+m)else tD ss l (i+2+m)++ [x]:=by
     have:=PD (c:=ss) S T;rw[show i+2+(m+1)=i+1+m+2 by omega,this,show i+2+m=i+1+m+1 by omega]
    have p:∀zs:List (List Int),zs.drop (i+1+m)=l.drop (i+1+m)->zs.drop (i+1+(m+1))=l.drop (i+1+(m+1)):=λzs e=>by
     have:=congrArg (List.drop 1) e;simpa [uN,wA]using this
    generalize hR:tD ss l (i+2+m)=R at *
    have F:=heq x (zg S) y (zg T) (k0.set id (.row (vbs num ys).flatten));cases q:(ss x y==0)with
    |true=>
     rw[q]at F;rw[ip q]at d;have v:m<l.length/\i+1+(m+1+1)<=l.length/\∃zs:List (List Int),zs.length=l.length/\k0.set id (.row (vbs num ys).flatten)=k0.set id (.row (vbs num zs).flatten)/\
      (tD ss l (i+2+(m+1))).length<=i+1+(m+1)/\D.int .i64 ((R.length:Nat):Int)=.int .i64 (((tD ss l (i+2+(m+1))).length:Nat):Int)/\zs.take (tD ss l (i+2+(m+1))).length=tD ss l (i+2+(m+1))/\zs.drop (i+1+(m+1))=l.drop (i+1+(m+1)):=
      ⟨by omega,by omega,ys,G,rfl,by rw[d];omega,by rw[d],by rw[d];exact o,p _ f⟩
     clear o f p d g1 g2 cg S T hR N q
     repeat' first|simp only[go_sem, *]|apply bc<;>intro A
     refine yI kr ?_
     repeat' first|simp only[go_sem, *]|apply bc<;>intro A|(refine zE.mono F ?_;rintro r h ⟨O,rfl⟩)
    |false=>
     rw[q]at F;rw[iq (by rw[q];exact zZ)]at d;have X:R.length<l.length:=ow;have a3:=qj (P:=prog) (sz:=2) (id:=id) sx so (k:=.i64) X;have a6:=cZ (P:=prog) (t:=137) w (jw num ys) ow so (i:=R.length) (by rw[nK,G];exact X) (x:=KB num x) rfl rfl;have K:(vbs num ys).set R.length (KB num x)=vbs num (ys.set R.length x):=by rw[vbs,vbs,tR]
     rw[K,kM]at a6;have a9:IntKind.i64.wrap (((R.length:Nat):Int)+1)=((R.length+1:Nat):Int):=qR (by unfold lim;omega);have v:m<l.length/\i+1+(m+1+1)<=l.length/\∃zs:List (List Int),zs.length=l.length/\k0.set id (.row (vbs num (ys.set R.length x)).flatten)=k0.set id (.row (vbs num zs).flatten)/\
      (tD ss l (i+2+(m+1))).length<=i+1+(m+1)/\D.int .i64 ((R.length+1:Nat):Int)=.int .i64 (((tD ss l (i+2+(m+1))).length:Nat):Int)/\zs.take (tD ss l (i+2+(m+1))).length=tD ss l (i+2+(m+1))/\zs.drop (i+1+(m+1))=l.drop (i+1+(m+1)):=by
      have M:(R++ [x]).length=R.length+1:=by simp
      refine⟨by omega,by omega,ys.set R.length x,by simpa using G,rfl,by rw[d,M];omega,by rw[d,M],?_,?_⟩
      ·rw[d,M,zQ (by rw[uQ];omega),nS,mg (zD _),o]
      ·rw[mc ow];exact p _ f
     clear o f p d g1 g2 cg S T hR N q K
     repeat' first|simp only[go_sem, *]|apply bc<;>intro A
     refine yI kr ?_
     repeat' first|simp only[go_sem, *]|apply bc<;>intro A|(refine zE.mono F ?_;rintro r h ⟨O,rfl⟩)
   ·have e1:decide (((m+1:Nat):Int)<((l.length- (i+1):Nat):Int))=false:=zP ow;have ak:i+2+m=l.length:=ow;have Y:tD ss l (i+2+m)=cpt ss l:=by rw[ak];rfl
    rw[Y]at o f5 N;have I:(cpt ss l).length<=l.length:=lv _;have a0:=λ(H:Heap)=>p8 (P:=prog) (t:=157) (sz:=2) (id:=id) (h:=H) V7 sx so (k:=.i64) I;have bk:=λ(H:Heap)=>np (P:=prog) (t:=157) (h:=H) V7 sx (id:=id) (sz:=2) so (k:=.i64) I;obtain⟨rest,Z⟩:=WJ (P:=prog) (sz:=2) (t:=157) sx fT rfl rfl w (jw num ys) (n:=(cpt ss l).length) (by rw[nK];omega);have a4:(vbs num ys).take (cpt ss l).length=vbs num (cpt ss l):=by rw[vbs,<-jL,o];rfl
    rw[a4,kM,nK,G]at Z;have a7:=W (.rs id 2 0 (cpt ss l).length) (k0.set id (.row ((vbs num (cpt ss l)).flatten++rest))) ⟨rfl,rest,rfl⟩;clear o f ak Y a4 W;exact au
 ·have e1:decide (((i+1:Nat):Int)<(l.length:Int))=false:=zP ow;have hd:=a λj h1 L=>U j h1 ow;clear U a b q1 h0 W;exact au
def Bi(g:Heap):zE prog 303 [.nilsl,.int .i64 0,.int .i64 0,.fn (.func 198) [] []] g λ_ h'=>h'=g:=by
 have f:IntKind.i64.wrap (0+1)=1:=rfl;have c:decide ((1:Int)<0)=false:=rfl;refine zu zFy ?_;simp only[f303,zA];simp only[go_sem, *];refine qx (λj fr a=>fr 2=.int .i64 0/\fr 8=.int .i64 1/\a=g) 0 ?_ ?_
 ·simp only[go_sem,zT,zV,zI]
 rintro j b a _ ⟨d,e,rfl⟩;exact au
def Br(m:Int)(g:Heap):zE prog 235 [.nilsl,.int .i64 0,.int .i64 0,.int .i64 m,.fn (.func 198) [] []] g λ_ h'=>h'=g:=by
 have k:IntKind.i64.wrap (0-0)=0:=rfl;have c:decide ((0:Int)<=12)=true:=rfl;have i:=Bi;refine zu zFi ?_;simp only[f235,zA];simp only[go_sem, *];refine qx (λj fr a=>fr 0=.nilsl/\fr 1=.int .i64 0/\fr 2=.int .i64 0/\fr 4=.fn (.func 198) [] []/\a=g) 0 ?_ ?_
 ·simp only[go_sem,zT,zV,zI]
 rintro j b a _ ⟨d,e,f,h,rfl⟩;exact au
def Ga(g:Heap):zE prog 197 [.nilsl,.fn (.func 198) [] []] g λ_ h'=>h'=g:=by
 have b:nR prog 3 299 (.int .i64 0)=some (.int .u64 0):=kr;have a:=Tt (n:=0) ow;have e:=λm=>Br m;have d:∀h,mC prog 157 .nilsl h=some (.int .i64 0):=λh=>wa (yi.nil (sz:=2)) underlying157;simp only[zI]at a;refine zu zFX ?_;simp only[f197,zA]
 repeat' first|simp only[go_sem, *]|apply bc<;>intro c|refine zE.use (a _) ?_
def Qv(g:Heap):zE prog 199 [.nilsl,.fn (.func 189) [] []] g λr h'=>h'=g/\r=.nilsl:=by
 have b:∀h,mC prog 157 .nilsl h=some (.int .i64 0):=λh=>wa (yi.nil (sz:=2)) underlying157;have a:decide ((0:Int)<2)=true:=rfl;refine zu zAH ?_;simp only[f199,zA];exact au
def Qw{l:List (List Int)}(h0:l≠[])(c:l.length<=16777216)(b:∀x∈l,x.length<=1048576)(a:g.at' id=some (.row (vbs num l).flatten)):
  zE prog 199 [.rs id 2 0 l.length,.fn (.func 189) [] []] g λr h'=>h'=g.del id/\r=.sl 2 (vbs num (cpt ss l)) .no:=
 zE.freezeD ((LF h0 c b a).mono (by
  rintro r h' ⟨rfl,rest,rfl⟩;exact⟨id,_,zW _ _ _,by rw[PG],XN (jw num _) (nK num _) rfl⟩))
def Ia(s:D):Nat->D
 |0=>.fn (.func 227) [s] []
 |1=>.fn (.func 228) [s] []
 |2=>.fn (.func 229) [s] []
 |3=>.fn (.func 230) [s] []
 |4=>.fn (.func 231) [s] []
 |_=>.fn (.func 232) [s] []
def cd(c:Cat)(fs:List Fac)(al:Nat->Option Alt)(O:KV):Nat->List (List Int)
 |0=>(qz fs al).flatMap (rc c fs al)
 |1=>(qz fs al).flatMap (om c fs al O)
 |2=>(qz fs al).flatMap (dL c fs al)
 |3=>(qz fs al).flatMap (pW c fs al)
 |4=>(dO fs).flatMap (kw fs O)
 |_=>Xj c fs
def sn(s:D)(i:Nat):List D:=[.int .i64 (i:Int),Ia s i]
def zBa(s:D):List (List D):=[sn s 0,sn s 1,sn s 2,sn s 3,sn s 4,sn s 5]
def FI(s:D):∀i,i<6->(zBa s)[i]? =some (sn s i)
 |0,_=>rfl
 |1,_=>rfl
 |2,_=>rfl
 |3,_=>rfl
 |4,_=>rfl
 |5,_=>rfl
 |n+6,h=>by omega
def an:∀{a:List D},a.length=2->∃x y,a= [x,y]
 | [x,y],_=>⟨x,y,rfl⟩
def zCV(sc:List D)(h:Heap):zE prog 193 [.iptr sc 0] h λr h'=>h'=h/\r=.sl 2 (zBa (.iptr sc 0)) .full:=by
 refine zu zFU ?_;simp only[f193,zA];have g:∀(i:Int)(f:FuncId),qd prog 271 [(0,.int .i64 i),(1,.fn (.func f) [.iptr sc 0] [])]=some (.agg [.int .i64 i,.fn (.func f) [.iptr sc 0] []]):=λi f=>by
  simp[qd,Pe,Qf,ur,wo,D.cells,D.notTuple]
 have n:∀a b c d e f:List D,a.length=2->b.length=2->c.length=2->d.length=2->e.length=2->f.length=2->yB prog false h.next 267 6 [(0,.agg a),(1,.agg b),(2,.agg c),(3,.agg d),(4,.agg e),(5,.agg f)] h=some (.sl 2 [a,b,c,d,e,f] .full,h):=λa b c d e f j g k l m hf=>by
  obtain⟨o,p,rfl⟩:=an j;obtain⟨q,s,rfl⟩:=an g;obtain⟨t,u,rfl⟩:=an k;obtain⟨v,w,rfl⟩:=an l;obtain⟨e1,e2,rfl⟩:=an m;obtain⟨x,y,rfl⟩:=an hf;simp[yB,RR,Qf,P0,D.notTuple,D.cells,lV,ur,wo,wR,lim]
 simp only[go_sem,g];rw[n _ _ _ _ _ _ rfl rfl rfl rfl rfl rfl];simp only[go_sem];rfl
def zIp{M:KM Int}{O:KV}{m1 m2:Nat}(e:Stt c fs al M O sc m1 m2)(d:fs.length<=24)
  {h:FuncId} {Y:List (List Int)->(Nat->Prop)->Heap->Prop} (y:Fnd2 prog 5 h cap Y) {w:Heap} (b:Y [] S w) (a:StH M O m1 m2 w) (f:¬S m1) (g:¬S m2):∀i,i<6->
  Za prog (Ia (.iptr sc 0) i) [.fn (.func h) [] cap] w λ_ h'=>∃S',(∀i,S' i->S i\/w.next<=i)/\But S w h'/\Y (cd c fs al O i) S' h':=by
 intro i j;rcases i with _|_|_|_|_|_|i
 ·exact GE e d y b a f g
 ·exact B4 e d y b a f g
 ·exact zCN e d y b a f g
 ·exact BZ e d y b a f g
 ·exact zCP e d y b a f g
 ·exact zCQ e d y b a f g
 ·omega
def gG(c:Cat)(fs:List Fac)(al:Nat->Option Alt)(O:KV)(i:Nat):List (List Int):=cpt ss (srt ss ((cd c fs al O i).map n7))
def FJ(c:Cat)(fs:List Fac)(al:Nat->Option Alt)(O:KV)(i:Nat):D:=if cd c fs al O i= []then .nilsl else .sl 2 (vbs (i:Int) (gG c fs al O i)) .no
def FH{O:KV}(b:fs.length<=24)(i:Nat):(cd c fs al O i).length<=16777216:=by
 have d:=mY (al:=al) b;have a:∀{α:Type}{l:List α}{f:α->List (List Int)}{m n:Nat},l.length<=n->(∀x∈l,(f x).length<=m)->n*m<=16777216->(l.flatMap f).length<=16777216:=λh1 e h3=>zf (sL e) (zf (yv _ h1) h3);unfold cd;split
 ·exact a (m:=1) d (λt _=>by unfold rc;split<;>simp) ow
 ·exact a (m:=1) d (λt _=>by
   unfold om;split
   ·simp
   ·split<;>simp) ow
 ·exact a (m:=24) d (λt _=>Rp c b al t) ow
 ·exact a (m:=4096) d (λt _=>Wr c b al t) ow
 ·exact a (m:=24) (n:=24) (zf (sj _ fs 0) b) (λt _=>Ry b O t) ow
 ·unfold Xj;split
  ·simp
  ·exact a (m:=1) (n:=24) (zf (sj _ fs 0) b) (λt _=>zD _) ow
def R1(l:List Int):(n7 l).length<=l.length:=zf (lv _) (Nat.le_of_eq (sH l).length_eq)
def Ib{O:KV}(i:Nat):∀l∈cd c fs al O i,l.length<=5:=by
 intro l a;unfold cd at a;split at a
 ·obtain⟨t,_,h⟩:=z5.1 a;unfold rc at h;split at h
  ·rw[ze.1 h];simp
  ·cases h
 ·obtain⟨t,_,h⟩:=z5.1 a;unfold om at h;split at h
  ·cases h
  ·split at h
   ·rw[ze.1 h];simp
   ·cases h
 ·obtain⟨t,_,h⟩:=z5.1 a;obtain⟨k,_,h⟩:=z5.1 h;unfold cM at h;split at h
  ·rw[ze.1 h];simp
  ·cases h
 ·obtain⟨t,_,h⟩:=z5.1 a;unfold pW at h;split at h
  ·obtain⟨r,_,h⟩:=z5.1 h;unfold mF at h;split at h
   ·rw[ze.1 h];simp
   ·cases h
  ·cases h
 ·obtain⟨t,_,h⟩:=z5.1 a;unfold kw at h;split at h
  ·cases h
  ·split at h
   ·cases h
   ·obtain⟨r,_,h⟩:=z5.1 h;rw[ze.1 h];simp
 ·unfold Xj at a;split at a
  ·cases a
  ·obtain⟨r,_,h⟩:=z5.1 a;rw[ze.1 h];simp
def HH(sc:List D):D:=.fn (.func 192) [] [.iptr [.iptr sc 0] 0]
def RI(sc:List D)(g:Heap):zE prog 130 [.iptr sc 0] g λr h'=>h'=g/\r=HH sc:=by
 refine zu zFB ?_;simp only[f130,zA];simp only[go_sem,HH, *]
def HG(num:Int)(l:List (List Int)):l.map (Wj num)=vbs num (l.map n7):=by
 unfold vbs;rw[wF];rfl
theorem UH{M:KM Int}{O:KV}{m1 m2:Nat}(hs:Stt c fs al M O sc m1 m2)(hn:fs.length<=24){Y:Nat->(Nat->Prop)->Heap->Prop}{Z:(Nat->Prop)->Heap->Prop}(y:Yld prog id 6 (λi=>[FJ c fs al O i]) Y Z){w:Heap}(hY:Y 0 S w)(v:StH M O m1 m2 w)(n1:¬S m1)(n2:¬S m2):
  zE prog 192 [.yld id,.iptr [.iptr sc 0] 0] w λ_ h'=>∃S',(∀j,S' j->S j\/w.next<=j)/\But S w h'/\(Y 6 S' h'\/Z S' h'):=by
 have V:=zCV sc;have a8:∀h,mC prog 267 (.sl 2 (zBa (.iptr sc 0)) .full) h=some (.int .i64 6):=λh=>wa (yi.mk (sz:=2) (xs:=zBa (.iptr sc 0)) .full) underlying267;refine zu zFT ?_;simp only[f192,zA]
 repeat' first|simp only[go_sem, *]|apply bc<;>intro hc|(refine zE.mono (V _) ?_;rintro r h ⟨u,rfl⟩)
 subst u
 rename Heap=>w
 refine qx (λi fr h'=>fr 0=.yld id/\fr 1=.iptr [.iptr sc 0] 0/\fr 7=.sl 2 (zBa (.iptr sc 0)) .full/\fr 8=.int .i64 6/\fr 9=.int .i64 (i:Int)/\∃S',(∀j,S' j->S j\/w.next<=j)/\But S w h'/\Y i S' h') 6 ?_ ?_
 ·have G:∃S',(∀j,S' j->S j\/w.next<=j)/\But S w w/\Y 0 S' w:=⟨S,λj n=>.inl n,But.refl S w,hY⟩;simp only[go_sem,zT,zV,zI];exact G
 rintro i fr h1 K ⟨I,f1,f7,f8,f9,S',J,b,t⟩;by_cases o:i<6
 ·have e1:decide ((i:Int)<6)=true:=zS ow;have ew:IntKind.i64.wrap ((i:Int)+1)=((i+1:Nat):Int):=qR (by unfold lim;omega);have hw:yW true 2 (sn (.iptr sc 0) i) 0=some (.agg (sn (.iptr sc 0) i)):=zJ rfl ow;have G:∀(h:Heap)(id:Nat),yX prog 271 (.ptr id 0) (.agg (sn (.iptr sc 0) i)) (h.new id (.row [.int .i64 0,.nilfn]))=some (h.new id (.row (sn (.iptr sc 0) i))):=λh id=>qK P0 ow rfl rfl (by rcases i with _|_|_|_|_|i<;>rfl);have ha:yt prog 267 (.sl 2 (zBa (.iptr sc 0)) .full) (.int .i64 (i:Int))=some (.iptr (sn (.iptr sc 0) i) 0):=yn (yi.mk (sz:=2) _) RR P0 (FI _ _ o)
  have ak:(sn (.iptr sc 0) i)[1]? =some (Ia (.iptr sc 0) i):=rfl;have a7:=b.1;obtain⟨H,ad,a6,a3,a2,hE⟩:∃H:Heap,(h1.new h1.next (.row (sn (.iptr sc 0) i))).new (h1.next+1) (.row [.nilsl])=H/\H.next=h1.next+2/\H.at' h1.next=some (.row (sn (.iptr sc 0) i))/\H.at' (h1.next+1)=some (.row [.nilsl])/\Ext h1 H:=
   ⟨_,rfl,qL _ (by rw[za];exact zD _) _,by rw[zi ow,z8],z8 _ _ _,((Ext.refl h1).new (zD _) _).new ow _⟩
  have m:But S w H:=b.trans (hE.but S) λi K=>.inl K;have B:StH M O m1 m2 H:=⟨⟨by rw[m.2 _ v.2.1 n1];exact v.1.1,by rw[m.2 _ v.2.2 n2];exact v.1.2⟩,by have:=v.2.1;omega,by have:=v.2.2;omega⟩;have Y0:YVf (i:Int) (Ia (.iptr sc 0) i) (h1.next+1) h1.next [] (λj=>j=h1.next+1\/j=h1.next) H:=⟨by omega,by omega,by omega,a3,.nilsl,a2,.inl ⟨rfl,rfl⟩,λe=>e,λe=>e,λj=>⟨λe=>e.elim .inl λe=>.inr (.inl e),λe=>e.elim .inl λe=>e.elim .inr λe=>e.elim⟩⟩;have N:=zIp hs hn (Gp (num:=(i:Int)) (fn:=Ia (.iptr sc 0) i) (nl:=h1.next+1) (nr:=h1.next)) Y0 B (λe=>by have:=v.2.1;omega) (λe=>by have:=v.2.2;omega) i o
  clear B m Y0
  repeat' first|simp only[go_sem,za, *]|apply bc<;>intro
  refine Za.mono ?_ N;rintro r p ⟨S2,s2,b2,w1,w2,w3,w4,d2,X,w6,w7,w8,w9⟩;have a5:=b2.1;have A:∀j,j<h1.next->p.at' j=h1.at' j:=λj n=>by rw[b2.2 j ow ow,hE.2 j n]
  rw[HG]at w6;have ai:=FH (c:=c) (al:=al) (O:=O) hn i;have ag:=Ib (c:=c) (fs:=fs) (al:=al) (O:=O) i;clear N G ha hw ak ad e1;rcases w6 with⟨rfl,e⟩ | ⟨k,rfl,g1,g2,g3⟩
  ·have e0:cd c fs al O i= []:=by simpa [vbs]using e
   have hv:FJ c fs al O i=.nilsl:=by unfold FJ;rw[ip e0]
   have q:Ext h1 p:=⟨by omega,A⟩;have s:=y.go i S' p o (y.ext t q);have d:∀(l:Nat->Prop)(h5:Heap),(∀j,l j->S' j\/p.next<=j)->But S' p h5->(∀j,l j->S j\/w.next<=j)/\But S w h5:=λl h5 f g=>⟨λj n=>by
    rcases f j n with n|n
    ·exact J j n
    ·exact .inr ow,(b.trans (q.but S) λi K=>.inl K).trans g J⟩
   simp only[hv]at s;simp only[go_sem,X,I];refine(Ga p).mono ?_;rintro r h3 u;subst u;simp only[go_sem,X,I];refine(Qv h3).mono ?_;rintro r h4 ⟨u,rfl⟩;subst u;refine s.mono ?_;rintro r h5 ⟨l,f,g,⟨rfl,C⟩ | ⟨rfl,D⟩⟩
   ·have a:=d l h5 f g;simp only[go_sem,vun,ew,I,f1,f7,f8,f9,zT];exact⟨o,l,a.1,a.2,C⟩
   ·have a:=d l h5 f g;simp only[go_sem,vun];exact⟨l,a.1,a.2,.inr D⟩
  ·have F:(cd c fs al O i).map n7≠[]:=λe=>g3 (by rw[e];rfl);have T:cd c fs al O i≠[]:=λe=>F (by rw[e];rfl);have a1:((cd c fs al O i).map n7).length<=16777216:=by rw[zG];exact ai
   have Q:∀x∈(cd c fs al O i).map n7,x.length<=1048576:=λx hx=>by
    obtain⟨z,hz,rfl⟩:=zM.1 hx;have h1:=R1 z;have p:=ag z hz;omega
   have hv:FJ c fs al O i=.sl 2 (vbs (i:Int) (gG c fs al O i)) .no:=by unfold FJ;rw[iq T]
   have U:gG c fs al O i=cpt ss (srt ss ((cd c fs al O i).map n7)):=rfl;rw[U]at hv;clear U;generalize(cd c fs al O i).map n7=L at *
   have hid:H.next<=k:=by
    rcases s2 k ((w9 k).2 (.inr (.inr rfl)))with(e|e)|e
    ·exact absurd e.symm (λe=>w7 (by rw[e];rfl))
    ·exact absurd e.symm (λe=>w8 (by rw[e];rfl))
    ·exact e
   have W:=B9 (num:=(i:Int)) F a1 Q g1;have sl:(srt ss L).length=L.length:=(sH L).length_eq;have s0:srt ss L≠[]:=λe=>F (yM.1 (by rw[<-sl,e];rfl));have E:=Qw (num:=(i:Int)) s0 ow (λx hx=>Q x (ZN.1 hx)) (zW p k (.row (vbs (i:Int) (srt ss L)).flatten));rw[sl]at E;rw[nK]at X;obtain⟨h3,P,R,a4⟩:∃h3,p.set k (.row (vbs (i:Int) (srt ss L)).flatten)=h3/\h3.next=p.next/\h3.at' (h1.next+1)=some (.row [.rs k 2 0 L.length]):=⟨_,rfl,ym _ _ _,by rw[zY ow];exact X⟩;have q:Ext h1 (h3.del k):=⟨by rw[MH,R];omega,λj n=>by rw[wT ow,<-P,zY ow,A j n]⟩;have a9:(h3.del k).next=p.next:=by rw[MH,R]
   rw[P]at W E;generalize h3.del k=h4 at *
   have s:=y.go i S' h4 o (y.ext t q);have d:∀(l:Nat->Prop)(h5:Heap),(∀j,l j->S' j\/h4.next<=j)->But S' h4 h5->(∀j,l j->S j\/w.next<=j)/\But S w h5:=λl h5 f g=>⟨λj n=>by
    rcases f j n with n|n
    ·exact J j n
    ·exact .inr ow,(b.trans (q.but S) λi K=>.inl K).trans g J⟩
   simp only[hv]at s;simp only[go_sem,X,I];refine W.mono ?_;rintro r h ⟨rfl,u⟩;subst u;simp only[go_sem,a4,I];refine E.mono ?_;rintro r h ⟨u,rfl⟩;subst u;refine s.mono ?_;rintro r h5 ⟨l,f,g,⟨rfl,C⟩ | ⟨rfl,D⟩⟩
   ·have a:=d l h5 f g;simp only[go_sem,vun,ew,I,f1,f7,f8,f9,zT];exact⟨o,l,a.1,a.2,C⟩
   ·have a:=d l h5 f g;simp only[go_sem,vun];exact⟨l,a.1,a.2,.inr D⟩
 ·have e1:decide ((i:Int)<6)=false:=zP ow;have a0:i=6:=ow;subst a0;have d:∃S',(∀j,S' j->S j\/w.next<=j)/\But S w h1/\(Y 6 S' h1\/Z S' h1):=⟨S',J,b,.inl t⟩;clear J b t V;exact au
end Go.V
