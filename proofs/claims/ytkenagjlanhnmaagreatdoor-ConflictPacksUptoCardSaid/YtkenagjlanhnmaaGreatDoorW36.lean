/- A machine of abstract values for programs of the model, further rules, part 2. No condition. -/
import Derived.Test.YtkenagjlanhnmaaGreatDoorW35
set_option linter.all false
set_option maxHeartbeats 8000000
namespace Go.V
open Go.Shelf Go.Proofs Go.Sort
open Go.RowKit (Below)
variable{P:Program}{f:FuncId}{id sz nid k i:Nat}{h g h':Heap}{xs ys:List (List D)}{d:D}{tk:Tk}{num:Int}{S:Nat->Prop}{α:Type}{c:Cat}{fs:List Fac}{al:Nat->Option Alt}{sc cap:List D}
def zE.of_sortI{xs:List Int}(h0:xs≠[])(V:pU P f=true)(g:h.at' id=some (.row (xs.map (D.int .i64))))(s:xs.length<4611686018427387904)
  (t:∀(b off cap:Nat)(zs:List Int)(w:World),Go.Sort.Holds (Value.int .i64) w b off zs.toArray->b<w.heap.size->zs.length<4611686018427387904->
   Calls P f #[.slice (some ⟨b,off,none⟩) zs.length cap] w λe O=>e=.returned (.tuple #[])/\∃n I,O=Go.Sort.grow (putRow (Value.int .i64) (Go.Sort.ahead w n) b off (zs.mergeSort λx y=>decide (x<=y)).toArray) I):
  zE P f [.rs id 1 0 xs.length] h λr h'=>r=.tuple []/\h'=h.set id (.row ((xs.mergeSort λx y=>decide (x<=y)).map (D.int .i64))):=by
 refine⟨V,λw0 G M ρ w va W L B hr=> ?_⟩;simp only[wI]at hr;obtain⟨v,ai,F,N,rfl⟩:=hr;simp only[rel,wI]at N;obtain⟨_,K,l,cap,o,J,rfl,⟨S,T⟩,ad,u⟩:=N;have ag:0<xs.length:=z7.2 h0;have u:o=0:=by
  rcases u with hz|u
  .omega
  .exact u
 subst u;have z:va= #[.slice (some ⟨l.blk,0,none⟩) xs.length cap]:=sY (by simpa using F);subst z;obtain⟨l',h1,C,hM,c,e,H,Z,U,a⟩:=L.live id _ g;rw[J]at h1;cases h1;have m:l.blk<w.heap.size:=(yS.1 H).1;have d:Go.Sort.Holds (Value.int .i64) w l.blk 0 xs.toArray:=by
  intro j Y;have p:j<xs.length:=by simpa using Y
  refine⟨?_,by simp[World.frozen?,H]⟩;obtain⟨_,v,Q,h3⟩:=a j (.int .i64 xs[j]) (by rw[zh,zB p];rfl);simp only[rel]at h3;obtain⟨rfl,_⟩:=h3;simp only[World.cell?,H,sE,zf,yr];rw[yP,Q];simp[p]
 refine(t l.blk 0 cap xs w d m s).mono λe O E=> ?_;obtain⟨rfl,n,I,rfl⟩:=E;have k:h.at' id=some (.row ([]++xs.map (D.int .i64)++ [])):=by simpa using g
 have R:=(L.ahead n).putRow (α:=Int) (enc:=Value.int .i64) (dd:=D.int .i64) (λq=>rfl) k J (ys:=xs.mergeSort λx y=>decide (x<=y)) (List.length_mergeSort _) (λq E=>by
  obtain⟨i,X,rfl⟩:=zy.1 (List.mem_mergeSort.1 E);obtain⟨_,v,_,h3⟩:=a i (.int .i64 xs[i]) (by rw[zh,zB X];rfl);simp only[rel]at h3;exact uJ h3.2)
 have A:=R.grow I;refine⟨.tuple #[],M,ρ,.tuple [],_,rfl,MLe.refl _,RLe.refl _,A,B,by simp only[rel,wI];exact⟨#[],rfl,rfl⟩,rfl,jS⟩
open Go.Proofs.Tryz
open Go.Proofs
set_option maxRecDepth 100000
def aL(l:List Int):(wC l).flatten=l.map (D.int .i64):=by
 induction l with
 |nil=>rfl
 |cons a l b=>simp only[wC,qV,yH]at b⊢;rw[b];rfl
def aM{l:List Int} :∀x∈wC l,x.length=1:=by grind [wC]
def Mv(x y:Int):(tD x y==0)=(x==y):=by grind [tD]
theorem Kr{l:List Int}(h0:l≠[])(hl:l.length<=1048576)(G:g.at' id=some (.row (l.map (D.int .i64)))):
  zE prog 196 [.rs id 1 0 l.length] g λr h'=>r=.rs id 1 0 (cpt tD l).length/\∃rest,h'=g.set id (.row ((cpt tD l).map (D.int .i64)++rest)):=by
 have aj:=λ(h:Heap)=>oC (P:=prog) (t:=30) (sz:=1) (id:=id) (off:=0) (len:=l.length) (h:=h) underlying30;have s:0<l.length:=z7.2 h0;have b:∀n,n<=l.length->(∀i (h:i+1<l.length),i+1<n->(tD l[i+1] l[i]==0)=false)->tF tD l n=l.take n:=λn hn hh=>by
  induction n with
  |zero=>rfl
  |succ n ih=>
   cases n with
   |zero=>rw[bz s,ja];simp[tn,s]
   |succ k=>
    rw[np ow,iq (by rw[hh k ow ow];exact zV),ih ow λi h1 I=>hh i h1 ow];exact(zM ow).symm
 refine xP λQ S=> ?_;have a:(∀i (h:i+1<l.length),i+1<l.length->(tD l[i+1] l[i]==0)=false)->Q (.rs id 1 0 l.length) g:=λhh=>S _ _ (by
  have e:cpt tD l=l:=by
   have:=b l.length (zD _) hh;rw[zt]at this;exact this
  rw[e];exact⟨rfl,[],by rw[yC,uU G]⟩)
 refine zo zHR ?_;simp only[f196,zA];cases q1:decide ((l.length:Int)<2)with
 |true=>
  have hd:=a λi h1 I=>by have:=yB q1;omega
  clear a S;simp only[go_sem, *]
 |false=>
 simp only[go_sem, *];refine ql (λi fr h=>fr 0=.rs id 1 0 l.length/\fr 3=.int .i64 ((i+1:Nat):Int)/\h=g/\i+1<=l.length/\∀j (h:j+1<l.length),j+1<i+1->(tD l[j+1] l[j]==0)=false) l.length ?_ ?_
 .simp only[go_sem,zQ,zT,zG]
  exact⟨rfl,s,λj h1 I=>by omega⟩
 rintro i fr h hi ⟨f0,f3,rfl,W,N⟩;by_cases C:i+1<l.length
 .have e1:decide (((i+1:Nat):Int)<(l.length:Int))=true:=zR ow
  have ew:IntKind.i64.wrap (((i+1:Nat):Int)+1)=((i+2:Nat):Int):=qR jL;have O:IntKind.i64.wrap (((i+1:Nat):Int)-1)=((i:Nat):Int):=by rw[qJ ow ow];omega
  have a1:=qG (P:=prog) (sz:=1) (id:=id) qS uz (k:=.i64) C;have a2:=qG (P:=prog) (sz:=1) (id:=id) qS uz (k:=.i64) (show i<l.length by omega);have p1:(l.map (D.int .i64))[i+1]? =some (.int .i64 l[i+1]):=by simp[C]
  have p2:(l.map (D.int .i64))[i]? =some (.int .i64 l[i]):=by simp[show i<l.length by omega]
  have L:=Mv l[i+1] l[i];rw[wF]at a1 a2;cases q:(tD l[i+1] l[i]==0)with
  |false=>
   rw[q]at L;replace L:=L.symm;have hn:∀j (h:j+1<l.length),j+1<i+2->(tD l[j+1] l[j]==0)=false:=λj h1 I=>by
    by_cases e:j=i
    .subst e;exact q
    .exact N j h1 ow
   clear N a b q1 h0 q;simp only[go_sem, *];refine yF kr ?_;simp only[go_sem, *];exact⟨ow,C,hn⟩
  |true=>
   rw[q]at L;replace L:=L.symm;have B:tF tD l (i+2)=l.take (i+1):=by
    rw[np C,ip q,b (i+1) ow λj h1 I=>N j h1 I]
   have M:=pC (P:=prog) (t:=30) (sz:=1) (id:=id) (h:=h) Xb qS uz (k:=.i64) W;rw[wF]at M;clear N a b q1 h0 q;simp only[go_sem, *];refine yF kr ?_;simp only[go_sem, *];refine ql (λm fr h'=>fr 0=.rs id 1 0 l.length/\fr 4=.rs id 1 (i+1) (l.length- (i+1))/\fr 5=.int .i64 ((m+1:Nat):Int)/\i+1+(m+1)<=l.length/\∃ys:List Int,ys.length=l.length/\h'=h.set id (.row (ys.map (D.int .i64)))/\
    (tF tD l (i+2+m)).length<=i+1+m/\fr 3=.int .i64 (((tF tD l (i+2+m)).length:Nat):Int)/\ys.take (tF tD l (i+2+m)).length=tF tD l (i+2+m)/\ys.drop (i+1+m)=l.drop (i+1+m)) l.length ?_ ?_
   .have w:(tF tD l (i+2)).length=i+1:=by rw[B,yK];omega
    have A:tF tD l (i+2+0)=tF tD l (i+2):=rfl;have u:i+1+(0+1)<=l.length/\∃ys:List Int,ys.length=l.length/\h=h.set id (.row (ys.map (D.int .i64)))/\
     (tF tD l (i+2+0)).length<=i+1+0/\D.int .i64 ((i+1:Nat):Int)=.int .i64 (((tF tD l (i+2+0)).length:Nat):Int)/\ys.take (tF tD l (i+2+0)).length=tF tD l (i+2+0)/\ys.drop (i+1+0)=l.drop (i+1+0):=
     ⟨ow,l,rfl,(uU G).symm,by rw[A,w];omega,by rw[A,w],by rw[A,w,B],rfl⟩
    clear w A B;simp only[go_sem,zQ,zT,zG];obtain⟨r0,ys,r1,r2,r3,r4,r5,r6⟩:=u;exact⟨f0,rfl,r0,ys,r1,r2,r3,f3.trans r4,r5,r6⟩
   clear B M L p1 p2 a1 a2 f0 f3 e1 ew O;rintro m a0 I hm ⟨f0,f4,f5,a4,ys,E,rfl,K,f3,o,f⟩;have v:(h.set id (.row (ys.map (D.int .i64)))).at' id=some (.row (ys.map (D.int .i64))):=zU _ _ _;have ag:=λ(H:Heap)=>oC (P:=prog) (t:=30) (sz:=1) (id:=id) (off:=i+1) (len:=l.length- (i+1)) (h:=H) underlying30;by_cases X:m+1<l.length- (i+1)
   .have e1:decide (((m+1:Nat):Int)<((l.length- (i+1):Nat):Int))=true:=zR ow
    have ew:IntKind.i64.wrap (((m+1:Nat):Int)+1)=((m+2:Nat):Int):=qR jL;have O:IntKind.i64.wrap (((m+1:Nat):Int)-1)=((m:Nat):Int):=by rw[qJ ow ow];omega
    have a1:=rO (P:=prog) (sz:=1) (id:=id) (off:=i+1) qS uz (k:=.i64) X;have a2:=rO (P:=prog) (sz:=1) (id:=id) (off:=i+1) qS uz (k:=.i64) (show m<l.length- (i+1) by omega);obtain⟨x,hx⟩:∃x,l[i+1+m+1]? =some x:=⟨_,zB ow⟩;obtain⟨y,hy⟩:∃y,l[i+1+m]? =some y:=⟨_,zB ow⟩;have g1:ys[i+1+(m+1)]? =some x:=by
     have:=congrArg (λz=>z[1]?) f;simp only[qY]at this;rw[show i+1+(m+1)=i+1+m+1 by omega,this,hx]
    have g2:ys[i+1+m]? =some y:=by
     have:=congrArg (λz=>z[0]?) f;simp only[qY,wZ]at this;rw[this,hy]
    rw[wF]at a1 a2;have p1:(ys.map (D.int .i64))[i+1+(m+1)]? =some (.int .i64 x):=by rw[zh,g1];rfl
    have p2:(ys.map (D.int .i64))[i+1+m]? =some (.int .i64 y):=by rw[zh,g2];rfl
    have d:tF tD l (i+2+(m+1))=if(tD x y==0)=true then tF tD l (i+2+m)else tF tD l (i+2+m)++ [x]:=by
     have:=NU (c:=tD) hx hy;rw[show i+2+(m+1)=i+1+m+2 by omega,this,show i+2+m=i+1+m+1 by omega]
    have p:∀zs:List Int,zs.drop (i+1+m)=l.drop (i+1+m)->zs.drop (i+1+(m+1))=l.drop (i+1+(m+1)):=λzs e=>by
     have:=congrArg (List.drop 1) e;simpa [uM,qn]using this
    generalize hR:tF tD l (i+2+m)=R at *
    have Z:=(Mv x y).symm;cases q:(tD x y==0)with
    |true=>
     rw[q]at Z;rw[ip q]at d;have u:m<l.length/\i+1+(m+1+1)<=l.length/\∃zs:List Int,zs.length=l.length/\h.set id (.row (ys.map (D.int .i64)))=h.set id (.row (zs.map (D.int .i64)))/\
      (tF tD l (i+2+(m+1))).length<=i+1+(m+1)/\D.int .i64 ((R.length:Nat):Int)=.int .i64 (((tF tD l (i+2+(m+1))).length:Nat):Int)/\zs.take (tF tD l (i+2+(m+1))).length=tF tD l (i+2+(m+1))/\zs.drop (i+1+(m+1))=l.drop (i+1+(m+1)):=
      ⟨ow,ow,ys,E,rfl,by rw[d];omega,by rw[d],by rw[d];exact o,p _ f⟩
     clear o f p d g1 g2 hx hy hR K q;simp only[go_sem, *];refine yF kr ?_;simp only[go_sem, *]
    |false=>
     rw[q]at Z;rw[iq (by rw[q];exact zV)]at d;have T:R.length<l.length:=ow;have a3:=qG (P:=prog) (sz:=1) (id:=id) qS uz (k:=.i64) T;rw[wF]at a3;have a6:yR prog 3 (.ptr id R.length) (.int .i64 x) (h.set id (.row (ys.map (D.int .i64))))=some (h.set id (.row ((ys.set R.length x).map (D.int .i64)))):=by
      rw[yM v uz (by rw[zH,E];exact T) rfl rfl,nU,tN]
     have ak:IntKind.i64.wrap (((R.length:Nat):Int)+1)=((R.length+1:Nat):Int):=qR jL;have u:m<l.length/\i+1+(m+1+1)<=l.length/\∃zs:List Int,zs.length=l.length/\h.set id (.row ((ys.set R.length x).map (D.int .i64)))=h.set id (.row (zs.map (D.int .i64)))/\
      (tF tD l (i+2+(m+1))).length<=i+1+(m+1)/\D.int .i64 ((R.length+1:Nat):Int)=.int .i64 (((tF tD l (i+2+(m+1))).length:Nat):Int)/\zs.take (tF tD l (i+2+(m+1))).length=tF tD l (i+2+(m+1))/\zs.drop (i+1+(m+1))=l.drop (i+1+(m+1)):=by
      have J:(R++ [x]).length=R.length+1:=jS;refine⟨ow,ow,ys.set R.length x,by simpa using E,rfl,by rw[d,J];omega,by rw[d,J],?_,?_⟩
      .rw[d,J,zM (by rw[uQ];omega),ni,mw (zD _),o]
      .rw[mr ow];exact p _ f
     clear o f p d g1 g2 hx hy hR K q;simp only[go_sem, *];refine yF kr ?_;exact au
   .have e1:decide (((m+1:Nat):Int)<((l.length- (i+1):Nat):Int))=false:=zO ow
    have Y:i+2+m=l.length:=ow;have U:tF tD l (i+2+m)=cpt tD l:=by rw[Y];rfl
    rw[U]at o f3 K;have F:(cpt tD l).length<=l.length:=jk _;have M:∀H:Heap,ww prog 30 (.rs id 1 0 l.length) (some (.int .i64 (((cpt tD l).length:Nat):Int))) none none H=some (.rs id 1 (cpt tD l).length (l.length- (cpt tD l).length)):=λH=>by
     have:=pC (P:=prog) (t:=30) (sz:=1) (id:=id) (h:=H) Xb qS uz (k:=.i64) F;rw[wF]at this;exact this
    have a5:=λ(H:Heap)=>oN (P:=prog) (t:=30) (h:=H) Xb qS (id:=id) (sz:=1) uz (k:=.i64) F;obtain⟨rest,V⟩:=VC (P:=prog) (sz:=1) (t:=30) (xs:=wC ys) qS s8 rfl rfl (by rw[aL];exact v) aM (n:=(cpt tD l).length) (by rw[wG];omega);have ad:((wC ys).take (cpt tD l).length).flatten=(cpt tD l).map (D.int .i64):=by rw[wC,<-jZ,o];exact aL _
    rw[ad,nU,wG,E,wF]at V;have ai:=S (.rs id 1 0 (cpt tD l).length) (h.set id (.row ((cpt tD l).map (D.int .i64)++rest))) ⟨rfl,rest,rfl⟩;clear o f Y U ad S;exact au
 .have e1:decide (((i+1:Nat):Int)<(l.length:Int))=false:=zO ow
  have hd:=a λj h1 I=>N j h1 ow;clear N a b q1 h0 S;exact au
def zCY(l:List Int):(l.mergeSort λx y=>decide (x<=y))=srt tD l:=by
 unfold srt;congr 1
 funext a b
 unfold tD;by_cases h:a<=b
 .rw[zR h]
  have h1:¬b<a:=ow;rw[iq h1];split<;>simp
 .rw[zO h]
  have h1:b<a:=ow;rw[ip h1];rfl
def jx(l:List Int):List Int:=cpt tD (srt tD l)
def F5{l:List Int}(h0:l≠[])(e:l.length<=1048576)(tk:Tk)(h:Heap):zE prog 79 [.sl 1 (wC l) tk] h λr h'=>r=.rs h.next 1 0 l.length/\h'=h.new h.next (.row (l.map (D.int .i64))):=by
 have b:0<l.length:=z7.2 h0;have c:jR prog .eql 30 true (.sl 1 (wC l) tk) .nilsl=some (.bool false):=by rw[uj (yg.mk tk) underlying30];rfl
 have d:=λnid h=>wa (P:=prog) (nid:=nid) (h:=h) qS s8 uz rfl rfl (by omega:0<1);have a:qg prog true h.next 30 (.sl 1 [] .full) (.sl 1 (wC l) tk) h=some (.rs h.next 1 0 l.length,h.new h.next (.row (l.map (D.int .i64)))):=by
  rw[oz qS ZQ uz ow aM (by rw[mV,wG];unfold lim;omega) (by rw[wG];unfold lim;omega),wG,iq ow,Ud underlying3,aL]
 refine zo zM9 ?_;simp only[f79,zA];simp only[t6,go_sem,c,d,a]
def zAp{l:List Int}(h0:l≠[])(d:l.length<=1048576)(a:g.at' id=some (.row (l.map (D.int .i64)))):
  zE prog 195 [.rs id 1 0 l.length] g λr h'=>r=.tuple []/\h'=g.set id (.row ((srt tD l).map (D.int .i64))):=by
 have:=zE.of_sortI (P:=prog) (f:=195) h0 kr a ow (λb off cap zs w h1 c h3=>Tryz.slices_Sort_int b off cap zs w h1 c h3);rw[zCY]at this;exact this
def P5{l:List Int}(h0:l≠[])(b:l.length<=1048576)(a:g.at' id=some (.row (l.map (D.int .i64)))):
  zE prog 196 [.rs id 1 0 l.length] g λr h'=>h'=g.del id/\r=.sl 1 (wC (cpt tD l)) .no:=
 zE.freezeD ((Kr h0 b a).mono (by
  rintro r h' ⟨rfl,rest,rfl⟩;exact⟨id,_,zU _ _ _,by rw[NX],X8 aM (wG _) (by rw[aL])⟩))
def Vk(num:Int)(ks:List Int):List D:=[.int .i64 num,.sl 1 (wC (jx ks)) .no]
def KJ(num:Int)(ks:List (List Int)):∀c∈ks.map (Vk num),c.length=2:=λc a=>by
 obtain⟨k,_,rfl⟩:=zN.1 a;rfl
def Pv(h:Heap)(sz:Nat)(xs:List (List D))(d:D):Prop:=(d=.nilsl/\xs= [])\/∃id,d=.rs id sz 0 xs.length/\h.at' id=some (.row xs.flatten)/\id<h.next/\xs≠[]
def bR(d:D)(i:Nat):Prop:=match d with
 |.rs id _ _ _=>i=id
 |_=>False
def Pv.loc(c:Pv h sz xs d)(e:h.next<=h'.next)(b:∀i,bR d i->h'.at' i=h.at' i):Pv h' sz xs d:=by
 rcases c with h1| ⟨t,rfl,h1,a⟩
 .exact .inl h1
 .exact .inr ⟨t,rfl,by rw[b t rfl];exact h1,ow,a.2⟩
def Pv.app{t e:TypeId}(p:Pv h sz xs d)(n:ur P t=some e)(r:ZU P e=true)(q:szT P e=sz)(h0:0<sz)(hr:∀cs,oH P e cs=.row cs)(j:∀y∈xs,y.length=sz)(l:∀y∈ys,y.length=sz)(k:ys≠[])
  (a:(xs.length+ys.length)*wr P e<=lim) (f:xs.length+ys.length<=lim):∃g:Heap,qg P true nid t d (.sl sz ys tk) h=some (.rs nid sz 0 (xs++ys).length,g.new nid (.row (xs++ys).flatten))/\g.next=h.next/\(∀i,¬bR d i->g.at' i=h.at' i):=by
 have c:ys.flatten.length=ys.length*sz:=uu l;have m:0<ys.length:=z7.2 k;simp only[qg,n,r,q,Us,qK,c,u0 _ h0];rcases p with⟨rfl,rfl⟩ | ⟨id,rfl,h1,s⟩
 .refine⟨h,?_,rfl,λ_ _=>rfl⟩
  simp only[tt];rw[iq ow,ip (by simp only[zF,zP];simp only[qO,yP]at a f;exact⟨a,f⟩)];simp[hr]
 .refine⟨h.del id,?_,rfl,λi o=>wQ λe=>o (by rw[e];rfl)⟩
  have b:xs.flatten.length=xs.length*sz:=uu j;simp only[tt,tH,bC];rw[ip (by simp only[zF,zP];exact⟨a,f⟩)];simp only[h1,b,qK];simp
def Pv.trunc(a:Pv h sz xs d)(b:∀x∈xs,x.length=sz)(x:D):t6 d x h=h:=by
 rcases a with⟨rfl,_⟩ | ⟨id,rfl,hr,_⟩
 .rfl
 .have hf:xs.flatten.length=xs.length*sz:=uu b
  cases x<;>simp[t6,hr,hf]
def YVf(num:Int)(fn:D)(nl nr:Nat)(ks:List (List Int))(S:Nat->Prop)(h:Heap):Prop:=
 nl<h.next/\nr<h.next/\nl≠nr/\h.at' nr=some (.row [.int .i64 num,fn])/\∃d,h.at' nl=some (.row [d])/\Pv h 2 (ks.map (Vk num)) d/\¬bR d nl/\¬bR d nr/\∀i,S i↔(i=nl\/i=nr\/bR d i)
theorem zAR{fn:D}{nl nr:Nat}{ks:List (List Int)}(X:ks.length<16777216)(R:YVf num fn nl nr ks S h){l:List Int}(K:l≠[])(hl:l.length<=5)(tk:Tk):
  zE prog 194 [.sl 1 (wC l) tk,.ptr nl 0,.ptr nr 0] h λ_ h'=>∃S',(∀i,S' i->S i\/h.next<=i)/\But S h h'/\YVf num fn nl nr (ks++ [l]) S' h':=by
 obtain⟨y1,y2,M,N,d,O,P,y7,y8,Q⟩:=R;have C:=F5 K ow tk h;have I:=zAp K ow (z5 h h.next (.row (l.map (D.int .i64))));have s0:srt tD l≠[]:=λe=>K (yN.1 (by rw[<-(sX (c:=tD) l).length_eq,e];rfl));have sl:(srt tD l).length=l.length:=(sX l).length_eq;have o:=P5 s0 ow (zU (h.new h.next (.row (l.map (D.int .i64)))) h.next (.row ((srt tD l).map (D.int .i64))));rw[sl]at o;refine zo zHQ ?_;simp only[f194,zA]
 repeat' first|simp only[go_sem, *]|apply bc<;>intro U
 refine C.mono ?_;rintro r h1 ⟨rfl,rfl⟩
 repeat' first|simp only[go_sem, *]|apply bc<;>intro U
 refine I.mono ?_;rintro r h1 ⟨rfl,rfl⟩;obtain⟨h0,e1,e2,e3⟩:∃h0:Heap,h0.at' nl=some (.row [d])/\h0.at' nr=some (.row [.int .i64 num,fn])/\∀i s,h0.at' i=some s->(i=nl\/i=nr)/\h.at' i=some s:=by
  refine⟨⟨h.next,λi=>if i=nl\/i=nr then h.at' i else none⟩,by simp[O],by simp[N],λi s e=> ?_⟩
  simp only at e;split at e
  .exact⟨‹_›,e⟩
  .cases e
 obtain⟨m,n,j⟩:∃m,(h.new h.next (.row (l.map (D.int .i64)))).set h.next (.row ((srt tD l).map (D.int .i64)))=m/\HLe h0 m:=⟨_,rfl,λi s e=>by
  obtain⟨z,A⟩:=e3 i s e;have v:i≠h.next:=by rcases z with rfl|rfl<;>omega
  rw[zW v,zg v];exact A⟩
 have G:(m.del h.next).next=h.next+1:=by rw[<-n];exact za h (.row (l.map (D.int .i64)))
 have a:∀i,i≠h.next->(m.del h.next).at' i=h.at' i:=λi f=>by rw[<-n,wQ f,zW f,zg f]
 have k:HLe h0 (m.del h.next):=λi s e=>by
  obtain⟨z,A⟩:=e3 i s e;rw[a _ (by rcases z with rfl|rfl<;>omega)];exact A
 rw[n]at o⊢;have T:qX prog 137 [(0,.int .i64 num),(1,.sl 1 (wC (jx l)) .no)]=some (.agg (Vk num l)):=by
  simp[qX,bP,dD,uc,wg,Vk,D.cells,D.notTuple]
 have B:∀nid H,yA prog false nid 157 1 [(0,.agg (Vk num l))] H=some (.sl 2 [Vk num l] .full,H):=λnid H=>qD (x:=.agg (Vk num l)) sH dD t5 rfl rfl ow ow rfl rfl;refine yp h0 ((0,.st,true)::(pwt [1] ((2,.st,true)::(pwt [3,4,5,6] (pwf [7,8] []))))) kr kr j ?_;simp only[go_sem,e1,e2,eq_true j];refine o.mono ?_;rintro r b ⟨rfl,rfl⟩;generalize m.del h.next=b at G a k⊢;have y:Pv b 2 (ks.map (Vk num)) d:=P.loc ow λi f=>by
  refine a i ?_;rcases P with⟨rfl,_⟩ | ⟨id,rfl,_,hid,_⟩
  .exact f.elim
  .simp only[bR]at f;omega
 have u:(ks.map (Vk num)).length=ks.length:=zH ..;obtain⟨g,t,V,p⟩:=Pv.app (nid:=b.next) (tk:=.full) y sH KZ t5 ow (λcs=>pN underlying137) (KJ num ks) (ys:=[Vk num l]) (by simp[Vk]) jS (by rw[u,Vu];unfold lim;simp;omega) (by rw[u];unfold lim;simp;omega);have E:ks.map (Vk num)++ [Vk num l]=(ks++ [l]).map (Vk num):=jS;rw[E]at t;have F:(g.new b.next (.row ((ks++ [l]).map (Vk num)).flatten)).at' nl=some (.row [d]):=by rw[zg ow,p _ y7,a _ ow,O]
 have w:yR prog 157 (.ptr nl 0) (.rs b.next 2 0 ((ks++ [l]).map (Vk num)).length) (g.new b.next (.row ((ks++ [l]).map (Vk num)).flatten))=some ((g.new b.next (.row ((ks++ [l]).map (Vk num)).flatten)).set nl (.row [.rs b.next 2 0 ((ks++ [l]).map (Vk num)).length])):=by
  rw[yM F Gl jS rfl rfl];rfl
 have W:(g.new b.next (.row ((ks++ [l]).map (Vk num)).flatten)).next=h.next+2:=by simp only[Heap.new];omega
 have J:=y.trunc (KJ num ks);have q:cpt tD (srt tD l)=jx l:=rfl;simp only[go_sem,q,T,B,J,t,w,eq_true k];refine⟨λi=>i=nl\/i=nr\/i=b.next,λi f=> ?_,⟨by simp only[yc];omega,λi f L=> ?_⟩,by simp only[yc];omega,by simp only[yc];omega,M,?_,_,zU _ _ _,.inr ⟨b.next,rfl,?_,?_,jS⟩,?_,?_,λi=>Iff.rfl⟩
 .rcases f with rfl|rfl|rfl
  .exact .inl (.inl rfl)
  .exact .inl (.inr (.inl rfl))
  .exact .inr ow
 .have Y:i≠nl:=λe=>L ((Q i).2 (.inl e))
  have Z:¬bR d i:=λe=>L ((Q i).2 (.inr (.inr e)));rw[zW Y,zg ow,p _ Z,a _ ow]
 .rw[zW (gq M),zg ow,p _ y8,a _ ow,N]
 .rw[zW ow,z5]
 .simp only[yc];omega
 .simp only[bR];omega
 .simp only[bR];omega
def Em{fn:D}{nl nr:Nat} :Fnd2 prog 5 194 [.ptr nl 0,.ptr nr 0] (YVf num fn nl nr):=by
 refine⟨λks S h c i a=> ?_,λks S h h' c t e=> ?_,λks S h l tk c s h0 q r=> ?_⟩
 .obtain⟨g,j,k,m,d,n,f,o,p,b⟩:=c
  rcases(b i).1 a with rfl|rfl|a
  .exact g
  .exact j
  .rcases f with⟨rfl,_⟩ | ⟨id,rfl,_,hid,_⟩
   .exact a.elim
   .simp only[bR]at a;omega
 .obtain⟨g,j,k,m,d,n,f,o,p,b⟩:=c
  exact⟨ow,ow,k,by rw[e nr ((b _).2 (.inr (.inl rfl)))];exact m,d,by rw[e nl ((b _).2 (.inl rfl))];exact n,f.loc t λi a=>e i ((b i).2 (.inr (.inr a))),o,p,b⟩
 .exact zAR s c (z7.1 h0) q tk
open Go.Proofs Go.Shelf Go.Sort
def zD7{l m:List Int}{d e:D}(q:yg 1 (wC l) d)(s:yg 1 (wC m) e)(J:l.length<=1048576)(g:Heap):zE prog 236 [d,e] g λr h'=>h'=g/\r=.int .i64 (sP l m):=by
 have y:=tr q;have A:=tr s;obtain⟨L,M,_⟩:=zp q;obtain⟨N,O,_⟩:=zp s;refine zo zHf ?_;simp only[f236,zA]
 repeat' first|simp only[go_sem, *]|apply bc<;>intro n
 refine ql (λi fr h'=>fr 0=d/\fr 1=e/\fr 9=d/\fr 10=.int .i64 l.length/\fr 11=.int .i64 (i:Int)/\h'=g/\i<=m.length/\sP (l.drop i) (m.drop i)=sP l m) l.length ?_ ?_
 .simp only[go_sem,zQ,zT,zG]
  exact⟨yD _,rfl⟩
 rintro i fr h' I ⟨F,G,H,w,x,rfl,c,a⟩;by_cases f:i<l.length
 .have e1:decide ((i:Int)<(l.length:Int))=true:=zR ow
  have B:=oe q f;by_cases j:i>=m.length
  .have e2:decide ((i:Int)>=(m.length:Int))=true:=zR ow
   have hr:sP l m=1:=by
    rw[z8 f,wo j]at a;rw[<-a];rfl
   rw[hr];clear a hr c j;exact au
  .have e2:decide ((i:Int)>=(m.length:Int))=false:=zO ow
   have b:i<m.length:=ow;have C:=oe s b;rw[QR f b]at a;simp only[zC,zB f,zB b,zA]at a;have n:=Xh l[i] m[i] h';have E:IntKind.i64.wrap ((i:Int)+1)=((i+1:Nat):Int):=qR jL;generalize v:tD l[i] m[i]=z at *
   cases t:(z==0)with
   |true=>
    have h0:z=0:=by simpa using t
    rw[ip h0]at a;have u:i<l.length/\i+1<=m.length/\sP (l.drop (i+1)) (m.drop (i+1))=sP l m:=⟨f,b,a⟩;clear a c j v h0
    repeat' first|simp only[go_sem, *]|apply bc<;>intro n|(refine zE.mono n ?_;rintro r h ⟨K,rfl⟩)
   |false=>
    have h0:¬z=0:=by simpa using t
    rw[iq h0]at a;rw[<-a];clear a c j v h0
    repeat' first|simp only[go_sem, *]|apply bc<;>intro n|refine zE.use n ?_
 .have e1:decide ((i:Int)<(l.length:Int))=false:=zO ow
  have k:l.length<=i:=ow;rw[wo k]at a;cases o:decide ((l.length:Int)<(m.length:Int))with
  |true=>
   have p:=yB o;have hr:sP l m= -1:=by
    rw[z8 (show i<m.length by omega)]at a;rw[<-a];rfl
   rw[hr];clear a hr c k
   repeat' first|simp only[go_sem, *]|apply bc<;>intro n
  |false=>
   have p:=yJ o;have hr:sP l m=0:=by
    rw[wo ow]at a;rw[<-a];rfl
   rw[hr];clear a hr c k;exact au
structure Vio where
 row:Int
 facts:List Int
def Vio.Is(v:Vio)(cs:List D):Prop:=∃d,cs= [.int .i64 v.row,d]/\yg 1 (wC v.facts) d/\v.facts.length<=1048576
def QS(v w:Vio):Int:=orL [tD v.row w.row,sP v.facts w.facts]
def R0{v w:Vio}{cv b:List D}(n:v.Is cv)(o:w.Is b)(g:Heap):zE prog 198 [.agg cv,.agg b] g λr h'=>h'=g/\r=.int .i64 (QS v w):=by
 obtain⟨d,rfl,c,a⟩:=n;obtain⟨e,rfl,f,k⟩:=o;have h1:=Xh v.row w.row;have i:=zD7 c f a;have h3:=zED (l:=[tD v.row w.row,sP v.facts w.facts]) (yg.mk .full) jS;have p:=bs2 (tD v.row w.row) (sP v.facts w.facts);obtain⟨q,s,_⟩:=zp c;obtain⟨t,u,_⟩:=zp f;have m:∀h:Heap,HLe h h:=λ_ _ _ e=>e;unfold QS;refine zo zHT ?_;simp only[f198,zA]
 repeat' first|simp only[go_sem, *]|apply bc<;>intro j
 refine yp g (pwt [0,1,2,3,5] ((6,.st,true)::(pwt [7] ((8,.st,true)::(pwt [4,9,10,11,12] []))))) kr kr (λ_ _ e=>e) ?_
 repeat' first|simp only[go_sem, *]|apply bc<;>intro j|refine zE.use (h1 _) ?_|refine zE.use (i _) ?_|refine zE.use (h3 _) ?_
def Vio.Is.two{v:Vio}{cv:List D}(a:v.Is cv):yQ true 2 cv 0=some (.agg cv):=by
 obtain⟨d,rfl,_⟩:=a;exact zJ rfl ow
def IN{v w:Vio}{cv a:List D}(c:v.Is cv)(d:w.Is a)(g:Heap):zE prog 189 [.agg cv,.agg a] g λr h'=>h'=g/\r=.bool (QS v w==0):=by
 have b:=R0 c d;have h1:=Vio.Is.two c;have e:=Vio.Is.two d;refine zo zHL ?_;simp only[f189,zA]
 repeat' first|simp only[go_sem, *]|apply bc<;>intro b|refine zE.use (b _) ?_
theorem jj:∀a b:List Int,sP a b=Yc tD a b
 | [],[]=>rfl
 | [],_::_=>rfl
 |_::_,[]=>rfl
 |x::xs,y::ys=>by
  simp only[sP,Yc,Q0,jj xs ys]
def Wl:QC sP:=by
 have:=Wk.list;exact⟨λx y=>by rw[jj,jj];exact this.anti x y,λx y z=>by rw[jj,jj,jj];exact this.trans x y z⟩
def NS(x y:List Int)(h:sP x y=0):x=y:=by
 rw[jj]at h;exact Tc NR _ _ h
def Jj(num:Int)(x:List Int):List D:=[.int .i64 num,.sl 1 (wC x) .no]
def vbs(num:Int)(l:List (List Int)):List (List D):=l.map (Jj num)
def oL(num:Int)(l:List (List Int)):(vbs num l).length=l.length:=zH ..
def kX(num:Int)(l:List (List Int)):∀x∈vbs num l,x.length=2:=λx a=>by
 obtain⟨y,_,rfl⟩:=zN.1 a;rfl
def RW(num:Int){x:List Int}(h:x.length<=1048576):(Vio.mk num x).Is (Jj num x):=⟨_,rfl,yg.mk .no,h⟩
def QT(num:Int)(x y:List Int):QS ⟨num,x⟩ ⟨num,y⟩ =sP x y:=by
 have h:tD num num=0:=Wk.refl num;simp only[QS,orL,h,qK];split
 .rename_i q;exact q.symm
 .rfl
def zAs{l:List (List Int)}(h0:l≠[])(v:l.length<=16777216)(a:∀x∈l,x.length<=1048576)(b:g.at' id=some (.row (vbs num l).flatten)):
  zE prog 197 [.rs id 2 0 l.length,.fn (.func 198) [] []] g λr h'=>r=.tuple []/\h'=g.set id (.row (vbs num (srt sP l)).flatten):=by
 have:=zE.of_sortK (P:=prog) (f:=197) (cmp:=198) (k:=2) (cells:=Jj num) (xs:=l) (id:=id) (pre:=[]) (post:=[]) (h:=g) (cf:=sP) (mid:=[]) (midV:=[]) (λM ρ vs h=>by simpa [wI]using h) h0 ow (λx i=>rfl) kr (enters_of func198 kr rfl) (by simpa [vbs]using b) Wl.swo ow
  (λx i y t H=>by have:=R0 (RW num (a x i)) (RW num (a y t)) H;rw[QT]at this;exact this) (λα _ enc h1 j cf n g cb c off cap d w q p m o e u=>AnyQ.slices_SortFunc Tryz.sortVio 2 (isAgg137) (sizeOf137) enc h1 j cf n g cb c off cap d w q p m o e)
 refine this.mono λr h' ⟨e1,ys,s,e,e2⟩=>⟨e1,?_⟩;rw[e2,L9 Wl NS s e];simp[vbs]
theorem jw{f:α->List D}{p:α->Prop} :∀{ys:List (List D)},(∀y∈ys,∃s,y=f s/\p s)->∃l:List α,ys=l.map f/\∀s∈l,p s
 | [],_=>⟨[],rfl,λn b=>by cases b⟩
 |y::ys,h=>by
  obtain⟨n,rfl,b⟩:=h y jS;obtain⟨ks,rfl,c⟩:=jw (ys:=ys) λz d=>h z (yG _ d);exact⟨n::ks,rfl,λm a=>by
   rcases yE.1 a with rfl|a
   .exact b
   .exact c m a⟩
def L5{c:List D}(h:Shp prog k 45 c):∃d l,c= [d]/\yg 1 (wh l) d/\l.length<=1048576:=by
 obtain⟨d,xs,j,e,m,b,_,a,g⟩:=cV underlying45 p9 h;obtain⟨l,rfl,n⟩:=jw (f:=λs:List UInt8=>[D.str s]) λy i=>rR underlying9 (g y i);rw[zH]at a;exact⟨d,l,e,b,a⟩
def DN{c:List D}(h:Shp prog k 30 c):∃d l,c= [d]/\yg 1 (wC l) d/\l.length<=1048576:=by
 obtain⟨d,xs,j,e,m,b,_,a,g⟩:=cV underlying30 uz h;obtain⟨l,rfl,n⟩:=jw (f:=λs:Int=>[D.int .i64 s]) λy i=>p7 underlying3 (g y i);rw[zH]at a;exact⟨d,l,e,b,a⟩
def zCQ{c:List D}(h:Shp prog k 117 c):∃n:Lic,c=n.cells/\n.Sm:=by
 obtain⟨j,_,hf⟩:=pO underlying117 h;obtain⟨m,r1,rfl,h1,hf⟩:=qA hf;obtain⟨o,r2,rfl,e,hf⟩:=qA hf;obtain⟨p,r3,rfl,h3,hf⟩:=qA hf;obtain⟨q,r4,rfl,f,hf⟩:=qA hf;obtain rfl:=mb hf;obtain⟨s1,rfl,a⟩:=rR underlying9 h1;obtain⟨s2,rfl,b⟩:=rR underlying9 e;obtain⟨g,rfl,l⟩:=p7 underlying3 h3;obtain⟨i,rfl,d⟩:=rR underlying9 f;exact⟨⟨s1,s2,g,i⟩,rfl,a,b,d⟩
def zCO{c:List D}(h:Shp prog k 122 c):∃n:Exc,c=n.cells/\n.Ok:=by
 obtain⟨j,_,hf⟩:=pO underlying122 h;obtain⟨i,r1,rfl,h1,hf⟩:=qA hf;obtain⟨m,r2,rfl,e,hf⟩:=qA hf;obtain⟨o,r3,rfl,h3,hf⟩:=qA hf;obtain rfl:=mb hf;obtain⟨s1,rfl,a⟩:=rR underlying9 h1;obtain⟨s2,rfl,g⟩:=rR underlying9 e;obtain⟨d,l,rfl,f,b⟩:=DN h3;exact⟨⟨s1,s2,l,d⟩,rfl,f,b,a⟩
def zCN{c:List D}(h:Shp prog k 126 c):∃n:Cla,c=n.cells/\n.Ok:=by
 obtain⟨j,_,hf⟩:=pO underlying126 h;obtain⟨r,r1,rfl,h1,hf⟩:=qA hf;obtain⟨s,r2,rfl,b,hf⟩:=qA hf;obtain⟨t,r3,rfl,h3,hf⟩:=qA hf;obtain⟨u,r4,rfl,e,hf⟩:=qA hf;obtain⟨v,r5,rfl,h5,hf⟩:=qA hf;obtain rfl:=mb hf;obtain⟨s1,rfl,m⟩:=rR underlying9 h1;obtain⟨s2,rfl,o⟩:=p7 underlying3 b;obtain⟨g,rfl,p⟩:=p7 underlying3 h3;obtain⟨i,rfl,q⟩:=p7 underlying3 e;obtain⟨d,l,rfl,f,a⟩:=L5 h5;exact⟨⟨s1,s2,g,i,l,d⟩,rfl,f,a⟩
def zCL{c:List D}(h:Shp prog k 130 c):∃n:Apt,c=n.cells/\True:=by
 obtain⟨j,_,hf⟩:=pO underlying130 h;obtain⟨e,r1,rfl,h1,hf⟩:=qA hf;obtain⟨f,r2,rfl,a,hf⟩:=qA hf;obtain rfl:=mb hf;obtain⟨s1,rfl,b⟩:=rR underlying9 h1;obtain⟨s2,rfl,d⟩:=rR underlying9 a;exact⟨⟨s1,s2⟩,rfl,trivial⟩
def zCM{c:List D}(h:Shp prog k 27 c):∃n:Cat,uL n (.agg c)/\n.Sm:=by
 obtain⟨j,_,hf⟩:=pO underlying27 h;obtain⟨z,r1,rfl,h1,hf⟩:=qA hf;obtain⟨A,r2,rfl,b,hf⟩:=qA hf;obtain⟨B,r3,rfl,h3,hf⟩:=qA hf;obtain⟨C,r4,rfl,d,hf⟩:=qA hf;obtain rfl:=mb hf;obtain⟨l,I,E,rfl,_,q,_,e,h1⟩:=cV underlying22 j8 h1;obtain⟨m,J,F,rfl,_,r,_,f,b⟩:=cV underlying23 W8 b;obtain⟨o,K,G,rfl,_,s,_,g,h3⟩:=cV underlying24 fi h3;obtain⟨p,L,H,rfl,_,t,_,i,d⟩:=cV underlying25 RM d;obtain⟨u,rfl,k1⟩:=jw λy a=>zCQ (h1 y a);obtain⟨v,rfl,k2⟩:=jw λy a=>zCO (b y a);obtain⟨w,rfl,k3⟩:=jw λy a=>zCN (h3 y a);obtain⟨x,rfl,k4⟩:=jw λy a=>zCL (d y a);rw[zH]at e f g i
 exact⟨⟨u,v,w,x⟩,⟨l,m,o,p,rfl,q,r,s,t⟩,⟨e,k1⟩,⟨f,k2⟩,⟨g,k3⟩,i⟩
theorem Aq:∀{l:List Ex},(∀e∈l,e.Ok)->okL l
 | [],_=>by simp only[okL]
 |e::l,h=>by simp only[okL];exact⟨h e jS,Aq λx a=>h x (yG _ a)⟩
def zIi(k:Nat):∀{c:List D},Shp prog k 55 c->∃e:Ex,c=e.cells/\e.Ok:=by
 induction k using Nat.strongRecOn with
 |_ k p=>
 intro c h;obtain⟨j,x,hf⟩:=pO underlying55 h;obtain⟨t,r1,rfl,h1,hf⟩:=qA hf;obtain⟨u,r2,rfl,i,hf⟩:=qA hf;obtain⟨v,r3,rfl,h3,hf⟩:=qA hf;obtain⟨w,r4,rfl,a,hf⟩:=qA hf;obtain rfl:=mb hf;obtain⟨s1,rfl,s⟩:=p7 underlying3 h1;obtain⟨s2,rfl,d⟩:=rR underlying9 i;obtain⟨r,rfl,f⟩:=rR underlying9 h3;obtain⟨g,A,m,rfl,z,o,_,b,a⟩:=cV underlying53 gM a;obtain⟨l,rfl,q⟩:=jw λy n=>p m ow (a y n);rw[zH]at b;exact⟨.mk s1 s2 r l g,rfl,by simp only[Ex.Ok];exact⟨o,b,d,f,Aq q⟩⟩
def zCP{c:List D}(h:Shp prog k 57 c):∃f:Fac,c=f.cells/\f.Ok0:=by
 obtain⟨j,_,hf⟩:=pO underlying57 h;obtain⟨C,r1,rfl,h1,hf⟩:=qA hf;obtain⟨E,r2,rfl,m,hf⟩:=qA hf;obtain⟨F,r3,rfl,h3,hf⟩:=qA hf;obtain⟨G,r4,rfl,n,hf⟩:=qA hf;obtain⟨H,r5,rfl,h5,hf⟩:=qA hf;obtain⟨I,r6,rfl,o,hf⟩:=qA hf;obtain⟨J,r7,rfl,p,hf⟩:=qA hf;obtain⟨K,r8,rfl,q,hf⟩:=qA hf;obtain⟨L,r9,rfl,r,hf⟩:=qA hf;obtain rfl:=mb hf;obtain⟨s1,rfl,y⟩:=p7 underlying3 h1;obtain⟨s2,rfl,a⟩:=rR underlying9 m;obtain⟨t,rfl,b⟩:=rR underlying9 h3;obtain⟨u,rfl,z⟩:=p7 underlying3 n;obtain⟨v,rfl,A⟩:=p7 underlying3 h5;obtain⟨w,rfl,B⟩:=p7 underlying3 o;obtain⟨x,rfl⟩:=Lz underlying4 p;obtain⟨e,rfl,g⟩:=zIi _ q
 obtain⟨d,l,rfl,s,i⟩:=L5 r;exact⟨⟨s1,s2,t,u,v,w,x,e,l,d⟩,rfl,g,s,i,a,b⟩
structure SA where
 M:KM Int
 O:KV
 outs:List (List UInt8)
def kY(fs:List Fac)(i:Nat):Nat:=((fs.take i).filter λf=>f.kind==1).length
def nn(y:Cho)(k:Nat):Alt:=y.ts.getD k (mkA [])
def lK(y:Cho)(k:Nat):List UInt8:=y.own.getD k []
def zCb(y:Cho)(fs:List Fac)(i:Nat)(s:SA):SA:=match fs[i]? with
 |none=>s
 |some f=>if(f.kind==1)=true then(if decide (((nn y (kY fs i)).ts.length:Int)>0)=true then⟨d9 (i:Int) (nn y (kY fs i)).d s.M,s.O,s.outs⟩else s)
  else if(f.kind==2)=true then(if(s.outs.any λz=>z==f.out)=true then s else⟨s.M,if(!(lK y s.outs.length== []))=true then bF f.out (lK y s.outs.length) s.O else s.O,s.outs++ [f.out]⟩)else s
def qI(y:Cho)(fs:List Fac):Nat->SA
 |0=>⟨[],[],[]⟩
 |i+1=>zCb y fs i (qI y fs i)
def alS(fs:List Fac)(y:Cho)(i:Nat):Option Alt:=match fs[i]? with
 |none=>none
 |some f=>if(f.kind==1)=true then(if decide (((nn y (kY fs i)).ts.length:Int)>0)=true then some (nn y (kY fs i))else none)else none
section
variable{y:Cho}{fs:List Fac}
def lS(h:i<fs.length):qI y fs (i+1)=if(fs[i].kind==1)=true then(if decide (((nn y (kY fs i)).ts.length:Int)>0)=true then⟨d9 (i:Int) (nn y (kY fs i)).d (qI y fs i).M,(qI y fs i).O,(qI y fs i).outs⟩else qI y fs i)
  else if(fs[i].kind==2)=true then(if((qI y fs i).outs.any λz=>z==fs[i].out)=true then qI y fs i else⟨(qI y fs i).M,if(!(lK y (qI y fs i).outs.length== []))=true then bF fs[i].out (lK y (qI y fs i).outs.length) (qI y fs i).O else(qI y fs i).O,(qI y fs i).outs++ [fs[i].out]⟩)else qI y fs i:=by
 show zCb y fs i (qI y fs i)=_;unfold zCb;rw[zB h]
def zDv(h:i<fs.length):alS fs y i=if(fs[i].kind==1)=true then(if decide (((nn y (kY fs i)).ts.length:Int)>0)=true then some (nn y (kY fs i))else none)else none:=by
 unfold alS;rw[zB h]
theorem Uj:∀k,k<=fs.length->∀j:Nat,gS (j:Int) (qI y fs k).M=if j<k then(alS fs y j).map Alt.d else none
 |0,_,j=>by simp[qI,gS]
 |k+1,g,j=>by
  have c:=Uj k ow j;have b:k<fs.length:=ow;have f:=zDv (y:=y) b;have key:gS (j:Int) (qI y fs (k+1)).M=if j=k then(alS fs y k).map Alt.d else gS (j:Int) (qI y fs k).M:=by
   rw[lS b,f];have a:j=k->gS (j:Int) (qI y fs k).M=none:=λe=>by rw[c,iq ow]
   split
   .split
    .rw[WI]
     by_cases e:j=k
     .subst e;simp
     .have:((j:Int)==(k:Int))=false:=jO
      rw[this,iq e];simp
    .by_cases e:j=k
     .rw[ip e,a e];rfl
     .rw[iq e]
   .split
    .split
     .by_cases e:j=k
      .rw[ip e,a e];rfl
      .rw[iq e]
     .by_cases e:j=k
      .rw[ip e,a e];rfl
      .rw[iq e]
    .by_cases e:j=k
     .rw[ip e,a e];rfl
     .rw[iq e]
  rw[key,c];by_cases e:j=k
  .subst e;simp
  .rw[iq e]
   by_cases e2:j<k
   .rw[ip e2,ip ow]
   .rw[iq e2,iq ow]
def PH(h:i<fs.length):(qI y fs (i+1)).outs=(qI y fs i).outs\/∃o,(qI y fs (i+1)).outs=(qI y fs i).outs++ [o]:=by
 rw[lS h];split
 .split<;>exact .inl rfl
 .split
  .split
   .exact .inl rfl
   .exact .inr ⟨_,rfl⟩
  .exact .inl rfl
theorem Hu{i:Nat} :∀k,i+k<=fs.length->(qI y fs i).outs.length<=(qI y fs (i+k)).outs.length
 |0,_=>zD _
 |k+1,h=>by
  have a:=Hu (i:=i) k ow;rcases PH (y:=y) (fs:=fs) (i:=i+k) ow with e| ⟨o,e⟩
  .rw[<-qn,e];exact a
  .rw[<-qn,e,zS];omega
theorem UL:∀k,k<=fs.length->(qI y fs k).outs.length<=k
 |0,_=>zD _
 |k+1,h=>by
  have a:=UL k ow;rcases PH (y:=y) (fs:=fs) (i:=k) ow with e| ⟨o,e⟩
  .rw[e];omega
  .rw[e,zS,wX];omega
def WP(h:i<fs.length):kY fs (i+1)=kY fs i+(if(fs[i].kind==1)=true then 1 else 0):=by
 unfold kY;rw[zM h,t8,zS];congr 1;by_cases e:(fs[i].kind==1)=true<;>simp[e]
theorem Ha{i:Nat} :∀k,i+k<=fs.length->kY fs i<=kY fs (i+k)
 |0,_=>zD _
 |k+1,h=>by
  have a:=Ha (i:=i) k ow;rw[<-qn,WP ow];omega
theorem UF:∀k,k<=fs.length->kY fs k<=k
 |0,_=>by simp[kY]
 |k+1,h=>by
  have a:=UF k ow;rw[WP ow];split<;>omega
end
def t4:List Fac->List (List UInt8)->List (List UInt8)
 | [],o=>o
 |f::fs,o=>if(f.kind==1)=true then t4 fs o else if(f.kind==2)=true then t4 fs (if(o.any λz=>z==f.out)=true then o else o++ [f.out])else t4 fs o
theorem l9:∀(l:List Fac)(f:Fac)(o:List (List UInt8)),t4 (l++ [f]) o=t4 [f] (t4 l o)
 | [],f,o=>rfl
 |g::l,f,o=>by
  by_cases h1:(g.kind==1)=true
  .have e:∀m,t4 (g::m) o=t4 m o:=λm=>by rw[t4,ip h1]
   rw[zq,e,e,l9 l f]
  .by_cases a:(g.kind==2)=true
   .have e:∀m,t4 (g::m) o=t4 m (if(o.any λz=>z==g.out)=true then o else o++ [g.out]):=λm=>by rw[t4,iq h1,ip a]
    rw[zq,e,e,l9 l f]
   .have e:∀m,t4 (g::m) o=t4 m o:=λm=>by rw[t4,iq h1,iq a]
    rw[zq,e,e,l9 l f]
theorem lR{y:Cho}{fs:List Fac} :∀k,k<=fs.length->(qI y fs k).outs=t4 (fs.take k) []
 |0,_=>rfl
 |k+1,h=>by
  have a:k<fs.length:=ow;have b:=lR (y:=y) (fs:=fs) k ow;rw[zM a,l9,<-b,lS a];simp only[t4];split
  .split<;>rfl
  .split
   .split<;>rfl
   .rfl
theorem jQ:∀{l:List Fac}{t:List (List (List Trm))}{o:List (List UInt8)},(cj c l t o).2.2=0->(cj c l t o).1.length=t.length+(l.filter λf=>f.kind==1).length/\(cj c l t o).2.1=t4 l o
 | [],t,o,_=>⟨rfl,rfl⟩
 |f::fs,t,o,h=>by
  rw[cj]at h⊢;by_cases h1:(f.kind==1)=true
  .rw[ip h1]at h⊢
   by_cases a:(lJ c f.e==0)=true
   .rw[ip a]at h⊢
    obtain⟨b,d⟩:=jQ h;refine⟨?_,by rw[d,t4,ip h1]⟩;rw[b,tK (by exact h1)];simp only[zS,zu,qO];omega
   .rw[iq a]at h
    exact absurd h (by simpa using a)
  .rw[iq h1]at h⊢
   by_cases a:(f.kind==2)=true
   .rw[ip a]at h⊢
    obtain⟨b,d⟩:=jQ h;exact⟨by rw[b,tJ (by exact h1)],by rw[d,t4,iq h1,ip a]⟩
   .rw[iq a]at h⊢
    obtain⟨b,d⟩:=jQ h;exact⟨by rw[b,tJ (by exact h1)],by rw[d,t4,iq h1,iq a]⟩
def Xu{l:List Fac}(h:(wj c l).2=0):l.length<=256:=by
 unfold wj at h;split at h
 .exact absurd h jD
 .split at h
  .exact absurd h jD
  .rename_i q
   have:¬((l.length:Int)>256):=by simpa using q
   omega
structure ChoiceOk(c:Cat)(fs:List Fac)(y:Cho):Prop where
 case:(wj c fs).2=0
 lic:kY fs fs.length=y.ts.length
 outs:(qI y fs fs.length).outs.length=y.own.length
 okk:∀a∈y.ts,a.ts≠[]->a.Ok/\a.ts.length<=64
variable{fs:List Fac}
def QO{y:Cho}{p:Bool}(h:qP c fs y p=0)(r:y.Sm):ChoiceOk c fs y:=by
 unfold qP at h;split at h
 .rename_i q
  rw[h]at q;exact absurd q jD
 .rename_i B
  have v0:(yV c fs).2.2=0:=by simpa using B
  split at h
  .exact absurd h jD
  .rename_i n
   split at h
   .rename_i q
    rw[h]at q;exact absurd q jD
   .rename_i C
    have o:gI (mN (yV c fs).1 y.ts p) y.ts.length=0:=by simpa using C
    have m:=rz (c:=c) (l:=fs);unfold yV at v0 n o m;by_cases j:(!((wj c fs).2==0))=true
    .rw[ip j]at v0
     rw[v0]at j;exact absurd j jD
    .rw[iq j]at v0 n o m
     obtain⟨v,w⟩:=jQ v0;have u:(cj c fs [] []).1.length=y.ts.length/\(cj c fs [] []).2.1.length=y.own.length:=by
      simp only[qN,qH,yf,ne_eq,Wd,Decidable.not_not]at n;omega
     refine⟨by simpa using j,?_,?_,λa s g=> ?_⟩
     .rw[<-u.1,v]
      simp[kY]
     .rw[lR _ (zD _),zt,<-w]
      exact u.2
     .obtain⟨i,t,rfl⟩:=zy.1 s
      have:=aH o i t;unfold mN at this;rw[zB t]at this;simp only at this;have A:(((y.ts[i].ts.length:Int))==0)=false:=by
       have:=z7.2 g;simp;omega
      rw[A,pZ,iq jD]at this;split at this
      .exact absurd this jD
      .rename_i q
       have d:((cj c fs [] []).1.getD i []).any (λb=>QZ y.ts[i].ts b)=true:=by simpa using q
       obtain⟨b,f,x⟩:=qF.1 d;have e:=(ly _ _).1 x;have key:y.ts[i].ts.length<=64->y.ts[i].Ok/\y.ts[i].ts.length<=64:=λq=>⟨⟨(r.ts _ s).sl,g,ow⟩,q⟩;refine key ?_;rw[e];rw[zC]at f;cases k:(cj c fs [] []).1[i]? with
       |none=>rw[k]at f;cases f
       |some z=>
        rw[k]at f;have:=((m z (zj k)).2.ts b f).2;omega
structure CIn(c:Cat)(fs:List Fac)(y:Cho)(d x yd:D):Prop where
 cat:uL c d
 sm:c.Sm
 x:yg 12 (nu fs) x
 len:fs.length<=1048576
 few:fs.length<=24\/256<fs.length
 ok:∀f∈fs,f.Ok
 cho:Pu y yd
 ysm:y.Sm
section
variable{c:Cat}{fs:List Fac}{y:Cho}{d x yd:D}(I:CIn c fs y d x yd)
include I
def CIn.check(p:Bool)(g:Heap):zE prog 74 [d,x,yd,.bool p] g λr h'=>h'=g/\r=.int .i64 (qP c fs y p):=TD I.cat I.sm I.x I.len I.ok I.cho I.ysm p g
def CIn.n16{p:Bool}(h:qP c fs y p=0):fs.length<=24:=by
 have:=Xu (QO h I.ysm).case;rcases I.few with q|q
 .exact q
 .omega
end
variable{c:Cat}{d:D}{fs:List Fac}
def NP{l:List Fac}(h:(wj c l).2=0):pR c=0:=by
 unfold wj at h;by_cases h1:(!(pR c==0))=true
 .rw[ip h1]at h
  exact absurd h jD
 .simpa using h1
theorem Kt{l:List (List Int)}(h0:l≠[])(hl:l.length<=16777216)(ag:∀x∈l,x.length<=1048576)(J:g.at' id=some (.row (vbs num l).flatten)):
  zE prog 199 [.rs id 2 0 l.length,.fn (.func 189) [] []] g λr h'=>r=.rs id 2 0 (cpt sP l).length/\∃rest,h'=g.set id (.row ((vbs num (cpt sP l)).flatten++rest)):=by
 have a7:=λ(h:Heap)=>oC (P:=prog) (t:=157) (sz:=2) (id:=id) (off:=0) (len:=l.length) (h:=h) underlying157;have u:0<l.length:=z7.2 h0;have heq:∀x∈l,∀y∈l,∀H,zE prog 189 [.agg (Jj num x),.agg (Jj num y)] H λr h'=>h'=H/\r=.bool (sP x y==0):=λx S y T H=>by
  have:=IN (RW num (ag x S)) (RW num (ag y T)) H;rw[QT]at this;exact this
 have b:∀n,n<=l.length->(∀i (h:i+1<l.length),i+1<n->(sP l[i+1] l[i]==0)=false)->tF sP l n=l.take n:=λn hn hh=>by
  induction n with
  |zero=>rfl
  |succ n ih=>
   cases n with
   |zero=>rw[bz u,ja];simp[tn,u]
   |succ k=>
    rw[np ow,iq (by rw[hh k ow ow];exact zV),ih ow λi h1 L=>hh i h1 ow];exact(zM ow).symm
 refine xP λQ W=> ?_;have a:(∀i (h:i+1<l.length),i+1<l.length->(sP l[i+1] l[i]==0)=false)->Q (.rs id 2 0 l.length) g:=λhh=>W _ _ (by
  have e:cpt sP l=l:=by
   have:=b l.length (zD _) hh;rw[zt]at this;exact this
  rw[e];exact⟨rfl,[],by rw[yC,uU J]⟩)
 refine zo zBw ?_;simp only[f199,zA];cases q1:decide ((l.length:Int)<2)with
 |true=>
  have hd:=a λi h1 L=>by have:=yB q1;omega
  clear a W
  repeat' first|simp only[go_sem, *]|apply bc<;>intro A
 |false=>
 repeat' first|simp only[go_sem, *]|apply bc<;>intro A
 refine ql (λi fr h=>fr 0=.rs id 2 0 l.length/\fr 1=.fn (.func 189) [] []/\fr 5=.int .i64 ((i+1:Nat):Int)/\h=g/\i+1<=l.length/\∀j (h:j+1<l.length),j+1<i+1->(sP l[j+1] l[j]==0)=false) l.length ?_ ?_
 .simp only[go_sem,zQ,zT,zG]
  exact⟨rfl,u,λj h1 L=>by omega⟩
 rintro i fr k0 hi ⟨f0,f1,f5,rfl,ad,U⟩;by_cases s:i+1<l.length
 .have e1:decide (((i+1:Nat):Int)<(l.length:Int))=true:=zR ow
  have ew:IntKind.i64.wrap (((i+1:Nat):Int)+1)=((i+2:Nat):Int):=qR jL;have V:IntKind.i64.wrap (((i+1:Nat):Int)-1)=((i:Nat):Int):=by rw[qJ ow ow];omega
  have a1:=qG (P:=prog) (sz:=2) (id:=id) sH t5 (k:=.i64) s;have a2:=qG (P:=prog) (sz:=2) (id:=id) sH t5 (k:=.i64) (show i<l.length by omega);have p1:=nb (kX num l) ow (show(vbs num l)[i+1]? =some (Jj num l[i+1]) by simp[vbs,s]);have p2:=nb (kX num l) ow (show(vbs num l)[i]? =some (Jj num l[i]) by simp[vbs,show i<l.length by omega]);have hq:=heq l[i+1] (zI s) l[i] (zI ow) k0;cases q:(sP l[i+1] l[i]==0)with
  |false=>
   rw[q]at hq;have hn:∀j (h:j+1<l.length),j+1<i+2->(sP l[j+1] l[j]==0)=false:=λj h1 L=>by
    by_cases e:j=i
    .subst e;exact q
    .exact U j h1 ow
   clear U a b q1 h0 q heq
   repeat' first|simp only[go_sem, *]|apply bc<;>intro A
   refine yF kr ?_
   repeat' first|simp only[go_sem, *]|apply bc<;>intro A|(refine zE.mono hq ?_;rintro r h ⟨O,rfl⟩)
   exact⟨ow,s,hn⟩
  |true=>
   rw[q]at hq;have E:tF sP l (i+2)=l.take (i+1):=by
    rw[np s,ip q,b (i+1) ow λj h1 L=>U j h1 L]
   have ak:=pC (P:=prog) (t:=157) (sz:=2) (id:=id) (h:=k0) U7 sH t5 (k:=.i64) ad;clear U a b q1 h0 q
   repeat' first|simp only[go_sem, *]|apply bc<;>intro A
   refine yF kr ?_
   repeat' first|simp only[go_sem, *]|apply bc<;>intro A|(refine zE.mono hq ?_;rintro r h ⟨O,rfl⟩)
   refine ql (λm fr h'=>fr 0=.rs id 2 0 l.length/\fr 1=.fn (.func 189) [] []/\fr 6=.rs id 2 ((i+1)*2) (l.length- (i+1))/\fr 7=.int .i64 ((m+1:Nat):Int)/\i+1+(m+1)<=l.length/\∃ys:List (List Int),ys.length=l.length/\h'=k0.set id (.row (vbs num ys).flatten)/\
    (tF sP l (i+2+m)).length<=i+1+m/\fr 5=.int .i64 (((tF sP l (i+2+m)).length:Nat):Int)/\ys.take (tF sP l (i+2+m)).length=tF sP l (i+2+m)/\ys.drop (i+1+m)=l.drop (i+1+m)) l.length ?_ ?_
   .have B:(tF sP l (i+2)).length=i+1:=by rw[E,yK];omega
    have C:tF sP l (i+2+0)=tF sP l (i+2):=rfl;have v:i+1+(0+1)<=l.length/\∃ys:List (List Int),ys.length=l.length/\k0=k0.set id (.row (vbs num ys).flatten)/\
     (tF sP l (i+2+0)).length<=i+1+0/\D.int .i64 ((i+1:Nat):Int)=.int .i64 (((tF sP l (i+2+0)).length:Nat):Int)/\ys.take (tF sP l (i+2+0)).length=tF sP l (i+2+0)/\ys.drop (i+1+0)=l.drop (i+1+0):=
     ⟨ow,l,rfl,(uU J).symm,by rw[C,B];omega,by rw[C,B],by rw[C,B,E],rfl⟩
    clear B C E;simp only[go_sem,zQ,zT,zG];obtain⟨r0,ys,r1,r2,r3,r4,r5,r6⟩:=v;exact⟨f0,f1,rfl,r0,ys,r1,r2,r3,f5.trans r4,r5,r6⟩
   clear E ak hq p1 p2 a1 a2 f0 f1 f5 e1 ew V;rintro m a9 L hm ⟨f0,f1,f6,f7,ba,ys,G,rfl,N,f5,o,f⟩;have w:(k0.set id (.row (vbs num ys).flatten)).at' id=some (.row (vbs num ys).flatten):=zU _ _ _;have a4:=λ(H:Heap)=>oC (P:=prog) (t:=157) (sz:=2) (id:=id) (off:=(i+1)*2) (len:=l.length- (i+1)) (h:=H) underlying157;by_cases ai:m+1<l.length- (i+1)
   .have e1:decide (((m+1:Nat):Int)<((l.length- (i+1):Nat):Int))=true:=zR ow
    have ew:IntKind.i64.wrap (((m+1:Nat):Int)+1)=((m+2:Nat):Int):=qR jL;have V:IntKind.i64.wrap (((m+1:Nat):Int)-1)=((m:Nat):Int):=by rw[qJ ow ow];omega
    have a1:=rO (P:=prog) (sz:=2) (id:=id) (off:=(i+1)*2) sH t5 (k:=.i64) ai;have a2:=rO (P:=prog) (sz:=2) (id:=id) (off:=(i+1)*2) sH t5 (k:=.i64) (show m<l.length- (i+1) by omega);obtain⟨x,S⟩:∃x,l[i+1+m+1]? =some x:=⟨_,zB ow⟩;obtain⟨y,T⟩:∃y,l[i+1+m]? =some y:=⟨_,zB ow⟩;have g1:ys[i+1+(m+1)]? =some x:=by
     have:=congrArg (λz=>z[1]?) f;simp only[qY]at this;rw[show i+1+(m+1)=i+1+m+1 by omega,this,S]
    have g2:ys[i+1+m]? =some y:=by
     have:=congrArg (λz=>z[0]?) f;simp only[qY,wZ]at this;rw[this,T]
    have cg:∀(k:Nat)(x:List Int),ys[k]? =some x->(vbs num ys)[k]? =some (Jj num x):=λk x e=>by simp[vbs,e]
    have p1:=gB (kX num ys) ow (cg _ _ g1);have p2:=gB (kX num ys) ow (cg _ _ g2);have d:tF sP l (i+2+(m+1))=if(sP x y==0)=true then tF sP l (i+2+m)else tF sP l (i+2+m)++ [x]:=by
     have:=NU (c:=sP) S T;rw[show i+2+(m+1)=i+1+m+2 by omega,this,show i+2+m=i+1+m+1 by omega]
    have p:∀zs:List (List Int),zs.drop (i+1+m)=l.drop (i+1+m)->zs.drop (i+1+(m+1))=l.drop (i+1+(m+1)):=λzs e=>by
     have:=congrArg (List.drop 1) e;simpa [uM,qn]using this
    generalize hR:tF sP l (i+2+m)=R at *
    have F:=heq x (zj S) y (zj T) (k0.set id (.row (vbs num ys).flatten));cases q:(sP x y==0)with
    |true=>
     rw[q]at F;rw[ip q]at d;have v:m<l.length/\i+1+(m+1+1)<=l.length/\∃zs:List (List Int),zs.length=l.length/\k0.set id (.row (vbs num ys).flatten)=k0.set id (.row (vbs num zs).flatten)/\
      (tF sP l (i+2+(m+1))).length<=i+1+(m+1)/\D.int .i64 ((R.length:Nat):Int)=.int .i64 (((tF sP l (i+2+(m+1))).length:Nat):Int)/\zs.take (tF sP l (i+2+(m+1))).length=tF sP l (i+2+(m+1))/\zs.drop (i+1+(m+1))=l.drop (i+1+(m+1)):=
      ⟨ow,ow,ys,G,rfl,by rw[d];omega,by rw[d],by rw[d];exact o,p _ f⟩
     clear o f p d g1 g2 cg S T hR N q
     repeat' first|simp only[go_sem, *]|apply bc<;>intro A
     refine yF kr ?_
     repeat' first|simp only[go_sem, *]|apply bc<;>intro A|(refine zE.mono F ?_;rintro r h ⟨O,rfl⟩)
    |false=>
     rw[q]at F;rw[iq (by rw[q];exact zV)]at d;have X:R.length<l.length:=ow;have a3:=qG (P:=prog) (sz:=2) (id:=id) sH t5 (k:=.i64) X;have a5:=be (P:=prog) (t:=137) w (kX num ys) ow t5 (i:=R.length) (by rw[oL,G];exact X) (x:=Jj num x) rfl rfl;have K:(vbs num ys).set R.length (Jj num x)=vbs num (ys.set R.length x):=by rw[vbs,vbs,tN]
     rw[K,nU]at a5;have a8:IntKind.i64.wrap (((R.length:Nat):Int)+1)=((R.length+1:Nat):Int):=qR jL;have v:m<l.length/\i+1+(m+1+1)<=l.length/\∃zs:List (List Int),zs.length=l.length/\k0.set id (.row (vbs num (ys.set R.length x)).flatten)=k0.set id (.row (vbs num zs).flatten)/\
      (tF sP l (i+2+(m+1))).length<=i+1+(m+1)/\D.int .i64 ((R.length+1:Nat):Int)=.int .i64 (((tF sP l (i+2+(m+1))).length:Nat):Int)/\zs.take (tF sP l (i+2+(m+1))).length=tF sP l (i+2+(m+1))/\zs.drop (i+1+(m+1))=l.drop (i+1+(m+1)):=by
      have M:(R++ [x]).length=R.length+1:=jS;refine⟨ow,ow,ys.set R.length x,by simpa using G,rfl,by rw[d,M];omega,by rw[d,M],?_,?_⟩
      .rw[d,M,zM (by rw[uQ];omega),ni,mw (zD _),o]
      .rw[mr ow];exact p _ f
     clear o f p d g1 g2 cg S T hR N q K
     repeat' first|simp only[go_sem, *]|apply bc<;>intro A
     refine yF kr ?_
     repeat' first|simp only[go_sem, *]|apply bc<;>intro A|(refine zE.mono F ?_;rintro r h ⟨O,rfl⟩)
   .have e1:decide (((m+1:Nat):Int)<((l.length- (i+1):Nat):Int))=false:=zO ow
    have aj:i+2+m=l.length:=ow;have Y:tF sP l (i+2+m)=cpt sP l:=by rw[aj];rfl
    rw[Y]at o f5 N;have I:(cpt sP l).length<=l.length:=jk _;have ak:=λ(H:Heap)=>pC (P:=prog) (t:=157) (sz:=2) (id:=id) (h:=H) U7 sH t5 (k:=.i64) I;have bb:=λ(H:Heap)=>oN (P:=prog) (t:=157) (h:=H) U7 sH (id:=id) (sz:=2) t5 (k:=.i64) I;obtain⟨rest,Z⟩:=VC (P:=prog) (sz:=2) (t:=157) sH dD rfl rfl w (kX num ys) (n:=(cpt sP l).length) (by rw[oL];omega);have a0:(vbs num ys).take (cpt sP l).length=vbs num (cpt sP l):=by rw[vbs,<-jZ,o];rfl
    rw[a0,nU,oL,G]at Z;have a6:=W (.rs id 2 0 (cpt sP l).length) (k0.set id (.row ((vbs num (cpt sP l)).flatten++rest))) ⟨rfl,rest,rfl⟩;clear o f aj Y a0 W;exact au
 .have e1:decide (((i+1:Nat):Int)<(l.length:Int))=false:=zO ow
  have hd:=a λj h1 L=>U j h1 ow;clear U a b q1 h0 W;exact au
def zAU(g:Heap):zE prog 303 [.nilsl,.int .i64 0,.int .i64 0,.fn (.func 198) [] []] g λ_ h'=>h'=g:=by
 have f:IntKind.i64.wrap (0+1)=1:=rfl;have c:decide ((1:Int)<0)=false:=rfl;refine zo zHu ?_;simp only[f303,zA];simp only[go_sem, *];refine ql (λj fr a=>fr 2=.int .i64 0/\fr 8=.int .i64 1/\a=g) 0 ?_ ?_
 .simp only[go_sem,zQ,zT,zG]
 rintro j b a _ ⟨d,e,rfl⟩;exact au
def zAd(m:Int)(g:Heap):zE prog 235 [.nilsl,.int .i64 0,.int .i64 0,.int .i64 m,.fn (.func 198) [] []] g λ_ h'=>h'=g:=by
 have k:IntKind.i64.wrap (0-0)=0:=rfl;have c:decide ((0:Int)<=12)=true:=rfl;have i:=zAU;refine zo zHe ?_;simp only[f235,zA];simp only[go_sem, *];refine ql (λj fr a=>fr 0=.nilsl/\fr 1=.int .i64 0/\fr 2=.int .i64 0/\fr 4=.fn (.func 198) [] []/\a=g) 0 ?_ ?_
 .simp only[go_sem,zQ,zT,zG]
 rintro j b a _ ⟨d,e,f,h,rfl⟩;exact au
def EY(g:Heap):zE prog 197 [.nilsl,.fn (.func 198) [] []] g λ_ h'=>h'=g:=by
 have b:ng prog 3 299 (.int .i64 0)=some (.int .u64 0):=kr;have a:=Rx (n:=0) ow;have e:=λm=>zAd m;have d:∀h,o5 prog 157 .nilsl h=some (.int .i64 0):=λh=>wL (yg.nil (sz:=2)) underlying157;simp only[zG]at a;refine zo zHS ?_;simp only[f197,zA]
 repeat' first|simp only[go_sem, *]|apply bc<;>intro c|refine zE.use (a _) ?_
def P7(g:Heap):zE prog 199 [.nilsl,.fn (.func 189) [] []] g λr h'=>h'=g/\r=.nilsl:=by
 have b:∀h,o5 prog 157 .nilsl h=some (.int .i64 0):=λh=>wL (yg.nil (sz:=2)) underlying157;have a:decide ((0:Int)<2)=true:=rfl;refine zo zBw ?_;simp only[f199,zA];exact au
def P8{l:List (List Int)}(h0:l≠[])(c:l.length<=16777216)(b:∀x∈l,x.length<=1048576)(a:g.at' id=some (.row (vbs num l).flatten)):
  zE prog 199 [.rs id 2 0 l.length,.fn (.func 189) [] []] g λr h'=>h'=g.del id/\r=.sl 2 (vbs num (cpt sP l)) .no:=
 zE.freezeD ((Kt h0 c b a).mono (by
  rintro r h' ⟨rfl,rest,rfl⟩;exact⟨id,_,zU _ _ _,by rw[NX],X8 (kX num _) (oL num _) rfl⟩))
def GM(s:D):Nat->D
 |0=>.fn (.func 227) [s] []
 |1=>.fn (.func 228) [s] []
 |2=>.fn (.func 229) [s] []
 |3=>.fn (.func 230) [s] []
 |4=>.fn (.func 231) [s] []
 |_=>.fn (.func 232) [s] []
def bQ(c:Cat)(fs:List Fac)(al:Nat->Option Alt)(O:KV):Nat->List (List Int)
 |0=>(qx fs al).flatMap (sx c fs al)
 |1=>(qx fs al).flatMap (oI c fs al O)
 |2=>(qx fs al).flatMap (fM c fs al)
 |3=>(qx fs al).flatMap (pQ c fs al)
 |4=>(cG fs).flatMap (kR fs O)
 |_=>Zt c fs
def sy(s:D)(i:Nat):List D:=[.int .i64 (i:Int),GM s i]
def zDG(s:D):List (List D):=[sy s 0,sy s 1,sy s 2,sy s 3,sy s 4,sy s 5]
def DK(s:D):∀i,i<6->(zDG s)[i]? =some (sy s i)
 |0,_=>rfl
 |1,_=>rfl
 |2,_=>rfl
 |3,_=>rfl
 |4,_=>rfl
 |5,_=>rfl
 |n+6,h=>by omega
def Zm:∀{a:List D},a.length=2->∃x y,a= [x,y]
 | [x,y],_=>⟨x,y,rfl⟩
def zEH(sc:List D)(h:Heap):zE prog 193 [.iptr sc 0] h λr h'=>h'=h/\r=.sl 2 (zDG (.iptr sc 0)) .full:=by
 refine zo zHP ?_;simp only[f193,zA];have g:∀(i:Int)(f:FuncId),qX prog 271 [(0,.int .i64 i),(1,.fn (.func f) [.iptr sc 0] [])]=some (.agg [.int .i64 i,.fn (.func f) [.iptr sc 0] []]):=λi f=>by
  simp[qX,N2,Pr,uc,wg,D.cells,D.notTuple]
 have n:∀a b c d e f:List D,a.length=2->b.length=2->c.length=2->d.length=2->e.length=2->f.length=2->yA prog false h.next 267 6 [(0,.agg a),(1,.agg b),(2,.agg c),(3,.agg d),(4,.agg e),(5,.agg f)] h=some (.sl 2 [a,b,c,d,e,f] .full,h):=λa b c d e f j g k l m hf=>by
  obtain⟨o,p,rfl⟩:=Zm j;obtain⟨q,s,rfl⟩:=Zm g;obtain⟨t,u,rfl⟩:=Zm k;obtain⟨v,w,rfl⟩:=Zm l;obtain⟨e1,e2,rfl⟩:=Zm m;obtain⟨x,y,rfl⟩:=Zm hf;simp[yA,QX,Pr,MM,D.notTuple,D.cells,ma,uc,wg,wP,lim]
 simp only[go_sem,g];rw[n _ _ _ _ _ _ rfl rfl rfl rfl rfl rfl];simp only[go_sem];rfl
def zK5{M:KM Int}{O:KV}{m1 m2:Nat}(e:Stt c fs al M O sc m1 m2)(d:fs.length<=24)
  {h:FuncId} {Y:List (List Int)->(Nat->Prop)->Heap->Prop} (y:Fnd2 prog 5 h cap Y) {w:Heap} (b:Y [] S w) (a:StH M O m1 m2 w) (f:¬S m1) (g:¬S m2):∀i,i<6->
  YL prog (GM (.iptr sc 0) i) [.fn (.func h) [] cap] w λ_ h'=>∃S',(∀i,S' i->S i\/w.next<=i)/\But S w h'/\Y (bQ c fs al O i) S' h':=by
 intro i j;rcases i with _|_|_|_|_|_|i
 .exact F8 e d y b a f g
 .exact zAn e d y b a f g
 .exact zD9 e d y b a f g
 .exact zAN e d y b a f g
 .exact zEB e d y b a f g
 .exact zEC e d y b a f g
 .omega
def jN(c:Cat)(fs:List Fac)(al:Nat->Option Alt)(O:KV)(i:Nat):List (List Int):=cpt sP (srt sP ((bQ c fs al O i).map jx))
def FX(c:Cat)(fs:List Fac)(al:Nat->Option Alt)(O:KV)(i:Nat):D:=if bQ c fs al O i= []then .nilsl else .sl 2 (vbs (i:Int) (jN c fs al O i)) .no
def DJ{O:KV}(b:fs.length<=24)(i:Nat):(bQ c fs al O i).length<=16777216:=by
 have d:=nY (al:=al) b;have a:∀{α:Type}{l:List α}{f:α->List (List Int)}{m n:Nat},l.length<=n->(∀x∈l,(f x).length<=m)->n*m<=16777216->(l.flatMap f).length<=16777216:=λh1 e h3=>zY (tf e) (zY (yt _ h1) h3);unfold bQ;split
 .exact a (m:=1) d (λt _=>by unfold sx;split<;>simp) ow
 .exact a (m:=1) d (λt _=>by
   unfold oI;split
   .simp
   .split<;>simp) ow
 .exact a (m:=24) d (λt _=>WJ c b al t) ow
 .exact a (m:=4096) d (λt _=>ZZ c b al t) ow
 .exact a (m:=24) (n:=24) (zY (th _ fs 0) b) (λt _=>Wa b O t) ow
 .unfold Zt
  split
  .simp
  .exact a (m:=1) (n:=24) (zY (th _ fs 0) b) (λt _=>zD _) ow
def Wc(l:List Int):(jx l).length<=l.length:=zY (jk _) (Nat.le_of_eq (sX l).length_eq)
def PT{O:KV}(i:Nat):∀l∈bQ c fs al O i,l.length<=5:=by
 intro l a;unfold bQ at a;split at a
 .obtain⟨t,_,h⟩:=z6.1 a
  unfold sx at h;split at h
  .rw[zi.1 h];simp
  .cases h
 .obtain⟨t,_,h⟩:=z6.1 a
  unfold oI at h;split at h
  .cases h
  .split at h
   .rw[zi.1 h];simp
   .cases h
 .obtain⟨t,_,h⟩:=z6.1 a
  obtain⟨k,_,h⟩:=z6.1 h;unfold bH at h;split at h
  .rw[zi.1 h];simp
  .cases h
 .obtain⟨t,_,h⟩:=z6.1 a
  unfold pQ at h;split at h
  .obtain⟨r,_,h⟩:=z6.1 h
   unfold mR at h;split at h
   .rw[zi.1 h];simp
   .cases h
  .cases h
 .obtain⟨t,_,h⟩:=z6.1 a
  unfold kR at h;split at h
  .cases h
  .split at h
   .cases h
   .obtain⟨r,_,h⟩:=z6.1 h
    rw[zi.1 h];simp
 .unfold Zt at a
  split at a
  .cases a
  .obtain⟨r,_,h⟩:=z6.1 a
   rw[zi.1 h];simp
def KO(sc:List D):D:=.fn (.func 192) [] [.iptr [.iptr sc 0] 0]
def YR(sc:List D)(g:Heap):zE prog 130 [.iptr sc 0] g λr h'=>h'=g/\r=KO sc:=by
 refine zo zG2 ?_;simp only[f130,zA];simp only[go_sem,KO, *]
def Gz(num:Int)(l:List (List Int)):l.map (Vk num)=vbs num (l.map jx):=by
 unfold vbs;rw[wA];rfl
theorem bt{M:KM Int}{O:KV}{m1 m2:Nat}(hs:Stt c fs al M O sc m1 m2)(hn:fs.length<=24){Y:Nat->(Nat->Prop)->Heap->Prop}{Z:(Nat->Prop)->Heap->Prop}(y:Yld prog id 6 (λi=>[FX c fs al O i]) Y Z){w:Heap}(hY:Y 0 S w)(v:StH M O m1 m2 w)(n1:¬S m1)(n2:¬S m2):
  zE prog 192 [.yld id,.iptr [.iptr sc 0] 0] w λ_ h'=>∃S',(∀j,S' j->S j\/w.next<=j)/\But S w h'/\(Y 6 S' h'\/Z S' h'):=by
 have V:=zEH sc;have a7:∀h,o5 prog 267 (.sl 2 (zDG (.iptr sc 0)) .full) h=some (.int .i64 6):=λh=>wL (yg.mk (sz:=2) (xs:=zDG (.iptr sc 0)) .full) underlying267;refine zo zHO ?_;simp only[f192,zA]
 repeat' first|simp only[go_sem, *]|apply bc<;>intro hc|(refine zE.mono (V _) ?_;rintro r h ⟨u,rfl⟩)
 subst u
 rename Heap=>w
 refine ql (λi fr h'=>fr 0=.yld id/\fr 1=.iptr [.iptr sc 0] 0/\fr 7=.sl 2 (zDG (.iptr sc 0)) .full/\fr 8=.int .i64 6/\fr 9=.int .i64 (i:Int)/\∃S',(∀j,S' j->S j\/w.next<=j)/\But S w h'/\Y i S' h') 6 ?_ ?_
 .have G:∃S',(∀j,S' j->S j\/w.next<=j)/\But S w w/\Y 0 S' w:=⟨S,λj n=>.inl n,But.refl S w,hY⟩
  simp only[go_sem,zQ,zT,zG];exact G
 rintro i fr h1 K ⟨I,f1,f7,f8,f9,S',J,b,t⟩;by_cases o:i<6
 .have e1:decide ((i:Int)<6)=true:=zR ow
  have ew:IntKind.i64.wrap ((i:Int)+1)=((i+1:Nat):Int):=qR jL;have hw:yQ true 2 (sy (.iptr sc 0) i) 0=some (.agg (sy (.iptr sc 0) i)):=zJ rfl ow;have G:∀(h:Heap)(id:Nat),yR prog 271 (.ptr id 0) (.agg (sy (.iptr sc 0) i)) (h.new id (.row [.int .i64 0,.nilfn]))=some (h.new id (.row (sy (.iptr sc 0) i))):=λh id=>yo MM ow rfl rfl (by rcases i with _|_|_|_|_|i<;>rfl);have ha:yj prog 267 (.sl 2 (zDG (.iptr sc 0)) .full) (.int .i64 (i:Int))=some (.iptr (sy (.iptr sc 0) i) 0):=yW (yg.mk (sz:=2) _) QX MM (DK _ _ o);have aj:(sy (.iptr sc 0) i)[1]? =some (GM (.iptr sc 0) i):=rfl;have a6:=b.1
  obtain⟨H,ad,a5,a2,a1,hE⟩:∃H:Heap,(h1.new h1.next (.row (sy (.iptr sc 0) i))).new (h1.next+1) (.row [.nilsl])=H/\H.next=h1.next+2/\H.at' h1.next=some (.row (sy (.iptr sc 0) i))/\H.at' (h1.next+1)=some (.row [.nilsl])/\Ext h1 H:=
   ⟨_,rfl,qQ _ (by rw[za];exact zD _) _,by rw[zg ow,z5],z5 _ _ _,((Ext.refl h1).new (zD _) _).new ow _⟩
  have m:But S w H:=b.trans (hE.but S) λi K=>.inl K;have B:StH M O m1 m2 H:=⟨⟨by rw[m.2 _ v.2.1 n1];exact v.1.1,by rw[m.2 _ v.2.2 n2];exact v.1.2⟩,by have:=v.2.1;omega,by have:=v.2.2;omega⟩;have Y0:YVf (i:Int) (GM (.iptr sc 0) i) (h1.next+1) h1.next [] (λj=>j=h1.next+1\/j=h1.next) H:=⟨ow,ow,ow,a2,.nilsl,a1,.inl ⟨rfl,rfl⟩,λe=>e,λe=>e,λj=>⟨λe=>e.elim .inl λe=>.inr (.inl e),λe=>e.elim .inl λe=>e.elim .inr λe=>e.elim⟩⟩;have N:=zK5 hs hn (Em (num:=(i:Int)) (fn:=GM (.iptr sc 0) i) (nl:=h1.next+1) (nr:=h1.next)) Y0 B (λe=>by have:=v.2.1;omega) (λe=>by have:=v.2.2;omega) i o;clear B m Y0
  repeat' first|simp only[go_sem,za, *]|apply bc<;>intro
  refine YL.mono ?_ N;rintro r p ⟨S2,s2,b2,w1,w2,w3,w4,d2,X,w6,w7,w8,w9⟩;have a4:=b2.1;have A:∀j,j<h1.next->p.at' j=h1.at' j:=λj n=>by rw[b2.2 j ow ow,hE.2 j n]
  rw[Gz]at w6;have ai:=DJ (c:=c) (al:=al) (O:=O) hn i;have ag:=PT (c:=c) (fs:=fs) (al:=al) (O:=O) i;clear N G ha hw aj ad e1;rcases w6 with⟨rfl,e⟩ | ⟨k,rfl,g1,g2,g3⟩
  .have e0:bQ c fs al O i= []:=by simpa [vbs]using e
   have hv:FX c fs al O i=.nilsl:=by unfold FX;rw[ip e0]
   have q:Ext h1 p:=⟨ow,A⟩;have s:=y.go i S' p o (y.ext t q);have d:∀(l:Nat->Prop)(h5:Heap),(∀j,l j->S' j\/p.next<=j)->But S' p h5->(∀j,l j->S j\/w.next<=j)/\But S w h5:=λl h5 f g=>⟨λj n=>by
    rcases f j n with n|n
    .exact J j n
    .exact .inr ow,(b.trans (q.but S) λi K=>.inl K).trans g J⟩
   simp only[hv]at s;simp only[go_sem,X,I];refine(EY p).mono ?_;rintro r h3 u;subst u;simp only[go_sem,X,I];refine(P7 h3).mono ?_;rintro r h4 ⟨u,rfl⟩;subst u;refine s.mono ?_;rintro r h5 ⟨l,f,g,⟨rfl,C⟩ | ⟨rfl,D⟩⟩
   .have a:=d l h5 f g
    simp only[go_sem,vun,ew,I,f1,f7,f8,f9,zQ];exact⟨o,l,a.1,a.2,C⟩
   .have a:=d l h5 f g
    simp only[go_sem,vun];exact⟨l,a.1,a.2,.inr D⟩
  .have F:(bQ c fs al O i).map jx≠[]:=λe=>g3 (by rw[e];rfl)
   have T:bQ c fs al O i≠[]:=λe=>F (by rw[e];rfl);have a0:((bQ c fs al O i).map jx).length<=16777216:=by rw[zH];exact ai
   have Q:∀x∈(bQ c fs al O i).map jx,x.length<=1048576:=λx hx=>by
    obtain⟨z,hz,rfl⟩:=zN.1 hx;have h1:=Wc z;have p:=ag z hz;omega
   have hv:FX c fs al O i=.sl 2 (vbs (i:Int) (jN c fs al O i)) .no:=by unfold FX;rw[iq T]
   have U:jN c fs al O i=cpt sP (srt sP ((bQ c fs al O i).map jx)):=rfl;rw[U]at hv;clear U;generalize(bQ c fs al O i).map jx=L at *
   have hid:H.next<=k:=by
    rcases s2 k ((w9 k).2 (.inr (.inr rfl)))with(e|e)|e
    .exact absurd e.symm (λe=>w7 (by rw[e];rfl))
    .exact absurd e.symm (λe=>w8 (by rw[e];rfl))
    .exact e
   have W:=zAs (num:=(i:Int)) F a0 Q g1;have sl:(srt sP L).length=L.length:=(sX L).length_eq;have s0:srt sP L≠[]:=λe=>F (yN.1 (by rw[<-sl,e];rfl));have E:=P8 (num:=(i:Int)) s0 ow (λx hx=>Q x (bV.1 hx)) (zU p k (.row (vbs (i:Int) (srt sP L)).flatten));rw[sl]at E;rw[oL]at X;obtain⟨h3,P,R,a3⟩:∃h3,p.set k (.row (vbs (i:Int) (srt sP L)).flatten)=h3/\h3.next=p.next/\h3.at' (h1.next+1)=some (.row [.rs k 2 0 L.length]):=⟨_,rfl,yc _ _ _,by rw[zW ow];exact X⟩;have q:Ext h1 (h3.del k):=⟨by rw[LZ,R];omega,λj n=>by rw[wQ ow,<-P,zW ow,A j n]⟩;have a8:(h3.del k).next=p.next:=by rw[LZ,R]
   rw[P]at W E;generalize h3.del k=h4 at *
   have s:=y.go i S' h4 o (y.ext t q);have d:∀(l:Nat->Prop)(h5:Heap),(∀j,l j->S' j\/h4.next<=j)->But S' h4 h5->(∀j,l j->S j\/w.next<=j)/\But S w h5:=λl h5 f g=>⟨λj n=>by
    rcases f j n with n|n
    .exact J j n
    .exact .inr ow,(b.trans (q.but S) λi K=>.inl K).trans g J⟩
   simp only[hv]at s;simp only[go_sem,X,I];refine W.mono ?_;rintro r h ⟨rfl,u⟩;subst u;simp only[go_sem,a3,I];refine E.mono ?_;rintro r h ⟨u,rfl⟩;subst u;refine s.mono ?_;rintro r h5 ⟨l,f,g,⟨rfl,C⟩ | ⟨rfl,D⟩⟩
   .have a:=d l h5 f g
    simp only[go_sem,vun,ew,I,f1,f7,f8,f9,zQ];exact⟨o,l,a.1,a.2,C⟩
   .have a:=d l h5 f g
    simp only[go_sem,vun];exact⟨l,a.1,a.2,.inr D⟩
 .have e1:decide ((i:Int)<6)=false:=zO ow
  have ak:i=6:=ow;subst ak;have d:∃S',(∀j,S' j->S j\/w.next<=j)/\But S w h1/\(Y 6 S' h1\/Z S' h1):=⟨S',J,b,.inl t⟩;clear J b t V;exact au
end Go.V
