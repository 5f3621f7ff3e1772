/- A machine of abstract values for programs of the model, further rules, part 2. No condition. -/
import Derived.Test.YtkenagjlanhnmaaGreatDoorW35
set_option linter.all false
set_option maxHeartbeats 8000000
namespace Go.V
open Go.Shelf Go.Proofs Go.Sort
open Go.RowKit (Below)
variable{P:Program}{f:FuncId}{id sz nid k i:Nat}{h g h':Heap}{xs ys:List (List D)}{d:D}{tk:Tk}{num:Int}{S:Nat->Prop}{α:Type}{c:Cat}{fs:List Fac}{al:Nat->Option Alt}{sc cap:List D}
def zD.of_sortI{xs:List Int}(h0:xs≠[])(V:rP P f=true)(g:h.at' id=some (.row (xs.map (D.int .i64))))(s:xs.length<4611686018427387904)
  (t:∀(b off cap:Nat)(zs:List Int)(w:World),Go.Sort.Holds (Value.int .i64) w b off zs.toArray->b<w.heap.size->zs.length<4611686018427387904->
   Calls P f #[.slice (some ⟨b,off,none⟩) zs.length cap] w λe O=>e=.returned (.tuple #[])/\∃n I,O=Go.Sort.grow (putRow (Value.int .i64) (Go.Sort.ahead w n) b off (zs.mergeSort λx y=>decide (x<=y)).toArray) I):
  zD P f [.rs id 1 0 xs.length] h λr h'=>r=.tuple []/\h'=h.set id (.row ((xs.mergeSort λx y=>decide (x<=y)).map (D.int .i64))):=by
 refine⟨V,λw0 G M ρ w va W L B hr=> ?_⟩;simp only[wG]at hr;obtain⟨v,ai,F,N,rfl⟩:=hr;simp only[rel,wG]at N;obtain⟨_,K,l,cap,o,J,rfl,⟨S,T⟩,ad,u⟩:=N;have ag:0<xs.length:=zy.2 h0;have u:o=0:=by
  rcases u with hz|u
  .omega
  .exact u
 subst u;have z:va= #[.slice (some ⟨l.blk,0,none⟩) xs.length cap]:=tU (by simpa using F);subst z;obtain⟨l',h1,C,hM,c,e,H,Z,U,a⟩:=L.live id _ g;rw[J]at h1;cases h1;have m:l.blk<w.heap.size:=(yF.1 H).1;have d:Go.Sort.Holds (Value.int .i64) w l.blk 0 xs.toArray:=by
  intro j Y;have p:j<xs.length:=by simpa using Y
  refine⟨?_,by simp[World.frozen?,H]⟩;obtain⟨_,v,Q,h3⟩:=a j (.int .i64 xs[j]) (by rw[zm,zB p];rfl);simp only[rel]at h3;obtain⟨rfl,_⟩:=h3;simp only[World.cell?,H,tZ,zg,yp];rw[yH,Q];simp[p]
 refine(t l.blk 0 cap xs w d m s).mono λe O E=> ?_;obtain⟨rfl,n,I,rfl⟩:=E;have k:h.at' id=some (.row ([]++xs.map (D.int .i64)++ [])):=by simpa using g
 have R:=(L.ahead n).putRow (α:=Int) (enc:=Value.int .i64) (dd:=D.int .i64) (λq=>rfl) k J (ys:=xs.mergeSort λx y=>decide (x<=y)) (List.length_mergeSort _) (λq E=>by
  obtain⟨i,X,rfl⟩:=zz.1 (List.mem_mergeSort.1 E);obtain⟨_,v,_,h3⟩:=a i (.int .i64 xs[i]) (by rw[zm,zB X];rfl);simp only[rel]at h3;exact wx h3.2)
 have A:=R.grow I;refine⟨.tuple #[],M,ρ,.tuple [],_,rfl,MLe.refl _,RLe.refl _,A,B,by simp only[rel,wG];exact⟨#[],rfl,rfl⟩,rfl,jS⟩
open Go.Proofs.Tryz
open Go.Proofs
set_option maxRecDepth 100000
def bT(l:List Int):(wt l).flatten=l.map (D.int .i64):=by
 induction l with
 |nil=>rfl
 |cons a l b=>simp only[wt,qe,yT]at b⊢;rw[b];rfl
def bU{l:List Int} :∀x∈wt l,x.length=1:=by grind [wt]
def Nl(x y:Int):(uq x y==0)=(x==y):=by grind [uq]
theorem LA{l:List Int}(h0:l≠[])(hl:l.length<=1048576)(G:g.at' id=some (.row (l.map (D.int .i64)))):
  zD prog 196 [.rs id 1 0 l.length] g λr h'=>r=.rs id 1 0 (cpt uq l).length/\∃rest,h'=g.set id (.row ((cpt uq l).map (D.int .i64)++rest)):=by
 have aj:=λ(h:Heap)=>oz (P:=prog) (t:=30) (sz:=1) (id:=id) (off:=0) (len:=l.length) (h:=h) underlying30;have s:0<l.length:=zy.2 h0;have b:∀n,n<=l.length->(∀i (h:i+1<l.length),i+1<n->(uq l[i+1] l[i]==0)=false)->ur uq l n=l.take n:=λn hn hh=>by
  induction n with
  |zero=>rfl
  |succ n ih=>
   cases n with
   |zero=>rw[bJ s,kg];simp[tM,s]
   |succ k=>
    rw[nJ ow,iq (by rw[hh k ow ow];exact zd),ih ow λi h1 I=>hh i h1 ow];exact(zP ow).symm
 refine xP λQ S=> ?_;have a:(∀i (h:i+1<l.length),i+1<l.length->(uq l[i+1] l[i]==0)=false)->Q (.rs id 1 0 l.length) g:=λhh=>S _ _ (by
  have e:cpt uq l=l:=by
   have:=b l.length (zC _) hh;rw[yC]at this;exact this
  rw[e];exact⟨rfl,[],by rw[yK,sC G]⟩)
 refine zj zFk ?_;simp only[f196,zA];cases q1:decide ((l.length:Int)<2)with
 |true=>
  have hd:=a λi h1 I=>by have:=yE q1;omega
  clear a S;simp only[go_sem, *]
 |false=>
 simp only[go_sem, *];refine qn (λi fr h=>fr 0=.rs id 1 0 l.length/\fr 3=.int .i64 ((i+1:Nat):Int)/\h=g/\i+1<=l.length/\∀j (h:j+1<l.length),j+1<i+1->(uq l[j+1] l[j]==0)=false) l.length ?_ ?_
 .simp only[go_sem,zM,zV,zG]
  exact⟨rfl,s,λj h1 I=>by omega⟩
 rintro i fr h hi ⟨f0,f3,rfl,W,N⟩;by_cases C:i+1<l.length
 .have e1:decide (((i+1:Nat):Int)<(l.length:Int))=true:=zR ow
  have ew:IntKind.i64.wrap (((i+1:Nat):Int)+1)=((i+2:Nat):Int):=qH jL;have O:IntKind.i64.wrap (((i+1:Nat):Int)-1)=((i:Nat):Int):=by rw[qP ow ow];omega
  have a1:=qX (P:=prog) (sz:=1) (id:=id) wA sG (k:=.i64) C;have a2:=qX (P:=prog) (sz:=1) (id:=id) wA sG (k:=.i64) (show i<l.length by omega);have p1:(l.map (D.int .i64))[i+1]? =some (.int .i64 l[i+1]):=by simp[C]
  have p2:(l.map (D.int .i64))[i]? =some (.int .i64 l[i]):=by simp[show i<l.length by omega]
  have L:=Nl l[i+1] l[i];rw[wn]at a1 a2;cases q:(uq l[i+1] l[i]==0)with
  |false=>
   rw[q]at L;replace L:=L.symm;have hn:∀j (h:j+1<l.length),j+1<i+2->(uq l[j+1] l[j]==0)=false:=λj h1 I=>by
    by_cases e:j=i
    .subst e;exact q
    .exact N j h1 ow
   clear N a b q1 h0 q;simp only[go_sem, *];refine yJ kr ?_;simp only[go_sem, *];exact⟨ow,C,hn⟩
  |true=>
   rw[q]at L;replace L:=L.symm;have B:ur uq l (i+2)=l.take (i+1):=by
    rw[nJ C,ip q,b (i+1) ow λj h1 I=>N j h1 I]
   have M:=pn (P:=prog) (t:=30) (sz:=1) (id:=id) (h:=h) Qu wA sG (k:=.i64) W;rw[wn]at M;clear N a b q1 h0 q;simp only[go_sem, *];refine yJ kr ?_;simp only[go_sem, *];refine qn (λm fr h'=>fr 0=.rs id 1 0 l.length/\fr 4=.rs id 1 (i+1) (l.length- (i+1))/\fr 5=.int .i64 ((m+1:Nat):Int)/\i+1+(m+1)<=l.length/\∃ys:List Int,ys.length=l.length/\h'=h.set id (.row (ys.map (D.int .i64)))/\
    (ur uq l (i+2+m)).length<=i+1+m/\fr 3=.int .i64 (((ur uq l (i+2+m)).length:Nat):Int)/\ys.take (ur uq l (i+2+m)).length=ur uq l (i+2+m)/\ys.drop (i+1+m)=l.drop (i+1+m)) l.length ?_ ?_
   .have w:(ur uq l (i+2)).length=i+1:=by rw[B,yB];omega
    have A:ur uq l (i+2+0)=ur uq l (i+2):=rfl;have u:i+1+(0+1)<=l.length/\∃ys:List Int,ys.length=l.length/\h=h.set id (.row (ys.map (D.int .i64)))/\
     (ur uq l (i+2+0)).length<=i+1+0/\D.int .i64 ((i+1:Nat):Int)=.int .i64 (((ur uq l (i+2+0)).length:Nat):Int)/\ys.take (ur uq l (i+2+0)).length=ur uq l (i+2+0)/\ys.drop (i+1+0)=l.drop (i+1+0):=
     ⟨ow,l,rfl,(sC G).symm,by rw[A,w];omega,by rw[A,w],by rw[A,w,B],rfl⟩
    clear w A B;simp only[go_sem,zM,zV,zG];obtain⟨r0,ys,r1,r2,r3,r4,r5,r6⟩:=u;exact⟨f0,rfl,r0,ys,r1,r2,r3,f3.trans r4,r5,r6⟩
   clear B M L p1 p2 a1 a2 f0 f3 e1 ew O;rintro m a0 I hm ⟨f0,f4,f5,a4,ys,E,rfl,K,f3,o,f⟩;have v:(h.set id (.row (ys.map (D.int .i64)))).at' id=some (.row (ys.map (D.int .i64))):=zW _ _ _;have ag:=λ(H:Heap)=>oz (P:=prog) (t:=30) (sz:=1) (id:=id) (off:=i+1) (len:=l.length- (i+1)) (h:=H) underlying30;by_cases X:m+1<l.length- (i+1)
   .have e1:decide (((m+1:Nat):Int)<((l.length- (i+1):Nat):Int))=true:=zR ow
    have ew:IntKind.i64.wrap (((m+1:Nat):Int)+1)=((m+2:Nat):Int):=qH jL;have O:IntKind.i64.wrap (((m+1:Nat):Int)-1)=((m:Nat):Int):=by rw[qP ow ow];omega
    have a1:=sr (P:=prog) (sz:=1) (id:=id) (off:=i+1) wA sG (k:=.i64) X;have a2:=sr (P:=prog) (sz:=1) (id:=id) (off:=i+1) wA sG (k:=.i64) (show m<l.length- (i+1) by omega);obtain⟨x,hx⟩:∃x,l[i+1+m+1]? =some x:=⟨_,zB ow⟩;obtain⟨y,hy⟩:∃y,l[i+1+m]? =some y:=⟨_,zB ow⟩;have g1:ys[i+1+(m+1)]? =some x:=by
     have:=congrArg (λz=>z[1]?) f;simp only[yy]at this;rw[show i+1+(m+1)=i+1+m+1 by omega,this,hx]
    have g2:ys[i+1+m]? =some y:=by
     have:=congrArg (λz=>z[0]?) f;simp only[yy,qo]at this;rw[this,hy]
    rw[wn]at a1 a2;have p1:(ys.map (D.int .i64))[i+1+(m+1)]? =some (.int .i64 x):=by rw[zm,g1];rfl
    have p2:(ys.map (D.int .i64))[i+1+m]? =some (.int .i64 y):=by rw[zm,g2];rfl
    have d:ur uq l (i+2+(m+1))=if(uq x y==0)=true then ur uq l (i+2+m)else ur uq l (i+2+m)++ [x]:=by
     have:=PJ (c:=uq) hx hy;rw[show i+2+(m+1)=i+1+m+2 by omega,this,show i+2+m=i+1+m+1 by omega]
    have p:∀zs:List Int,zs.drop (i+1+m)=l.drop (i+1+m)->zs.drop (i+1+(m+1))=l.drop (i+1+(m+1)):=λzs e=>by
     have:=congrArg (List.drop 1) e;simpa [uC,qf]using this
    generalize hR:ur uq l (i+2+m)=R at *
    have Z:=(Nl x y).symm;cases q:(uq x y==0)with
    |true=>
     rw[q]at Z;rw[ip q]at d;have u:m<l.length/\i+1+(m+1+1)<=l.length/\∃zs:List Int,zs.length=l.length/\h.set id (.row (ys.map (D.int .i64)))=h.set id (.row (zs.map (D.int .i64)))/\
      (ur uq l (i+2+(m+1))).length<=i+1+(m+1)/\D.int .i64 ((R.length:Nat):Int)=.int .i64 (((ur uq l (i+2+(m+1))).length:Nat):Int)/\zs.take (ur uq l (i+2+(m+1))).length=ur uq l (i+2+(m+1))/\zs.drop (i+1+(m+1))=l.drop (i+1+(m+1)):=
      ⟨ow,ow,ys,E,rfl,by rw[d];omega,by rw[d],by rw[d];exact o,p _ f⟩
     clear o f p d g1 g2 hx hy hR K q;simp only[go_sem, *];refine yJ kr ?_;simp only[go_sem, *]
    |false=>
     rw[q]at Z;rw[iq (by rw[q];exact zd)]at d;have T:R.length<l.length:=ow;have a3:=qX (P:=prog) (sz:=1) (id:=id) wA sG (k:=.i64) T;rw[wn]at a3;have a6:yW prog 3 (.ptr id R.length) (.int .i64 x) (h.set id (.row (ys.map (D.int .i64))))=some (h.set id (.row ((ys.set R.length x).map (D.int .i64)))):=by
      rw[yN v sG (by rw[zI,E];exact T) rfl rfl,mi,tC]
     have ak:IntKind.i64.wrap (((R.length:Nat):Int)+1)=((R.length+1:Nat):Int):=qH jL;have u:m<l.length/\i+1+(m+1+1)<=l.length/\∃zs:List Int,zs.length=l.length/\h.set id (.row ((ys.set R.length x).map (D.int .i64)))=h.set id (.row (zs.map (D.int .i64)))/\
      (ur uq l (i+2+(m+1))).length<=i+1+(m+1)/\D.int .i64 ((R.length+1:Nat):Int)=.int .i64 (((ur uq l (i+2+(m+1))).length:Nat):Int)/\zs.take (ur uq l (i+2+(m+1))).length=ur uq l (i+2+(m+1))/\zs.drop (i+1+(m+1))=l.drop (i+1+(m+1)):=by
      have J:(R++ [x]).length=R.length+1:=jS;refine⟨ow,ow,ys.set R.length x,by simpa using E,rfl,by rw[d,J];omega,by rw[d,J],?_,?_⟩
      .rw[d,J,zP (by rw[uE];omega),nE,mM (zC _),o]
      .rw[mK ow];exact p _ f
     clear o f p d g1 g2 hx hy hR K q;simp only[go_sem, *];refine yJ kr ?_;exact au
   .have e1:decide (((m+1:Nat):Int)<((l.length- (i+1):Nat):Int))=false:=zN ow
    have Y:i+2+m=l.length:=ow;have U:ur uq l (i+2+m)=cpt uq l:=by rw[Y];rfl
    rw[U]at o f3 K;have F:(cpt uq l).length<=l.length:=jA _;have M:∀H:Heap,uN prog 30 (.rs id 1 0 l.length) (some (.int .i64 (((cpt uq l).length:Nat):Int))) none none H=some (.rs id 1 (cpt uq l).length (l.length- (cpt uq l).length)):=λH=>by
     have:=pn (P:=prog) (t:=30) (sz:=1) (id:=id) (h:=H) Qu wA sG (k:=.i64) F;rw[wn]at this;exact this
    have a5:=λ(H:Heap)=>nT (P:=prog) (t:=30) (h:=H) Qu wA (id:=id) (sz:=1) sG (k:=.i64) F;obtain⟨rest,V⟩:=WM (P:=prog) (sz:=1) (t:=30) (xs:=wt ys) wA pc rfl rfl (by rw[bT];exact v) bU (n:=(cpt uq l).length) (by rw[wE];omega);have ad:((wt ys).take (cpt uq l).length).flatten=(cpt uq l).map (D.int .i64):=by rw[wt,<-ka,o];exact bT _
    rw[ad,mi,wE,E,wn]at V;have ai:=S (.rs id 1 0 (cpt uq l).length) (h.set id (.row ((cpt uq l).map (D.int .i64)++rest))) ⟨rfl,rest,rfl⟩;clear o f Y U ad S;exact au
 .have e1:decide (((i+1:Nat):Int)<(l.length:Int))=false:=zN ow
  have hd:=a λj h1 I=>N j h1 ow;clear N a b q1 h0 S;exact au
def zA1(l:List Int):(l.mergeSort λx y=>decide (x<=y))=srt uq l:=by
 unfold srt;congr 1
 funext a b
 unfold uq;by_cases h:a<=b
 .rw[zR h]
  have h1:¬b<a:=ow;rw[iq h1];split<;>simp
 .rw[zN h]
  have h1:b<a:=ow;rw[ip h1];rfl
def dM(l:List Int):List Int:=cpt uq (srt uq l)
def GG{l:List Int}(h0:l≠[])(e:l.length<=1048576)(tk:Tk)(h:Heap):zD prog 79 [.sl 1 (wt l) tk] h λr h'=>r=.rs h.next 1 0 l.length/\h'=h.new h.next (.row (l.map (D.int .i64))):=by
 have b:0<l.length:=zy.2 h0;have c:kW prog .eql 30 true (.sl 1 (wt l) tk) .nilsl=some (.bool false):=by rw[um (yZ.mk tk) underlying30];rfl
 have d:=λnid h=>wT (P:=prog) (nid:=nid) (h:=h) wA pc sG rfl rfl (by omega:0<1);have a:qS prog true h.next 30 (.sl 1 [] .full) (.sl 1 (wt l) tk) h=some (.rs h.next 1 0 l.length,h.new h.next (.row (l.map (D.int .i64)))):=by
  rw[oE wA V5 sG ow bU (by rw[fO,wE];unfold lim;omega) (by rw[wE];unfold lim;omega),wE,iq ow,Vg underlying3,bT]
 refine zj zLT ?_;simp only[f79,zA];simp only[tT,go_sem,c,d,a]
def AC{l:List Int}(h0:l≠[])(d:l.length<=1048576)(a:g.at' id=some (.row (l.map (D.int .i64)))):
  zD prog 195 [.rs id 1 0 l.length] g λr h'=>r=.tuple []/\h'=g.set id (.row ((srt uq l).map (D.int .i64))):=by
 have:=zD.of_sortI (P:=prog) (f:=195) h0 kr a ow (λb off cap zs w h1 c h3=>Tryz.slices_Sort_int b off cap zs w h1 c h3);rw[zA1]at this;exact this
def Q0{l:List Int}(h0:l≠[])(b:l.length<=1048576)(a:g.at' id=some (.row (l.map (D.int .i64)))):
  zD prog 196 [.rs id 1 0 l.length] g λr h'=>h'=g.del id/\r=.sl 1 (wt (cpt uq l)) .no:=
 zD.freezeD ((LA h0 b a).mono (by
  rintro r h' ⟨rfl,rest,rfl⟩;exact⟨id,_,zW _ _ _,by rw[PM],XN bU (wE _) (by rw[bT])⟩))
def Wm(num:Int)(ks:List Int):List D:=[.int .i64 num,.sl 1 (wt (dM ks)) .no]
def Mj(num:Int)(ks:List (List Int)):∀c∈ks.map (Wm num),c.length=2:=λc a=>by
 obtain⟨k,_,rfl⟩:=zS.1 a;rfl
def Qp(h:Heap)(sz:Nat)(xs:List (List D))(d:D):Prop:=(d=.nilsl/\xs= [])\/∃id,d=.rs id sz 0 xs.length/\h.at' id=some (.row xs.flatten)/\id<h.next/\xs≠[]
def cT(d:D)(i:Nat):Prop:=match d with
 |.rs id _ _ _=>i=id
 |_=>False
def Qp.loc(c:Qp h sz xs d)(e:h.next<=h'.next)(b:∀i,cT d i->h'.at' i=h.at' i):Qp h' sz xs d:=by
 rcases c with h1| ⟨t,rfl,h1,a⟩
 .exact .inl h1
 .exact .inr ⟨t,rfl,by rw[b t rfl];exact h1,ow,a.2⟩
def Qp.app{t e:TypeId}(p:Qp h sz xs d)(n:uu P t=some e)(r:YE P e=true)(q:szT P e=sz)(h0:0<sz)(hr:∀cs,oI P e cs=.row cs)(j:∀y∈xs,y.length=sz)(l:∀y∈ys,y.length=sz)(k:ys≠[])
  (a:(xs.length+ys.length)*uF P e<=lim) (f:xs.length+ys.length<=lim):∃g:Heap,qS P true nid t d (.sl sz ys tk) h=some (.rs nid sz 0 (xs++ys).length,g.new nid (.row (xs++ys).flatten))/\g.next=h.next/\(∀i,¬cT d i->g.at' i=h.at' i):=by
 have c:ys.flatten.length=ys.length*sz:=uP l;have m:0<ys.length:=zy.2 k;simp only[qS,n,r,q,TR,qF,c,ue _ h0];rcases p with⟨rfl,rfl⟩ | ⟨id,rfl,h1,s⟩
 .refine⟨h,?_,rfl,λ_ _=>rfl⟩
  simp only[tB];rw[iq ow,ip (by simp only[zF,zO];simp only[qD,yH]at a f;exact⟨a,f⟩)];simp[hr]
 .refine⟨h.del id,?_,rfl,λi o=>wM λe=>o (by rw[e];rfl)⟩
  have b:xs.flatten.length=xs.length*sz:=uP j;simp only[tB,uT,cH];rw[ip (by simp only[zF,zO];exact⟨a,f⟩)];simp only[h1,b,qF];simp
def Qp.trunc(a:Qp h sz xs d)(b:∀x∈xs,x.length=sz)(x:D):tT d x h=h:=by
 rcases a with⟨rfl,_⟩ | ⟨id,rfl,hr,_⟩
 .rfl
 .have hf:xs.flatten.length=xs.length*sz:=uP b
  cases x<;>simp[tT,hr,hf]
def YVf(num:Int)(fn:D)(nl nr:Nat)(ks:List (List Int))(S:Nat->Prop)(h:Heap):Prop:=
 nl<h.next/\nr<h.next/\nl≠nr/\h.at' nr=some (.row [.int .i64 num,fn])/\∃d,h.at' nl=some (.row [d])/\Qp h 2 (ks.map (Wm num)) d/\¬cT d nl/\¬cT d nr/\∀i,S i↔(i=nl\/i=nr\/cT d i)
theorem Bl{fn:D}{nl nr:Nat}{ks:List (List Int)}(X:ks.length<16777216)(R:YVf num fn nl nr ks S h){l:List Int}(K:l≠[])(hl:l.length<=5)(tk:Tk):
  zD prog 194 [.sl 1 (wt l) tk,.ptr nl 0,.ptr nr 0] h λ_ h'=>∃S',(∀i,S' i->S i\/h.next<=i)/\But S h h'/\YVf num fn nl nr (ks++ [l]) S' h':=by
 obtain⟨y1,y2,M,N,d,O,P,y7,y8,Q⟩:=R;have C:=GG K ow tk h;have I:=AC K ow (z5 h h.next (.row (l.map (D.int .i64))));have s0:srt uq l≠[]:=λe=>K (ye.1 (by rw[<-(sD (c:=uq) l).length_eq,e];rfl));have sl:(srt uq l).length=l.length:=(sD l).length_eq;have o:=Q0 s0 ow (zW (h.new h.next (.row (l.map (D.int .i64)))) h.next (.row ((srt uq l).map (D.int .i64))));rw[sl]at o;refine zj zFj ?_;simp only[f194,zA]
 repeat' first|simp only[go_sem, *]|apply bc<;>intro U
 refine C.mono ?_;rintro r h1 ⟨rfl,rfl⟩
 repeat' first|simp only[go_sem, *]|apply bc<;>intro U
 refine I.mono ?_;rintro r h1 ⟨rfl,rfl⟩;obtain⟨h0,e1,e2,e3⟩:∃h0:Heap,h0.at' nl=some (.row [d])/\h0.at' nr=some (.row [.int .i64 num,fn])/\∀i s,h0.at' i=some s->(i=nl\/i=nr)/\h.at' i=some s:=by
  refine⟨⟨h.next,λi=>if i=nl\/i=nr then h.at' i else none⟩,by simp[O],by simp[N],λi s e=> ?_⟩
  simp only at e;split at e
  .exact⟨‹_›,e⟩
  .cases e
 obtain⟨m,n,j⟩:∃m,(h.new h.next (.row (l.map (D.int .i64)))).set h.next (.row ((srt uq l).map (D.int .i64)))=m/\HLe h0 m:=⟨_,rfl,λi s e=>by
  obtain⟨z,A⟩:=e3 i s e;have v:i≠h.next:=by rcases z with rfl|rfl<;>omega
  rw[zX v,zf v];exact A⟩
 have G:(m.del h.next).next=h.next+1:=by rw[<-n];exact za h (.row (l.map (D.int .i64)))
 have a:∀i,i≠h.next->(m.del h.next).at' i=h.at' i:=λi f=>by rw[<-n,wM f,zX f,zf f]
 have k:HLe h0 (m.del h.next):=λi s e=>by
  obtain⟨z,A⟩:=e3 i s e;rw[a _ (by rcases z with rfl|rfl<;>omega)];exact A
 rw[n]at o⊢;have T:qW prog 137 [(0,.int .i64 num),(1,.sl 1 (wt (dM l)) .no)]=some (.agg (Wm num l)):=by
  simp[qW,cR,fK,ua,wS,Wm,D.cells,D.notTuple]
 have B:∀nid H,yD prog false nid 157 1 [(0,.agg (Wm num l))] H=some (.sl 2 [Wm num l] .full,H):=λnid H=>qd (x:=.agg (Wm num l)) tg fK tS rfl rfl ow ow rfl rfl;refine yq h0 ((0,.st,true)::(pwt [1] ((2,.st,true)::(pwt [3,4,5,6] (pwf [7,8] []))))) kr kr j ?_;simp only[go_sem,e1,e2,eq_true j];refine o.mono ?_;rintro r b ⟨rfl,rfl⟩;generalize m.del h.next=b at G a k⊢;have y:Qp b 2 (ks.map (Wm num)) d:=P.loc ow λi f=>by
  refine a i ?_;rcases P with⟨rfl,_⟩ | ⟨id,rfl,_,hid,_⟩
  .exact f.elim
  .simp only[cT]at f;omega
 have u:(ks.map (Wm num)).length=ks.length:=zI ..;obtain⟨g,t,V,p⟩:=Qp.app (nid:=b.next) (tk:=.full) y tg Mt tS ow (λcs=>sV underlying137) (Mj num ks) (ys:=[Wm num l]) (by simp[Wm]) jS (by rw[u,Wv];unfold lim;simp;omega) (by rw[u];unfold lim;simp;omega);have E:ks.map (Wm num)++ [Wm num l]=(ks++ [l]).map (Wm num):=jS;rw[E]at t;have F:(g.new b.next (.row ((ks++ [l]).map (Wm num)).flatten)).at' nl=some (.row [d]):=by rw[zf ow,p _ y7,a _ ow,O]
 have w:yW prog 157 (.ptr nl 0) (.rs b.next 2 0 ((ks++ [l]).map (Wm num)).length) (g.new b.next (.row ((ks++ [l]).map (Wm num)).flatten))=some ((g.new b.next (.row ((ks++ [l]).map (Wm num)).flatten)).set nl (.row [.rs b.next 2 0 ((ks++ [l]).map (Wm num)).length])):=by
  rw[yN F Iy jS rfl rfl];rfl
 have W:(g.new b.next (.row ((ks++ [l]).map (Wm num)).flatten)).next=h.next+2:=by simp only[Heap.new];omega
 have J:=y.trunc (Mj num ks);have q:cpt uq (srt uq l)=dM l:=rfl;simp only[go_sem,q,T,B,J,t,w,eq_true k];refine⟨λi=>i=nl\/i=nr\/i=b.next,λi f=> ?_,⟨by simp only[yY];omega,λi f L=> ?_⟩,by simp only[yY];omega,by simp only[yY];omega,M,?_,_,zW _ _ _,.inr ⟨b.next,rfl,?_,?_,jS⟩,?_,?_,λi=>Iff.rfl⟩
 .rcases f with rfl|rfl|rfl
  .exact .inl (.inl rfl)
  .exact .inl (.inr (.inl rfl))
  .exact .inr ow
 .have Y:i≠nl:=λe=>L ((Q i).2 (.inl e))
  have Z:¬cT d i:=λe=>L ((Q i).2 (.inr (.inr e)));rw[zX Y,zf ow,p _ Z,a _ ow]
 .rw[zX (km M),zf ow,p _ y8,a _ ow,N]
 .rw[zX ow,z5]
 .simp only[yY];omega
 .simp only[cT];omega
 .simp only[cT];omega
def Gx{fn:D}{nl nr:Nat} :Fnd2 prog 5 194 [.ptr nl 0,.ptr nr 0] (YVf num fn nl nr):=by
 refine⟨λks S h c i a=> ?_,λks S h h' c t e=> ?_,λks S h l tk c s h0 q r=> ?_⟩
 .obtain⟨g,j,k,m,d,n,f,o,p,b⟩:=c
  rcases(b i).1 a with rfl|rfl|a
  .exact g
  .exact j
  .rcases f with⟨rfl,_⟩ | ⟨id,rfl,_,hid,_⟩
   .exact a.elim
   .simp only[cT]at a;omega
 .obtain⟨g,j,k,m,d,n,f,o,p,b⟩:=c
  exact⟨ow,ow,k,by rw[e nr ((b _).2 (.inr (.inl rfl)))];exact m,d,by rw[e nl ((b _).2 (.inl rfl))];exact n,f.loc t λi a=>e i ((b i).2 (.inr (.inr a))),o,p,b⟩
 .exact Bl s c (zy.1 h0) q tk
open Go.Proofs Go.Shelf Go.Sort
def zCQ{l m:List Int}{d e:D}(q:yZ 1 (wt l) d)(s:yZ 1 (wt m) e)(J:l.length<=1048576)(g:Heap):zD prog 236 [d,e] g λr h'=>h'=g/\r=.int .i64 (sQ l m):=by
 have y:=t8 q;have A:=t8 s;obtain⟨L,M,_⟩:=zw q;obtain⟨N,O,_⟩:=zw s;refine zj zFz ?_;simp only[f236,zA]
 repeat' first|simp only[go_sem, *]|apply bc<;>intro n
 refine qn (λi fr h'=>fr 0=d/\fr 1=e/\fr 9=d/\fr 10=.int .i64 l.length/\fr 11=.int .i64 (i:Int)/\h'=g/\i<=m.length/\sQ (l.drop i) (m.drop i)=sQ l m) l.length ?_ ?_
 .simp only[go_sem,zM,zV,zG]
  exact⟨yM _,rfl⟩
 rintro i fr h' I ⟨F,G,H,w,x,rfl,c,a⟩;by_cases f:i<l.length
 .have e1:decide ((i:Int)<(l.length:Int))=true:=zR ow
  have B:=lX q f;by_cases j:i>=m.length
  .have e2:decide ((i:Int)>=(m.length:Int))=true:=zR ow
   have hr:sQ l m=1:=by
    rw[yi f,tL j]at a;rw[<-a];rfl
   rw[hr];clear a hr c j;exact au
  .have e2:decide ((i:Int)>=(m.length:Int))=false:=zN ow
   have b:i<m.length:=ow;have C:=lX s b;rw[JS f b]at a;simp only[zE,zB f,zB b,zA]at a;have n:=Yr l[i] m[i] h';have E:IntKind.i64.wrap ((i:Int)+1)=((i+1:Nat):Int):=qH jL;generalize v:uq l[i] m[i]=z at *
   cases t:(z==0)with
   |true=>
    have h0:z=0:=by simpa using t
    rw[ip h0]at a;have u:i<l.length/\i+1<=m.length/\sQ (l.drop (i+1)) (m.drop (i+1))=sQ l m:=⟨f,b,a⟩;clear a c j v h0
    repeat' first|simp only[go_sem, *]|apply bc<;>intro n|(refine zD.mono n ?_;rintro r h ⟨K,rfl⟩)
   |false=>
    have h0:¬z=0:=by simpa using t
    rw[iq h0]at a;rw[<-a];clear a c j v h0
    repeat' first|simp only[go_sem, *]|apply bc<;>intro n|refine zD.use n ?_
 .have e1:decide ((i:Int)<(l.length:Int))=false:=zN ow
  have k:l.length<=i:=ow;rw[tL k]at a;cases o:decide ((l.length:Int)<(m.length:Int))with
  |true=>
   have p:=yE o;have hr:sQ l m= -1:=by
    rw[yi (show i<m.length by omega)]at a;rw[<-a];rfl
   rw[hr];clear a hr c k
   repeat' first|simp only[go_sem, *]|apply bc<;>intro n
  |false=>
   have p:=yA o;have hr:sQ l m=0:=by
    rw[tL ow]at a;rw[<-a];rfl
   rw[hr];clear a hr c k;exact au
structure Vio where
 row:Int
 facts:List Int
def Vio.Is(v:Vio)(cs:List D):Prop:=∃d,cs= [.int .i64 v.row,d]/\yZ 1 (wt v.facts) d/\v.facts.length<=1048576
def RQ(v w:Vio):Int:=orL [uq v.row w.row,sQ v.facts w.facts]
def Ty{v w:Vio}{cv b:List D}(n:v.Is cv)(o:w.Is b)(g:Heap):zD prog 198 [.agg cv,.agg b] g λr h'=>h'=g/\r=.int .i64 (RQ v w):=by
 obtain⟨d,rfl,c,a⟩:=n;obtain⟨e,rfl,f,k⟩:=o;have h1:=Yr v.row w.row;have i:=zCQ c f a;have h3:=zCW (l:=[uq v.row w.row,sQ v.facts w.facts]) (yZ.mk .full) jS;have p:=bs2 (uq v.row w.row) (sQ v.facts w.facts);obtain⟨q,s,_⟩:=zw c;obtain⟨t,u,_⟩:=zw f;have m:∀h:Heap,HLe h h:=λ_ _ _ e=>e;unfold RQ;refine zj zFm ?_;simp only[f198,zA]
 repeat' first|simp only[go_sem, *]|apply bc<;>intro j
 refine yq g (pwt [0,1,2,3,5] ((6,.st,true)::(pwt [7] ((8,.st,true)::(pwt [4,9,10,11,12] []))))) kr kr (λ_ _ e=>e) ?_
 repeat' first|simp only[go_sem, *]|apply bc<;>intro j|refine zD.use (h1 _) ?_|refine zD.use (i _) ?_|refine zD.use (h3 _) ?_
def Vio.Is.two{v:Vio}{cv:List D}(a:v.Is cv):yO true 2 cv 0=some (.agg cv):=by
 obtain⟨d,rfl,_⟩:=a;exact zJ rfl ow
def Kp{v w:Vio}{cv a:List D}(c:v.Is cv)(d:w.Is a)(g:Heap):zD prog 189 [.agg cv,.agg a] g λr h'=>h'=g/\r=.bool (RQ v w==0):=by
 have b:=Ty c d;have h1:=Vio.Is.two c;have e:=Vio.Is.two d;refine zj zFe ?_;simp only[f189,zA]
 repeat' first|simp only[go_sem, *]|apply bc<;>intro b|refine zD.use (b _) ?_
theorem kx:∀a b:List Int,sQ a b=Zl uq a b
 | [],[]=>rfl
 | [],_::_=>rfl
 |_::_,[]=>rfl
 |x::xs,y::ys=>by
  simp only[sQ,Zl,Rw,kx xs ys]
def Pn:QC sQ:=by
 have:=Xt.list;exact⟨λx y=>by rw[kx,kx];exact this.anti x y,λx y z=>by rw[kx,kx,kx];exact this.trans x y z⟩
def PH(x y:List Int)(h:sQ x y=0):x=y:=by
 rw[kx]at h;exact Ue JR _ _ h
def KA(num:Int)(x:List Int):List D:=[.int .i64 num,.sl 1 (wt x) .no]
def vbs(num:Int)(l:List (List Int)):List (List D):=l.map (KA num)
def pj(num:Int)(l:List (List Int)):(vbs num l).length=l.length:=zI ..
def lv(num:Int)(l:List (List Int)):∀x∈vbs num l,x.length=2:=λx a=>by
 obtain⟨y,_,rfl⟩:=zS.1 a;rfl
def TS(num:Int){x:List Int}(h:x.length<=1048576):(Vio.mk num x).Is (KA num x):=⟨_,rfl,yZ.mk .no,h⟩
def RR(num:Int)(x y:List Int):RQ ⟨num,x⟩ ⟨num,y⟩ =sQ x y:=by
 have h:uq num num=0:=Xt.refl num;simp only[RQ,orL,h,qF];split
 .rename_i q;exact q.symm
 .rfl
def AF{l:List (List Int)}(h0:l≠[])(v:l.length<=16777216)(a:∀x∈l,x.length<=1048576)(b:g.at' id=some (.row (vbs num l).flatten)):
  zD prog 197 [.rs id 2 0 l.length,.fn (.func 198) [] []] g λr h'=>r=.tuple []/\h'=g.set id (.row (vbs num (srt sQ l)).flatten):=by
 have:=zD.of_sortK (P:=prog) (f:=197) (cmp:=198) (k:=2) (cells:=KA num) (xs:=l) (id:=id) (pre:=[]) (post:=[]) (h:=g) (cf:=sQ) (mid:=[]) (midV:=[]) (λM ρ vs h=>by simpa [wG]using h) h0 ow (λx i=>rfl) kr (enters_of func198 kr rfl) (by simpa [vbs]using b) Pn.swo ow
  (λx i y t H=>by have:=Ty (TS num (a x i)) (TS num (a y t)) H;rw[RR]at this;exact this) (λα _ enc h1 j cf n g cb c off cap d w q p m o e u=>AnyQ.slices_SortFunc Tryz.sortVio 2 (isAgg137) (sizeOf137) enc h1 j cf n g cb c off cap d w q p m o e)
 refine this.mono λr h' ⟨e1,ys,s,e,e2⟩=>⟨e1,?_⟩;rw[e2,Mb Pn PH s e];simp[vbs]
theorem oZ{f:α->List D}{p:α->Prop} :∀{ys:List (List D)},(∀y∈ys,∃s,y=f s/\p s)->∃l:List α,ys=l.map f/\∀s∈l,p s
 | [],_=>⟨[],rfl,λn b=>by cases b⟩
 |y::ys,h=>by
  obtain⟨n,rfl,b⟩:=h y jS;obtain⟨ks,rfl,c⟩:=oZ (ys:=ys) λz d=>h z (z8 _ d);exact⟨n::ks,rfl,λm a=>by
   rcases z7.1 a with rfl|a
   .exact b
   .exact c m a⟩
def MZ{c:List D}(h:Shp prog k 45 c):∃d l,c= [d]/\yZ 1 (wg l) d/\l.length<=1048576:=by
 obtain⟨d,xs,j,e,m,b,_,a,g⟩:=nh underlying45 pK h;obtain⟨l,rfl,n⟩:=oZ (f:=λs:List UInt8=>[D.str s]) λy i=>tt underlying9 (g y i);rw[zI]at a;exact⟨d,l,e,b,a⟩
def U8{c:List D}(h:Shp prog k 30 c):∃d l,c= [d]/\yZ 1 (wt l) d/\l.length<=1048576:=by
 obtain⟨d,xs,j,e,m,b,_,a,g⟩:=nh underlying30 sG h;obtain⟨l,rfl,n⟩:=oZ (f:=λs:Int=>[D.int .i64 s]) λy i=>sx underlying3 (g y i);rw[zI]at a;exact⟨d,l,e,b,a⟩
def zAq{c:List D}(h:Shp prog k 117 c):∃n:Lic,c=n.cells/\n.Sm:=by
 obtain⟨j,_,hf⟩:=ui underlying117 h;obtain⟨m,r1,rfl,h1,hf⟩:=yQ hf;obtain⟨o,r2,rfl,e,hf⟩:=yQ hf;obtain⟨p,r3,rfl,h3,hf⟩:=yQ hf;obtain⟨q,r4,rfl,f,hf⟩:=yQ hf;obtain rfl:=rG hf;obtain⟨s1,rfl,a⟩:=tt underlying9 h1;obtain⟨s2,rfl,b⟩:=tt underlying9 e;obtain⟨g,rfl,l⟩:=sx underlying3 h3;obtain⟨i,rfl,d⟩:=tt underlying9 f;exact⟨⟨s1,s2,g,i⟩,rfl,a,b,d⟩
def zAo{c:List D}(h:Shp prog k 122 c):∃n:Exc,c=n.cells/\n.Ok:=by
 obtain⟨j,_,hf⟩:=ui underlying122 h;obtain⟨i,r1,rfl,h1,hf⟩:=yQ hf;obtain⟨m,r2,rfl,e,hf⟩:=yQ hf;obtain⟨o,r3,rfl,h3,hf⟩:=yQ hf;obtain rfl:=rG hf;obtain⟨s1,rfl,a⟩:=tt underlying9 h1;obtain⟨s2,rfl,g⟩:=tt underlying9 e;obtain⟨d,l,rfl,f,b⟩:=U8 h3;exact⟨⟨s1,s2,l,d⟩,rfl,f,b,a⟩
def zAm{c:List D}(h:Shp prog k 126 c):∃n:Cla,c=n.cells/\n.Ok:=by
 obtain⟨j,_,hf⟩:=ui underlying126 h;obtain⟨r,r1,rfl,h1,hf⟩:=yQ hf;obtain⟨s,r2,rfl,b,hf⟩:=yQ hf;obtain⟨t,r3,rfl,h3,hf⟩:=yQ hf;obtain⟨u,r4,rfl,e,hf⟩:=yQ hf;obtain⟨v,r5,rfl,h5,hf⟩:=yQ hf;obtain rfl:=rG hf;obtain⟨s1,rfl,m⟩:=tt underlying9 h1;obtain⟨s2,rfl,o⟩:=sx underlying3 b;obtain⟨g,rfl,p⟩:=sx underlying3 h3;obtain⟨i,rfl,q⟩:=sx underlying3 e;obtain⟨d,l,rfl,f,a⟩:=MZ h5;exact⟨⟨s1,s2,g,i,l,d⟩,rfl,f,a⟩
def zAj{c:List D}(h:Shp prog k 130 c):∃n:Apt,c=n.cells/\True:=by
 obtain⟨j,_,hf⟩:=ui underlying130 h;obtain⟨e,r1,rfl,h1,hf⟩:=yQ hf;obtain⟨f,r2,rfl,a,hf⟩:=yQ hf;obtain rfl:=rG hf;obtain⟨s1,rfl,b⟩:=tt underlying9 h1;obtain⟨s2,rfl,d⟩:=tt underlying9 a;exact⟨⟨s1,s2⟩,rfl,trivial⟩
def zAk{c:List D}(h:Shp prog k 27 c):∃n:Cat,uB n (.agg c)/\n.Sm:=by
 obtain⟨j,_,hf⟩:=ui underlying27 h;obtain⟨z,r1,rfl,h1,hf⟩:=yQ hf;obtain⟨A,r2,rfl,b,hf⟩:=yQ hf;obtain⟨B,r3,rfl,h3,hf⟩:=yQ hf;obtain⟨C,r4,rfl,d,hf⟩:=yQ hf;obtain rfl:=rG hf;obtain⟨l,I,E,rfl,_,q,_,e,h1⟩:=nh underlying22 jW h1;obtain⟨m,J,F,rfl,_,r,_,f,b⟩:=nh underlying23 WH b;obtain⟨o,K,G,rfl,_,s,_,g,h3⟩:=nh underlying24 gu h3;obtain⟨p,L,H,rfl,_,t,_,i,d⟩:=nh underlying25 TI d;obtain⟨u,rfl,k1⟩:=oZ λy a=>zAq (h1 y a);obtain⟨v,rfl,k2⟩:=oZ λy a=>zAo (b y a);obtain⟨w,rfl,k3⟩:=oZ λy a=>zAm (h3 y a);obtain⟨x,rfl,k4⟩:=oZ λy a=>zAj (d y a);rw[zI]at e f g i
 exact⟨⟨u,v,w,x⟩,⟨l,m,o,p,rfl,q,r,s,t⟩,⟨e,k1⟩,⟨f,k2⟩,⟨g,k3⟩,i⟩
theorem BB:∀{l:List Ex},(∀e∈l,e.Ok)->okL l
 | [],_=>by simp only[okL]
 |e::l,h=>by simp only[okL];exact⟨h e jS,BB λx a=>h x (z8 _ a)⟩
def zG4(k:Nat):∀{c:List D},Shp prog k 55 c->∃e:Ex,c=e.cells/\e.Ok:=by
 induction k using Nat.strongRecOn with
 |_ k p=>
 intro c h;obtain⟨j,x,hf⟩:=ui underlying55 h;obtain⟨t,r1,rfl,h1,hf⟩:=yQ hf;obtain⟨u,r2,rfl,i,hf⟩:=yQ hf;obtain⟨v,r3,rfl,h3,hf⟩:=yQ hf;obtain⟨w,r4,rfl,a,hf⟩:=yQ hf;obtain rfl:=rG hf;obtain⟨s1,rfl,s⟩:=sx underlying3 h1;obtain⟨s2,rfl,d⟩:=tt underlying9 i;obtain⟨r,rfl,f⟩:=tt underlying9 h3;obtain⟨g,A,m,rfl,z,o,_,b,a⟩:=nh underlying53 jq a;obtain⟨l,rfl,q⟩:=oZ λy n=>p m ow (a y n);rw[zI]at b;exact⟨.mk s1 s2 r l g,rfl,by simp only[Ex.Ok];exact⟨o,b,d,f,BB q⟩⟩
def zAp{c:List D}(h:Shp prog k 57 c):∃f:Fac,c=f.cells/\f.Ok0:=by
 obtain⟨j,_,hf⟩:=ui underlying57 h;obtain⟨C,r1,rfl,h1,hf⟩:=yQ hf;obtain⟨E,r2,rfl,m,hf⟩:=yQ hf;obtain⟨F,r3,rfl,h3,hf⟩:=yQ hf;obtain⟨G,r4,rfl,n,hf⟩:=yQ hf;obtain⟨H,r5,rfl,h5,hf⟩:=yQ hf;obtain⟨I,r6,rfl,o,hf⟩:=yQ hf;obtain⟨J,r7,rfl,p,hf⟩:=yQ hf;obtain⟨K,r8,rfl,q,hf⟩:=yQ hf;obtain⟨L,r9,rfl,r,hf⟩:=yQ hf;obtain rfl:=rG hf;obtain⟨s1,rfl,y⟩:=sx underlying3 h1;obtain⟨s2,rfl,a⟩:=tt underlying9 m;obtain⟨t,rfl,b⟩:=tt underlying9 h3;obtain⟨u,rfl,z⟩:=sx underlying3 n;obtain⟨v,rfl,A⟩:=sx underlying3 h5;obtain⟨w,rfl,B⟩:=sx underlying3 o;obtain⟨x,rfl⟩:=MX underlying4 p;obtain⟨e,rfl,g⟩:=zG4 _ q
 obtain⟨d,l,rfl,s,i⟩:=MZ r;exact⟨⟨s1,s2,t,u,v,w,x,e,l,d⟩,rfl,g,s,i,a,b⟩
def zAt{c:List D}(h:Shp prog k 137 c):∃v:Vio,v.Is c:=by
 obtain⟨j,_,hf⟩:=ui underlying137 h;obtain⟨g,r1,rfl,h1,hf⟩:=yQ hf;obtain⟨i,r2,rfl,b,hf⟩:=yQ hf;obtain rfl:=rG hf;obtain⟨s1,rfl,f⟩:=sx underlying3 h1;obtain⟨d,l,rfl,e,a⟩:=U8 b;exact⟨⟨s1,l⟩,d,rfl,e,a⟩
structure SA where
 M:KM Int
 O:KV
 outs:List (List UInt8)
def dX(fs:List Fac)(i:Nat):Nat:=((fs.take i).filter λf=>f.kind==1).length
def lW(y:Cho)(k:Nat):Alt:=y.ts.getD k (mkA [])
def jR(y:Cho)(k:Nat):List UInt8:=y.own.getD k []
def Fb(y:Cho)(fs:List Fac)(i:Nat)(s:SA):SA:=match fs[i]? with
 |none=>s
 |some f=>if(f.kind==1)=true then(if decide (((lW y (dX fs i)).ts.length:Int)>0)=true then⟨bV (i:Int) (lW y (dX fs i)).d s.M,s.O,s.outs⟩else s)
  else if(f.kind==2)=true then(if(s.outs.any λz=>z==f.out)=true then s else⟨s.M,if(!(jR y s.outs.length== []))=true then cJ f.out (jR y s.outs.length) s.O else s.O,s.outs++ [f.out]⟩)else s
def yt(y:Cho)(fs:List Fac):Nat->SA
 |0=>⟨[],[],[]⟩
 |i+1=>Fb y fs i (yt y fs i)
def alS(fs:List Fac)(y:Cho)(i:Nat):Option Alt:=match fs[i]? with
 |none=>none
 |some f=>if(f.kind==1)=true then(if decide (((lW y (dX fs i)).ts.length:Int)>0)=true then some (lW y (dX fs i))else none)else none
section
variable{y:Cho}{fs:List Fac}
def ml(h:i<fs.length):yt y fs (i+1)=if(fs[i].kind==1)=true then(if decide (((lW y (dX fs i)).ts.length:Int)>0)=true then⟨bV (i:Int) (lW y (dX fs i)).d (yt y fs i).M,(yt y fs i).O,(yt y fs i).outs⟩else yt y fs i)
  else if(fs[i].kind==2)=true then(if((yt y fs i).outs.any λz=>z==fs[i].out)=true then yt y fs i else⟨(yt y fs i).M,if(!(jR y (yt y fs i).outs.length== []))=true then cJ fs[i].out (jR y (yt y fs i).outs.length) (yt y fs i).O else(yt y fs i).O,(yt y fs i).outs++ [fs[i].out]⟩)else yt y fs i:=by
 show Fb y fs i (yt y fs i)=_;unfold Fb;rw[zB h]
def zCI(h:i<fs.length):alS fs y i=if(fs[i].kind==1)=true then(if decide (((lW y (dX fs i)).ts.length:Int)>0)=true then some (lW y (dX fs i))else none)else none:=by
 unfold alS;rw[zB h]
theorem Vl:∀k,k<=fs.length->∀j:Nat,dH (j:Int) (yt y fs k).M=if j<k then(alS fs y j).map Alt.d else none
 |0,_,j=>by simp[yt,dH]
 |k+1,g,j=>by
  have c:=Vl k ow j;have b:k<fs.length:=ow;have f:=zCI (y:=y) b;have key:dH (j:Int) (yt y fs (k+1)).M=if j=k then(alS fs y k).map Alt.d else dH (j:Int) (yt y fs k).M:=by
   rw[ml b,f];have a:j=k->dH (j:Int) (yt y fs k).M=none:=λe=>by rw[c,iq ow]
   split
   .split
    .rw[Rn]
     by_cases e:j=k
     .subst e;simp
     .have:((j:Int)==(k:Int))=false:=jO
      rw[this,iq e];simp
    .by_cases e:j=k
     .rw[ip e,a e];rfl
     .rw[iq e]
   .split
    .split
     .by_cases e:j=k
      .rw[ip e,a e];rfl
      .rw[iq e]
     .by_cases e:j=k
      .rw[ip e,a e];rfl
      .rw[iq e]
    .by_cases e:j=k
     .rw[ip e,a e];rfl
     .rw[iq e]
  rw[key,c];by_cases e:j=k
  .subst e;simp
  .rw[iq e]
   by_cases e2:j<k
   .rw[ip e2,ip ow]
   .rw[iq e2,iq ow]
def QE(h:i<fs.length):(yt y fs (i+1)).outs=(yt y fs i).outs\/∃o,(yt y fs (i+1)).outs=(yt y fs i).outs++ [o]:=by
 rw[ml h];split
 .split<;>exact .inl rfl
 .split
  .split
   .exact .inl rfl
   .exact .inr ⟨_,rfl⟩
  .exact .inl rfl
theorem IC{i:Nat} :∀k,i+k<=fs.length->(yt y fs i).outs.length<=(yt y fs (i+k)).outs.length
 |0,_=>zC _
 |k+1,h=>by
  have a:=IC (i:=i) k ow;rcases QE (y:=y) (fs:=fs) (i:=i+k) ow with e| ⟨o,e⟩
  .rw[<-qf,e];exact a
  .rw[<-qf,e,zQ];omega
theorem VN:∀k,k<=fs.length->(yt y fs k).outs.length<=k
 |0,_=>zC _
 |k+1,h=>by
  have a:=VN k ow;rcases QE (y:=y) (fs:=fs) (i:=k) ow with e| ⟨o,e⟩
  .rw[e];omega
  .rw[e,zQ,tX];omega
def Xc(h:i<fs.length):dX fs (i+1)=dX fs i+(if(fs[i].kind==1)=true then 1 else 0):=by
 unfold dX;rw[zP h,lD,zQ];congr 1;by_cases e:(fs[i].kind==1)=true<;>simp[e]
theorem Jt{i:Nat} :∀k,i+k<=fs.length->dX fs i<=dX fs (i+k)
 |0,_=>zC _
 |k+1,h=>by
  have a:=Jt (i:=i) k ow;rw[<-qf,Xc ow];omega
theorem VG:∀k,k<=fs.length->dX fs k<=k
 |0,_=>by simp[dX]
 |k+1,h=>by
  have a:=VG k ow;rw[Xc ow];split<;>omega
end
def rV:List Fac->List (List UInt8)->List (List UInt8)
 | [],o=>o
 |f::fs,o=>if(f.kind==1)=true then rV fs o else if(f.kind==2)=true then rV fs (if(o.any λz=>z==f.out)=true then o else o++ [f.out])else rV fs o
theorem lL:∀(l:List Fac)(f:Fac)(o:List (List UInt8)),rV (l++ [f]) o=rV [f] (rV l o)
 | [],f,o=>rfl
 |g::l,f,o=>by
  by_cases h1:(g.kind==1)=true
  .have e:∀m,rV (g::m) o=rV m o:=λm=>by rw[rV,ip h1]
   rw[yG,e,e,lL l f]
  .by_cases a:(g.kind==2)=true
   .have e:∀m,rV (g::m) o=rV m (if(o.any λz=>z==g.out)=true then o else o++ [g.out]):=λm=>by rw[rV,iq h1,ip a]
    rw[yG,e,e,lL l f]
   .have e:∀m,rV (g::m) o=rV m o:=λm=>by rw[rV,iq h1,iq a]
    rw[yG,e,e,lL l f]
theorem cX{y:Cho}{fs:List Fac} :∀k,k<=fs.length->(yt y fs k).outs=rV (fs.take k) []
 |0,_=>rfl
 |k+1,h=>by
  have a:k<fs.length:=ow;have b:=cX (y:=y) (fs:=fs) k ow;rw[zP a,lL,<-b,ml a];simp only[rV];split
  .split<;>rfl
  .split
   .split<;>rfl
   .rfl
theorem kS:∀{l:List Fac}{t:List (List (List Trm))}{o:List (List UInt8)},(dp c l t o).2.2=0->(dp c l t o).1.length=t.length+(l.filter λf=>f.kind==1).length/\(dp c l t o).2.1=rV l o
 | [],t,o,_=>⟨rfl,rfl⟩
 |f::fs,t,o,h=>by
  rw[dp]at h⊢;by_cases h1:(f.kind==1)=true
  .rw[ip h1]at h⊢
   by_cases a:(mZ c f.e==0)=true
   .rw[ip a]at h⊢
    obtain⟨b,d⟩:=kS h;refine⟨?_,by rw[d,rV,ip h1]⟩;rw[b,kZ (by exact h1)];simp only[zQ,zx,qD];omega
   .rw[iq a]at h
    exact absurd h (by simpa using a)
  .rw[iq h1]at h⊢
   by_cases a:(f.kind==2)=true
   .rw[ip a]at h⊢
    obtain⟨b,d⟩:=kS h;exact⟨by rw[b,pw (by exact h1)],by rw[d,rV,iq h1,ip a]⟩
   .rw[iq a]at h⊢
    obtain⟨b,d⟩:=kS h;exact⟨by rw[b,pw (by exact h1)],by rw[d,rV,iq h1,iq a]⟩
def Y6{l:List Fac}(h:(wb c l).2=0):l.length<=256:=by
 unfold wb at h;split at h
 .exact absurd h jD
 .split at h
  .exact absurd h jD
  .rename_i q
   have:¬((l.length:Int)>256):=by simpa using q
   omega
structure ChoiceOk(c:Cat)(fs:List Fac)(y:Cho):Prop where
 case:(wb c fs).2=0
 lic:dX fs fs.length=y.ts.length
 outs:(yt y fs fs.length).outs.length=y.own.length
 okk:∀a∈y.ts,a.ts≠[]->a.Ok/\a.ts.length<=64
variable{fs:List Fac}
def RN{y:Cho}{p:Bool}(h:qN c fs y p=0)(r:y.Sm):ChoiceOk c fs y:=by
 unfold qN at h;split at h
 .rename_i q
  rw[h]at q;exact absurd q jD
 .rename_i B
  have v0:(yV c fs).2.2=0:=by simpa using B
  split at h
  .exact absurd h jD
  .rename_i n
   split at h
   .rename_i q
    rw[h]at q;exact absurd q jD
   .rename_i C
    have o:gT (my (yV c fs).1 y.ts p) y.ts.length=0:=by simpa using C
    have m:=pM (c:=c) (l:=fs);unfold yV at v0 n o m;by_cases j:(!((wb c fs).2==0))=true
    .rw[ip j]at v0
     rw[v0]at j;exact absurd j jD
    .rw[iq j]at v0 n o m
     obtain⟨v,w⟩:=kS v0;have u:(dp c fs [] []).1.length=y.ts.length/\(dp c fs [] []).2.1.length=y.own.length:=by
      simp only[yn,qI,yv,ne_eq,bg,Decidable.not_not]at n;omega
     refine⟨by simpa using j,?_,?_,λa s g=> ?_⟩
     .rw[<-u.1,v]
      simp[dX]
     .rw[cX _ (zC _),yC,<-w]
      exact u.2
     .obtain⟨i,t,rfl⟩:=zz.1 s
      have:=bQ o i t;unfold my at this;rw[zB t]at this;simp only at this;have A:(((y.ts[i].ts.length:Int))==0)=false:=by
       have:=zy.2 g;simp;omega
      rw[A,pD,iq jD]at this;split at this
      .exact absurd this jD
      .rename_i q
       have d:((dp c fs [] []).1.getD i []).any (λb=>RX y.ts[i].ts b)=true:=by simpa using q
       obtain⟨b,f,x⟩:=yu.1 d;have e:=(jC _ _).1 x;have key:y.ts[i].ts.length<=64->y.ts[i].Ok/\y.ts[i].ts.length<=64:=λq=>⟨⟨(r.ts _ s).sl,g,ow⟩,q⟩;refine key ?_;rw[e];rw[zE]at f;cases k:(dp c fs [] []).1[i]? with
       |none=>rw[k]at f;cases f
       |some z=>
        rw[k]at f;have:=((m z (zh k)).2.ts b f).2;omega
structure CIn(c:Cat)(fs:List Fac)(y:Cho)(d x yd:D):Prop where
 cat:uB c d
 sm:c.Sm
 x:yZ 12 (sL fs) x
 len:fs.length<=1048576
 few:fs.length<=24\/256<fs.length
 ok:∀f∈fs,f.Ok
 cho:V7 y yd
 ysm:y.Sm
section
variable{c:Cat}{fs:List Fac}{y:Cho}{d x yd:D}(I:CIn c fs y d x yd)
include I
def CIn.check(p:Bool)(g:Heap):zD prog 74 [d,x,yd,.bool p] g λr h'=>h'=g/\r=.int .i64 (qN c fs y p):=UH I.cat I.sm I.x I.len I.ok I.cho I.ysm p g
def CIn.n16{p:Bool}(h:qN c fs y p=0):fs.length<=24:=by
 have:=Y6 (RN h I.ysm).case;rcases I.few with q|q
 .exact q
 .omega
end
variable{c:Cat}{d:D}{fs:List Fac}
def PG{l:List Fac}(h:(wb c l).2=0):rt c=0:=by
 unfold wb at h;by_cases h1:(!(rt c==0))=true
 .rw[ip h1]at h
  exact absurd h jD
 .simpa using h1
theorem LC{l:List (List Int)}(h0:l≠[])(hl:l.length<=16777216)(ag:∀x∈l,x.length<=1048576)(J:g.at' id=some (.row (vbs num l).flatten)):
  zD prog 199 [.rs id 2 0 l.length,.fn (.func 189) [] []] g λr h'=>r=.rs id 2 0 (cpt sQ l).length/\∃rest,h'=g.set id (.row ((vbs num (cpt sQ l)).flatten++rest)):=by
 have a7:=λ(h:Heap)=>oz (P:=prog) (t:=157) (sz:=2) (id:=id) (off:=0) (len:=l.length) (h:=h) underlying157;have u:0<l.length:=zy.2 h0;have heq:∀x∈l,∀y∈l,∀H,zD prog 189 [.agg (KA num x),.agg (KA num y)] H λr h'=>h'=H/\r=.bool (sQ x y==0):=λx S y T H=>by
  have:=Kp (TS num (ag x S)) (TS num (ag y T)) H;rw[RR]at this;exact this
 have b:∀n,n<=l.length->(∀i (h:i+1<l.length),i+1<n->(sQ l[i+1] l[i]==0)=false)->ur sQ l n=l.take n:=λn hn hh=>by
  induction n with
  |zero=>rfl
  |succ n ih=>
   cases n with
   |zero=>rw[bJ u,kg];simp[tM,u]
   |succ k=>
    rw[nJ ow,iq (by rw[hh k ow ow];exact zd),ih ow λi h1 L=>hh i h1 ow];exact(zP ow).symm
 refine xP λQ W=> ?_;have a:(∀i (h:i+1<l.length),i+1<l.length->(sQ l[i+1] l[i]==0)=false)->Q (.rs id 2 0 l.length) g:=λhh=>W _ _ (by
  have e:cpt sQ l=l:=by
   have:=b l.length (zC _) hh;rw[yC]at this;exact this
  rw[e];exact⟨rfl,[],by rw[yK,sC J]⟩)
 refine zj zAJ ?_;simp only[f199,zA];cases q1:decide ((l.length:Int)<2)with
 |true=>
  have hd:=a λi h1 L=>by have:=yE q1;omega
  clear a W
  repeat' first|simp only[go_sem, *]|apply bc<;>intro A
 |false=>
 repeat' first|simp only[go_sem, *]|apply bc<;>intro A
 refine qn (λi fr h=>fr 0=.rs id 2 0 l.length/\fr 1=.fn (.func 189) [] []/\fr 5=.int .i64 ((i+1:Nat):Int)/\h=g/\i+1<=l.length/\∀j (h:j+1<l.length),j+1<i+1->(sQ l[j+1] l[j]==0)=false) l.length ?_ ?_
 .simp only[go_sem,zM,zV,zG]
  exact⟨rfl,u,λj h1 L=>by omega⟩
 rintro i fr k0 hi ⟨f0,f1,f5,rfl,ad,U⟩;by_cases s:i+1<l.length
 .have e1:decide (((i+1:Nat):Int)<(l.length:Int))=true:=zR ow
  have ew:IntKind.i64.wrap (((i+1:Nat):Int)+1)=((i+2:Nat):Int):=qH jL;have V:IntKind.i64.wrap (((i+1:Nat):Int)-1)=((i:Nat):Int):=by rw[qP ow ow];omega
  have a1:=qX (P:=prog) (sz:=2) (id:=id) tg tS (k:=.i64) s;have a2:=qX (P:=prog) (sz:=2) (id:=id) tg tS (k:=.i64) (show i<l.length by omega);have p1:=o5 (lv num l) ow (show(vbs num l)[i+1]? =some (KA num l[i+1]) by simp[vbs,s]);have p2:=o5 (lv num l) ow (show(vbs num l)[i]? =some (KA num l[i]) by simp[vbs,show i<l.length by omega]);have hq:=heq l[i+1] (zH s) l[i] (zH ow) k0;cases q:(sQ l[i+1] l[i]==0)with
  |false=>
   rw[q]at hq;have hn:∀j (h:j+1<l.length),j+1<i+2->(sQ l[j+1] l[j]==0)=false:=λj h1 L=>by
    by_cases e:j=i
    .subst e;exact q
    .exact U j h1 ow
   clear U a b q1 h0 q heq
   repeat' first|simp only[go_sem, *]|apply bc<;>intro A
   refine yJ kr ?_
   repeat' first|simp only[go_sem, *]|apply bc<;>intro A|(refine zD.mono hq ?_;rintro r h ⟨O,rfl⟩)
   exact⟨ow,s,hn⟩
  |true=>
   rw[q]at hq;have E:ur sQ l (i+2)=l.take (i+1):=by
    rw[nJ s,ip q,b (i+1) ow λj h1 L=>U j h1 L]
   have ak:=pn (P:=prog) (t:=157) (sz:=2) (id:=id) (h:=k0) UC tg tS (k:=.i64) ad;clear U a b q1 h0 q
   repeat' first|simp only[go_sem, *]|apply bc<;>intro A
   refine yJ kr ?_
   repeat' first|simp only[go_sem, *]|apply bc<;>intro A|(refine zD.mono hq ?_;rintro r h ⟨O,rfl⟩)
   refine qn (λm fr h'=>fr 0=.rs id 2 0 l.length/\fr 1=.fn (.func 189) [] []/\fr 6=.rs id 2 ((i+1)*2) (l.length- (i+1))/\fr 7=.int .i64 ((m+1:Nat):Int)/\i+1+(m+1)<=l.length/\∃ys:List (List Int),ys.length=l.length/\h'=k0.set id (.row (vbs num ys).flatten)/\
    (ur sQ l (i+2+m)).length<=i+1+m/\fr 5=.int .i64 (((ur sQ l (i+2+m)).length:Nat):Int)/\ys.take (ur sQ l (i+2+m)).length=ur sQ l (i+2+m)/\ys.drop (i+1+m)=l.drop (i+1+m)) l.length ?_ ?_
   .have B:(ur sQ l (i+2)).length=i+1:=by rw[E,yB];omega
    have C:ur sQ l (i+2+0)=ur sQ l (i+2):=rfl;have v:i+1+(0+1)<=l.length/\∃ys:List (List Int),ys.length=l.length/\k0=k0.set id (.row (vbs num ys).flatten)/\
     (ur sQ l (i+2+0)).length<=i+1+0/\D.int .i64 ((i+1:Nat):Int)=.int .i64 (((ur sQ l (i+2+0)).length:Nat):Int)/\ys.take (ur sQ l (i+2+0)).length=ur sQ l (i+2+0)/\ys.drop (i+1+0)=l.drop (i+1+0):=
     ⟨ow,l,rfl,(sC J).symm,by rw[C,B];omega,by rw[C,B],by rw[C,B,E],rfl⟩
    clear B C E;simp only[go_sem,zM,zV,zG];obtain⟨r0,ys,r1,r2,r3,r4,r5,r6⟩:=v;exact⟨f0,f1,rfl,r0,ys,r1,r2,r3,f5.trans r4,r5,r6⟩
   clear E ak hq p1 p2 a1 a2 f0 f1 f5 e1 ew V;rintro m a9 L hm ⟨f0,f1,f6,f7,ba,ys,G,rfl,N,f5,o,f⟩;have w:(k0.set id (.row (vbs num ys).flatten)).at' id=some (.row (vbs num ys).flatten):=zW _ _ _;have a4:=λ(H:Heap)=>oz (P:=prog) (t:=157) (sz:=2) (id:=id) (off:=(i+1)*2) (len:=l.length- (i+1)) (h:=H) underlying157;by_cases ai:m+1<l.length- (i+1)
   .have e1:decide (((m+1:Nat):Int)<((l.length- (i+1):Nat):Int))=true:=zR ow
    have ew:IntKind.i64.wrap (((m+1:Nat):Int)+1)=((m+2:Nat):Int):=qH jL;have V:IntKind.i64.wrap (((m+1:Nat):Int)-1)=((m:Nat):Int):=by rw[qP ow ow];omega
    have a1:=sr (P:=prog) (sz:=2) (id:=id) (off:=(i+1)*2) tg tS (k:=.i64) ai;have a2:=sr (P:=prog) (sz:=2) (id:=id) (off:=(i+1)*2) tg tS (k:=.i64) (show m<l.length- (i+1) by omega);obtain⟨x,S⟩:∃x,l[i+1+m+1]? =some x:=⟨_,zB ow⟩;obtain⟨y,T⟩:∃y,l[i+1+m]? =some y:=⟨_,zB ow⟩;have g1:ys[i+1+(m+1)]? =some x:=by
     have:=congrArg (λz=>z[1]?) f;simp only[yy]at this;rw[show i+1+(m+1)=i+1+m+1 by omega,this,S]
    have g2:ys[i+1+m]? =some y:=by
     have:=congrArg (λz=>z[0]?) f;simp only[yy,qo]at this;rw[this,T]
    have cg:∀(k:Nat)(x:List Int),ys[k]? =some x->(vbs num ys)[k]? =some (KA num x):=λk x e=>by simp[vbs,e]
    have p1:=jb (lv num ys) ow (cg _ _ g1);have p2:=jb (lv num ys) ow (cg _ _ g2);have d:ur sQ l (i+2+(m+1))=if(sQ x y==0)=true then ur sQ l (i+2+m)else ur sQ l (i+2+m)++ [x]:=by
     have:=PJ (c:=sQ) S T;rw[show i+2+(m+1)=i+1+m+2 by omega,this,show i+2+m=i+1+m+1 by omega]
    have p:∀zs:List (List Int),zs.drop (i+1+m)=l.drop (i+1+m)->zs.drop (i+1+(m+1))=l.drop (i+1+(m+1)):=λzs e=>by
     have:=congrArg (List.drop 1) e;simpa [uC,qf]using this
    generalize hR:ur sQ l (i+2+m)=R at *
    have F:=heq x (zh S) y (zh T) (k0.set id (.row (vbs num ys).flatten));cases q:(sQ x y==0)with
    |true=>
     rw[q]at F;rw[ip q]at d;have v:m<l.length/\i+1+(m+1+1)<=l.length/\∃zs:List (List Int),zs.length=l.length/\k0.set id (.row (vbs num ys).flatten)=k0.set id (.row (vbs num zs).flatten)/\
      (ur sQ l (i+2+(m+1))).length<=i+1+(m+1)/\D.int .i64 ((R.length:Nat):Int)=.int .i64 (((ur sQ l (i+2+(m+1))).length:Nat):Int)/\zs.take (ur sQ l (i+2+(m+1))).length=ur sQ l (i+2+(m+1))/\zs.drop (i+1+(m+1))=l.drop (i+1+(m+1)):=
      ⟨ow,ow,ys,G,rfl,by rw[d];omega,by rw[d],by rw[d];exact o,p _ f⟩
     clear o f p d g1 g2 cg S T hR N q
     repeat' first|simp only[go_sem, *]|apply bc<;>intro A
     refine yJ kr ?_
     repeat' first|simp only[go_sem, *]|apply bc<;>intro A|(refine zD.mono F ?_;rintro r h ⟨O,rfl⟩)
    |false=>
     rw[q]at F;rw[iq (by rw[q];exact zd)]at d;have X:R.length<l.length:=ow;have a3:=qX (P:=prog) (sz:=2) (id:=id) tg tS (k:=.i64) X;have a5:=cj (P:=prog) (t:=137) w (lv num ys) ow tS (i:=R.length) (by rw[pj,G];exact X) (x:=KA num x) rfl rfl;have K:(vbs num ys).set R.length (KA num x)=vbs num (ys.set R.length x):=by rw[vbs,vbs,tC]
     rw[K,mi]at a5;have a8:IntKind.i64.wrap (((R.length:Nat):Int)+1)=((R.length+1:Nat):Int):=qH jL;have v:m<l.length/\i+1+(m+1+1)<=l.length/\∃zs:List (List Int),zs.length=l.length/\k0.set id (.row (vbs num (ys.set R.length x)).flatten)=k0.set id (.row (vbs num zs).flatten)/\
      (ur sQ l (i+2+(m+1))).length<=i+1+(m+1)/\D.int .i64 ((R.length+1:Nat):Int)=.int .i64 (((ur sQ l (i+2+(m+1))).length:Nat):Int)/\zs.take (ur sQ l (i+2+(m+1))).length=ur sQ l (i+2+(m+1))/\zs.drop (i+1+(m+1))=l.drop (i+1+(m+1)):=by
      have M:(R++ [x]).length=R.length+1:=jS;refine⟨ow,ow,ys.set R.length x,by simpa using G,rfl,by rw[d,M];omega,by rw[d,M],?_,?_⟩
      .rw[d,M,zP (by rw[uE];omega),nE,mM (zC _),o]
      .rw[mK ow];exact p _ f
     clear o f p d g1 g2 cg S T hR N q K
     repeat' first|simp only[go_sem, *]|apply bc<;>intro A
     refine yJ kr ?_
     repeat' first|simp only[go_sem, *]|apply bc<;>intro A|(refine zD.mono F ?_;rintro r h ⟨O,rfl⟩)
   .have e1:decide (((m+1:Nat):Int)<((l.length- (i+1):Nat):Int))=false:=zN ow
    have aj:i+2+m=l.length:=ow;have Y:ur sQ l (i+2+m)=cpt sQ l:=by rw[aj];rfl
    rw[Y]at o f5 N;have I:(cpt sQ l).length<=l.length:=jA _;have ak:=λ(H:Heap)=>pn (P:=prog) (t:=157) (sz:=2) (id:=id) (h:=H) UC tg tS (k:=.i64) I;have bb:=λ(H:Heap)=>nT (P:=prog) (t:=157) (h:=H) UC tg (id:=id) (sz:=2) tS (k:=.i64) I;obtain⟨rest,Z⟩:=WM (P:=prog) (sz:=2) (t:=157) tg fK rfl rfl w (lv num ys) (n:=(cpt sQ l).length) (by rw[pj];omega);have a0:(vbs num ys).take (cpt sQ l).length=vbs num (cpt sQ l):=by rw[vbs,<-ka,o];rfl
    rw[a0,mi,pj,G]at Z;have a6:=W (.rs id 2 0 (cpt sQ l).length) (k0.set id (.row ((vbs num (cpt sQ l)).flatten++rest))) ⟨rfl,rest,rfl⟩;clear o f aj Y a0 W;exact au
 .have e1:decide (((i+1:Nat):Int)<(l.length:Int))=false:=zN ow
  have hd:=a λj h1 L=>U j h1 ow;clear U a b q1 h0 W;exact au
def Bo(g:Heap):zD prog 303 [.nilsl,.int .i64 0,.int .i64 0,.fn (.func 198) [] []] g λ_ h'=>h'=g:=by
 have f:IntKind.i64.wrap (0+1)=1:=rfl;have c:decide ((1:Int)<0)=false:=rfl;refine zj zGE ?_;simp only[f303,zA];simp only[go_sem, *];refine qn (λj fr a=>fr 2=.int .i64 0/\fr 8=.int .i64 1/\a=g) 0 ?_ ?_
 .simp only[go_sem,zM,zV,zG]
 rintro j b a _ ⟨d,e,rfl⟩;exact au
def By(m:Int)(g:Heap):zD prog 235 [.nilsl,.int .i64 0,.int .i64 0,.int .i64 m,.fn (.func 198) [] []] g λ_ h'=>h'=g:=by
 have k:IntKind.i64.wrap (0-0)=0:=rfl;have c:decide ((0:Int)<=12)=true:=rfl;have i:=Bo;refine zj zFy ?_;simp only[f235,zA];simp only[go_sem, *];refine qn (λj fr a=>fr 0=.nilsl/\fr 1=.int .i64 0/\fr 2=.int .i64 0/\fr 4=.fn (.func 198) [] []/\a=g) 0 ?_ ?_
 .simp only[go_sem,zM,zV,zG]
 rintro j b a _ ⟨d,e,f,h,rfl⟩;exact au
def Gh(g:Heap):zD prog 197 [.nilsl,.fn (.func 198) [] []] g λ_ h'=>h'=g:=by
 have b:o8 prog 3 299 (.int .i64 0)=some (.int .u64 0):=kr;have a:=Tv (n:=0) ow;have e:=λm=>By m;have d:∀h,o9 prog 157 .nilsl h=some (.int .i64 0):=λh=>wL (yZ.nil (sz:=2)) underlying157;simp only[zG]at a;refine zj zFl ?_;simp only[f197,zA]
 repeat' first|simp only[go_sem, *]|apply bc<;>intro c|refine zD.use (a _) ?_
def Q2(g:Heap):zD prog 199 [.nilsl,.fn (.func 189) [] []] g λr h'=>h'=g/\r=.nilsl:=by
 have b:∀h,o9 prog 157 .nilsl h=some (.int .i64 0):=λh=>wL (yZ.nil (sz:=2)) underlying157;have a:decide ((0:Int)<2)=true:=rfl;refine zj zAJ ?_;simp only[f199,zA];exact au
def Q3{l:List (List Int)}(h0:l≠[])(c:l.length<=16777216)(b:∀x∈l,x.length<=1048576)(a:g.at' id=some (.row (vbs num l).flatten)):
  zD prog 199 [.rs id 2 0 l.length,.fn (.func 189) [] []] g λr h'=>h'=g.del id/\r=.sl 2 (vbs num (cpt sQ l)) .no:=
 zD.freezeD ((LC h0 c b a).mono (by
  rintro r h' ⟨rfl,rest,rfl⟩;exact⟨id,_,zW _ _ _,by rw[PM],XN (lv num _) (pj num _) rfl⟩))
def IV(s:D):Nat->D
 |0=>.fn (.func 227) [s] []
 |1=>.fn (.func 228) [s] []
 |2=>.fn (.func 229) [s] []
 |3=>.fn (.func 230) [s] []
 |4=>.fn (.func 231) [s] []
 |_=>.fn (.func 232) [s] []
def cS(c:Cat)(fs:List Fac)(al:Nat->Option Alt)(O:KV):Nat->List (List Int)
 |0=>(qv fs al).flatMap (sS c fs al)
 |1=>(qv fs al).flatMap (ph c fs al O)
 |2=>(qv fs al).flatMap (gU c fs al)
 |3=>(qv fs al).flatMap (rq c fs al)
 |4=>(dL fs).flatMap (lh fs O)
 |_=>ZA c fs
def sU(s:D)(i:Nat):List D:=[.int .i64 (i:Int),IV s i]
def zBf(s:D):List (List D):=[sU s 0,sU s 1,sU s 2,sU s 3,sU s 4,sU s 5]
def FR(s:D):∀i,i<6->(zBf s)[i]? =some (sU s i)
 |0,_=>rfl
 |1,_=>rfl
 |2,_=>rfl
 |3,_=>rfl
 |4,_=>rfl
 |5,_=>rfl
 |n+6,h=>by omega
def av:∀{a:List D},a.length=2->∃x y,a= [x,y]
 | [x,y],_=>⟨x,y,rfl⟩
def zCa(sc:List D)(h:Heap):zD prog 193 [.iptr sc 0] h λr h'=>h'=h/\r=.sl 2 (zBf (.iptr sc 0)) .full:=by
 refine zj zFi ?_;simp only[f193,zA];have g:∀(i:Int)(f:FuncId),qW prog 271 [(0,.int .i64 i),(1,.fn (.func f) [.iptr sc 0] [])]=some (.agg [.int .i64 i,.fn (.func f) [.iptr sc 0] []]):=λi f=>by
  simp[qW,Pk,Qm,ua,wS,D.cells,D.notTuple]
 have n:∀a b c d e f:List D,a.length=2->b.length=2->c.length=2->d.length=2->e.length=2->f.length=2->yD prog false h.next 267 6 [(0,.agg a),(1,.agg b),(2,.agg c),(3,.agg d),(4,.agg e),(5,.agg f)] h=some (.sl 2 [a,b,c,d,e,f] .full,h):=λa b c d e f j g k l m hf=>by
  obtain⟨o,p,rfl⟩:=av j;obtain⟨q,s,rfl⟩:=av g;obtain⟨t,u,rfl⟩:=av k;obtain⟨v,w,rfl⟩:=av l;obtain⟨e1,e2,rfl⟩:=av m;obtain⟨x,y,rfl⟩:=av hf;simp[yD,RV,Qm,P3,D.notTuple,D.cells,mw,ua,wS,wK,lim]
 simp only[go_sem,g];rw[n _ _ _ _ _ _ rfl rfl rfl rfl rfl rfl];simp only[go_sem];rfl
def zJU{M:KM Int}{O:KV}{m1 m2:Nat}(e:Stt c fs al M O sc m1 m2)(d:fs.length<=24)
  {h:FuncId} {Y:List (List Int)->(Nat->Prop)->Heap->Prop} (y:Fnd2 prog 5 h cap Y) {w:Heap} (b:Y [] S w) (a:StH M O m1 m2 w) (f:¬S m1) (g:¬S m2):∀i,i<6->
  ZY prog (IV (.iptr sc 0) i) [.fn (.func h) [] cap] w λ_ h'=>∃S',(∀i,S' i->S i\/w.next<=i)/\But S w h'/\Y (cS c fs al O i) S' h':=by
 intro i j;rcases i with _|_|_|_|_|_|i
 .exact GK e d y b a f g
 .exact B9 e d y b a f g
 .exact zCS e d y b a f g
 .exact Bg e d y b a f g
 .exact zCU e d y b a f g
 .exact zCV e d y b a f g
 .omega
def kP(c:Cat)(fs:List Fac)(al:Nat->Option Alt)(O:KV)(i:Nat):List (List Int):=cpt sQ (srt sQ ((cS c fs al O i).map dM))
def Hl(c:Cat)(fs:List Fac)(al:Nat->Option Alt)(O:KV)(i:Nat):D:=if cS c fs al O i= []then .nilsl else .sl 2 (vbs (i:Int) (kP c fs al O i)) .no
def FQ{O:KV}(b:fs.length<=24)(i:Nat):(cS c fs al O i).length<=16777216:=by
 have d:=ov (al:=al) b;have a:∀{α:Type}{l:List α}{f:α->List (List Int)}{m n:Nat},l.length<=n->(∀x∈l,(f x).length<=m)->n*m<=16777216->(l.flatMap f).length<=16777216:=λh1 e h3=>zb (tJ e) (zb (yg _ h1) h3);unfold cS;split
 .exact a (m:=1) d (λt _=>by unfold sS;split<;>simp) ow
 .exact a (m:=1) d (λt _=>by
   unfold ph;split
   .simp
   .split<;>simp) ow
 .exact a (m:=24) d (λt _=>XZ c b al t) ow
 .exact a (m:=4096) d (λt _=>aY c b al t) ow
 .exact a (m:=24) (n:=24) (zb (tK _ fs 0) b) (λt _=>Xm b O t) ow
 .unfold ZA
  split
  .simp
  .exact a (m:=1) (n:=24) (zb (tK _ fs 0) b) (λt _=>zC _) ow
def R7(l:List Int):(dM l).length<=l.length:=zb (jA _) (Nat.le_of_eq (sD l).length_eq)
def QO{O:KV}(i:Nat):∀l∈cS c fs al O i,l.length<=5:=by
 intro l a;unfold cS at a;split at a
 .obtain⟨t,_,h⟩:=zt.1 a
  unfold sS at h;split at h
  .rw[zo.1 h];simp
  .cases h
 .obtain⟨t,_,h⟩:=zt.1 a
  unfold ph at h;split at h
  .cases h
  .split at h
   .rw[zo.1 h];simp
   .cases h
 .obtain⟨t,_,h⟩:=zt.1 a
  obtain⟨k,_,h⟩:=zt.1 h;unfold cL at h;split at h
  .rw[zo.1 h];simp
  .cases h
 .obtain⟨t,_,h⟩:=zt.1 a
  unfold rq at h;split at h
  .obtain⟨r,_,h⟩:=zt.1 h
   unfold nc at h;split at h
   .rw[zo.1 h];simp
   .cases h
  .cases h
 .obtain⟨t,_,h⟩:=zt.1 a
  unfold lh at h;split at h
  .cases h
  .split at h
   .cases h
   .obtain⟨r,_,h⟩:=zt.1 h
    rw[zo.1 h];simp
 .unfold ZA at a
  split at a
  .cases a
  .obtain⟨r,_,h⟩:=zt.1 a
   rw[zo.1 h];simp
def Mk(sc:List D):D:=.fn (.func 192) [] [.iptr [.iptr sc 0] 0]
def Zd(sc:List D)(g:Heap):zD prog 130 [.iptr sc 0] g λr h'=>h'=g/\r=Mk sc:=by
 refine zj zFM ?_;simp only[f130,zA];simp only[go_sem,Mk, *]
def HD(num:Int)(l:List (List Int)):l.map (Wm num)=vbs num (l.map dM):=by
 unfold vbs;rw[wB];rfl
theorem bF{M:KM Int}{O:KV}{m1 m2:Nat}(hs:Stt c fs al M O sc m1 m2)(hn:fs.length<=24){Y:Nat->(Nat->Prop)->Heap->Prop}{Z:(Nat->Prop)->Heap->Prop}(y:Yld prog id 6 (λi=>[Hl c fs al O i]) Y Z){w:Heap}(hY:Y 0 S w)(v:StH M O m1 m2 w)(n1:¬S m1)(n2:¬S m2):
  zD prog 192 [.yld id,.iptr [.iptr sc 0] 0] w λ_ h'=>∃S',(∀j,S' j->S j\/w.next<=j)/\But S w h'/\(Y 6 S' h'\/Z S' h'):=by
 have V:=zCa sc;have a7:∀h,o9 prog 267 (.sl 2 (zBf (.iptr sc 0)) .full) h=some (.int .i64 6):=λh=>wL (yZ.mk (sz:=2) (xs:=zBf (.iptr sc 0)) .full) underlying267;refine zj zFh ?_;simp only[f192,zA]
 repeat' first|simp only[go_sem, *]|apply bc<;>intro hc|(refine zD.mono (V _) ?_;rintro r h ⟨u,rfl⟩)
 subst u
 rename Heap=>w
 refine qn (λi fr h'=>fr 0=.yld id/\fr 1=.iptr [.iptr sc 0] 0/\fr 7=.sl 2 (zBf (.iptr sc 0)) .full/\fr 8=.int .i64 6/\fr 9=.int .i64 (i:Int)/\∃S',(∀j,S' j->S j\/w.next<=j)/\But S w h'/\Y i S' h') 6 ?_ ?_
 .have G:∃S',(∀j,S' j->S j\/w.next<=j)/\But S w w/\Y 0 S' w:=⟨S,λj n=>.inl n,But.refl S w,hY⟩
  simp only[go_sem,zM,zV,zG];exact G
 rintro i fr h1 K ⟨I,f1,f7,f8,f9,S',J,b,t⟩;by_cases o:i<6
 .have e1:decide ((i:Int)<6)=true:=zR ow
  have ew:IntKind.i64.wrap ((i:Int)+1)=((i+1:Nat):Int):=qH jL;have hw:yO true 2 (sU (.iptr sc 0) i) 0=some (.agg (sU (.iptr sc 0) i)):=zJ rfl ow;have G:∀(h:Heap)(id:Nat),yW prog 271 (.ptr id 0) (.agg (sU (.iptr sc 0) i)) (h.new id (.row [.int .i64 0,.nilfn]))=some (h.new id (.row (sU (.iptr sc 0) i))):=λh id=>ym P3 ow rfl rfl (by rcases i with _|_|_|_|_|i<;>rfl);have ha:yc prog 267 (.sl 2 (zBf (.iptr sc 0)) .full) (.int .i64 (i:Int))=some (.iptr (sU (.iptr sc 0) i) 0):=yR (yZ.mk (sz:=2) _) RV P3 (FR _ _ o);have aj:(sU (.iptr sc 0) i)[1]? =some (IV (.iptr sc 0) i):=rfl;have a6:=b.1
  obtain⟨H,ad,a5,a2,a1,hE⟩:∃H:Heap,(h1.new h1.next (.row (sU (.iptr sc 0) i))).new (h1.next+1) (.row [.nilsl])=H/\H.next=h1.next+2/\H.at' h1.next=some (.row (sU (.iptr sc 0) i))/\H.at' (h1.next+1)=some (.row [.nilsl])/\Ext h1 H:=
   ⟨_,rfl,qG _ (by rw[za];exact zC _) _,by rw[zf ow,z5],z5 _ _ _,((Ext.refl h1).new (zC _) _).new ow _⟩
  have m:But S w H:=b.trans (hE.but S) λi K=>.inl K;have B:StH M O m1 m2 H:=⟨⟨by rw[m.2 _ v.2.1 n1];exact v.1.1,by rw[m.2 _ v.2.2 n2];exact v.1.2⟩,by have:=v.2.1;omega,by have:=v.2.2;omega⟩;have Y0:YVf (i:Int) (IV (.iptr sc 0) i) (h1.next+1) h1.next [] (λj=>j=h1.next+1\/j=h1.next) H:=⟨ow,ow,ow,a2,.nilsl,a1,.inl ⟨rfl,rfl⟩,λe=>e,λe=>e,λj=>⟨λe=>e.elim .inl λe=>.inr (.inl e),λe=>e.elim .inl λe=>e.elim .inr λe=>e.elim⟩⟩;have N:=zJU hs hn (Gx (num:=(i:Int)) (fn:=IV (.iptr sc 0) i) (nl:=h1.next+1) (nr:=h1.next)) Y0 B (λe=>by have:=v.2.1;omega) (λe=>by have:=v.2.2;omega) i o;clear B m Y0
  repeat' first|simp only[go_sem,za, *]|apply bc<;>intro
  refine ZY.mono ?_ N;rintro r p ⟨S2,s2,b2,w1,w2,w3,w4,d2,X,w6,w7,w8,w9⟩;have a4:=b2.1;have A:∀j,j<h1.next->p.at' j=h1.at' j:=λj n=>by rw[b2.2 j ow ow,hE.2 j n]
  rw[HD]at w6;have ai:=FQ (c:=c) (al:=al) (O:=O) hn i;have ag:=QO (c:=c) (fs:=fs) (al:=al) (O:=O) i;clear N G ha hw aj ad e1;rcases w6 with⟨rfl,e⟩ | ⟨k,rfl,g1,g2,g3⟩
  .have e0:cS c fs al O i= []:=by simpa [vbs]using e
   have hv:Hl c fs al O i=.nilsl:=by unfold Hl;rw[ip e0]
   have q:Ext h1 p:=⟨ow,A⟩;have s:=y.go i S' p o (y.ext t q);have d:∀(l:Nat->Prop)(h5:Heap),(∀j,l j->S' j\/p.next<=j)->But S' p h5->(∀j,l j->S j\/w.next<=j)/\But S w h5:=λl h5 f g=>⟨λj n=>by
    rcases f j n with n|n
    .exact J j n
    .exact .inr ow,(b.trans (q.but S) λi K=>.inl K).trans g J⟩
   simp only[hv]at s;simp only[go_sem,X,I];refine(Gh p).mono ?_;rintro r h3 u;subst u;simp only[go_sem,X,I];refine(Q2 h3).mono ?_;rintro r h4 ⟨u,rfl⟩;subst u;refine s.mono ?_;rintro r h5 ⟨l,f,g,⟨rfl,C⟩ | ⟨rfl,D⟩⟩
   .have a:=d l h5 f g
    simp only[go_sem,vun,ew,I,f1,f7,f8,f9,zM];exact⟨o,l,a.1,a.2,C⟩
   .have a:=d l h5 f g
    simp only[go_sem,vun];exact⟨l,a.1,a.2,.inr D⟩
  .have F:(cS c fs al O i).map dM≠[]:=λe=>g3 (by rw[e];rfl)
   have T:cS c fs al O i≠[]:=λe=>F (by rw[e];rfl);have a0:((cS c fs al O i).map dM).length<=16777216:=by rw[zI];exact ai
   have Q:∀x∈(cS c fs al O i).map dM,x.length<=1048576:=λx hx=>by
    obtain⟨z,hz,rfl⟩:=zS.1 hx;have h1:=R7 z;have p:=ag z hz;omega
   have hv:Hl c fs al O i=.sl 2 (vbs (i:Int) (kP c fs al O i)) .no:=by unfold Hl;rw[iq T]
   have U:kP c fs al O i=cpt sQ (srt sQ ((cS c fs al O i).map dM)):=rfl;rw[U]at hv;clear U;generalize(cS c fs al O i).map dM=L at *
   have hid:H.next<=k:=by
    rcases s2 k ((w9 k).2 (.inr (.inr rfl)))with(e|e)|e
    .exact absurd e.symm (λe=>w7 (by rw[e];rfl))
    .exact absurd e.symm (λe=>w8 (by rw[e];rfl))
    .exact e
   have W:=AF (num:=(i:Int)) F a0 Q g1;have sl:(srt sQ L).length=L.length:=(sD L).length_eq;have s0:srt sQ L≠[]:=λe=>F (ye.1 (by rw[<-sl,e];rfl));have E:=Q3 (num:=(i:Int)) s0 ow (λx hx=>Q x (ZN.1 hx)) (zW p k (.row (vbs (i:Int) (srt sQ L)).flatten));rw[sl]at E;rw[pj]at X;obtain⟨h3,P,R,a3⟩:∃h3,p.set k (.row (vbs (i:Int) (srt sQ L)).flatten)=h3/\h3.next=p.next/\h3.at' (h1.next+1)=some (.row [.rs k 2 0 L.length]):=⟨_,rfl,yY _ _ _,by rw[zX ow];exact X⟩;have q:Ext h1 (h3.del k):=⟨by rw[MH,R];omega,λj n=>by rw[wM ow,<-P,zX ow,A j n]⟩;have a8:(h3.del k).next=p.next:=by rw[MH,R]
   rw[P]at W E;generalize h3.del k=h4 at *
   have s:=y.go i S' h4 o (y.ext t q);have d:∀(l:Nat->Prop)(h5:Heap),(∀j,l j->S' j\/h4.next<=j)->But S' h4 h5->(∀j,l j->S j\/w.next<=j)/\But S w h5:=λl h5 f g=>⟨λj n=>by
    rcases f j n with n|n
    .exact J j n
    .exact .inr ow,(b.trans (q.but S) λi K=>.inl K).trans g J⟩
   simp only[hv]at s;simp only[go_sem,X,I];refine W.mono ?_;rintro r h ⟨rfl,u⟩;subst u;simp only[go_sem,a3,I];refine E.mono ?_;rintro r h ⟨u,rfl⟩;subst u;refine s.mono ?_;rintro r h5 ⟨l,f,g,⟨rfl,C⟩ | ⟨rfl,D⟩⟩
   .have a:=d l h5 f g
    simp only[go_sem,vun,ew,I,f1,f7,f8,f9,zM];exact⟨o,l,a.1,a.2,C⟩
   .have a:=d l h5 f g
    simp only[go_sem,vun];exact⟨l,a.1,a.2,.inr D⟩
 .have e1:decide ((i:Int)<6)=false:=zN ow
  have ak:i=6:=ow;subst ak;have d:∃S',(∀j,S' j->S j\/w.next<=j)/\But S w h1/\(Y 6 S' h1\/Z S' h1):=⟨S',J,b,.inl t⟩;clear J b t V;exact au
end Go.V
