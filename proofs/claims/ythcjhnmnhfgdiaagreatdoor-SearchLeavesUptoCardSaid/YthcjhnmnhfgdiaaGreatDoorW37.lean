/- A machine of abstract values for programs of the model, further rules, part 3. No condition. -/
import Derived.Test.YthcjhnmnhfgdiaaGreatDoorW36
set_option linter.all false
set_option maxHeartbeats 8000000
namespace Go.V
open Go.Shelf Go.Proofs Go.Sort
open Go.RowKit (Below)
variable {P:Program}{f:FuncId}{id sz nid k i:Nat}{h g h':Heap}{xs ys:List (List D)}{d:D}{tk:Tk}{num:Int}{S:Nat->Prop}{α:Type}{c:Cat}{fs:List Fac}{al:Nat->Option Alt}{sc cap:List D}
def zA.of_sortI {xs:List Int} (h0:xs≠[]) (V:wu P f=true) (g:h.at' id=some (.row (xs.map (D.int .i64)))) (s:xs.length<4611686018427387904)
  (t:∀ (b off cap:Nat) (zs:List Int) (w:World),Go.Sort.Holds (Value.int .i64) w b off zs.toArray->b<w.heap.size->zs.length<4611686018427387904->
   Calls P f #[.slice (some ⟨b,off,none⟩) zs.length cap] w λe O=>e= .returned (.tuple #[])/\∃n I,O=Go.Sort.grow (putRow (Value.int .i64) (Go.Sort.ahead w n) b off (zs.mergeSort λx y=>decide (x<=y)).toArray) I):
  zA P f [.rs id 1 0 xs.length] h λr h'=>r= .tuple []/\h'=h.set id (.row ((xs.mergeSort λx y=>decide (x<=y)).map (D.int .i64))):=by
 refine⟨V,λw0 G M ρ w va W L B hr=> ?_⟩;simp only[yD] at hr;obtain⟨v,ai,F,N,rfl⟩:=hr;simp only[rel,yD] at N;obtain⟨_,K,l,cap,o,J,rfl,⟨S,T⟩,ad,u⟩:=N;have ag:0<xs.length:=List.length_pos_iff.2 h0;have u:o=0:=by
  rcases u with hz|u
  ·omega
  ·exact u
 subst u;have z:va= #[.slice (some ⟨l.blk,0,none⟩) xs.length cap]:=Array.ext' (by simpa using F);subst z;obtain⟨l',h1,C,hM,c,e,H,Z,U,a⟩:=L.live id _ g;rw[J] at h1;cases h1;have m:l.blk<w.heap.size:=(Array.getElem?_eq_some_iff.1 H).1;have d:Go.Sort.Holds (Value.int .i64) w l.blk 0 xs.toArray:=by
  intro j Y;have p:j<xs.length:=by simpa using Y
  refine⟨?_,by simp[World.frozen?,H]⟩;obtain⟨_,v,Q,h3⟩:=a j (.int .i64 xs[j]) (by rw[List.getElem?_map,List.getElem?_eq_getElem p];rfl);simp only[rel] at h3;obtain⟨rfl,_⟩:=h3;simp only[World.cell?,H,Option.isSome_none,Bool.false_eq_true,if_false];rw[Nat.zero_add,Q];simp[p]
 refine(t l.blk 0 cap xs w d m s).mono λe O E=> ?_;obtain⟨rfl,n,I,rfl⟩:=E;have k:h.at' id=some (.row ([]++xs.map (D.int .i64)++ [])):=by simpa using g
 have R:=(L.ahead n).putRow (α:=Int) (enc:=Value.int .i64) (dd:=D.int .i64) (λq=>rfl) k J (ys:=xs.mergeSort λx y=>decide (x<=y)) (List.length_mergeSort _) (λq E=>by
  obtain⟨i,X,rfl⟩:=List.mem_iff_getElem.1 (List.mem_mergeSort.1 E);obtain⟨_,v,_,h3⟩:=a i (.int .i64 xs[i]) (by rw[List.getElem?_map,List.getElem?_eq_getElem X];rfl);simp only[rel] at h3;exact yj h3.2)
 have A:=R.grow I;refine⟨.tuple #[],M,ρ, .tuple [],_,rfl,MLe.refl _,RLe.refl _,A,B,by simp only[rel,yD];exact⟨#[],rfl,rfl⟩,rfl,by simp⟩
open Go.Proofs.Tryz
open List hiding max min map and or get le lt range extract
open Nat(zero_le le_refl le_trans lt_irrefl le_of_lt lt_of_lt_of_le lt_of_le_of_lt lt_succ_iff_lt_or_eq le_of_lt_succ)
open Go.Proofs
set_option maxRecDepth 100000
def lJ (l:List Int):(qG l).flatten=l.map (D.int .i64):=by
 induction l with
 |nil=>rfl
 |cons a l b=>simp only[qG,map_cons,flatten_cons] at b⊢;rw[b];rfl
def lK {l:List Int} :∀x∈qG l,x.length=1:=λx a=>by
 obtain⟨y,_,rfl⟩:=mem_map.1 a;rfl
def TW (x y:Int):(qJ x y==0)=(x==y):=by
 unfold qJ;split
 ·have:x≠y:=ow;simp[this]
 ·split
  ·have:x≠y:=ow;simp[this]
  ·have:x=y:=ow;simp[this]
theorem Ru {l:List Int} (h0:l≠[]) (hl:l.length<=1048576) (G:g.at' id=some (.row (l.map (D.int .i64)))):
  zA prog 37 [.rs id 1 0 l.length] g λr h'=>r= .rs id 1 0 (cpt qJ l).length/\∃rest,h'=g.set id (.row ((cpt qJ l).map (D.int .i64)++rest)):=by
 have ak:=λ(h:Heap)=>tQ (P:=prog) (t:=45) (sz:=1) (id:=id) (off:=0) (len:=l.length) (h:=h) underlying45;have s:0<l.length:=length_pos_iff.2 h0;have b:∀n,n<=l.length->(∀i (h:i+1<l.length),i+1<n->(qJ l[i+1] l[i]==0)=false)->qI qJ l n=l.take n:=λn hn hh=>by
  induction n with
  |zero=>rfl
  |succ n ih=>
   cases n with
   |zero=>rw[mw s,take_one];simp[head?_eq_getElem?,s]
   |succ k=>
    rw[tM ow,iq (by rw[hh k ow ow];exact Bool.false_ne_true),ih ow λi h1 I=>hh i h1 ow];exact(take_succ_eq_append_getElem ow).symm
 refine xP λQ S=> ?_;have a:(∀i (h:i+1<l.length),i+1<l.length->(qJ l[i+1] l[i]==0)=false)->Q (.rs id 1 0 l.length) g:=λhh=>S _ _ (by
  have e:cpt qJ l=l:=by
   have:=b l.length (le_refl _) hh;rw[take_length] at this;exact this
  rw[e];exact⟨rfl,[],by rw[append_nil,wr G]⟩)
 refine xO mix func37 zGj rfl rfl ?_;simp only[f37,gJ];cases q1:decide ((l.length:Int)<2) with
 |true=>
  have hd:=a λi h1 I=>by have:=of_decide_eq_true q1;omega
  clear a S;simp only[go_sem, *]
 |false=>
 simp only[go_sem, *];refine yF (λi fr h=>fr 0= .rs id 1 0 l.length/\fr 3= .int .i64 ((i+1:Nat):Int)/\h=g/\i+1<=l.length/\∀j (h:j+1<l.length),j+1<i+1->(qJ l[j+1] l[j]==0)=false) l.length ?_ ?_
 ·simp only[go_sem,true_and,and_true,Int.ofNat_zero];exact⟨rfl,s,λj h1 I=>by omega⟩
 rintro i fr h hi ⟨f0,f3,rfl,W,N⟩;by_cases C:i+1<l.length
 ·have e1:decide (((i+1:Nat):Int)<(l.length:Int))=true:=decide_eq_true ow;have ew:IntKind.i64.wrap (((i+1:Nat):Int)+1)=((i+2:Nat):Int):=zw (by unfold lim;omega);have O:IntKind.i64.wrap (((i+1:Nat):Int)-1)=((i:Nat):Int):=by rw[zd ow ow];omega
  have a1:=z8 (P:=prog) (sz:=1) (id:=id) yJ wc (k:= .i64) C;have a2:=z8 (P:=prog) (sz:=1) (id:=id) yJ wc (k:= .i64) (show i<l.length by omega);have p1:(l.map (D.int .i64))[i+1]? =some (.int .i64 l[i+1]):=by simp[C]
  have p2:(l.map (D.int .i64))[i]? =some (.int .i64 l[i]):=by simp[show i<l.length by omega]
  have L:=TW l[i+1] l[i];rw[Nat.mul_one] at a1 a2;cases q:(qJ l[i+1] l[i]==0) with
  |false=>
   rw[q] at L;replace L:=L.symm;have hn:∀j (h:j+1<l.length),j+1<i+2->(qJ l[j+1] l[j]==0)=false:=λj h1 I=>by
    by_cases e:j=i
    ·subst e;exact q
    ·exact N j h1 ow
   clear N a b q1 h0 q;simp only[go_sem, *];refine zU kr ?_;simp only[go_sem, *];exact⟨by omega,C,hn⟩
  |true=>
   rw[q] at L;replace L:=L.symm;have B:qI qJ l (i+2)=l.take (i+1):=by
    rw[tM C,ip q,b (i+1) ow λj h1 I=>N j h1 I]
   have M:=uF (P:=prog) (t:=45) (sz:=1) (id:=id) (h:=h) WU yJ wc (k:= .i64) W;rw[Nat.mul_one] at M;clear N a b q1 h0 q;simp only[go_sem, *];refine zU kr ?_;simp only[go_sem, *];refine yF (λm fr h'=>fr 0= .rs id 1 0 l.length/\fr 4= .rs id 1 (i+1) (l.length- (i+1))/\fr 5= .int .i64 ((m+1:Nat):Int)/\i+1+(m+1)<=l.length/\∃ys:List Int,ys.length=l.length/\h'=h.set id (.row (ys.map (D.int .i64)))/\
    (qI qJ l (i+2+m)).length<=i+1+m/\fr 3= .int .i64 (((qI qJ l (i+2+m)).length:Nat):Int)/\ys.take (qI qJ l (i+2+m)).length=qI qJ l (i+2+m)/\ys.drop (i+1+m)=l.drop (i+1+m)) l.length ?_ ?_
   ·have w:(qI qJ l (i+2)).length=i+1:=by rw[B,length_take];omega
    have A:qI qJ l (i+2+0)=qI qJ l (i+2):=rfl;have u:i+1+(0+1)<=l.length/\∃ys:List Int,ys.length=l.length/\h=h.set id (.row (ys.map (D.int .i64)))/\
     (qI qJ l (i+2+0)).length<=i+1+0/\D.int .i64 ((i+1:Nat):Int)= .int .i64 (((qI qJ l (i+2+0)).length:Nat):Int)/\ys.take (qI qJ l (i+2+0)).length=qI qJ l (i+2+0)/\ys.drop (i+1+0)=l.drop (i+1+0):=
     ⟨by omega,l,rfl,(wr G).symm,by rw[A,w];omega,by rw[A,w],by rw[A,w,B],rfl⟩
    clear w A B;simp only[go_sem,true_and,and_true,Int.ofNat_zero];obtain⟨r0,ys,r1,r2,r3,r4,r5,r6⟩:=u;exact⟨f0,rfl,r0,ys,r1,r2,r3,f3.trans r4,r5,r6⟩
   clear B M L p1 p2 a1 a2 f0 f3 e1 ew O;rintro m a4 I hm ⟨f0,f4,f5,a5,ys,E,rfl,K,f3,o,f⟩;have v:(h.set id (.row (ys.map (D.int .i64)))).at' id=some (.row (ys.map (D.int .i64))):=zC _ _ _;have ag:=λ(H:Heap)=>tQ (P:=prog) (t:=45) (sz:=1) (id:=id) (off:=i+1) (len:=l.length- (i+1)) (h:=H) underlying45;by_cases X:m+1<l.length- (i+1)
   ·have e1:decide (((m+1:Nat):Int)<((l.length- (i+1):Nat):Int))=true:=decide_eq_true ow;have ew:IntKind.i64.wrap (((m+1:Nat):Int)+1)=((m+2:Nat):Int):=zw (by unfold lim;omega);have O:IntKind.i64.wrap (((m+1:Nat):Int)-1)=((m:Nat):Int):=by rw[zd ow ow];omega
    have a1:=wK (P:=prog) (sz:=1) (id:=id) (off:=i+1) yJ wc (k:= .i64) X;have a2:=wK (P:=prog) (sz:=1) (id:=id) (off:=i+1) yJ wc (k:= .i64) (show m<l.length- (i+1) by omega);obtain⟨x,hx⟩:∃x,l[i+1+m+1]? =some x:=⟨_,getElem?_eq_getElem ow⟩;obtain⟨y,hy⟩:∃y,l[i+1+m]? =some y:=⟨_,getElem?_eq_getElem ow⟩;have g1:ys[i+1+(m+1)]? =some x:=by
     have:=congrArg (λz=>z[1]?) f;simp only[getElem?_drop] at this;rw[show i+1+(m+1)=i+1+m+1 by omega,this,hx]
    have g2:ys[i+1+m]? =some y:=by
     have:=congrArg (λz=>z[0]?) f;simp only[getElem?_drop,Nat.add_zero] at this;rw[this,hy]
    rw[Nat.mul_one] at a1 a2;have p1:(ys.map (D.int .i64))[i+1+(m+1)]? =some (.int .i64 x):=by rw[getElem?_map,g1];rfl
    have p2:(ys.map (D.int .i64))[i+1+m]? =some (.int .i64 y):=by rw[getElem?_map,g2];rfl
    have d:qI qJ l (i+2+(m+1))=if(qJ x y==0)=true then qI qJ l (i+2+m) else qI qJ l (i+2+m)++ [x]:=by
     have:=VB (c:=qJ) hx hy;rw[show i+2+(m+1)=i+1+m+2 by omega,this,show i+2+m=i+1+m+1 by omega]
    have p:∀zs:List Int,zs.drop (i+1+m)=l.drop (i+1+m)->zs.drop (i+1+(m+1))=l.drop (i+1+(m+1)):=λzs e=>by
     have:=congrArg (List.drop 1) e;simpa [drop_drop,Nat.add_assoc] using this
    generalize hR:qI qJ l (i+2+m)=R at *
    have Z:=(TW x y).symm;cases q:(qJ x y==0) with
    |true=>
     rw[q] at Z;rw[ip q] at d;have u:m<l.length/\i+1+(m+1+1)<=l.length/\∃zs:List Int,zs.length=l.length/\h.set id (.row (ys.map (D.int .i64)))=h.set id (.row (zs.map (D.int .i64)))/\
      (qI qJ l (i+2+(m+1))).length<=i+1+(m+1)/\D.int .i64 ((R.length:Nat):Int)= .int .i64 (((qI qJ l (i+2+(m+1))).length:Nat):Int)/\zs.take (qI qJ l (i+2+(m+1))).length=qI qJ l (i+2+(m+1))/\zs.drop (i+1+(m+1))=l.drop (i+1+(m+1)):=
      ⟨by omega,by omega,ys,E,rfl,by rw[d];omega,by rw[d],by rw[d];exact o,p _ f⟩
     clear o f p d g1 g2 hx hy hR K q;simp only[go_sem, *];refine zU kr ?_;simp only[go_sem, *]
    |false=>
     rw[q] at Z;rw[iq (by rw[q];exact Bool.false_ne_true)] at d;have T:R.length<l.length:=ow;have a3:=z8 (P:=prog) (sz:=1) (id:=id) yJ wc (k:= .i64) T;rw[Nat.mul_one] at a3;have a7:zP prog 3 (.ptr id R.length) (.int .i64 x) (h.set id (.row (ys.map (D.int .i64))))=some (h.set id (.row ((ys.set R.length x).map (D.int .i64)))):=by
      rw[zS v wc (by rw[length_map,E];exact T) rfl rfl,rI,map_set]
     have a0:IntKind.i64.wrap (((R.length:Nat):Int)+1)=((R.length+1:Nat):Int):=zw (by unfold lim;omega);have u:m<l.length/\i+1+(m+1+1)<=l.length/\∃zs:List Int,zs.length=l.length/\h.set id (.row ((ys.set R.length x).map (D.int .i64)))=h.set id (.row (zs.map (D.int .i64)))/\
      (qI qJ l (i+2+(m+1))).length<=i+1+(m+1)/\D.int .i64 ((R.length+1:Nat):Int)= .int .i64 (((qI qJ l (i+2+(m+1))).length:Nat):Int)/\zs.take (qI qJ l (i+2+(m+1))).length=qI qJ l (i+2+(m+1))/\zs.drop (i+1+(m+1))=l.drop (i+1+(m+1)):=by
      have J:(R++ [x]).length=R.length+1:=by simp
      refine⟨by omega,by omega,ys.set R.length x,by simpa using E,rfl,by rw[d,J];omega,by rw[d,J],?_,?_⟩
      ·rw[d,J,take_succ_eq_append_getElem (by rw[length_set];omega),getElem_set_self,take_set_of_le (le_refl _),o]
      ·rw[drop_set_of_lt ow];exact p _ f
     clear o f p d g1 g2 hx hy hR K q;simp only[go_sem, *];refine zU kr ?_;exact au
   ·have e1:decide (((m+1:Nat):Int)<((l.length- (i+1):Nat):Int))=false:=decide_eq_false ow;have Y:i+2+m=l.length:=ow;have U:qI qJ l (i+2+m)=cpt qJ l:=by rw[Y];rfl
    rw[U] at o f3 K;have F:(cpt qJ l).length<=l.length:=sv _;have M:∀H:Heap,yh prog 45 (.rs id 1 0 l.length) (some (.int .i64 (((cpt qJ l).length:Nat):Int))) none none H=some (.rs id 1 (cpt qJ l).length (l.length- (cpt qJ l).length)):=λH=>by
     have:=uF (P:=prog) (t:=45) (sz:=1) (id:=id) (h:=H) WU yJ wc (k:= .i64) F;rw[Nat.mul_one] at this;exact this
    have a6:=λ(H:Heap)=>tJ (P:=prog) (t:=45) (h:=H) WU yJ (id:=id) (sz:=1) wc (k:= .i64) F;obtain⟨rest,V⟩:=fh (P:=prog) (sz:=1) (t:=45) (xs:=qG ys) yJ uN rfl rfl (by rw[lJ];exact v) lK (n:=(cpt qJ l).length) (by rw[yN];omega);have ad:((qG ys).take (cpt qJ l).length).flatten=(cpt qJ l).map (D.int .i64):=by rw[qG,<-map_take,o];exact lJ _
    rw[ad,rI,yN,E,Nat.mul_one] at V;have ai:=S (.rs id 1 0 (cpt qJ l).length) (h.set id (.row ((cpt qJ l).map (D.int .i64)++rest))) ⟨rfl,rest,rfl⟩;clear o f Y U ad S;exact au
 ·have e1:decide (((i+1:Nat):Int)<(l.length:Int))=false:=decide_eq_false ow;have hd:=a λj h1 I=>N j h1 ow;clear N a b q1 h0 S;exact au
def Ew (l:List Int):(l.mergeSort λx y=>decide (x<=y))=srt qJ l:=by
 unfold srt;congr 1
 funext a b
 unfold qJ;by_cases h:a<=b
 ·rw[decide_eq_true h];have h1:¬b<a:=ow;rw[iq h1];split<;>simp
 ·rw[decide_eq_false h];have h1:b<a:=ow;rw[ip h1];rfl
def pZ (l:List Int):List Int:=cpt qJ (srt qJ l)
def J2 {l:List Int} (h0:l≠[]) (e:l.length<=1048576) (tk:Tk) (h:Heap):zA prog 154 [.sl 1 (qG l) tk] h λr h'=>r= .rs h.next 1 0 l.length/\h'=h.new h.next (.row (l.map (D.int .i64))):=by
 have b:0<l.length:=List.length_pos_iff.2 h0;have c:pb prog .eql 45 true (.sl 1 (qG l) tk) .nilsl=some (.bool false):=by rw[wv (zZ.mk tk) underlying45];rfl
 have d:=λnid h=>qe (P:=prog) (nid:=nid) (h:=h) yJ uN wc rfl rfl (by omega:0<1);have a:zu prog true h.next 45 (.sl 1 [] .full) (.sl 1 (qG l) tk) h=some (.rs h.next 1 0 l.length,h.new h.next (.row (l.map (D.int .i64)))):=by
  rw[tr yJ YP wc ow lK (by rw[mO,yN];unfold lim;omega) (by rw[yN];unfold lim;omega),yN,iq ow,RR underlying3,lJ]
 refine xO mix func154 BW rfl rfl ?_;simp only[f154,gJ];simp only[qY,go_sem,zC3,c,d,a]
def Ey {l:List Int} (h0:l≠[]) (d:l.length<=1048576) (a:g.at' id=some (.row (l.map (D.int .i64)))):
  zA prog 36 [.rs id 1 0 l.length] g λr h'=>r= .tuple []/\h'=g.set id (.row ((srt qJ l).map (D.int .i64))):=by
 have:=zA.of_sortI (P:=prog) (f:=36) h0 kr a ow (λb off cap zs w h1 c h3=>Tryz.slices_Sort_int b off cap zs w h1 c h3);rw[Ew] at this;exact this
def VK {l:List Int} (h0:l≠[]) (b:l.length<=1048576) (a:g.at' id=some (.row (l.map (D.int .i64)))):
  zA prog 37 [.rs id 1 0 l.length] g λr h'=>h'=g.del id/\r= .sl 1 (qG (cpt qJ l)) .no:=
 zA.freezeD ((Ru h0 b a).mono (by
  rintro r h' ⟨rfl,rest,rfl⟩;exact⟨id,_,zC _ _ _,by rw[VC],fw lK (yN _) (by rw[lJ])⟩))
def cH (num:Int) (ks:List Int):List D:=[.int .i64 num, .sl 1 (qG (pZ ks)) .no]
def TX (num:Int) (ks:List (List Int)):∀c∈ks.map (cH num),c.length=2:=λc a=>by
 obtain⟨k,_,rfl⟩:=List.mem_map.1 a;rfl
def TY (h:Heap) (sz:Nat) (xs:List (List D)) (d:D):Prop:=(d= .nilsl/\xs= [])\/∃id,d= .rs id sz 0 xs.length/\h.at' id=some (.row xs.flatten)/\id<h.next/\xs≠[]
def lL (d:D) (i:Nat):Prop:=match d with
 | .rs id _ _ _=>i=id
 |_=>False
def TY.loc (c:TY h sz xs d) (e:h.next<=h'.next) (b:∀i,lL d i->h'.at' i=h.at' i):TY h' sz xs d:=by
 rcases c with h1| ⟨t,rfl,h1,a⟩
 ·exact .inl h1
 ·exact .inr ⟨t,rfl,by rw[b t rfl];exact h1,by omega,a.2⟩
def TY.app {t e:TypeId} (p:TY h sz xs d) (n:qO P t=some e) (r:gB P e=true) (q:szT P e=sz) (h0:0<sz) (hr:∀cs,uZ P e cs= .row cs) (j:∀y∈xs,y.length=sz) (l:∀y∈ys,y.length=sz) (k:ys≠[])
  (a:(xs.length+ys.length)*ye P e<=lim) (f:xs.length+ys.length<=lim):∃g:Heap,zu P true nid t d (.sl sz ys tk) h=some (.rs nid sz 0 (xs++ys).length,g.new nid (.row (xs++ys).flatten))/\g.next=h.next/\(∀i,¬lL d i->g.at' i=h.at' i):=by
 have c:ys.flatten.length=ys.length*sz:=qD l;have m:0<ys.length:=List.length_pos_iff.2 k;simp only[zu,n,r,q,R7,if_true,c,Nat.mul_div_cancel _ h0];rcases p with⟨rfl,rfl⟩ | ⟨id,rfl,h1,s⟩
 ·refine⟨h,?_,rfl,λ_ _=>rfl⟩;simp only[qf];rw[iq ow,ip (by simp only[Bool.and_eq_true,decide_eq_true_eq];simp only[List.length_nil,Nat.zero_add] at a f;exact⟨a,f⟩)];simp[hr]
 ·refine⟨h.del id,?_,rfl,λi o=>yI λe=>o (by rw[e];rfl)⟩;have b:xs.flatten.length=xs.length*sz:=qD j;simp only[qf,Bool.true_and,decide_true];rw[ip (by simp only[Bool.and_eq_true,decide_eq_true_eq];exact⟨a,f⟩)];simp only[h1,b,if_true];simp
def TY.trunc (a:TY h sz xs d) (b:∀x∈xs,x.length=sz) (x:D):qY d x h=h:=by
 rcases a with⟨rfl,_⟩ | ⟨id,rfl,hr,_⟩
 ·rfl
 ·have hf:xs.flatten.length=xs.length*sz:=qD b;cases x<;>simp[qY,hr,hf]
def YVf (num:Int) (fn:D) (nl nr:Nat) (ks:List (List Int)) (S:Nat->Prop) (h:Heap):Prop:=
 nl<h.next/\nr<h.next/\nl≠nr/\h.at' nr=some (.row [.int .i64 num,fn])/\∃d,h.at' nl=some (.row [d])/\TY h 2 (ks.map (cH num)) d/\¬lL d nl/\¬lL d nr/\∀i,S i↔(i=nl\/i=nr\/lL d i)
theorem Ez {fn:D} {nl nr:Nat} {ks:List (List Int)} (X:ks.length<16777216) (R:YVf num fn nl nr ks S h) {l:List Int} (K:l≠[]) (hl:l.length<=5) (tk:Tk):
  zA prog 153 [.sl 1 (qG l) tk, .ptr nl 0, .ptr nr 0] h λ_ h'=>∃S',(∀i,S' i->S i\/h.next<=i)/\But S h h'/\YVf num fn nl nr (ks++ [l]) S' h':=by
 obtain⟨y1,y2,M,N,d,O,P,y7,y8,Q⟩:=R;have C:=J2 K ow tk h;have I:=Ey K ow (zK h h.next (.row (l.map (D.int .i64))));have s0:srt qJ l≠[]:=λe=>K (List.length_eq_zero_iff.1 (by rw[<-(qi (c:=qJ) l).length_eq,e];rfl));have sl:(srt qJ l).length=l.length:=(qi l).length_eq;have o:=VK s0 ow (zC (h.new h.next (.row (l.map (D.int .i64)))) h.next (.row ((srt qJ l).map (D.int .i64))));rw[sl] at o;refine xO mix func153 A8 rfl rfl ?_;simp only[f153,gJ]
 repeat' first|simp only[go_sem, *]|apply bc<;>intro U
 refine C.mono ?_;rintro r h1 ⟨rfl,rfl⟩
 repeat' first|simp only[go_sem, *]|apply bc<;>intro U
 refine I.mono ?_;rintro r h1 ⟨rfl,rfl⟩;obtain⟨h0,e1,e2,e3⟩:∃h0:Heap,h0.at' nl=some (.row [d])/\h0.at' nr=some (.row [.int .i64 num,fn])/\∀i s,h0.at' i=some s->(i=nl\/i=nr)/\h.at' i=some s:=by
  refine⟨⟨h.next,λi=>if i=nl\/i=nr then h.at' i else none⟩,by simp[O],by simp[N],λi s e=> ?_⟩
  simp only at e;split at e
  ·exact⟨‹_›,e⟩
  ·cases e
 obtain⟨m,n,j⟩:∃m,(h.new h.next (.row (l.map (D.int .i64)))).set h.next (.row ((srt qJ l).map (D.int .i64)))=m/\HLe h0 m:=⟨_,rfl,λi s e=>by
  obtain⟨z,A⟩:=e3 i s e;have v:i≠h.next:=by rcases z with rfl|rfl<;>omega
  rw[zE v,zG v];exact A⟩
 have G:(m.del h.next).next=h.next+1:=by rw[<-n];exact zF h (.row (l.map (D.int .i64)))
 have a:∀i,i≠h.next->(m.del h.next).at' i=h.at' i:=λi f=>by rw[<-n,yI f,zE f,zG f]
 have k:HLe h0 (m.del h.next):=λi s e=>by
  obtain⟨z,A⟩:=e3 i s e;rw[a _ (by rcases z with rfl|rfl<;>omega)];exact A
 rw[n] at o⊢;have T:zt prog 65 [(0, .int .i64 num),(1, .sl 1 (qG (pZ l)) .no)]=some (.agg (cH num l)):=by
  simp[zt,lr,mT,qB,yU,cH,D.cells,D.notTuple]
 have B:∀nid H,zI prog false nid 138 1 [(0, .agg (cH num l))] H=some (.sl 2 [cH num l] .full,H):=λnid H=>zz (x:= .agg (cH num l)) wG mT uO rfl rfl ow ow rfl rfl;refine zO h0 [(0, .st,true),(1, .no,true),(2, .st,true),(3, .no,true),(4, .no,true),(5, .no,true),(6, .no,true),(7, .no,false),(8, .no,false)] kr kr j ?_;simp only[go_sem,e1,e2,eq_true j];refine o.mono ?_;rintro r b ⟨rfl,rfl⟩;generalize m.del h.next=b at G a k⊢;have y:TY b 2 (ks.map (cH num)) d:=P.loc ow λi f=>by
  refine a i ?_;rcases P with⟨rfl,_⟩ | ⟨id,rfl,_,hid,_⟩
  ·exact f.elim
  ·simp only[lL] at f;omega
 have u:(ks.map (cH num)).length=ks.length:=List.length_map ..;obtain⟨g,t,V,p⟩:=TY.app (nid:=b.next) (tk:= .full) y wG FB uO ow (λcs=>uP underlying65) (TX num ks) (ys:=[cH num l]) (by simp[cH]) (by simp) (by rw[u,Q0];unfold lim;simp;omega) (by rw[u];unfold lim;simp;omega);have E:ks.map (cH num)++ [cH num l]=(ks++ [l]).map (cH num):=by simp
 rw[E] at t;have F:(g.new b.next (.row ((ks++ [l]).map (cH num)).flatten)).at' nl=some (.row [d]):=by rw[zG ow,p _ y7,a _ ow,O]
 have w:zP prog 138 (.ptr nl 0) (.rs b.next 2 0 ((ks++ [l]).map (cH num)).length) (g.new b.next (.row ((ks++ [l]).map (cH num)).flatten))=some ((g.new b.next (.row ((ks++ [l]).map (cH num)).flatten)).set nl (.row [.rs b.next 2 0 ((ks++ [l]).map (cH num)).length])):=by
  rw[zS F FL (by simp) rfl rfl];rfl
 have W:(g.new b.next (.row ((ks++ [l]).map (cH num)).flatten)).next=h.next+2:=by simp only[Heap.new];omega
 have J:=y.trunc (TX num ks);have q:cpt qJ (srt qJ l)=pZ l:=rfl;simp only[go_sem,q,T,B,J,t,w,eq_true k];refine⟨λi=>i=nl\/i=nr\/i=b.next,λi f=> ?_,⟨by simp only[zT];omega,λi f L=> ?_⟩,by simp only[zT];omega,by simp only[zT];omega,M,?_,_,zC _ _ _, .inr ⟨b.next,rfl,?_,?_,by simp⟩,?_,?_,λi=>Iff.rfl⟩
 ·rcases f with rfl|rfl|rfl
  ·exact .inl (.inl rfl)
  ·exact .inl (.inr (.inl rfl))
  ·exact .inr ow
 ·have Y:i≠nl:=λe=>L ((Q i).2 (.inl e));have Z:¬lL d i:=λe=>L ((Q i).2 (.inr (.inr e)));rw[zE Y,zG ow,p _ Z,a _ ow]
 ·rw[zE (Ne.symm M),zG ow,p _ y8,a _ ow,N]
 ·rw[zE ow,zK]
 ·simp only[zT];omega
 ·simp only[lL];omega
 ·simp only[lL];omega
def J3 {fn:D} {nl nr:Nat} :Fnd2 prog 5 153 [.ptr nl 0, .ptr nr 0] (YVf num fn nl nr):=by
 refine⟨λks S h c i a=> ?_,λks S h h' c t e=> ?_,λks S h l tk c s h0 q r=> ?_⟩
 ·obtain⟨g,j,k,m,d,n,f,o,p,b⟩:=c;rcases(b i).1 a with rfl|rfl|a
  ·exact g
  ·exact j
  ·rcases f with⟨rfl,_⟩ | ⟨id,rfl,_,hid,_⟩
   ·exact a.elim
   ·simp only[lL] at a;omega
 ·obtain⟨g,j,k,m,d,n,f,o,p,b⟩:=c;exact⟨by omega,by omega,k,by rw[e nr ((b _).2 (.inr (.inl rfl)))];exact m,d,by rw[e nl ((b _).2 (.inl rfl))];exact n,f.loc t λi a=>e i ((b i).2 (.inr (.inr a))),o,p,b⟩
 ·exact Ez s c (List.length_pos_iff.1 h0) q tk
open Go.Proofs Go.Shelf Go.Sort
def zA9 {l m:List Int} {d e:D} (q:zZ 1 (qG l) d) (s:zZ 1 (qG m) e) (J:l.length<=1048576) (g:Heap):zA prog 222 [d,e] g λr h'=>h'=g/\r= .int .i64 (wC l m):=by
 have y:=wd q;have A:=wd s;obtain⟨L,M,_⟩:=zJ q;obtain⟨N,O,_⟩:=zJ s;refine xO mix func222 zAE rfl rfl ?_;simp only[f222,gJ]
 repeat' first|simp only[go_sem, *]|apply bc<;>intro n
 refine yF (λi fr h'=>fr 0=d/\fr 1=e/\fr 9=d/\fr 10= .int .i64 l.length/\fr 11= .int .i64 (i:Int)/\h'=g/\i<=m.length/\wC (l.drop i) (m.drop i)=wC l m) l.length ?_ ?_
 ·simp only[go_sem,true_and,and_true,Int.ofNat_zero];exact⟨Nat.zero_le _,rfl⟩
 rintro i fr h' I ⟨F,G,H,w,x,rfl,c,a⟩;by_cases f:i<l.length
 ·have e1:decide ((i:Int)<(l.length:Int))=true:=decide_eq_true ow;have B:=sY q f;by_cases j:i>=m.length
  ·have e2:decide ((i:Int)>=(m.length:Int))=true:=decide_eq_true ow;have hr:wC l m=1:=by
    rw[List.drop_eq_getElem_cons f,List.drop_eq_nil_of_le j] at a;rw[<-a];rfl
   rw[hr];clear a hr c j;exact au
  ·have e2:decide ((i:Int)>=(m.length:Int))=false:=decide_eq_false ow;have b:i<m.length:=ow;have C:=sY s b;rw[N8 f b] at a;simp only[List.getD_eq_getElem?_getD,List.getElem?_eq_getElem f,List.getElem?_eq_getElem b,Option.getD_some] at a;have n:=fR l[i] m[i] h';have E:IntKind.i64.wrap ((i:Int)+1)=((i+1:Nat):Int):=zw (by unfold lim;omega);generalize v:qJ l[i] m[i]=z at *
   cases t:(z==0) with
   |true=>
    have h0:z=0:=by simpa using t
    rw[ip h0] at a;have u:i<l.length/\i+1<=m.length/\wC (l.drop (i+1)) (m.drop (i+1))=wC l m:=⟨f,b,a⟩;clear a c j v h0
    repeat' first|simp only[go_sem, *]|apply bc<;>intro n|(refine zA.mono n ?_;rintro r h ⟨K,rfl⟩)
   |false=>
    have h0:¬z=0:=by simpa using t
    rw[iq h0] at a;rw[<-a];clear a c j v h0
    repeat' first|simp only[go_sem, *]|apply bc<;>intro n|(refine zA.mono n ?_;rintro r h ⟨rfl,rfl⟩)
 ·have e1:decide ((i:Int)<(l.length:Int))=false:=decide_eq_false ow;have k:l.length<=i:=ow;rw[List.drop_eq_nil_of_le k] at a;cases o:decide ((l.length:Int)<(m.length:Int)) with
  |true=>
   have p:=of_decide_eq_true o;have hr:wC l m= -1:=by
    rw[List.drop_eq_getElem_cons (show i<m.length by omega)] at a;rw[<-a];rfl
   rw[hr];clear a hr c k
   repeat' first|simp only[go_sem, *]|apply bc<;>intro n
  |false=>
   have p:=of_decide_eq_false o;have hr:wC l m=0:=by
    rw[List.drop_eq_nil_of_le ow] at a;rw[<-a];rfl
   rw[hr];clear a hr c k;exact au
structure Vio where
 row:Int
 facts:List Int
def Vio.Is (v:Vio) (cs:List D):Prop:=∃d,cs= [.int .i64 v.row,d]/\zZ 1 (qG v.facts) d/\v.facts.length<=1048576
def zBA (v w:Vio):Int:=orL [qJ v.row w.row,wC v.facts w.facts]
def Xb {v w:Vio} {b c:List D} (o:v.Is b) (p:w.Is c) (g:Heap):zA prog 156 [.agg b, .agg c] g λr h'=>h'=g/\r= .int .i64 (zBA v w):=by
 obtain⟨d,rfl,f,a⟩:=o;obtain⟨e,rfl,i,m⟩:=p;have h1:=fR v.row w.row;have j:=zA9 f i a;have h3:=zAa (l:=[qJ v.row w.row,wC v.facts w.facts]) (zZ.mk .full) (by simp);have q:=bs2 (qJ v.row w.row) (wC v.facts w.facts);obtain⟨s,t,_⟩:=zJ f;obtain⟨u,x,_⟩:=zJ i;have n:∀h:Heap,HLe h h:=λ_ _ _ e=>e;unfold zBA;refine xO mix func156 AD rfl rfl ?_;simp only[f156,gJ]
 repeat' first|simp only[go_sem, *]|apply bc<;>intro k
 refine zO g [(0, .no,true),(1, .no,true),(2, .no,true),(3, .no,true),(5, .no,true),(6, .st,true),(7, .no,true),(8, .st,true),(4, .no,true),(9, .no,true),(10, .no,true),(11, .no,true),(12, .no,true)] kr kr (λ_ _ e=>e) ?_
 repeat' first|simp only[go_sem, *]|apply bc<;>intro k|(refine zA.mono (h1 _) ?_;rintro r h ⟨rfl,rfl⟩)|(refine zA.mono (j _) ?_;rintro r h ⟨rfl,rfl⟩)|(refine zA.mono (h3 _) ?_;rintro r h ⟨rfl,rfl⟩)
def Vio.Is.two {v:Vio} {a:List D} (b:v.Is a):zM true 2 a 0=some (.agg a):=by
 obtain⟨d,rfl,_⟩:=b;exact zB rfl ow
def E4 {v w:Vio} {a b:List D} (d:v.Is a) (e:w.Is b) (g:Heap):zA prog 125 [.agg a, .agg b] g λr h'=>h'=g/\r= .bool (zBA v w==0):=by
 have c:=Xb d e;have h1:=Vio.Is.two d;have f:=Vio.Is.two e;refine xO mix func125 AA rfl rfl ?_;simp only[f125,gJ]
 repeat' first|simp only[go_sem, *]|apply bc<;>intro c|(refine zA.mono (c _) ?_;rintro r h ⟨rfl,rfl⟩)
theorem pR:∀a b:List Int,wC a b=jG qJ a b
 | [],[]=>rfl
 | [],_::_=>rfl
 |_::_,[]=>rfl
 |x::xs,y::ys=>by
  simp only[wC,jG,TJ,pR xs ys]
def Mz:QC wC:=by
 have:=ZV.list;exact⟨λx y=>by rw[pR,pR];exact this.anti x y,λx y z=>by rw[pR,pR,pR];exact this.trans x y z⟩
def M3 (x y:List Int) (h:wC x y=0):x=y:=by
 rw[pR] at h;exact ZR Mc _ _ h
def Rv (num:Int) (x:List Int):List D:=[.int .i64 num, .sl 1 (qG x) .no]
def vbs (num:Int) (l:List (List Int)):List (List D):=l.map (Rv num)
def u0 (num:Int) (l:List (List Int)):(vbs num l).length=l.length:=List.length_map ..
def pS (num:Int) (l:List (List Int)):∀x∈vbs num l,x.length=2:=λx a=>by
 obtain⟨y,_,rfl⟩:=List.mem_map.1 a;rfl
def Zg (num:Int) {x:List Int} (h:x.length<=1048576):(Vio.mk num x).Is (Rv num x):=⟨_,rfl,zZ.mk .no,h⟩
def Xc (num:Int) (x y:List Int):zBA ⟨num,x⟩ ⟨num,y⟩ =wC x y:=by
 have h:qJ num num=0:=ZV.refl num;simp only[zBA,orL,h,if_true];split
 ·rename_i q;exact q.symm
 ·rfl
def E5 {l:List (List Int)} (h0:l≠[]) (v:l.length<=16777216) (a:∀x∈l,x.length<=1048576) (b:g.at' id=some (.row (vbs num l).flatten)):
  zA prog 155 [.rs id 2 0 l.length, .fn (.func 156) [] []] g λr h'=>r= .tuple []/\h'=g.set id (.row (vbs num (srt wC l)).flatten):=by
 have:=zA.of_sortK (P:=prog) (f:=155) (cmp:=156) (k:=2) (cells:=Rv num) (xs:=l) (id:=id) (pre:=[]) (post:=[]) (h:=g) (cf:=wC) (mid:=[]) (midV:=[]) (λM ρ vs h=>by simpa [yD] using h) h0 ow (λx i=>rfl) kr (enters_of func156 kr rfl) (by simpa [vbs] using b) Mz.swo ow
  (λx i y t H=>by have:=Xb (Zg num (a x i)) (Zg num (a y t)) H;rw[Xc] at this;exact this) (λα _ enc h1 j cf n g cb c off cap d w q p m o e u=>AnyQ.slices_SortFunc Tryz.sortVio 2 (isAgg65) (sizeOf65) enc h1 j cf n g cb c off cap d w q p m o e)
 refine this.mono λr h' ⟨e1,ys,s,e,e2⟩=>⟨e1,?_⟩;rw[e2,TK Mz M3 s e];simp[vbs]
theorem pT {f:α->List D} {p:α->Prop} :∀ {ys:List (List D)},(∀y∈ys,∃s,y=f s/\p s)->∃l:List α,ys=l.map f/\∀s∈l,p s
 | [],_=>⟨[],rfl,λn b=>by cases b⟩
 |y::ys,h=>by
  obtain⟨n,rfl,b⟩:=h y (by simp);obtain⟨ks,rfl,c⟩:=pT (ys:=ys) λz d=>h z (List.mem_cons_of_mem _ d);exact⟨n::ks,rfl,λm a=>by
   rcases List.mem_cons.1 a with rfl|a
   ·exact b
   ·exact c m a⟩
def TZ {c:List D} (h:Shp prog k 31 c):∃d l,c= [d]/\zZ 1 (yR l) d/\l.length<=1048576:=by
 obtain⟨d,xs,j,e,m,b,_,a,g⟩:=kx underlying31 uY h;obtain⟨l,rfl,n⟩:=pT (f:=λs:List UInt8=>[D.str s]) λy i=>uu underlying9 (g y i);rw[List.length_map] at a;exact⟨d,l,e,b,a⟩
def J4 {c:List D} (h:Shp prog k 45 c):∃d l,c= [d]/\zZ 1 (qG l) d/\l.length<=1048576:=by
 obtain⟨d,xs,j,e,m,b,_,a,g⟩:=kx underlying45 wc h;obtain⟨l,rfl,n⟩:=pT (f:=λs:Int=>[D.int .i64 s]) λy i=>rF underlying3 (g y i);rw[List.length_map] at a;exact⟨d,l,e,b,a⟩
def E6 {c:List D} (h:Shp prog k 108 c):∃n:Lic,c=n.cells/\n.Sm:=by
 obtain⟨j,_,hf⟩:=uv underlying108 h;obtain⟨m,r1,rfl,h1,hf⟩:=z6 hf;obtain⟨o,r2,rfl,e,hf⟩:=z6 hf;obtain⟨p,r3,rfl,h3,hf⟩:=z6 hf;obtain⟨q,r4,rfl,f,hf⟩:=z6 hf;obtain rfl:=pD hf;obtain⟨s1,rfl,a⟩:=uu underlying9 h1;obtain⟨s2,rfl,b⟩:=uu underlying9 e;obtain⟨g,rfl,l⟩:=rF underlying3 h3;obtain⟨i,rfl,d⟩:=uu underlying9 f;exact⟨⟨s1,s2,g,i⟩,rfl,a,b,d⟩
def E7 {c:List D} (h:Shp prog k 113 c):∃n:Exc,c=n.cells/\n.Ok:=by
 obtain⟨j,_,hf⟩:=uv underlying113 h;obtain⟨i,r1,rfl,h1,hf⟩:=z6 hf;obtain⟨m,r2,rfl,e,hf⟩:=z6 hf;obtain⟨o,r3,rfl,h3,hf⟩:=z6 hf;obtain rfl:=pD hf;obtain⟨s1,rfl,a⟩:=uu underlying9 h1;obtain⟨s2,rfl,g⟩:=uu underlying9 e;obtain⟨d,l,rfl,f,b⟩:=J4 h3;exact⟨⟨s1,s2,l,d⟩,rfl,f,b,a⟩
def E8 {c:List D} (h:Shp prog k 117 c):∃n:Cla,c=n.cells/\n.Ok:=by
 obtain⟨j,_,hf⟩:=uv underlying117 h;obtain⟨r,r1,rfl,h1,hf⟩:=z6 hf;obtain⟨s,r2,rfl,b,hf⟩:=z6 hf;obtain⟨t,r3,rfl,h3,hf⟩:=z6 hf;obtain⟨u,r4,rfl,e,hf⟩:=z6 hf;obtain⟨v,r5,rfl,h5,hf⟩:=z6 hf;obtain rfl:=pD hf;obtain⟨s1,rfl,m⟩:=uu underlying9 h1;obtain⟨s2,rfl,o⟩:=rF underlying3 b;obtain⟨g,rfl,p⟩:=rF underlying3 h3;obtain⟨i,rfl,q⟩:=rF underlying3 e;obtain⟨d,l,rfl,f,a⟩:=TZ h5;exact⟨⟨s1,s2,g,i,l,d⟩,rfl,f,a⟩
def E9 {c:List D} (h:Shp prog k 121 c):∃n:Apt,c=n.cells/\True:=by
 obtain⟨j,_,hf⟩:=uv underlying121 h;obtain⟨e,r1,rfl,h1,hf⟩:=z6 hf;obtain⟨f,r2,rfl,a,hf⟩:=z6 hf;obtain rfl:=pD hf;obtain⟨s1,rfl,b⟩:=uu underlying9 h1;obtain⟨s2,rfl,d⟩:=uu underlying9 a;exact⟨⟨s1,s2⟩,rfl,trivial⟩
def DA {c:List D} (h:Shp prog k 27 c):∃n:Cat,yt n (.agg c)/\n.Sm:=by
 obtain⟨j,_,hf⟩:=uv underlying27 h;obtain⟨z,r1,rfl,h1,hf⟩:=z6 hf;obtain⟨A,r2,rfl,b,hf⟩:=z6 hf;obtain⟨B,r3,rfl,h3,hf⟩:=z6 hf;obtain⟨C,r4,rfl,d,hf⟩:=z6 hf;obtain rfl:=pD hf;obtain⟨l,I,E,rfl,_,q,_,e,h1⟩:=kx underlying22 rz h1;obtain⟨m,J,F,rfl,_,r,_,f,b⟩:=kx underlying23 gp b;obtain⟨o,K,G,rfl,_,s,_,g,h3⟩:=kx underlying24 pu h3;obtain⟨p,L,H,rfl,_,t,_,i,d⟩:=kx underlying25 ah d;obtain⟨u,rfl,k1⟩:=pT λy a=>E6 (h1 y a);obtain⟨v,rfl,k2⟩:=pT λy a=>E7 (b y a);obtain⟨w,rfl,k3⟩:=pT λy a=>E8 (h3 y a);obtain⟨x,rfl,k4⟩:=pT λy a=>E9 (d y a);rw[List.length_map] at e f g i
 exact⟨⟨u,v,w,x⟩,⟨l,m,o,p,rfl,q,r,s,t⟩,⟨e,k1⟩,⟨f,k2⟩,⟨g,k3⟩,i⟩
theorem GJ:∀ {l:List Ex},(∀e∈l,e.Ok)->okL l
 | [],_=>by simp only[okL]
 |e::l,h=>by simp only[okL];exact⟨h e (by simp),GJ λx a=>h x (List.mem_cons_of_mem _ a)⟩
def zBB (k:Nat):∀ {c:List D},Shp prog k 56 c->∃e:Ex,c=e.cells/\e.Ok:=by
 induction k using Nat.strongRecOn with
 |_ k p=>
 intro c h;obtain⟨j,x,hf⟩:=uv underlying56 h;obtain⟨t,r1,rfl,h1,hf⟩:=z6 hf;obtain⟨u,r2,rfl,i,hf⟩:=z6 hf;obtain⟨v,r3,rfl,h3,hf⟩:=z6 hf;obtain⟨w,r4,rfl,a,hf⟩:=z6 hf;obtain rfl:=pD hf;obtain⟨s1,rfl,s⟩:=rF underlying3 h1;obtain⟨s2,rfl,d⟩:=uu underlying9 i;obtain⟨r,rfl,f⟩:=uu underlying9 h3;obtain⟨g,A,m,rfl,z,o,_,b,a⟩:=kx underlying54 Qy a;obtain⟨l,rfl,q⟩:=pT λy n=>p m ow (a y n);rw[List.length_map] at b;exact⟨.mk s1 s2 r l g,rfl,by simp only[Ex.Ok];exact⟨o,b,d,f,GJ q⟩⟩
def DB {c:List D} (h:Shp prog k 58 c):∃f:Fac,c=f.cells/\f.Ok0:=by
 obtain⟨j,_,hf⟩:=uv underlying58 h;obtain⟨C,r1,rfl,h1,hf⟩:=z6 hf;obtain⟨E,r2,rfl,m,hf⟩:=z6 hf;obtain⟨F,r3,rfl,h3,hf⟩:=z6 hf;obtain⟨G,r4,rfl,n,hf⟩:=z6 hf;obtain⟨H,r5,rfl,h5,hf⟩:=z6 hf;obtain⟨I,r6,rfl,o,hf⟩:=z6 hf;obtain⟨J,r7,rfl,p,hf⟩:=z6 hf;obtain⟨K,r8,rfl,q,hf⟩:=z6 hf;obtain⟨L,r9,rfl,r,hf⟩:=z6 hf;obtain rfl:=pD hf;obtain⟨s1,rfl,y⟩:=rF underlying3 h1;obtain⟨s2,rfl,a⟩:=uu underlying9 m;obtain⟨t,rfl,b⟩:=uu underlying9 h3;obtain⟨u,rfl,z⟩:=rF underlying3 n;obtain⟨v,rfl,A⟩:=rF underlying3 h5;obtain⟨w,rfl,B⟩:=rF underlying3 o;obtain⟨x,rfl⟩:=JM underlying4 p;obtain⟨e,rfl,g⟩:=zBB _ q
 obtain⟨d,l,rfl,s,i⟩:=TZ r;exact⟨⟨s1,s2,t,u,v,w,x,e,l,d⟩,rfl,g,s,i,a,b⟩
def M4 {c:List D} (h:Shp prog k 29 c):∃d fs,c= [d]/\zZ 12 (nb fs) d/\fs.length<=1048576/\(∀f∈fs,f.Ok0)/\∀f∈fs,yf f.cells:=by
 obtain⟨d,xs,j,e,o,n,_,b,g⟩:=kx underlying29 Qz h;obtain⟨l,rfl,a⟩:=pT (f:=Fac.cells) (p:=λf=>f.Ok0/\yf f.cells) λy i=>by
  obtain⟨f,hf,m⟩:=DB (g y i);exact⟨f,hf,m,by rw[<-hf];exact mb _ _ _ (g y i)⟩
 rw[List.length_map] at b;exact⟨d,l,e,n,b,λf hf=>(a f hf).1,λf hf=>(a f hf).2⟩
structure SA where
 M:KM Int
 O:KV
 outs:List (List UInt8)
def kK (fs:List Fac) (i:Nat):Nat:=((fs.take i).filter λf=>f.kind==1).length
def dO (y:Cho) (k:Nat):Alt:=y.ts.getD k (mkA [])
def Rw (y:Cho) (k:Nat):List UInt8:=y.own.getD k []
def DC (y:Cho) (fs:List Fac) (i:Nat) (s:SA):SA:=match fs[i]? with
 |none=>s
 |some f=>if(f.kind==1)=true then(if decide (((dO y (kK fs i)).ts.length:Int)>0)=true then⟨lH (i:Int) (dO y (kK fs i)).d s.M,s.O,s.outs⟩ else s)
  else if(f.kind==2)=true then(if(s.outs.any λz=>z==f.out)=true then s else⟨s.M,if(!(Rw y s.outs.length== []))=true then ZE f.out (Rw y s.outs.length) s.O else s.O,s.outs++ [f.out]⟩) else s
def zp (y:Cho) (fs:List Fac):Nat->SA
 |0=>⟨[],[],[]⟩
 |i+1=>DC y fs i (zp y fs i)
def alS (fs:List Fac) (y:Cho) (i:Nat):Option Alt:=match fs[i]? with
 |none=>none
 |some f=>if(f.kind==1)=true then(if decide (((dO y (kK fs i)).ts.length:Int)>0)=true then some (dO y (kK fs i)) else none) else none
section
variable {y:Cho} {fs:List Fac}
def pU (h:i<fs.length):zp y fs (i+1)=if(fs[i].kind==1)=true then(if decide (((dO y (kK fs i)).ts.length:Int)>0)=true then⟨lH (i:Int) (dO y (kK fs i)).d (zp y fs i).M,(zp y fs i).O,(zp y fs i).outs⟩ else zp y fs i)
  else if(fs[i].kind==2)=true then(if((zp y fs i).outs.any λz=>z==fs[i].out)=true then zp y fs i else⟨(zp y fs i).M,if(!(Rw y (zp y fs i).outs.length== []))=true then ZE fs[i].out (Rw y (zp y fs i).outs.length) (zp y fs i).O else(zp y fs i).O,(zp y fs i).outs++ [fs[i].out]⟩) else zp y fs i:=by
 show DC y fs i (zp y fs i)=_;unfold DC;rw[List.getElem?_eq_getElem h]
def zBC (h:i<fs.length):alS fs y i=if(fs[i].kind==1)=true then(if decide (((dO y (kK fs i)).ts.length:Int)>0)=true then some (dO y (kK fs i)) else none) else none:=by
 unfold alS;rw[List.getElem?_eq_getElem h]
theorem bm:∀k,k<=fs.length->∀j:Nat,ox (j:Int) (zp y fs k).M=if j<k then(alS fs y j).map Alt.d else none
 |0,_,j=>by simp[zp,ox]
 |k+1,g,j=>by
  have c:=bm k ow j;have b:k<fs.length:=ow;have f:=zBC (y:=y) b;have key:ox (j:Int) (zp y fs (k+1)).M=if j=k then(alS fs y k).map Alt.d else ox (j:Int) (zp y fs k).M:=by
   rw[pU b,f];have a:j=k->ox (j:Int) (zp y fs k).M=none:=λe=>by rw[c,iq ow]
   split
   ·split
    ·rw[XV];by_cases e:j=k
     ·subst e;simp
     ·have:((j:Int)==(k:Int))=false:=by simp;omega
      rw[this,iq e];simp
    ·by_cases e:j=k
     ·rw[ip e,a e];rfl
     ·rw[iq e]
   ·split
    ·split
     ·by_cases e:j=k
      ·rw[ip e,a e];rfl
      ·rw[iq e]
     ·by_cases e:j=k
      ·rw[ip e,a e];rfl
      ·rw[iq e]
    ·by_cases e:j=k
     ·rw[ip e,a e];rfl
     ·rw[iq e]
  rw[key,c];by_cases e:j=k
  ·subst e;simp
  ·rw[iq e];by_cases e2:j<k
   ·rw[ip e2,ip ow]
   ·rw[iq e2,iq ow]
def Xd (h:i<fs.length):(zp y fs (i+1)).outs=(zp y fs i).outs\/∃o,(zp y fs (i+1)).outs=(zp y fs i).outs++ [o]:=by
 rw[pU h];split
 ·split<;>exact .inl rfl
 ·split
  ·split
   ·exact .inl rfl
   ·exact .inr ⟨_,rfl⟩
  ·exact .inl rfl
theorem M5 {i:Nat} :∀k,i+k<=fs.length->(zp y fs i).outs.length<=(zp y fs (i+k)).outs.length
 |0,_=>Nat.le_refl _
 |k+1,h=>by
  have a:=M5 (i:=i) k ow;rcases Xd (y:=y) (fs:=fs) (i:=i+k) ow with e| ⟨o,e⟩
  ·rw[<-Nat.add_assoc,e];exact a
  ·rw[<-Nat.add_assoc,e,List.length_append];omega
theorem bn:∀k,k<=fs.length->(zp y fs k).outs.length<=k
 |0,_=>Nat.le_refl _
 |k+1,h=>by
  have a:=bn k ow;rcases Xd (y:=y) (fs:=fs) (i:=k) ow with e| ⟨o,e⟩
  ·rw[e];omega
  ·rw[e,List.length_append,List.length_singleton];omega
def dP (h:i<fs.length):kK fs (i+1)=kK fs i+(if(fs[i].kind==1)=true then 1 else 0):=by
 unfold kK;rw[List.take_succ_eq_append_getElem h,List.filter_append,List.length_append];congr 1;by_cases e:(fs[i].kind==1)=true<;>simp[e]
theorem M6 {i:Nat} :∀k,i+k<=fs.length->kK fs i<=kK fs (i+k)
 |0,_=>Nat.le_refl _
 |k+1,h=>by
  have a:=M6 (i:=i) k ow;rw[<-Nat.add_assoc,dP ow];omega
theorem bp:∀k,k<=fs.length->kK fs k<=k
 |0,_=>by simp[kK]
 |k+1,h=>by
  have a:=bp k ow;rw[dP ow];split<;>omega
end
def tT:List Fac->List (List UInt8)->List (List UInt8)
 | [],o=>o
 |f::fs,o=>if(f.kind==1)=true then tT fs o else if(f.kind==2)=true then tT fs (if(o.any λz=>z==f.out)=true then o else o++ [f.out]) else tT fs o
theorem sx:∀ (l:List Fac) (f:Fac) (o:List (List UInt8)),tT (l++ [f]) o=tT [f] (tT l o)
 | [],f,o=>rfl
 |g::l,f,o=>by
  by_cases h1:(g.kind==1)=true
  ·have e:∀m,tT (g::m) o=tT m o:=λm=>by rw[tT,ip h1]
   rw[cons_append,e,e,sx l f]
  ·by_cases a:(g.kind==2)=true
   ·have e:∀m,tT (g::m) o=tT m (if(o.any λz=>z==g.out)=true then o else o++ [g.out]):=λm=>by rw[tT,iq h1,ip a]
    rw[cons_append,e,e,sx l f]
   ·have e:∀m,tT (g::m) o=tT m o:=λm=>by rw[tT,iq h1,iq a]
    rw[cons_append,e,e,sx l f]
theorem dQ {y:Cho} {fs:List Fac} :∀k,k<=fs.length->(zp y fs k).outs=tT (fs.take k) []
 |0,_=>rfl
 |k+1,h=>by
  have a:k<fs.length:=ow;have b:=dQ (y:=y) (fs:=fs) k ow;rw[take_succ_eq_append_getElem a,sx,<-b,pU a];simp only[tT];split
  ·split<;>rfl
  ·split
   ·split<;>rfl
   ·rfl
theorem oM:∀ {l:List Fac} {t:List (List (List Trm))} {o:List (List UInt8)},(jy c l t o).2.2=0->(jy c l t o).1.length=t.length+(l.filter λf=>f.kind==1).length/\(jy c l t o).2.1=tT l o
 | [],t,o,_=>⟨rfl,rfl⟩
 |f::fs,t,o,h=>by
  rw[jy] at h⊢;by_cases h1:(f.kind==1)=true
  ·rw[ip h1] at h⊢;by_cases a:(jX c f.e==0)=true
   ·rw[ip a] at h⊢;obtain⟨b,d⟩:=oM h;refine⟨?_,by rw[d,tT,ip h1]⟩;rw[b,filter_cons_of_pos (by exact h1)];simp only[length_append,length_cons,length_nil];omega
   ·rw[iq a] at h;exact absurd h (by simpa using a)
  ·rw[iq h1] at h⊢;by_cases a:(f.kind==2)=true
   ·rw[ip a] at h⊢;obtain⟨b,d⟩:=oM h;exact⟨by rw[b,filter_cons_of_neg (by exact h1)],by rw[d,tT,iq h1,ip a]⟩
   ·rw[iq a] at h⊢;obtain⟨b,d⟩:=oM h;exact⟨by rw[b,filter_cons_of_neg (by exact h1)],by rw[d,tT,iq h1,iq a]⟩
def VL {l:List Fac} (h:(qn c l).2=0):l.length<=256:=by
 unfold qn at h;split at h
 ·exact absurd h (by decide)
 ·split at h
  ·exact absurd h (by decide)
  ·rename_i q
   have:¬((l.length:Int)>256):=by simpa using q
   omega
structure ChoiceOk (c:Cat) (fs:List Fac) (y:Cho):Prop where
 case:(qn c fs).2=0
 lic:kK fs fs.length=y.ts.length
 outs:(zp y fs fs.length).outs.length=y.own.length
 okk:∀a∈y.ts,a.ts≠[]->a.Ok/\a.ts.length<=64
variable {fs:List Fac}
def Xe {y:Cho} {p:Bool} (h:qS c fs y p=0) (r:y.Sm):ChoiceOk c fs y:=by
 unfold qS at h;split at h
 ·rename_i q;rw[h] at q;exact absurd q (by decide)
 ·rename_i B;have v0:(za c fs).2.2=0:=by simpa using B
  split at h
  ·exact absurd h (by decide)
  ·rename_i n;split at h
   ·rename_i q;rw[h] at q;exact absurd q (by decide)
   ·rename_i C;have o:nY (ov (za c fs).1 y.ts p) y.ts.length=0:=by simpa using C
    have m:=tN (c:=c) (l:=fs);unfold za at v0 n o m;by_cases j:(!((qn c fs).2==0))=true
    ·rw[ip j] at v0;rw[v0] at j;exact absurd j (by decide)
    ·rw[iq j] at v0 n o m;obtain⟨v,w⟩:=oM v0;have u:(jy c fs [] []).1.length=y.ts.length/\(jy c fs [] []).2.1.length=y.own.length:=by
      simp only[Bool.or_eq_true,Bool.not_eq_true',beq_eq_false_iff_ne,ne_eq,not_or,Decidable.not_not] at n;omega
     refine⟨by simpa using j,?_,?_,λa s g=> ?_⟩
     ·rw[<-u.1,v];simp[kK]
     ·rw[dQ _ (le_refl _),take_length,<-w];exact u.2
     ·obtain⟨i,t,rfl⟩:=mem_iff_getElem.1 s;have:=lE o i t;unfold ov at this;rw[getElem?_eq_getElem t] at this;simp only at this;have A:(((y.ts[i].ts.length:Int))==0)=false:=by
       have:=length_pos_iff.2 g;simp;omega
      rw[A,Bool.and_false,iq (by decide)] at this;split at this
      ·exact absurd this (by decide)
      ·rename_i q;have d:((jy c fs [] []).1.getD i []).any (λb=>X1 y.ts[i].ts b)=true:=by simpa using q
       obtain⟨b,f,x⟩:=any_eq_true.1 d;have e:=(lF _ _).1 x;have key:y.ts[i].ts.length<=64->y.ts[i].Ok/\y.ts[i].ts.length<=64:=λq=>⟨⟨(r.ts _ s).sl,g,by omega⟩,q⟩;refine key ?_;rw[e];rw[getD_eq_getElem?_getD] at f;cases k:(jy c fs [] []).1[i]? with
       |none=>rw[k] at f;cases f
       |some z=>
        rw[k] at f;have:=((m z (mem_of_getElem? k)).2.ts b f).2;omega
structure CIn (c:Cat) (fs:List Fac) (y:Cho) (d x yd:D):Prop where
 cat:yt c d
 sm:c.Sm
 x:zZ 12 (nb fs) x
 len:fs.length<=1048576
 few:fs.length<=16\/256<fs.length
 ok:∀f∈fs,f.Ok
 cho:Ej y yd
 ysm:y.Sm
section
variable {c:Cat} {fs:List Fac} {y:Cho} {d x yd:D} (I:CIn c fs y d x yd)
include I
def CIn.check (p:Bool) (g:Heap):zA prog 39 [d,x,yd, .bool p] g λr h'=>h'=g/\r= .int .i64 (qS c fs y p):=Zb I.cat I.sm I.x I.len I.ok I.cho I.ysm p g
def CIn.n16 {p:Bool} (h:qS c fs y p=0):fs.length<=16:=by
 have:=VL (Xe h I.ysm).case;rcases I.few with q|q
 ·exact q
 ·omega
end
variable {c:Cat}{d:D}{fs:List Fac}
def VM {l:List Fac} (h:(qn c l).2=0):tK c=0:=by
 unfold qn at h;by_cases h1:(!(tK c==0))=true
 ·rw[ip h1] at h;exact absurd h (by decide)
 ·simpa using h1
theorem Rx {l:List (List Int)} (h0:l≠[]) (hl:l.length<=16777216) (ag:∀x∈l,x.length<=1048576) (J:g.at' id=some (.row (vbs num l).flatten)):
  zA prog 157 [.rs id 2 0 l.length, .fn (.func 125) [] []] g λr h'=>r= .rs id 2 0 (cpt wC l).length/\∃rest,h'=g.set id (.row ((vbs num (cpt wC l)).flatten++rest)):=by
 have a8:=λ(h:Heap)=>tQ (P:=prog) (t:=138) (sz:=2) (id:=id) (off:=0) (len:=l.length) (h:=h) underlying138;have u:0<l.length:=length_pos_iff.2 h0;have heq:∀x∈l,∀y∈l,∀H,zA prog 125 [.agg (Rv num x), .agg (Rv num y)] H λr h'=>h'=H/\r= .bool (wC x y==0):=λx S y T H=>by
  have:=E4 (Zg num (ag x S)) (Zg num (ag y T)) H;rw[Xc] at this;exact this
 have b:∀n,n<=l.length->(∀i (h:i+1<l.length),i+1<n->(wC l[i+1] l[i]==0)=false)->qI wC l n=l.take n:=λn hn hh=>by
  induction n with
  |zero=>rfl
  |succ n ih=>
   cases n with
   |zero=>rw[mw u,take_one];simp[head?_eq_getElem?,u]
   |succ k=>
    rw[tM ow,iq (by rw[hh k ow ow];exact Bool.false_ne_true),ih ow λi h1 L=>hh i h1 ow];exact(take_succ_eq_append_getElem ow).symm
 refine xP λQ W=> ?_;have a:(∀i (h:i+1<l.length),i+1<l.length->(wC l[i+1] l[i]==0)=false)->Q (.rs id 2 0 l.length) g:=λhh=>W _ _ (by
  have e:cpt wC l=l:=by
   have:=b l.length (le_refl _) hh;rw[take_length] at this;exact this
  rw[e];exact⟨rfl,[],by rw[append_nil,wr J]⟩)
 refine xO mix func157 Fa rfl rfl ?_;simp only[f157,gJ];cases q1:decide ((l.length:Int)<2) with
 |true=>
  have hd:=a λi h1 L=>by have:=of_decide_eq_true q1;omega
  clear a W
  repeat' first|simp only[go_sem, *]|apply bc<;>intro A
 |false=>
 repeat' first|simp only[go_sem, *]|apply bc<;>intro A
 refine yF (λi fr h=>fr 0= .rs id 2 0 l.length/\fr 1= .fn (.func 125) [] []/\fr 5= .int .i64 ((i+1:Nat):Int)/\h=g/\i+1<=l.length/\∀j (h:j+1<l.length),j+1<i+1->(wC l[j+1] l[j]==0)=false) l.length ?_ ?_
 ·simp only[go_sem,true_and,and_true,Int.ofNat_zero];exact⟨rfl,u,λj h1 L=>by omega⟩
 rintro i fr k0 hi ⟨f0,f1,f5,rfl,ad,U⟩;by_cases s:i+1<l.length
 ·have e1:decide (((i+1:Nat):Int)<(l.length:Int))=true:=decide_eq_true ow;have ew:IntKind.i64.wrap (((i+1:Nat):Int)+1)=((i+2:Nat):Int):=zw (by unfold lim;omega);have V:IntKind.i64.wrap (((i+1:Nat):Int)-1)=((i:Nat):Int):=by rw[zd ow ow];omega
  have a1:=z8 (P:=prog) (sz:=2) (id:=id) wG uO (k:= .i64) s;have a2:=z8 (P:=prog) (sz:=2) (id:=id) wG uO (k:= .i64) (show i<l.length by omega);have p1:=sD (pS num l) ow (show(vbs num l)[i+1]? =some (Rv num l[i+1]) by simp[vbs,s]);have p2:=sD (pS num l) ow (show(vbs num l)[i]? =some (Rv num l[i]) by simp[vbs,show i<l.length by omega]);have hq:=heq l[i+1] (getElem_mem s) l[i] (getElem_mem ow) k0;cases q:(wC l[i+1] l[i]==0) with
  |false=>
   rw[q] at hq;have hn:∀j (h:j+1<l.length),j+1<i+2->(wC l[j+1] l[j]==0)=false:=λj h1 L=>by
    by_cases e:j=i
    ·subst e;exact q
    ·exact U j h1 ow
   clear U a b q1 h0 q heq
   repeat' first|simp only[go_sem, *]|apply bc<;>intro A
   refine zU kr ?_
   repeat' first|simp only[go_sem, *]|apply bc<;>intro A|(refine zA.mono hq ?_;rintro r h ⟨O,rfl⟩)
   exact⟨by omega,s,hn⟩
  |true=>
   rw[q] at hq;have E:qI wC l (i+2)=l.take (i+1):=by
    rw[tM s,ip q,b (i+1) ow λj h1 L=>U j h1 L]
   have a0:=uF (P:=prog) (t:=138) (sz:=2) (id:=id) (h:=k0) aj wG uO (k:= .i64) ad;clear U a b q1 h0 q
   repeat' first|simp only[go_sem, *]|apply bc<;>intro A
   refine zU kr ?_
   repeat' first|simp only[go_sem, *]|apply bc<;>intro A|(refine zA.mono hq ?_;rintro r h ⟨O,rfl⟩)
   refine yF (λm fr h'=>fr 0= .rs id 2 0 l.length/\fr 1= .fn (.func 125) [] []/\fr 6= .rs id 2 ((i+1)*2) (l.length- (i+1))/\fr 7= .int .i64 ((m+1:Nat):Int)/\i+1+(m+1)<=l.length/\∃ys:List (List Int),ys.length=l.length/\h'=k0.set id (.row (vbs num ys).flatten)/\
    (qI wC l (i+2+m)).length<=i+1+m/\fr 5= .int .i64 (((qI wC l (i+2+m)).length:Nat):Int)/\ys.take (qI wC l (i+2+m)).length=qI wC l (i+2+m)/\ys.drop (i+1+m)=l.drop (i+1+m)) l.length ?_ ?_
   ·have B:(qI wC l (i+2)).length=i+1:=by rw[E,length_take];omega
    have C:qI wC l (i+2+0)=qI wC l (i+2):=rfl;have v:i+1+(0+1)<=l.length/\∃ys:List (List Int),ys.length=l.length/\k0=k0.set id (.row (vbs num ys).flatten)/\
     (qI wC l (i+2+0)).length<=i+1+0/\D.int .i64 ((i+1:Nat):Int)= .int .i64 (((qI wC l (i+2+0)).length:Nat):Int)/\ys.take (qI wC l (i+2+0)).length=qI wC l (i+2+0)/\ys.drop (i+1+0)=l.drop (i+1+0):=
     ⟨by omega,l,rfl,(wr J).symm,by rw[C,B];omega,by rw[C,B],by rw[C,B,E],rfl⟩
    clear B C E;simp only[go_sem,true_and,and_true,Int.ofNat_zero];obtain⟨r0,ys,r1,r2,r3,r4,r5,r6⟩:=v;exact⟨f0,f1,rfl,r0,ys,r1,r2,r3,f5.trans r4,r5,r6⟩
   clear E a0 hq p1 p2 a1 a2 f0 f1 f5 e1 ew V;rintro m ba L hm ⟨f0,f1,f6,f7,bb,ys,G,rfl,N,f5,o,f⟩;have w:(k0.set id (.row (vbs num ys).flatten)).at' id=some (.row (vbs num ys).flatten):=zC _ _ _;have a5:=λ(H:Heap)=>tQ (P:=prog) (t:=138) (sz:=2) (id:=id) (off:=(i+1)*2) (len:=l.length- (i+1)) (h:=H) underlying138;by_cases ai:m+1<l.length- (i+1)
   ·have e1:decide (((m+1:Nat):Int)<((l.length- (i+1):Nat):Int))=true:=decide_eq_true ow;have ew:IntKind.i64.wrap (((m+1:Nat):Int)+1)=((m+2:Nat):Int):=zw (by unfold lim;omega);have V:IntKind.i64.wrap (((m+1:Nat):Int)-1)=((m:Nat):Int):=by rw[zd ow ow];omega
    have a1:=wK (P:=prog) (sz:=2) (id:=id) (off:=(i+1)*2) wG uO (k:= .i64) ai;have a2:=wK (P:=prog) (sz:=2) (id:=id) (off:=(i+1)*2) wG uO (k:= .i64) (show m<l.length- (i+1) by omega);obtain⟨x,S⟩:∃x,l[i+1+m+1]? =some x:=⟨_,getElem?_eq_getElem ow⟩;obtain⟨y,T⟩:∃y,l[i+1+m]? =some y:=⟨_,getElem?_eq_getElem ow⟩;have g1:ys[i+1+(m+1)]? =some x:=by
     have:=congrArg (λz=>z[1]?) f;simp only[getElem?_drop] at this;rw[show i+1+(m+1)=i+1+m+1 by omega,this,S]
    have g2:ys[i+1+m]? =some y:=by
     have:=congrArg (λz=>z[0]?) f;simp only[getElem?_drop,Nat.add_zero] at this;rw[this,T]
    have cg:∀ (k:Nat) (x:List Int),ys[k]? =some x->(vbs num ys)[k]? =some (Rv num x):=λk x e=>by simp[vbs,e]
    have p1:=pM (pS num ys) ow (cg _ _ g1);have p2:=pM (pS num ys) ow (cg _ _ g2);have d:qI wC l (i+2+(m+1))=if(wC x y==0)=true then qI wC l (i+2+m) else qI wC l (i+2+m)++ [x]:=by
     have:=VB (c:=wC) S T;rw[show i+2+(m+1)=i+1+m+2 by omega,this,show i+2+m=i+1+m+1 by omega]
    have p:∀zs:List (List Int),zs.drop (i+1+m)=l.drop (i+1+m)->zs.drop (i+1+(m+1))=l.drop (i+1+(m+1)):=λzs e=>by
     have:=congrArg (List.drop 1) e;simpa [drop_drop,Nat.add_assoc] using this
    generalize hR:qI wC l (i+2+m)=R at *
    have F:=heq x (mem_of_getElem? S) y (mem_of_getElem? T) (k0.set id (.row (vbs num ys).flatten));cases q:(wC x y==0) with
    |true=>
     rw[q] at F;rw[ip q] at d;have v:m<l.length/\i+1+(m+1+1)<=l.length/\∃zs:List (List Int),zs.length=l.length/\k0.set id (.row (vbs num ys).flatten)=k0.set id (.row (vbs num zs).flatten)/\
      (qI wC l (i+2+(m+1))).length<=i+1+(m+1)/\D.int .i64 ((R.length:Nat):Int)= .int .i64 (((qI wC l (i+2+(m+1))).length:Nat):Int)/\zs.take (qI wC l (i+2+(m+1))).length=qI wC l (i+2+(m+1))/\zs.drop (i+1+(m+1))=l.drop (i+1+(m+1)):=
      ⟨by omega,by omega,ys,G,rfl,by rw[d];omega,by rw[d],by rw[d];exact o,p _ f⟩
     clear o f p d g1 g2 cg S T hR N q
     repeat' first|simp only[go_sem, *]|apply bc<;>intro A
     refine zU kr ?_
     repeat' first|simp only[go_sem, *]|apply bc<;>intro A|(refine zA.mono F ?_;rintro r h ⟨O,rfl⟩)
    |false=>
     rw[q] at F;rw[iq (by rw[q];exact Bool.false_ne_true)] at d;have X:R.length<l.length:=ow;have a3:=z8 (P:=prog) (sz:=2) (id:=id) wG uO (k:= .i64) X;have a6:=fJ (P:=prog) (t:=65) w (pS num ys) ow uO (i:=R.length) (by rw[u0,G];exact X) (x:=Rv num x) rfl rfl;have K:(vbs num ys).set R.length (Rv num x)=vbs num (ys.set R.length x):=by rw[vbs,vbs,map_set]
     rw[K,rI] at a6;have a9:IntKind.i64.wrap (((R.length:Nat):Int)+1)=((R.length+1:Nat):Int):=zw (by unfold lim;omega);have v:m<l.length/\i+1+(m+1+1)<=l.length/\∃zs:List (List Int),zs.length=l.length/\k0.set id (.row (vbs num (ys.set R.length x)).flatten)=k0.set id (.row (vbs num zs).flatten)/\
      (qI wC l (i+2+(m+1))).length<=i+1+(m+1)/\D.int .i64 ((R.length+1:Nat):Int)= .int .i64 (((qI wC l (i+2+(m+1))).length:Nat):Int)/\zs.take (qI wC l (i+2+(m+1))).length=qI wC l (i+2+(m+1))/\zs.drop (i+1+(m+1))=l.drop (i+1+(m+1)):=by
      have M:(R++ [x]).length=R.length+1:=by simp
      refine⟨by omega,by omega,ys.set R.length x,by simpa using G,rfl,by rw[d,M];omega,by rw[d,M],?_,?_⟩
      ·rw[d,M,take_succ_eq_append_getElem (by rw[length_set];omega),getElem_set_self,take_set_of_le (le_refl _),o]
      ·rw[drop_set_of_lt ow];exact p _ f
     clear o f p d g1 g2 cg S T hR N q K
     repeat' first|simp only[go_sem, *]|apply bc<;>intro A
     refine zU kr ?_
     repeat' first|simp only[go_sem, *]|apply bc<;>intro A|(refine zA.mono F ?_;rintro r h ⟨O,rfl⟩)
   ·have e1:decide (((m+1:Nat):Int)<((l.length- (i+1):Nat):Int))=false:=decide_eq_false ow;have ak:i+2+m=l.length:=ow;have Y:qI wC l (i+2+m)=cpt wC l:=by rw[ak];rfl
    rw[Y] at o f5 N;have I:(cpt wC l).length<=l.length:=sv _;have a0:=λ(H:Heap)=>uF (P:=prog) (t:=138) (sz:=2) (id:=id) (h:=H) aj wG uO (k:= .i64) I;have bk:=λ(H:Heap)=>tJ (P:=prog) (t:=138) (h:=H) aj wG (id:=id) (sz:=2) uO (k:= .i64) I;obtain⟨rest,Z⟩:=fh (P:=prog) (sz:=2) (t:=138) wG mT rfl rfl w (pS num ys) (n:=(cpt wC l).length) (by rw[u0];omega);have a4:(vbs num ys).take (cpt wC l).length=vbs num (cpt wC l):=by rw[vbs,<-map_take,o];rfl
    rw[a4,rI,u0,G] at Z;have a7:=W (.rs id 2 0 (cpt wC l).length) (k0.set id (.row ((vbs num (cpt wC l)).flatten++rest))) ⟨rfl,rest,rfl⟩;clear o f ak Y a4 W;exact au
 ·have e1:decide (((i+1:Nat):Int)<(l.length:Int))=false:=decide_eq_false ow;have hd:=a λj h1 L=>U j h1 ow;clear U a b q1 h0 W;exact au
def DD (g:Heap):zA prog 284 [.nilsl, .int .i64 0, .int .i64 0, .fn (.func 156) [] []] g λ_ h'=>h'=g:=by
 have f:IntKind.i64.wrap (0+1)=1:=rfl;have c:decide ((1:Int)<0)=false:=rfl;refine xO mix func284 zAI rfl rfl ?_;simp only[f284,gJ];simp only[go_sem, *];refine yF (λj fr a=>fr 2= .int .i64 0/\fr 8= .int .i64 1/\a=g) 0 ?_ ?_
 ·simp only[go_sem,true_and,and_true,Int.ofNat_zero]
 rintro j b a _ ⟨d,e,rfl⟩;exact au
def DE (m:Int) (g:Heap):zA prog 221 [.nilsl, .int .i64 0, .int .i64 0, .int .i64 m, .fn (.func 156) [] []] g λ_ h'=>h'=g:=by
 have k:IntKind.i64.wrap (0-0)=0:=rfl;have c:decide ((0:Int)<=12)=true:=rfl;have i:=DD;refine xO mix func221 Az rfl rfl ?_;simp only[f221,gJ];simp only[go_sem, *];refine yF (λj fr a=>fr 0= .nilsl/\fr 1= .int .i64 0/\fr 2= .int .i64 0/\fr 4= .fn (.func 156) [] []/\a=g) 0 ?_ ?_
 ·simp only[go_sem,true_and,and_true,Int.ofNat_zero]
 rintro j b a _ ⟨d,e,f,h,rfl⟩;exact au
def J5 (g:Heap):zA prog 155 [.nilsl, .fn (.func 156) [] []] g λ_ h'=>h'=g:=by
 have b:u9 prog 3 145 (.int .i64 0)=some (.int .u64 0):=by kernel_rfl
 have a:=XF (n:=0) ow;have e:=λm=>DE m;have d:∀h,tU prog 138 .nilsl h=some (.int .i64 0):=λh=>yc (zZ.nil (sz:=2)) underlying138;simp only[Int.ofNat_zero] at a;refine xO mix func155 Bp rfl rfl ?_;simp only[f155,gJ]
 repeat' first|simp only[go_sem, *]|apply bc<;>intro c|(refine zA.mono (a _) ?_;rintro r h ⟨rfl,rfl⟩)
def VN (g:Heap):zA prog 157 [.nilsl, .fn (.func 125) [] []] g λr h'=>h'=g/\r= .nilsl:=by
 have b:∀h,tU prog 138 .nilsl h=some (.int .i64 0):=λh=>yc (zZ.nil (sz:=2)) underlying138;have a:decide ((0:Int)<2)=true:=rfl;refine xO mix func157 Fa rfl rfl ?_;simp only[f157,gJ];exact au
def VO {l:List (List Int)} (h0:l≠[]) (c:l.length<=16777216) (b:∀x∈l,x.length<=1048576) (a:g.at' id=some (.row (vbs num l).flatten)):
  zA prog 157 [.rs id 2 0 l.length, .fn (.func 125) [] []] g λr h'=>h'=g.del id/\r= .sl 2 (vbs num (cpt wC l)) .no:=
 zA.freezeD ((Rx h0 c b a).mono (by
  rintro r h' ⟨rfl,rest,rfl⟩;exact⟨id,_,zC _ _ _,by rw[VC],fw (pS num _) (u0 num _) rfl⟩))
def M7 (s:D):Nat->D
 |0=> .fn (.func 215) [s] []
 |1=> .fn (.func 216) [s] []
 |2=> .fn (.func 217) [s] []
 |3=> .fn (.func 218) [s] []
 |4=> .fn (.func 219) [s] []
 |_=> .fn (.func 220) [s] []
def nn (c:Cat) (fs:List Fac) (al:Nat->Option Alt) (O:KV):Nat->List (List Int)
 |0=>(yA fs al).flatMap (wZ c fs al)
 |1=>(yA fs al).flatMap (ua c fs al O)
 |2=>(yA fs al).flatMap (oy c fs al)
 |3=>(yA fs al).flatMap (wn c fs al)
 |4=>(oz fs).flatMap (rg fs O)
 |_=>dN c fs
def wB (s:D) (i:Nat):List D:=[.int .i64 (i:Int),M7 s i]
def CR (s:D):List (List D):=[wB s 0,wB s 1,wB s 2,wB s 3,wB s 4,wB s 5]
def J6 (s:D):∀i,i<6->(CR s)[i]? =some (wB s i)
 |0,_=>rfl
 |1,_=>rfl
 |2,_=>rfl
 |3,_=>rfl
 |4,_=>rfl
 |5,_=>rfl
 |n+6,h=>by omega
def kL:∀ {a:List D},a.length=2->∃x y,a= [x,y]
 | [x,y],_=>⟨x,y,rfl⟩
def zBD (sc:List D) (h:Heap):zA prog 152 [.iptr sc 0] h λr h'=>h'=h/\r= .sl 2 (CR (.iptr sc 0)) .full:=by
 refine xO mix func152 As rfl rfl ?_;simp only[f152,gJ];have j:∀ (i:Int) (f:FuncId),zt prog 229 [(0, .int .i64 i),(1, .fn (.func f) [.iptr sc 0] [])]=some (.agg [.int .i64 i, .fn (.func f) [.iptr sc 0] []]):=λi f=>by
  simp[zt,WZ,YU,qB,yU,D.cells,D.notTuple]
 have o:∀a b c d e f:List D,a.length=2->b.length=2->c.length=2->d.length=2->e.length=2->f.length=2->zI prog false h.next 225 6 [(0, .agg a),(1, .agg b),(2, .agg c),(3, .agg d),(4, .agg e),(5, .agg f)] h=some (.sl 2 [a,b,c,d,e,f] .full,h):=λa b c d e f k j l m n hf=>by
  obtain⟨p,q,rfl⟩:=kL k;obtain⟨s,t,rfl⟩:=kL j;obtain⟨u,v,rfl⟩:=kL l;obtain⟨w,x,rfl⟩:=kL m;obtain⟨e1,e2,rfl⟩:=kL n;obtain⟨y,z,rfl⟩:=kL hf;simp[zI,YT,YU,WY,D.notTuple,D.cells,si,qB,yU,yH,lim]
 simp only[go_sem,j];rw[o _ _ _ _ _ _ rfl rfl rfl rfl rfl rfl];simp only[go_sem];rfl
def zFX {M:KM Int} {O:KV} {m1 m2:Nat} (e:Stt c fs al M O sc m1 m2) (d:fs.length<=16)
  {h:FuncId} {Y:List (List Int)->(Nat->Prop)->Heap->Prop} (y:Fnd2 prog 5 h cap Y) {w:Heap} (b:Y [] S w) (a:StH M O m1 m2 w) (f:¬S m1) (g:¬S m2):∀i,i<6->
  kX prog (M7 (.iptr sc 0) i) [.fn (.func h) [] cap] w λ_ h'=>∃S',(∀i,S' i->S i\/w.next<=i)/\But S w h'/\Y (nn c fs al O i) S' h':=by
 intro i j;rcases i with _|_|_|_|_|_|i
 ·exact Jy e d y b a f g
 ·exact Eo e d y b a f g
 ·exact zA4 e d y b a f g
 ·exact Es e d y b a f g
 ·exact zA7 e d y b a f g
 ·exact zA8 e d y b a f g
 ·omega
def pa (c:Cat) (fs:List Fac) (al:Nat->Option Alt) (O:KV) (i:Nat):List (List Int):=cpt wC (srt wC ((nn c fs al O i).map pZ))
def J7 (c:Cat) (fs:List Fac) (al:Nat->Option Alt) (O:KV) (i:Nat):D:=if nn c fs al O i= [] then .nilsl else .sl 2 (vbs (i:Int) (pa c fs al O i)) .no
def J8 {O:KV} (b:fs.length<=16) (i:Nat):(nn c fs al O i).length<=16777216:=by
 have d:=sF (al:=al) b;have a:∀ {α:Type} {l:List α} {f:α->List (List Int)} {m n:Nat},l.length<=n->(∀x∈l,(f x).length<=m)->n*m<=16777216->(l.flatMap f).length<=16777216:=λh1 e h3=>Nat.le_trans (qo e) (Nat.le_trans (Nat.mul_le_mul_right _ h1) h3);unfold nn;split
 ·exact a (m:=1) d (λt _=>by unfold wZ;split<;>simp) ow
 ·exact a (m:=1) d (λt _=>by
   unfold ua;split
   ·simp
   ·split<;>simp) ow
 ·exact a (m:=16) d (λt _=>XY c b al t) ow
 ·exact a (m:=4096) d (λt _=>bl c b al t) ow
 ·exact a (m:=16) (n:=16) (Nat.le_trans (qT _ fs 0) b) (λt _=>XZ b O t) ow
 ·unfold dN;split
  ·simp
  ·exact a (m:=1) (n:=16) (Nat.le_trans (qT _ fs 0) b) (λt _=>Nat.le_refl _) ow
def Xf (l:List Int):(pZ l).length<=l.length:=Nat.le_trans (sv _) (Nat.le_of_eq (qi l).length_eq)
def M8 {O:KV} (i:Nat):∀l∈nn c fs al O i,l.length<=5:=by
 intro l a;unfold nn at a;split at a
 ·obtain⟨t,_,h⟩:=List.mem_flatMap.1 a;unfold wZ at h;split at h
  ·rw[List.mem_singleton.1 h];simp
  ·cases h
 ·obtain⟨t,_,h⟩:=List.mem_flatMap.1 a;unfold ua at h;split at h
  ·cases h
  ·split at h
   ·rw[List.mem_singleton.1 h];simp
   ·cases h
 ·obtain⟨t,_,h⟩:=List.mem_flatMap.1 a;obtain⟨k,_,h⟩:=List.mem_flatMap.1 h;unfold nj at h;split at h
  ·rw[List.mem_singleton.1 h];simp
  ·cases h
 ·obtain⟨t,_,h⟩:=List.mem_flatMap.1 a;unfold wn at h;split at h
  ·obtain⟨r,_,h⟩:=List.mem_flatMap.1 h;unfold tg at h;split at h
   ·rw[List.mem_singleton.1 h];simp
   ·cases h
  ·cases h
 ·obtain⟨t,_,h⟩:=List.mem_flatMap.1 a;unfold rg at h;split at h
  ·cases h
  ·split at h
   ·cases h
   ·obtain⟨r,_,h⟩:=List.mem_flatMap.1 h;rw[List.mem_singleton.1 h];simp
 ·unfold dN at a;split at a
  ·cases a
  ·obtain⟨r,_,h⟩:=List.mem_flatMap.1 a;rw[List.mem_singleton.1 h];simp
def M9 (sc:List D):D:= .fn (.func 151) [] [.iptr [.iptr sc 0] 0]
def Xg (sc:List D) (g:Heap):zA prog 81 [.iptr sc 0] g λr h'=>h'=g/\r=M9 sc:=by
 refine xO mix func81 zGO rfl rfl ?_;simp only[f81,gJ];simp only[go_sem,M9, *]
def LA (num:Int) (l:List (List Int)):l.map (cH num)=vbs num (l.map pZ):=by
 unfold vbs;rw[List.map_map];rfl
theorem Zh {M:KM Int} {O:KV} {m1 m2:Nat} (hs:Stt c fs al M O sc m1 m2) (hn:fs.length<=16) {Y:Nat->(Nat->Prop)->Heap->Prop} {Z:(Nat->Prop)->Heap->Prop} (y:Yld prog id 6 (λi=>[J7 c fs al O i]) Y Z) {w:Heap} (hY:Y 0 S w) (A:StH M O m1 m2 w) (n1:¬S m1) (n2:¬S m2):
  zA prog 151 [.yld id, .iptr [.iptr sc 0] 0] w λ_ h'=>∃S',(∀j,S' j->S j\/w.next<=j)/\But S w h'/\(Y 6 S' h'\/Z S' h'):=by
 have W:=zBD sc;have a8:∀h,tU prog 225 (.sl 2 (CR (.iptr sc 0)) .full) h=some (.int .i64 6):=λh=>yc (zZ.mk (sz:=2) (xs:=CR (.iptr sc 0)) .full) underlying225;refine xO mix func151 Aa rfl rfl ?_;simp only[f151,gJ]
 repeat' first|simp only[go_sem, *]|apply bc<;>intro hc|(refine zA.mono (W _) ?_;rintro r h ⟨v,rfl⟩)
 subst v
 rename Heap=>w
 refine yF (λi fr h'=>fr 0= .yld id/\fr 1= .iptr [.iptr sc 0] 0/\fr 7= .sl 2 (CR (.iptr sc 0)) .full/\fr 8= .int .i64 6/\fr 9= .int .i64 (i:Int)/\∃S',(∀j,S' j->S j\/w.next<=j)/\But S w h'/\Y i S' h') 6 ?_ ?_
 ·have I:∃S',(∀j,S' j->S j\/w.next<=j)/\But S w w/\Y 0 S' w:=⟨S,λj o=> .inl o,But.refl S w,hY⟩;simp only[go_sem,true_and,and_true,Int.ofNat_zero];exact I
 rintro i fr h1 N ⟨J,f1,f7,f8,f9,S',K,b,u⟩;by_cases p:i<6
 ·have e1:decide ((i:Int)<6)=true:=decide_eq_true ow;have ew:IntKind.i64.wrap ((i:Int)+1)=((i+1:Nat):Int):=zw (by unfold lim;omega);have hw:zM true 2 (wB (.iptr sc 0) i) 0=some (.agg (wB (.iptr sc 0) i)):=zB rfl ow;have I:∀ (h:Heap) (id:Nat),zP prog 229 (.ptr id 0) (.agg (wB (.iptr sc 0) i)) (h.new id (.row [.int .i64 0, .nilfn]))=some (h.new id (.row (wB (.iptr sc 0) i))):=λh id=>zg WY ow rfl rfl (by rcases i with _|_|_|_|_|i<;>rfl);have ha:zQ prog 225 (.sl 2 (CR (.iptr sc 0)) .full) (.int .i64 (i:Int))=some (.iptr (wB (.iptr sc 0) i) 0):=zb (zZ.mk (sz:=2) _) YT WY (J6 _ _ p)
  have ak:(wB (.iptr sc 0) i)[1]? =some (M7 (.iptr sc 0) i):=rfl;have a7:=b.1;obtain⟨H,ad,a6,a3,a2,hE⟩:∃H:Heap,(h1.new h1.next (.row (wB (.iptr sc 0) i))).new (h1.next+1) (.row [.nilsl])=H/\H.next=h1.next+2/\H.at' h1.next=some (.row (wB (.iptr sc 0) i))/\H.at' (h1.next+1)=some (.row [.nilsl])/\Ext h1 H:=
   ⟨_,rfl,zo _ (by rw[zF];exact Nat.le_refl _) _,by rw[zG ow,zK],zK _ _ _,((Ext.refl h1).new (Nat.le_refl _) _).new ow _⟩
  have n:But S w H:=b.trans (hE.but S) λi N=> .inl N;have C:StH M O m1 m2 H:=⟨⟨by rw[n.2 _ A.2.1 n1];exact A.1.1,by rw[n.2 _ A.2.2 n2];exact A.1.2⟩,by have:=A.2.1;omega,by have:=A.2.2;omega⟩;have Y0:YVf (i:Int) (M7 (.iptr sc 0) i) (h1.next+1) h1.next [] (λj=>j=h1.next+1\/j=h1.next) H:=⟨by omega,by omega,by omega,a3, .nilsl,a2, .inl ⟨rfl,rfl⟩,λe=>e,λe=>e,λj=>⟨λe=>e.elim .inl λe=> .inr (.inl e),λe=>e.elim .inl λe=>e.elim .inr λe=>e.elim⟩⟩;have P:=zFX hs hn (J3 (num:=(i:Int)) (fn:=M7 (.iptr sc 0) i) (nl:=h1.next+1) (nr:=h1.next)) Y0 C (λe=>by have:=A.2.1;omega) (λe=>by have:=A.2.2;omega) i p
  clear C n Y0
  repeat' first|simp only[go_sem,zF, *]|apply bc<;>intro
  refine kX.mono ?_ P;rintro r q ⟨S2,s2,b2,w1,w2,w3,w4,d2,w5,w6,w7,w8,w9⟩;have a5:=b2.1;have B:∀j,j<h1.next->q.at' j=h1.at' j:=λj o=>by rw[b2.2 j ow ow,hE.2 j o]
  rw[LA] at w6;have ai:=J8 (c:=c) (al:=al) (O:=O) hn i;have ag:=M8 (c:=c) (fs:=fs) (al:=al) (O:=O) i;clear P I ha hw ak ad e1;rcases w6 with⟨rfl,e⟩ | ⟨l,rfl,g1,g2,g3⟩
  ·have e0:nn c fs al O i= []:=by simpa [vbs] using e
   have hv:J7 c fs al O i= .nilsl:=by unfold J7;rw[ip e0]
   have s:Ext h1 q:=⟨by omega,B⟩;have t:=y.go i S' q p (y.ext u s);have d:∀ (m:Nat->Prop) (h5:Heap),(∀j,m j->S' j\/q.next<=j)->But S' q h5->(∀j,m j->S j\/w.next<=j)/\But S w h5:=λm h5 f k=>⟨λj o=>by
    rcases f j o with o|o
    ·exact K j o
    ·exact .inr ow,(b.trans (s.but S) λi N=> .inl N).trans k K⟩
   simp only[hv] at t;simp only[go_sem,w5,J];refine(J5 q).mono ?_;rintro r h3 v;subst v;simp only[go_sem,w5,J];refine(VN h3).mono ?_;rintro r h4 ⟨v,rfl⟩;subst v;refine t.mono ?_;rintro r h5 ⟨m,f,k,⟨rfl,D⟩ | ⟨rfl,E⟩⟩
   ·have a:=d m h5 f k;simp only[go_sem,vun,ew,J,f1,f7,f8,f9,true_and];exact⟨p,m,a.1,a.2,D⟩
   ·have a:=d m h5 f k;simp only[go_sem,vun];exact⟨m,a.1,a.2, .inr E⟩
  ·have G:(nn c fs al O i).map pZ≠[]:=λe=>g3 (by rw[e];rfl);have U:nn c fs al O i≠[]:=λe=>G (by rw[e];rfl);have a1:((nn c fs al O i).map pZ).length<=16777216:=by rw[List.length_map];exact ai
   have R:∀x∈(nn c fs al O i).map pZ,x.length<=1048576:=λx hx=>by
    obtain⟨z,hz,rfl⟩:=List.mem_map.1 hx;have h1:=Xf z;have q:=ag z hz;omega
   have hv:J7 c fs al O i= .sl 2 (vbs (i:Int) (pa c fs al O i)) .no:=by unfold J7;rw[iq U]
   have V:pa c fs al O i=cpt wC (srt wC ((nn c fs al O i).map pZ)):=rfl;rw[V] at hv;clear V;generalize(nn c fs al O i).map pZ=L at *
   have hid:H.next<=l:=by
    rcases s2 l ((w9 l).2 (.inr (.inr rfl))) with(e|e)|e
    ·exact absurd e.symm (λe=>w7 (by rw[e];rfl))
    ·exact absurd e.symm (λe=>w8 (by rw[e];rfl))
    ·exact e
   have X:=E5 (num:=(i:Int)) G a1 R g1;have sl:(srt wC L).length=L.length:=(qi L).length_eq;have s0:srt wC L≠[]:=λe=>G (List.length_eq_zero_iff.1 (by rw[<-sl,e];rfl));have F:=VO (num:=(i:Int)) s0 ow (λx hx=>R x (kF.1 hx)) (zC q l (.row (vbs (i:Int) (srt wC L)).flatten));rw[sl] at F;rw[u0] at w5;obtain⟨h3,Q,T,a4⟩:∃h3,q.set l (.row (vbs (i:Int) (srt wC L)).flatten)=h3/\h3.next=q.next/\h3.at' (h1.next+1)=some (.row [.rs l 2 0 L.length]):=⟨_,rfl,zT _ _ _,by rw[zE ow];exact w5⟩;have s:Ext h1 (h3.del l):=⟨by rw[U5,T];omega,λj o=>by rw[yI ow,<-Q,zE ow,B j o]⟩
   have a9:(h3.del l).next=q.next:=by rw[U5,T]
   rw[Q] at X F;generalize h3.del l=h4 at *
   have t:=y.go i S' h4 p (y.ext u s);have d:∀ (m:Nat->Prop) (h5:Heap),(∀j,m j->S' j\/h4.next<=j)->But S' h4 h5->(∀j,m j->S j\/w.next<=j)/\But S w h5:=λm h5 f k=>⟨λj o=>by
    rcases f j o with o|o
    ·exact K j o
    ·exact .inr ow,(b.trans (s.but S) λi N=> .inl N).trans k K⟩
   simp only[hv] at t;simp only[go_sem,w5,J];refine X.mono ?_;rintro r h ⟨rfl,v⟩;subst v;simp only[go_sem,a4,J];refine F.mono ?_;rintro r h ⟨v,rfl⟩;subst v;refine t.mono ?_;rintro r h5 ⟨m,f,k,⟨rfl,D⟩ | ⟨rfl,E⟩⟩
   ·have a:=d m h5 f k;simp only[go_sem,vun,ew,J,f1,f7,f8,f9,true_and];exact⟨p,m,a.1,a.2,D⟩
   ·have a:=d m h5 f k;simp only[go_sem,vun];exact⟨m,a.1,a.2, .inr E⟩
 ·have e1:decide ((i:Int)<6)=false:=decide_eq_false ow;have a0:i=6:=ow;subst a0;have d:∃S',(∀j,S' j->S j\/w.next<=j)/\But S w h1/\(Y 6 S' h1\/Z S' h1):=⟨S',K,b, .inl u⟩;clear K b u W;exact au
end Go.V
