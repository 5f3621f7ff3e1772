/- A machine of abstract values for programs of the model, and its soundness, part 4. No condition. -/
import Derived.Test.YtkenagjlanhnmaaGreatDoorW03
import Derived.Carry
import Derived.ChangeArms
import Derived.ChangeSame
set_option linter.all false
set_option maxHeartbeats 8000000
namespace Go.V
open Go.RowKit (Below)
def zBX{α β:Type}(f:α->Option β):List α->Option (List β)
 | []=>some []
 |a::bb=>match f a with
  |none=>none
  |some b=>match zBX f bb with
   |none=>none
   |some bs=>some (b::bs)
variable{α β:Type}{n k:Nat}{v:Value}{W w':World}{bk:Nat->Bool}{u t:TypeId}{f:FuncId}
theorem YQ{f:α->Option β} :∀{bb:List α}{c:List β},zBX f bb=some c->c.length=bb.length/\∀(i:Nat)(b:β),c[i]? =some b->∃a,bb[i]? =some a/\f a=some b
 | [],c,h=>by cases h;exact⟨rfl,λi b d=>by simp at d⟩
 |a::bb,c,h=>by
  simp only[zBX]at h;split at h
  .cases h
  .rename_i b d
   split at h
   .cases h
   .rename_i j e
    cases h;obtain⟨h1,k⟩:=YQ e;refine⟨by simp[h1],λi b' g=> ?_⟩;cases i with
    |zero=>cases g;exact⟨a,rfl,d⟩
    |succ i=>simpa using k i b' (by simpa using g)
section
variable{H:Type}
def Hg(P:Program)(r:TypeId->DataW H->Option (List D)):List Field->Nat->List (DataW H)->Option (List D)
 | [],_,[]=>some []
 |f::fs,off,d::ds=>if f.offset=off then(match r f.type d with
  |some c=>if c.length=P.cellsOf f.type then(Hg P r fs (off+c.length) ds).map (c++ ·)else none
  |none=>none)else none
 |_,_,_=>none
def Td(P:Program):Nat->TypeId->DataW H->Option (List D)
 |0,_,_=>none
 |k+1,t,d=>match P.underlying t with
  |some .bool=>match d with
   |.lit (.bool b)=>some [.bool b]
   |_=>none
  |some (.int _)=>match d with
   |.lit (.int k n)=>some [.int k n]
   |_=>none
  |some .string=>match d with
   |.lit (.string l)=>if l.length<=lim then some [.str l]else none
   |_=>none
  |some (.slice e)=>match d with
   |.nil=>some [.nilsl]
   |.slice elems _=>if decide (0<P.cellsOf e)&&decide (elems.length<=lim)then(match zBX (Td P k e) elems with
    |some xs=>if xs.all (λx=>x.length==P.cellsOf e)then some [.sl (P.cellsOf e) xs .no]else none
    |none=>none)else none
   |_=>none
  |some (.struct fs)=>match d with
   |.agg parts=>match Hg P (Td P k) fs.toList 0 parts with
    |some ds=>if ds.length=P.cellsOf t then some ds else none
    |none=>none
   |_=>none
  |_=>none
def bG(w:World):Imm:=λb o=>w.cell? ⟨b,o,none⟩
variable{enc:TypeId×Value->H}{P:Program}{w:World}{base:Nat}{held:Bool}{ρ:Ren}
def W3{a:Addr}{cs:List Value}(h:w.cells? base a n=some cs):cs.length=n/\∀i,i<n->w.cell? (a.add i)=cs[i]? :=by
 unfold World.cells? at h;split at h
 .refine⟨by simpa using mapM_some_length h,λi b=>mapM_some_get h i i (by simp[b])⟩
 .cases h
def Ip{a:Addr}(h:w.cell? a=some v):a.spot=none:=by
 unfold World.cell? at h;split at h
 .split at h
  .cases h
  .rename_i b
   cases c:a.spot with
   |none=>rfl
   |some x=>rw[c]at b;exact absurd rfl b
 .cases h
def Ti(b p i:Nat):(⟨b,p,none⟩:Addr).add i= ⟨b,p+i,none⟩:=tN b p i
theorem Nf{r:TypeId->DataW H->Option (List D)}(p:∀t cs x ds,DataW.trod enc P w base (λ_=>true) held n t cs=some x->r t x.1=some ds->wG (bG w) ρ ds cs/\ds.all D.flat=true){cs:List Value}{b:Nat}(j:cs.length=b):
  ∀(fs:List Field)(off:Nat)(xs:List (DataW H×List MemPlace))(ds:List D),(∀(i:Nat)(f:Field),fs[i]? =some f->DataW.trod enc P w base (λ_=>true) held n f.type ((cs.drop f.offset).take (P.cellsOf f.type))=xs[i]?)->xs.length=fs.length->
   Hg P r fs off (xs.map (·.1))=some ds->off+ds.length=b->wG (bG w) ρ ds (cs.drop off)/\ds.all D.flat=true
 | [],off,[],ds,_,_,h,m=>by
  simp only[nF,Hg]at h;cases h;simp only[qD,qo]at m;refine⟨?_,rfl⟩;simp only[wG];apply yS;simp;omega
 |f::fs,off,x::xs,ds,o,d,h,m=>by
  simp only[qe,Hg]at h;split at h
  .rename_i e
   split at h
   .rename_i c q
    split at h
    .rename_i k
     obtain⟨rest,hr,rfl⟩:=ze.1 h;have h0:=o 0 f rfl;simp only[wW]at h0;obtain⟨k1,k2⟩:=p _ _ _ _ h0 q;have a:=Nf p j fs (off+c.length) xs rest (λi g s=>by
      have:=o (i+1) g (by simpa using s);simpa using this) (by simpa using d) hr (by rw[zQ]at m;omega)
     refine⟨?_,by rw[uD,k2,a.2];rfl⟩;have l:cs.drop off=(cs.drop off).take c.length++cs.drop (off+c.length):=by
      rw[<-uC,qg]
     rw[l];refine uk ?_ a.1;rw[<-e,k];exact k1
    .cases h
   .cases h
  .cases h
 | [],_,_::_,_,_,d,_,_=>by simp at d
 |_::_,_,[],_,_,d,_,_=>by simp at d
theorem Ut:∀(k n:Nat)(t:TypeId)(cs:List Value)(x:DataW H×List MemPlace)(ds:List D),
  DataW.trod enc P w base (λ_=>true) held n t cs=some x->Td P k t x.1=some ds->wG (bG w) ρ ds cs/\ds.all D.flat=true
 |0,_,_,_,_,_,_,h=>by cases h
 |k+1,n,t,cs,x,ds,h,c=>by
  simp only[Td]at c;split at c
  .rename_i A
   obtain⟨b,rfl,rfl⟩:=j5 A h;cases c;exact⟨⟨_,_,rfl,uW b,rfl⟩,rfl⟩
  .rename_i q A
   obtain⟨m,rfl,rfl,hw⟩:=dP A h;cases c;refine⟨⟨_,_,rfl,wx ?_,rfl⟩,rfl⟩;rw[p7];simpa [Lit.wf]using hw
  .rename_i A
   obtain⟨s,rfl,rfl,hs⟩:=ly A h;simp only at c;split at c
   .rename_i E
    cases c;refine⟨⟨_,_,rfl,?_,rfl⟩,rfl⟩;simp only[rel];exact⟨s,rfl,rfl,E⟩
   .cases c
  .rename_i e A
   rcases jc A h with⟨rfl,rfl⟩ | ⟨a,len,cap,g,rest,m,rfl,rfl,rfl,hb,ai,ad,r,K,V,_⟩
   .cases c
    exact⟨⟨_,_,rfl,by simp only[rel],rfl⟩,rfl⟩
   .simp only at c
    split at c
    .rename_i l
     simp only[zF,zO,zI]at l;obtain⟨h0,E⟩:=l;split at c
     .rename_i xs Y
      split at c
      .rename_i I
       cases c;obtain⟨B,X⟩:=YQ Y;rw[zI]at B;have first:∀i y,(w.cells? base (a.add (i*P.cellsOf e)) (P.cellsOf e)).bind (DataW.trod enc P w base (λ_=>true) held m e)=some y->i=0->a.spot=none:=λi y G Q=>by
        obtain⟨cs',F,_⟩:=sN.1 G;obtain⟨g1,L⟩:=W3 F;have:=L 0 h0;subst Q;rw[show(a.add (0*P.cellsOf e)).add 0=a by simp[Addr.add]]at this;cases C:cs'[0]? with
        |none=>rw[pE]at C;omega
        |some v=>rw[C]at this;exact Ip this
       have u:a.spot=none\/cap=0:=by
        by_cases T:0<len
        .left
         have:=K 0 T;cases o:g[0]? with
         |none=>rw[pE]at o;omega
         |some y=>rw[o]at this;exact first 0 y this rfl
        .by_cases M:cap=0
         .exact .inr M
         .left
          obtain⟨r1,r2⟩:=V rfl;have:=r2 0 ow;cases o:rest[0]? with
          |none=>rw[pE]at o;omega
          |some y=>rw[o]at this;exact first _ y this ow
       refine⟨⟨_,_,rfl,?_,rfl⟩,rfl⟩;simp only[rel];obtain⟨b,p,sp⟩:=a;refine⟨h0,ow,b,p,cap,⟨sp,by rw[B,r],u⟩,ow,og λi z hz=> ?_,trivial⟩;have Z:z.length=P.cellsOf e:=by simpa using zT.1 I z (zh hz)
       refine⟨Z,?_⟩;obtain⟨d,J,O⟩:=X i z hz;rw[zm]at J;cases G:g[i]? with
       |none=>rw[G]at J;cases J
       |some y=>
        rw[G]at J;cases J;have Q:i<len:=by have:=(zK.1 G).1;omega
        have U:sp=none:=u.resolve_right ow;subst U;have:=K i Q;rw[G]at this;obtain⟨cs',F,W⟩:=sN.1 this;obtain⟨g1,L⟩:=W3 F;obtain⟨k1,k2⟩:=Ut k m e cs' y z W O;refine uJ λj d R=>⟨zT.1 k2 d (zh R),?_⟩;obtain⟨v,v1,v2⟩:=th k1 j d R;refine⟨v,?_,v2⟩;have S:j<P.cellsOf e:=by have:=(zK.1 R).1;omega
        have:=L j S;rw[Ti,Ti]at this;unfold bG;rw[<-v1,<-this]
      .cases c
     .cases c
    .cases c
  .rename_i fs A
   obtain⟨xs,m,rfl,rfl,r,B,hx⟩:=lz A h;simp only at c;split at c
   .rename_i ag N
    split at c
    .rename_i hl
     cases c;have:=Nf (ρ:=ρ) (n:=m) (λt cs x ds h1 h2=>Ut k m t cs x ds h1 h2) r fs.toList 0 xs ds (λi f hf=>hx i f (by simpa using hf)) (by rw[yI];exact B) N (by rw[yH];exact hl);simpa using this
    .cases c
   .cases c
  .cases c
def Ld(a:Below W.heap.size W w')(b:MemPlace->Prop):W.keptBut w' b:=by
 refine⟨a.os,a.output,λi d=> ?_⟩;rw[a.block i d];cases W.heap[i]? with
 |none=>trivial
 |some o=>
  cases o with
  |cells c t fr=>exact⟨rfl,rfl,rfl,λ_ _=>rfl⟩
  |map e clock=>exact .inr ⟨rfl,rfl⟩
  |_=>rfl
def Jg(c:Below W.heap.size W w'){a:Addr}(b:a.block<W.heap.size):w'.frozen? a=W.frozen? a:=by
 unfold World.frozen?;rw[c.block _ b]
def IY(a:Below W.heap.size W w'){p:MemPlace}(b:p.block<W.heap.size):W.sameAt w' p:=a.same b
theorem aD(j:laidOutB P=true)(i:Below W.heap.size W w'):∀{e:List TypeId}{vs:List Value}{ds:List (DataW H)}{c:List MemPlace},(∀t∈e,P.readableRec t=true/\t<P.types.size)->
  DataW.TrodAll enc P W 0 (λ_=>true) true e vs ds c->(∀p∈c,p.block<W.heap.size)->(∀p∈c,bk p.block=true)->DataW.TrodAll enc P w' 0 bk true e vs ds c
 | [],[],[],_,_,h,_,_=>h
 |t::e,v::vs,d::ds,c,f,h,b,k=>by
  simp only[DataW.TrodAll]at h⊢;obtain⟨p,q,h1,l,rfl⟩:=h;exact⟨p,q,WideElems.Trod_stays j (f t jS).1 (f t jS).2 h1 (λx a=>IY i (b x (by simp[a]))) (λx a=>k x (by simp[a])),
   aD j i (λm g=>f m (by simp[g])) l (λx a=>b x (by simp[a])) (λx a=>k x (by simp[a])),rfl⟩
 | [],_::_,_,_,_,h,_,_=>by simp[DataW.TrodAll]at h
 | [],[],_::_,_,_,h,_,_=>by simp[DataW.TrodAll]at h
 |_::_,[],_,_,_,h,_,_=>by simp[DataW.TrodAll]at h
 |_::_,_::_,[],_,_,h,_,_=>by simp[DataW.TrodAll]at h
def II{f:Func}{s:ChangeSpec}{apart fresh d h:Bool}{args:Array Value}{ds gs:List (DataW H)}{a:List MemPlace}(G:laidOutB P=true)(B:∀t∈f.params.toList,P.readableRec t=true/\t<P.types.size)
  (c:s.vars= []) (i:s.fn H ds= { results:=[.lit (.bool true)],args:=ds }) (g:f.resultTypes= #[u]) (y:P.underlying u=some .bool)
  (D:DataW.Whole enc P f.params.toList s.vars apart W args.toList ds gs a) (z:Below W.heap.size W w'):s.post enc P f apart fresh d h W args (.bool true) w':=by
 have n:=D;obtain⟨p,q,h1,m,w,L,I⟩:=D;rw[c]at m;obtain⟨rfl,rfl⟩:=ChangeShapes.trodVars_none m;simp only[yK]at w;subst w;have k:∀x∈a,x.block<W.heap.size:=n.lt;have e:∀l:Nat->Bool,(∀x∈a,l x.block=true)->DataW.TrodAll enc P w' 0 l true f.params.toList args.toList ds a:=λl K=>aD G z B h1 k K;have hr:∀(b:Nat)(l:Nat->Bool)(A:Bool),DataW.TrodAll enc P w' b l A f.resultTypes.toList ((Value.bool true).resultList f.resultTypes.size) [.lit (.bool true)] []:=λb l A=>by
  rw[g];show DataW.TrodAll enc P w' b l A [u] [.bool true] _ _;refine⟨[],[],⟨1,?_⟩,rfl,rfl⟩;simp[DataW.trod,y,Value.cells]
 have o:DataW.TrodAll enc P w' 0 (λ_=>true) true (f.resultTypes.toList++f.params.toList) ((Value.bool true).resultList f.resultTypes.size++args.toList) ([.lit (.bool true)]++ds) ([]++a):=
  ChangeShapes.trodAll_append (e _ λ_ _=>rfl) (hr _ _ _)
 refine⟨ds,[],a,[],a,[],n,?_,?_,?_,Ld z _,λ_=>⟨λj t r h1 m=> ?_,[.lit (.bool true)]++ds,[],[]++a,⟨[]++a,[],o,?_,jS,?_,?_⟩,λx C _=>by simpa using C⟩⟩
 .rw[yK,i];exact hr _ _ _
 .rw[yK,i];exact e _ λx C=>by simpa using k x C
 .rw[yK,i,c];rfl
 .rw[g]at h1 m
  have F:j=0:=by
   have:=(yF.1 h1).1;simp at this;omega
  subst F;have e1:t=u:=by simpa using h1.symm
  have e2:r=.bool true:=by simpa [Value.resultList]using m.symm
  rw[e1,e2];simp[Value.okWide,y,Cell.okWide,Cell.ok]
 .rw[c];rfl
 .intro b off J
  have v:MemPlace.cell b off∈a:=by simpa using J
  rw[Jg z (k _ v)];exact L b off (by simpa using v)
 .intro E
  simpa using I E
def zCL(P:Program)(k:Nat)(t:TypeId)(d:DataW H):Option D:=
 match Td P k t d with
 |none=>none
 |some ds=>match agT P t with
  |some ag=>if ag then some (.agg ds)else(match ds with
   | [x]=>some x
   |_=>none)
  |none=>none
def dz(P:Program):List TypeId->List (DataW H)->List D->Prop
 | [],[],[]=>True
 |t::ts,d::ds,x::xs=>(∃k,zCL P k t d=some x)/\dz P ts ds xs
 |_,_,_=>False
def QA{r:Reach}(a:Value.okWide P w r base t v):(∃cs,v=.agg cs)\/v.cells= #[v]:=by
 cases v<;>first|exact .inr rfl|exact .inl ⟨_,rfl⟩
def BX{r:Reach}{b:Nat}{d:DataW H}{x:List MemPlace}{s:D}(a:Value.okWide P w r b t v)(p:DataW.Trod enc P w base (λ_=>true) held t v d x)(f:zCL P k t d=some s):rel (bG w) ρ s v:=by
 obtain⟨n,A⟩:=p;unfold zCL at f;split at f
 .cases f
 .rename_i ds o
  obtain⟨k1,k2⟩:=Ut (ρ:=ρ) k n t v.cells.toList (d,x) ds A o;split at f
  .rename_i ag c
   unfold agT at c;split at f
   .rename_i l
    subst l;cases f;simp only[rel];unfold Value.okWide at a;split at c
    .rename_i fs g
     rw[g]at a;obtain⟨cs,rfl,_⟩:=a;exact⟨cs,rfl,k1,k2⟩
    .rename_i q e g
     rw[g]at a;obtain⟨cs,rfl,_⟩:=a;exact⟨cs,rfl,k1,k2⟩
    .cases c
    .cases c
   .rename_i j
    split at f
    .cases f
     rcases QA a with⟨cs,rfl⟩ |z
     .exfalso
      unfold Value.okWide at a;have i:ag=false:=by simpa using j
      subst i;split at c
      .cases c
      .cases c
      .rename_i u B m g
       rw[g]at a;split at a
       .rename_i fs e;cases e;exact absurd g (by first|exact B _|exact λh=>by simp_all)
       .rename_i q F e;cases e;exact absurd g (by first|exact m _ _|exact λh=>by simp_all)
       .unfold Cell.okWide at a
        rw[g]at a;cases u<;>simp[Cell.ok,g]at a
      .cases c
     .rw[z]at k1
      simp only[wG]at k1;obtain⟨C,E,e,h1,y⟩:=k1;subst y
      have:C=v:=by simpa using e.symm
      rw[<-this];exact h1
    .cases f
  .cases f
theorem NR{r:Reach}{b:Nat} :∀{f:List TypeId}{vs:List Value}{ds:List (DataW H)}{i:List MemPlace}{c:List D},(∀(j:Nat) t v,f[j]? =some t->vs[j]? =some v->Value.okWide P w r b t v)->
  DataW.TrodAll enc P w base (λ_=>true) held f vs ds i->dz P f ds c->wG (bG w) ρ c vs
 | [],[],[],_,[],_,_,_=>rfl
 |t::f,v::vs,d::ds,i,x::xs,e,h,a=>by
  simp only[DataW.TrodAll]at h;obtain⟨p,q,h1,l,_⟩:=h;simp only[dz]at a;obtain⟨⟨k,m⟩,g⟩:=a;exact⟨v,vs,rfl,BX (e 0 t v rfl rfl) h1 m,NR (λj n o e1 e2=>e (j+1) n o (by simpa using e1) (by simpa using e2)) l g⟩
 | [],_::_,_,_,_,_,h,_=>by simp[DataW.TrodAll]at h
 | [],[],_::_,_,_,_,h,_=>by simp[DataW.TrodAll]at h
 |_::_,[],_,_,_,_,h,_=>by simp[DataW.TrodAll]at h
 |_::_,_::_,[],_,_,_,h,_=>by simp[DataW.TrodAll]at h
 | [],[],[],_,_::_,_,_,a=>by simp[dz]at a
 |_::_,_::_,_::_,_,[],_,_,a=>by simp[dz]at a
def Ru{fn:Func}{s:ChangeSpec}{apart fresh a g:Bool}{b:Nat}{args:Array Value}{ds gs:List (DataW H)}{c:List MemPlace}{h:List D}(F:laidOutB P=true)
  (A:∀t∈fn.params.toList,P.readableRec t=true/\t<P.types.size) (l:s.vars= []) (y:s.fn H ds= { results:=[.lit (.bool true)],args:=ds }) (n:fn.resultTypes= #[u]) (z:P.underlying u=some .bool)
  (r:∀(j:Nat) t v,fn.params[j]? =some t->args[j]? =some v->Value.okWide P W .any b t v) (E:DataW.Whole enc P fn.params.toList s.vars apart W args.toList ds gs c)
  (x:dz P fn.params.toList ds h) (k:KT P W) (J:zD P f h Heap.emp λd _=>d=.bool true):
  Calls P f args W λe C=>∃v,e=.returned v/\s.post enc P fn apart fresh a g W args v C:=by
 have w:=E;obtain⟨p,q,h1,_⟩:=E;have hr:wG (bG W) (λ_=>none) h args.toList:=NR (λj t v e1 e2=>r j t v (by simpa using e1) (by simpa using e2)) h1 x
 let B:Base:=⟨W,bG W,λb=>b<W.heap.size,λ_ m=>m⟩
 have I:Sim B [] (bG W) (λ_=>none) Heap.emp W:=
  { below:=⟨rfl,rfl,rfl,zC _,λ_ _=>rfl,zC _⟩,imm:=λb o v e=>e,live:=λi M e=>(by cases e),apart:=λi j N O K L e=>(by cases e),gdef:=λb m=>(by cases m),old:=λb o v _ e=>e }
 refine(J.2 B [] _ _ W args (Tg.start k) I (λ_ _=>rfl) hr).mono λe C G=> ?_;obtain⟨v,M',Q,d,h',rfl,_,_,k3,_,k5,rfl⟩:=G;simp only[rel]at k5;subst k5;exact⟨_,rfl,II F A l y n z w ⟨k3.below.os,k3.below.tape,k3.below.output,k3.below.size,λb m=>k3.below.block b m⟩⟩
mutual
def YC:DataW H->Bool
 |.lit l=>match l with
  |.string s=>decide (s.length<=lim)
  |_=>true
 |.nil=>true
 |.ptr _=>true
 |.slice elems _=>decide (elems.length<=lim)&&jU elems
 |.agg parts=>jU parts
 |.iface _ _=>true
 |.map _=>true
 |.held _=>true
def jU:List (DataW H)->Bool
 | []=>true
 |d::ds=>YC d&&jU ds
end
theorem gq:∀{ds:List (DataW H)},jU ds=true->∀d∈ds,YC d=true
 | [],_,_,h=>by cases h
 |d::ds,a,x,b=>by
  simp only[jU,zF]at a;rcases z7.1 b with rfl|b
  .exact a.1
  .exact gq a.2 x b
def RU(P:Program):List Field->Nat->Nat->Bool
 | [],off,n=>off==n
 |f::fs,off,n=>f.offset==off&&RU P fs (off+P.cellsOf f.type) n
def IG(P:Program)(S:List TypeId):Bool:=S.all λt=>match P.underlying t with
 |some .bool=>P.cellsOf t==1
 |some (.int _)=>P.cellsOf t==1
 |some .string=>P.cellsOf t==1
 |some (.slice e)=>S.contains e&&decide (0<P.cellsOf e)&&P.cellsOf t==1
 |some (.struct fs)=>RU P fs.toList 0 (P.cellsOf t)&&fs.toList.all λf=>S.contains f.type
 |_=>false
theorem R1{f:α->Option β} :∀{bb:List α},(∀a∈bb,∃b,f a=some b)->∃c,zBX f bb=some c
 | [],_=>⟨[],rfl⟩
 |a::bb,h=>by
  obtain⟨b,e⟩:=h a jS;obtain⟨c,d⟩:=R1 (f:=f) (bb:=bb) λx g=>h x (by simp[g]);exact⟨b::c,by simp[zBX,e,d]⟩
theorem RL{S:List TypeId}{r:TypeId->DataW H->Option (List D)}(p:∀t cs x,t∈S->DataW.trod enc P w base (λ_=>true) held n t cs=some x->YC x.1=true->∃ds,r t x.1=some ds/\ds.length=P.cellsOf t){cs:List Value}{a:Nat} :
  ∀(fs:List Field)(off:Nat)(xs:List (DataW H×List MemPlace)),(∀(i:Nat)(f:Field),fs[i]? =some f->DataW.trod enc P w base (λ_=>true) held n f.type ((cs.drop f.offset).take (P.cellsOf f.type))=xs[i]?)->xs.length=fs.length->
   (∀f∈fs,f.type∈S)->RU P fs off a=true->(∀x∈xs,YC x.1=true)->∃ds,Hg P r fs off (xs.map (·.1))=some ds/\off+ds.length=a
 | [],off,[],_,_,_,b,_=>⟨[],rfl,by simpa [RU]using b⟩
 |f::fs,off,x::xs,o,e,m,b,h=>by
  simp only[RU,zF,qz]at b;have h0:=o 0 f rfl;simp only[wW]at h0;obtain⟨c,j,d⟩:=p _ _ _ (m f jS) h0 (h x jS);obtain⟨rest,l,q⟩:=RL p fs (off+c.length) xs (λi g k=>by
   have:=o (i+1) g (by simpa using k);simpa using this) (by simpa using e) (λg k=>m g (by simp[k])) (by rw[d];exact b.2) (λy s=>h y (by simp[s]))
  refine⟨c++rest,?_,by rw[zQ];omega⟩;simp only[qe,Hg,ip b.1,j,ip d,l,qZ]
 | [],_,_::_,_,e,_,_,_=>by simp at e
 |_::_,_,[],_,e,_,_,_=>by simp at e
theorem Y7{S:List TypeId}(G:IG P S=true):∀(n:Nat)(t:TypeId)(cs:List Value)(x:DataW H×List MemPlace),t∈S->DataW.trod enc P w base (λ_=>true) held n t cs=some x->YC x.1=true->∃ds,Td P n t x.1=some ds/\ds.length=P.cellsOf t
 |0,_,_,_,_,h,_=>by simp[DataW.trod]at h
 |n+1,t,cs,x,R,h,u=>by
  have c:=zT.1 G t R;split at c
  .rename_i j
   obtain⟨b,rfl,rfl⟩:=j5 j h;exact⟨[.bool b],by simp only[Td,j],by have:=qz.1 c;exact this.symm⟩
  .rename_i q j
   obtain⟨m,rfl,rfl,W⟩:=dP j h;exact⟨[.int q m],by simp only[Td,j],by have:=qz.1 c;exact this.symm⟩
  .rename_i j
   obtain⟨b,rfl,rfl,_⟩:=ly j h;have N:b.data.toList.length<=lim:=by simpa [YC]using u
   exact⟨[.str b.data.toList],by simp only[Td,j,ip N],by have:=qz.1 c;exact this.symm⟩
  .rename_i e j
   simp only[zF,zO,qz,rx]at c;obtain⟨⟨M,h0⟩,h1⟩:=c;rcases jc j h with⟨rfl,rfl⟩ | ⟨a,len,cap,g,rest,m,Q,rfl,rfl,V,O,K,C,F,_⟩
   .exact⟨[.nilsl],by simp only[Td,j],h1.symm⟩
   .have p:m=n:=ow
    subst p;simp only[YC,zF,zO,zI]at u;have l:∀(i:Nat)(y:DataW H×List MemPlace),g[i]? =some y->∃ds,Td P m e y.1=some ds/\ds.length=P.cellsOf e:=λi y k=>by
     have B:i<len:=by have:=(zK.1 k).1;omega
     have:=F i B;rw[k]at this;obtain⟨cs',_,I⟩:=sN.1 this;exact Y7 G m e cs' y M I (gq u.2 _ (zS.2 ⟨y,zh k,rfl⟩))
    obtain⟨xs,D⟩:=R1 (f:=Td P m e) (bb:=g.map (·.1)) λd o=>by
     obtain⟨y,k,rfl⟩:=zS.1 o;obtain⟨i,B⟩:=yh.1 k;obtain⟨ds,s,_⟩:=l i y B;exact⟨ds,s⟩
    have A:xs.all (λx=>x.length==P.cellsOf e)=true:=zT.2 λz U=>by
     obtain⟨i,B⟩:=yh.1 U;obtain⟨d,o,E⟩:=(YQ D).2 i z B;rw[zm]at o;cases k:g[i]? with
     |none=>rw[k]at o;cases o
     |some y=>
      rw[k]at o;cases o;obtain⟨ds,s,v⟩:=l i y k;rw[E]at s;cases s;simpa using v
    refine⟨[.sl (P.cellsOf e) xs .no],by simp only[Td,j,D,A,zI,zR h0,zR u.1,wU,qF],h1.symm⟩
  .rename_i fs j
   simp only[zF,zT,rx,zO]at c;obtain⟨xs,m,Q,rfl,C,J,T⟩:=lz j h;have p:m=n:=ow;subst p;simp only[YC]at u;obtain⟨ds,s,v⟩:=RL (r:=Td P m) (n:=m) (λt cs x h1 L h3=>Y7 G m t cs x h1 L h3) (cs:=cs) fs.toList 0 xs (λi f hf=>T i f (by simpa using hf)) (by rw[yI];exact J) c.2 c.1 (λy k=>gq u _ (zS.2 ⟨y,k,rfl⟩));rw[yH]at v;exact⟨ds,by simp only[Td,j,s,ip v],v⟩
  .cases c
def zHw(P:Program)(S:List TypeId)(t:TypeId):Bool:=S.contains t&&(match agT P t with
 |some ag=>ag||P.cellsOf t==1
 |none=>false)
end
end Go.V
