/- A machine of abstract values for programs of the model, and its soundness, part 4. No condition. -/
import Derived.Test.YtkenagjlanhnmaaGreatDoorW03
import Derived.Carry
import Derived.ChangeArms
import Derived.ChangeSame
set_option linter.all false
set_option maxHeartbeats 8000000
namespace Go.V
open Go.RowKit (Below)
def zC7{α β:Type}(f:α->Option β):List α->Option (List β)
 | []=>some []
 |a::bb=>match f a with
  |none=>none
  |some b=>match zC7 f bb with
   |none=>none
   |some bs=>some (b::bs)
variable{α β:Type}{n k:Nat}{v:Value}{W w':World}{bk:Nat->Bool}{u t:TypeId}{f:FuncId}
theorem XG{f:α->Option β} :∀{bb:List α}{c:List β},zC7 f bb=some c->c.length=bb.length/\∀(i:Nat)(b:β),c[i]? =some b->∃a,bb[i]? =some a/\f a=some b
 | [],c,h=>by cases h;exact⟨rfl,λi b d=>by simp at d⟩
 |a::bb,c,h=>by
  simp only[zC7]at h;split at h
  .cases h
  .rename_i b d
   split at h
   .cases h
   .rename_i j e
    cases h;obtain⟨h1,k⟩:=XG e;refine⟨by simp[h1],λi b' g=> ?_⟩;cases i with
    |zero=>cases g;exact⟨a,rfl,d⟩
    |succ i=>simpa using k i b' (by simpa using g)
section
variable{H:Type}
def FS(P:Program)(r:TypeId->DataW H->Option (List D)):List Field->Nat->List (DataW H)->Option (List D)
 | [],_,[]=>some []
 |f::fs,off,d::ds=>if f.offset=off then(match r f.type d with
  |some c=>if c.length=P.cellsOf f.type then(FS P r fs (off+c.length) ds).map (c++ ·)else none
  |none=>none)else none
 |_,_,_=>none
def Rh(P:Program):Nat->TypeId->DataW H->Option (List D)
 |0,_,_=>none
 |k+1,t,d=>match P.underlying t with
  |some .bool=>match d with
   |.lit (.bool b)=>some [.bool b]
   |_=>none
  |some (.int _)=>match d with
   |.lit (.int k n)=>some [.int k n]
   |_=>none
  |some .string=>match d with
   |.lit (.string l)=>if l.length<=lim then some [.str l]else none
   |_=>none
  |some (.slice e)=>match d with
   |.nil=>some [.nilsl]
   |.slice elems _=>if decide (0<P.cellsOf e)&&decide (elems.length<=lim)then(match zC7 (Rh P k e) elems with
    |some xs=>if xs.all (λx=>x.length==P.cellsOf e)then some [.sl (P.cellsOf e) xs .no]else none
    |none=>none)else none
   |_=>none
  |some (.struct fs)=>match d with
   |.agg parts=>match FS P (Rh P k) fs.toList 0 parts with
    |some ds=>if ds.length=P.cellsOf t then some ds else none
    |none=>none
   |_=>none
  |_=>none
def bv(w:World):Imm:=λb o=>w.cell? ⟨b,o,none⟩
variable{enc:TypeId×Value->H}{P:Program}{w:World}{base:Nat}{held:Bool}{ρ:Ren}
def V3{a:Addr}{cs:List Value}(h:w.cells? base a n=some cs):cs.length=n/\∀i,i<n->w.cell? (a.add i)=cs[i]? :=by
 unfold World.cells? at h;split at h
 .refine⟨by simpa using mapM_some_length h,λi b=>mapM_some_get h i i (by simp[b])⟩
 .cases h
def Gd{a:Addr}(h:w.cell? a=some v):a.spot=none:=by
 unfold World.cell? at h;split at h
 .split at h
  .cases h
  .rename_i b
   cases c:a.spot with
   |none=>rfl
   |some x=>rw[c]at b;exact absurd rfl b
 .cases h
def Rl(b p i:Nat):(⟨b,p,none⟩:Addr).add i= ⟨b,p+i,none⟩:=tp b p i
theorem Mp{r:TypeId->DataW H->Option (List D)}(p:∀t cs x ds,DataW.trod enc P w base (λ_=>true) held n t cs=some x->r t x.1=some ds->wI (bv w) ρ ds cs/\ds.all D.flat=true){cs:List Value}{b:Nat}(j:cs.length=b):
  ∀(fs:List Field)(off:Nat)(xs:List (DataW H×List MemPlace))(ds:List D),(∀(i:Nat)(f:Field),fs[i]? =some f->DataW.trod enc P w base (λ_=>true) held n f.type ((cs.drop f.offset).take (P.cellsOf f.type))=xs[i]?)->xs.length=fs.length->
   FS P r fs off (xs.map (·.1))=some ds->off+ds.length=b->wI (bv w) ρ ds (cs.drop off)/\ds.all D.flat=true
 | [],off,[],ds,_,_,h,m=>by
  simp only[oE,FS]at h;cases h;simp only[qO,wZ]at m;refine⟨?_,rfl⟩;simp only[wI];apply ye;simp;omega
 |f::fs,off,x::xs,ds,o,d,h,m=>by
  simp only[qV,FS]at h;split at h
  .rename_i e
   split at h
   .rename_i c q
    split at h
    .rename_i k
     obtain⟨rest,hr,rfl⟩:=ze.1 h;have h0:=o 0 f rfl;simp only[wJ]at h0;obtain⟨k1,k2⟩:=p _ _ _ _ h0 q;have a:=Mp p j fs (off+c.length) xs rest (λi g s=>by
      have:=o (i+1) g (by simpa using s);simpa using this) (by simpa using d) hr (by rw[zS]at m;omega)
     refine⟨?_,by rw[uO,k2,a.2];rfl⟩;have l:cs.drop off=(cs.drop off).take c.length++cs.drop (off+c.length):=by
      rw[<-uM,yk]
     rw[l];refine tE ?_ a.1;rw[<-e,k];exact k1
    .cases h
   .cases h
  .cases h
 | [],_,_::_,_,_,d,_,_=>by simp at d
 |_::_,_,[],_,_,d,_,_=>by simp at d
theorem Tt:∀(k n:Nat)(t:TypeId)(cs:List Value)(x:DataW H×List MemPlace)(ds:List D),
  DataW.trod enc P w base (λ_=>true) held n t cs=some x->Rh P k t x.1=some ds->wI (bv w) ρ ds cs/\ds.all D.flat=true
 |0,_,_,_,_,_,_,h=>by cases h
 |k+1,n,t,cs,x,ds,h,c=>by
  simp only[Rh]at c;split at c
  .rename_i A
   obtain⟨b,rfl,rfl⟩:=gZ A h;cases c;exact⟨⟨_,_,rfl,uv b,rfl⟩,rfl⟩
  .rename_i q A
   obtain⟨m,rfl,rfl,hw⟩:=cI A h;cases c;refine⟨⟨_,_,rfl,uJ ?_,rfl⟩,rfl⟩;rw[ou];simpa [Lit.wf]using hw
  .rename_i A
   obtain⟨s,rfl,rfl,hs⟩:=kZ A h;simp only at c;split at c
   .rename_i E
    cases c;refine⟨⟨_,_,rfl,?_,rfl⟩,rfl⟩;simp only[rel];exact⟨s,rfl,rfl,E⟩
   .cases c
  .rename_i e A
   rcases gE A h with⟨rfl,rfl⟩ | ⟨a,len,cap,g,rest,m,rfl,rfl,rfl,hb,ai,ad,r,K,V,_⟩
   .cases c
    exact⟨⟨_,_,rfl,by simp only[rel],rfl⟩,rfl⟩
   .simp only at c
    split at c
    .rename_i l
     simp only[zF,zP,zH]at l;obtain⟨h0,E⟩:=l;split at c
     .rename_i xs Y
      split at c
      .rename_i I
       cases c;obtain⟨B,X⟩:=XG Y;rw[zH]at B;have first:∀i y,(w.cells? base (a.add (i*P.cellsOf e)) (P.cellsOf e)).bind (DataW.trod enc P w base (λ_=>true) held m e)=some y->i=0->a.spot=none:=λi y G Q=>by
        obtain⟨cs',F,_⟩:=su.1 G;obtain⟨g1,L⟩:=V3 F;have:=L 0 h0;subst Q;rw[show(a.add (0*P.cellsOf e)).add 0=a by simp[Addr.add]]at this;cases C:cs'[0]? with
        |none=>rw[pb]at C;omega
        |some v=>rw[C]at this;exact Gd this
       have u:a.spot=none\/cap=0:=by
        by_cases T:0<len
        .left
         have:=K 0 T;cases o:g[0]? with
         |none=>rw[pb]at o;omega
         |some y=>rw[o]at this;exact first 0 y this rfl
        .by_cases M:cap=0
         .exact .inr M
         .left
          obtain⟨r1,r2⟩:=V rfl;have:=r2 0 ow;cases o:rest[0]? with
          |none=>rw[pb]at o;omega
          |some y=>rw[o]at this;exact first _ y this ow
       refine⟨⟨_,_,rfl,?_,rfl⟩,rfl⟩;simp only[rel];obtain⟨b,p,sp⟩:=a;refine⟨h0,ow,b,p,cap,⟨sp,by rw[B,r],u⟩,ow,nS λi z hz=> ?_,trivial⟩;have Z:z.length=P.cellsOf e:=by simpa using zb.1 I z (zj hz)
       refine⟨Z,?_⟩;obtain⟨d,J,O⟩:=X i z hz;rw[zh]at J;cases G:g[i]? with
       |none=>rw[G]at J;cases J
       |some y=>
        rw[G]at J;cases J;have Q:i<len:=by have:=(zK.1 G).1;omega
        have U:sp=none:=u.resolve_right ow;subst U;have:=K i Q;rw[G]at this;obtain⟨cs',F,W⟩:=su.1 this;obtain⟨g1,L⟩:=V3 F;obtain⟨k1,k2⟩:=Tt k m e cs' y z W O;refine uT λj d R=>⟨zb.1 k2 d (zj R),?_⟩;obtain⟨v,v1,v2⟩:=sJ k1 j d R;refine⟨v,?_,v2⟩;have S:j<P.cellsOf e:=by have:=(zK.1 R).1;omega
        have:=L j S;rw[Rl,Rl]at this;unfold bv;rw[<-v1,<-this]
      .cases c
     .cases c
    .cases c
  .rename_i fs A
   obtain⟨xs,m,rfl,rfl,r,B,hx⟩:=kg A h;simp only at c;split at c
   .rename_i ag N
    split at c
    .rename_i hl
     cases c;have:=Mp (ρ:=ρ) (n:=m) (λt cs x ds h1 h2=>Tt k m t cs x ds h1 h2) r fs.toList 0 xs ds (λi f hf=>hx i f (by simpa using hf)) (by rw[yX];exact B) N (by rw[yP];exact hl);simpa using this
    .cases c
   .cases c
  .cases c
def JH(a:Below W.heap.size W w')(b:MemPlace->Prop):W.keptBut w' b:=by
 refine⟨a.os,a.output,λi d=> ?_⟩;rw[a.block i d];cases W.heap[i]? with
 |none=>trivial
 |some o=>
  cases o with
  |cells c t fr=>exact⟨rfl,rfl,rfl,λ_ _=>rfl⟩
  |map e clock=>exact .inr ⟨rfl,rfl⟩
  |_=>rfl
def HK(c:Below W.heap.size W w'){a:Addr}(b:a.block<W.heap.size):w'.frozen? a=W.frozen? a:=by
 unfold World.frozen?;rw[c.block _ b]
def GP(a:Below W.heap.size W w'){p:MemPlace}(b:p.block<W.heap.size):W.sameAt w' p:=a.same b
theorem ZA(j:laidOutB P=true)(i:Below W.heap.size W w'):∀{e:List TypeId}{vs:List Value}{ds:List (DataW H)}{c:List MemPlace},(∀t∈e,P.readableRec t=true/\t<P.types.size)->
  DataW.TrodAll enc P W 0 (λ_=>true) true e vs ds c->(∀p∈c,p.block<W.heap.size)->(∀p∈c,bk p.block=true)->DataW.TrodAll enc P w' 0 bk true e vs ds c
 | [],[],[],_,_,h,_,_=>h
 |t::e,v::vs,d::ds,c,f,h,b,k=>by
  simp only[DataW.TrodAll]at h⊢;obtain⟨p,q,h1,l,rfl⟩:=h;exact⟨p,q,WideElems.Trod_stays j (f t jS).1 (f t jS).2 h1 (λx a=>GP i (b x (by simp[a]))) (λx a=>k x (by simp[a])),
   ZA j i (λm g=>f m (by simp[g])) l (λx a=>b x (by simp[a])) (λx a=>k x (by simp[a])),rfl⟩
 | [],_::_,_,_,_,h,_,_=>by simp[DataW.TrodAll]at h
 | [],[],_::_,_,_,h,_,_=>by simp[DataW.TrodAll]at h
 |_::_,[],_,_,_,h,_,_=>by simp[DataW.TrodAll]at h
 |_::_,_::_,[],_,_,h,_,_=>by simp[DataW.TrodAll]at h
def H8{f:Func}{s:ChangeSpec}{apart fresh d h:Bool}{args:Array Value}{ds gs:List (DataW H)}{a:List MemPlace}(G:laidOutB P=true)(B:∀t∈f.params.toList,P.readableRec t=true/\t<P.types.size)
  (c:s.vars= []) (i:s.fn H ds= { results:=[.lit (.bool true)],args:=ds }) (g:f.resultTypes= #[u]) (y:P.underlying u=some .bool)
  (D:DataW.Whole enc P f.params.toList s.vars apart W args.toList ds gs a) (z:Below W.heap.size W w'):s.post enc P f apart fresh d h W args (.bool true) w':=by
 have n:=D;obtain⟨p,q,h1,m,w,L,I⟩:=D;rw[c]at m;obtain⟨rfl,rfl⟩:=ChangeShapes.trodVars_none m;simp only[yC]at w;subst w;have k:∀x∈a,x.block<W.heap.size:=n.lt;have e:∀l:Nat->Bool,(∀x∈a,l x.block=true)->DataW.TrodAll enc P w' 0 l true f.params.toList args.toList ds a:=λl K=>ZA G z B h1 k K;have hr:∀(b:Nat)(l:Nat->Bool)(A:Bool),DataW.TrodAll enc P w' b l A f.resultTypes.toList ((Value.bool true).resultList f.resultTypes.size) [.lit (.bool true)] []:=λb l A=>by
  rw[g];show DataW.TrodAll enc P w' b l A [u] [.bool true] _ _;refine⟨[],[],⟨1,?_⟩,rfl,rfl⟩;simp[DataW.trod,y,Value.cells]
 have o:DataW.TrodAll enc P w' 0 (λ_=>true) true (f.resultTypes.toList++f.params.toList) ((Value.bool true).resultList f.resultTypes.size++args.toList) ([.lit (.bool true)]++ds) ([]++a):=
  ChangeShapes.trodAll_append (e _ λ_ _=>rfl) (hr _ _ _)
 refine⟨ds,[],a,[],a,[],n,?_,?_,?_,JH z _,λ_=>⟨λj t r h1 m=> ?_,[.lit (.bool true)]++ds,[],[]++a,⟨[]++a,[],o,?_,jS,?_,?_⟩,λx C _=>by simpa using C⟩⟩
 .rw[yC,i];exact hr _ _ _
 .rw[yC,i];exact e _ λx C=>by simpa using k x C
 .rw[yC,i,c];rfl
 .rw[g]at h1 m
  have F:j=0:=by
   have:=(yS.1 h1).1;simp at this;omega
  subst F;have e1:t=u:=by simpa using h1.symm
  have e2:r=.bool true:=by simpa [Value.resultList]using m.symm
  rw[e1,e2];simp[Value.okWide,y,Cell.okWide,Cell.ok]
 .rw[c];rfl
 .intro b off J
  have v:MemPlace.cell b off∈a:=by simpa using J
  rw[HK z (k _ v)];exact L b off (by simpa using v)
 .intro E
  simpa using I E
def zDy(P:Program)(k:Nat)(t:TypeId)(d:DataW H):Option D:=
 match Rh P k t d with
 |none=>none
 |some ds=>match agT P t with
  |some ag=>if ag then some (.agg ds)else(match ds with
   | [x]=>some x
   |_=>none)
  |none=>none
def cq(P:Program):List TypeId->List (DataW H)->List D->Prop
 | [],[],[]=>True
 |t::ts,d::ds,x::xs=>(∃k,zDy P k t d=some x)/\cq P ts ds xs
 |_,_,_=>False
def PD{r:Reach}(a:Value.okWide P w r base t v):(∃cs,v=.agg cs)\/v.cells= #[v]:=by
 cases v<;>first|exact .inr rfl|exact .inl ⟨_,rfl⟩
def zAG{r:Reach}{b:Nat}{d:DataW H}{x:List MemPlace}{s:D}(a:Value.okWide P w r b t v)(p:DataW.Trod enc P w base (λ_=>true) held t v d x)(f:zDy P k t d=some s):rel (bv w) ρ s v:=by
 obtain⟨n,A⟩:=p;unfold zDy at f;split at f
 .cases f
 .rename_i ds o
  obtain⟨k1,k2⟩:=Tt (ρ:=ρ) k n t v.cells.toList (d,x) ds A o;split at f
  .rename_i ag c
   unfold agT at c;split at f
   .rename_i l
    subst l;cases f;simp only[rel];unfold Value.okWide at a;split at c
    .rename_i fs g
     rw[g]at a;obtain⟨cs,rfl,_⟩:=a;exact⟨cs,rfl,k1,k2⟩
    .rename_i q e g
     rw[g]at a;obtain⟨cs,rfl,_⟩:=a;exact⟨cs,rfl,k1,k2⟩
    .cases c
    .cases c
   .rename_i j
    split at f
    .cases f
     rcases PD a with⟨cs,rfl⟩ |z
     .exfalso
      unfold Value.okWide at a;have i:ag=false:=by simpa using j
      subst i;split at c
      .cases c
      .cases c
      .rename_i u B m g
       rw[g]at a;split at a
       .rename_i fs e;cases e;exact absurd g (by first|exact B _|exact λh=>by simp_all)
       .rename_i q F e;cases e;exact absurd g (by first|exact m _ _|exact λh=>by simp_all)
       .unfold Cell.okWide at a
        rw[g]at a;cases u<;>simp[Cell.ok,g]at a
      .cases c
     .rw[z]at k1
      simp only[wI]at k1;obtain⟨C,E,e,h1,y⟩:=k1;subst y
      have:C=v:=by simpa using e.symm
      rw[<-this];exact h1
    .cases f
  .cases f
theorem Md{r:Reach}{b:Nat} :∀{f:List TypeId}{vs:List Value}{ds:List (DataW H)}{i:List MemPlace}{c:List D},(∀(j:Nat) t v,f[j]? =some t->vs[j]? =some v->Value.okWide P w r b t v)->
  DataW.TrodAll enc P w base (λ_=>true) held f vs ds i->cq P f ds c->wI (bv w) ρ c vs
 | [],[],[],_,[],_,_,_=>rfl
 |t::f,v::vs,d::ds,i,x::xs,e,h,a=>by
  simp only[DataW.TrodAll]at h;obtain⟨p,q,h1,l,_⟩:=h;simp only[cq]at a;obtain⟨⟨k,m⟩,g⟩:=a;exact⟨v,vs,rfl,zAG (e 0 t v rfl rfl) h1 m,Md (λj n o e1 e2=>e (j+1) n o (by simpa using e1) (by simpa using e2)) l g⟩
 | [],_::_,_,_,_,_,h,_=>by simp[DataW.TrodAll]at h
 | [],[],_::_,_,_,_,h,_=>by simp[DataW.TrodAll]at h
 |_::_,[],_,_,_,_,h,_=>by simp[DataW.TrodAll]at h
 |_::_,_::_,[],_,_,_,h,_=>by simp[DataW.TrodAll]at h
 | [],[],[],_,_::_,_,_,a=>by simp[cq]at a
 |_::_,_::_,_::_,_,[],_,_,a=>by simp[cq]at a
def Qy{fn:Func}{s:ChangeSpec}{apart fresh a g:Bool}{b:Nat}{args:Array Value}{ds gs:List (DataW H)}{c:List MemPlace}{h:List D}(F:laidOutB P=true)
  (A:∀t∈fn.params.toList,P.readableRec t=true/\t<P.types.size) (l:s.vars= []) (y:s.fn H ds= { results:=[.lit (.bool true)],args:=ds }) (n:fn.resultTypes= #[u]) (z:P.underlying u=some .bool)
  (r:∀(j:Nat) t v,fn.params[j]? =some t->args[j]? =some v->Value.okWide P W .any b t v) (E:DataW.Whole enc P fn.params.toList s.vars apart W args.toList ds gs c)
  (x:cq P fn.params.toList ds h) (k:Jz P W) (J:zE P f h Heap.emp λd _=>d=.bool true):
  Calls P f args W λe C=>∃v,e=.returned v/\s.post enc P fn apart fresh a g W args v C:=by
 have w:=E;obtain⟨p,q,h1,_⟩:=E;have hr:wI (bv W) (λ_=>none) h args.toList:=Md (λj t v e1 e2=>r j t v (by simpa using e1) (by simpa using e2)) h1 x
 let B:Base:=⟨W,bv W,λb=>b<W.heap.size,λ_ m=>m⟩
 have I:Sim B [] (bv W) (λ_=>none) Heap.emp W:=
  { below:=⟨rfl,rfl,rfl,zD _,λ_ _=>rfl,zD _⟩,imm:=λb o v e=>e,live:=λi M e=>(by cases e),apart:=λi j N O K L e=>(by cases e),gdef:=λb m=>(by cases m),old:=λb o v _ e=>e }
 refine(J.2 B [] _ _ W args (Rg.start k) I (λ_ _=>rfl) hr).mono λe C G=> ?_;obtain⟨v,M',Q,d,h',rfl,_,_,k3,_,k5,rfl⟩:=G;simp only[rel]at k5;subst k5;exact⟨_,rfl,H8 F A l y n z w ⟨k3.below.os,k3.below.tape,k3.below.output,k3.below.size,λb m=>k3.below.block b m⟩⟩
mutual
def Yy:DataW H->Bool
 |.lit l=>match l with
  |.string s=>decide (s.length<=lim)
  |_=>true
 |.nil=>true
 |.ptr _=>true
 |.slice elems _=>decide (elems.length<=lim)&&j6 elems
 |.agg parts=>j6 parts
 |.iface _ _=>true
 |.map _=>true
 |.held _=>true
def j6:List (DataW H)->Bool
 | []=>true
 |d::ds=>Yy d&&j6 ds
end
theorem fh:∀{ds:List (DataW H)},j6 ds=true->∀d∈ds,Yy d=true
 | [],_,_,h=>by cases h
 |d::ds,a,x,b=>by
  simp only[j6,zF]at a;rcases yE.1 b with rfl|b
  .exact a.1
  .exact fh a.2 x b
def QW(P:Program):List Field->Nat->Nat->Bool
 | [],off,n=>off==n
 |f::fs,off,n=>f.offset==off&&QW P fs (off+P.cellsOf f.type) n
def H6(P:Program)(S:List TypeId):Bool:=S.all λt=>match P.underlying t with
 |some .bool=>P.cellsOf t==1
 |some (.int _)=>P.cellsOf t==1
 |some .string=>P.cellsOf t==1
 |some (.slice e)=>S.contains e&&decide (0<P.cellsOf e)&&P.cellsOf t==1
 |some (.struct fs)=>QW P fs.toList 0 (P.cellsOf t)&&fs.toList.all λf=>S.contains f.type
 |_=>false
theorem Q4{f:α->Option β} :∀{bb:List α},(∀a∈bb,∃b,f a=some b)->∃c,zC7 f bb=some c
 | [],_=>⟨[],rfl⟩
 |a::bb,h=>by
  obtain⟨b,e⟩:=h a jS;obtain⟨c,d⟩:=Q4 (f:=f) (bb:=bb) λx g=>h x (by simp[g]);exact⟨b::c,by simp[zC7,e,d]⟩
theorem QM{S:List TypeId}{r:TypeId->DataW H->Option (List D)}(p:∀t cs x,t∈S->DataW.trod enc P w base (λ_=>true) held n t cs=some x->Yy x.1=true->∃ds,r t x.1=some ds/\ds.length=P.cellsOf t){cs:List Value}{a:Nat} :
  ∀(fs:List Field)(off:Nat)(xs:List (DataW H×List MemPlace)),(∀(i:Nat)(f:Field),fs[i]? =some f->DataW.trod enc P w base (λ_=>true) held n f.type ((cs.drop f.offset).take (P.cellsOf f.type))=xs[i]?)->xs.length=fs.length->
   (∀f∈fs,f.type∈S)->QW P fs off a=true->(∀x∈xs,Yy x.1=true)->∃ds,FS P r fs off (xs.map (·.1))=some ds/\off+ds.length=a
 | [],off,[],_,_,_,b,_=>⟨[],rfl,by simpa [QW]using b⟩
 |f::fs,off,x::xs,o,e,m,b,h=>by
  simp only[QW,zF,qj]at b;have h0:=o 0 f rfl;simp only[wJ]at h0;obtain⟨c,j,d⟩:=p _ _ _ (m f jS) h0 (h x jS);obtain⟨rest,l,q⟩:=QM p fs (off+c.length) xs (λi g k=>by
   have:=o (i+1) g (by simpa using k);simpa using this) (by simpa using e) (λg k=>m g (by simp[k])) (by rw[d];exact b.2) (λy s=>h y (by simp[s]))
  refine⟨c++rest,?_,by rw[zS];omega⟩;simp only[qV,FS,ip b.1,j,ip d,l,qt]
 | [],_,_::_,_,e,_,_,_=>by simp at e
 |_::_,_,[],_,e,_,_,_=>by simp at e
theorem Xv{S:List TypeId}(G:H6 P S=true):∀(n:Nat)(t:TypeId)(cs:List Value)(x:DataW H×List MemPlace),t∈S->DataW.trod enc P w base (λ_=>true) held n t cs=some x->Yy x.1=true->∃ds,Rh P n t x.1=some ds/\ds.length=P.cellsOf t
 |0,_,_,_,_,h,_=>by simp[DataW.trod]at h
 |n+1,t,cs,x,R,h,u=>by
  have c:=zb.1 G t R;split at c
  .rename_i j
   obtain⟨b,rfl,rfl⟩:=gZ j h;exact⟨[.bool b],by simp only[Rh,j],by have:=qj.1 c;exact this.symm⟩
  .rename_i q j
   obtain⟨m,rfl,rfl,W⟩:=cI j h;exact⟨[.int q m],by simp only[Rh,j],by have:=qj.1 c;exact this.symm⟩
  .rename_i j
   obtain⟨b,rfl,rfl,_⟩:=kZ j h;have N:b.data.toList.length<=lim:=by simpa [Yy]using u
   exact⟨[.str b.data.toList],by simp only[Rh,j,ip N],by have:=qj.1 c;exact this.symm⟩
  .rename_i e j
   simp only[zF,zP,qj,sU]at c;obtain⟨⟨M,h0⟩,h1⟩:=c;rcases gE j h with⟨rfl,rfl⟩ | ⟨a,len,cap,g,rest,m,Q,rfl,rfl,V,O,K,C,F,_⟩
   .exact⟨[.nilsl],by simp only[Rh,j],h1.symm⟩
   .have p:m=n:=ow
    subst p;simp only[Yy,zF,zP,zH]at u;have l:∀(i:Nat)(y:DataW H×List MemPlace),g[i]? =some y->∃ds,Rh P m e y.1=some ds/\ds.length=P.cellsOf e:=λi y k=>by
     have B:i<len:=by have:=(zK.1 k).1;omega
     have:=F i B;rw[k]at this;obtain⟨cs',_,I⟩:=su.1 this;exact Xv G m e cs' y M I (fh u.2 _ (zN.2 ⟨y,zj k,rfl⟩))
    obtain⟨xs,D⟩:=Q4 (f:=Rh P m e) (bb:=g.map (·.1)) λd o=>by
     obtain⟨y,k,rfl⟩:=zN.1 o;obtain⟨i,B⟩:=yy.1 k;obtain⟨ds,s,_⟩:=l i y B;exact⟨ds,s⟩
    have A:xs.all (λx=>x.length==P.cellsOf e)=true:=zb.2 λz U=>by
     obtain⟨i,B⟩:=yy.1 U;obtain⟨d,o,E⟩:=(XG D).2 i z B;rw[zh]at o;cases k:g[i]? with
     |none=>rw[k]at o;cases o
     |some y=>
      rw[k]at o;cases o;obtain⟨ds,s,v⟩:=l i y k;rw[E]at s;cases s;simpa using v
    refine⟨[.sl (P.cellsOf e) xs .no],by simp only[Rh,j,D,A,zH,zR h0,zR u.1,wt,qK],h1.symm⟩
  .rename_i fs j
   simp only[zF,zb,sU,zP]at c;obtain⟨xs,m,Q,rfl,C,J,T⟩:=kg j h;have p:m=n:=ow;subst p;simp only[Yy]at u;obtain⟨ds,s,v⟩:=QM (r:=Rh P m) (n:=m) (λt cs x h1 L h3=>Xv G m t cs x h1 L h3) (cs:=cs) fs.toList 0 xs (λi f hf=>T i f (by simpa using hf)) (by rw[yX];exact J) c.2 c.1 (λy k=>fh u _ (zN.2 ⟨y,k,rfl⟩));rw[yP]at v;exact⟨ds,by simp only[Rh,j,s,ip v],v⟩
  .cases c
def zJV(P:Program)(S:List TypeId)(t:TypeId):Bool:=S.contains t&&(match agT P t with
 |some ag=>ag||P.cellsOf t==1
 |none=>false)
end
end Go.V
