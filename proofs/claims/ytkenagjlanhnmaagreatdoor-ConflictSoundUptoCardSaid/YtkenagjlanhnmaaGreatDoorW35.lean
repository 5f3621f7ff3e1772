/- Rules of the machine of abstract values, part 11. No condition. -/
import Derived.Test.YtkenagjlanhnmaaGreatDoorW34
set_option linter.all false
set_option maxHeartbeats 8000000
namespace Go.V
abbrev KM(κ:Type):=List (κ×D)
def kmD{κ:Type}(enc:κ->D)(m:KM κ):List (D×D):=m.map λp=>(enc p.1,p.2)
def dH{κ:Type}[BEq κ](k:κ):KM κ->Option D
 | []=>none
 |(k',v)::m=>if k==k' then some v else dH k m
def bV{κ:Type}[BEq κ](k:κ)(v:D):KM κ->KM κ
 | []=>[(k,v)]
 |(k',v')::m=>if k==k' then(k,v)::m else(k',v')::bV k v m
structure KEnc{κ:Type}[BEq κ](enc:κ->D)(ag:Bool)(ks:List Kd):Prop where
 eq:∀a b,eqK ks (enc a).cells (enc b).cells=some (a==b)
 shape:∀a,yo ag (enc a)=true
section
variable{κ:Type}[BEq κ]{enc:κ->D}{ag:Bool}{ks:List Kd}(E:KEnc enc ag ks)
include E
theorem Un(k:κ):∀m:KM κ,lg ks (enc k) (kmD enc m)=some (dH k m)
 | []=>rfl
 |(k',v)::m=>by
  have a:=Un k m;show(match eqK ks (enc k).cells (enc k').cells with|some true=>some (some v)|some false=>lg ks (enc k) (kmD enc m)|none=>none)=_
  rw[E.eq];cases h:(k==k')with
  |true=>simp[dH,h]
  |false=>simp only[dH,h,a];rfl
theorem J0(k:κ)(v:D):∀m:KM κ,MG ks (enc k) v (kmD enc m)=some (kmD enc (bV k v m))
 | []=>rfl
 |(k',b)::m=>by
  have a:=J0 k v m;show(match eqK ks (enc k).cells (enc k').cells with|some true=>some ((enc k,v)::kmD enc m)|some false=>(MG ks (enc k) v (kmD enc m)).map ((enc k',b):: ·)|none=>none)=_
  rw[E.eq];cases h:(k==k')with
  |true=>simp[bV,h,kmD]
  |false=>simp only[bV,h,a];rfl
def Rm(m:KM κ):(kmD enc m).all (λx=>yo ag x.1)=true:=by
 rw[zT];intro x a;obtain⟨p,_,rfl⟩:=zS.1 a;exact E.shape _
omit E in
theorem Rn [LawfulBEq κ](k k':κ)(v:D):∀m:KM κ,dH k (bV k' v m)=if k==k' then some v else dH k m
 | []=>by simp[bV,dH]
 |(k2,c)::m=>by
  have b:=Rn k k' v m;simp only[bV];by_cases h:k'=k2
  .subst h
   simp only[pN,qF,dH];by_cases g:k=k'
   .subst g;simp
   .simp[g]
  .have a:(k'==k2)=false:=by simp[h]
   simp only[a,zg,yp,dH,b];by_cases g:k=k2
   .subst g
    have:(k==k')=false:=by simp;exact λe=>h e.symm
    simp[this]
   .simp[g]
variable{P:Program}{t kt e:TypeId}{z:D}{id:Nat}{h:Heap}{m:KM κ}
def KE(a:h.at' id=some (.map (kmD enc m)))(c:MA P t=some (kt,e))(b:N5 P kt=some (ag,ks))(d:uo P e=some z)(k:κ)(hr:(k==k)=true)(ok:Bool):
  uM P t (.map id) (enc k) ok h=some (dx ok z (dH k m)):=by
 simp only[uM,c,b,d,Wc,a,fC,Rm E,E.eq,E.shape,Un E,tc,wU,qF]
def TU(a:h.at' id=some (.map (kmD enc m)))(c:MA P t=some (kt,e))(b:N5 P kt=some (ag,ks))(k:κ)(v:D):
  wv P t (.map id) (enc k) v h=some (h.set id (.map (kmD enc (bV k v m)))):=by
 simp only[wv,c,b,a,Rm E,E.eq,E.shape,Un E,J0 E,tc,wU,qF]
end
def zEt:KEnc (λi:Int=>D.int .i64 i) false [.i]:=
 ⟨λa b=>by show(if IntKind.i64=IntKind.i64 then(eqK [] [] []).map (a==b&& ·)else none)=_;simp[eqK],λ_=>rfl⟩
structure Fnd2(P:Program)(mx:Nat)(f:FuncId)(cap:List D)(Y:List (List Int)->(Nat->Prop)->Heap->Prop):Prop where
 here:∀ks S h,Y ks S h->∀i,S i->i<h.next
 loc:∀ks S h h',Y ks S h->h.next<=h'.next->(∀i,S i->h'.at' i=h.at' i)->Y ks S h'
 go:∀ks S h l tk,Y ks S h->ks.length<16777216->0<l.length->l.length<=mx->(∀n∈l,fits .i64 n)->zD P f ([]++ [.sl 1 (wt l) tk]++cap) h λ_ h'=>∃S',(∀i,S' i->S i\/h.next<=i)/\But S h h'/\Y (ks++ [l]) S' h'
variable{P:Program}{f:FuncId}{cap sc:List D}{S:Nat->Prop}{h h' h0 g:Heap}{t:TypeId}{fr:Frm}{c:Cat}{fs:List Fac}{al:Nat->Option Alt}{i id k:Nat}{x d:D}{α β:Type}{N:Int}
def Fnd2.lcl{mx:Nat}{Y:List (List Int)->(Nat->Prop)->Heap->Prop}(y:Fnd2 P mx f cap Y)(els:Nat->List (List Int)):Lcl λk=>Y (els k):=
 ⟨λk=>y.here (els k),λk=>y.loc (els k)⟩
def Fnd2.ext{mx:Nat}{Y:List (List Int)->(Nat->Prop)->Heap->Prop}(y:Fnd2 P mx f cap Y){ks:List (List Int)}(b:Y ks S h)(a:Ext h h'):Y ks S h':=
 y.loc ks S h h' b a.1 λi c=>a.2 i (y.here ks S h b i c)
section
variable{W:Nat->(Nat->Prop)->Heap->Prop}{id m1 m2 k:Nat}{o1 o2:Obj}{L B:LRec}{h3 H h5:Heap}{S0 S1 S5:Nat->Prop}{fr:Frm}
def Lcl.round(d:Lcl W)(g:W k S1 h3)(b:∀i,S1 i->S0 i)(c:¬S0 id)(a:But (λi=>i=id) h3 H):W k S1 H:=
 d.loc _ _ _ _ g a.1 λi f=>a.2 i (d.here _ _ _ g i f) λe=>c (by rw[<-e];exact b i f)
def Lp.call(v:Lcl W)(m:({ B with st:=.ready,pending:=none } :LRec)=L)(h:id<h3.next)(d:¬S0 id)(n:W k S1 h3/\(m1<h3.next/\m2<h3.next)/\(h3.at' m1=some o1/\h3.at' m2=some o2)/\(¬S1 m1/\¬S1 m2)/\∀i,S0 i↔(i=m1\/i=m2\/S1 i))
  (l:H.at' id=some (.loop B)) (c:But (λi=>i=id) h3 H) (f:∀j,S5 j->S1 j\/H.next<=j) (b:But S1 H h5) (x:W (k+1) S5 h5):
  sf (LpK id L (WK m1 o1 m2 o2 W) k S0 h3) id .normal fr h5:=by
 obtain⟨_,⟨C,D⟩,⟨t,u⟩,⟨r,s⟩,a⟩:=n;have w:=c.1;have o:=b.1;have y:m1≠id:=λe=>d (by rw[<-e];exact(a _).2 (.inl rfl));have z:m2≠id:=λe=>d (by rw[<-e];exact(a _).2 (.inr (.inl rfl)));have A:¬S1 id:=λe=>d ((a _).2 (.inr (.inr e)));refine Lp.fin (WK.lcl v) m h d (S':=λi=>i=m1\/i=m2\/S5 i) ?_ (λi g=> ?_) ⟨ow,λi g p=> ?_⟩ ⟨S5,x,⟨ow,ow⟩,⟨?_,?_⟩,⟨λe=> ?_,λe=> ?_⟩,λi=>Iff.rfl⟩
 .rw[b.2 _ ow A];exact l
 .rcases g with rfl|rfl|g
  .exact .inl ((a _).2 (.inl rfl))
  .exact .inl ((a _).2 (.inr (.inl rfl)))
  .exact(f i g).imp (λq=>(a _).2 (.inr (.inr q))) λq=>by omega
 .rw[b.2 i ow λe=>p (.inr ((a _).2 (.inr (.inr e)))),c.2 i g λe=>p (.inl e)]
 .rw[b.2 _ ow r,c.2 _ C y];exact t
 .rw[b.2 _ ow s,c.2 _ D z];exact u
 .rcases f _ e with q|q
  .exact r q
  .omega
 .rcases f _ e with q|q
  .exact s q
  .omega
def Lp.open(m:Lcl W)(f:WK m1 o1 m2 o2 W k S0 h3)(hid:id<h3.next)(b:¬S0 id)(o:Obj)(B:LRec):
  ∃S1 H,(h3.new h3.next o).set id (.loop B)=H/\H.next=h3.next+1/\H.at' h3.next=some o/\H.at' id=some (.loop B)/\But (λj=>j=id) h3 H/\W k S1 H/\((H.at' m1=some o1/\H.at' m2=some o2)/\(m1<H.next/\m2<H.next))/\
   (W k S1 h3/\(m1<h3.next/\m2<h3.next)/\(h3.at' m1=some o1/\h3.at' m2=some o2)/\(¬S1 m1/\¬S1 m2)/\∀i,S0 i↔(i=m1\/i=m2\/S1 i)):=by
 obtain⟨S1,g,⟨h,l⟩,⟨e1,e2⟩,⟨s,t⟩,a⟩:=f;have q:m1≠id:=λe=>b (by rw[<-e];exact(a _).2 (.inl rfl));have r:m2≠id:=λe=>b (by rw[<-e];exact(a _).2 (.inr (.inl rfl)));have d:((h3.new h3.next o).set id (.loop B)).next=h3.next+1:=by rw[yY,za]
 have c:But (λj=>j=id) h3 ((h3.new h3.next o).set id (.loop B)):=⟨ow,λj u p=>by rw[zX p,zf ow]⟩;exact⟨S1,_,rfl,d,by rw[zX ow,z5],zW _ _ _,c,Lcl.round m g (λi n=>(a _).2 (.inr (.inr n))) b c,⟨⟨by rw[c.2 _ h q];exact e1,by rw[c.2 _ l r];exact e2⟩,ow,ow⟩,g,⟨h,l⟩,⟨e1,e2⟩,⟨s,t⟩,a⟩
def But.ext1{a b c:Heap}(d:But S a b)(e:Ext b c):But S a c:=d.trans (e.but S) λi f=>.inl f
def Heap.low(H:Heap):∃h0,HLe h0 H/\(∀o,HLe h0 (H.new H.next o))/\∀i,i<H.next->h0.at' i=H.at' i:=
 ⟨⟨H.next,λi=>if i=H.next then none else H.at' i⟩,λi b e=>by
   simp only at e;split at e
   .cases e
   .exact e,λo i b e=>by
   simp only at e;split at e
   .cases e
   .rename_i a;rw[zf a];exact e,λi a=>by
   simp only;rw[iq ow]⟩
end
def zGj(P:Program)(h0:Heap)(t:TypeId)(m k:D)(ok:Bool)(K:D->Prop):Prop:=∃d,(∀h',HLe h0 h'->onS (uM P t m k ok h') λd'=>d'=d/\h'=h')/\K d
@[congr] theorem zBa{m m' k k':D}{ok:Bool}{K:D->Prop}(hf:m=m')(ha:k=k'):zGj P h0 t m k ok K=zGj P h0 t m' k' ok K:=by rw[hf,ha]
variable{fr:Frm}{id k:Nat}
@[go_sem ↓] def Fa(t:TypeId)(a b:Operand)(ok:Bool)(K:D->Prop):WD P h0 (.lookup t a b ok) (qy fr) K=zGj P h0 t (qy fr a) (qy fr b) ok K:=by
 unfold WD zGj Hv;simp only[go_sem]
def IA{m k:D}{ok:Bool}{K:D->Prop}(d:D)(c:uM P t m k ok h0=some d)(b:K d):zGj P h0 t m k ok K:=
 ⟨d,λh' a=>by rw[Vw a c];exact⟨rfl,rfl⟩,b⟩
open Go.Proofs.Tryz
open Go.Proofs
set_option maxRecDepth 100000
structure Stt(c:Cat)(fs:List Fac)(al:Nat->Option Alt)(M:KM Int)(O:KV)(sc:List D)(m1 m2:Nat):Prop where
 sc:∃a b e p x,sc= [a,b,e,p,x,.map m1,.map m2]/\uB c (.agg [a,b,e,p])/\yZ 12 (sL fs) x/\yZ 4 (jv c.ls) a
 sm:c.Sm
 len:fs.length<=256
 ok:∀f∈fs,f.Ok
 get:∀i,i<fs.length->dH (i:Int) M=(al i).map Alt.d
 alt:∀i a,al i=some a->a.Ok
def StH(M:KM Int)(O:KV)(m1 m2:Nat)(h:Heap):Prop:=
 (h.at' m1=some (.map (kmD (D.int .i64) M))/\h.at' m2=some (.map (kvD O)))/\(m1<h.next/\m2<h.next)
def StH.ext{M:KM Int}{O:KV}{m1 m2:Nat}(s:StH M O m1 m2 h)(e:Ext h h'):StH M O m1 m2 h':=by
 obtain⟨⟨a,b⟩,c,d⟩:=s;have:=e.1;exact⟨⟨by rw[e.2 _ c];exact a,by rw[e.2 _ d];exact b⟩,ow,ow⟩
def Uj{M:KM Int}{O:KV}{m1 m2:Nat}(e:Stt c fs al M O sc m1 m2)(a:h.at' m1=some (.map (kmD (D.int .i64) M)))(b:i<fs.length)(ok:Bool):
  uM prog 208 (.map m1) (.int .i64 (i:Int)) ok h=some (dx ok .nilsl ((al i).map Alt.d)):=by
 rw[<-e.get i b];exact KE zEt a MB C5 fL (i:Int) jS ok
def Jv{O:KV}{m2:Nat}(a:h.at' m2=some (.map (kvD O)))(s:List UInt8)(ok:Bool):
  uM prog 209 (.map m2) (.str s) ok h=some (dx ok (.str []) ((p8 s O).map .str)):=
 KF a MC Rk fM s ok
abbrev Tri:=Nat×Nat×Nat
def rD(fs:List Fac)(i:Nat):List UInt8:=match fs[i]? with
 |some f=>f.comp
 |none=>[]
def rn(fs:List Fac)(i:Nat):List UInt8:=match fs[i]? with
 |some f=>f.out
 |none=>[]
def Mg(fs:List Fac)(i u:Nat):List Tri:=(fIx 2 (λg=>g.out==rn fs u) fs).map λh=>(i,u,h)
def Mf(fs:List Fac)(al:Nat->Option Alt)(i:Nat):List Tri:=if(al i).isSome=true then(fIx 0 (λg=>g.comp==rD fs i) fs).flatMap (Mg fs i)else []
def qv(fs:List Fac)(al:Nat->Option Alt):List Tri:=(List.range fs.length).flatMap (Mf fs al)
def lu(t:Tri):List D:=[.int .i64 (t.1:Int),.int .i64 (t.2.1:Int),.int .i64 (t.2.2:Int)]
abbrev elT(l:List Tri)(k:Nat):List D:=[.agg (lu (l.getD k (0,0,0)))]
def cZ(sc:List D):D:=.fn (.func 361) [] [.iptr [.iptr sc 0] 0]
def bE(sc:List D)(h:Heap):zD prog 282 [.iptr sc 0] h λr h'=>h'=h/\r=cZ sc:=by
 refine zj zF7 ?_;simp only[f282,zA];simp only[go_sem,cZ]
def zCd(f g:Fac)(a:h.at' id=some (.row f.cells)):zD prog 362 [.agg g.cells,.ptr id 0] h λr h'=>h'=h/\r=.bool (g.comp==f.comp):=by
 have k1:f.cells[1]? =some (.str f.comp):=rfl;have k2:g.cells[1]? =some (.str g.comp):=rfl;refine zj zGQ ?_;simp only[f362,zA];exact au
def zCe(b:sc[4]? =some x)(c:yZ 12 (sL fs) x){u:Nat}(a:u<fs.length)(g:Fac)(f:h.at' id=some (.row [.int .i64 (u:Int)])):
  zD prog 363 [.agg g.cells,.iptr [.iptr sc 0] 0,.ptr id 0] h λr h'=>h'=h/\r=.bool (g.out==rn fs u):=by
 have k1:fs[u].cells[2]? =some (.str fs[u].out):=rfl;have k2:g.cells[2]? =some (.str g.out):=rfl;have d:=tR c a;have j:rn fs u=fs[u].out:=by simp[rn,a]
 refine zj zGR ?_;simp only[f363,zA];simp only[go_sem, *];refine yq Heap.emp (pwf [2,6,0,1,3,4,5,7,8,9,10,11] []) kr kr (λi k e=>by cases e) ?_;simp only[go_sem,qL, *]
def WL(l:List (Nat×Obj))(W:Nat->(Nat->Prop)->Heap->Prop)(k:Nat)(S:Nat->Prop)(h:Heap):Prop:=
 ∃S1,W k S1 h/\(∀p∈l,p.1<h.next/\h.at' p.1=some p.2/\¬S1 p.1)/\∀i,S i↔((∃p∈l,i=p.1)\/S1 i)
section
variable{l:List (Nat×Obj)}{W:Nat->(Nat->Prop)->Heap->Prop}{id k:Nat}{L B:LRec}{h h3 H h5:Heap}{S S0 S1 S5 S':Nat->Prop}{fr:Frm}
def WL.lcl(f:Lcl W):Lcl (WL l W):=by
 refine⟨λk S h y i e=> ?_,λk S h h' y n g=> ?_⟩
 .obtain⟨S1,c,d,a⟩:=y
  rcases(a i).1 e with⟨p,b,rfl⟩ |q
  .exact(d p b).1
  .exact f.here _ _ _ c i q
 .obtain⟨S1,c,d,a⟩:=y
  refine⟨S1,f.loc _ _ _ _ c n λi e=>g i ((a i).2 (.inr e)),λp b=> ?_,a⟩;obtain⟨o,j,m⟩:=d p b;exact⟨ow,by rw[g p.1 ((a _).2 (.inl ⟨p,b,rfl⟩))];exact j,m⟩
def WL.start(a:W k S h)(h1:∀p∈l,p.1<h.next/\h.at' p.1=some p.2/\¬S p.1):WL l W k (λi=>(∃p∈l,i=p.1)\/S i) h:=
 ⟨S,a,h1,λ_=>Iff.rfl⟩
def WL.stop(h1:∀p∈l,h.at' p.1=some p.2)(m:∀i,S' i->((∃p∈l,i=p.1)\/S i)\/h.next<=i)(d:But (λi=>(∃p∈l,i=p.1)\/S i) h h')(n:WL l W k S' h'):
  ∃S1,(∀i,S1 i->S i\/h.next<=i)/\But S h h'/\W k S1 h':=by
 obtain⟨S1,f,c,g⟩:=n;refine⟨S1,λi a=> ?_,⟨d.1,λi a j=> ?_⟩,f⟩
 .rcases m i ((g i).2 (.inr a))with(⟨p,b,rfl⟩ |q)|q
  .exact absurd a (c p b).2.2
  .exact .inl q
  .exact .inr q
 .by_cases q:∃p∈l,i=p.1
  .obtain⟨p,b,rfl⟩:=q
   rw[(c p b).2.1,h1 p b]
  .exact d.2 i a λe=>e.elim q j
def WL.st(c:WL l W k S h):∀p∈l,p.1<h.next/\h.at' p.1=some p.2:=by
 obtain⟨S1,_,b,_⟩:=c;exact λp a=>⟨(b p a).1,(b p a).2.1⟩
def Lp.callL(y:Lcl W)(o:({ B with st:=.ready,pending:=none } :LRec)=L)(m:id<h3.next)(d:¬S0 id)(r:W k S1 h3/\(∀p∈l,p.1<h3.next/\h3.at' p.1=some p.2/\¬S1 p.1)/\∀i,S0 i↔((∃p∈l,i=p.1)\/S1 i))
  (n:H.at' id=some (.loop B)) (c:But (λi=>i=id) h3 H) (g:∀j,S5 j->S1 j\/H.next<=j) (b:But S1 H h5) (A:W (k+1) S5 h5):
  sf (LpK id L (WL l W) k S0 h3) id .normal fr h5:=by
 obtain⟨_,v,a⟩:=r;have z:=c.1;have t:=b.1;have D:¬S1 id:=λe=>d ((a _).2 (.inr e));refine Lp.fin (WL.lcl y) o m d (S':=λi=>(∃p∈l,i=p.1)\/S5 i) ?_ (λi f=> ?_) ⟨ow,λi f u=> ?_⟩ ⟨S5,A,λp h=> ?_,λi=>Iff.rfl⟩
 .rw[b.2 _ ow D];exact n
 .rcases f with⟨p,h,rfl⟩ |f
  .exact .inl ((a _).2 (.inl ⟨p,h,rfl⟩))
  .exact(g i f).imp (λq=>(a _).2 (.inr q)) λq=>by omega
 .rw[b.2 i ow λe=>u (.inr ((a _).2 (.inr e))),c.2 i f λe=>u (.inl e)]
 .obtain⟨w,x,s⟩:=v p h
  have C:p.1≠id:=λe=>d (by rw[<-e];exact(a _).2 (.inl ⟨p,h,rfl⟩));refine⟨ow,by rw[b.2 _ ow s,c.2 _ w C];exact x,λe=> ?_⟩;rcases g _ e with q|q
  .exact s q
  .omega
def Lp.openL(r:Lcl W)(f:WL l W k S0 h3)(hid:id<h3.next)(b:¬S0 id)(o:Obj)(B:LRec):
  ∃S1 H,(h3.new h3.next o).set id (.loop B)=H/\H.next=h3.next+1/\H.at' h3.next=some o/\H.at' id=some (.loop B)/\But (λj=>j=id) h3 H/\W k S1 H/\(∀p∈l,p.1<h3.next/\H.at' p.1=some p.2)/\
   (W k S1 h3/\(∀p∈l,p.1<h3.next/\h3.at' p.1=some p.2/\¬S1 p.1)/\∀i,S0 i↔((∃p∈l,i=p.1)\/S1 i)):=by
 obtain⟨S1,g,h,a⟩:=f;have d:((h3.new h3.next o).set id (.loop B)).next=h3.next+1:=by rw[yY,za]
 have c:But (λj=>j=id) h3 ((h3.new h3.next o).set id (.loop B)):=⟨ow,λj v t=>by rw[zX t,zf ow]⟩;refine⟨S1,_,rfl,d,by rw[zX ow,z5],zW _ _ _,c,Lcl.round r g (λi s=>(a _).2 (.inr s)) b c,λp n=> ?_,g,h,a⟩;obtain⟨m,q,u⟩:=h p n;exact⟨m,by rw[c.2 _ m λe=>b (by rw[<-e];exact(a _).2 (.inl ⟨p,n,rfl⟩))];exact q⟩
def Lp.openL0(q:Lcl W)(f:WL l W k S0 h3)(hid:id<h3.next)(b:¬S0 id)(B:LRec):
  ∃S1 H,h3.set id (.loop B)=H/\H.next=h3.next/\H.at' id=some (.loop B)/\But (λj=>j=id) h3 H/\W k S1 H/\(∀p∈l,p.1<h3.next/\H.at' p.1=some p.2)/\
   (W k S1 h3/\(∀p∈l,p.1<h3.next/\h3.at' p.1=some p.2/\¬S1 p.1)/\∀i,S0 i↔((∃p∈l,i=p.1)\/S1 i)):=by
 obtain⟨S1,g,h,a⟩:=f;have d:(h3.set id (.loop B)).next=h3.next:=yY _ _ _;have c:But (λj=>j=id) h3 (h3.set id (.loop B)):=⟨ow,λj u s=>zX s⟩;refine⟨S1,_,rfl,d,zW _ _ _,c,Lcl.round q g (λi r=>(a _).2 (.inr r)) b c,λp n=> ?_,g,h,a⟩;obtain⟨m,o,t⟩:=h p n;exact⟨m,by rw[c.2 _ m λe=>b (by rw[<-e];exact(a _).2 (.inl ⟨p,n,rfl⟩))];exact o⟩
end
def UV{l:List α}{f:α->List β}{a b:Nat}{x:α}(h:l[a]? =some x)(c:b<(f x).length):(l.flatMap f)[jI l f a+b]? =(f x)[b]? :=by
 obtain⟨h1,rfl⟩:=zK.1 h;rw[C1 h1 c,zB c]
def mT{l:List α}{f:α->List β}{a:Nat}{x:α}(h:l[a]? =some x):jI l f (a+1)=jI l f a+(f x).length:=by
 obtain⟨h1,rfl⟩:=zK.1 h;exact LW h1
def C2{l:List α}{f:α->List β}{a b:Nat}{x:α}(h:l[a]? =some x)(c:b<(f x).length):jI l f a+b<(l.flatMap f).length:=by
 obtain⟨h1,rfl⟩:=zK.1 h;exact zJn h1 c
theorem tJ{f:α->List β}{m:Nat} :∀{l:List α},(∀x∈l,(f x).length<=m)->(l.flatMap f).length<=l.length*m
 | [],_=>by simp
 |x::l,h=>by
  have:=tJ (f:=f) (l:=l) λy a=>h y (z8 _ a);have b:=h x jS;rw[oO,zQ,zx,qh];omega
abbrev Fg(fs:List Fac)(i:Nat):List Nat:=fIx 0 (λg=>g.comp==rD fs i) fs
abbrev ln(fs:List Fac)(u:Nat):List Nat:=fIx 2 (λg=>g.out==rn fs u) fs
abbrev YT(fs:List Fac)(al:Nat->Option Alt)(i:Nat):Nat:=jI (List.range fs.length) (Mf fs al) i
abbrev Uw(fs:List Fac)(i k:Nat):Nat:=jI (Fg fs i) (Mg fs i) k
section
variable{fs:List Fac}{al:Nat->Option Alt}{i k k2 u v:Nat}
def zAX(b:i<fs.length)(a:(al i).isSome=false):YT fs al (i+1)=YT fs al i:=by simp_all [YT,mT,Mf]
def FO(b:i<fs.length)(a:(al i).isSome=true):YT fs al (i+1)=YT fs al i+Uw fs i (Fg fs i).length:=by simp_all [YT,Uw,mT,bP,Mf]
def IH(a:(Fg fs i)[k]? =some u):Uw fs i (k+1)=Uw fs i k+(ln fs u).length:=by
 unfold Uw;rw[mT a];simp[Mg]
def Ff(g:i<fs.length)(e:(al i).isSome=true)(c:(Fg fs i)[k]? =some u)(h:(ln fs u)[k2]? =some v):
  YT fs al i+(Uw fs i k+k2)<(qv fs al).length/\(qv fs al)[YT fs al i+(Uw fs i k+k2)]? =some (i,u,v):=by
 have b:k2<(Mg fs i u).length:=by grind [Mg]
 have a:=C2 (f:=Mg fs i) c b;have d:Mf fs al i=(Fg fs i).flatMap (Mg fs i):=by unfold Mf;rw[ip e]
 rw[<-d]at a;have hr:(List.range fs.length)[i]? =some i:=by simp[g]
 refine⟨C2 (f:=Mf fs al) hr a,?_⟩;have h1:=UV (f:=Mf fs al) hr a;have j:=UV (f:=Mg fs i) c b;show((List.range fs.length).flatMap (Mf fs al))[_]? =_
 grind [Mg]
end
variable{fs:List Fac}{al:Nat->Option Alt}{id i k:Nat}{S:Nat->Prop}{h:Heap}{fr:Frm}
theorem kC{M:KM Int}{O:KV}{m1 m2:Nat}(hs:Stt c fs al M O sc m1 m2){Y:Nat->(Nat->Prop)->Heap->Prop}(y:Yld prog id (qv fs al).length (elT (qv fs al)) Y λ_ _=>False)(hH:∀k S h,Y k S h->StH M O m1 m2 h){w:Heap}(hY:Y 0 S w):
  zD prog 361 [.yld id,.iptr [.iptr sc 0] 0] w λ_ h'=>∃S',(∀j,S' j->S j\/w.next<=j)/\But S w h'/\Y (qv fs al).length S' h':=by
 have X:=hs;obtain⟨⟨ca,cb,ce,cp,x,rfl,hc,hx,_⟩,sm,d1,cl,cc,halt⟩:=hs;have c9:=nu hx;refine zj zGP ?_;simp only[f361,zA]
 repeat' first|simp only[go_sem,qL, *]|apply bc<;>intro
 refine zY (λi fr h'=>fr 1=.iptr [.iptr [ca,cb,ce,cp,x,.map m1,.map m2] 0] 0/\fr 2=.iptr [.yld id] 0/\fr 12=x/\fr 13=.int .i64 (fs.length:Int)/\fr 14=.int .i64 (i:Int)/\∃S',(∀j,S' j->S j\/w.next<=j)/\But S w h'/\Y (YT fs al i) S' h') fs.length ow ?_ ?_ ?_
 .have a0:∃S',(∀j,S' j->S j\/w.next<=j)/\But S w w/\Y (YT fs al 0) S' w:=⟨S,λj l=>.inl l,But.refl S w,hY⟩
  simp only[go_sem,zM,zV,zG];exact a0
 .rintro i fr h1 s e1 ew ⟨f1,f2,cw,cx,c0,S',hS,z,I⟩
  have a1:=tR hx s;have hm:fs[i]∈fs:=zH s;have hw:yO true 12 fs[i].cells 0=some (.agg fs[i].cells):=zJ rfl ow;have a0:=QV (cl _ hm);have b9:rD fs i=fs[i].comp:=by simp[rD,s]
  generalize fs[i]=f at *
  clear cc halt cl;have cu:∀o2,yW prog 3 (.ptr h1.next 0) (.int .i64 (i:Int)) ((h1.new h1.next (.row [.int .i64 0])).new (h1.next+1) o2)=some ((h1.new h1.next (.row [.int .i64 (i:Int)])).new (h1.next+1) o2):=λo2=>by
   have:=NI (P:=prog) (t:=3) (H:=h1) (c:=.int .i64 0) (x:=.int .i64 (i:Int)) (o2:=o2) sG rfl rfl;simpa only[za]using this
  repeat' first|simp only[go_sem,za, *]|apply bc<;>intro
  obtain⟨G,hG,a9,g1,g2,hE⟩:∃G:Heap,(h1.new h1.next (.row [.int .i64 (i:Int)])).new (h1.next+1) (.row f.cells)=G/\G.next=h1.next+2/\G.at' h1.next=some (.row [.int .i64 (i:Int)])/\G.at' (h1.next+1)=some (.row f.cells)/\Ext h1 G:=
   ⟨_,rfl,qG _ (by rw[za];exact zC _) _,by rw[zf ow,z5],z5 _ _ _,((Ext.refl h1).new (zC _) _).new ow _⟩
  rw[hG];clear hG a0 cu c9;have A:=y.ext I hE;have T:=hH _ _ _ A;have p:=Uj X T.1.1 s true;have b:But S w G:=z.trans (hE.but S) λi hi=>.inl hi;refine yq Heap.emp (pwf [0,4,1,2,3,5,6,7,8,9,10] []) kr kr (λi ob e=>by cases e) ?_;cases o:al i with
  |none=>
   rw[o]at p;replace p:uM prog 208 (.map m1) (.int .i64 (i:Int)) true G=some (.tuple [.nilsl,.bool false]):=p;have m:∃S',(∀j,S' j->S j\/w.next<=j)/\But S w G/\Y (YT fs al (i+1)) S' G:=⟨S',hS,b,by rw[zAX s (by rw[o];rfl)];exact A⟩;clear A T b hE hS z I o
   repeat' first|simp only[go_sem,qL, *]|apply bc<;>intro hc
  |some a=>
   rw[o]at p;replace p:uM prog 208 (.map m1) (.int .i64 (i:Int)) true G=some (.tuple [a.d,.bool true]):=p;obtain⟨q1,q2,_⟩:=zw (X.alt i a o).sl;have K:=λg=>aa [ca,cb,ce,cp,x,.map m1,.map m2] 0 (hf:=.fn (.func 362) [] [.ptr (h1.next+1) 0]) ⟨_,_,_,rfl⟩ g
   repeat' first|simp only[go_sem,qL,gP, *]|apply bc<;>intro hc|(refine zD.mono (K _) ?_;rintro r h ⟨hq,rfl⟩)
   subst hq;generalize hL:LRec.mk _ _ _ _ _ _ _=L;have da:L.pending=none:=by rw[<-hL]
   have db:L.st=.ready:=by rw[<-hL]
   have b8:Lcl λk=>Y (YT fs al i+Uw fs i k):=⟨λk=>y.here _,λk=>y.loc _⟩;have F:∀j,S' j->j<h1.next:=λj l=>y.here _ _ _ I j l;refine pO (W:=WK h1.next (.row [.int .i64 (i:Int)]) (h1.next+1) (.row f.cells) λk=>Y (YT fs al i+Uw fs i k)) (n:=(Fg fs i).length) (el:=elI (Fg fs i)) (S:=λj=>j=h1.next\/j=h1.next+1\/S' j) a9 (WK.lcl b8) db da ?_ (λyl aj=>fQ (sc:=[ca,cb,ce,cp,x,.map m1,.map m2]) rfl hx ow X.ok yl (R:=λj=>j=h1.next+1) ?_ (λg hg h2 hr=> ?_) aj) ?_ ?_
   .exact WK.start (by rw[show Uw fs i 0=0 from an _ _];exact A) ow ow g1 g2 (λe=>wH _ (F _ e)) (λe=>by have:=F _ e;omega)
   .rintro j rfl
    refine⟨by rw[qG _ ow];omega,.inr ?_⟩;rintro k S2 h2 ⟨_,_,S0,hk,_⟩;rw[hk.st.1.2,zf ow,g2]
   .exact(zCd f g (by rw[hr _ rfl,zf ow,g2])).mono λr h3 e=>by rw[b9];exact e
   .intro k S0 h3 hk cg c7 di ak
    obtain⟨u,hu⟩:∃u,(Fg fs i)[k]? =some u:=⟨_,zB hk⟩;have dd:u<fs.length:=by
     have:=(pf _ fs 0 u (zh hu)).2;omega
    have c4:(Fg fs i).getD k 0=u:=by rw[zE,hu];rfl
    simp only[elI,c4];obtain⟨S1,V,⟨ds,dt⟩,⟨a2,cv⟩,⟨n1,n2⟩,ai⟩:=di;have N:=c7;rw[<-hL]at N;have ag:yW prog 3 (.ptr h3.next 0) (.int .i64 (u:Int)) (h3.new h3.next (.row [.int .i64 0]))=some (h3.new h3.next (.row [.int .i64 (u:Int)])):=by
     rw[yN (z5 _ _ _) sG jS rfl rfl,cO];rfl
    clear p q1 q2 a1 hw hm K b9 hS z I hE A T b;refine wo.round (g:=Nk) mix N rfl kr kr kr ?_;simp only[go_sem,f1,f2,ag];refine⟨by rw[zf ow];exact N,?_⟩;generalize hB:LRec.mk .busy _ _ _ _ _ _=B;have c1:({ B with st:=.ready,pending:=none } :LRec)=L:=by rw[<-hB,<-hL]
    obtain⟨H,bb,bk,b1,b3,b4,b7,c2⟩:∃H:Heap,(h3.new h3.next (.row [.int .i64 (u:Int)])).set (h1.next+2) (.loop B)=H/\H.next=h3.next+1/\H.at' h1.next=some (.row [.int .i64 (i:Int)])/\H.at' h3.next=some (.row [.int .i64 (u:Int)])/\H.at' (h1.next+2)=some (.loop B)/\Y (YT fs al i+Uw fs i k) S1 H/\But (λj=>j=h1.next+2) h3 H:=by
     refine⟨_,rfl,by rw[yY,za],by rw[zX ow,zf ow];exact a2,by rw[zX ow,z5],zW _ _ _,?_,⟨by rw[yY,za];omega,λj l hn=>by rw[zX hn,zf ow]⟩⟩;have hb:=λj l=>y.here _ _ _ V j l;refine y.loc _ _ _ _ V (by rw[yY,za];omega) λj l=> ?_;have:=hb j l;rw[zX (λe=>ak (by rw[<-e];exact(ai _).2 (.inr (.inr l)))),zf ow]
    rw[bb];clear ag bb hB;have K:=λg=>aa [ca,cb,ce,cp,x,.map m1,.map m2] 2 (hf:=.fn (.func 363) [] [.iptr [.iptr [ca,cb,ce,cp,x,.map m1,.map m2] 0] 0,.ptr h3.next 0]) ⟨_,_,_,rfl⟩ g;refine(K _).mono ?_;rintro r H2 ⟨hq,rfl⟩;subst hq
    repeat' first|simp only[go_sem,gP, *]|apply bc<;>intro
    generalize U:LRec.mk .ready _ _ _ _ _ _=L2;have cm:L2.pending=none:=by rw[<-U]
    have cs:L2.st=.ready:=by rw[<-U]
    have J:Lcl λk2=>Y (YT fs al i+(Uw fs i k+k2)):=⟨λk=>y.here _,λk=>y.loc _⟩;have bx:∀j,S1 j->j<h3.next:=λj l=>y.here _ _ _ V j l;have d0:¬S1 (h1.next+2):=λe=>ak ((ai _).2 (.inr (.inr e)));refine⟨⟨_,b4⟩,pO (W:=WK h1.next (.row [.int .i64 (i:Int)]) h3.next (.row [.int .i64 (u:Int)]) λk2=>Y (YT fs al i+(Uw fs i k+k2))) (n:=(ln fs u).length) (el:=elI (ln fs u)) (S:=λj=>j=h1.next\/j=h3.next\/S1 j) bk (WK.lcl J) cs cm ?_ (λyl aj=>fQ (sc:=[ca,cb,ce,cp,x,.map m1,.map m2]) rfl hx ow X.ok yl (R:=λj=>j=h3.next) ?_ (λg hg h2 hr=> ?_) aj) ?_ ?_⟩
    .exact WK.start b7 ow ow b1 b3 n1 (λe=>wH _ (bx _ e))
    .rintro j rfl
     refine⟨by rw[qG _ ow];omega,.inr ?_⟩;rintro k S2 h2 ⟨_,_,S0,hk,_⟩;rw[hk.st.1.2,zf ow,b3]
    .exact(zCe (sc:=[ca,cb,ce,cp,x,.map m1,.map m2]) rfl hx dd g (by rw[hr _ rfl,zf ow,b3])).mono λr h3 e=>e
    .intro k2 S3 h4 c6 ch c8 dk ck
     obtain⟨v,hv⟩:∃v,(ln fs u)[k2]? =some v:=⟨_,zB c6⟩;have c5:(ln fs u).getD k2 0=v:=by rw[zE,hv];rfl
     simp only[elI,c5];obtain⟨S4,b6,⟨du,dv⟩,⟨a6,a7⟩,⟨n3,n4⟩,b5⟩:=dk;have Q:=c8;rw[<-U]at Q;obtain⟨tl,te⟩:=Ff (al:=al) s (by rw[o];rfl) hu hv;have c3:(qv fs al).getD (YT fs al i+(Uw fs i k+k2)) (0,0,0)=(i,u,v):=by rw[zE,te];rfl
     have cf:=λS h=>y.go (YT fs al i+(Uw fs i k+k2)) S h tl;simp only[elT,c3,lu]at cf;have de:qW prog 339 [(0,.int .i64 (i:Int)),(1,.int .i64 (u:Int)),(2,.int .i64 (v:Int))]=some (.agg [.int .i64 (i:Int),.int .i64 (u:Int),.int .i64 (v:Int)]):=by simp[qW,Pm,Ha,ua,wS,D.notTuple,D.cells]
     refine wo.round (g:=Nk) mix Q rfl kr kr kr ?_;simp only[go_sem];refine⟨Q,?_⟩;generalize a8:LRec.mk .busy _ _ _ _ _ _=B2;have bo:({ B2 with st:=.ready,pending:=none } :LRec)=L2:=by rw[<-a8,<-U]
     have i1:h1.next≠h3.next+1:=ow;have i2:h3.next≠h3.next+1:=ow;obtain⟨H4,ba,a3,a4,a5,ad⟩:∃H4:Heap,h4.set (h3.next+1) (.loop B2)=H4/\H4.at' h1.next=some (.row [.int .i64 (i:Int)])/\H4.at' h3.next=some (.row [.int .i64 (u:Int)])/\H4.at' (h3.next+1)=some (.loop B2)/\But (λj=>j=h3.next+1) h4 H4:=
      ⟨_,rfl,by rw[zX i1];exact a6,by rw[zX i2];exact a7,zW _ _ _,by rw[yY];exact zC _,λj _ l=>zX l⟩
     rw[ba];clear a8 ba;simp only[go_sem,de,a3,a4,f2];refine(cf _ _ (J.round b6 (λj l=>(b5 _).2 (.inr (.inr l))) ck ad)).mono ?_;rintro r h5 ⟨S5,E,C,⟨rfl,hr⟩ | ⟨rfl,hr⟩⟩
     .have m:∀fr,sf (LpK (h3.next+1) L2 (WK h1.next (.row [.int .i64 (i:Int)]) h3.next (.row [.int .i64 (u:Int)]) λk2=>Y (YT fs al i+(Uw fs i k+k2))) k2 S3 h4) (h3.next+1) .normal fr h5:=λfr=>Lp.call J bo ch ck ⟨b6,⟨du,dv⟩,⟨a6,a7⟩,⟨n3,n4⟩,b5⟩ a5 ad E C hr
      simp only[go_sem,vun];exact m _
     .exact hr.elim
    .intro S' h5 hs hb hw
     obtain⟨S5,E,C,Z⟩:=WK.stop b1 b3 (λj l=>by rw[bk];exact hs j l) hb hw;rw[<-qo (Uw fs i k)]at b7;have dr:Y (YT fs al i+Uw fs i (k+1)) S5 h5:=by rw[IH hu];exact Z
     have m:∀fr,sf (LpK (h1.next+2) L (WK h1.next (.row [.int .i64 (i:Int)]) (h1.next+1) (.row f.cells) λk=>Y (YT fs al i+Uw fs i k)) k S0 h3) (h1.next+2) .normal fr h5:=λfr=>Lp.call b8 c1 cg ak ⟨V,⟨ds,dt⟩,⟨a2,cv⟩,⟨n1,n2⟩,ai⟩ b4 c2 E C dr;simp only[go_sem];exact m _
   .intro S2 h5 hs hb hw
    obtain⟨S5,E,C,Z⟩:=WK.stop g1 g2 (λj l=>by rw[a9];exact hs j l) hb hw;have m:∃S',(∀j,S' j->S j\/w.next<=j)/\But S w h5/\Y (YT fs al (i+1)) S' h5:=⟨S5,λj l=>by
     rcases E j l with q|q
     .exact hS j q
     .exact .inr (by have:=b.1;omega),b.trans C hS,by rw[FO s (by rw[o];rfl)];exact Z⟩
    clear p A T b hE hS z I o hs hb hw E C Z K hL;exact au
 .rintro fr h2 e1 ⟨f1,f2,cw,cx,c0,S',bs,b2,F⟩
  have m:∃S',(∀j,S' j->S j\/w.next<=j)/\But S w h2/\Y (qv fs al).length S' h2:=⟨S',bs,b2,by rw[show(qv fs al).length=YT fs al fs.length from(by unfold YT qv;rw[<-bP,oQ])];exact F⟩
  clear bs b2 F;exact au
def cn(fs:List Fac)(i:Nat):Int:=match fs[i]? with
 |some f=>f.way
 |none=>0
def mc(fs:List Fac)(i:Nat):Int:=match fs[i]? with
 |some f=>f.rel
 |none=>0
def Jm(duty:Int)(q:List (List UInt8)->Bool)(l:Cla):Bool:=l.duty==duty&&q l.list
def zEn(c:Cat)(way rel duty:Int)(q:List (List UInt8)->Bool)(z:Trm):Bool:=(kw c z.a z.b way rel).any (Jm duty q)
def PS(c:Cat)(ts:List Trm)(way rel duty:Int)(q:List (List UInt8)->Bool):Bool:=ts.any (zEn c way rel duty q)
theorem KZ{q:List (List UInt8)->Bool} :∀{a b:List Cla},a.map Cla.key=b.map Cla.key->a.any (Jm N q)=b.any (Jm N q)
 | [],[],_=>rfl
 | [],_::_,h=>by cases h
 |_::_,[],h=>by cases h
 |x::a,y::b,h=>by
  simp only[qe,rL,Cla.key,Prod.mk.injEq]at h;obtain⟨⟨_,_,_,h1,c⟩,h3⟩:=h;rw[cr,cr,KZ h3,Jm,Jm,h1,c]
def zCP(y:Cla)(h:Heap):zD prog 284 [.agg y.cells] h λr h'=>h'=h/\r=.bool true:=by
 refine zj zKl ?_;simp only[f284,zA];exact au
theorem Bn{M:KM Int}{O:KV}{m1 m2:Nat}(hs:Stt c fs al M O sc m1 m2){t:Tri}(t1:t.1<fs.length)(t2:t.2.1<fs.length)(t3:t.2.2<fs.length){a:Alt}(X:al t.1=some a)(h:Int){q:List (List UInt8)->Bool}{R:Nat->Prop}(hH:StH M O m1 m2 g)(hR:∀i,R i->i<g.next)(hq:∀y:Cla,y.Fine->∀l:Heap,(∀i,R i->l.at' i=g.at' i)->zD prog f ([]++ [.agg y.cells]++cap) l λr h3=>h3=l/\r=.bool (q y.list)):
  zD prog 283 [.iptr sc 0,.agg (lu t),.int .i64 h,.fn (.func f) [] cap] g λr h'=>Ext g h'/\r=.bool (PS c a.ts (cn fs t.2.2) (mc fs t.2.1) h q):=by
 have Q:=Uj hs hH.1.1 t1 false;rw[X]at Q;replace Q:uM prog 208 (.map m1) (.int .i64 (t.1:Int)) false g=some a.d:=Q;have G:=hs.alt _ _ X;have w1:cn fs t.2.2=fs[t.2.2].way:=by simp[cn,t3]
 have w2:mc fs t.2.1=fs[t.2.1].rel:=by simp[mc,t2]
 rw[w1,w2];obtain⟨⟨ca,cb,ce,cp,x,rfl,C,hx,_⟩,sm,b9,ch,b8,halt⟩:=hs;have a2:=tR hx t2;have a3:=tR hx t3;have k2:fs[t.2.1].cells[3]? =some (.int .i64 fs[t.2.1].rel):=rfl;have k3:fs[t.2.2].cells[4]? =some (.int .i64 fs[t.2.2].way):=rfl;generalize fs[t.2.1]=E at *
 generalize fs[t.2.2]=F at *
 have ck:=uI G.sl;have b6:=G.len;obtain⟨q1,q2,_⟩:=zw G.sl;have hE:Ext g g:=Ext.refl g;obtain⟨ai,aj,ak⟩:=t;simp only[lu]at *
 refine zj zF8 ?_;simp only[f283,zA]
 repeat' first|simp only[go_sem, *]|apply bc<;>intro C
 refine yJ kr ?_
 repeat' first|simp only[go_sem,qL, *]|apply bc<;>intro C
 refine zY (λi fr h'=>fr 0=.iptr [ca,cb,ce,cp,x,.map m1,.map m2] 0/\fr 2=.int .i64 h/\fr 3=.fn (.func f) [] cap/\fr 5=.iptr [.int .i64 (ai:Int),.int .i64 (aj:Int),.int .i64 (ak:Int)] 0/\fr 19=a.d/\fr 20=.int .i64 (a.ts.length:Int)/\fr 21=.int .i64 (i:Int)/\Ext g h'/\∀j (D:j<a.ts.length),j<i->zEn c F.way E.rel h q a.ts[j]=false) a.ts.length ow ?_ ?_ ?_
 .simp only[go_sem,zM,zV,zG]
  exact⟨hE,λj D h0=>by omega⟩
 .rintro i fr h1 S e1 ew ⟨V,s,w,W,n,u,v,K,D⟩
  have a1:=pW G.sl S;have U:zEn c F.way E.rel h q a.ts[i]=(kw c a.ts[i].a a.ts[i].b F.way E.rel).any (Jm h q):=rfl;have b5:=λe=>Yl (p:=zEn c F.way E.rel h q) S e;have b4:=λe=>ug (p:=zEn c F.way E.rel h q) S D e;generalize a.ts[i]=z at *
  have cu:yW prog 197 (.ptr h1.next 0) (.agg z.cells) (h1.new h1.next (.row [.str [],.str []]))=some (h1.new h1.next (.row z.cells)):=ym uO ow rfl rfl rfl;have bo:=λg=>Kf C sm z.a z.b F.way E.rel g;have b2:yO true 2 z.cells 0=some (.agg z.cells):=zJ rfl ow;have cf:yO true 2 z.cells 0=some (.agg [.str z.a,.str z.b]):=b2;have a7:∀o,Ext g (h1.new h1.next o):=λo=>K.new K.1 o
  repeat' first|simp only[go_sem, *]|apply bc<;>intro C
  obtain⟨H,bb,cc,a9⟩:∃H,h1.new h1.next (.row z.cells)=H/\H.at' h1.next=some (.row z.cells)/\Ext g H:=⟨_,rfl,z5 _ _ _,a7 _⟩;rw[bb];have cv:yO true 4 [ca,cb,ce,cp,x,.map m1,.map m2] 0=some (.agg [ca,cb,ce,cp]):=by simp[yO]
  refine yq Heap.emp (pwf [4,0,1,2,3,5,6,7,8,9,10,11,12,13,14,15,16,17,18,19,20,21,22,25,23,24] []) kr kr (λi ob e=>by cases e) ?_
  repeat' first|simp only[go_sem,qL, *]|apply bc<;>intro C
  refine(bo _).mono ?_;rintro r H2 ⟨bs,cs,Y,N,J⟩;subst bs;rw[<-KZ J]at U;have cl:=jM Y;have b7:cs.length<=1048576:=by
   have:=congrArg List.length J;simp only[zI]at this;have l:(kw c z.a z.b F.way E.rel).length<=c.cs.length:=by
    unfold kw;split
    .simp
    .exact uY _ _
   have:=sm.cs.1;omega
  repeat' first|simp only[go_sem, *]|apply bc<;>intro C
  refine zY (λj fr h'=>fr 0=.iptr [ca,cb,ce,cp,x,.map m1,.map m2] 0/\fr 2=.int .i64 h/\fr 3=.fn (.func f) [] cap/\fr 5=.iptr [.int .i64 (ai:Int),.int .i64 (aj:Int),.int .i64 (ak:Int)] 0/\fr 19=a.d/\fr 20=.int .i64 (a.ts.length:Int)/\fr 21=.int .i64 (i:Int)/\fr 48=r/\fr 49=.int .i64 (cs.length:Int)/\fr 50=.int .i64 (j:Int)/\Ext g h'/\∀k (hk:k<cs.length),k<j->Jm h q cs[k]=false) cs.length ow ?_ ?_ ?_
  .simp only[go_sem,zM,zV,zG]
   exact⟨V,s,w,W,n,u,v,a9,λj D h0=>by omega⟩
  .clear V s w W n u v
   rintro j a6 l m e2 cg ⟨V,s,w,W,n,u,v,a0,a4,a5,L,D⟩;have b1:=gF Y m;have ad:=N _ (zH m);have b3:=λe=>Yl (p:=Jm h q) m e;have ag:=λe=>ug (p:=Jm h q) m D e;have T:Jm h q cs[j]=(cs[j].duty==h&&q cs[j].list):=rfl;generalize cs[j]=y at *
   have Z:yW prog 126 (.ptr l.next 0) (.agg y.cells) (l.new l.next (.row [.str [],.int .i64 0,.int .i64 0,.int .i64 0,.nilsl]))=some (l.new l.next (.row y.cells)):=ym gu ow rfl rfl (by show(true&&(true&&(true&&(true&&(y.d.flat&&true)))))=true;rw[lZ ad.1.isSl];rfl);have cw:yO true 5 y.cells 0=some (.agg y.cells):=zJ rfl ow;have ky:y.cells[3]? =some (.int .i64 y.duty):=rfl;have ba:Ext g (l.new l.next (.row y.cells)):=L.new L.1 _;obtain⟨H3,bk,bx,a8⟩:∃H,l.new l.next (.row y.cells)=H/\H.at' l.next=some (.row y.cells)/\Ext g H:=⟨_,rfl,z5 _ _ _,ba⟩;rw[bk]at Z
   have B:=hq y ad H3 λi P=>a8.2 i (hR i P);simp only[yU,yG]at B;cases hd:(y.duty==h)with
   |false=>
    have A:=ag (by rw[T,hd];rfl)
    repeat' first|simp only[go_sem, *]|apply bc<;>intro C
    exact A
   |true=>
    cases I:q y.list with
    |false=>
     rw[I]at B;have A:=ag (by rw[T,hd,I];rfl)
     repeat' first|simp only[go_sem, *]|apply bc<;>intro C|refine zD.use B ?_
     exact A
    |true=>
     rw[I]at B;have A:PS c a.ts F.way E.rel h q=true:=b5 (by rw[U];exact b3 (by rw[T,hd,I];rfl))
     repeat' first|simp only[go_sem, *]|apply bc<;>intro C|refine zD.use B ?_
  .clear V s w W n u v
   rintro a6 l e2 ⟨V,s,w,W,n,u,v,a0,a4,a5,L,D⟩;have A:=b4 (by rw[U];exact dU (p:=Jm h q) (λi P _=>D i P P))
   repeat' first|simp only[go_sem, *]|apply bc<;>intro C
   exact A
 .rintro fr h1 e1 ⟨V,s,w,W,n,u,v,K,D⟩
  have cm:PS c a.ts F.way E.rel h q=false:=dU λi P _=>D i P P;exact au
def bs3(a b c:Int)(nid:Nat)(h:Heap):yD prog false nid 30 3 [(0,.int .i64 a),(1,.int .i64 b),(2,.int .i64 c)] h=some (.sl 1 (wt [a,b,c]) .full,h):=by
 simp[yD,wA,pc,sG,D.notTuple,D.cells,mw,ua,wS,wK,wt]
def bs2(a b:Int)(nid:Nat)(h:Heap):yD prog false nid 30 2 [(0,.int .i64 a),(1,.int .i64 b)] h=some (.sl 1 (wt [a,b]) .full,h):=by
 simp[yD,wA,pc,sG,D.notTuple,D.cells,mw,ua,wS,wK,wt]
def bs4(a b c d:Int)(nid:Nat)(h:Heap):yD prog false nid 30 4 [(0,.int .i64 a),(1,.int .i64 b),(2,.int .i64 c),(3,.int .i64 d)] h=some (.sl 1 (wt [a,b,c,d]) .full,h):=by
 simp[yD,wA,pc,sG,D.notTuple,D.cells,mw,ua,wS,wK,wt]
def bs5(a b c d e:Int)(nid:Nat)(h:Heap):yD prog false nid 30 5 [(0,.int .i64 a),(1,.int .i64 b),(2,.int .i64 c),(3,.int .i64 d),(4,.int .i64 e)] h=some (.sl 1 (wt [a,b,c,d,e]) .full,h):=by
 simp[yD,wA,pc,sG,D.notTuple,D.cells,mw,ua,wS,wK,wt]
def bs1(a:Int)(nid:Nat)(h:Heap):yD prog false nid 30 1 [(0,.int .i64 a)] h=some (.sl 1 (wt [a]) .full,h):=by
 simp[yD,wA,pc,sG,D.notTuple,D.cells,mw,ua,wS,wK,wt]
def gv{t:Tri}(h:t∈qv fs al):t.1<fs.length/\t.2.1<fs.length/\t.2.2<fs.length/\∃a,al t.1=some a:=by
 unfold qv at h;obtain⟨i,e,b⟩:=zt.1 h;unfold Mf at b;split at b
 .rename_i d
  obtain⟨u,f,b⟩:=zt.1 b;unfold Mg at b;obtain⟨v,g,rfl⟩:=zS.1 b;have h1:=(pf _ fs 0 u f).2;have c:=(pf _ fs 0 v g).2;exact⟨yz.1 e,by simpa using h1,by simpa using c,uf.1 d⟩
 .cases b
theorem N2{p q:Fac->Bool}(h:∀f,p f=true->q f=true):∀(l:List Fac)(k k':Nat),(wP p l k).length<=(wP q l k').length
 | [],_,_=>zC _
 |f::l,k,k'=>by
  have a:=N2 h l (k+1) (k'+1);cases e:p f with
  |true=>simp only[wP,e,h f e,qF,zx];omega
  |false=>simp only[wP,e];cases q f<;>simp<;>omega
theorem Jo{p q:Fac->Bool}(h:∀f,p f=true->q f=false):∀(l:List Fac)(k k':Nat),(wP p l k).length+(wP q l k').length<=l.length
 | [],_,_=>zC _
 |f::l,k,k'=>by
  have a:=Jo h l (k+1) (k'+1);cases e:p f with
  |true=>simp only[wP,e,h f e,qF,zx];simp;omega
  |false=>simp only[wP,e];cases q f<;>simp<;>omega
def A9:∀a,a<=24->∀b,b<=24->a+b<=24->a*b<=144:=jD
theorem ov(h:fs.length<=24):(qv fs al).length<=4096:=by
 have h1:∀i u,(Mg fs i u).length<=(wP (isF 2 λ_=>true) fs 0).length:=λi u=>by
  unfold Mg;rw[zI];exact N2 (λf hf=>by unfold isF at hf⊢;simp at hf⊢;exact hf.1) fs 0 0
 have a:∀i,(Mf fs al i).length<=144:=λi=>by
  unfold Mf;split
  .refine zb (tJ λu _=>h1 i u) ?_
   have h3:=Jo (p:=isF 0 λg=>g.comp==rD fs i) (q:=isF 2 λ_=>true) (λf hf=>by
    unfold isF at hf⊢;simp at hf⊢;omega) fs 0 0
   exact A9 _ (by unfold fIx;omega) _ ow (by unfold fIx;omega)
  .simp
 unfold qv;refine zb (tJ λi _=>a i) ?_;rw[oQ];omega
def wh{α:Type}(l:List α)(V:α->List (List Int))(k:Nat):List (List Int):=(l.take k).flatMap V
def so{l:List α}{V:α->List (List Int)}{x:α}(h:l[k]? =some x):wh l V (k+1)=wh l V k++V x:=by
 obtain⟨h1,rfl⟩:=zK.1 h;unfold wh;rw[zP h1,pS,oO,List.flatMap_nil,yK]
def oD(l:List α)(V:α->List (List Int)):wh l V l.length=l.flatMap V:=by unfold wh;rw[yC]
def jY{l:List α}{V:α->List (List Int)}{m:Nat}(h:∀x∈l,(V x).length<=m)(k:Nat):(wh l V k).length<=l.length*m:=
 zb (tJ λx a=>h x (nb a)) (yg _ (by rw[yB];omega))
def QW(t:Tri)(h:Heap)(id:Nat):yW prog 339 (.ptr id 0) (.agg (lu t)) (h.new id (.row [.int .i64 0,.int .i64 0,.int .i64 0]))=some (h.new id (.row (lu t))):=ym zA5 ow rfl rfl rfl
def Zx(al:Nat->Option Alt)(i:Nat):List Trm:=match al i with
 |some a=>a.ts
 |none=>[]
def sS(c:Cat)(fs:List Fac)(al:Nat->Option Alt)(t:Tri):List (List Int):=
 if PS c (Zx al t.1) (cn fs t.2.2) (mc fs t.2.1) 5 (λ_=>true)=true then [[(t.1:Int),(t.2.1:Int),(t.2.2:Int)]]else []
def LU(h:i<1048576):fits .i64 (i:Int):=qP ow ow
theorem GK{M:KM Int}{O:KV}{m1 m2:Nat}(Z:Stt c fs al M O sc m1 m2)(X:fs.length<=24)
  {ff:FuncId} {Y:List (List Int)->(Nat->Prop)->Heap->Prop} (y:Fnd2 prog 5 ff cap Y) {w:Heap} (hY:Y [] S w) (I:StH M O m1 m2 w) (n1:¬S m1) (n2:¬S m2):
  zD prog 227 [.iptr sc 0,.fn (.func ff) [] cap] w λ_ h'=>∃S',(∀i,S' i->S i\/w.next<=i)/\But S w h'/\Y ((qv fs al).flatMap (sS c fs al)) S' h':=by
 have Q:=Z;obtain⟨⟨ca,cb,ce,cp,x,rfl,hc,hx,_⟩,sm,bo,bx,bk,halt⟩:=Z;have a1:=λg=>bE [ca,cb,ce,cp,x,.map m1,.map m2] g;refine zj zFr ?_;simp only[f227,zA]
 repeat' first|simp only[go_sem,cZ, *]|apply bc<;>intro hc|(refine zD.mono (a1 _) ?_;rintro r h ⟨hq,rfl⟩)
 subst hq;generalize T:LRec.mk _ _ _ _ _ _ _=L;have a4:L.pending=none:=by rw[<-T]
 have a5:L.st=.ready:=by rw[<-T]
 have s:=y.lcl λk=>wh (qv fs al) (sS c fs al) k;have h4:=ov (al:=al) X;refine pO (W:=WK m1 (.map (kmD (D.int .i64) M)) m2 (.map (kvD O)) λk=>Y (wh (qv fs al) (sS c fs al) k)) (n:=(qv fs al).length) (el:=elT (qv fs al)) (S:=λj=>j=m1\/j=m2\/S j) rfl (WK.lcl s) a5 a4 ?_ (λyl aj=>kC Q yl (λk S h ⟨_,_,S0,hk,_⟩=>hk.st) aj) ?_ ?_
 .exact WK.start hY I.2.1 I.2.2 I.1.1 I.1.2 n1 n2
 .intro k S0 h3 hk e a3 a9 E
  obtain⟨t,ht⟩:∃t,(qv fs al)[k]? =some t:=⟨_,zB hk⟩;have a2:(qv fs al).getD k (0,0,0)=t:=by rw[zE,ht];rfl
  simp only[elT,a2];obtain⟨p1,p2,p3,a,K⟩:=gv (zh ht);have o:=a3;rw[<-T]at o;have a6:=QW t;refine wo.round (g:=zOL) mix o rfl kr kr kr ?_;simp only[go_sem,a6];refine⟨by rw[zf ow];exact o,?_⟩;generalize hB:LRec.mk .busy _ _ _ _ _ _=B;have J:({ B with st:=.ready,pending:=none } :LRec)=L:=by rw[<-hB,<-T]
  obtain⟨S1,H,ag,bs,P,ai,au,bb,ad,hw⟩:=Lp.open s a9 e E (.row (lu t)) B;rw[ag];have a0:=Bn Q p1 p2 p3 K 5 (q:=λ_=>true) (R:=λ_=>False) (f:=284) (cap:=[]) ad (λi hi=>hi.elim) (λy hy h2 _=>zCP y h2);have b1:yO true 3 (lu t) 0=some (.agg (lu t)):=zJ rfl ow;have e1:(lu t)[0]? =some (.int .i64 (t.1:Int)):=rfl;have e2:(lu t)[1]? =some (.int .i64 (t.2.1:Int)):=rfl;have e3:(lu t)[2]? =some (.int .i64 (t.2.2:Int)):=rfl;have a7:Zx al t.1=a.ts:=by simp[Zx,K]
  have u:sS c fs al t=if PS c a.ts (cn fs t.2.2) (mc fs t.2.1) 5 (λ_=>true)=true then [[(t.1:Int),(t.2.1:Int),(t.2.2:Int)]]else []:=by unfold sS;rw[a7]
  repeat' first|simp only[go_sem, *]|apply bc<;>intro
  refine a0.mono ?_;rintro r H2 ⟨p,rfl⟩;have F:=(p.2 _ ow).trans P;have z:=au.ext1 p;have v:=(p.2 _ ow).trans ai;have A:=y.ext bb p;cases U:PS c a.ts (cn fs t.2.2) (mc fs t.2.1) 5 (λ_=>true)with
  |false=>
   rw[U,iq jD]at u;have b:Y (wh (qv fs al) (sS c fs al) (k+1)) S1 H2:=by rw[so ht,u,yK];exact A
   have d:∀fr,sf (LpK h.next L (WK m1 (.map (kmD (D.int .i64) M)) m2 (.map (kvD O)) λk=>Y (wh (qv fs al) (sS c fs al) k)) k S0 h3) h.next .normal fr H2:=λfr=>Lp.call s J e E hw v z (λj hj=>.inl hj) (But.refl S1 H2) b;simp only[go_sem];exact d _
  |true=>
   rw[U,ip rfl]at u;have a8:(wh (qv fs al) (sS c fs al) k).length<16777216:=by
    have:=jY (V:=sS c fs al) (l:=qv fs al) (m:=1) (λt _=>by unfold sS;split<;>simp) k;omega
   have N:=y.go _ _ _ [(t.1:Int),(t.2.1:Int),(t.2.2:Int)] .full A a8 jS jS (by
    intro n X;simp only[z7,wl,jP]at X;rcases X with rfl|rfl|rfl<;>exact LU ow)
   simp only[yU,yG]at N;have ak:=bs3 (t.1:Int) (t.2.1:Int) (t.2.2:Int);simp only[go_sem,F,e1,e2,e3,ak];refine N.mono ?_;rintro r h5 ⟨S5,G,C,b⟩;have ba:Y (wh (qv fs al) (sS c fs al) (k+1)) S5 h5:=by rw[so ht,u];exact b
   have d:∀fr,sf (LpK h.next L (WK m1 (.map (kmD (D.int .i64) M)) m2 (.map (kvD O)) λk=>Y (wh (qv fs al) (sS c fs al) k)) k S0 h3) h.next .normal fr h5:=λfr=>Lp.call s J e E hw v z G C ba;exact d _
 .intro S2 h5 Z U hw
  obtain⟨S5,G,C,b⟩:=WK.stop I.1.1 I.1.2 Z U hw;rw[oD]at b;simp only[go_sem];exact⟨S5,G,C,b⟩
def X8(own:List UInt8)(l:List (List UInt8)):Bool:= !(l.any λx=>x==own)
def Gg{own:List UInt8}{y:Cla}(a:y.Fine)(c:h.at' id=some (.row [.str own])):zD prog 285 [.agg y.cells,.ptr id 0] h λr h'=>h'=h/\r=.bool (X8 own y.list):=by
 have b:=kn a.1.isSl a.2 own;have k1:y.cells[4]? =some y.d:=rfl;obtain⟨e,f,_⟩:=zw a.1.isSl;unfold X8;refine zj zF9 ?_;simp only[f285,zA]
 repeat' first|simp only[go_sem, *]|apply bc<;>intro b|refine zD.use (b _) ?_
def ph(c:Cat)(fs:List Fac)(al:Nat->Option Alt)(O:KV)(t:Tri):List (List Int):=match p8 (rn fs t.2.1) O with
 |none=>[]
 |some own=>if PS c (Zx al t.1) (cn fs t.2.2) (mc fs t.2.1) 4 (X8 own)=true then [[(t.1:Int),(t.2.1:Int),(t.2.2:Int)]]else []
theorem B9{M:KM Int}{O:KV}{m1 m2:Nat}(hs:Stt c fs al M O sc m1 m2)(hn:fs.length<=24)
  {ff:FuncId} {Y:List (List Int)->(Nat->Prop)->Heap->Prop} (y:Fnd2 prog 5 ff cap Y) {w:Heap} (hY:Y [] S w) (K:StH M O m1 m2 w) (n1:¬S m1) (n2:¬S m2):
  zD prog 228 [.iptr sc 0,.fn (.func ff) [] cap] w λ_ h'=>∃S',(∀i,S' i->S i\/w.next<=i)/\But S w h'/\Y ((qv fs al).flatMap (ph c fs al O)) S' h':=by
 have I:=hs;obtain⟨⟨ca,cb,ce,cp,x,rfl,hc,hx,_⟩,sm,cm,cv,cl,halt⟩:=hs;have ba:=λg=>bE [ca,cb,ce,cp,x,.map m1,.map m2] g;refine zj zFs ?_;simp only[f228,zA]
 repeat' first|simp only[go_sem,cZ, *]|apply bc<;>intro hc|(refine zD.mono (ba _) ?_;rintro r h ⟨hq,rfl⟩)
 subst hq;generalize hL:LRec.mk _ _ _ _ _ _ _=L;have cc:L.pending=none:=by rw[<-hL]
 have cf:L.st=.ready:=by rw[<-hL]
 have Z:=y.lcl λk=>wh (qv fs al) (ph c fs al O) k;have h4:=ov (al:=al) hn;refine pO (W:=WK m1 (.map (kmD (D.int .i64) M)) m2 (.map (kvD O)) λk=>Y (wh (qv fs al) (ph c fs al O) k)) (n:=(qv fs al).length) (el:=elT (qv fs al)) (S:=λj=>j=m1\/j=m2\/S j) rfl (WK.lcl Z) cf cc ?_ (λyl b5=>kC I yl (λk S h ⟨_,_,S0,hk,_⟩=>hk.st) b5) ?_ ?_
 .exact WK.start hY K.2.1 K.2.2 K.1.1 K.1.2 n1 n2
 .intro k S0 h3 hk Q ag au bs
  obtain⟨t,ht⟩:∃t,(qv fs al)[k]? =some t:=⟨_,zB hk⟩;have b8:(qv fs al).getD k (0,0,0)=t:=by rw[zE,ht];rfl
  simp only[elT,b8];obtain⟨p1,p2,p3,a,a8⟩:=gv (zh ht);have d:=ag;rw[<-hL]at d;have bx:=QW t;refine wo.round (g:=JJ) mix d rfl kr kr kr ?_;simp only[go_sem,bx];refine⟨by rw[zf ow];exact d,?_⟩;generalize hB:LRec.mk .busy _ _ _ _ _ _=B;have X:({ B with st:=.ready,pending:=none } :LRec)=L:=by rw[<-hB,<-hL]
  obtain⟨S1,H,a6,b4,A,a7,a9,b3,F,hw⟩:=Lp.open Z au Q bs (.row (lu t)) B;rw[a6];clear bx a6 hB;have cw:yO true 3 (lu t) 0=some (.agg (lu t)):=zJ rfl ow;have e1:(lu t)[0]? =some (.int .i64 (t.1:Int)):=rfl;have e2:(lu t)[1]? =some (.int .i64 (t.2.1:Int)):=rfl;have e3:(lu t)[2]? =some (.int .i64 (t.2.2:Int)):=rfl;have ch:Zx al t.1=a.ts:=by simp[Zx,a8]
  have a2:=tR hx p2;have ho:rn fs t.2.1=fs[t.2.1].out:=by simp[rn,p2]
  have k2:fs[t.2.1].cells[2]? =some (.str fs[t.2.1].out):=rfl;rw[<-ho]at k2;clear ho;obtain⟨h0,bo,T,v⟩:=Heap.low H;obtain⟨C,b9⟩:∃n,H.next=n:=⟨_,rfl⟩;have b1:∀s,yW prog 9 (.ptr C 0) (.str s) (H.new C (.row [.str []]))=some (H.new C (.row [.str s])):=λs=>by
   rw[yN (z5 _ _ _) pK jS rfl rfl,cO];rfl
  have cg:=(v h3.next ow).trans A;have e:=Jv (by rw[v m2 F.2.2];exact F.1.2) (rn fs t.2.1) true;have cs:h3.next<C:=ow;have p:∀o,∃G,H.new C o=G/\Ext H G/\G.at' C=some o/\G.at' h3.next=some (.row (lu t))/\C<G.next/\But (λj=>j=h.next) h3 G/\G.at' h.next=some (.loop B)/\Y (wh (qv fs al) (ph c fs al O) k) S1 G/\StH M O m1 m2 G:=λo=>by
   have hE:Ext H (H.new C o):=(Ext.refl H).new ow _;exact⟨_,rfl,hE,z5 _ _ _,(hE.2 _ ow).trans A,by rw[qG _ ow];omega,a9.ext1 hE,(hE.2 _ ow).trans a7,y.ext b3 hE,StH.ext F hE⟩
  rw[b9]at T;have b:∀{fr:Frm}{G h5:Heap}{S5:Nat->Prop},G.at' h.next=some (.loop B)->But (λj=>j=h.next) h3 G->(∀j,S5 j->S1 j\/G.next<=j)->But S1 G h5->Y (wh (qv fs al) (ph c fs al O) (k+1)) S5 h5->sf (LpK h.next L (WK m1 (.map (kmD (D.int .i64) M)) m2 (.map (kvD O)) λk=>Y (wh (qv fs al) (ph c fs al O) k)) k S0 h3) h.next .normal fr h5:=λa1 a2 a3 a4 a5=>Lp.call Z X Q bs hw a1 a2 a3 a4 a5;rw[so ht]at b;clear b4 a7 a9 b3 F A v
  refine yq h0 ((0,.st,true)::((4,.st,true)::(pwt [1,2] ((3,.st,true)::(pwt [5,6] ((7,.st,true)::(pwt [8] ((9,.st,true)::(pwt [10,11] ((12,.st,true)::((13,.st,true)::(pwt [14,15,16,17] (pwf [18,19] []))))))))))))) kr kr bo ?_;cases u:p8 (rn fs t.2.1) O with
  |none=>
   rw[u]at e;replace e:uM prog 209 (.map m2) (.str (rn fs t.2.1)) true h0=some (.tuple [.str [],.bool false]):=e;have ak:ph c fs al O t= []:=by unfold ph;rw[u]
   rw[ak,yK]at b;obtain⟨G,hG,a0,g1,g2,g3,g4,g5,g6,_⟩:=p (.row [.str []]);have cu:=λfr=>b (fr:=fr) g5 g4 (λj hj=>.inl hj) (But.refl S1 G) g6;have b2:=b1 [];have bk:=T (.row [.str []]);rw[hG]at b2 bk;clear hw hL X I hY K au d ag ht p b u g1 g2 g3 g4 g5 g6 a0
   repeat' first|simp only[go_sem,qL, *]|apply bc<;>intro
   refine IA _ e ?_
   repeat' first|simp only[go_sem,qL, *]|apply bc<;>intro hc
  |some own=>
   rw[u]at e;replace e:uM prog 209 (.map m2) (.str (rn fs t.2.1)) true h0=some (.tuple [.str own,.bool true]):=e;have ak:ph c fs al O t=if PS c a.ts (cn fs t.2.2) (mc fs t.2.1) 4 (X8 own)=true then [[(t.1:Int),(t.2.1:Int),(t.2.2:Int)]]else []:=by unfold ph;rw[u];simp only[ch]
   rw[ak]at b;obtain⟨G,hG,a0,g1,g2,g3,g4,g5,g6,g7⟩:=p (.row [.str own]);have b7:=Bn I p1 p2 p3 a8 4 (q:=X8 own) (R:=λj=>j=C) (f:=285) (cap:=[.ptr C 0]) g7 (λi hi=>by rw[hi];exact g3) (λz hz h2 hr=>Gg hz (by rw[hr _ rfl,g1]));have ck:(wh (qv fs al) (ph c fs al O) k).length<16777216:=by
    have:=jY (V:=ph c fs al O) (l:=qv fs al) (m:=1) (λt _=>by
     unfold ph;split
     .simp
     .split<;>simp) k
    omega
   have b6:=bs3 (t.1:Int) (t.2.1:Int) (t.2.2:Int);have bb:=λS h hy=>y.go _ S h [(t.1:Int),(t.2.1:Int),(t.2.2:Int)] .full hy ck jS jS (by
    intro n hn;simp only[z7,wl,jP]at hn;rcases hn with rfl|rfl|rfl<;>exact LU ow)
   simp only[yU,yG]at bb;clear hw hL X hY K au d ag ht p u I ba
   repeat' first|simp only[go_sem,qL, *]|apply bc<;>intro
   refine IA _ e ?_
   repeat' first|simp only[go_sem,qL, *]|apply bc<;>intro
   refine b7.mono ?_;rintro r H2 ⟨E,rfl⟩;have ai:=(E.2 _ ow).trans g2;have P:=g4.ext1 E;have N:=(E.2 _ ow).trans g5;have U:=y.ext g6 E;cases hb:PS c a.ts (cn fs t.2.2) (mc fs t.2.1) 4 (X8 own)with
   |false=>
    rw[hb,iq jD,yK]at b;simp only[go_sem];exact b N P (λj hj=>.inl hj) (But.refl S1 H2) U
   |true=>
    rw[hb,ip rfl]at b;simp only[go_sem,ai,e1,e2,e3,b6];refine(bb _ _ U).mono ?_;rintro r h5 ⟨S5,aj,ad,J⟩;exact b N P aj ad J
 .intro S2 h5 hs hb hw
  obtain⟨S5,aj,ad,J⟩:=WK.stop K.1.1 K.1.2 hs hb hw;rw[oD]at J;simp only[go_sem];exact⟨S5,aj,ad,J⟩
def Bq(b:sc[4]? =some x)(c:yZ 12 (sL fs) x){t:Tri}(a:t.1<fs.length)(g:Fac)(f:h.at' id=some (.row (lu t))):
  zD prog 287 [.agg g.cells,.iptr [.iptr sc 0] 0,.ptr id 0] h λr h'=>h'=h/\r=.bool (g.comp==rD fs t.1):=by
 have k1:fs[t.1].cells[1]? =some (.str fs[t.1].comp):=rfl;have k2:g.cells[1]? =some (.str g.comp):=rfl;have e1:(lu t)[0]? =some (.int .i64 (t.1:Int)):=rfl;have d:=tR c a;have j:rD fs t.1=fs[t.1].comp:=by simp[rD,a]
 refine zj zKm ?_;simp only[f287,zA];simp only[go_sem, *];refine yq Heap.emp (pwf [2,0,1,3,4,5,6,7,8,9,10,11,12] []) kr kr (λi k e=>by cases e) ?_;simp only[go_sem,qL, *]
def W6(fs:List Fac)(i:Nat):Int:=match fs[i]? with
 |some f=>f.duty
 |none=>0
def Gk(fs:List Fac)(i:Nat):Bool:=match fs[i]? with
 |some f=>f.chg
 |none=>false
abbrev cK(fs:List Fac)(i:Nat):List Nat:=fIx 4 (λg=>g.comp==rD fs i) fs
def cL(c:Cat)(fs:List Fac)(al:Nat->Option Alt)(t:Tri)(k:Nat):List (List Int):=
 if((!(W6 fs k==2)||Gk fs t.2.1)&&PS c (Zx al t.1) (cn fs t.2.2) (mc fs t.2.1) (W6 fs k) (λ_=>true))=true then [[(t.1:Int),(t.2.1:Int),(t.2.2:Int),(k:Int)]]else []
def gU(c:Cat)(fs:List Fac)(al:Nat->Option Alt)(t:Tri):List (List Int):=(cK fs t.1).flatMap (cL c fs al t)
def Rs(c:Cat)(fs:List Fac)(al:Nat->Option Alt)(t:Tri)(k:Nat):(cL c fs al t k).length<=1:=by unfold cL;split<;>simp
def XZ(c:Cat)(b:fs.length<=24)(al:Nat->Option Alt)(t:Tri):(gU c fs al t).length<=24:=by
 have h1:=tJ (m:=1) (l:=cK fs t.1) λk _=>Rs c fs al t k;have a:(cK fs t.1).length<=fs.length:=tK _ fs 0;unfold gU;omega
theorem zCS{M:KM Int}{O:KV}{m1 m2:Nat}(hs:Stt c fs al M O sc m1 m2)(hn:fs.length<=24)
  {ff:FuncId} {Y:List (List Int)->(Nat->Prop)->Heap->Prop} (y:Fnd2 prog 5 ff cap Y) {w:Heap} (hY:Y [] S w) (hH:StH M O m1 m2 w) (n1:¬S m1) (n2:¬S m2):
  zD prog 229 [.iptr sc 0,.fn (.func ff) [] cap] w λ_ h'=>∃S',(∀i,S' i->S i\/w.next<=i)/\But S w h'/\Y ((qv fs al).flatMap (gU c fs al)) S' h':=by
 have Z:=hs;obtain⟨⟨ca,cb,ce,cp,x,rfl,hc,hx,_⟩,sm,de,c8,b8,halt⟩:=hs;have b7:=λg=>bE [ca,cb,ce,cp,x,.map m1,.map m2] g;refine zj zFt ?_;simp only[f229,zA]
 repeat' first|simp only[go_sem,cZ, *]|apply bc<;>intro hc|(refine zD.mono (b7 _) ?_;rintro r h ⟨hq,rfl⟩)
 subst hq;generalize hL:LRec.mk _ _ _ _ _ _ _=L;have c9:L.pending=none:=by rw[<-hL]
 have da:L.st=.ready:=by rw[<-hL]
 have ba:=y.lcl λk=>wh (qv fs al) (gU c fs al) k;have h4:=ov (al:=al) hn;refine pO (W:=WK m1 (.map (kmD (D.int .i64) M)) m2 (.map (kvD O)) λk=>Y (wh (qv fs al) (gU c fs al) k)) (n:=(qv fs al).length) (el:=elT (qv fs al)) (S:=λj=>j=m1\/j=m2\/S j) rfl (WK.lcl ba) da c9 ?_ (λyl a9=>kC Z yl (λk S h ⟨_,_,S0,hk,_⟩=>hk.st) a9) ?_ ?_
 .exact WK.start hY hH.2.1 hH.2.2 hH.1.1 hH.1.2 n1 n2
 .intro k S0 h3 hk a6 cc cw ch
  obtain⟨t,ht⟩:∃t,(qv fs al)[k]? =some t:=⟨_,zB hk⟩;have c5:(qv fs al).getD k (0,0,0)=t:=by rw[zE,ht];rfl
  simp only[elT,c5];obtain⟨p1,p2,p3,a,b4⟩:=gv (zh ht);have s:=cc;rw[<-hL]at s;have cs:=QW t;refine wo.round (g:=Nh) mix s rfl kr kr kr ?_;simp only[go_sem,cs];refine⟨by rw[zf ow];exact s,?_⟩;generalize hB:LRec.mk .busy _ _ _ _ _ _=B;have bx:({ B with st:=.ready,pending:=none } :LRec)=L:=by rw[<-hB,<-hL]
  obtain⟨S1,H,bo,U,N,bs,b5,c1,z,hw⟩:=Lp.open ba cw a6 ch (.row (lu t)) B;rw[bo];clear cs bo hB;have di:yO true 3 (lu t) 0=some (.agg (lu t)):=zJ rfl ow;have e1:(lu t)[0]? =some (.int .i64 (t.1:Int)):=rfl;have e2:(lu t)[1]? =some (.int .i64 (t.2.1:Int)):=rfl;have e3:(lu t)[2]? =some (.int .i64 (t.2.2:Int)):=rfl;have db:Zx al t.1=a.ts:=by simp[Zx,b4]
  have b3:∀j,S1 j->j<h3.next:=λj hj=>y.here _ _ _ hw.1 j hj;have b6:=λg=>aa [ca,cb,ce,cp,x,.map m1,.map m2] 4 (hf:=.fn (.func 287) [] [.iptr [.iptr [ca,cb,ce,cp,x,.map m1,.map m2] 0] 0,.ptr h3.next 0]) ⟨_,_,_,rfl⟩ g;refine(b6 _).mono ?_;rintro r H2 ⟨hq,rfl⟩;subst hq;simp only[go_sem,gP,U];generalize C:LRec.mk .ready _ _ _ _ _ _=L2;have cl:L2.pending=none:=by rw[<-C]
  have cm:L2.st=.ready:=by rw[<-C]
  have E:=y.lcl λk2=>wh (qv fs al) (gU c fs al) k++wh (cK fs t.1) (cL c fs al t) k2;have cg:¬S1 m1/\¬S1 m2:=hw.2.2.2.1;obtain⟨l,hl⟩:∃l:List (Nat×Obj),l= [(m1,.map (kmD (D.int .i64) M)),(m2,.map (kvD O)),(h3.next,.row (lu t))]:=⟨_,rfl⟩;have Q:∀p∈l,p.1<H2.next/\H2.at' p.1=some p.2/\¬S1 p.1:=by
   rw[hl];intro p K;simp only[z7,wl,jP]at K;rcases K with rfl|rfl|rfl
   .exact⟨z.2.1,z.1.1,cg.1⟩
   .exact⟨z.2.2,z.1.2,cg.2⟩
   .exact⟨by rw[U];omega,N,λe=>wH _ (b3 _ e)⟩
  have o:∀{h:Heap},(∀p∈l,p.1<h.next/\h.at' p.1=some p.2)->StH M O m1 m2 h/\h3.next<h.next/\h.at' h3.next=some (.row (lu t)):=by
   rw[hl];intro h K;have q1:=K (m1,.map (kmD (D.int .i64) M)) jS;have q2:=K (m2,.map (kvD O)) jS;have q3:=K (h3.next,.row (lu t)) jS;exact⟨⟨⟨q1.2,q2.2⟩,q1.1,q2.1⟩,q3⟩
  clear hl;refine⟨⟨_,bs⟩,pO (W:=WL l λk2=>Y (wh (qv fs al) (gU c fs al) k++wh (cK fs t.1) (cL c fs al t) k2)) (n:=(cK fs t.1).length) (el:=elI (cK fs t.1)) (S:=λj=>(∃p∈l,j=p.1)\/S1 j) U (WL.lcl E) cm cl ?_ (λyl a9=>fQ (sc:=[ca,cb,ce,cp,x,.map m1,.map m2]) rfl hx ow Z.ok yl (R:=λj=>j=h3.next) ?_ (λg hg h2 hr=> ?_) a9) ?_ ?_⟩
  .exact WL.start (by rw[show wh (cK fs t.1) (cL c fs al t) 0= []from rfl,yK];exact c1) Q
  .rintro j rfl
   refine⟨by rw[qG _ ow];omega,.inr ?_⟩;rintro k S2 h2 ⟨_,_,S0,hk,_⟩;rw[(o hk.st).2.2,zf ow,N]
  .exact(Bq (sc:=[ca,cb,ce,cp,x,.map m1,.map m2]) rfl hx p1 g (by rw[hr _ rfl,zf ow,N])).mono λr h3 e=>e
  .intro k2 S3 h5 c7 J cf cx ck
   obtain⟨v,hv⟩:∃v,(cK fs t.1)[k2]? =some v:=⟨_,zB c7⟩;have c6:(cK fs t.1).getD k2 0=v:=by rw[zE,hv];rfl
   have cv:v<fs.length:=by
    have:=(pf _ fs 0 v (zh hv)).2;omega
   simp only[elI,c6];have u:=cf;rw[<-C]at u;refine wo.round (g:=Nh) mix u rfl kr kr kr ?_;simp only[go_sem];refine⟨u,?_⟩;generalize c2:LRec.mk .busy _ _ _ _ _ _=B2;have ak:({ B2 with st:=.ready,pending:=none } :LRec)=L2:=by rw[<-c2,<-C]
   obtain⟨S4,H4,ad,aj,ag,au,a7,A,d⟩:=Lp.openL0 E cx J ck B2;rw[ad];obtain⟨g1,g2,g3⟩:=o (h:=H4) λp K=>⟨by rw[aj];exact(A p K).1,(A p K).2⟩;have b:∀{fr:Frm}{G h7:Heap}{S5:Nat->Prop},G.at' (h3.next+1)=some (.loop B2)->But (λj=>j=h3.next+1) h5 G->(∀j,S5 j->S4 j\/G.next<=j)->But S4 G h7->Y (wh (qv fs al) (gU c fs al) k++wh (cK fs t.1) (cL c fs al t) (k2+1)) S5 h7->sf (LpK (h3.next+1) L2 (WL l λk2=>Y (wh (qv fs al) (gU c fs al) k++wh (cK fs t.1) (cL c fs al t) k2)) k2 S3 h5) (h3.next+1) .normal fr h7:=λa1 a2 a3 a4 a5=>Lp.callL E ak J ck d a1 a2 a3 a4 a5;rw[so hv]at b;have b1:=tR hx cv
   have b2:=tR hx p2;have k5:fs[v].cells[5]? =some (.int .i64 fs[v].duty):=rfl;have k6:fs[t.2.1].cells[6]? =some (.bool fs[t.2.1].chg):=rfl;have hd:W6 fs v=fs[v].duty:=by simp[W6,cv]
   have I:Gk fs t.2.1=fs[t.2.1].chg:=by simp[Gk,p2]
   have b9:cL c fs al t v=if((!(fs[v].duty==2)||fs[t.2.1].chg)&&PS c a.ts (cn fs t.2.2) (mc fs t.2.1) fs[v].duty (λ_=>true))=true then [[(t.1:Int),(t.2.1:Int),(t.2.2:Int),(v:Int)]]else []:=by unfold cL;rw[hd,I,db]
   have bb:=Bn Z p1 p2 p3 b4 fs[v].duty (q:=λ_=>true) (R:=λ_=>False) (f:=284) (cap:=[]) g1 (λi hi=>hi.elim) (λy hy h2 _=>zCP y h2);rw[b9]at b;have cu:(wh (qv fs al) (gU c fs al) k++wh (cK fs t.1) (cL c fs al t) k2).length<16777216:=by
    have q1:=jY (V:=gU c fs al) (l:=qv fs al) (m:=24) (λt _=>XZ c hn al t) k;have q2:=jY (V:=cL c fs al t) (l:=cK fs t.1) (m:=1) (λk _=>Rs c fs al t k) k2;have q3:(cK fs t.1).length<=fs.length:=tK _ fs 0;rw[zQ];omega
   have X:=λS h hy=>y.go _ S h [(t.1:Int),(t.2.1:Int),(t.2.2:Int),(v:Int)] .full hy cu jS jS (by
    intro n hn;simp only[z7,wl,jP]at hn;rcases hn with rfl|rfl|rfl|rfl<;>exact LU ow)
   simp only[yU,yG]at X;have c3:=bs4 (t.1:Int) (t.2.1:Int) (t.2.2:Int) (v:Int);clear hd I b9 cu;generalize fs[v]=fv at *
   generalize fs[t.2.1]=fu at *
   clear hL bx C ak Z hY hH cw s cc ht b7 b6 b8 c8 o Q cf u cx d A ad hv c1 z b5
   repeat' first|simp only[go_sem,qL, *]|apply bc<;>intro
   refine yJ kr ?_;cases h2:(fv.duty==2)<;>cases I:fu.chg
   case true.false=>
    rw[h2,I,iq jS,yK]at b;have c4:=λfr=>b (fr:=fr) ag au (λj hj=>.inl hj) (But.refl S4 H4) a7;clear b X bb
    repeat' first|simp only[go_sem,qL, *]|apply bc<;>intro
   all_goals
    rw[h2,I]at b
    repeat' first|simp only[go_sem,qL, *]|apply bc<;>intro
    refine bb.mono ?_;rintro r H5 ⟨T,rfl⟩;have bk:=(T.2 _ g2).trans g3;have a0:=au.ext1 T;have ai:=(T.2 _ (by rw[aj];exact J)).trans ag;have a8:=y.ext a7 T;cases hb:PS c a.ts (cn fs t.2.2) (mc fs t.2.1) fv.duty (λ_=>true)with
    |false=>
     rw[hb,iq jD,yK]at b;have c4:=λfr=>b (fr:=fr) ai a0 (λj hj=>.inl hj) (But.refl S4 H5) a8;clear b X bb
     repeat' first|simp only[go_sem, *]|apply bc<;>intro hc
    |true=>
     rw[hb,ip jD]at b;simp only[go_sem,bk,e1,e2,e3,c3];refine(X _ _ a8).mono ?_;rintro r h7 ⟨S5,P,F,d⟩;rw[qV]at d;exact b ai a0 P F d
  .intro S' h5 hs hb d
   obtain⟨S5,P,F,c0⟩:=WL.stop (λp K=>(Q p K).2.1) (λj hj=>by rw[U];exact hs j hj) hb d;rw[oD]at c0;have dd:Y (wh (qv fs al) (gU c fs al) (k+1)) S5 h5:=by rw[so ht];exact c0
   have b:∀fr,sf (LpK h.next L (WK m1 (.map (kmD (D.int .i64) M)) m2 (.map (kvD O)) λk=>Y (wh (qv fs al) (gU c fs al) k)) k S0 h3) h.next .normal fr h5:=λfr=>Lp.call ba bx a6 ch hw bs b5 P F dd;simp only[go_sem];exact b _
 .intro S2 h5 hs hb hw
  obtain⟨S5,P,F,d⟩:=WK.stop hH.1.1 hH.1.2 hs hb hw;rw[oD]at d;simp only[go_sem];exact⟨S5,P,F,d⟩
def zCK(x y:Apt)(c:Bool):kW prog .eql 130 c (.agg [.str x.a,.str x.b]) (.agg [.str y.a,.str y.b])=some (.bool (x.a==y.a&&x.b==y.b)):=by
 have d:eqT prog 130=some [.s,.s]:=kr;simp only[kW,d,L9,eqK,qZ,rh,oH]
def GL{l:List Apt}(q:yZ 2 (H6 l) d)(D:l.length<=1048576)(n:Apt)(g:Heap):
  zD prog 430 [d,.agg [.str n.a,.str n.b]] g λr h'=>h'=g/\r=.int .i64 (UT (λx:Apt=>n.a==x.a&&n.b==x.b) l):=by
 have s:=bW q;have heq:=zCK n;obtain⟨p,t⟩:∃p:Apt->Bool,(λx:Apt=>n.a==x.a&&n.b==x.b)=p:=⟨_,rfl⟩;have m:∀x,(n.a==x.a&&n.b==x.b)=p x:=λx=>by rw[<-t]
 rw[t];refine zj zGa ?_;simp only[f430,zA];simp only[go_sem, *];refine zY (λi fr h=>fr 0=d/\fr 3=.iptr [.str n.a,.str n.b] 0/\fr 7=.int .i64 (l.length:Int)/\fr 8=.int .i64 (i:Int)/\h=g/\∀j (e:j<l.length),j<i->p l[j]=false) l.length ow ?_ ?_ ?_
 .simp only[go_sem,zM,zV,zG]
  exact λj e h0=>absurd h0 (yX _)
 .rintro i fr h c e1 C ⟨v,w,y,z,rfl,e⟩
  have u:=aZ q c;simp only[Apt.cells]at u;have o:=heq l[i];rw[m]at o;cases k:p l[i]with
  |true=>
   have B:=jF (p:=p) c e k;rw[k]at o;simp only[go_sem, *];refine yJ kr ?_;simp only[go_sem, *]
  |false=>
   have A:=ug (p:=p) c e k;rw[k]at o;simp only[go_sem, *];refine yJ kr ?_;simp only[go_sem, *];exact A
 .rintro fr h e1 ⟨v,w,y,z,rfl,e⟩
  have B:=jG (p:=p) λj f=>e j f f;exact au
def Q5{l:List Apt}(e:yZ 2 (H6 l) d)(h:l.length<=1048576)(n:Apt)(g:Heap):
  zD prog 396 [d,.agg [.str n.a,.str n.b]] g λr h'=>h'=g/\r=.bool (l.any λx:Apt=>n.a==x.a&&n.b==x.b):=by
 have c:=GL e h n;have f:=gQ (l:=l) (p:=λx:Apt=>n.a==x.a&&n.b==x.b);refine zj zGY ?_;simp only[f396,zA]
 repeat' first|simp only[go_sem, *]|apply bc<;>intro i|refine zD.use (c _) ?_
def zLZ(a b:List UInt8):Apt:=if(!(WS a b||a==b))=true then⟨b,a⟩else⟨a,b⟩
def dV(c:Cat)(a b:List UInt8):Bool:=(rt c==0)&&c.ps.any λx=>(zLZ a b).a==x.a&&(zLZ a b).b==x.b
def WZ(j:uB c d)(k:c.Sm)(x y:List UInt8)(g:Heap):zD prog 366 [d,.str x,.str y] g λr h'=>h'=g/\r=.bool (dV c x y):=by
 have i:=fP j k;obtain⟨a,b,e,p,rfl,o,s,t,m⟩:=j;have l:∀u v:List UInt8,qW prog 130 [(0,.str u),(1,.str v)]=some (.agg [.str u,.str v]):=λu v=>by simp[qW,Ph,HW,ua,D.notTuple,D.cells,wS]
 have f:=λn=>Q5 m k.ps n;obtain⟨R,h⟩:∃R,dV c x y=R:=⟨_,rfl⟩;rw[h];unfold dV zLZ at h;refine zj zGU ?_;simp only[f366,zA];cases q:(WS x y||x==y)with
 |true=>
  rw[iq (by rw[q];decide)]at h;have h1:=f ⟨x,y⟩;subst h
  repeat' first|simp only[go_sem, *]|apply bc<;>intro j|refine zD.use (i _) ?_|refine zD.use (h1 _) ?_
 |false=>
  rw[ip (by rw[q];rfl)]at h;have h1:=f ⟨y,x⟩;subst h
  repeat' first|simp only[go_sem, *]|apply bc<;>intro j|refine zD.use (i _) ?_|refine zD.use (h1 _) ?_
def zGu(c:Cat)(b:List Trm)(x:Trm):Bool:=b.any λy=>dV c x.a y.a
def zAW(c:Cat)(a b:List Trm):Bool:=a.any (zGu c b)
theorem Kv{ca cb ce cp:D}{rest:List D}(x:uB c (.agg [ca,cb,ce,cp]))(sm:c.Sm){a b:Alt}(N:a.Ok)(O:b.Ok)(g:Heap):
  zD prog 288 [.iptr (ca::cb::ce::cp::rest) 0,a.d,b.d] g λr h'=>Ext g h'/\r=.bool (zAW c a.ts b.ts):=by
 have a0:=uI N.sl;have a2:=uI O.sl;have aj:=N.len;have ak:=O.len;obtain⟨q1,q2,_⟩:=zw N.sl;obtain⟨q3,q4,_⟩:=zw O.sl;have hE:Ext g g:=Ext.refl g;have a6:yO true 4 (ca::cb::ce::cp::rest) 0=some (.agg [ca,cb,ce,cp]):=by simp[yO]
 refine zj zGB ?_;simp only[f288,zA]
 repeat' first|simp only[go_sem, *]|apply bc<;>intro x
 refine zY (λi fr h'=>fr 0=.iptr (ca::cb::ce::cp::rest) 0/\fr 2=b.d/\fr 11=a.d/\fr 12=.int .i64 (a.ts.length:Int)/\fr 13=.int .i64 (i:Int)/\Ext g h'/\∀j (t:j<a.ts.length),j<i->zGu c b.ts a.ts[j]=false) a.ts.length ow ?_ ?_ ?_
 .simp only[go_sem,zM,zV,zG]
  exact⟨hE,λj t h0=>by omega⟩
 .rintro i fr h1 E e1 ew ⟨I,J,l,m,o,A,t⟩
  have a1:=pW N.sl E;have Z:=λe=>Yl (p:=zGu c b.ts) E e;have Y:=λe=>ug (p:=zGu c b.ts) E t e;generalize a.ts[i]=z at *
  have G:yW prog 197 (.ptr h1.next 0) (.agg z.cells) (h1.new h1.next (.row [.str [],.str []]))=some (h1.new h1.next (.row z.cells)):=ym uO ow rfl rfl rfl;have a5:yO true 2 z.cells 0=some (.agg z.cells):=zJ rfl ow;obtain⟨H,hH,f,C,q⟩:∃H,h1.new h1.next (.row z.cells)=H/\H.at' h1.next=some (.row z.cells)/\Ext g H/\h1.next<H.next:=⟨_,rfl,z5 _ _ _,A.new A.1 _,by rw[za];omega⟩;rw[hH]at G
  repeat' first|simp only[go_sem, *]|apply bc<;>intro x
  obtain⟨M,F⟩:∃n,h1.next=n:=⟨_,rfl⟩;rw[F]at f q⊢;refine zY (λj fr h'=>fr 0=.iptr (ca::cb::ce::cp::rest) 0/\fr 2=b.d/\fr 11=a.d/\fr 12=.int .i64 (a.ts.length:Int)/\fr 13=.int .i64 (i:Int)/\fr 8=.ptr M 0/\fr 17=b.d/\fr 18=.int .i64 (b.ts.length:Int)/\fr 19=.int .i64 (j:Int)/\h'.at' M=some (.row z.cells)/\M<h'.next/\Ext g h'/\∀k (hk:k<b.ts.length),k<j->dV c z.a b.ts[k].a=false) b.ts.length ow ?_ ?_ ?_
  .simp only[go_sem,zM,zV,zG]
   exact⟨I,J,l,m,o,f,q,C,λj t h0=>by omega⟩
  .clear I J l m o f C G q F
   rintro j T u s e2 ag ⟨I,J,l,m,o,f8,Q,R,S,f,q,B,t⟩;have b1:=pW O.sl s;have X:dV c z.a b.ts[j].a=true->zGu c b.ts z=true:=λe=>Yl (p:=λy:Trm=>dV c z.a y.a) s e;have W:=λe=>ug (p:=λy:Trm=>dV c z.a y.a) s t e;generalize b.ts[j]=y at *
   have L:yW prog 197 (.ptr u.next 0) (.agg y.cells) (u.new u.next (.row [.str [],.str []]))=some (u.new u.next (.row y.cells)):=ym uO ow rfl rfl rfl;have a7:yO true 2 y.cells 0=some (.agg y.cells):=zJ rfl ow;have kz:z.cells[0]? =some (.str z.a):=rfl;have ky:y.cells[0]? =some (.str y.a):=rfl;obtain⟨H3,U,V,a4,ai,ad⟩:∃H,u.new u.next (.row y.cells)=H/\H.at' u.next=some (.row y.cells)/\H.at' M=some (.row z.cells)/\Ext g H/\M<H.next:=⟨_,rfl,z5 _ _ _,by rw[zf ow];exact f,B.new B.1 _,by rw[za];omega⟩;rw[U]at L;have v:=WZ x sm z.a y.a H3;cases P:dV c z.a y.a with
   |false=>
    rw[P]at v;have w:=W P
    repeat' first|simp only[go_sem, *]|apply bc<;>intro x
    refine yJ kr ?_
    repeat' first|simp only[go_sem,qL, *]|apply bc<;>intro x|(refine zD.mono v ?_;rintro r h ⟨hq,rfl⟩)
    subst hq;exact w
   |true=>
    rw[P]at v;have w:zAW c a.ts b.ts=true:=Z (X P)
    repeat' first|simp only[go_sem, *]|apply bc<;>intro x
    refine yJ kr ?_
    repeat' first|simp only[go_sem,qL, *]|apply bc<;>intro x|refine zD.use v ?_
  .clear I J l m o f C G q F
   rintro T u e2 ⟨I,J,l,m,o,f8,Q,R,S,f,q,B,t⟩;have w:=Y (dU (p:=λy:Trm=>dV c z.a y.a) (λi K _=>t i K K))
   repeat' first|simp only[go_sem, *]|apply bc<;>intro x
   exact w
 .rintro fr h1 e1 ⟨I,J,l,m,o,A,t⟩
  have a3:zAW c a.ts b.ts=false:=dU λi K _=>t i K K;exact au
def Lu(fs:List Fac)(t r:Tri):Bool:=decide ((r.1:Int)<(t.1:Int))|| !((r.2.2:Int)==(t.2.2:Int))|| !(mc fs r.2.1==0)||((rD fs t.1==rD fs r.1)&& !((r.2.1:Int)==(t.2.1:Int)))
def nc(c:Cat)(fs:List Fac)(al:Nat->Option Alt)(t r:Tri):List (List Int):=
 if(!(Lu fs t r)&&zAW c (Zx al t.1) (Zx al r.1))=true then [[(t.1:Int),(r.1:Int),(t.2.1:Int),(r.2.1:Int),(t.2.2:Int)]]else []
def rq(c:Cat)(fs:List Fac)(al:Nat->Option Alt)(t:Tri):List (List Int):=if(mc fs t.2.1==0)=true then(qv fs al).flatMap (nc c fs al t)else []
def Ws(c:Cat)(fs:List Fac)(al:Nat->Option Alt)(t r:Tri):(nc c fs al t r).length<=1:=by unfold nc;split<;>simp
def aY(c:Cat)(a:fs.length<=24)(al:Nat->Option Alt)(t:Tri):(rq c fs al t).length<=4096:=by
 unfold rq;split
 .have h1:=tJ (m:=1) (l:=qv fs al) λr _=>Ws c fs al t r
  grind [ov]
 .simp
theorem Bg{M:KM Int}{O:KV}{m1 m2:Nat}(hs:Stt c fs al M O sc m1 m2)(hn:fs.length<=24)
  {ff:FuncId} {Y:List (List Int)->(Nat->Prop)->Heap->Prop} (y:Fnd2 prog 5 ff cap Y) {w:Heap} (hY:Y [] S w) (hH:StH M O m1 m2 w) (n1:¬S m1) (n2:¬S m2):
  zD prog 230 [.iptr sc 0,.fn (.func ff) [] cap] w λ_ h'=>∃S',(∀i,S' i->S i\/w.next<=i)/\But S w h'/\Y ((qv fs al).flatMap (rq c fs al)) S' h':=by
 have o:=hs;obtain⟨⟨ca,cb,ce,cp,x,rfl,X,hx,_⟩,sm,du,di,cv,halt⟩:=hs;have ai:=λg=>bE [ca,cb,ce,cp,x,.map m1,.map m2] g;refine zj zFu ?_;simp only[f230,zA]
 repeat' first|simp only[go_sem,cZ, *]|apply bc<;>intro X|(refine zD.mono (ai _) ?_;rintro r h ⟨hq,rfl⟩)
 subst hq
 rename Heap=>w
 generalize hL:LRec.mk _ _ _ _ _ _ _=L;have dk:L.pending=none:=by rw[<-hL]
 have dr:L.st=.ready:=by rw[<-hL]
 have b5:=y.lcl λk=>wh (qv fs al) (rq c fs al) k;have h4:=ov (al:=al) hn;refine pO (W:=WK m1 (.map (kmD (D.int .i64) M)) m2 (.map (kvD O)) λk=>Y (wh (qv fs al) (rq c fs al) k)) (n:=(qv fs al).length) (el:=elT (qv fs al)) (S:=λj=>j=m1\/j=m2\/S j) rfl (WK.lcl b5) dr dk ?_ (λyl b4=>kC o yl (λk S h ⟨_,_,S0,hk,_⟩=>hk.st) b4) ?_ ?_
 .exact WK.start hY hH.2.1 hH.2.2 hH.1.1 hH.1.2 n1 n2
 .intro k S0 h3 hk a9 b6 cf c0
  obtain⟨t,ht⟩:∃t,(qv fs al)[k]? =some t:=⟨_,zB hk⟩;have dd:(qv fs al).getD k (0,0,0)=t:=by rw[zE,ht];rfl
  simp only[elT,dd];obtain⟨p1,p2,p3,a,Z⟩:=gv (zh ht);have s:=b6;rw[<-hL]at s;have U:=QW t;refine wo.round (g:=Ni) mix s rfl kr kr kr ?_;simp only[go_sem,U];refine⟨by rw[zf ow];exact s,?_⟩;generalize hB:LRec.mk .busy _ _ _ _ _ _=B;have bx:({ B with st:=.ready,pending:=none } :LRec)=L:=by rw[<-hB,<-hL]
  obtain⟨S1,H,cl,bs,c6,bo,cu,cg,F,hw⟩:=Lp.open b5 cf a9 c0 (.row (lu t)) B;rw[cl];clear U cl hB;have d0:yO true 3 (lu t) 0=some (.agg (lu t)):=zJ rfl ow;have e1:(lu t)[0]? =some (.int .i64 (t.1:Int)):=rfl;have e2:(lu t)[1]? =some (.int .i64 (t.2.1:Int)):=rfl;have e3:(lu t)[2]? =some (.int .i64 (t.2.2:Int)):=rfl;have ds:Zx al t.1=a.ts:=by simp[Zx,Z]
  have cm:∀j,S1 j->j<h3.next:=λj hj=>y.here _ _ _ hw.1 j hj;have a2:=tR hx p2;have c5:mc fs t.2.1=fs[t.2.1].rel:=by simp[mc,p2]
  have k3:fs[t.2.1].cells[3]? =some (.int .i64 fs[t.2.1].rel):=rfl;have v:∀{fr:Frm}{G h7:Heap}{S5:Nat->Prop},G.at' w.next=some (.loop B)->But (λj=>j=w.next) h3 G->(∀j,S5 j->S1 j\/G.next<=j)->But S1 G h7->Y (wh (qv fs al) (rq c fs al) (k+1)) S5 h7->sf (LpK w.next L (WK m1 (.map (kmD (D.int .i64) M)) m2 (.map (kvD O)) λk=>Y (wh (qv fs al) (rq c fs al) k)) k S0 h3) w.next .normal fr h7:=λa1 a2 a3 a4 a5=>Lp.call b5 bx a9 c0 hw a1 a2 a3 a4 a5;rw[so ht]at v;refine yJ kr ?_;rw[<-c5]at k3;clear c5;cases c4:(mc fs t.2.1==0)with
  |false=>
   have hv:rq c fs al t= []:=by unfold rq;rw[c4];rfl
   rw[hv,yK]at v;have aj:=λfr=>v (fr:=fr) bo cu (λj hj=>.inl hj) (But.refl S1 H) cg;clear hL bx o hY hH cf s b6 ht ai v
   repeat' first|simp only[go_sem,qL, *]|apply bc<;>intro X
  |true=>
   have hv:rq c fs al t=(qv fs al).flatMap (nc c fs al t):=by unfold rq;rw[c4];rfl
   rw[hv]at v
   repeat' first|simp only[go_sem,qL,cZ, *]|apply bc<;>intro X|(refine zD.mono (ai _) ?_;rintro r h ⟨hq,rfl⟩)
   subst hq
   rename Heap=>H
   generalize J:LRec.mk .ready _ _ _ _ _ _=L2;have c2:L2.pending=none:=by rw[<-J]
   have c3:L2.st=.ready:=by rw[<-J]
   have K:=y.lcl λk2=>wh (qv fs al) (rq c fs al) k++wh (qv fs al) (nc c fs al t) k2;have cx:¬S1 m1/\¬S1 m2:=hw.2.2.2.1;obtain⟨l,hl⟩:∃l:List (Nat×Obj),l= [(m1,.map (kmD (D.int .i64) M)),(m2,.map (kvD O)),(h3.next,.row (lu t))]:=⟨_,rfl⟩;have V:∀p∈l,p.1<H.next/\H.at' p.1=some p.2/\¬S1 p.1:=by
    rw[hl];intro p R;simp only[z7,wl,jP]at R;rcases R with rfl|rfl|rfl
    .exact⟨F.2.1,F.1.1,cx.1⟩
    .exact⟨F.2.2,F.1.2,cx.2⟩
    .exact⟨by rw[bs];omega,c6,λe=>wH _ (cm _ e)⟩
   have z:∀{h:Heap},(∀p∈l,p.1<h.next/\h.at' p.1=some p.2)->StH M O m1 m2 h/\h3.next<h.next/\h.at' h3.next=some (.row (lu t)):=by
    rw[hl];intro h R;have q1:=R (m1,.map (kmD (D.int .i64) M)) jS;have q2:=R (m2,.map (kvD O)) jS;have q3:=R (h3.next,.row (lu t)) jS;exact⟨⟨⟨q1.2,q2.2⟩,q1.1,q2.1⟩,q3⟩
   clear hl;refine⟨⟨_,bo⟩,pO (W:=WL l λk2=>Y (wh (qv fs al) (rq c fs al) k++wh (qv fs al) (nc c fs al t) k2)) (n:=(qv fs al).length) (el:=elT (qv fs al)) (S:=λj=>(∃p∈l,j=p.1)\/S1 j) bs (WL.lcl K) c3 c2 ?_ (λyl b4=>kC o yl (λk S h ⟨_,_,S0,hk,_⟩=>(z hk.st).1) b4) ?_ ?_⟩
   .exact WL.start (by rw[show wh (qv fs al) (nc c fs al t) 0= []from rfl,yK];exact cg) V
   .intro k2 S3 h5 de ba cw c9 c1
    obtain⟨r,hr⟩:∃r,(qv fs al)[k2]? =some r:=⟨_,zB de⟩;have db:(qv fs al).getD k2 (0,0,0)=r:=by rw[zE,hr];rfl
    obtain⟨r1,r2,r3,b,ad⟩:=gv (zh hr);simp only[elT,db];have A:=cw;rw[<-J]at A;have U:=QW r;refine wo.round (g:=Ni) mix A rfl kr kr kr ?_;simp only[go_sem,U];refine⟨by rw[zf ow];exact A,?_⟩;generalize ck:LRec.mk .busy _ _ _ _ _ _=B2;have a6:({ B2 with st:=.ready,pending:=none } :LRec)=L2:=by rw[<-ck,<-J]
    obtain⟨S4,H4,ak,dt,b7,au,a7,bb,I,q⟩:=Lp.openL K c9 ba c1 (.row (lu r)) B2;rw[ak];clear ak ck U;obtain⟨g1,g2,g3⟩:=z (h:=H4) λp R=>⟨by have:=(I p R).1;omega,(I p R).2⟩;have f:∀{fr:Frm}{G h7:Heap}{S5:Nat->Prop},G.at' (h3.next+1)=some (.loop B2)->But (λj=>j=h3.next+1) h5 G->(∀j,S5 j->S4 j\/G.next<=j)->But S4 G h7->Y (wh (qv fs al) (rq c fs al) k++wh (qv fs al) (nc c fs al t) (k2+1)) S5 h7->sf (LpK (h3.next+1) L2 (WL l λk2=>Y (wh (qv fs al) (rq c fs al) k++wh (qv fs al) (nc c fs al t) k2)) k2 S3 h5) (h3.next+1) .normal fr h7:=λa1 a2 a3 a4 a5=>Lp.callL K a6 ba c1 q a1 a2 a3 a4 a5
    rw[so hr]at f;have b1:=tR hx p1;have b2:=tR hx r1;have b3:=tR hx r2;have o1:(lu r)[0]? =some (.int .i64 (r.1:Int)):=rfl;have o2:(lu r)[1]? =some (.int .i64 (r.2.1:Int)):=rfl;have o3:(lu r)[2]? =some (.int .i64 (r.2.2:Int)):=rfl;have w1:rD fs t.1=fs[t.1].comp:=by simp[rD,p1]
    have w2:rD fs r.1=fs[r.1].comp:=by simp[rD,r1]
    have w3:mc fs r.2.1=fs[r.2.1].rel:=by simp[mc,r2]
    have k5:fs[t.1].cells[1]? =some (.str fs[t.1].comp):=rfl;have k6:fs[r.1].cells[1]? =some (.str fs[r.1].comp):=rfl;have k7:fs[r.2.1].cells[3]? =some (.int .i64 fs[r.2.1].rel):=rfl;rw[<-w1]at k5;rw[<-w2]at k6;rw[<-w3]at k7;clear w1 w2 w3;have c8:(wh (qv fs al) (rq c fs al) k++wh (qv fs al) (nc c fs al t) k2).length<16777216:=by
     have q1:(wh (qv fs al) (rq c fs al) k).length<=k*4096:=by
      have:=tJ (m:=4096) (l:=(qv fs al).take k) λt _=>aY c hn al t;rw[yB]at this;exact zb this (yg _ (Nat.min_le_left _ _))
     have q2:(wh (qv fs al) (nc c fs al t) k2).length<=k2*1:=by
      have:=tJ (m:=1) (l:=(qv fs al).take k2) λr _=>Ws c fs al t r;rw[yB]at this;exact zb this (yg _ (Nat.min_le_left _ _))
     rw[zQ];omega
    have N:=λS h hy=>y.go _ S h [(t.1:Int),(r.1:Int),(t.2.1:Int),(r.2.1:Int),(t.2.2:Int)] .full hy c8 jS jS (by
     intro n hn;simp only[z7,wl,jP]at hn;rcases hn with rfl|rfl|rfl|rfl|rfl<;>exact LU ow)
    simp only[yU,yG]at N;have u:=bs5 (t.1:Int) (r.1:Int) (t.2.1:Int) (r.2.1:Int) (t.2.2:Int);have P:=Uj o g1.1.1 p1 false;rw[Z]at P;replace P:uM prog 208 (.map m1) (.int .i64 (t.1:Int)) false H4=some a.d:=P;have Q:=Uj o g1.1.1 r1 false;rw[ad]at Q;replace Q:uM prog 208 (.map m1) (.int .i64 (r.1:Int)) false H4=some b.d:=Q;have c7:Zx al r.1=b.ts:=by simp[Zx,ad]
    have cs:nc c fs al t r=if(!(Lu fs t r)&&zAW c a.ts b.ts)=true then [[(t.1:Int),(r.1:Int),(t.2.1:Int),(r.2.1:Int),(t.2.2:Int)]]else []:=by unfold nc;rw[ds,c7]
    rw[cs]at f;have ag:=Kv (rest:=[x,.map m1,.map m2]) X sm (o.alt _ _ Z) (o.alt _ _ ad) H4;obtain⟨q1,q2,_⟩:=zw (o.alt _ _ Z).sl;obtain⟨q3,q4,_⟩:=zw (o.alt _ _ ad).sl;have dv:h3.next<h5.next:=ow;clear hL bx J a6 o hY hH cf s b6 ht ai cv di z V cw A c9 q I cg F v hv cs c8;generalize h3.next=n3 at *
    generalize h5.next=n5 at *
    refine yq Heap.emp (pwf [0,9,1,2,3,4,5,6,7,8,10,11,12,13,14,15,16,17,18,19] []) kr kr (λi ob e=>by cases e) ?_
    repeat' first|simp only[go_sem,qL, *]|apply bc<;>intro X
    refine fI (λC h'=>C 75=.bool (Lu fs t r)/\C 2=.iptr [.iptr [ca,cb,ce,cp,x,.map m1,.map m2] 0] 0/\C 3=.iptr [.fn (.func ff) [] cap] 0/\C 4=.ptr n3 0/\C 5=.ptr n5 0/\h'=H4) ?_ ?_
    .refine yJ kr ?_
     unfold Lu;clear f N ag
     repeat' first|simp only[go_sem,qL, *]|apply bc<;>intro X
    rintro C G ⟨ch,f2,f3,f4,f5,rfl⟩;clear b1 b2 b3 k5 k6 k7 a2 k3;cases cc:Lu fs t r with
    |true=>
     rw[cc,iq jS,yK]at f;rw[cc]at ch;have aj:=λfr=>f (fr:=fr) au a7 (λj hj=>.inl hj) (But.refl S4 G) bb;clear f N ag
     repeat' first|simp only[go_sem, *]|apply bc<;>intro X
    |false=>
     rw[cc]at f ch
     repeat' first|simp only[go_sem, *]|apply bc<;>intro X
     refine yq Heap.emp (pwf [0,1,8,2,3,4,5,6,7,9,10,11,12,13,14,15] []) kr kr (λi ob e=>by cases e) ?_
     repeat' first|simp only[go_sem,qL, *]|apply bc<;>intro X
     refine ag.mono ?_;rintro r' H5 ⟨E,rfl⟩;have b8:=(E.2 _ g2).trans g3;have b9:=(E.2 _ ow).trans b7;have a8:=a7.ext1 E;have a0:=(E.2 _ ow).trans au;have bk:=y.ext bb E;cases hb:zAW c a.ts b.ts with
     |false=>
      rw[hb,iq jD,yK]at f;have aj:=λfr=>f (fr:=fr) a0 a8 (λj hj=>.inl hj) (But.refl S4 H5) bk;clear f N ag
      repeat' first|simp only[go_sem, *]|apply bc<;>intro X
     |true=>
      rw[hb,ip jD]at f;simp only[go_sem,f2,f3,f4,f5,b8,b9,e1,e2,e3,o1,o2,o3,u];refine(N _ _ bk).mono ?_;rintro r h7 ⟨S5,T,u,q⟩;rw[qV]at q;exact f a0 a8 T u q
   .intro S' h5 hs hb q
    obtain⟨S5,T,u,da⟩:=WL.stop (λp R=>(V p R).2.1) (λj hj=>by rw[bs];exact hs j hj) hb q;rw[oD]at da;have aj:=λfr=>v (fr:=fr) bo cu T u da;simp only[go_sem];exact aj _
 .intro S2 h5 hs hb hw
  obtain⟨S5,T,u,q⟩:=WK.stop hH.1.1 hH.1.2 hs hb hw;rw[oD]at q;simp only[go_sem];exact⟨S5,T,u,q⟩
def Bs(g:Fac)(h:Heap):zD prog 289 [.agg g.cells] h λr h'=>h'=h/\r=.bool true:=by
 refine zj zGC ?_;simp only[f289,zA];exact au
def Bu(g:Fac)(h:Heap):zD prog 291 [.agg g.cells] h λr h'=>h'=h/\r=.bool true:=by
 refine zj zKn ?_;simp only[f291,zA];exact au
def Bt(b:sc[4]? =some x)(c:yZ 12 (sL fs) x){u:Nat}(a:u<fs.length)(g:Fac)(f:h.at' id=some (.row [.int .i64 (u:Int)])):
  zD prog 290 [.agg g.cells,.iptr [.iptr sc 0] 0,.ptr id 0] h λr h'=>h'=h/\r=.bool (g.out==rn fs u):=by
 have k1:fs[u].cells[2]? =some (.str fs[u].out):=rfl;have k2:g.cells[2]? =some (.str g.out):=rfl;have d:=tR c a;have j:rn fs u=fs[u].out:=by simp[rn,a]
 refine zj zGD ?_;simp only[f290,zA];simp only[go_sem, *];refine yq Heap.emp (pwf [2,6,0,1,3,4,5,7,8,9,10,11] []) kr kr (λi k e=>by cases e) ?_;simp only[go_sem,qL, *]
def N7(fs:List Fac)(i:Nat):List (List UInt8):=match fs[i]? with
 |some f=>f.list
 |none=>[]
abbrev dL(fs:List Fac):List Nat:=fIx 3 (λ_=>true) fs
abbrev X9(fs:List Fac):List Nat:=fIx 2 (λ_=>true) fs
def Xl(i h:Nat):List (List Int):=[[(i:Int),(h:Int)]]
def lh(fs:List Fac)(O:KV)(i:Nat):List (List Int):=match p8 (rn fs i) O with
 |none=>[]
 |some own=>if((N7 fs i).any λs=>s==own)=true then []else(ln fs i).flatMap (Xl i)
def Xm(b:fs.length<=24)(O:KV)(i:Nat):(lh fs O i).length<=24:=by
 unfold lh;split
 .simp
 .split
  .simp
  .have h1:=tJ (m:=1) (l:=ln fs i) λh _=>(show(Xl i h).length<=1 from zC _)
   have a:(ln fs i).length<=fs.length:=tK _ fs 0;omega
theorem zCU{M:KM Int}{O:KV}{m1 m2:Nat}(hs:Stt c fs al M O sc m1 m2)(hn:fs.length<=24)
  {ff:FuncId} {Y:List (List Int)->(Nat->Prop)->Heap->Prop} (y:Fnd2 prog 5 ff cap Y) {w:Heap} (hY:Y [] S w) (hH:StH M O m1 m2 w) (n1:¬S m1) (n2:¬S m2):
  zD prog 231 [.iptr sc 0,.fn (.func ff) [] cap] w λ_ h'=>∃S',(∀i,S' i->S i\/w.next<=i)/\But S w h'/\Y ((dL fs).flatMap (lh fs O)) S' h':=by
 have X:=hs;obtain⟨⟨ca,cb,ce,cp,x,rfl,hc,hx,_⟩,sm,c9,c3,c8,halt⟩:=hs;have F:=λg=>aa [ca,cb,ce,cp,x,.map m1,.map m2] 3 (hf:=.fn (.func 289) [] []) ⟨_,_,_,rfl⟩ g;refine zj zFw ?_;simp only[f231,zA]
 repeat' first|simp only[go_sem,gP, *]|apply bc<;>intro hc|(refine zD.mono (F _) ?_;rintro r h ⟨hq,rfl⟩)
 subst hq
 rename Heap=>w
 generalize hL:LRec.mk _ _ _ _ _ _ _=L;have c4:L.pending=none:=by rw[<-hL]
 have c5:L.st=.ready:=by rw[<-hL]
 have ba:=y.lcl λk=>wh (dL fs) (lh fs O) k;refine pO (W:=WK m1 (.map (kmD (D.int .i64) M)) m2 (.map (kvD O)) λk=>Y (wh (dL fs) (lh fs O) k)) (n:=(dL fs).length) (el:=elI (dL fs)) (S:=λj=>j=m1\/j=m2\/S j) rfl (WK.lcl ba) c5 c4 ?_ (λyl a9=>fQ (sc:=[ca,cb,ce,cp,x,.map m1,.map m2]) rfl hx ow X.ok yl (R:=λj=>False) (λ_ h=>h.elim) (λg hg h2 hr=>Bs g h2) a9) ?_ ?_
 .exact WK.start hY hH.2.1 hH.2.2 hH.1.1 hH.1.2 n1 n2
 .intro k S0 h3 hk ag bo bs cg
  obtain⟨t,ht⟩:∃t,(dL fs)[k]? =some t:=⟨_,zB hk⟩;have cx:(dL fs).getD k 0=t:=by rw[zE,ht];rfl
  have p1:t<fs.length:=by
   have:=(pf _ fs 0 t (zh ht)).2;omega
  simp only[elI,cx];have b:=bo;rw[<-hL]at b;have au:yW prog 3 (.ptr h3.next 0) (.int .i64 (t:Int)) (h3.new h3.next (.row [.int .i64 0]))=some (h3.new h3.next (.row [.int .i64 (t:Int)])):=by
   rw[yN (z5 _ _ _) sG jS rfl rfl,cO];rfl
  refine wo.round (g:=Nj) mix b rfl kr kr kr ?_;simp only[go_sem,au];refine⟨by rw[zf ow];exact b,?_⟩;generalize hB:LRec.mk .busy _ _ _ _ _ _=B;have a8:({ B with st:=.ready,pending:=none } :LRec)=L:=by rw[<-hB,<-hL]
  obtain⟨S1,H,b2,a7,P,a6,b8,Z,a0,hw⟩:=Lp.open ba bs ag cg (.row [.int .i64 (t:Int)]) B;rw[b2];clear au b2 hB;have b7:∀j,S1 j->j<h3.next:=λj hj=>y.here _ _ _ hw.1 j hj;have b1:=tR hx p1;have ck:rn fs t=fs[t].out:=by simp[rn,p1]
  have cf:N7 fs t=fs[t].list:=by simp[N7,p1]
  have q:∀{fr:Frm}{G h7:Heap}{S5:Nat->Prop},G.at' w.next=some (.loop B)->But (λj=>j=w.next) h3 G->(∀j,S5 j->S1 j\/G.next<=j)->But S1 G h7->Y (wh (dL fs) (lh fs O) (k+1)) S5 h7->sf (LpK w.next L (WK m1 (.map (kmD (D.int .i64) M)) m2 (.map (kvD O)) λk=>Y (wh (dL fs) (lh fs O) k)) k S0 h3) w.next .normal fr h7:=λa1 a2 a3 a4 a5=>Lp.call ba a8 ag cg hw a1 a2 a3 a4 a5;rw[so ht]at q;have k1:fs[t].cells[2]? =some (.str fs[t].out):=rfl;have k2:fs[t].cells[8]? =some (.int .i64 0)\/True:=.inr trivial;have k8:fs[t].cells[11]? =some fs[t].d:=rfl;have bx:=c3 _ (zH p1);have bb:=kn bx.list bx.ll
  obtain⟨q1,q2,_⟩:=zw bx.list;have u:=Jv a0.1.2 (rn fs t) true;have o:lh fs O t=match p8 (rn fs t) O with
   |none=>[]
   |some own=>if(fs[t].list.any λs=>s==own)=true then []else(ln fs t).flatMap (Xl t):=by unfold lh;rw[cf]
  rw[<-ck]at k1;clear ck cf k2;generalize fs[t]=f at *
  refine yq Heap.emp (pwf [0,4,8,1,2,3,5,6,7,9,10,11,12,13,14,15,16,17] []) kr kr (λi ob e=>by cases e) ?_;have a:lh fs O t= []->∀fr,sf (LpK w.next L (WK m1 (.map (kmD (D.int .i64) M)) m2 (.map (kvD O)) λk=>Y (wh (dL fs) (lh fs O) k)) k S0 h3) w.next .normal fr H:=λe fr=>by
   rw[e,yK]at q;exact q a6 b8 (λj hj=>.inl hj) (But.refl S1 H) Z
  cases N:p8 (rn fs t) O with
  |none=>
   rw[N]at u o;replace u:uM prog 209 (.map m2) (.str (rn fs t)) true H=some (.tuple [.str [],.bool false]):=u;have bk:=a o;clear hL a8 X hY hH bs b bo ht F q a o N Z a0
   repeat' first|simp only[go_sem,qL, *]|apply bc<;>intro
   refine yq Heap.emp (pwf [0,1,2,3,7,4,5,6,8,9,10,11,12,13] []) kr kr (λi ob e=>by cases e) ?_
   repeat' first|simp only[go_sem,qL, *]|apply bc<;>intro hc
  |some own=>
   rw[N]at u o;replace u:uM prog 209 (.map m2) (.str (rn fs t)) true H=some (.tuple [.str own,.bool true]):=u;cases J:f.list.any λs=>s==own with
   |true=>
    have bk:=a (by rw[o];simp only[J,qF]);clear hL a8 X hY hH bs b bo ht F q a o N Z a0;have E:=bb own H;rw[J]at E
    repeat' first|simp only[go_sem,qL, *]|apply bc<;>intro
    refine yq Heap.emp (pwf [0,1,2,3,7,4,5,6,8,9,10,11,12,13] []) kr kr (λi ob e=>by cases e) ?_
    repeat' first|simp only[go_sem,qL, *]|apply bc<;>intro hc|(refine zD.mono E ?_;rintro r h ⟨hq,rfl⟩)
   |false=>
    have aj:lh fs O t=(ln fs t).flatMap (Xl t):=by rw[o];simp only[J,zg,yp]
    rw[aj]at q;have E:=bb own H;rw[J]at E;clear a o aj N bb J;have cw:=λg=>aa [ca,cb,ce,cp,x,.map m1,.map m2] 2 (hf:=.fn (.func 290) [] [.iptr [.iptr [ca,cb,ce,cp,x,.map m1,.map m2] 0] 0,.ptr h3.next 0]) ⟨_,_,_,rfl⟩ g
    repeat' first|simp only[go_sem,qL, *]|apply bc<;>intro
    refine yq Heap.emp (pwf [0,1,2,3,7,4,5,6,8,9,10,11,12,13] []) kr kr (λi ob e=>by cases e) ?_
    repeat' first|simp only[go_sem,qL, *]|apply bc<;>intro hc|(refine zD.mono E ?_;rintro r h ⟨hq,rfl⟩)
    subst hq
    rename Heap=>H
    repeat' first|simp only[go_sem,gP, *]|apply bc<;>intro hc|(refine zD.mono (cw _) ?_;rintro r h ⟨hq,rfl⟩)
    subst hq
    rename Heap=>H
    generalize U:LRec.mk .ready _ _ _ _ _ _=L2;have cl:L2.pending=none:=by rw[<-U]
    have cm:L2.st=.ready:=by rw[<-U]
    have A:=y.lcl λk2=>wh (dL fs) (lh fs O) k++wh (ln fs t) (Xl t) k2;obtain⟨l,hl⟩:∃l:List (Nat×Obj),l= [(h3.next,.row [.int .i64 (t:Int)])]:=⟨_,rfl⟩;have ak:∀p∈l,p.1<H.next/\H.at' p.1=some p.2/\¬S1 p.1:=by
     rw[hl];intro p hp;cases zo.1 hp;exact⟨by rw[a7];omega,P,λe=>wH _ (b7 _ e)⟩
    have I:∀{h:Heap},(∀p∈l,p.1<h.next/\h.at' p.1=some p.2)->h3.next<h.next/\h.at' h3.next=some (.row [.int .i64 (t:Int)]):=by
     rw[hl];exact λhp=>hp (h3.next,.row [.int .i64 (t:Int)]) jS
    clear hl;refine⟨⟨_,a6⟩,pO (W:=WL l λk2=>Y (wh (dL fs) (lh fs O) k++wh (ln fs t) (Xl t) k2)) (n:=(ln fs t).length) (el:=elI (ln fs t)) (S:=λj=>(∃p∈l,j=p.1)\/S1 j) a7 (WL.lcl A) cm cl ?_ (λyl a9=>fQ (sc:=[ca,cb,ce,cp,x,.map m1,.map m2]) rfl hx ow X.ok yl (R:=λj=>j=h3.next) ?_ (λg hg h2 hr=> ?_) a9) ?_ ?_⟩
    .exact WL.start (by rw[show wh (ln fs t) (Xl t) 0= []from rfl,yK];exact Z) ak
    .rintro j rfl
     refine⟨by rw[qG _ ow];omega,.inr ?_⟩;rintro k S2 h2 ⟨_,_,S0,hk,_⟩;rw[(I hk.st).2,zf ow,P]
    .exact(Bt (sc:=[ca,cb,ce,cp,x,.map m1,.map m2]) rfl hx p1 g (by rw[hr _ rfl,zf ow,P])).mono λr h3 e=>e
    .intro k2 S3 h5 c1 ai c2 c7 ch
     obtain⟨v,hv⟩:∃v,(ln fs t)[k2]? =some v:=⟨_,zB c1⟩;have c0:(ln fs t).getD k2 0=v:=by rw[zE,hv];rfl
     have da:v<fs.length:=by
      have:=(pf _ fs 0 v (zh hv)).2;omega
     simp only[elI,c0];have K:=c2;rw[<-U]at K;refine wo.round (g:=Nj) mix K rfl kr kr kr ?_;simp only[go_sem];refine⟨K,?_⟩;generalize cu:LRec.mk .busy _ _ _ _ _ _=B2;have b6:({ B2 with st:=.ready,pending:=none } :LRec)=L2:=by rw[<-cu,<-U]
     obtain⟨S4,H4,b3,b5,b4,b9,cs,ad,z⟩:=Lp.openL0 A c7 ai ch B2;rw[b3];obtain⟨g2,g3⟩:=I (h:=H4) λp hp=>⟨by rw[b5];exact(ad p hp).1,(ad p hp).2⟩;have c6:(wh (dL fs) (lh fs O) k++wh (ln fs t) (Xl t) k2).length<16777216:=by
      have q1:=jY (V:=lh fs O) (l:=dL fs) (m:=24) (λt _=>Xm hn O t) k;have q2:=jY (V:=Xl t) (l:=ln fs t) (m:=1) (λk _=>zC _) k2;have q3:(ln fs t).length<=fs.length:=tK _ fs 0;have q4:(dL fs).length<=fs.length:=tK _ fs 0;rw[zQ];omega
     have cc:=y.go _ S4 H4 [(t:Int),(v:Int)] .full cs c6 jS jS (by
      intro n hn;simp only[z7,wl,jP]at hn;rcases hn with rfl|rfl<;>exact LU ow)
     simp only[yU,yG]at cc;have cv:=bs2 (t:Int) (v:Int);simp only[go_sem,cv,g3];refine cc.mono ?_;rintro r h7 ⟨S5,Q,C,T⟩;rw[qV]at T;refine Lp.callL A b6 ai ch z b4 b9 Q C ?_;rw[so hv];exact T
    .intro S' h5 hs hb z
     obtain⟨S5,Q,C,T⟩:=WL.stop (λp hp=>(ak p hp).2.1) (λj hj=>by rw[a7];exact hs j hj) hb z;rw[oD]at T;have bk:=λfr=>q (fr:=fr) a6 b8 Q C T;simp only[go_sem];exact bk _
 .intro S2 h5 hs hb hw
  obtain⟨S5,Q,C,z⟩:=WK.stop hH.1.1 hH.1.2 hs hb hw;rw[oD]at z;simp only[go_sem];exact⟨S5,Q,C,z⟩
def R6(h:Nat):List (List Int):=[[(h:Int)]]
def ZA(c:Cat)(fs:List Fac):List (List Int):=if decide ((c.ls.length:Int)>0)=true then []else(X9 fs).flatMap R6
def zCV{M:KM Int}{O:KV}{m1 m2:Nat}(C:Stt c fs al M O sc m1 m2)(hn:fs.length<=24)
  {ff:FuncId} {Y:List (List Int)->(Nat->Prop)->Heap->Prop} (y:Fnd2 prog 5 ff cap Y) {w:Heap} (hY:Y [] S w) (hH:StH M O m1 m2 w) (n1:¬S m1) (n2:¬S m2):
  zD prog 232 [.iptr sc 0,.fn (.func ff) [] cap] w λ_ h'=>∃S',(∀i,S' i->S i\/w.next<=i)/\But S w h'/\Y (ZA c fs) S' h':=by
 have X:=C;obtain⟨⟨ca,cb,ce,cp,x,rfl,hc,hx,K⟩,sm,au,a4,ak,halt⟩:=C;have a3:=rF K;have d:=λg=>aa [ca,cb,ce,cp,x,.map m1,.map m2] 2 (hf:=.fn (.func 291) [] []) ⟨_,_,_,rfl⟩ g;refine zj zFx ?_;simp only[f232,zA];cases hd:decide ((c.ls.length:Int)>0)with
 |true=>
  have b:ZA c fs= []:=by unfold ZA;rw[hd];rfl
  have a2:∃S',(∀i,S' i->S i\/w.next<=i)/\But S w w/\Y (ZA c fs) S' w:=⟨S,λi hi=>.inl hi,But.refl S w,by rw[b];exact hY⟩;clear b d
  repeat' first|simp only[go_sem,qL, *]|apply bc<;>intro hc
 |false=>
  have b:ZA c fs=(X9 fs).flatMap R6:=by unfold ZA;rw[hd];rfl
  rw[b];clear b
  repeat' first|simp only[go_sem,qL,gP, *]|apply bc<;>intro hc|(refine zD.mono (d _) ?_;rintro r h ⟨hq,rfl⟩)
  subst hq
  rename Heap=>w
  generalize A:LRec.mk _ _ _ _ _ _ _=L;have T:L.pending=none:=by rw[<-A]
  have U:L.st=.ready:=by rw[<-A]
  have o:=y.lcl λk=>wh (X9 fs) R6 k;obtain⟨l,hl⟩:∃l:List (Nat×Obj),l= []:=⟨_,rfl⟩;have f:∀p∈l,p.1<w.next/\w.at' p.1=some p.2/\¬S p.1:=by rw[hl];intro p Q;cases Q
  clear hl;refine pO (W:=WL l λk=>Y (wh (X9 fs) R6 k)) (n:=(X9 fs).length) (el:=elI (X9 fs)) (S:=λj=>(∃p∈l,j=p.1)\/S j) rfl (WL.lcl o) U T (WL.start hY f) (λyl G=>fQ (sc:=[ca,cb,ce,cp,x,.map m1,.map m2]) rfl hx ow X.ok yl (R:=λj=>False) (λ_ h=>h.elim) (λg hg h2 hr=>Bu g h2) G) ?_ ?_
  .intro k S0 h3 hk e P ag v
   obtain⟨t,Z⟩:∃t,(X9 fs)[k]? =some t:=⟨_,zB hk⟩;have N:(X9 fs).getD k 0=t:=by rw[zE,Z];rfl
   have p1:t<fs.length:=by
    have:=(pf _ fs 0 t (zh Z)).2;omega
   simp only[elI,N];have a:=P;rw[<-A]at a;refine wo.round (g:=zOL) mix a rfl kr kr kr ?_;simp only[go_sem];refine⟨a,?_⟩;generalize hB:LRec.mk .busy _ _ _ _ _ _=B;have F:({ B with st:=.ready,pending:=none } :LRec)=L:=by rw[<-hB,<-A]
   obtain⟨S1,H,D,a1,E,J,aj,a0,hw⟩:=Lp.openL0 o ag e v B;rw[D];have ad:(wh (X9 fs) R6 k).length<16777216:=by
    have q2:=jY (V:=R6) (l:=X9 fs) (m:=1) (λk _=>zC _) k;have q3:(X9 fs).length<=fs.length:=tK _ fs 0;omega
   have u:=y.go _ S1 H [(t:Int)] .full aj ad jS jS (by
    intro n hn;cases zo.1 hn;exact LU ow)
   simp only[yU,yG]at u;have I:=bs1 (t:Int);simp only[go_sem,I];refine u.mono ?_;rintro r h7 ⟨S5,s,q,ai⟩;refine Lp.callL o F e v hw E J s q ?_;rw[so Z];exact ai
  .intro S2 h5 C hb hw
   obtain⟨S5,s,q,z⟩:=WL.stop (λp Q=>(f p Q).2.1) C hb hw;rw[oD]at z;simp only[go_sem];exact⟨S5,s,q,z⟩
end Go.V
