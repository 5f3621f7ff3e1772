/- Rules of the machine of abstract values, part 11. No condition. -/
import Derived.Test.YtkenagjlanhnmaaGreatDoorW36
set_option linter.all false
set_option maxHeartbeats 8000000
namespace Go.V
abbrev KM(κ:Type):=List (κ×D)
def kmD{κ:Type}(enc:κ->D)(m:KM κ):List (D×D):=m.map λp=>(enc p.1,p.2)
def dJ{κ:Type}[BEq κ](k:κ):KM κ->Option D
 | []=>none
 |(k',v)::m=>if k==k' then some v else dJ k m
def bS{κ:Type}[BEq κ](k:κ)(v:D):KM κ->KM κ
 | []=>[(k,v)]
 |(k',v')::m=>if k==k' then(k,v)::m else(k',v')::bS k v m
structure KEnc{κ:Type}[BEq κ](enc:κ->D)(ag:Bool)(ks:List Kd):Prop where
 eq:∀a b,eqK ks (enc a).cells (enc b).cells=some (a==b)
 shape:∀a,yz ag (enc a)=true
section
variable{κ:Type}[BEq κ]{enc:κ->D}{ag:Bool}{ks:List Kd}(E:KEnc enc ag ks)
include E
theorem Uh(k:κ):∀m:KM κ,kJ ks (enc k) (kmD enc m)=some (dJ k m)
 | []=>rfl
 |(k',v)::m=>by
  have a:=Uh k m;show(match eqK ks (enc k).cells (enc k').cells with|some true=>some (some v)|some false=>kJ ks (enc k) (kmD enc m)|none=>none)=_
  rw[E.eq];cases h:(k==k')with
  |true=>simp[dJ,h]
  |false=>simp only[dJ,h,a];rfl
theorem J2(k:κ)(v:D):∀m:KM κ,MG ks (enc k) v (kmD enc m)=some (kmD enc (bS k v m))
 | []=>rfl
 |(k',b)::m=>by
  have a:=J2 k v m;show(match eqK ks (enc k).cells (enc k').cells with|some true=>some ((enc k,v)::kmD enc m)|some false=>(MG ks (enc k) v (kmD enc m)).map ((enc k',b):: ·)|none=>none)=_
  rw[E.eq];cases h:(k==k')with
  |true=>simp[bS,h,kmD]
  |false=>simp only[bS,h,a];rfl
def Ri(m:KM κ):(kmD enc m).all (λx=>yz ag x.1)=true:=by
 rw[zo];intro x a;obtain⟨p,_,rfl⟩:=zM.1 a;exact E.shape _
omit E in
theorem Rj [LawfulBEq κ](k k':κ)(v:D):∀m:KM κ,dJ k (bS k' v m)=if k==k' then some v else dJ k m
 | []=>by simp[bS,dJ]
 |(k2,c)::m=>by
  have b:=Rj k k' v m;simp only[bS];by_cases h:k'=k2
  ·subst h;simp only[nz,qS,dJ];by_cases g:k=k'
   ·subst g;simp
   ·simp[g]
  ·have a:(k'==k2)=false:=by simp[h]
   simp only[a,zl,yy,dJ,b];by_cases g:k=k2
   ·subst g
    have:(k==k')=false:=by simp;exact λe=>h e.symm
    simp[this]
   ·simp[g]
variable{P:Program}{t kt e:TypeId}{z:D}{id:Nat}{h:Heap}{m:KM κ}
def KE(a:h.at' id=some (.map (kmD enc m)))(c:MA P t=some (kt,e))(b:N3 P kt=some (ag,ks))(d:tJ P e=some z)(k:κ)(hr:(k==k)=true)(ok:Bool):
  uY P t (.map id) (enc k) ok h=some (dw ok z (dJ k m)):=by
 simp only[uY,c,b,d,Wa,a,fN,Ri E,E.eq,E.shape,Uh E,sD,wu,qS]
def TR(a:h.at' id=some (.map (kmD enc m)))(c:MA P t=some (kt,e))(b:N3 P kt=some (ag,ks))(k:κ)(v:D):
  uJ P t (.map id) (enc k) v h=some (h.set id (.map (kmD enc (bS k v m)))):=by
 simp only[uJ,c,b,a,Ri E,E.eq,E.shape,Uh E,J2 E,sD,wu,qS]
end
def zEo:KEnc (λi:Int=>D.int .i64 i) false [.i]:=
 ⟨λa b=>by show(if IntKind.i64=IntKind.i64 then(eqK [] [] []).map (a==b&& ·)else none)=_;simp[eqK],λ_=>rfl⟩
structure Fnd2(P:Program)(mx:Nat)(f:FuncId)(cap:List D)(Y:List (List Int)->(Nat->Prop)->Heap->Prop):Prop where
 here:∀ks S h,Y ks S h->∀i,S i->i<h.next
 loc:∀ks S h h',Y ks S h->h.next<=h'.next->(∀i,S i->h'.at' i=h.at' i)->Y ks S h'
 go:∀ks S h l tk,Y ks S h->ks.length<16777216->0<l.length->l.length<=mx->(∀n∈l,fits .i64 n)->zE P f ([]++ [.sl 1 (wY l) tk]++cap) h λ_ h'=>∃S',(∀i,S' i->S i\/h.next<=i)/\But S h h'/\Y (ks++ [l]) S' h'
variable{P:Program}{f:FuncId}{cap sc:List D}{S:Nat->Prop}{h h' h0 g:Heap}{t:TypeId}{fr:Frm}{c:Cat}{fs:List Fac}{al:Nat->Option Alt}{i id k:Nat}{x d:D}{α β:Type}{N:Int}
def Fnd2.lcl{mx:Nat}{Y:List (List Int)->(Nat->Prop)->Heap->Prop}(y:Fnd2 P mx f cap Y)(els:Nat->List (List Int)):Lcl λk=>Y (els k):=
 ⟨λk=>y.here (els k),λk=>y.loc (els k)⟩
def Fnd2.ext{mx:Nat}{Y:List (List Int)->(Nat->Prop)->Heap->Prop}(y:Fnd2 P mx f cap Y){ks:List (List Int)}(b:Y ks S h)(a:Ext h h'):Y ks S h':=
 y.loc ks S h h' b a.1 λi c=>a.2 i (y.here ks S h b i c)
section
variable{W:Nat->(Nat->Prop)->Heap->Prop}{id m1 m2 k:Nat}{o1 o2:Obj}{L B:LRec}{h3 H h5:Heap}{S0 S1 S5:Nat->Prop}{fr:Frm}
def Lcl.round(d:Lcl W)(g:W k S1 h3)(b:∀i,S1 i->S0 i)(c:¬S0 id)(a:But (λi=>i=id) h3 H):W k S1 H:=
 d.loc _ _ _ _ g a.1 λi f=>a.2 i (d.here _ _ _ g i f) λe=>c (by rw[<-e];exact b i f)
def Lp.call(v:Lcl W)(m:({ B with st:=.ready,pending:=none } :LRec)=L)(h:id<h3.next)(d:¬S0 id)(n:W k S1 h3/\(m1<h3.next/\m2<h3.next)/\(h3.at' m1=some o1/\h3.at' m2=some o2)/\(¬S1 m1/\¬S1 m2)/\∀i,S0 i↔(i=m1\/i=m2\/S1 i))
  (l:H.at' id=some (.loop B)) (c:But (λi=>i=id) h3 H) (f:∀j,S5 j->S1 j\/H.next<=j) (b:But S1 H h5) (x:W (k+1) S5 h5):
  pL (LpK id L (WK m1 o1 m2 o2 W) k S0 h3) id .normal fr h5:=by
 obtain⟨_,⟨C,D⟩,⟨t,u⟩,⟨r,s⟩,a⟩:=n;have w:=c.1;have o:=b.1;have y:m1≠id:=λe=>d (by rw[<-e];exact(a _).2 (.inl rfl));have z:m2≠id:=λe=>d (by rw[<-e];exact(a _).2 (.inr (.inl rfl)));have A:¬S1 id:=λe=>d ((a _).2 (.inr (.inr e)));refine Lp.fin (WK.lcl v) m h d (S':=λi=>i=m1\/i=m2\/S5 i) ?_ (λi g=> ?_) ⟨by omega,λi g p=> ?_⟩ ⟨S5,x,⟨by omega,by omega⟩,⟨?_,?_⟩,⟨λe=> ?_,λe=> ?_⟩,λi=>Iff.rfl⟩
 ·rw[b.2 _ ow A];exact l
 ·rcases g with rfl|rfl|g
  ·exact .inl ((a _).2 (.inl rfl))
  ·exact .inl ((a _).2 (.inr (.inl rfl)))
  ·exact(f i g).imp (λq=>(a _).2 (.inr (.inr q))) λq=>by omega
 ·rw[b.2 i ow λe=>p (.inr ((a _).2 (.inr (.inr e)))),c.2 i g λe=>p (.inl e)]
 ·rw[b.2 _ ow r,c.2 _ C y];exact t
 ·rw[b.2 _ ow s,c.2 _ D z];exact u
 ·rcases f _ e with q|q
  ·exact r q
  ·omega
 ·rcases f _ e with q|q
  ·exact s q
  ·omega
def Lp.open(m:Lcl W)(f:WK m1 o1 m2 o2 W k S0 h3)(hid:id<h3.next)(b:¬S0 id)(o:Obj)(B:LRec):
  ∃S1 H,(h3.new h3.next o).set id (.loop B)=H/\H.next=h3.next+1/\H.at' h3.next=some o/\H.at' id=some (.loop B)/\But (λj=>j=id) h3 H/\W k S1 H/\((H.at' m1=some o1/\H.at' m2=some o2)/\(m1<H.next/\m2<H.next))/\
   (W k S1 h3/\(m1<h3.next/\m2<h3.next)/\(h3.at' m1=some o1/\h3.at' m2=some o2)/\(¬S1 m1/\¬S1 m2)/\∀i,S0 i↔(i=m1\/i=m2\/S1 i)):=by
 obtain⟨S1,g,⟨h,l⟩,⟨e1,e2⟩,⟨s,t⟩,a⟩:=f;have q:m1≠id:=λe=>b (by rw[<-e];exact(a _).2 (.inl rfl));have r:m2≠id:=λe=>b (by rw[<-e];exact(a _).2 (.inr (.inl rfl)));have d:((h3.new h3.next o).set id (.loop B)).next=h3.next+1:=by rw[ym,za]
 have c:But (λj=>j=id) h3 ((h3.new h3.next o).set id (.loop B)):=⟨by omega,λj u p=>by rw[zY p,zi ow]⟩;exact⟨S1,_,rfl,d,by rw[zY ow,z8],zW _ _ _,c,Lcl.round m g (λi n=>(a _).2 (.inr (.inr n))) b c,⟨⟨by rw[c.2 _ h q];exact e1,by rw[c.2 _ l r];exact e2⟩,by omega,by omega⟩,g,⟨h,l⟩,⟨e1,e2⟩,⟨s,t⟩,a⟩
def But.ext1{a b c:Heap}(d:But S a b)(e:Ext b c):But S a c:=d.trans (e.but S) λi f=>.inl f
def Heap.low(H:Heap):∃h0,HLe h0 H/\(∀o,HLe h0 (H.new H.next o))/\∀i,i<H.next->h0.at' i=H.at' i:=
 ⟨⟨H.next,λi=>if i=H.next then none else H.at' i⟩,λi b e=>by
   simp only at e;split at e
   ·cases e
   ·exact e,λo i b e=>by
   simp only at e;split at e
   ·cases e
   ·rename_i a;rw[zi a];exact e,λi a=>by
   simp only;rw[iq ow]⟩
end
def zGS(P:Program)(h0:Heap)(t:TypeId)(m k:D)(ok:Bool)(K:D->Prop):Prop:=∃d,(∀h',HLe h0 h'->onS (uY P t m k ok h') λd'=>d'=d/\h'=h')/\K d
@[congr] theorem zBV{m m' k k':D}{ok:Bool}{K:D->Prop}(hf:m=m')(ha:k=k'):zGS P h0 t m k ok K=zGS P h0 t m' k' ok K:=by rw[hf,ha]
variable{fr:Frm}{id k:Nat}
@[go_sem ↓] theorem FU(t:TypeId)(a b:Operand)(ok:Bool)(K:D->Prop):WC P h0 (.lookup t a b ok) (wE fr) K=zGS P h0 t (wE fr a) (wE fr b) ok K:=by
 unfold WC zGS Hr;simp only[go_sem]
def ID{m k:D}{ok:Bool}{K:D->Prop}(d:D)(c:uY P t m k ok h0=some d)(b:K d):zGS P h0 t m k ok K:=
 ⟨d,λh' a=>by rw[Vu a c];exact⟨rfl,rfl⟩,b⟩
open Go.Proofs.Tryz
open Go.Proofs
set_option maxRecDepth 100000
structure Stt(c:Cat)(fs:List Fac)(al:Nat->Option Alt)(M:KM Int)(O:KV)(sc:List D)(m1 m2:Nat):Prop where
 sc:∃a b e p x,sc= [a,b,e,p,x,.map m1,.map m2]/\uc c (.agg [a,b,e,p])/\yi 12 (mV fs) x/\yi 4 (jc c.ls) a
 sm:c.Sm
 len:fs.length<=256
 ok:∀f∈fs,f.Ok
 get:∀i,i<fs.length->dJ (i:Int) M=(al i).map Alt.d
 alt:∀i a,al i=some a->a.Ok
def StH(M:KM Int)(O:KV)(m1 m2:Nat)(h:Heap):Prop:=
 (h.at' m1=some (.map (kmD (D.int .i64) M))/\h.at' m2=some (.map (kvD O)))/\(m1<h.next/\m2<h.next)
def StH.ext{M:KM Int}{O:KV}{m1 m2:Nat}(s:StH M O m1 m2 h)(e:Ext h h'):StH M O m1 m2 h':=by
 obtain⟨⟨a,b⟩,c,d⟩:=s;have:=e.1;exact⟨⟨by rw[e.2 _ c];exact a,by rw[e.2 _ d];exact b⟩,by omega,by omega⟩
def Ud{M:KM Int}{O:KV}{m1 m2:Nat}(e:Stt c fs al M O sc m1 m2)(a:h.at' m1=some (.map (kmD (D.int .i64) M)))(b:i<fs.length)(ok:Bool):
  uY prog 208 (.map m1) (.int .i64 (i:Int)) ok h=some (dw ok .nilsl ((al i).map Alt.d)):=by
 rw[<-e.get i b];exact KE zEo a MB Cu fU (i:Int) (by simp) ok
def Jx{O:KV}{m2:Nat}(a:h.at' m2=some (.map (kvD O)))(s:List UInt8)(ok:Bool):
  uY prog 209 (.map m2) (.str s) ok h=some (dw ok (.str []) ((pR s O).map .str)):=
 KF a MC Rg fV s ok
abbrev Tri:=Nat×Nat×Nat
def uU(fs:List Fac)(i:Nat):List UInt8:=match fs[i]? with
 |some f=>f.comp
 |none=>[]
def uh(fs:List Fac)(i:Nat):List UInt8:=match fs[i]? with
 |some f=>f.out
 |none=>[]
def Mi(fs:List Fac)(i u:Nat):List Tri:=(fIx 2 (λg=>g.out==uh fs u) fs).map λh=>(i,u,h)
def Mh(fs:List Fac)(al:Nat->Option Alt)(i:Nat):List Tri:=if(al i).isSome=true then(fIx 0 (λg=>g.comp==uU fs i) fs).flatMap (Mi fs i)else []
def qz(fs:List Fac)(al:Nat->Option Alt):List Tri:=(List.range fs.length).flatMap (Mh fs al)
def kO(t:Tri):List D:=[.int .i64 (t.1:Int),.int .i64 (t.2.1:Int),.int .i64 (t.2.2:Int)]
abbrev elT(l:List Tri)(k:Nat):List D:=[.agg (kO (l.getD k (0,0,0)))]
def cX(sc:List D):D:=.fn (.func 361) [] [.iptr [.iptr sc 0] 0]
def bD(sc:List D)(h:Heap):zE prog 282 [.iptr sc 0] h λr h'=>h'=h/\r=cX sc:=by
 refine zu zFr ?_;simp only[f282,zA];simp only[go_sem,cX]
def zCX(f g:Fac)(a:h.at' id=some (.row f.cells)):zE prog 362 [.agg g.cells,.ptr id 0] h λr h'=>h'=h/\r=.bool (g.comp==f.comp):=by
 have k1:f.cells[1]? =some (.str f.comp):=rfl;have k2:g.cells[1]? =some (.str g.comp):=rfl;refine zu zGA ?_;simp only[f362,zA];exact au
def zCY(b:sc[4]? =some x)(c:yi 12 (mV fs) x){u:Nat}(a:u<fs.length)(g:Fac)(f:h.at' id=some (.row [.int .i64 (u:Int)])):
  zE prog 363 [.agg g.cells,.iptr [.iptr sc 0] 0,.ptr id 0] h λr h'=>h'=h/\r=.bool (g.out==uh fs u):=by
 have k1:fs[u].cells[2]? =some (.str fs[u].out):=rfl;have k2:g.cells[2]? =some (.str g.out):=rfl;have d:=tP c a;have j:uh fs u=fs[u].out:=by simp[uh,a]
 refine zu zGB ?_;simp only[f363,zA];simp only[go_sem, *];refine qH Heap.emp [(2,.no,false),(6,.no,false),(0,.no,false),(1,.no,false),(3,.no,false),(4,.no,false),(5,.no,false),(7,.no,false),(8,.no,false),(9,.no,false),(10,.no,false),(11,.no,false)] kr kr (λi k e=>by cases e) ?_;simp only[go_sem,qQ, *]
def WL(l:List (Nat×Obj))(W:Nat->(Nat->Prop)->Heap->Prop)(k:Nat)(S:Nat->Prop)(h:Heap):Prop:=
 ∃S1,W k S1 h/\(∀p∈l,p.1<h.next/\h.at' p.1=some p.2/\¬S1 p.1)/\∀i,S i↔((∃p∈l,i=p.1)\/S1 i)
section
variable{l:List (Nat×Obj)}{W:Nat->(Nat->Prop)->Heap->Prop}{id k:Nat}{L B:LRec}{h h3 H h5:Heap}{S S0 S1 S5 S':Nat->Prop}{fr:Frm}
def WL.lcl(f:Lcl W):Lcl (WL l W):=by
 refine⟨λk S h y i e=> ?_,λk S h h' y n g=> ?_⟩
 ·obtain⟨S1,c,d,a⟩:=y;rcases(a i).1 e with⟨p,b,rfl⟩ |q
  ·exact(d p b).1
  ·exact f.here _ _ _ c i q
 ·obtain⟨S1,c,d,a⟩:=y;refine⟨S1,f.loc _ _ _ _ c n λi e=>g i ((a i).2 (.inr e)),λp b=> ?_,a⟩;obtain⟨o,j,m⟩:=d p b;exact⟨by omega,by rw[g p.1 ((a _).2 (.inl ⟨p,b,rfl⟩))];exact j,m⟩
def WL.start(a:W k S h)(h1:∀p∈l,p.1<h.next/\h.at' p.1=some p.2/\¬S p.1):WL l W k (λi=>(∃p∈l,i=p.1)\/S i) h:=
 ⟨S,a,h1,λ_=>Iff.rfl⟩
def WL.stop(h1:∀p∈l,h.at' p.1=some p.2)(m:∀i,S' i->((∃p∈l,i=p.1)\/S i)\/h.next<=i)(d:But (λi=>(∃p∈l,i=p.1)\/S i) h h')(n:WL l W k S' h'):
  ∃S1,(∀i,S1 i->S i\/h.next<=i)/\But S h h'/\W k S1 h':=by
 obtain⟨S1,f,c,g⟩:=n;refine⟨S1,λi a=> ?_,⟨d.1,λi a j=> ?_⟩,f⟩
 ·rcases m i ((g i).2 (.inr a))with(⟨p,b,rfl⟩ |q)|q
  ·exact absurd a (c p b).2.2
  ·exact .inl q
  ·exact .inr q
 ·by_cases q:∃p∈l,i=p.1
  ·obtain⟨p,b,rfl⟩:=q;rw[(c p b).2.1,h1 p b]
  ·exact d.2 i a λe=>e.elim q j
def WL.st(c:WL l W k S h):∀p∈l,p.1<h.next/\h.at' p.1=some p.2:=by
 obtain⟨S1,_,b,_⟩:=c;exact λp a=>⟨(b p a).1,(b p a).2.1⟩
def Lp.callL(y:Lcl W)(o:({ B with st:=.ready,pending:=none } :LRec)=L)(m:id<h3.next)(d:¬S0 id)(r:W k S1 h3/\(∀p∈l,p.1<h3.next/\h3.at' p.1=some p.2/\¬S1 p.1)/\∀i,S0 i↔((∃p∈l,i=p.1)\/S1 i))
  (n:H.at' id=some (.loop B)) (c:But (λi=>i=id) h3 H) (g:∀j,S5 j->S1 j\/H.next<=j) (b:But S1 H h5) (A:W (k+1) S5 h5):
  pL (LpK id L (WL l W) k S0 h3) id .normal fr h5:=by
 obtain⟨_,v,a⟩:=r;have z:=c.1;have t:=b.1;have D:¬S1 id:=λe=>d ((a _).2 (.inr e));refine Lp.fin (WL.lcl y) o m d (S':=λi=>(∃p∈l,i=p.1)\/S5 i) ?_ (λi f=> ?_) ⟨by omega,λi f u=> ?_⟩ ⟨S5,A,λp h=> ?_,λi=>Iff.rfl⟩
 ·rw[b.2 _ ow D];exact n
 ·rcases f with⟨p,h,rfl⟩ |f
  ·exact .inl ((a _).2 (.inl ⟨p,h,rfl⟩))
  ·exact(g i f).imp (λq=>(a _).2 (.inr q)) λq=>by omega
 ·rw[b.2 i ow λe=>u (.inr ((a _).2 (.inr e))),c.2 i f λe=>u (.inl e)]
 ·obtain⟨w,x,s⟩:=v p h;have C:p.1≠id:=λe=>d (by rw[<-e];exact(a _).2 (.inl ⟨p,h,rfl⟩));refine⟨by omega,by rw[b.2 _ ow s,c.2 _ w C];exact x,λe=> ?_⟩;rcases g _ e with q|q
  ·exact s q
  ·omega
def Lp.openL(r:Lcl W)(f:WL l W k S0 h3)(hid:id<h3.next)(b:¬S0 id)(o:Obj)(B:LRec):
  ∃S1 H,(h3.new h3.next o).set id (.loop B)=H/\H.next=h3.next+1/\H.at' h3.next=some o/\H.at' id=some (.loop B)/\But (λj=>j=id) h3 H/\W k S1 H/\(∀p∈l,p.1<h3.next/\H.at' p.1=some p.2)/\
   (W k S1 h3/\(∀p∈l,p.1<h3.next/\h3.at' p.1=some p.2/\¬S1 p.1)/\∀i,S0 i↔((∃p∈l,i=p.1)\/S1 i)):=by
 obtain⟨S1,g,h,a⟩:=f;have d:((h3.new h3.next o).set id (.loop B)).next=h3.next+1:=by rw[ym,za]
 have c:But (λj=>j=id) h3 ((h3.new h3.next o).set id (.loop B)):=⟨by omega,λj v t=>by rw[zY t,zi ow]⟩;refine⟨S1,_,rfl,d,by rw[zY ow,z8],zW _ _ _,c,Lcl.round r g (λi s=>(a _).2 (.inr s)) b c,λp n=> ?_,g,h,a⟩;obtain⟨m,q,u⟩:=h p n;exact⟨m,by rw[c.2 _ m λe=>b (by rw[<-e];exact(a _).2 (.inl ⟨p,n,rfl⟩))];exact q⟩
def Lp.openL0(q:Lcl W)(f:WL l W k S0 h3)(hid:id<h3.next)(b:¬S0 id)(B:LRec):
  ∃S1 H,h3.set id (.loop B)=H/\H.next=h3.next/\H.at' id=some (.loop B)/\But (λj=>j=id) h3 H/\W k S1 H/\(∀p∈l,p.1<h3.next/\H.at' p.1=some p.2)/\
   (W k S1 h3/\(∀p∈l,p.1<h3.next/\h3.at' p.1=some p.2/\¬S1 p.1)/\∀i,S0 i↔((∃p∈l,i=p.1)\/S1 i)):=by
 obtain⟨S1,g,h,a⟩:=f;have d:(h3.set id (.loop B)).next=h3.next:=ym _ _ _;have c:But (λj=>j=id) h3 (h3.set id (.loop B)):=⟨by omega,λj u s=>zY s⟩;refine⟨S1,_,rfl,d,zW _ _ _,c,Lcl.round q g (λi r=>(a _).2 (.inr r)) b c,λp n=> ?_,g,h,a⟩;obtain⟨m,o,t⟩:=h p n;exact⟨m,by rw[c.2 _ m λe=>b (by rw[<-e];exact(a _).2 (.inl ⟨p,n,rfl⟩))];exact o⟩
end
def PM{l:List α}{f:α->List β}{a b:Nat}{x:α}(h:l[a]? =some x)(c:b<(f x).length):(l.flatMap f)[gE l f a+b]? =(f x)[b]? :=by
 obtain⟨h1,rfl⟩:=zK.1 h;rw[Cr h1 c,zB c]
def jY{l:List α}{f:α->List β}{a:Nat}{x:α}(h:l[a]? =some x):gE l f (a+1)=gE l f a+(f x).length:=by
 obtain⟨h1,rfl⟩:=zK.1 h;exact LV h1
def Cs{l:List α}{f:α->List β}{a b:Nat}{x:α}(h:l[a]? =some x)(c:b<(f x).length):gE l f a+b<(l.flatMap f).length:=by
 obtain⟨h1,rfl⟩:=zK.1 h;exact zI7 h1 c
theorem sL{f:α->List β}{m:Nat} :∀{l:List α},(∀x∈l,(f x).length<=m)->(l.flatMap f).length<=l.length*m
 | [],_=>by simp
 |x::l,h=>by
  have:=sL (f:=f) (l:=l) λy a=>h y (zt _ a);have b:=h x (by simp);rw[oo,zR,zm,qf];omega
abbrev FY(fs:List Fac)(i:Nat):List Nat:=fIx 0 (λg=>g.comp==uU fs i) fs
abbrev kN(fs:List Fac)(u:Nat):List Nat:=fIx 2 (λg=>g.out==uh fs u) fs
abbrev YX(fs:List Fac)(al:Nat->Option Alt)(i:Nat):Nat:=gE (List.range fs.length) (Mh fs al) i
abbrev Ut(fs:List Fac)(i k:Nat):Nat:=gE (FY fs i) (Mi fs i) k
section
variable{fs:List Fac}{al:Nat->Option Alt}{i k k2 u v:Nat}
def zAV(b:i<fs.length)(a:(al i).isSome=false):YX fs al (i+1)=YX fs al i:=by
 unfold YX;rw[jY (x:=i) (by simp[b])];simp[Mh,a]
def FE(b:i<fs.length)(a:(al i).isSome=true):YX fs al (i+1)=YX fs al i+Ut fs i (FY fs i).length:=by
 unfold YX Ut;rw[jY (x:=i) (by simp[b]),XI];simp[Mh,a]
def IM(a:(FY fs i)[k]? =some u):Ut fs i (k+1)=Ut fs i k+(kN fs u).length:=by
 unfold Ut;rw[jY a];simp[Mi]
def FX(j:i<fs.length)(h:(al i).isSome=true)(e:(FY fs i)[k]? =some u)(b:(kN fs u)[k2]? =some v):
  YX fs al i+(Ut fs i k+k2)<(qz fs al).length/\(qz fs al)[YX fs al i+(Ut fs i k+k2)]? =some (i,u,v):=by
 obtain⟨l,_⟩:=zK.1 b;have d:k2<(Mi fs i u).length:=by unfold Mi;rw[zG];exact l
 have a:=Cs (f:=Mi fs i) e d;have c:Mh fs al i=(FY fs i).flatMap (Mi fs i):=by unfold Mh;rw[ip h]
 rw[<-c]at a;have hr:(List.range fs.length)[i]? =some i:=by simp[j]
 refine⟨Cs (f:=Mh fs al) hr a,?_⟩;have h1:=PM (f:=Mh fs al) hr a;rw[c]at h1;have g:=PM (f:=Mi fs i) e d;show((List.range fs.length).flatMap (Mh fs al))[_]? =_;rw[h1,g];unfold Mi;rw[zj,b];rfl
end
variable{fs:List Fac}{al:Nat->Option Alt}{id i k:Nat}{S:Nat->Prop}{h:Heap}{fr:Frm}
theorem kZ{M:KM Int}{O:KV}{m1 m2:Nat}(hs:Stt c fs al M O sc m1 m2){Y:Nat->(Nat->Prop)->Heap->Prop}(y:Yld prog id (qz fs al).length (elT (qz fs al)) Y λ_ _=>False)(hH:∀k S h,Y k S h->StH M O m1 m2 h){w:Heap}(hY:Y 0 S w):
  zE prog 361 [.yld id,.iptr [.iptr sc 0] 0] w λ_ h'=>∃S',(∀j,S' j->S j\/w.next<=j)/\But S w h'/\Y (qz fs al).length S' h':=by
 have X:=hs;obtain⟨⟨ca,cb,ce,cp,x,rfl,hc,hx,_⟩,sm,d1,cl,cc,halt⟩:=hs;have c9:=pi hx;refine zu zF9 ?_;simp only[f361,zA]
 repeat' first|simp only[go_sem,qQ, *]|apply bc<;>intro
 refine zd (λi fr h'=>fr 1=.iptr [.iptr [ca,cb,ce,cp,x,.map m1,.map m2] 0] 0/\fr 2=.iptr [.yld id] 0/\fr 12=x/\fr 13=.int .i64 (fs.length:Int)/\fr 14=.int .i64 (i:Int)/\∃S',(∀j,S' j->S j\/w.next<=j)/\But S w h'/\Y (YX fs al i) S' h') fs.length ow ?_ ?_ ?_
 ·have a2:∃S',(∀j,S' j->S j\/w.next<=j)/\But S w w/\Y (YX fs al 0) S' w:=⟨S,λj l=>.inl l,But.refl S w,hY⟩;simp only[go_sem,zT,zV,zI];exact a2
 ·rintro i fr h1 s e1 ew ⟨f1,f2,cw,cx,c0,S',hS,z,I⟩;have a1:=tP hx s;have hm:fs[i]∈fs:=zH s;have hw:yW true 12 fs[i].cells 0=some (.agg fs[i].cells):=zJ rfl ow;have a2:=Vi (cl _ hm);have b9:uU fs i=fs[i].comp:=by simp[uU,s]
  generalize fs[i]=f at *
  clear cc halt cl;have cu:∀o2,yX prog 3 (.ptr h1.next 0) (.int .i64 (i:Int)) ((h1.new h1.next (.row [.int .i64 0])).new (h1.next+1) o2)=some ((h1.new h1.next (.row [.int .i64 (i:Int)])).new (h1.next+1) o2):=λo2=>by
   have:=NE (P:=prog) (t:=3) (H:=h1) (c:=.int .i64 0) (x:=.int .i64 (i:Int)) (o2:=o2) sI rfl rfl;simpa only[za]using this
  repeat' first|simp only[go_sem,za, *]|apply bc<;>intro
  obtain⟨G,hG,ba,g1,g2,hE⟩:∃G:Heap,(h1.new h1.next (.row [.int .i64 (i:Int)])).new (h1.next+1) (.row f.cells)=G/\G.next=h1.next+2/\G.at' h1.next=some (.row [.int .i64 (i:Int)])/\G.at' (h1.next+1)=some (.row f.cells)/\Ext h1 G:=
   ⟨_,rfl,qL _ (by rw[za];exact zD _) _,by rw[zi ow,z8],z8 _ _ _,((Ext.refl h1).new (zD _) _).new ow _⟩
  rw[hG];clear hG a2 cu c9;have A:=y.ext I hE;have T:=hH _ _ _ A;have p:=Ud X T.1.1 s true;have b:But S w G:=z.trans (hE.but S) λi hi=>.inl hi;refine qH Heap.emp [(0,.no,false),(4,.no,false),(1,.no,false),(2,.no,false),(3,.no,false),(5,.no,false),(6,.no,false),(7,.no,false),(8,.no,false),(9,.no,false),(10,.no,false)] kr kr (λi ob e=>by cases e) ?_;cases o:al i with
  |none=>
   rw[o]at p;replace p:uY prog 208 (.map m1) (.int .i64 (i:Int)) true G=some (.tuple [.nilsl,.bool false]):=p;have m:∃S',(∀j,S' j->S j\/w.next<=j)/\But S w G/\Y (YX fs al (i+1)) S' G:=⟨S',hS,b,by rw[zAV s (by rw[o];rfl)];exact A⟩;clear A T b hE hS z I o
   repeat' first|simp only[go_sem,qQ, *]|apply bc<;>intro hc
  |some a=>
   rw[o]at p;replace p:uY prog 208 (.map m1) (.int .i64 (i:Int)) true G=some (.tuple [a.d,.bool true]):=p;obtain⟨q1,q2,_⟩:=yP (X.alt i a o).sl;have K:=λg=>aZ [ca,cb,ce,cp,x,.map m1,.map m2] 0 (hf:=.fn (.func 362) [] [.ptr (h1.next+1) 0]) ⟨_,_,_,rfl⟩ g
   repeat' first|simp only[go_sem,qQ,ga, *]|apply bc<;>intro hc|(refine zE.mono (K _) ?_;rintro r h ⟨hq,rfl⟩)
   subst hq;generalize hL:LRec.mk _ _ _ _ _ _ _=L;have da:L.pending=none:=by rw[<-hL]
   have db:L.st=.ready:=by rw[<-hL]
   have b8:Lcl λk=>Y (YX fs al i+Ut fs i k):=⟨λk=>y.here _,λk=>y.loc _⟩;have F:∀j,S' j->j<h1.next:=λj l=>y.here _ _ _ I j l;refine oT (W:=WK h1.next (.row [.int .i64 (i:Int)]) (h1.next+1) (.row f.cells) λk=>Y (YX fs al i+Ut fs i k)) (n:=(FY fs i).length) (el:=elI (FY fs i)) (S:=λj=>j=h1.next\/j=h1.next+1\/S' j) ba (WK.lcl b8) db da ?_ (λyl ak=>fZ (sc:=[ca,cb,ce,cp,x,.map m1,.map m2]) rfl hx ow X.ok yl (R:=λj=>j=h1.next+1) ?_ (λg hg h2 hr=> ?_) ak) ?_ ?_
   ·exact WK.start (by rw[show Ut fs i 0=0 from W9 _ _];exact A) ow ow g1 g2 (λe=>wN _ (F _ e)) (λe=>by have:=F _ e;omega)
   ·rintro j rfl;refine⟨by rw[qL _ ow];omega,.inr ?_⟩;rintro k S2 h2 ⟨_,_,S0,hk,_⟩;rw[hk.st.1.2,zi ow,g2]
   ·exact(zCX f g (by rw[hr _ rfl,zi ow,g2])).mono λr h3 e=>by rw[b9];exact e
   ·intro k S0 h3 hk cg c7 di a0;obtain⟨u,hu⟩:∃u,(FY fs i)[k]? =some u:=⟨_,zB hk⟩;have dd:u<fs.length:=by
     have:=(p4 _ fs 0 u (zg hu)).2;omega
    have c4:(FY fs i).getD k 0=u:=by rw[zC,hu];rfl
    simp only[elI,c4];obtain⟨S1,V,⟨ds,dt⟩,⟨a6,cv⟩,⟨n1,n2⟩,ai⟩:=di;have N:=c7;rw[<-hL]at N;have ag:yX prog 3 (.ptr h3.next 0) (.int .i64 (u:Int)) (h3.new h3.next (.row [.int .i64 0]))=some (h3.new h3.next (.row [.int .i64 (u:Int)])):=by
     rw[yU (z8 _ _ _) sI (by simp) rfl rfl,gq];rfl
    clear p q1 q2 a1 hw hm K b9 hS z I hE A T b;refine uS.round (g:=Ng) mix N rfl kr kr kr ?_;simp only[go_sem,f1,f2,ag];refine⟨by rw[zi ow];exact N,?_⟩;generalize hB:LRec.mk .busy _ _ _ _ _ _=B;have c1:({ B with st:=.ready,pending:=none } :LRec)=L:=by rw[<-hB,<-hL]
    obtain⟨H,bk,bo,b1,b3,b4,b7,c2⟩:∃H:Heap,(h3.new h3.next (.row [.int .i64 (u:Int)])).set (h1.next+2) (.loop B)=H/\H.next=h3.next+1/\H.at' h1.next=some (.row [.int .i64 (i:Int)])/\H.at' h3.next=some (.row [.int .i64 (u:Int)])/\H.at' (h1.next+2)=some (.loop B)/\Y (YX fs al i+Ut fs i k) S1 H/\But (λj=>j=h1.next+2) h3 H:=by
     refine⟨_,rfl,by rw[ym,za],by rw[zY ow,zi ow];exact a6,by rw[zY ow,z8],zW _ _ _,?_,⟨by rw[ym,za];omega,λj l hn=>by rw[zY hn,zi ow]⟩⟩;have hb:=λj l=>y.here _ _ _ V j l;refine y.loc _ _ _ _ V (by rw[ym,za];omega) λj l=> ?_;have:=hb j l;rw[zY (λe=>a0 (by rw[<-e];exact(ai _).2 (.inr (.inr l)))),zi ow]
    rw[bk];clear ag bk hB;have K:=λg=>aZ [ca,cb,ce,cp,x,.map m1,.map m2] 2 (hf:=.fn (.func 363) [] [.iptr [.iptr [ca,cb,ce,cp,x,.map m1,.map m2] 0] 0,.ptr h3.next 0]) ⟨_,_,_,rfl⟩ g;refine(K _).mono ?_;rintro r H2 ⟨hq,rfl⟩;subst hq
    repeat' first|simp only[go_sem,ga, *]|apply bc<;>intro
    generalize U:LRec.mk .ready _ _ _ _ _ _=L2;have cm:L2.pending=none:=by rw[<-U]
    have cs:L2.st=.ready:=by rw[<-U]
    have J:Lcl λk2=>Y (YX fs al i+(Ut fs i k+k2)):=⟨λk=>y.here _,λk=>y.loc _⟩;have b0:∀j,S1 j->j<h3.next:=λj l=>y.here _ _ _ V j l;have d0:¬S1 (h1.next+2):=λe=>a0 ((ai _).2 (.inr (.inr e)));refine⟨⟨_,b4⟩,oT (W:=WK h1.next (.row [.int .i64 (i:Int)]) h3.next (.row [.int .i64 (u:Int)]) λk2=>Y (YX fs al i+(Ut fs i k+k2))) (n:=(kN fs u).length) (el:=elI (kN fs u)) (S:=λj=>j=h1.next\/j=h3.next\/S1 j) bo (WK.lcl J) cs cm ?_ (λyl ak=>fZ (sc:=[ca,cb,ce,cp,x,.map m1,.map m2]) rfl hx ow X.ok yl (R:=λj=>j=h3.next) ?_ (λg hg h2 hr=> ?_) ak) ?_ ?_⟩
    ·exact WK.start b7 ow ow b1 b3 n1 (λe=>wN _ (b0 _ e))
    ·rintro j rfl;refine⟨by rw[qL _ ow];omega,.inr ?_⟩;rintro k S2 h2 ⟨_,_,S0,hk,_⟩;rw[hk.st.1.2,zi ow,b3]
    ·exact(zCY (sc:=[ca,cb,ce,cp,x,.map m1,.map m2]) rfl hx dd g (by rw[hr _ rfl,zi ow,b3])).mono λr h3 e=>e
    ·intro k2 S3 h4 c6 ch c8 dk ck;obtain⟨v,hv⟩:∃v,(kN fs u)[k2]? =some v:=⟨_,zB c6⟩;have c5:(kN fs u).getD k2 0=v:=by rw[zC,hv];rfl
     simp only[elI,c5];obtain⟨S4,b6,⟨du,dv⟩,⟨a7,a8⟩,⟨n3,n4⟩,b5⟩:=dk;have Q:=c8;rw[<-U]at Q;obtain⟨tl,te⟩:=FX (al:=al) s (by rw[o];rfl) hu hv;have c3:(qz fs al).getD (YX fs al i+(Ut fs i k+k2)) (0,0,0)=(i,u,v):=by rw[zC,te];rfl
     have cf:=λS h=>y.go (YX fs al i+(Ut fs i k+k2)) S h tl;simp only[elT,c3,kO]at cf;have de:qd prog 339 [(0,.int .i64 (i:Int)),(1,.int .i64 (u:Int)),(2,.int .i64 (v:Int))]=some (.agg [.int .i64 (i:Int),.int .i64 (u:Int),.int .i64 (v:Int)]):=by simp[qd,Pf,HZ,ur,wo,D.notTuple,D.cells]
     refine uS.round (g:=Ng) mix Q rfl kr kr kr ?_;simp only[go_sem];refine⟨Q,?_⟩;generalize a9:LRec.mk .busy _ _ _ _ _ _=B2;have bs:({ B2 with st:=.ready,pending:=none } :LRec)=L2:=by rw[<-a9,<-U]
     have i1:h1.next≠h3.next+1:=ow;have i2:h3.next≠h3.next+1:=ow;obtain⟨H4,bb,a3,a4,a5,ad⟩:∃H4:Heap,h4.set (h3.next+1) (.loop B2)=H4/\H4.at' h1.next=some (.row [.int .i64 (i:Int)])/\H4.at' h3.next=some (.row [.int .i64 (u:Int)])/\H4.at' (h3.next+1)=some (.loop B2)/\But (λj=>j=h3.next+1) h4 H4:=
      ⟨_,rfl,by rw[zY i1];exact a7,by rw[zY i2];exact a8,zW _ _ _,by rw[ym];exact zD _,λj _ l=>zY l⟩
     rw[bb];clear a9 bb;simp only[go_sem,de,a3,a4,f2];refine(cf _ _ (J.round b6 (λj l=>(b5 _).2 (.inr (.inr l))) ck ad)).mono ?_;rintro r h5 ⟨S5,E,C,⟨rfl,hr⟩ | ⟨rfl,hr⟩⟩
     ·have m:∀fr,pL (LpK (h3.next+1) L2 (WK h1.next (.row [.int .i64 (i:Int)]) h3.next (.row [.int .i64 (u:Int)]) λk2=>Y (YX fs al i+(Ut fs i k+k2))) k2 S3 h4) (h3.next+1) .normal fr h5:=λfr=>Lp.call J bs ch ck ⟨b6,⟨du,dv⟩,⟨a7,a8⟩,⟨n3,n4⟩,b5⟩ a5 ad E C hr;simp only[go_sem,vun];exact m _
     ·exact hr.elim
    ·intro S' h5 hs hb hw;obtain⟨S5,E,C,Z⟩:=WK.stop b1 b3 (λj l=>by rw[bo];exact hs j l) hb hw;rw[<-uB (Ut fs i k)]at b7;have dr:Y (YX fs al i+Ut fs i (k+1)) S5 h5:=by rw[IM hu];exact Z
     have m:∀fr,pL (LpK (h1.next+2) L (WK h1.next (.row [.int .i64 (i:Int)]) (h1.next+1) (.row f.cells) λk=>Y (YX fs al i+Ut fs i k)) k S0 h3) (h1.next+2) .normal fr h5:=λfr=>Lp.call b8 c1 cg a0 ⟨V,⟨ds,dt⟩,⟨a6,cv⟩,⟨n1,n2⟩,ai⟩ b4 c2 E C dr;simp only[go_sem];exact m _
   ·intro S2 h5 hs hb hw;obtain⟨S5,E,C,Z⟩:=WK.stop g1 g2 (λj l=>by rw[ba];exact hs j l) hb hw;have m:∃S',(∀j,S' j->S j\/w.next<=j)/\But S w h5/\Y (YX fs al (i+1)) S' h5:=⟨S5,λj l=>by
     rcases E j l with q|q
     ·exact hS j q
     ·exact .inr (by have:=b.1;omega),b.trans C hS,by rw[FE s (by rw[o];rfl)];exact Z⟩
    clear p A T b hE hS z I o hs hb hw E C Z K hL;exact au
 ·rintro fr h2 e1 ⟨f1,f2,cw,cx,c0,S',bx,b2,F⟩;have m:∃S',(∀j,S' j->S j\/w.next<=j)/\But S w h2/\Y (qz fs al).length S' h2:=⟨S',bx,b2,by rw[show(qz fs al).length=YX fs al fs.length from(by unfold YX qz;rw[<-XI,pD])];exact F⟩
  clear bx b2 F;exact au
def gH(fs:List Fac)(i:Nat):Int:=match fs[i]? with
 |some f=>f.way
 |none=>0
def ng(fs:List Fac)(i:Nat):Int:=match fs[i]? with
 |some f=>f.rel
 |none=>0
def Jo(duty:Int)(q:List (List UInt8)->Bool)(l:Cla):Bool:=l.duty==duty&&q l.list
def zEi(c:Cat)(way rel duty:Int)(q:List (List UInt8)->Bool)(z:Trm):Bool:=(jS c z.a z.b way rel).any (Jo duty q)
def PO(c:Cat)(ts:List Trm)(way rel duty:Int)(q:List (List UInt8)->Bool):Bool:=ts.any (zEi c way rel duty q)
theorem Ke{q:List (List UInt8)->Bool} :∀{a b:List Cla},a.map Cla.key=b.map Cla.key->a.any (Jo N q)=b.any (Jo N q)
 | [],[],_=>rfl
 | [],_::_,h=>by cases h
 |_::_,[],h=>by cases h
 |x::a,y::b,h=>by
  simp only[qm,rW,Cla.key,Prod.mk.injEq]at h;obtain⟨⟨_,_,_,h1,c⟩,h3⟩:=h;rw[cn,cn,Ke h3,Jo,Jo,h1,c]
def zCJ(y:Cla)(h:Heap):zE prog 284 [.agg y.cells] h λr h'=>h'=h/\r=.bool true:=by
 refine zu zK4 ?_;simp only[f284,zA];exact au
theorem Bh{M:KM Int}{O:KV}{m1 m2:Nat}(hs:Stt c fs al M O sc m1 m2){t:Tri}(t1:t.1<fs.length)(t2:t.2.1<fs.length)(t3:t.2.2<fs.length){a:Alt}(X:al t.1=some a)(h:Int){q:List (List UInt8)->Bool}{R:Nat->Prop}(hH:StH M O m1 m2 g)(hR:∀i,R i->i<g.next)(hq:∀y:Cla,y.Fine->∀l:Heap,(∀i,R i->l.at' i=g.at' i)->zE prog f ([]++ [.agg y.cells]++cap) l λr h3=>h3=l/\r=.bool (q y.list)):
  zE prog 283 [.iptr sc 0,.agg (kO t),.int .i64 h,.fn (.func f) [] cap] g λr h'=>Ext g h'/\r=.bool (PO c a.ts (gH fs t.2.2) (ng fs t.2.1) h q):=by
 have Q:=Ud hs hH.1.1 t1 false;rw[X]at Q;replace Q:uY prog 208 (.map m1) (.int .i64 (t.1:Int)) false g=some a.d:=Q;have G:=hs.alt _ _ X;have w1:gH fs t.2.2=fs[t.2.2].way:=by simp[gH,t3]
 have w2:ng fs t.2.1=fs[t.2.1].rel:=by simp[ng,t2]
 rw[w1,w2];obtain⟨⟨ca,cb,ce,cp,x,rfl,C,hx,_⟩,sm,b9,ch,b8,halt⟩:=hs;have a2:=tP hx t2;have a3:=tP hx t3;have k2:fs[t.2.1].cells[3]? =some (.int .i64 fs[t.2.1].rel):=rfl;have k3:fs[t.2.2].cells[4]? =some (.int .i64 fs[t.2.2].way):=rfl;generalize fs[t.2.1]=E at *
 generalize fs[t.2.2]=F at *
 have ck:=uf G.sl;have b6:=G.len;obtain⟨q1,q2,_⟩:=yP G.sl;have hE:Ext g g:=Ext.refl g;obtain⟨ai,ak,a0⟩:=t;simp only[kO]at *
 refine zu zFs ?_;simp only[f283,zA]
 repeat' first|simp only[go_sem, *]|apply bc<;>intro C
 refine yI kr ?_
 repeat' first|simp only[go_sem,qQ, *]|apply bc<;>intro C
 refine zd (λi fr h'=>fr 0=.iptr [ca,cb,ce,cp,x,.map m1,.map m2] 0/\fr 2=.int .i64 h/\fr 3=.fn (.func f) [] cap/\fr 5=.iptr [.int .i64 (ai:Int),.int .i64 (ak:Int),.int .i64 (a0:Int)] 0/\fr 19=a.d/\fr 20=.int .i64 (a.ts.length:Int)/\fr 21=.int .i64 (i:Int)/\Ext g h'/\∀j (D:j<a.ts.length),j<i->zEi c F.way E.rel h q a.ts[j]=false) a.ts.length ow ?_ ?_ ?_
 ·simp only[go_sem,zT,zV,zI];exact⟨hE,λj D h0=>by omega⟩
 ·rintro i fr h1 S e1 ew ⟨V,s,w,W,n,u,v,K,D⟩;have a1:=oO G.sl S;have U:zEi c F.way E.rel h q a.ts[i]=(jS c a.ts[i].a a.ts[i].b F.way E.rel).any (Jo h q):=rfl;have b5:=λe=>Yl (p:=zEi c F.way E.rel h q) S e;have b4:=λe=>tB (p:=zEi c F.way E.rel h q) S D e;generalize a.ts[i]=z at *
  have cu:yX prog 197 (.ptr h1.next 0) (.agg z.cells) (h1.new h1.next (.row [.str [],.str []]))=some (h1.new h1.next (.row z.cells)):=qK uq ow rfl rfl rfl;have bs:=λg=>Kl C sm z.a z.b F.way E.rel g;have b2:yW true 2 z.cells 0=some (.agg z.cells):=zJ rfl ow;have cf:yW true 2 z.cells 0=some (.agg [.str z.a,.str z.b]):=b2;have a8:∀o,Ext g (h1.new h1.next o):=λo=>K.new K.1 o
  repeat' first|simp only[go_sem, *]|apply bc<;>intro C
  obtain⟨H,bk,cc,ba⟩:∃H,h1.new h1.next (.row z.cells)=H/\H.at' h1.next=some (.row z.cells)/\Ext g H:=⟨_,rfl,z8 _ _ _,a8 _⟩;rw[bk];have cv:yW true 4 [ca,cb,ce,cp,x,.map m1,.map m2] 0=some (.agg [ca,cb,ce,cp]):=by simp[yW]
  refine qH Heap.emp [(4,.no,false),(0,.no,false),(1,.no,false),(2,.no,false),(3,.no,false),(5,.no,false),(6,.no,false),(7,.no,false),(8,.no,false),(9,.no,false),(10,.no,false),(11,.no,false),(12,.no,false),(13,.no,false),(14,.no,false),(15,.no,false),(16,.no,false),(17,.no,false),(18,.no,false),(19,.no,false),(20,.no,false),(21,.no,false),(22,.no,false),(25,.no,false),(23,.no,false),(24,.no,false)] kr kr (λi ob e=>by cases e) ?_
  repeat' first|simp only[go_sem,qQ, *]|apply bc<;>intro C
  refine(bs _).mono ?_;rintro r H2 ⟨bx,cs,Y,N,J⟩;subst bx;rw[<-Ke J]at U;have cl:=jb Y;have b7:cs.length<=1048576:=by
   have:=congrArg List.length J;simp only[zG]at this;have l:(jS c z.a z.b F.way E.rel).length<=c.cs.length:=by
    unfold jS;split
    ·simp
    ·exact uA _ _
   have:=sm.cs.1;omega
  repeat' first|simp only[go_sem, *]|apply bc<;>intro C
  refine zd (λj fr h'=>fr 0=.iptr [ca,cb,ce,cp,x,.map m1,.map m2] 0/\fr 2=.int .i64 h/\fr 3=.fn (.func f) [] cap/\fr 5=.iptr [.int .i64 (ai:Int),.int .i64 (ak:Int),.int .i64 (a0:Int)] 0/\fr 19=a.d/\fr 20=.int .i64 (a.ts.length:Int)/\fr 21=.int .i64 (i:Int)/\fr 48=r/\fr 49=.int .i64 (cs.length:Int)/\fr 50=.int .i64 (j:Int)/\Ext g h'/\∀k (hk:k<cs.length),k<j->Jo h q cs[k]=false) cs.length ow ?_ ?_ ?_
  ·simp only[go_sem,zT,zV,zI];exact⟨V,s,w,W,n,u,v,ba,λj D h0=>by omega⟩
  ·clear V s w W n u v;rintro j a7 l m e2 cg ⟨V,s,w,W,n,u,v,a4,a5,a6,L,D⟩;have b1:=gU Y m;have ad:=N _ (zH m);have b3:=λe=>Yl (p:=Jo h q) m e;have ag:=λe=>tB (p:=Jo h q) m D e;have T:Jo h q cs[j]=(cs[j].duty==h&&q cs[j].list):=rfl;generalize cs[j]=y at *
   have Z:yX prog 126 (.ptr l.next 0) (.agg y.cells) (l.new l.next (.row [.str [],.int .i64 0,.int .i64 0,.int .i64 0,.nilsl]))=some (l.new l.next (.row y.cells)):=qK fI ow rfl rfl (by show(true&&(true&&(true&&(true&&(y.d.flat&&true)))))=true;rw[kH ad.1.isSl];rfl);have cw:yW true 5 y.cells 0=some (.agg y.cells):=zJ rfl ow;have ky:y.cells[3]? =some (.int .i64 y.duty):=rfl;have bb:Ext g (l.new l.next (.row y.cells)):=L.new L.1 _;obtain⟨H3,bo,b0,a9⟩:∃H,l.new l.next (.row y.cells)=H/\H.at' l.next=some (.row y.cells)/\Ext g H:=⟨_,rfl,z8 _ _ _,bb⟩;rw[bo]at Z
   have B:=hq y ad H3 λi P=>a9.2 i (hR i P);simp only[yc,yE]at B;cases hd:(y.duty==h)with
   |false=>
    have A:=ag (by rw[T,hd];rfl)
    repeat' first|simp only[go_sem, *]|apply bc<;>intro C
    exact A
   |true=>
    cases I:q y.list with
    |false=>
     rw[I]at B;have A:=ag (by rw[T,hd,I];rfl)
     repeat' first|simp only[go_sem, *]|apply bc<;>intro C|refine zE.use B ?_
     exact A
    |true=>
     rw[I]at B;have A:PO c a.ts F.way E.rel h q=true:=b5 (by rw[U];exact b3 (by rw[T,hd,I];rfl))
     repeat' first|simp only[go_sem, *]|apply bc<;>intro C|refine zE.use B ?_
  ·clear V s w W n u v;rintro a7 l e2 ⟨V,s,w,W,n,u,v,a4,a5,a6,L,D⟩;have A:=b4 (by rw[U];exact dT (p:=Jo h q) (λi P _=>D i P P))
   repeat' first|simp only[go_sem, *]|apply bc<;>intro C
   exact A
 ·rintro fr h1 e1 ⟨V,s,w,W,n,u,v,K,D⟩;have cm:PO c a.ts F.way E.rel h q=false:=dT λi P _=>D i P P;exact au
def bs3(a b c:Int)(nid:Nat)(h:Heap):yB prog false nid 30 3 [(0,.int .i64 a),(1,.int .i64 b),(2,.int .i64 c)] h=some (.sl 1 (wY [a,b,c]) .full,h):=by
 simp[yB,qv,rv,sI,D.notTuple,D.cells,lV,ur,wo,wR,wY]
def bs2(a b:Int)(nid:Nat)(h:Heap):yB prog false nid 30 2 [(0,.int .i64 a),(1,.int .i64 b)] h=some (.sl 1 (wY [a,b]) .full,h):=by
 simp[yB,qv,rv,sI,D.notTuple,D.cells,lV,ur,wo,wR,wY]
def bs4(a b c d:Int)(nid:Nat)(h:Heap):yB prog false nid 30 4 [(0,.int .i64 a),(1,.int .i64 b),(2,.int .i64 c),(3,.int .i64 d)] h=some (.sl 1 (wY [a,b,c,d]) .full,h):=by
 simp[yB,qv,rv,sI,D.notTuple,D.cells,lV,ur,wo,wR,wY]
def bs5(a b c d e:Int)(nid:Nat)(h:Heap):yB prog false nid 30 5 [(0,.int .i64 a),(1,.int .i64 b),(2,.int .i64 c),(3,.int .i64 d),(4,.int .i64 e)] h=some (.sl 1 (wY [a,b,c,d,e]) .full,h):=by
 simp[yB,qv,rv,sI,D.notTuple,D.cells,lV,ur,wo,wR,wY]
def bs1(a:Int)(nid:Nat)(h:Heap):yB prog false nid 30 1 [(0,.int .i64 a)] h=some (.sl 1 (wY [a]) .full,h):=by
 simp[yB,qv,rv,sI,D.notTuple,D.cells,lV,ur,wo,wR,wY]
def fK{t:Tri}(h:t∈qz fs al):t.1<fs.length/\t.2.1<fs.length/\t.2.2<fs.length/\∃a,al t.1=some a:=by
 unfold qz at h;obtain⟨i,e,b⟩:=z5.1 h;unfold Mh at b;split at b
 ·rename_i d;obtain⟨u,f,b⟩:=z5.1 b;unfold Mi at b;obtain⟨v,g,rfl⟩:=zM.1 b;have h1:=(p4 _ fs 0 u f).2;have c:=(p4 _ fs 0 v g).2;exact⟨qT.1 e,by simpa using h1,by simpa using c,uC.1 d⟩
 ·cases b
theorem Ny{p q:Fac->Bool}(h:∀f,p f=true->q f=true):∀(l:List Fac)(k k':Nat),(wX p l k).length<=(wX q l k').length
 | [],_,_=>zD _
 |f::l,k,k'=>by
  have a:=Ny h l (k+1) (k'+1);cases e:p f with
  |true=>simp only[wX,e,h f e,qS,zm];omega
  |false=>simp only[wX,e];cases q f<;>simp<;>omega
theorem Jq{p q:Fac->Bool}(h:∀f,p f=true->q f=false):∀(l:List Fac)(k k':Nat),(wX p l k).length+(wX q l k').length<=l.length
 | [],_,_=>zD _
 |f::l,k,k'=>by
  have a:=Jq h l (k+1) (k'+1);cases e:p f with
  |true=>simp only[wX,e,h f e,qS,zm];simp;omega
  |false=>simp only[wX,e];cases q f<;>simp<;>omega
def A8:∀a,a<=24->∀b,b<=24->a+b<=24->a*b<=144:=by decide
def mY(h:fs.length<=24):(qz fs al).length<=4096:=by
 have h1:∀i u,(Mi fs i u).length<=(wX (isF 2 λ_=>true) fs 0).length:=λi u=>by
  unfold Mi;rw[zG];exact Ny (λf hf=>by unfold isF at hf⊢;simp at hf⊢;exact hf.1) fs 0 0
 have a:∀i,(Mh fs al i).length<=144:=λi=>by
  unfold Mh;split
  ·refine zf (sL λu _=>h1 i u) ?_;have h3:=Jq (p:=isF 0 λg=>g.comp==uU fs i) (q:=isF 2 λ_=>true) (λf hf=>by
    unfold isF at hf⊢;simp at hf⊢;omega) fs 0 0
   exact A8 _ (by unfold fIx;omega) _ ow (by unfold fIx;omega)
  ·simp
 unfold qz;refine zf (sL λi _=>a i) ?_;rw[pD];omega
def wp{α:Type}(l:List α)(V:α->List (List Int))(k:Nat):List (List Int):=(l.take k).flatMap V
def rI{l:List α}{V:α->List (List Int)}{x:α}(h:l[k]? =some x):wp l V (k+1)=wp l V k++V x:=by
 obtain⟨h1,rfl⟩:=zK.1 h;unfold wp;rw[zQ h1,pp,oo,List.flatMap_nil,yL]
def oW(l:List α)(V:α->List (List Int)):wp l V l.length=l.flatMap V:=by unfold wp;rw[z6]
def ju{l:List α}{V:α->List (List Int)}{m:Nat}(h:∀x∈l,(V x).length<=m)(k:Nat):(wp l V k).length<=l.length*m:=
 zf (sL λx a=>h x (sP a)) (yv _ (by rw[yR];omega))
def QM(t:Tri)(h:Heap)(id:Nat):yX prog 339 (.ptr id 0) (.agg (kO t)) (h.new id (.row [.int .i64 0,.int .i64 0,.int .i64 0]))=some (h.new id (.row (kO t))):=qK zAx ow rfl rfl rfl
def Zx(al:Nat->Option Alt)(i:Nat):List Trm:=match al i with
 |some a=>a.ts
 |none=>[]
def rc(c:Cat)(fs:List Fac)(al:Nat->Option Alt)(t:Tri):List (List Int):=
 if PO c (Zx al t.1) (gH fs t.2.2) (ng fs t.2.1) 5 (λ_=>true)=true then [[(t.1:Int),(t.2.1:Int),(t.2.2:Int)]]else []
def PL(h:i<1048576):fits .i64 (i:Int):=qU ow ow
theorem GE{M:KM Int}{O:KV}{m1 m2:Nat}(Z:Stt c fs al M O sc m1 m2)(X:fs.length<=24)
  {ff:FuncId} {Y:List (List Int)->(Nat->Prop)->Heap->Prop} (y:Fnd2 prog 5 ff cap Y) {w:Heap} (hY:Y [] S w) (I:StH M O m1 m2 w) (n1:¬S m1) (n2:¬S m2):
  zE prog 227 [.iptr sc 0,.fn (.func ff) [] cap] w λ_ h'=>∃S',(∀i,S' i->S i\/w.next<=i)/\But S w h'/\Y ((qz fs al).flatMap (rc c fs al)) S' h':=by
 have Q:=Z;obtain⟨⟨ca,cb,ce,cp,x,rfl,hc,hx,_⟩,sm,bs,b0,bo,halt⟩:=Z;have a2:=λg=>bD [ca,cb,ce,cp,x,.map m1,.map m2] g;refine zu zFc ?_;simp only[f227,zA]
 repeat' first|simp only[go_sem,cX, *]|apply bc<;>intro hc|(refine zE.mono (a2 _) ?_;rintro r h ⟨hq,rfl⟩)
 subst hq;generalize T:LRec.mk _ _ _ _ _ _ _=L;have a5:L.pending=none:=by rw[<-T]
 have a6:L.st=.ready:=by rw[<-T]
 have s:=y.lcl λk=>wp (qz fs al) (rc c fs al) k;have h4:=mY (al:=al) X;refine oT (W:=WK m1 (.map (kmD (D.int .i64) M)) m2 (.map (kvD O)) λk=>Y (wp (qz fs al) (rc c fs al) k)) (n:=(qz fs al).length) (el:=elT (qz fs al)) (S:=λj=>j=m1\/j=m2\/S j) rfl (WK.lcl s) a6 a5 ?_ (λyl ak=>kZ Q yl (λk S h ⟨_,_,S0,hk,_⟩=>hk.st) ak) ?_ ?_
 ·exact WK.start hY I.2.1 I.2.2 I.1.1 I.1.2 n1 n2
 ·intro k S0 h3 hk e a4 ba E;obtain⟨t,ht⟩:∃t,(qz fs al)[k]? =some t:=⟨_,zB hk⟩;have a3:(qz fs al).getD k (0,0,0)=t:=by rw[zC,ht];rfl
  simp only[elT,a3];obtain⟨p1,p2,p3,a,K⟩:=fK (zg ht);have o:=a4;rw[<-T]at o;have a7:=QM t;refine uS.round (g:=JI) mix o rfl kr kr kr ?_;simp only[go_sem,a7];refine⟨by rw[zi ow];exact o,?_⟩;generalize hB:LRec.mk .busy _ _ _ _ _ _=B;have J:({ B with st:=.ready,pending:=none } :LRec)=L:=by rw[<-hB,<-T]
  obtain⟨S1,H,ag,bx,P,ai,a0,bk,ad,hw⟩:=Lp.open s ba e E (.row (kO t)) B;rw[ag];have a1:=Bh Q p1 p2 p3 K 5 (q:=λ_=>true) (R:=λ_=>False) (f:=284) (cap:=[]) ad (λi hi=>hi.elim) (λy hy h2 _=>zCJ y h2);have b1:yW true 3 (kO t) 0=some (.agg (kO t)):=zJ rfl ow;have e1:(kO t)[0]? =some (.int .i64 (t.1:Int)):=rfl;have e2:(kO t)[1]? =some (.int .i64 (t.2.1:Int)):=rfl;have e3:(kO t)[2]? =some (.int .i64 (t.2.2:Int)):=rfl;have a8:Zx al t.1=a.ts:=by simp[Zx,K]
  have u:rc c fs al t=if PO c a.ts (gH fs t.2.2) (ng fs t.2.1) 5 (λ_=>true)=true then [[(t.1:Int),(t.2.1:Int),(t.2.2:Int)]]else []:=by unfold rc;rw[a8]
  repeat' first|simp only[go_sem, *]|apply bc<;>intro
  refine a1.mono ?_;rintro r H2 ⟨p,rfl⟩;have F:=(p.2 _ ow).trans P;have z:=a0.ext1 p;have v:=(p.2 _ ow).trans ai;have A:=y.ext bk p;cases U:PO c a.ts (gH fs t.2.2) (ng fs t.2.1) 5 (λ_=>true)with
  |false=>
   rw[U,iq (by decide)]at u;have b:Y (wp (qz fs al) (rc c fs al) (k+1)) S1 H2:=by rw[rI ht,u,yL];exact A
   have d:∀fr,pL (LpK h.next L (WK m1 (.map (kmD (D.int .i64) M)) m2 (.map (kvD O)) λk=>Y (wp (qz fs al) (rc c fs al) k)) k S0 h3) h.next .normal fr H2:=λfr=>Lp.call s J e E hw v z (λj hj=>.inl hj) (But.refl S1 H2) b;simp only[go_sem];exact d _
  |true=>
   rw[U,ip rfl]at u;have a9:(wp (qz fs al) (rc c fs al) k).length<16777216:=by
    have:=ju (V:=rc c fs al) (l:=qz fs al) (m:=1) (λt _=>by unfold rc;split<;>simp) k;omega
   have N:=y.go _ _ _ [(t.1:Int),(t.2.1:Int),(t.2.2:Int)] .full A a9 (by simp) (by simp) (by
    intro n X;simp only[zw,qt,pj]at X;rcases X with rfl|rfl|rfl<;>exact PL ow)
   simp only[yc,yE]at N;have au:=bs3 (t.1:Int) (t.2.1:Int) (t.2.2:Int);simp only[go_sem,F,e1,e2,e3,au];refine N.mono ?_;rintro r h5 ⟨S5,G,C,b⟩;have bb:Y (wp (qz fs al) (rc c fs al) (k+1)) S5 h5:=by rw[rI ht,u];exact b
   have d:∀fr,pL (LpK h.next L (WK m1 (.map (kmD (D.int .i64) M)) m2 (.map (kvD O)) λk=>Y (wp (qz fs al) (rc c fs al) k)) k S0 h3) h.next .normal fr h5:=λfr=>Lp.call s J e E hw v z G C bb;exact d _
 ·intro S2 h5 Z U hw;obtain⟨S5,G,C,b⟩:=WK.stop I.1.1 I.1.2 Z U hw;rw[oW]at b;simp only[go_sem];exact⟨S5,G,C,b⟩
def X7(own:List UInt8)(l:List (List UInt8)):Bool:= !(l.any λx=>x==own)
def GY{own:List UInt8}{y:Cla}(a:y.Fine)(c:h.at' id=some (.row [.str own])):zE prog 285 [.agg y.cells,.ptr id 0] h λr h'=>h'=h/\r=.bool (X7 own y.list):=by
 have b:=jQ a.1.isSl a.2 own;have k1:y.cells[4]? =some y.d:=rfl;obtain⟨e,f,_⟩:=yP a.1.isSl;unfold X7;refine zu zFt ?_;simp only[f285,zA]
 repeat' first|simp only[go_sem, *]|apply bc<;>intro b|refine zE.use (b _) ?_
def om(c:Cat)(fs:List Fac)(al:Nat->Option Alt)(O:KV)(t:Tri):List (List Int):=match pR (uh fs t.2.1) O with
 |none=>[]
 |some own=>if PO c (Zx al t.1) (gH fs t.2.2) (ng fs t.2.1) 4 (X7 own)=true then [[(t.1:Int),(t.2.1:Int),(t.2.2:Int)]]else []
theorem B4{M:KM Int}{O:KV}{m1 m2:Nat}(hs:Stt c fs al M O sc m1 m2)(hn:fs.length<=24)
  {ff:FuncId} {Y:List (List Int)->(Nat->Prop)->Heap->Prop} (y:Fnd2 prog 5 ff cap Y) {w:Heap} (hY:Y [] S w) (K:StH M O m1 m2 w) (n1:¬S m1) (n2:¬S m2):
  zE prog 228 [.iptr sc 0,.fn (.func ff) [] cap] w λ_ h'=>∃S',(∀i,S' i->S i\/w.next<=i)/\But S w h'/\Y ((qz fs al).flatMap (om c fs al O)) S' h':=by
 have I:=hs;obtain⟨⟨ca,cb,ce,cp,x,rfl,hc,hx,_⟩,sm,cm,cv,cl,halt⟩:=hs;have bb:=λg=>bD [ca,cb,ce,cp,x,.map m1,.map m2] g;refine zu zFd ?_;simp only[f228,zA]
 repeat' first|simp only[go_sem,cX, *]|apply bc<;>intro hc|(refine zE.mono (bb _) ?_;rintro r h ⟨hq,rfl⟩)
 subst hq;generalize hL:LRec.mk _ _ _ _ _ _ _=L;have cc:L.pending=none:=by rw[<-hL]
 have cf:L.st=.ready:=by rw[<-hL]
 have Z:=y.lcl λk=>wp (qz fs al) (om c fs al O) k;have h4:=mY (al:=al) hn;refine oT (W:=WK m1 (.map (kmD (D.int .i64) M)) m2 (.map (kvD O)) λk=>Y (wp (qz fs al) (om c fs al O) k)) (n:=(qz fs al).length) (el:=elT (qz fs al)) (S:=λj=>j=m1\/j=m2\/S j) rfl (WK.lcl Z) cf cc ?_ (λyl b5=>kZ I yl (λk S h ⟨_,_,S0,hk,_⟩=>hk.st) b5) ?_ ?_
 ·exact WK.start hY K.2.1 K.2.2 K.1.1 K.1.2 n1 n2
 ·intro k S0 h3 hk Q ag a0 bx;obtain⟨t,ht⟩:∃t,(qz fs al)[k]? =some t:=⟨_,zB hk⟩;have b8:(qz fs al).getD k (0,0,0)=t:=by rw[zC,ht];rfl
  simp only[elT,b8];obtain⟨p1,p2,p3,a,a9⟩:=fK (zg ht);have d:=ag;rw[<-hL]at d;have b0:=QM t;refine uS.round (g:=JJ) mix d rfl kr kr kr ?_;simp only[go_sem,b0];refine⟨by rw[zi ow];exact d,?_⟩;generalize hB:LRec.mk .busy _ _ _ _ _ _=B;have X:({ B with st:=.ready,pending:=none } :LRec)=L:=by rw[<-hB,<-hL]
  obtain⟨S1,H,a7,b4,A,a8,ba,b3,F,hw⟩:=Lp.open Z a0 Q bx (.row (kO t)) B;rw[a7];clear b0 a7 hB;have cw:yW true 3 (kO t) 0=some (.agg (kO t)):=zJ rfl ow;have e1:(kO t)[0]? =some (.int .i64 (t.1:Int)):=rfl;have e2:(kO t)[1]? =some (.int .i64 (t.2.1:Int)):=rfl;have e3:(kO t)[2]? =some (.int .i64 (t.2.2:Int)):=rfl;have ch:Zx al t.1=a.ts:=by simp[Zx,a9]
  have a2:=tP hx p2;have ho:uh fs t.2.1=fs[t.2.1].out:=by simp[uh,p2]
  have k2:fs[t.2.1].cells[2]? =some (.str fs[t.2.1].out):=rfl;rw[<-ho]at k2;clear ho;obtain⟨h0,bs,T,v⟩:=Heap.low H;obtain⟨C,b9⟩:∃n,H.next=n:=⟨_,rfl⟩;have b1:∀s,yX prog 9 (.ptr C 0) (.str s) (H.new C (.row [.str []]))=some (H.new C (.row [.str s])):=λs=>by
   rw[yU (z8 _ _ _) pz (by simp) rfl rfl,gq];rfl
  have cg:=(v h3.next ow).trans A;have e:=Jx (by rw[v m2 F.2.2];exact F.1.2) (uh fs t.2.1) true;have cs:h3.next<C:=ow;have p:∀o,∃G,H.new C o=G/\Ext H G/\G.at' C=some o/\G.at' h3.next=some (.row (kO t))/\C<G.next/\But (λj=>j=h.next) h3 G/\G.at' h.next=some (.loop B)/\Y (wp (qz fs al) (om c fs al O) k) S1 G/\StH M O m1 m2 G:=λo=>by
   have hE:Ext H (H.new C o):=(Ext.refl H).new ow _;exact⟨_,rfl,hE,z8 _ _ _,(hE.2 _ ow).trans A,by rw[qL _ ow];omega,ba.ext1 hE,(hE.2 _ ow).trans a8,y.ext b3 hE,StH.ext F hE⟩
  rw[b9]at T;have b:∀{fr:Frm}{G h5:Heap}{S5:Nat->Prop},G.at' h.next=some (.loop B)->But (λj=>j=h.next) h3 G->(∀j,S5 j->S1 j\/G.next<=j)->But S1 G h5->Y (wp (qz fs al) (om c fs al O) (k+1)) S5 h5->pL (LpK h.next L (WK m1 (.map (kmD (D.int .i64) M)) m2 (.map (kvD O)) λk=>Y (wp (qz fs al) (om c fs al O) k)) k S0 h3) h.next .normal fr h5:=λa1 a2 a3 a4 a5=>Lp.call Z X Q bx hw a1 a2 a3 a4 a5;rw[rI ht]at b;clear b4 a8 ba b3 F A v
  refine qH h0 [(0,.st,true),(4,.st,true),(1,.no,true),(2,.no,true),(3,.st,true),(5,.no,true),(6,.no,true),(7,.st,true),(8,.no,true),(9,.st,true),(10,.no,true),(11,.no,true),(12,.st,true),(13,.st,true),(14,.no,true),(15,.no,true),(16,.no,true),(17,.no,true),(18,.no,false),(19,.no,false)] kr kr bs ?_;cases u:pR (uh fs t.2.1) O with
  |none=>
   rw[u]at e;replace e:uY prog 209 (.map m2) (.str (uh fs t.2.1)) true h0=some (.tuple [.str [],.bool false]):=e;have au:om c fs al O t= []:=by unfold om;rw[u]
   rw[au,yL]at b;obtain⟨G,hG,a6,g1,g2,g3,g4,g5,g6,_⟩:=p (.row [.str []]);have cu:=λfr=>b (fr:=fr) g5 g4 (λj hj=>.inl hj) (But.refl S1 G) g6;have b2:=b1 [];have bo:=T (.row [.str []]);rw[hG]at b2 bo;clear hw hL X I hY K a0 d ag ht p b u g1 g2 g3 g4 g5 g6 a6
   repeat' first|simp only[go_sem,qQ, *]|apply bc<;>intro
   refine ID _ e ?_
   repeat' first|simp only[go_sem,qQ, *]|apply bc<;>intro hc
  |some own=>
   rw[u]at e;replace e:uY prog 209 (.map m2) (.str (uh fs t.2.1)) true h0=some (.tuple [.str own,.bool true]):=e;have au:om c fs al O t=if PO c a.ts (gH fs t.2.2) (ng fs t.2.1) 4 (X7 own)=true then [[(t.1:Int),(t.2.1:Int),(t.2.2:Int)]]else []:=by unfold om;rw[u];simp only[ch]
   rw[au]at b;obtain⟨G,hG,a6,g1,g2,g3,g4,g5,g6,g7⟩:=p (.row [.str own]);have b7:=Bh I p1 p2 p3 a9 4 (q:=X7 own) (R:=λj=>j=C) (f:=285) (cap:=[.ptr C 0]) g7 (λi hi=>by rw[hi];exact g3) (λz hz h2 hr=>GY hz (by rw[hr _ rfl,g1]));have ck:(wp (qz fs al) (om c fs al O) k).length<16777216:=by
    have:=ju (V:=om c fs al O) (l:=qz fs al) (m:=1) (λt _=>by
     unfold om;split
     ·simp
     ·split<;>simp) k
    omega
   have b6:=bs3 (t.1:Int) (t.2.1:Int) (t.2.2:Int);have bk:=λS h hy=>y.go _ S h [(t.1:Int),(t.2.1:Int),(t.2.2:Int)] .full hy ck (by simp) (by simp) (by
    intro n hn;simp only[zw,qt,pj]at hn;rcases hn with rfl|rfl|rfl<;>exact PL ow)
   simp only[yc,yE]at bk;clear hw hL X hY K a0 d ag ht p u I bb
   repeat' first|simp only[go_sem,qQ, *]|apply bc<;>intro
   refine ID _ e ?_
   repeat' first|simp only[go_sem,qQ, *]|apply bc<;>intro
   refine b7.mono ?_;rintro r H2 ⟨E,rfl⟩;have ai:=(E.2 _ ow).trans g2;have P:=g4.ext1 E;have N:=(E.2 _ ow).trans g5;have U:=y.ext g6 E;cases hb:PO c a.ts (gH fs t.2.2) (ng fs t.2.1) 4 (X7 own)with
   |false=>
    rw[hb,iq (by decide),yL]at b;simp only[go_sem];exact b N P (λj hj=>.inl hj) (But.refl S1 H2) U
   |true=>
    rw[hb,ip rfl]at b;simp only[go_sem,ai,e1,e2,e3,b6];refine(bk _ _ U).mono ?_;rintro r h5 ⟨S5,ak,ad,J⟩;exact b N P ak ad J
 ·intro S2 h5 hs hb hw;obtain⟨S5,ak,ad,J⟩:=WK.stop K.1.1 K.1.2 hs hb hw;rw[oW]at J;simp only[go_sem];exact⟨S5,ak,ad,J⟩
def Bk(b:sc[4]? =some x)(c:yi 12 (mV fs) x){t:Tri}(a:t.1<fs.length)(g:Fac)(f:h.at' id=some (.row (kO t))):
  zE prog 287 [.agg g.cells,.iptr [.iptr sc 0] 0,.ptr id 0] h λr h'=>h'=h/\r=.bool (g.comp==uU fs t.1):=by
 have k1:fs[t.1].cells[1]? =some (.str fs[t.1].comp):=rfl;have k2:g.cells[1]? =some (.str g.comp):=rfl;have e1:(kO t)[0]? =some (.int .i64 (t.1:Int)):=rfl;have d:=tP c a;have j:uU fs t.1=fs[t.1].comp:=by simp[uU,a]
 refine zu zK5 ?_;simp only[f287,zA];simp only[go_sem, *];refine qH Heap.emp [(2,.no,false),(0,.no,false),(1,.no,false),(3,.no,false),(4,.no,false),(5,.no,false),(6,.no,false),(7,.no,false),(8,.no,false),(9,.no,false),(10,.no,false),(11,.no,false),(12,.no,false)] kr kr (λi k e=>by cases e) ?_;simp only[go_sem,qQ, *]
def bI(fs:List Fac)(i:Nat):Int:=match fs[i]? with
 |some f=>f.duty
 |none=>0
def PB(fs:List Fac)(i:Nat):Bool:=match fs[i]? with
 |some f=>f.chg
 |none=>false
abbrev cL(fs:List Fac)(i:Nat):List Nat:=fIx 4 (λg=>g.comp==uU fs i) fs
def cM(c:Cat)(fs:List Fac)(al:Nat->Option Alt)(t:Tri)(k:Nat):List (List Int):=
 if((!(bI fs k==2)||PB fs t.2.1)&&PO c (Zx al t.1) (gH fs t.2.2) (ng fs t.2.1) (bI fs k) (λ_=>true))=true then [[(t.1:Int),(t.2.1:Int),(t.2.2:Int),(k:Int)]]else []
def dL(c:Cat)(fs:List Fac)(al:Nat->Option Alt)(t:Tri):List (List Int):=(cL fs t.1).flatMap (cM c fs al t)
def Ro(c:Cat)(fs:List Fac)(al:Nat->Option Alt)(t:Tri)(k:Nat):(cM c fs al t k).length<=1:=by unfold cM;split<;>simp
def Rp(c:Cat)(b:fs.length<=24)(al:Nat->Option Alt)(t:Tri):(dL c fs al t).length<=24:=by
 have h1:=sL (m:=1) (l:=cL fs t.1) λk _=>Ro c fs al t k;have a:(cL fs t.1).length<=fs.length:=sj _ fs 0;unfold dL;omega
theorem zCN{M:KM Int}{O:KV}{m1 m2:Nat}(hs:Stt c fs al M O sc m1 m2)(hn:fs.length<=24)
  {ff:FuncId} {Y:List (List Int)->(Nat->Prop)->Heap->Prop} (y:Fnd2 prog 5 ff cap Y) {w:Heap} (hY:Y [] S w) (hH:StH M O m1 m2 w) (n1:¬S m1) (n2:¬S m2):
  zE prog 229 [.iptr sc 0,.fn (.func ff) [] cap] w λ_ h'=>∃S',(∀i,S' i->S i\/w.next<=i)/\But S w h'/\Y ((qz fs al).flatMap (dL c fs al)) S' h':=by
 have Z:=hs;obtain⟨⟨ca,cb,ce,cp,x,rfl,hc,hx,_⟩,sm,de,c8,b8,halt⟩:=hs;have b7:=λg=>bD [ca,cb,ce,cp,x,.map m1,.map m2] g;refine zu zFe ?_;simp only[f229,zA]
 repeat' first|simp only[go_sem,cX, *]|apply bc<;>intro hc|(refine zE.mono (b7 _) ?_;rintro r h ⟨hq,rfl⟩)
 subst hq;generalize hL:LRec.mk _ _ _ _ _ _ _=L;have c9:L.pending=none:=by rw[<-hL]
 have da:L.st=.ready:=by rw[<-hL]
 have bb:=y.lcl λk=>wp (qz fs al) (dL c fs al) k;have h4:=mY (al:=al) hn;refine oT (W:=WK m1 (.map (kmD (D.int .i64) M)) m2 (.map (kvD O)) λk=>Y (wp (qz fs al) (dL c fs al) k)) (n:=(qz fs al).length) (el:=elT (qz fs al)) (S:=λj=>j=m1\/j=m2\/S j) rfl (WK.lcl bb) da c9 ?_ (λyl ba=>kZ Z yl (λk S h ⟨_,_,S0,hk,_⟩=>hk.st) ba) ?_ ?_
 ·exact WK.start hY hH.2.1 hH.2.2 hH.1.1 hH.1.2 n1 n2
 ·intro k S0 h3 hk a7 cc cw ch;obtain⟨t,ht⟩:∃t,(qz fs al)[k]? =some t:=⟨_,zB hk⟩;have c5:(qz fs al).getD k (0,0,0)=t:=by rw[zC,ht];rfl
  simp only[elT,c5];obtain⟨p1,p2,p3,a,b4⟩:=fK (zg ht);have s:=cc;rw[<-hL]at s;have cs:=QM t;refine uS.round (g:=Nb) mix s rfl kr kr kr ?_;simp only[go_sem,cs];refine⟨by rw[zi ow];exact s,?_⟩;generalize hB:LRec.mk .busy _ _ _ _ _ _=B;have b0:({ B with st:=.ready,pending:=none } :LRec)=L:=by rw[<-hB,<-hL]
  obtain⟨S1,H,bs,U,N,bx,b5,c1,z,hw⟩:=Lp.open bb cw a7 ch (.row (kO t)) B;rw[bs];clear cs bs hB;have di:yW true 3 (kO t) 0=some (.agg (kO t)):=zJ rfl ow;have e1:(kO t)[0]? =some (.int .i64 (t.1:Int)):=rfl;have e2:(kO t)[1]? =some (.int .i64 (t.2.1:Int)):=rfl;have e3:(kO t)[2]? =some (.int .i64 (t.2.2:Int)):=rfl;have db:Zx al t.1=a.ts:=by simp[Zx,b4]
  have b3:∀j,S1 j->j<h3.next:=λj hj=>y.here _ _ _ hw.1 j hj;have b6:=λg=>aZ [ca,cb,ce,cp,x,.map m1,.map m2] 4 (hf:=.fn (.func 287) [] [.iptr [.iptr [ca,cb,ce,cp,x,.map m1,.map m2] 0] 0,.ptr h3.next 0]) ⟨_,_,_,rfl⟩ g;refine(b6 _).mono ?_;rintro r H2 ⟨hq,rfl⟩;subst hq;simp only[go_sem,ga,U];generalize C:LRec.mk .ready _ _ _ _ _ _=L2;have cl:L2.pending=none:=by rw[<-C]
  have cm:L2.st=.ready:=by rw[<-C]
  have E:=y.lcl λk2=>wp (qz fs al) (dL c fs al) k++wp (cL fs t.1) (cM c fs al t) k2;have cg:¬S1 m1/\¬S1 m2:=hw.2.2.2.1;obtain⟨l,hl⟩:∃l:List (Nat×Obj),l= [(m1,.map (kmD (D.int .i64) M)),(m2,.map (kvD O)),(h3.next,.row (kO t))]:=⟨_,rfl⟩;have Q:∀p∈l,p.1<H2.next/\H2.at' p.1=some p.2/\¬S1 p.1:=by
   rw[hl];intro p K;simp only[zw,qt,pj]at K;rcases K with rfl|rfl|rfl
   ·exact⟨z.2.1,z.1.1,cg.1⟩
   ·exact⟨z.2.2,z.1.2,cg.2⟩
   ·exact⟨by rw[U];omega,N,λe=>wN _ (b3 _ e)⟩
  have o:∀{h:Heap},(∀p∈l,p.1<h.next/\h.at' p.1=some p.2)->StH M O m1 m2 h/\h3.next<h.next/\h.at' h3.next=some (.row (kO t)):=by
   rw[hl];intro h K;have q1:=K (m1,.map (kmD (D.int .i64) M)) (by simp);have q2:=K (m2,.map (kvD O)) (by simp);have q3:=K (h3.next,.row (kO t)) (by simp);exact⟨⟨⟨q1.2,q2.2⟩,q1.1,q2.1⟩,q3⟩
  clear hl;refine⟨⟨_,bx⟩,oT (W:=WL l λk2=>Y (wp (qz fs al) (dL c fs al) k++wp (cL fs t.1) (cM c fs al t) k2)) (n:=(cL fs t.1).length) (el:=elI (cL fs t.1)) (S:=λj=>(∃p∈l,j=p.1)\/S1 j) U (WL.lcl E) cm cl ?_ (λyl ba=>fZ (sc:=[ca,cb,ce,cp,x,.map m1,.map m2]) rfl hx ow Z.ok yl (R:=λj=>j=h3.next) ?_ (λg hg h2 hr=> ?_) ba) ?_ ?_⟩
  ·exact WL.start (by rw[show wp (cL fs t.1) (cM c fs al t) 0= []from rfl,yL];exact c1) Q
  ·rintro j rfl;refine⟨by rw[qL _ ow];omega,.inr ?_⟩;rintro k S2 h2 ⟨_,_,S0,hk,_⟩;rw[(o hk.st).2.2,zi ow,N]
  ·exact(Bk (sc:=[ca,cb,ce,cp,x,.map m1,.map m2]) rfl hx p1 g (by rw[hr _ rfl,zi ow,N])).mono λr h3 e=>e
  ·intro k2 S3 h5 c7 J cf cx ck;obtain⟨v,hv⟩:∃v,(cL fs t.1)[k2]? =some v:=⟨_,zB c7⟩;have c6:(cL fs t.1).getD k2 0=v:=by rw[zC,hv];rfl
   have cv:v<fs.length:=by
    have:=(p4 _ fs 0 v (zg hv)).2;omega
   simp only[elI,c6];have u:=cf;rw[<-C]at u;refine uS.round (g:=Nb) mix u rfl kr kr kr ?_;simp only[go_sem];refine⟨u,?_⟩;generalize c2:LRec.mk .busy _ _ _ _ _ _=B2;have au:({ B2 with st:=.ready,pending:=none } :LRec)=L2:=by rw[<-c2,<-C]
   obtain⟨S4,H4,ad,ak,ag,a0,a8,A,d⟩:=Lp.openL0 E cx J ck B2;rw[ad];obtain⟨g1,g2,g3⟩:=o (h:=H4) λp K=>⟨by rw[ak];exact(A p K).1,(A p K).2⟩;have b:∀{fr:Frm}{G h7:Heap}{S5:Nat->Prop},G.at' (h3.next+1)=some (.loop B2)->But (λj=>j=h3.next+1) h5 G->(∀j,S5 j->S4 j\/G.next<=j)->But S4 G h7->Y (wp (qz fs al) (dL c fs al) k++wp (cL fs t.1) (cM c fs al t) (k2+1)) S5 h7->pL (LpK (h3.next+1) L2 (WL l λk2=>Y (wp (qz fs al) (dL c fs al) k++wp (cL fs t.1) (cM c fs al t) k2)) k2 S3 h5) (h3.next+1) .normal fr h7:=λa1 a2 a3 a4 a5=>Lp.callL E au J ck d a1 a2 a3 a4 a5;rw[rI hv]at b;have b1:=tP hx cv
   have b2:=tP hx p2;have k5:fs[v].cells[5]? =some (.int .i64 fs[v].duty):=rfl;have k6:fs[t.2.1].cells[6]? =some (.bool fs[t.2.1].chg):=rfl;have hd:bI fs v=fs[v].duty:=by simp[bI,cv]
   have I:PB fs t.2.1=fs[t.2.1].chg:=by simp[PB,p2]
   have b9:cM c fs al t v=if((!(fs[v].duty==2)||fs[t.2.1].chg)&&PO c a.ts (gH fs t.2.2) (ng fs t.2.1) fs[v].duty (λ_=>true))=true then [[(t.1:Int),(t.2.1:Int),(t.2.2:Int),(v:Int)]]else []:=by unfold cM;rw[hd,I,db]
   have bk:=Bh Z p1 p2 p3 b4 fs[v].duty (q:=λ_=>true) (R:=λ_=>False) (f:=284) (cap:=[]) g1 (λi hi=>hi.elim) (λy hy h2 _=>zCJ y h2);rw[b9]at b;have cu:(wp (qz fs al) (dL c fs al) k++wp (cL fs t.1) (cM c fs al t) k2).length<16777216:=by
    have q1:=ju (V:=dL c fs al) (l:=qz fs al) (m:=24) (λt _=>Rp c hn al t) k;have q2:=ju (V:=cM c fs al t) (l:=cL fs t.1) (m:=1) (λk _=>Ro c fs al t k) k2;have q3:(cL fs t.1).length<=fs.length:=sj _ fs 0;rw[zR];omega
   have X:=λS h hy=>y.go _ S h [(t.1:Int),(t.2.1:Int),(t.2.2:Int),(v:Int)] .full hy cu (by simp) (by simp) (by
    intro n hn;simp only[zw,qt,pj]at hn;rcases hn with rfl|rfl|rfl|rfl<;>exact PL ow)
   simp only[yc,yE]at X;have c3:=bs4 (t.1:Int) (t.2.1:Int) (t.2.2:Int) (v:Int);clear hd I b9 cu;generalize fs[v]=fv at *
   generalize fs[t.2.1]=fu at *
   clear hL b0 C au Z hY hH cw s cc ht b7 b6 b8 c8 o Q cf u cx d A ad hv c1 z b5
   repeat' first|simp only[go_sem,qQ, *]|apply bc<;>intro
   refine yI kr ?_;cases h2:(fv.duty==2)<;>cases I:fu.chg
   case true.false=>
    rw[h2,I,iq (by simp),yL]at b;have c4:=λfr=>b (fr:=fr) ag a0 (λj hj=>.inl hj) (But.refl S4 H4) a8;clear b X bk
    repeat' first|simp only[go_sem,qQ, *]|apply bc<;>intro
   all_goals
    rw[h2,I]at b
    repeat' first|simp only[go_sem,qQ, *]|apply bc<;>intro
    refine bk.mono ?_;rintro r H5 ⟨T,rfl⟩;have bo:=(T.2 _ g2).trans g3;have a6:=a0.ext1 T;have ai:=(T.2 _ (by rw[ak];exact J)).trans ag;have a9:=y.ext a8 T;cases hb:PO c a.ts (gH fs t.2.2) (ng fs t.2.1) fv.duty (λ_=>true)with
    |false=>
     rw[hb,iq (by decide),yL]at b;have c4:=λfr=>b (fr:=fr) ai a6 (λj hj=>.inl hj) (But.refl S4 H5) a9;clear b X bk
     repeat' first|simp only[go_sem, *]|apply bc<;>intro hc
    |true=>
     rw[hb,ip (by decide)]at b;simp only[go_sem,bo,e1,e2,e3,c3];refine(X _ _ a9).mono ?_;rintro r h7 ⟨S5,P,F,d⟩;rw[qh]at d;exact b ai a6 P F d
  ·intro S' h5 hs hb d;obtain⟨S5,P,F,c0⟩:=WL.stop (λp K=>(Q p K).2.1) (λj hj=>by rw[U];exact hs j hj) hb d;rw[oW]at c0;have dd:Y (wp (qz fs al) (dL c fs al) (k+1)) S5 h5:=by rw[rI ht];exact c0
   have b:∀fr,pL (LpK h.next L (WK m1 (.map (kmD (D.int .i64) M)) m2 (.map (kvD O)) λk=>Y (wp (qz fs al) (dL c fs al) k)) k S0 h3) h.next .normal fr h5:=λfr=>Lp.call bb b0 a7 ch hw bx b5 P F dd;simp only[go_sem];exact b _
 ·intro S2 h5 hs hb hw;obtain⟨S5,P,F,d⟩:=WK.stop hH.1.1 hH.1.2 hs hb hw;rw[oW]at d;simp only[go_sem];exact⟨S5,P,F,d⟩
def zCC(x y:Apt)(c:Bool):jI prog .eql 130 c (.agg [.str x.a,.str x.b]) (.agg [.str y.a,.str y.b])=some (.bool (x.a==y.a&&x.b==y.b)):=by
 have d:eqT prog 130=some [.s,.s]:=kr;simp only[jI,d,KA,eqK,wB,rx,oe]
def GF{l:List Apt}(q:yi 2 (Hx l) d)(D:l.length<=1048576)(n:Apt)(g:Heap):
  zE prog 430 [d,.agg [.str n.a,.str n.b]] g λr h'=>h'=g/\r=.int .i64 (UO (λx:Apt=>n.a==x.a&&n.b==x.b) l):=by
 have s:=bT q;have heq:=zCC n;obtain⟨p,t⟩:∃p:Apt->Bool,(λx:Apt=>n.a==x.a&&n.b==x.b)=p:=⟨_,rfl⟩;have m:∀x,(n.a==x.a&&n.b==x.b)=p x:=λx=>by rw[<-t]
 rw[t];refine zu zGK ?_;simp only[f430,zA];simp only[go_sem, *];refine zd (λi fr h=>fr 0=d/\fr 3=.iptr [.str n.a,.str n.b] 0/\fr 7=.int .i64 (l.length:Int)/\fr 8=.int .i64 (i:Int)/\h=g/\∀j (e:j<l.length),j<i->p l[j]=false) l.length ow ?_ ?_ ?_
 ·simp only[go_sem,zT,zV,zI];exact λj e h0=>absurd h0 (yq _)
 ·rintro i fr h c e1 C ⟨v,w,y,z,rfl,e⟩;have u:=aY q c;simp only[Apt.cells]at u;have o:=heq l[i];rw[m]at o;cases k:p l[i]with
  |true=>
   have B:=jV (p:=p) c e k;rw[k]at o;simp only[go_sem, *];refine yI kr ?_;simp only[go_sem, *]
  |false=>
   have A:=tB (p:=p) c e k;rw[k]at o;simp only[go_sem, *];refine yI kr ?_;simp only[go_sem, *];exact A
 ·rintro fr h e1 ⟨v,w,y,z,rfl,e⟩;have B:=jW (p:=p) λj f=>e j f f;exact au
def Qx{l:List Apt}(e:yi 2 (Hx l) d)(h:l.length<=1048576)(n:Apt)(g:Heap):
  zE prog 396 [d,.agg [.str n.a,.str n.b]] g λr h'=>h'=g/\r=.bool (l.any λx:Apt=>n.a==x.a&&n.b==x.b):=by
 have c:=GF e h n;have f:=gb (l:=l) (p:=λx:Apt=>n.a==x.a&&n.b==x.b);refine zu zGI ?_;simp only[f396,zA]
 repeat' first|simp only[go_sem, *]|apply bc<;>intro i|refine zE.use (c _) ?_
def zLr(a b:List UInt8):Apt:=if(!(WS a b||a==b))=true then⟨b,a⟩else⟨a,b⟩
def dU(c:Cat)(a b:List UInt8):Bool:=(pJ c==0)&&c.ps.any λx=>(zLr a b).a==x.a&&(zLr a b).b==x.b
def WY(j:uc c d)(k:c.Sm)(x y:List UInt8)(g:Heap):zE prog 366 [d,.str x,.str y] g λr h'=>h'=g/\r=.bool (dU c x y):=by
 have i:=fY j k;obtain⟨a,b,e,p,rfl,o,s,t,m⟩:=j;have l:∀u v:List UInt8,qd prog 130 [(0,.str u),(1,.str v)]=some (.agg [.str u,.str v]):=λu v=>by simp[qd,Pb,HV,ur,D.notTuple,D.cells,wo]
 have f:=λn=>Qx m k.ps n;obtain⟨R,h⟩:∃R,dU c x y=R:=⟨_,rfl⟩;rw[h];unfold dU zLr at h;refine zu zGE ?_;simp only[f366,zA];cases q:(WS x y||x==y)with
 |true=>
  rw[iq (by rw[q];decide)]at h;have h1:=f ⟨x,y⟩;subst h
  repeat' first|simp only[go_sem, *]|apply bc<;>intro j|refine zE.use (i _) ?_|refine zE.use (h1 _) ?_
 |false=>
  rw[ip (by rw[q];rfl)]at h;have h1:=f ⟨y,x⟩;subst h
  repeat' first|simp only[go_sem, *]|apply bc<;>intro j|refine zE.use (i _) ?_|refine zE.use (h1 _) ?_
def zGd(c:Cat)(b:List Trm)(x:Trm):Bool:=b.any λy=>dU c x.a y.a
def zAT(c:Cat)(a b:List Trm):Bool:=a.any (zGd c b)
theorem Kz{ca cb ce cp:D}{rest:List D}(x:uc c (.agg [ca,cb,ce,cp]))(sm:c.Sm){a b:Alt}(N:a.Ok)(O:b.Ok)(g:Heap):
  zE prog 288 [.iptr (ca::cb::ce::cp::rest) 0,a.d,b.d] g λr h'=>Ext g h'/\r=.bool (zAT c a.ts b.ts):=by
 have a2:=uf N.sl;have a3:=uf O.sl;have ak:=N.len;have a0:=O.len;obtain⟨q1,q2,_⟩:=yP N.sl;obtain⟨q3,q4,_⟩:=yP O.sl;have hE:Ext g g:=Ext.refl g;have a7:yW true 4 (ca::cb::ce::cp::rest) 0=some (.agg [ca,cb,ce,cp]):=by simp[yW]
 refine zu zFv ?_;simp only[f288,zA]
 repeat' first|simp only[go_sem, *]|apply bc<;>intro x
 refine zd (λi fr h'=>fr 0=.iptr (ca::cb::ce::cp::rest) 0/\fr 2=b.d/\fr 11=a.d/\fr 12=.int .i64 (a.ts.length:Int)/\fr 13=.int .i64 (i:Int)/\Ext g h'/\∀j (t:j<a.ts.length),j<i->zGd c b.ts a.ts[j]=false) a.ts.length ow ?_ ?_ ?_
 ·simp only[go_sem,zT,zV,zI];exact⟨hE,λj t h0=>by omega⟩
 ·rintro i fr h1 E e1 ew ⟨I,J,l,m,o,A,t⟩;have a1:=oO N.sl E;have Z:=λe=>Yl (p:=zGd c b.ts) E e;have Y:=λe=>tB (p:=zGd c b.ts) E t e;generalize a.ts[i]=z at *
  have G:yX prog 197 (.ptr h1.next 0) (.agg z.cells) (h1.new h1.next (.row [.str [],.str []]))=some (h1.new h1.next (.row z.cells)):=qK uq ow rfl rfl rfl;have a6:yW true 2 z.cells 0=some (.agg z.cells):=zJ rfl ow;obtain⟨H,hH,f,C,q⟩:∃H,h1.new h1.next (.row z.cells)=H/\H.at' h1.next=some (.row z.cells)/\Ext g H/\h1.next<H.next:=⟨_,rfl,z8 _ _ _,A.new A.1 _,by rw[za];omega⟩;rw[hH]at G
  repeat' first|simp only[go_sem, *]|apply bc<;>intro x
  obtain⟨M,F⟩:∃n,h1.next=n:=⟨_,rfl⟩;rw[F]at f q⊢;refine zd (λj fr h'=>fr 0=.iptr (ca::cb::ce::cp::rest) 0/\fr 2=b.d/\fr 11=a.d/\fr 12=.int .i64 (a.ts.length:Int)/\fr 13=.int .i64 (i:Int)/\fr 8=.ptr M 0/\fr 17=b.d/\fr 18=.int .i64 (b.ts.length:Int)/\fr 19=.int .i64 (j:Int)/\h'.at' M=some (.row z.cells)/\M<h'.next/\Ext g h'/\∀k (hk:k<b.ts.length),k<j->dU c z.a b.ts[k].a=false) b.ts.length ow ?_ ?_ ?_
  ·simp only[go_sem,zT,zV,zI];exact⟨I,J,l,m,o,f,q,C,λj t h0=>by omega⟩
  ·clear I J l m o f C G q F;rintro j T u s e2 ag ⟨I,J,l,m,o,f8,Q,R,S,f,q,B,t⟩;have b1:=oO O.sl s;have X:dU c z.a b.ts[j].a=true->zGd c b.ts z=true:=λe=>Yl (p:=λy:Trm=>dU c z.a y.a) s e;have W:=λe=>tB (p:=λy:Trm=>dU c z.a y.a) s t e;generalize b.ts[j]=y at *
   have L:yX prog 197 (.ptr u.next 0) (.agg y.cells) (u.new u.next (.row [.str [],.str []]))=some (u.new u.next (.row y.cells)):=qK uq ow rfl rfl rfl;have a8:yW true 2 y.cells 0=some (.agg y.cells):=zJ rfl ow;have kz:z.cells[0]? =some (.str z.a):=rfl;have ky:y.cells[0]? =some (.str y.a):=rfl;obtain⟨H3,U,V,a5,ai,ad⟩:∃H,u.new u.next (.row y.cells)=H/\H.at' u.next=some (.row y.cells)/\H.at' M=some (.row z.cells)/\Ext g H/\M<H.next:=⟨_,rfl,z8 _ _ _,by rw[zi ow];exact f,B.new B.1 _,by rw[za];omega⟩;rw[U]at L;have v:=WY x sm z.a y.a H3;cases P:dU c z.a y.a with
   |false=>
    rw[P]at v;have w:=W P
    repeat' first|simp only[go_sem, *]|apply bc<;>intro x
    refine yI kr ?_
    repeat' first|simp only[go_sem,qQ, *]|apply bc<;>intro x|(refine zE.mono v ?_;rintro r h ⟨hq,rfl⟩)
    subst hq;exact w
   |true=>
    rw[P]at v;have w:zAT c a.ts b.ts=true:=Z (X P)
    repeat' first|simp only[go_sem, *]|apply bc<;>intro x
    refine yI kr ?_
    repeat' first|simp only[go_sem,qQ, *]|apply bc<;>intro x|refine zE.use v ?_
  ·clear I J l m o f C G q F;rintro T u e2 ⟨I,J,l,m,o,f8,Q,R,S,f,q,B,t⟩;have w:=Y (dT (p:=λy:Trm=>dU c z.a y.a) (λi K _=>t i K K))
   repeat' first|simp only[go_sem, *]|apply bc<;>intro x
   exact w
 ·rintro fr h1 e1 ⟨I,J,l,m,o,A,t⟩;have a4:zAT c a.ts b.ts=false:=dT λi K _=>t i K K;exact au
def Wg(fs:List Fac)(t r:Tri):Bool:=decide ((r.1:Int)<(t.1:Int))|| !((r.2.2:Int)==(t.2.2:Int))|| !(ng fs r.2.1==0)||((uU fs t.1==uU fs r.1)&& !((r.2.1:Int)==(t.2.1:Int)))
def mF(c:Cat)(fs:List Fac)(al:Nat->Option Alt)(t r:Tri):List (List Int):=
 if(!(Wg fs t r)&&zAT c (Zx al t.1) (Zx al r.1))=true then [[(t.1:Int),(r.1:Int),(t.2.1:Int),(r.2.1:Int),(t.2.2:Int)]]else []
def pW(c:Cat)(fs:List Fac)(al:Nat->Option Alt)(t:Tri):List (List Int):=if(ng fs t.2.1==0)=true then(qz fs al).flatMap (mF c fs al t)else []
def Wq(c:Cat)(fs:List Fac)(al:Nat->Option Alt)(t r:Tri):(mF c fs al t r).length<=1:=by unfold mF;split<;>simp
def Wr(c:Cat)(a:fs.length<=24)(al:Nat->Option Alt)(t:Tri):(pW c fs al t).length<=4096:=by
 unfold pW;split
 ·have h1:=sL (m:=1) (l:=qz fs al) λr _=>Wq c fs al t r;have b:=mY (al:=al) a;omega
 ·simp
theorem BZ{M:KM Int}{O:KV}{m1 m2:Nat}(hs:Stt c fs al M O sc m1 m2)(hn:fs.length<=24)
  {ff:FuncId} {Y:List (List Int)->(Nat->Prop)->Heap->Prop} (y:Fnd2 prog 5 ff cap Y) {w:Heap} (hY:Y [] S w) (hH:StH M O m1 m2 w) (n1:¬S m1) (n2:¬S m2):
  zE prog 230 [.iptr sc 0,.fn (.func ff) [] cap] w λ_ h'=>∃S',(∀i,S' i->S i\/w.next<=i)/\But S w h'/\Y ((qz fs al).flatMap (pW c fs al)) S' h':=by
 have o:=hs;obtain⟨⟨ca,cb,ce,cp,x,rfl,X,hx,_⟩,sm,du,di,cv,halt⟩:=hs;have ai:=λg=>bD [ca,cb,ce,cp,x,.map m1,.map m2] g;refine zu zFf ?_;simp only[f230,zA]
 repeat' first|simp only[go_sem,cX, *]|apply bc<;>intro X|(refine zE.mono (ai _) ?_;rintro r h ⟨hq,rfl⟩)
 subst hq
 rename Heap=>w
 generalize hL:LRec.mk _ _ _ _ _ _ _=L;have dk:L.pending=none:=by rw[<-hL]
 have dr:L.st=.ready:=by rw[<-hL]
 have b5:=y.lcl λk=>wp (qz fs al) (pW c fs al) k;have h4:=mY (al:=al) hn;refine oT (W:=WK m1 (.map (kmD (D.int .i64) M)) m2 (.map (kvD O)) λk=>Y (wp (qz fs al) (pW c fs al) k)) (n:=(qz fs al).length) (el:=elT (qz fs al)) (S:=λj=>j=m1\/j=m2\/S j) rfl (WK.lcl b5) dr dk ?_ (λyl b4=>kZ o yl (λk S h ⟨_,_,S0,hk,_⟩=>hk.st) b4) ?_ ?_
 ·exact WK.start hY hH.2.1 hH.2.2 hH.1.1 hH.1.2 n1 n2
 ·intro k S0 h3 hk ba b6 cf c0;obtain⟨t,ht⟩:∃t,(qz fs al)[k]? =some t:=⟨_,zB hk⟩;have dd:(qz fs al).getD k (0,0,0)=t:=by rw[zC,ht];rfl
  simp only[elT,dd];obtain⟨p1,p2,p3,a,Z⟩:=fK (zg ht);have s:=b6;rw[<-hL]at s;have U:=QM t;refine uS.round (g:=Nc) mix s rfl kr kr kr ?_;simp only[go_sem,U];refine⟨by rw[zi ow];exact s,?_⟩;generalize hB:LRec.mk .busy _ _ _ _ _ _=B;have b0:({ B with st:=.ready,pending:=none } :LRec)=L:=by rw[<-hB,<-hL]
  obtain⟨S1,H,cl,bx,c6,bs,cu,cg,F,hw⟩:=Lp.open b5 cf ba c0 (.row (kO t)) B;rw[cl];clear U cl hB;have d0:yW true 3 (kO t) 0=some (.agg (kO t)):=zJ rfl ow;have e1:(kO t)[0]? =some (.int .i64 (t.1:Int)):=rfl;have e2:(kO t)[1]? =some (.int .i64 (t.2.1:Int)):=rfl;have e3:(kO t)[2]? =some (.int .i64 (t.2.2:Int)):=rfl;have ds:Zx al t.1=a.ts:=by simp[Zx,Z]
  have cm:∀j,S1 j->j<h3.next:=λj hj=>y.here _ _ _ hw.1 j hj;have a2:=tP hx p2;have c5:ng fs t.2.1=fs[t.2.1].rel:=by simp[ng,p2]
  have k3:fs[t.2.1].cells[3]? =some (.int .i64 fs[t.2.1].rel):=rfl;have v:∀{fr:Frm}{G h7:Heap}{S5:Nat->Prop},G.at' w.next=some (.loop B)->But (λj=>j=w.next) h3 G->(∀j,S5 j->S1 j\/G.next<=j)->But S1 G h7->Y (wp (qz fs al) (pW c fs al) (k+1)) S5 h7->pL (LpK w.next L (WK m1 (.map (kmD (D.int .i64) M)) m2 (.map (kvD O)) λk=>Y (wp (qz fs al) (pW c fs al) k)) k S0 h3) w.next .normal fr h7:=λa1 a2 a3 a4 a5=>Lp.call b5 b0 ba c0 hw a1 a2 a3 a4 a5;rw[rI ht]at v;refine yI kr ?_;rw[<-c5]at k3;clear c5;cases c4:(ng fs t.2.1==0)with
  |false=>
   have hv:pW c fs al t= []:=by unfold pW;rw[c4];rfl
   rw[hv,yL]at v;have ak:=λfr=>v (fr:=fr) bs cu (λj hj=>.inl hj) (But.refl S1 H) cg;clear hL b0 o hY hH cf s b6 ht ai v
   repeat' first|simp only[go_sem,qQ, *]|apply bc<;>intro X
  |true=>
   have hv:pW c fs al t=(qz fs al).flatMap (mF c fs al t):=by unfold pW;rw[c4];rfl
   rw[hv]at v
   repeat' first|simp only[go_sem,qQ,cX, *]|apply bc<;>intro X|(refine zE.mono (ai _) ?_;rintro r h ⟨hq,rfl⟩)
   subst hq
   rename Heap=>H
   generalize J:LRec.mk .ready _ _ _ _ _ _=L2;have c2:L2.pending=none:=by rw[<-J]
   have c3:L2.st=.ready:=by rw[<-J]
   have K:=y.lcl λk2=>wp (qz fs al) (pW c fs al) k++wp (qz fs al) (mF c fs al t) k2;have cx:¬S1 m1/\¬S1 m2:=hw.2.2.2.1;obtain⟨l,hl⟩:∃l:List (Nat×Obj),l= [(m1,.map (kmD (D.int .i64) M)),(m2,.map (kvD O)),(h3.next,.row (kO t))]:=⟨_,rfl⟩;have V:∀p∈l,p.1<H.next/\H.at' p.1=some p.2/\¬S1 p.1:=by
    rw[hl];intro p R;simp only[zw,qt,pj]at R;rcases R with rfl|rfl|rfl
    ·exact⟨F.2.1,F.1.1,cx.1⟩
    ·exact⟨F.2.2,F.1.2,cx.2⟩
    ·exact⟨by rw[bx];omega,c6,λe=>wN _ (cm _ e)⟩
   have z:∀{h:Heap},(∀p∈l,p.1<h.next/\h.at' p.1=some p.2)->StH M O m1 m2 h/\h3.next<h.next/\h.at' h3.next=some (.row (kO t)):=by
    rw[hl];intro h R;have q1:=R (m1,.map (kmD (D.int .i64) M)) (by simp);have q2:=R (m2,.map (kvD O)) (by simp);have q3:=R (h3.next,.row (kO t)) (by simp);exact⟨⟨⟨q1.2,q2.2⟩,q1.1,q2.1⟩,q3⟩
   clear hl;refine⟨⟨_,bs⟩,oT (W:=WL l λk2=>Y (wp (qz fs al) (pW c fs al) k++wp (qz fs al) (mF c fs al t) k2)) (n:=(qz fs al).length) (el:=elT (qz fs al)) (S:=λj=>(∃p∈l,j=p.1)\/S1 j) bx (WL.lcl K) c3 c2 ?_ (λyl b4=>kZ o yl (λk S h ⟨_,_,S0,hk,_⟩=>(z hk.st).1) b4) ?_ ?_⟩
   ·exact WL.start (by rw[show wp (qz fs al) (mF c fs al t) 0= []from rfl,yL];exact cg) V
   ·intro k2 S3 h5 de bb cw c9 c1;obtain⟨r,hr⟩:∃r,(qz fs al)[k2]? =some r:=⟨_,zB de⟩;have db:(qz fs al).getD k2 (0,0,0)=r:=by rw[zC,hr];rfl
    obtain⟨r1,r2,r3,b,ad⟩:=fK (zg hr);simp only[elT,db];have A:=cw;rw[<-J]at A;have U:=QM r;refine uS.round (g:=Nc) mix A rfl kr kr kr ?_;simp only[go_sem,U];refine⟨by rw[zi ow];exact A,?_⟩;generalize ck:LRec.mk .busy _ _ _ _ _ _=B2;have a7:({ B2 with st:=.ready,pending:=none } :LRec)=L2:=by rw[<-ck,<-J]
    obtain⟨S4,H4,au,dt,b7,a0,a8,bk,I,q⟩:=Lp.openL K c9 bb c1 (.row (kO r)) B2;rw[au];clear au ck U;obtain⟨g1,g2,g3⟩:=z (h:=H4) λp R=>⟨by have:=(I p R).1;omega,(I p R).2⟩;have f:∀{fr:Frm}{G h7:Heap}{S5:Nat->Prop},G.at' (h3.next+1)=some (.loop B2)->But (λj=>j=h3.next+1) h5 G->(∀j,S5 j->S4 j\/G.next<=j)->But S4 G h7->Y (wp (qz fs al) (pW c fs al) k++wp (qz fs al) (mF c fs al t) (k2+1)) S5 h7->pL (LpK (h3.next+1) L2 (WL l λk2=>Y (wp (qz fs al) (pW c fs al) k++wp (qz fs al) (mF c fs al t) k2)) k2 S3 h5) (h3.next+1) .normal fr h7:=λa1 a2 a3 a4 a5=>Lp.callL K a7 bb c1 q a1 a2 a3 a4 a5
    rw[rI hr]at f;have b1:=tP hx p1;have b2:=tP hx r1;have b3:=tP hx r2;have o1:(kO r)[0]? =some (.int .i64 (r.1:Int)):=rfl;have o2:(kO r)[1]? =some (.int .i64 (r.2.1:Int)):=rfl;have o3:(kO r)[2]? =some (.int .i64 (r.2.2:Int)):=rfl;have w1:uU fs t.1=fs[t.1].comp:=by simp[uU,p1]
    have w2:uU fs r.1=fs[r.1].comp:=by simp[uU,r1]
    have w3:ng fs r.2.1=fs[r.2.1].rel:=by simp[ng,r2]
    have k5:fs[t.1].cells[1]? =some (.str fs[t.1].comp):=rfl;have k6:fs[r.1].cells[1]? =some (.str fs[r.1].comp):=rfl;have k7:fs[r.2.1].cells[3]? =some (.int .i64 fs[r.2.1].rel):=rfl;rw[<-w1]at k5;rw[<-w2]at k6;rw[<-w3]at k7;clear w1 w2 w3;have c8:(wp (qz fs al) (pW c fs al) k++wp (qz fs al) (mF c fs al t) k2).length<16777216:=by
     have q1:(wp (qz fs al) (pW c fs al) k).length<=k*4096:=by
      have:=sL (m:=4096) (l:=(qz fs al).take k) λt _=>Wr c hn al t;rw[yR]at this;exact zf this (yv _ (Nat.min_le_left _ _))
     have q2:(wp (qz fs al) (mF c fs al t) k2).length<=k2*1:=by
      have:=sL (m:=1) (l:=(qz fs al).take k2) λr _=>Wq c fs al t r;rw[yR]at this;exact zf this (yv _ (Nat.min_le_left _ _))
     rw[zR];omega
    have N:=λS h hy=>y.go _ S h [(t.1:Int),(r.1:Int),(t.2.1:Int),(r.2.1:Int),(t.2.2:Int)] .full hy c8 (by simp) (by simp) (by
     intro n hn;simp only[zw,qt,pj]at hn;rcases hn with rfl|rfl|rfl|rfl|rfl<;>exact PL ow)
    simp only[yc,yE]at N;have u:=bs5 (t.1:Int) (r.1:Int) (t.2.1:Int) (r.2.1:Int) (t.2.2:Int);have P:=Ud o g1.1.1 p1 false;rw[Z]at P;replace P:uY prog 208 (.map m1) (.int .i64 (t.1:Int)) false H4=some a.d:=P;have Q:=Ud o g1.1.1 r1 false;rw[ad]at Q;replace Q:uY prog 208 (.map m1) (.int .i64 (r.1:Int)) false H4=some b.d:=Q;have c7:Zx al r.1=b.ts:=by simp[Zx,ad]
    have cs:mF c fs al t r=if(!(Wg fs t r)&&zAT c a.ts b.ts)=true then [[(t.1:Int),(r.1:Int),(t.2.1:Int),(r.2.1:Int),(t.2.2:Int)]]else []:=by unfold mF;rw[ds,c7]
    rw[cs]at f;have ag:=Kz (rest:=[x,.map m1,.map m2]) X sm (o.alt _ _ Z) (o.alt _ _ ad) H4;obtain⟨q1,q2,_⟩:=yP (o.alt _ _ Z).sl;obtain⟨q3,q4,_⟩:=yP (o.alt _ _ ad).sl;have dv:h3.next<h5.next:=ow;clear hL b0 J a7 o hY hH cf s b6 ht ai cv di z V cw A c9 q I cg F v hv cs c8;generalize h3.next=n3 at *
    generalize h5.next=n5 at *
    refine qH Heap.emp [(0,.no,false),(9,.no,false),(1,.no,false),(2,.no,false),(3,.no,false),(4,.no,false),(5,.no,false),(6,.no,false),(7,.no,false),(8,.no,false),(10,.no,false),(11,.no,false),(12,.no,false),(13,.no,false),(14,.no,false),(15,.no,false),(16,.no,false),(17,.no,false),(18,.no,false),(19,.no,false)] kr kr (λi ob e=>by cases e) ?_
    repeat' first|simp only[go_sem,qQ, *]|apply bc<;>intro X
    refine fS (λC h'=>C 75=.bool (Wg fs t r)/\C 2=.iptr [.iptr [ca,cb,ce,cp,x,.map m1,.map m2] 0] 0/\C 3=.iptr [.fn (.func ff) [] cap] 0/\C 4=.ptr n3 0/\C 5=.ptr n5 0/\h'=H4) ?_ ?_
    ·refine yI kr ?_;unfold Wg;clear f N ag
     repeat' first|simp only[go_sem,qQ, *]|apply bc<;>intro X
    rintro C G ⟨ch,f2,f3,f4,f5,rfl⟩;clear b1 b2 b3 k5 k6 k7 a2 k3;cases cc:Wg fs t r with
    |true=>
     rw[cc,iq (by simp),yL]at f;rw[cc]at ch;have ak:=λfr=>f (fr:=fr) a0 a8 (λj hj=>.inl hj) (But.refl S4 G) bk;clear f N ag
     repeat' first|simp only[go_sem, *]|apply bc<;>intro X
    |false=>
     rw[cc]at f ch
     repeat' first|simp only[go_sem, *]|apply bc<;>intro X
     refine qH Heap.emp [(0,.no,false),(1,.no,false),(8,.no,false),(2,.no,false),(3,.no,false),(4,.no,false),(5,.no,false),(6,.no,false),(7,.no,false),(9,.no,false),(10,.no,false),(11,.no,false),(12,.no,false),(13,.no,false),(14,.no,false),(15,.no,false)] kr kr (λi ob e=>by cases e) ?_
     repeat' first|simp only[go_sem,qQ, *]|apply bc<;>intro X
     refine ag.mono ?_;rintro r' H5 ⟨E,rfl⟩;have b8:=(E.2 _ g2).trans g3;have b9:=(E.2 _ ow).trans b7;have a9:=a8.ext1 E;have a6:=(E.2 _ ow).trans a0;have bo:=y.ext bk E;cases hb:zAT c a.ts b.ts with
     |false=>
      rw[hb,iq (by decide),yL]at f;have ak:=λfr=>f (fr:=fr) a6 a9 (λj hj=>.inl hj) (But.refl S4 H5) bo;clear f N ag
      repeat' first|simp only[go_sem, *]|apply bc<;>intro X
     |true=>
      rw[hb,ip (by decide)]at f;simp only[go_sem,f2,f3,f4,f5,b8,b9,e1,e2,e3,o1,o2,o3,u];refine(N _ _ bo).mono ?_;rintro r h7 ⟨S5,T,u,q⟩;rw[qh]at q;exact f a6 a9 T u q
   ·intro S' h5 hs hb q;obtain⟨S5,T,u,da⟩:=WL.stop (λp R=>(V p R).2.1) (λj hj=>by rw[bx];exact hs j hj) hb q;rw[oW]at da;have ak:=λfr=>v (fr:=fr) bs cu T u da;simp only[go_sem];exact ak _
 ·intro S2 h5 hs hb hw;obtain⟨S5,T,u,q⟩:=WK.stop hH.1.1 hH.1.2 hs hb hw;rw[oW]at q;simp only[go_sem];exact⟨S5,T,u,q⟩
def Bm(g:Fac)(h:Heap):zE prog 289 [.agg g.cells] h λr h'=>h'=h/\r=.bool true:=by
 refine zu zFw ?_;simp only[f289,zA];exact au
def Bo(g:Fac)(h:Heap):zE prog 291 [.agg g.cells] h λr h'=>h'=h/\r=.bool true:=by
 refine zu zK6 ?_;simp only[f291,zA];exact au
def Bn(b:sc[4]? =some x)(c:yi 12 (mV fs) x){u:Nat}(a:u<fs.length)(g:Fac)(f:h.at' id=some (.row [.int .i64 (u:Int)])):
  zE prog 290 [.agg g.cells,.iptr [.iptr sc 0] 0,.ptr id 0] h λr h'=>h'=h/\r=.bool (g.out==uh fs u):=by
 have k1:fs[u].cells[2]? =some (.str fs[u].out):=rfl;have k2:g.cells[2]? =some (.str g.out):=rfl;have d:=tP c a;have j:uh fs u=fs[u].out:=by simp[uh,a]
 refine zu zFx ?_;simp only[f290,zA];simp only[go_sem, *];refine qH Heap.emp [(2,.no,false),(6,.no,false),(0,.no,false),(1,.no,false),(3,.no,false),(4,.no,false),(5,.no,false),(7,.no,false),(8,.no,false),(9,.no,false),(10,.no,false),(11,.no,false)] kr kr (λi k e=>by cases e) ?_;simp only[go_sem,qQ, *]
def Xa(fs:List Fac)(i:Nat):List (List UInt8):=match fs[i]? with
 |some f=>f.list
 |none=>[]
abbrev dO(fs:List Fac):List Nat:=fIx 3 (λ_=>true) fs
abbrev X8(fs:List Fac):List Nat:=fIx 2 (λ_=>true) fs
def Xi(i h:Nat):List (List Int):=[[(i:Int),(h:Int)]]
def kw(fs:List Fac)(O:KV)(i:Nat):List (List Int):=match pR (uh fs i) O with
 |none=>[]
 |some own=>if((Xa fs i).any λs=>s==own)=true then []else(kN fs i).flatMap (Xi i)
def Ry(b:fs.length<=24)(O:KV)(i:Nat):(kw fs O i).length<=24:=by
 unfold kw;split
 ·simp
 ·split
  ·simp
  ·have h1:=sL (m:=1) (l:=kN fs i) λh _=>(show(Xi i h).length<=1 from zD _)
   have a:(kN fs i).length<=fs.length:=sj _ fs 0;omega
theorem zCP{M:KM Int}{O:KV}{m1 m2:Nat}(hs:Stt c fs al M O sc m1 m2)(hn:fs.length<=24)
  {ff:FuncId} {Y:List (List Int)->(Nat->Prop)->Heap->Prop} (y:Fnd2 prog 5 ff cap Y) {w:Heap} (hY:Y [] S w) (hH:StH M O m1 m2 w) (n1:¬S m1) (n2:¬S m2):
  zE prog 231 [.iptr sc 0,.fn (.func ff) [] cap] w λ_ h'=>∃S',(∀i,S' i->S i\/w.next<=i)/\But S w h'/\Y ((dO fs).flatMap (kw fs O)) S' h':=by
 have X:=hs;obtain⟨⟨ca,cb,ce,cp,x,rfl,hc,hx,_⟩,sm,c9,c3,c8,halt⟩:=hs;have F:=λg=>aZ [ca,cb,ce,cp,x,.map m1,.map m2] 3 (hf:=.fn (.func 289) [] []) ⟨_,_,_,rfl⟩ g;refine zu zFg ?_;simp only[f231,zA]
 repeat' first|simp only[go_sem,ga, *]|apply bc<;>intro hc|(refine zE.mono (F _) ?_;rintro r h ⟨hq,rfl⟩)
 subst hq
 rename Heap=>w
 generalize hL:LRec.mk _ _ _ _ _ _ _=L;have c4:L.pending=none:=by rw[<-hL]
 have c5:L.st=.ready:=by rw[<-hL]
 have bb:=y.lcl λk=>wp (dO fs) (kw fs O) k;refine oT (W:=WK m1 (.map (kmD (D.int .i64) M)) m2 (.map (kvD O)) λk=>Y (wp (dO fs) (kw fs O) k)) (n:=(dO fs).length) (el:=elI (dO fs)) (S:=λj=>j=m1\/j=m2\/S j) rfl (WK.lcl bb) c5 c4 ?_ (λyl ba=>fZ (sc:=[ca,cb,ce,cp,x,.map m1,.map m2]) rfl hx ow X.ok yl (R:=λj=>False) (λ_ h=>h.elim) (λg hg h2 hr=>Bm g h2) ba) ?_ ?_
 ·exact WK.start hY hH.2.1 hH.2.2 hH.1.1 hH.1.2 n1 n2
 ·intro k S0 h3 hk ag bs bx cg;obtain⟨t,ht⟩:∃t,(dO fs)[k]? =some t:=⟨_,zB hk⟩;have cx:(dO fs).getD k 0=t:=by rw[zC,ht];rfl
  have p1:t<fs.length:=by
   have:=(p4 _ fs 0 t (zg ht)).2;omega
  simp only[elI,cx];have b:=bs;rw[<-hL]at b;have a0:yX prog 3 (.ptr h3.next 0) (.int .i64 (t:Int)) (h3.new h3.next (.row [.int .i64 0]))=some (h3.new h3.next (.row [.int .i64 (t:Int)])):=by
   rw[yU (z8 _ _ _) sI (by simp) rfl rfl,gq];rfl
  refine uS.round (g:=Nf) mix b rfl kr kr kr ?_;simp only[go_sem,a0];refine⟨by rw[zi ow];exact b,?_⟩;generalize hB:LRec.mk .busy _ _ _ _ _ _=B;have a9:({ B with st:=.ready,pending:=none } :LRec)=L:=by rw[<-hB,<-hL]
  obtain⟨S1,H,b2,a8,P,a7,b8,Z,a6,hw⟩:=Lp.open bb bx ag cg (.row [.int .i64 (t:Int)]) B;rw[b2];clear a0 b2 hB;have b7:∀j,S1 j->j<h3.next:=λj hj=>y.here _ _ _ hw.1 j hj;have b1:=tP hx p1;have ck:uh fs t=fs[t].out:=by simp[uh,p1]
  have cf:Xa fs t=fs[t].list:=by simp[Xa,p1]
  have q:∀{fr:Frm}{G h7:Heap}{S5:Nat->Prop},G.at' w.next=some (.loop B)->But (λj=>j=w.next) h3 G->(∀j,S5 j->S1 j\/G.next<=j)->But S1 G h7->Y (wp (dO fs) (kw fs O) (k+1)) S5 h7->pL (LpK w.next L (WK m1 (.map (kmD (D.int .i64) M)) m2 (.map (kvD O)) λk=>Y (wp (dO fs) (kw fs O) k)) k S0 h3) w.next .normal fr h7:=λa1 a2 a3 a4 a5=>Lp.call bb a9 ag cg hw a1 a2 a3 a4 a5;rw[rI ht]at q;have k1:fs[t].cells[2]? =some (.str fs[t].out):=rfl;have k2:fs[t].cells[8]? =some (.int .i64 0)\/True:=.inr trivial;have k8:fs[t].cells[11]? =some fs[t].d:=rfl;have b0:=c3 _ (zH p1);have bk:=jQ b0.list b0.ll
  obtain⟨q1,q2,_⟩:=yP b0.list;have u:=Jx a6.1.2 (uh fs t) true;have o:kw fs O t=match pR (uh fs t) O with
   |none=>[]
   |some own=>if(fs[t].list.any λs=>s==own)=true then []else(kN fs t).flatMap (Xi t):=by unfold kw;rw[cf]
  rw[<-ck]at k1;clear ck cf k2;generalize fs[t]=f at *
  refine qH Heap.emp [(0,.no,false),(4,.no,false),(8,.no,false),(1,.no,false),(2,.no,false),(3,.no,false),(5,.no,false),(6,.no,false),(7,.no,false),(9,.no,false),(10,.no,false),(11,.no,false),(12,.no,false),(13,.no,false),(14,.no,false),(15,.no,false),(16,.no,false),(17,.no,false)] kr kr (λi ob e=>by cases e) ?_;have a:kw fs O t= []->∀fr,pL (LpK w.next L (WK m1 (.map (kmD (D.int .i64) M)) m2 (.map (kvD O)) λk=>Y (wp (dO fs) (kw fs O) k)) k S0 h3) w.next .normal fr H:=λe fr=>by
   rw[e,yL]at q;exact q a7 b8 (λj hj=>.inl hj) (But.refl S1 H) Z
  cases N:pR (uh fs t) O with
  |none=>
   rw[N]at u o;replace u:uY prog 209 (.map m2) (.str (uh fs t)) true H=some (.tuple [.str [],.bool false]):=u;have bo:=a o;clear hL a9 X hY hH bx b bs ht F q a o N Z a6
   repeat' first|simp only[go_sem,qQ, *]|apply bc<;>intro
   refine qH Heap.emp [(0,.no,false),(1,.no,false),(2,.no,false),(3,.no,false),(7,.no,false),(4,.no,false),(5,.no,false),(6,.no,false),(8,.no,false),(9,.no,false),(10,.no,false),(11,.no,false),(12,.no,false),(13,.no,false)] kr kr (λi ob e=>by cases e) ?_
   repeat' first|simp only[go_sem,qQ, *]|apply bc<;>intro hc
  |some own=>
   rw[N]at u o;replace u:uY prog 209 (.map m2) (.str (uh fs t)) true H=some (.tuple [.str own,.bool true]):=u;cases J:f.list.any λs=>s==own with
   |true=>
    have bo:=a (by rw[o];simp only[J,qS]);clear hL a9 X hY hH bx b bs ht F q a o N Z a6;have E:=bk own H;rw[J]at E
    repeat' first|simp only[go_sem,qQ, *]|apply bc<;>intro
    refine qH Heap.emp [(0,.no,false),(1,.no,false),(2,.no,false),(3,.no,false),(7,.no,false),(4,.no,false),(5,.no,false),(6,.no,false),(8,.no,false),(9,.no,false),(10,.no,false),(11,.no,false),(12,.no,false),(13,.no,false)] kr kr (λi ob e=>by cases e) ?_
    repeat' first|simp only[go_sem,qQ, *]|apply bc<;>intro hc|(refine zE.mono E ?_;rintro r h ⟨hq,rfl⟩)
   |false=>
    have ak:kw fs O t=(kN fs t).flatMap (Xi t):=by rw[o];simp only[J,zl,yy]
    rw[ak]at q;have E:=bk own H;rw[J]at E;clear a o ak N bk J;have cw:=λg=>aZ [ca,cb,ce,cp,x,.map m1,.map m2] 2 (hf:=.fn (.func 290) [] [.iptr [.iptr [ca,cb,ce,cp,x,.map m1,.map m2] 0] 0,.ptr h3.next 0]) ⟨_,_,_,rfl⟩ g
    repeat' first|simp only[go_sem,qQ, *]|apply bc<;>intro
    refine qH Heap.emp [(0,.no,false),(1,.no,false),(2,.no,false),(3,.no,false),(7,.no,false),(4,.no,false),(5,.no,false),(6,.no,false),(8,.no,false),(9,.no,false),(10,.no,false),(11,.no,false),(12,.no,false),(13,.no,false)] kr kr (λi ob e=>by cases e) ?_
    repeat' first|simp only[go_sem,qQ, *]|apply bc<;>intro hc|(refine zE.mono E ?_;rintro r h ⟨hq,rfl⟩)
    subst hq
    rename Heap=>H
    repeat' first|simp only[go_sem,ga, *]|apply bc<;>intro hc|(refine zE.mono (cw _) ?_;rintro r h ⟨hq,rfl⟩)
    subst hq
    rename Heap=>H
    generalize U:LRec.mk .ready _ _ _ _ _ _=L2;have cl:L2.pending=none:=by rw[<-U]
    have cm:L2.st=.ready:=by rw[<-U]
    have A:=y.lcl λk2=>wp (dO fs) (kw fs O) k++wp (kN fs t) (Xi t) k2;obtain⟨l,hl⟩:∃l:List (Nat×Obj),l= [(h3.next,.row [.int .i64 (t:Int)])]:=⟨_,rfl⟩;have au:∀p∈l,p.1<H.next/\H.at' p.1=some p.2/\¬S1 p.1:=by
     rw[hl];intro p hp;cases ze.1 hp;exact⟨by rw[a8];omega,P,λe=>wN _ (b7 _ e)⟩
    have I:∀{h:Heap},(∀p∈l,p.1<h.next/\h.at' p.1=some p.2)->h3.next<h.next/\h.at' h3.next=some (.row [.int .i64 (t:Int)]):=by
     rw[hl];exact λhp=>hp (h3.next,.row [.int .i64 (t:Int)]) (by simp)
    clear hl;refine⟨⟨_,a7⟩,oT (W:=WL l λk2=>Y (wp (dO fs) (kw fs O) k++wp (kN fs t) (Xi t) k2)) (n:=(kN fs t).length) (el:=elI (kN fs t)) (S:=λj=>(∃p∈l,j=p.1)\/S1 j) a8 (WL.lcl A) cm cl ?_ (λyl ba=>fZ (sc:=[ca,cb,ce,cp,x,.map m1,.map m2]) rfl hx ow X.ok yl (R:=λj=>j=h3.next) ?_ (λg hg h2 hr=> ?_) ba) ?_ ?_⟩
    ·exact WL.start (by rw[show wp (kN fs t) (Xi t) 0= []from rfl,yL];exact Z) au
    ·rintro j rfl;refine⟨by rw[qL _ ow];omega,.inr ?_⟩;rintro k S2 h2 ⟨_,_,S0,hk,_⟩;rw[(I hk.st).2,zi ow,P]
    ·exact(Bn (sc:=[ca,cb,ce,cp,x,.map m1,.map m2]) rfl hx p1 g (by rw[hr _ rfl,zi ow,P])).mono λr h3 e=>e
    ·intro k2 S3 h5 c1 ai c2 c7 ch;obtain⟨v,hv⟩:∃v,(kN fs t)[k2]? =some v:=⟨_,zB c1⟩;have c0:(kN fs t).getD k2 0=v:=by rw[zC,hv];rfl
     have da:v<fs.length:=by
      have:=(p4 _ fs 0 v (zg hv)).2;omega
     simp only[elI,c0];have K:=c2;rw[<-U]at K;refine uS.round (g:=Nf) mix K rfl kr kr kr ?_;simp only[go_sem];refine⟨K,?_⟩;generalize cu:LRec.mk .busy _ _ _ _ _ _=B2;have b6:({ B2 with st:=.ready,pending:=none } :LRec)=L2:=by rw[<-cu,<-U]
     obtain⟨S4,H4,b3,b5,b4,b9,cs,ad,z⟩:=Lp.openL0 A c7 ai ch B2;rw[b3];obtain⟨g2,g3⟩:=I (h:=H4) λp hp=>⟨by rw[b5];exact(ad p hp).1,(ad p hp).2⟩;have c6:(wp (dO fs) (kw fs O) k++wp (kN fs t) (Xi t) k2).length<16777216:=by
      have q1:=ju (V:=kw fs O) (l:=dO fs) (m:=24) (λt _=>Ry hn O t) k;have q2:=ju (V:=Xi t) (l:=kN fs t) (m:=1) (λk _=>zD _) k2;have q3:(kN fs t).length<=fs.length:=sj _ fs 0;have q4:(dO fs).length<=fs.length:=sj _ fs 0;rw[zR];omega
     have cc:=y.go _ S4 H4 [(t:Int),(v:Int)] .full cs c6 (by simp) (by simp) (by
      intro n hn;simp only[zw,qt,pj]at hn;rcases hn with rfl|rfl<;>exact PL ow)
     simp only[yc,yE]at cc;have cv:=bs2 (t:Int) (v:Int);simp only[go_sem,cv,g3];refine cc.mono ?_;rintro r h7 ⟨S5,Q,C,T⟩;rw[qh]at T;refine Lp.callL A b6 ai ch z b4 b9 Q C ?_;rw[rI hv];exact T
    ·intro S' h5 hs hb z;obtain⟨S5,Q,C,T⟩:=WL.stop (λp hp=>(au p hp).2.1) (λj hj=>by rw[a8];exact hs j hj) hb z;rw[oW]at T;have bo:=λfr=>q (fr:=fr) a7 b8 Q C T;simp only[go_sem];exact bo _
 ·intro S2 h5 hs hb hw;obtain⟨S5,Q,C,z⟩:=WK.stop hH.1.1 hH.1.2 hs hb hw;rw[oW]at z;simp only[go_sem];exact⟨S5,Q,C,z⟩
def R0(h:Nat):List (List Int):=[[(h:Int)]]
def Xj(c:Cat)(fs:List Fac):List (List Int):=if decide ((c.ls.length:Int)>0)=true then []else(X8 fs).flatMap R0
def zCQ{M:KM Int}{O:KV}{m1 m2:Nat}(C:Stt c fs al M O sc m1 m2)(hn:fs.length<=24)
  {ff:FuncId} {Y:List (List Int)->(Nat->Prop)->Heap->Prop} (y:Fnd2 prog 5 ff cap Y) {w:Heap} (hY:Y [] S w) (hH:StH M O m1 m2 w) (n1:¬S m1) (n2:¬S m2):
  zE prog 232 [.iptr sc 0,.fn (.func ff) [] cap] w λ_ h'=>∃S',(∀i,S' i->S i\/w.next<=i)/\But S w h'/\Y (Xj c fs) S' h':=by
 have X:=C;obtain⟨⟨ca,cb,ce,cp,x,rfl,hc,hx,K⟩,sm,a0,a5,au,halt⟩:=C;have a4:=rS K;have d:=λg=>aZ [ca,cb,ce,cp,x,.map m1,.map m2] 2 (hf:=.fn (.func 291) [] []) ⟨_,_,_,rfl⟩ g;refine zu zFh ?_;simp only[f232,zA];cases hd:decide ((c.ls.length:Int)>0)with
 |true=>
  have b:Xj c fs= []:=by unfold Xj;rw[hd];rfl
  have a3:∃S',(∀i,S' i->S i\/w.next<=i)/\But S w w/\Y (Xj c fs) S' w:=⟨S,λi hi=>.inl hi,But.refl S w,by rw[b];exact hY⟩;clear b d
  repeat' first|simp only[go_sem,qQ, *]|apply bc<;>intro hc
 |false=>
  have b:Xj c fs=(X8 fs).flatMap R0:=by unfold Xj;rw[hd];rfl
  rw[b];clear b
  repeat' first|simp only[go_sem,qQ,ga, *]|apply bc<;>intro hc|(refine zE.mono (d _) ?_;rintro r h ⟨hq,rfl⟩)
  subst hq
  rename Heap=>w
  generalize A:LRec.mk _ _ _ _ _ _ _=L;have T:L.pending=none:=by rw[<-A]
  have U:L.st=.ready:=by rw[<-A]
  have o:=y.lcl λk=>wp (X8 fs) R0 k;obtain⟨l,hl⟩:∃l:List (Nat×Obj),l= []:=⟨_,rfl⟩;have f:∀p∈l,p.1<w.next/\w.at' p.1=some p.2/\¬S p.1:=by rw[hl];intro p Q;cases Q
  clear hl;refine oT (W:=WL l λk=>Y (wp (X8 fs) R0 k)) (n:=(X8 fs).length) (el:=elI (X8 fs)) (S:=λj=>(∃p∈l,j=p.1)\/S j) rfl (WL.lcl o) U T (WL.start hY f) (λyl G=>fZ (sc:=[ca,cb,ce,cp,x,.map m1,.map m2]) rfl hx ow X.ok yl (R:=λj=>False) (λ_ h=>h.elim) (λg hg h2 hr=>Bo g h2) G) ?_ ?_
  ·intro k S0 h3 hk e P ag v;obtain⟨t,Z⟩:∃t,(X8 fs)[k]? =some t:=⟨_,zB hk⟩;have N:(X8 fs).getD k 0=t:=by rw[zC,Z];rfl
   have p1:t<fs.length:=by
    have:=(p4 _ fs 0 t (zg Z)).2;omega
   simp only[elI,N];have a:=P;rw[<-A]at a;refine uS.round (g:=JK) mix a rfl kr kr kr ?_;simp only[go_sem];refine⟨a,?_⟩;generalize hB:LRec.mk .busy _ _ _ _ _ _=B;have F:({ B with st:=.ready,pending:=none } :LRec)=L:=by rw[<-hB,<-A]
   obtain⟨S1,H,D,a2,E,J,ak,a1,hw⟩:=Lp.openL0 o ag e v B;rw[D];have ad:(wp (X8 fs) R0 k).length<16777216:=by
    have q2:=ju (V:=R0) (l:=X8 fs) (m:=1) (λk _=>zD _) k;have q3:(X8 fs).length<=fs.length:=sj _ fs 0;omega
   have u:=y.go _ S1 H [(t:Int)] .full ak ad (by simp) (by simp) (by
    intro n hn;cases ze.1 hn;exact PL ow)
   simp only[yc,yE]at u;have I:=bs1 (t:Int);simp only[go_sem,I];refine u.mono ?_;rintro r h7 ⟨S5,s,q,ai⟩;refine Lp.callL o F e v hw E J s q ?_;rw[rI Z];exact ai
  ·intro S2 h5 C hb hw;obtain⟨S5,s,q,z⟩:=WL.stop (λp Q=>(f p Q).2.1) C hb hw;rw[oW]at z;simp only[go_sem];exact⟨S5,s,q,z⟩
end Go.V
