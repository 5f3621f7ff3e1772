/- Rules of the machine of abstract values, part 11. No condition. -/
import Derived.Test.YtkenagjlanhnmaaGreatDoorW34
set_option linter.all false
set_option maxHeartbeats 8000000
namespace Go.V
abbrev KM(κ:Type):=List (κ×D)
def kmD{κ:Type}(enc:κ->D)(m:KM κ):List (D×D):=m.map λp=>(enc p.1,p.2)
def gS{κ:Type}[BEq κ](k:κ):KM κ->Option D
 | []=>none
 |(k',v)::m=>if k==k' then some v else gS k m
def d9{κ:Type}[BEq κ](k:κ)(v:D):KM κ->KM κ
 | []=>[(k,v)]
 |(k',v')::m=>if k==k' then(k,v)::m else(k',v')::d9 k v m
structure KEnc{κ:Type}[BEq κ](enc:κ->D)(ag:Bool)(ks:List Kd):Prop where
 eq:∀a b,eqK ks (enc a).cells (enc b).cells=some (a==b)
 shape:∀a,yz ag (enc a)=true
section
variable{κ:Type}[BEq κ]{enc:κ->D}{ag:Bool}{ks:List Kd}(E:KEnc enc ag ks)
include E
theorem Tm(k:κ):∀m:KM κ,kQ ks (enc k) (kmD enc m)=some (gS k m)
 | []=>rfl
 |(k',v)::m=>by
  have a:=Tm k m;show(match eqK ks (enc k).cells (enc k').cells with|some true=>some (some v)|some false=>kQ ks (enc k) (kmD enc m)|none=>none)=_
  rw[E.eq];cases h:(k==k')with
  |true=>simp[gS,h]
  |false=>simp only[gS,h,a];rfl
theorem Hh(k:κ)(v:D):∀m:KM κ,LY ks (enc k) v (kmD enc m)=some (kmD enc (d9 k v m))
 | []=>rfl
 |(k',b)::m=>by
  have a:=Hh k v m;show(match eqK ks (enc k).cells (enc k').cells with|some true=>some ((enc k,v)::kmD enc m)|some false=>(LY ks (enc k) v (kmD enc m)).map ((enc k',b):: ·)|none=>none)=_
  rw[E.eq];cases h:(k==k')with
  |true=>simp[d9,h,kmD]
  |false=>simp only[d9,h,a];rfl
def Qr(m:KM κ):(kmD enc m).all (λx=>yz ag x.1)=true:=by
 rw[zb];intro x a;obtain⟨p,_,rfl⟩:=zN.1 a;exact E.shape _
omit E in
theorem WI [LawfulBEq κ](k k':κ)(v:D):∀m:KM κ,gS k (d9 k' v m)=if k==k' then some v else gS k m
 | []=>by simp[d9,gS]
 |(k2,c)::m=>by
  have b:=WI k k' v m;simp only[d9];by_cases h:k'=k2
  .subst h
   simp only[po,qK,gS];by_cases g:k=k'
   .subst g;simp
   .simp[g]
  .have a:(k'==k2)=false:=by simp[h]
   simp only[a,zf,yr,gS,b];by_cases g:k=k2
   .subst g
    have:(k==k')=false:=by simp;exact λe=>h e.symm
    simp[this]
   .simp[g]
variable{P:Program}{t kt e:TypeId}{z:D}{id:Nat}{h:Heap}{m:KM κ}
def Ut(a:h.at' id=some (.map (kmD enc m)))(c:No P t=some (kt,e))(b:LH P kt=some (ag,ks))(d:uw P e=some z)(k:κ)(hr:(k==k)=true)(ok:Bool):
  uW P t (.map id) (enc k) ok h=some (gO ok z (gS k m)):=by
 simp only[uW,c,b,d,VZ,a,fw,Qr E,E.eq,E.shape,Tm E,sF,wt,qK]
def ZK(a:h.at' id=some (.map (kmD enc m)))(c:No P t=some (kt,e))(b:LH P kt=some (ag,ks))(k:κ)(v:D):
  uH P t (.map id) (enc k) v h=some (h.set id (.map (kmD enc (d9 k v m)))):=by
 simp only[uH,c,b,a,Qr E,E.eq,E.shape,Tm E,Hh E,sF,wt,qK]
end
def Et:KEnc (λi:Int=>D.int .i64 i) false [.i]:=
 ⟨λa b=>by show(if IntKind.i64=IntKind.i64 then(eqK [] [] []).map (a==b&& ·)else none)=_;simp[eqK],λ_=>rfl⟩
structure Fnd2(P:Program)(mx:Nat)(f:FuncId)(cap:List D)(Y:List (List Int)->(Nat->Prop)->Heap->Prop):Prop where
 here:∀ks S h,Y ks S h->∀i,S i->i<h.next
 loc:∀ks S h h',Y ks S h->h.next<=h'.next->(∀i,S i->h'.at' i=h.at' i)->Y ks S h'
 go:∀ks S h l tk,Y ks S h->ks.length<16777216->0<l.length->l.length<=mx->(∀n∈l,fits .i64 n)->zE P f ([]++ [.sl 1 (wC l) tk]++cap) h λ_ h'=>∃S',(∀i,S' i->S i\/h.next<=i)/\But S h h'/\Y (ks++ [l]) S' h'
variable{P:Program}{f:FuncId}{cap sc:List D}{S:Nat->Prop}{h h' h0 g:Heap}{t:TypeId}{fr:Frm}{c:Cat}{fs:List Fac}{al:Nat->Option Alt}{i id k:Nat}{x d:D}{α β:Type}{N:Int}
def Fnd2.lcl{mx:Nat}{Y:List (List Int)->(Nat->Prop)->Heap->Prop}(y:Fnd2 P mx f cap Y)(els:Nat->List (List Int)):Lcl λk=>Y (els k):=
 ⟨λk=>y.here (els k),λk=>y.loc (els k)⟩
def Fnd2.ext{mx:Nat}{Y:List (List Int)->(Nat->Prop)->Heap->Prop}(y:Fnd2 P mx f cap Y){ks:List (List Int)}(b:Y ks S h)(a:Ext h h'):Y ks S h':=
 y.loc ks S h h' b a.1 λi c=>a.2 i (y.here ks S h b i c)
section
variable{W:Nat->(Nat->Prop)->Heap->Prop}{id m1 m2 k:Nat}{o1 o2:Obj}{L B:LRec}{h3 H h5:Heap}{S0 S1 S5:Nat->Prop}{fr:Frm}
def Lcl.round(d:Lcl W)(g:W k S1 h3)(b:∀i,S1 i->S0 i)(c:¬S0 id)(a:But (λi=>i=id) h3 H):W k S1 H:=
 d.loc _ _ _ _ g a.1 λi f=>a.2 i (d.here _ _ _ g i f) λe=>c (by rw[<-e];exact b i f)
def Lp.call(v:Lcl W)(m:({ B with st:=.ready,pending:=none } :LRec)=L)(h:id<h3.next)(d:¬S0 id)(n:W k S1 h3/\(m1<h3.next/\m2<h3.next)/\(h3.at' m1=some o1/\h3.at' m2=some o2)/\(¬S1 m1/\¬S1 m2)/\∀i,S0 i↔(i=m1\/i=m2\/S1 i))
  (l:H.at' id=some (.loop B)) (c:But (λi=>i=id) h3 H) (f:∀j,S5 j->S1 j\/H.next<=j) (b:But S1 H h5) (x:W (k+1) S5 h5):
  rH (LpK id L (WK m1 o1 m2 o2 W) k S0 h3) id .normal fr h5:=by
 obtain⟨_,⟨C,D⟩,⟨t,u⟩,⟨r,s⟩,a⟩:=n;have w:=c.1;have o:=b.1;have y:m1≠id:=λe=>d (by rw[<-e];exact(a _).2 (.inl rfl));have z:m2≠id:=λe=>d (by rw[<-e];exact(a _).2 (.inr (.inl rfl)));have A:¬S1 id:=λe=>d ((a _).2 (.inr (.inr e)));refine Lp.fin (WK.lcl v) m h d (S':=λi=>i=m1\/i=m2\/S5 i) ?_ (λi g=> ?_) ⟨ow,λi g p=> ?_⟩ ⟨S5,x,⟨ow,ow⟩,⟨?_,?_⟩,⟨λe=> ?_,λe=> ?_⟩,λi=>Iff.rfl⟩
 .rw[b.2 _ ow A];exact l
 .rcases g with rfl|rfl|g
  .exact .inl ((a _).2 (.inl rfl))
  .exact .inl ((a _).2 (.inr (.inl rfl)))
  .exact(f i g).imp (λq=>(a _).2 (.inr (.inr q))) λq=>by omega
 .rw[b.2 i ow λe=>p (.inr ((a _).2 (.inr (.inr e)))),c.2 i g λe=>p (.inl e)]
 .rw[b.2 _ ow r,c.2 _ C y];exact t
 .rw[b.2 _ ow s,c.2 _ D z];exact u
 .rcases f _ e with q|q
  .exact r q
  .omega
 .rcases f _ e with q|q
  .exact s q
  .omega
def Lp.open(m:Lcl W)(f:WK m1 o1 m2 o2 W k S0 h3)(hid:id<h3.next)(b:¬S0 id)(o:Obj)(B:LRec):
  ∃S1 H,(h3.new h3.next o).set id (.loop B)=H/\H.next=h3.next+1/\H.at' h3.next=some o/\H.at' id=some (.loop B)/\But (λj=>j=id) h3 H/\W k S1 H/\((H.at' m1=some o1/\H.at' m2=some o2)/\(m1<H.next/\m2<H.next))/\
   (W k S1 h3/\(m1<h3.next/\m2<h3.next)/\(h3.at' m1=some o1/\h3.at' m2=some o2)/\(¬S1 m1/\¬S1 m2)/\∀i,S0 i↔(i=m1\/i=m2\/S1 i)):=by
 obtain⟨S1,g,⟨h,l⟩,⟨e1,e2⟩,⟨s,t⟩,a⟩:=f;have q:m1≠id:=λe=>b (by rw[<-e];exact(a _).2 (.inl rfl));have r:m2≠id:=λe=>b (by rw[<-e];exact(a _).2 (.inr (.inl rfl)));have d:((h3.new h3.next o).set id (.loop B)).next=h3.next+1:=by rw[yc,za]
 have c:But (λj=>j=id) h3 ((h3.new h3.next o).set id (.loop B)):=⟨ow,λj u p=>by rw[zW p,zg ow]⟩;exact⟨S1,_,rfl,d,by rw[zW ow,z5],zU _ _ _,c,Lcl.round m g (λi n=>(a _).2 (.inr (.inr n))) b c,⟨⟨by rw[c.2 _ h q];exact e1,by rw[c.2 _ l r];exact e2⟩,ow,ow⟩,g,⟨h,l⟩,⟨e1,e2⟩,⟨s,t⟩,a⟩
def But.ext1{a b c:Heap}(d:But S a b)(e:Ext b c):But S a c:=d.trans (e.but S) λi f=>.inl f
def Heap.low(H:Heap):∃h0,HLe h0 H/\(∀o,HLe h0 (H.new H.next o))/\∀i,i<H.next->h0.at' i=H.at' i:=
 ⟨⟨H.next,λi=>if i=H.next then none else H.at' i⟩,λi b e=>by
   simp only at e;split at e
   .cases e
   .exact e,λo i b e=>by
   simp only at e;split at e
   .cases e
   .rename_i a;rw[zg a];exact e,λi a=>by
   simp only;rw[iq ow]⟩
end
def zIP(P:Program)(h0:Heap)(t:TypeId)(m k:D)(ok:Bool)(K:D->Prop):Prop:=∃d,(∀h',HLe h0 h'->onS (uW P t m k ok h') λd'=>d'=d/\h'=h')/\K d
@[congr] theorem zDA{m m' k k':D}{ok:Bool}{K:D->Prop}(hf:m=m')(ha:k=k'):zIP P h0 t m k ok K=zIP P h0 t m' k' ok K:=by rw[hf,ha]
variable{fr:Frm}{id k:Nat}
@[go_sem ↓] def DU(t:TypeId)(a b:Operand)(ok:Bool)(K:D->Prop):W4 P h0 (.lookup t a b ok) (qz fr) K=zIP P h0 t (qz fr a) (qz fr b) ok K:=by
 unfold W4 zIP Fg;simp only[go_sem]
def Hr{m k:D}{ok:Bool}{K:D->Prop}(d:D)(c:uW P t m k ok h0=some d)(b:K d):zIP P h0 t m k ok K:=
 ⟨d,λh' a=>by rw[Uv a c];exact⟨rfl,rfl⟩,b⟩
open Go.Proofs.Tryz
open Go.Proofs
set_option maxRecDepth 100000
structure Stt(c:Cat)(fs:List Fac)(al:Nat->Option Alt)(M:KM Int)(O:KV)(sc:List D)(m1 m2:Nat):Prop where
 sc:∃a b e p x,sc= [a,b,e,p,x,.map m1,.map m2]/\uL c (.agg [a,b,e,p])/\yg 12 (nu fs) x/\yg 4 (gU c.ls) a
 sm:c.Sm
 len:fs.length<=256
 ok:∀f∈fs,f.Ok
 get:∀i,i<fs.length->gS (i:Int) M=(al i).map Alt.d
 alt:∀i a,al i=some a->a.Ok
def StH(M:KM Int)(O:KV)(m1 m2:Nat)(h:Heap):Prop:=
 (h.at' m1=some (.map (kmD (D.int .i64) M))/\h.at' m2=some (.map (kvD O)))/\(m1<h.next/\m2<h.next)
def StH.ext{M:KM Int}{O:KV}{m1 m2:Nat}(s:StH M O m1 m2 h)(e:Ext h h'):StH M O m1 m2 h':=by
 obtain⟨⟨a,b⟩,c,d⟩:=s;have:=e.1;exact⟨⟨by rw[e.2 _ c];exact a,by rw[e.2 _ d];exact b⟩,ow,ow⟩
def Th{M:KM Int}{O:KV}{m1 m2:Nat}(e:Stt c fs al M O sc m1 m2)(a:h.at' m1=some (.map (kmD (D.int .i64) M)))(b:i<fs.length)(ok:Bool):
  uW prog 208 (.map m1) (.int .i64 (i:Int)) ok h=some (gO ok .nilsl ((al i).map Alt.d)):=by
 rw[<-e.get i b];exact Ut Et a LR LI dF (i:Int) jS ok
def Hc{O:KV}{m2:Nat}(a:h.at' m2=some (.map (kvD O)))(s:List UInt8)(ok:Bool):
  uW prog 209 (.map m2) (.str s) ok h=some (gO ok (.str []) ((pV s O).map .str)):=
 Jm a LS Qo dG s ok
abbrev Tri:=Nat×Nat×Nat
def sg(fs:List Fac)(i:Nat):List UInt8:=match fs[i]? with
 |some f=>f.comp
 |none=>[]
def tW(fs:List Fac)(i:Nat):List UInt8:=match fs[i]? with
 |some f=>f.out
 |none=>[]
def KG(fs:List Fac)(i u:Nat):List Tri:=(fIx 2 (λg=>g.out==tW fs u) fs).map λh=>(i,u,h)
def KF(fs:List Fac)(al:Nat->Option Alt)(i:Nat):List Tri:=if(al i).isSome=true then(fIx 0 (λg=>g.comp==sg fs i) fs).flatMap (KG fs i)else []
def qx(fs:List Fac)(al:Nat->Option Alt):List Tri:=(List.range fs.length).flatMap (KF fs al)
def kW(t:Tri):List D:=[.int .i64 (t.1:Int),.int .i64 (t.2.1:Int),.int .i64 (t.2.2:Int)]
abbrev elT(l:List Tri)(k:Nat):List D:=[.agg (kW (l.getD k (0,0,0)))]
def bY(sc:List D):D:=.fn (.func 361) [] [.iptr [.iptr sc 0] 0]
def br(sc:List D)(h:Heap):zE prog 282 [.iptr sc 0] h λr h'=>h'=h/\r=bY sc:=by
 refine zo zHn ?_;simp only[f282,zA];simp only[go_sem,bY]
def zEK(f g:Fac)(a:h.at' id=some (.row f.cells)):zE prog 362 [.agg g.cells,.ptr id 0] h λr h'=>h'=h/\r=.bool (g.comp==f.comp):=by
 have k1:f.cells[1]? =some (.str f.comp):=rfl;have k2:g.cells[1]? =some (.str g.comp):=rfl;refine zo zH6 ?_;simp only[f362,zA];exact au
def zEL(b:sc[4]? =some x)(c:yg 12 (nu fs) x){u:Nat}(a:u<fs.length)(g:Fac)(f:h.at' id=some (.row [.int .i64 (u:Int)])):
  zE prog 363 [.agg g.cells,.iptr [.iptr sc 0] 0,.ptr id 0] h λr h'=>h'=h/\r=.bool (g.out==tW fs u):=by
 have k1:fs[u].cells[2]? =some (.str fs[u].out):=rfl;have k2:g.cells[2]? =some (.str g.out):=rfl;have d:=tZ c a;have j:tW fs u=fs[u].out:=by simp[tW,a]
 refine zo zH7 ?_;simp only[f363,zA];simp only[go_sem, *];refine yp Heap.emp (pwf [2,6,0,1,3,4,5,7,8,9,10,11] []) kr kr (λi k e=>by cases e) ?_;simp only[go_sem,qU, *]
def WL(l:List (Nat×Obj))(W:Nat->(Nat->Prop)->Heap->Prop)(k:Nat)(S:Nat->Prop)(h:Heap):Prop:=
 ∃S1,W k S1 h/\(∀p∈l,p.1<h.next/\h.at' p.1=some p.2/\¬S1 p.1)/\∀i,S i↔((∃p∈l,i=p.1)\/S1 i)
section
variable{l:List (Nat×Obj)}{W:Nat->(Nat->Prop)->Heap->Prop}{id k:Nat}{L B:LRec}{h h3 H h5:Heap}{S S0 S1 S5 S':Nat->Prop}{fr:Frm}
def WL.lcl(f:Lcl W):Lcl (WL l W):=by
 refine⟨λk S h y i e=> ?_,λk S h h' y n g=> ?_⟩
 .obtain⟨S1,c,d,a⟩:=y
  rcases(a i).1 e with⟨p,b,rfl⟩ |q
  .exact(d p b).1
  .exact f.here _ _ _ c i q
 .obtain⟨S1,c,d,a⟩:=y
  refine⟨S1,f.loc _ _ _ _ c n λi e=>g i ((a i).2 (.inr e)),λp b=> ?_,a⟩;obtain⟨o,j,m⟩:=d p b;exact⟨ow,by rw[g p.1 ((a _).2 (.inl ⟨p,b,rfl⟩))];exact j,m⟩
def WL.start(a:W k S h)(h1:∀p∈l,p.1<h.next/\h.at' p.1=some p.2/\¬S p.1):WL l W k (λi=>(∃p∈l,i=p.1)\/S i) h:=
 ⟨S,a,h1,λ_=>Iff.rfl⟩
def WL.stop(h1:∀p∈l,h.at' p.1=some p.2)(m:∀i,S' i->((∃p∈l,i=p.1)\/S i)\/h.next<=i)(d:But (λi=>(∃p∈l,i=p.1)\/S i) h h')(n:WL l W k S' h'):
  ∃S1,(∀i,S1 i->S i\/h.next<=i)/\But S h h'/\W k S1 h':=by
 obtain⟨S1,f,c,g⟩:=n;refine⟨S1,λi a=> ?_,⟨d.1,λi a j=> ?_⟩,f⟩
 .rcases m i ((g i).2 (.inr a))with(⟨p,b,rfl⟩ |q)|q
  .exact absurd a (c p b).2.2
  .exact .inl q
  .exact .inr q
 .by_cases q:∃p∈l,i=p.1
  .obtain⟨p,b,rfl⟩:=q
   rw[(c p b).2.1,h1 p b]
  .exact d.2 i a λe=>e.elim q j
def WL.st(c:WL l W k S h):∀p∈l,p.1<h.next/\h.at' p.1=some p.2:=by
 obtain⟨S1,_,b,_⟩:=c;exact λp a=>⟨(b p a).1,(b p a).2.1⟩
def Lp.callL(y:Lcl W)(o:({ B with st:=.ready,pending:=none } :LRec)=L)(m:id<h3.next)(d:¬S0 id)(r:W k S1 h3/\(∀p∈l,p.1<h3.next/\h3.at' p.1=some p.2/\¬S1 p.1)/\∀i,S0 i↔((∃p∈l,i=p.1)\/S1 i))
  (n:H.at' id=some (.loop B)) (c:But (λi=>i=id) h3 H) (g:∀j,S5 j->S1 j\/H.next<=j) (b:But S1 H h5) (A:W (k+1) S5 h5):
  rH (LpK id L (WL l W) k S0 h3) id .normal fr h5:=by
 obtain⟨_,v,a⟩:=r;have z:=c.1;have t:=b.1;have D:¬S1 id:=λe=>d ((a _).2 (.inr e));refine Lp.fin (WL.lcl y) o m d (S':=λi=>(∃p∈l,i=p.1)\/S5 i) ?_ (λi f=> ?_) ⟨ow,λi f u=> ?_⟩ ⟨S5,A,λp h=> ?_,λi=>Iff.rfl⟩
 .rw[b.2 _ ow D];exact n
 .rcases f with⟨p,h,rfl⟩ |f
  .exact .inl ((a _).2 (.inl ⟨p,h,rfl⟩))
  .exact(g i f).imp (λq=>(a _).2 (.inr q)) λq=>by omega
 .rw[b.2 i ow λe=>u (.inr ((a _).2 (.inr e))),c.2 i f λe=>u (.inl e)]
 .obtain⟨w,x,s⟩:=v p h
  have C:p.1≠id:=λe=>d (by rw[<-e];exact(a _).2 (.inl ⟨p,h,rfl⟩));refine⟨ow,by rw[b.2 _ ow s,c.2 _ w C];exact x,λe=> ?_⟩;rcases g _ e with q|q
  .exact s q
  .omega
def Lp.openL(r:Lcl W)(f:WL l W k S0 h3)(hid:id<h3.next)(b:¬S0 id)(o:Obj)(B:LRec):
  ∃S1 H,(h3.new h3.next o).set id (.loop B)=H/\H.next=h3.next+1/\H.at' h3.next=some o/\H.at' id=some (.loop B)/\But (λj=>j=id) h3 H/\W k S1 H/\(∀p∈l,p.1<h3.next/\H.at' p.1=some p.2)/\
   (W k S1 h3/\(∀p∈l,p.1<h3.next/\h3.at' p.1=some p.2/\¬S1 p.1)/\∀i,S0 i↔((∃p∈l,i=p.1)\/S1 i)):=by
 obtain⟨S1,g,h,a⟩:=f;have d:((h3.new h3.next o).set id (.loop B)).next=h3.next+1:=by rw[yc,za]
 have c:But (λj=>j=id) h3 ((h3.new h3.next o).set id (.loop B)):=⟨ow,λj v t=>by rw[zW t,zg ow]⟩;refine⟨S1,_,rfl,d,by rw[zW ow,z5],zU _ _ _,c,Lcl.round r g (λi s=>(a _).2 (.inr s)) b c,λp n=> ?_,g,h,a⟩;obtain⟨m,q,u⟩:=h p n;exact⟨m,by rw[c.2 _ m λe=>b (by rw[<-e];exact(a _).2 (.inl ⟨p,n,rfl⟩))];exact q⟩
def Lp.openL0(q:Lcl W)(f:WL l W k S0 h3)(hid:id<h3.next)(b:¬S0 id)(B:LRec):
  ∃S1 H,h3.set id (.loop B)=H/\H.next=h3.next/\H.at' id=some (.loop B)/\But (λj=>j=id) h3 H/\W k S1 H/\(∀p∈l,p.1<h3.next/\H.at' p.1=some p.2)/\
   (W k S1 h3/\(∀p∈l,p.1<h3.next/\h3.at' p.1=some p.2/\¬S1 p.1)/\∀i,S0 i↔((∃p∈l,i=p.1)\/S1 i)):=by
 obtain⟨S1,g,h,a⟩:=f;have d:(h3.set id (.loop B)).next=h3.next:=yc _ _ _;have c:But (λj=>j=id) h3 (h3.set id (.loop B)):=⟨ow,λj u s=>zW s⟩;refine⟨S1,_,rfl,d,zU _ _ _,c,Lcl.round q g (λi r=>(a _).2 (.inr r)) b c,λp n=> ?_,g,h,a⟩;obtain⟨m,o,t⟩:=h p n;exact⟨m,by rw[c.2 _ m λe=>b (by rw[<-e];exact(a _).2 (.inl ⟨p,n,rfl⟩))];exact o⟩
end
def TU{l:List α}{f:α->List β}{a b:Nat}{x:α}(h:l[a]? =some x)(c:b<(f x).length):(l.flatMap f)[jq l f a+b]? =(f x)[b]? :=by
 obtain⟨h1,rfl⟩:=zK.1 h;rw[Ag h1 c,zB c]
def lF{l:List α}{f:α->List β}{a:Nat}{x:α}(h:l[a]? =some x):jq l f (a+1)=jq l f a+(f x).length:=by
 obtain⟨h1,rfl⟩:=zK.1 h;exact JC h1
def Ah{l:List α}{f:α->List β}{a b:Nat}{x:α}(h:l[a]? =some x)(c:b<(f x).length):jq l f a+b<(l.flatMap f).length:=by
 obtain⟨h1,rfl⟩:=zK.1 h;exact zLN h1 c
theorem tf{f:α->List β}{m:Nat} :∀{l:List α},(∀x∈l,(f x).length<=m)->(l.flatMap f).length<=l.length*m
 | [],_=>by simp
 |x::l,h=>by
  have:=tf (f:=f) (l:=l) λy a=>h y (yG _ a);have b:=h x jS;rw[nG,zS,zu,qp];omega
abbrev DY(fs:List Fac)(i:Nat):List Nat:=fIx 0 (λg=>g.comp==sg fs i) fs
abbrev kV(fs:List Fac)(u:Nat):List Nat:=fIx 2 (λg=>g.out==tW fs u) fs
abbrev XJ(fs:List Fac)(al:Nat->Option Alt)(i:Nat):Nat:=jq (List.range fs.length) (KF fs al) i
abbrev T0(fs:List Fac)(i k:Nat):Nat:=jq (DY fs i) (KG fs i) k
section
variable{fs:List Fac}{al:Nat->Option Alt}{i k k2 u v:Nat}
def zCA(b:i<fs.length)(a:(al i).isSome=false):XJ fs al (i+1)=XJ fs al i:=by simp_all [XJ,lF,KF]
def DF(b:i<fs.length)(a:(al i).isSome=true):XJ fs al (i+1)=XJ fs al i+T0 fs i (DY fs i).length:=by simp_all [XJ,T0,lF,aG,KF]
def H7(a:(DY fs i)[k]? =some u):T0 fs i (k+1)=T0 fs i k+(kV fs u).length:=by
 unfold T0;rw[lF a];simp[KG]
def DX(g:i<fs.length)(e:(al i).isSome=true)(c:(DY fs i)[k]? =some u)(h:(kV fs u)[k2]? =some v):
  XJ fs al i+(T0 fs i k+k2)<(qx fs al).length/\(qx fs al)[XJ fs al i+(T0 fs i k+k2)]? =some (i,u,v):=by
 have b:k2<(KG fs i u).length:=by grind [KG]
 have a:=Ah (f:=KG fs i) c b;have d:KF fs al i=(DY fs i).flatMap (KG fs i):=by unfold KF;rw[ip e]
 rw[<-d]at a;have hr:(List.range fs.length)[i]? =some i:=by simp[g]
 refine⟨Ah (f:=KF fs al) hr a,?_⟩;have h1:=TU (f:=KF fs al) hr a;have j:=TU (f:=KG fs i) c b;show((List.range fs.length).flatMap (KF fs al))[_]? =_
 grind [KG]
end
variable{fs:List Fac}{al:Nat->Option Alt}{id i k:Nat}{S:Nat->Prop}{h:Heap}{fr:Frm}
theorem jA{M:KM Int}{O:KV}{m1 m2:Nat}(hs:Stt c fs al M O sc m1 m2){Y:Nat->(Nat->Prop)->Heap->Prop}(y:Yld prog id (qx fs al).length (elT (qx fs al)) Y λ_ _=>False)(hH:∀k S h,Y k S h->StH M O m1 m2 h){w:Heap}(hY:Y 0 S w):
  zE prog 361 [.yld id,.iptr [.iptr sc 0] 0] w λ_ h'=>∃S',(∀j,S' j->S j\/w.next<=j)/\But S w h'/\Y (qx fs al).length S' h':=by
 have X:=hs;obtain⟨⟨ca,cb,ce,cp,x,rfl,hc,hx,_⟩,sm,d0,ck,b9,halt⟩:=hs;have c8:=pp hx;refine zo zH5 ?_;simp only[f361,zA]
 repeat' first|simp only[go_sem,qU, *]|apply bc<;>intro
 refine zZ (λi fr h'=>fr 1=.iptr [.iptr [ca,cb,ce,cp,x,.map m1,.map m2] 0] 0/\fr 2=.iptr [.yld id] 0/\fr 12=x/\fr 13=.int .i64 (fs.length:Int)/\fr 14=.int .i64 (i:Int)/\∃S',(∀j,S' j->S j\/w.next<=j)/\But S w h'/\Y (XJ fs al i) S' h') fs.length ow ?_ ?_ ?_
 .have a0:∃S',(∀j,S' j->S j\/w.next<=j)/\But S w w/\Y (XJ fs al 0) S' w:=⟨S,λj l=>.inl l,But.refl S w,hY⟩
  simp only[go_sem,zQ,zT,zG];exact a0
 .rintro i fr h1 s e1 ew ⟨f1,f2,cv,cw,cx,S',hS,z,I⟩
  have a1:=tZ hx s;have hm:fs[i]∈fs:=zI s;have hw:yQ true 12 fs[i].cells 0=some (.agg fs[i].cells):=zJ rfl ow;have a0:=Ui (ck _ hm);have b8:sg fs i=fs[i].comp:=by simp[sg,s]
  generalize fs[i]=f at *
  clear b9 halt ck;have cs:∀o2,yR prog 3 (.ptr h1.next 0) (.int .i64 (i:Int)) ((h1.new h1.next (.row [.int .i64 0])).new (h1.next+1) o2)=some ((h1.new h1.next (.row [.int .i64 (i:Int)])).new (h1.next+1) o2):=λo2=>by
   have:=MW (P:=prog) (t:=3) (H:=h1) (c:=.int .i64 0) (x:=.int .i64 (i:Int)) (o2:=o2) uz rfl rfl;simpa only[za]using this
  repeat' first|simp only[go_sem,za, *]|apply bc<;>intro
  obtain⟨G,hG,a9,g1,g2,hE⟩:∃G:Heap,(h1.new h1.next (.row [.int .i64 (i:Int)])).new (h1.next+1) (.row f.cells)=G/\G.next=h1.next+2/\G.at' h1.next=some (.row [.int .i64 (i:Int)])/\G.at' (h1.next+1)=some (.row f.cells)/\Ext h1 G:=
   ⟨_,rfl,qQ _ (by rw[za];exact zD _) _,by rw[zg ow,z5],z5 _ _ _,((Ext.refl h1).new (zD _) _).new ow _⟩
  rw[hG];clear hG a0 cs c8;have A:=y.ext I hE;have T:=hH _ _ _ A;have p:=Th X T.1.1 s true;have b:But S w G:=z.trans (hE.but S) λi hi=>.inl hi;refine yp Heap.emp (pwf [0,4,1,2,3,5,6,7,8,9,10] []) kr kr (λi ob e=>by cases e) ?_;cases o:al i with
  |none=>
   rw[o]at p;replace p:uW prog 208 (.map m1) (.int .i64 (i:Int)) true G=some (.tuple [.nilsl,.bool false]):=p;have m:∃S',(∀j,S' j->S j\/w.next<=j)/\But S w G/\Y (XJ fs al (i+1)) S' G:=⟨S',hS,b,by rw[zCA s (by rw[o];rfl)];exact A⟩;clear A T b hE hS z I o
   repeat' first|simp only[go_sem,qU, *]|apply bc<;>intro hc
  |some a=>
   rw[o]at p;replace p:uW prog 208 (.map m1) (.int .i64 (i:Int)) true G=some (.tuple [a.d,.bool true]):=p;obtain⟨q1,q2,_⟩:=zp (X.alt i a o).sl;have K:=λg=>Zc [ca,cb,ce,cp,x,.map m1,.map m2] 0 (hf:=.fn (.func 362) [] [.ptr (h1.next+1) 0]) ⟨_,_,_,rfl⟩ g
   repeat' first|simp only[go_sem,qU,fI, *]|apply bc<;>intro hc|(refine zE.mono (K _) ?_;rintro r h ⟨hq,rfl⟩)
   subst hq;generalize hL:LRec.mk _ _ _ _ _ _ _=L;have c9:L.pending=none:=by rw[<-hL]
   have da:L.st=.ready:=by rw[<-hL]
   have b7:Lcl λk=>Y (XJ fs al i+T0 fs i k):=⟨λk=>y.here _,λk=>y.loc _⟩;have F:∀j,S' j->j<h1.next:=λj l=>y.here _ _ _ I j l;refine pq (W:=WK h1.next (.row [.int .i64 (i:Int)]) (h1.next+1) (.row f.cells) λk=>Y (XJ fs al i+T0 fs i k)) (n:=(DY fs i).length) (el:=elI (DY fs i)) (S:=λj=>j=h1.next\/j=h1.next+1\/S' j) a9 (WK.lcl b7) da c9 ?_ (λyl aj=>dL (sc:=[ca,cb,ce,cp,x,.map m1,.map m2]) rfl hx ow X.ok yl (R:=λj=>j=h1.next+1) ?_ (λg hg h2 hr=> ?_) aj) ?_ ?_
   .exact WK.start (by rw[show T0 fs i 0=0 from Zj _ _];exact A) ow ow g1 g2 (λe=>wK _ (F _ e)) (λe=>by have:=F _ e;omega)
   .rintro j rfl
    refine⟨by rw[qQ _ ow];omega,.inr ?_⟩;rintro k S2 h2 ⟨_,_,S0,hk,_⟩;rw[hk.st.1.2,zg ow,g2]
   .exact(zEK f g (by rw[hr _ rfl,zg ow,g2])).mono λr h3 e=>by rw[b8];exact e
   .intro k S0 h3 hk cf c6 de ak
    obtain⟨u,hu⟩:∃u,(DY fs i)[k]? =some u:=⟨_,zB hk⟩;have db:u<fs.length:=by
     have:=(oG _ fs 0 u (zj hu)).2;omega
    have c3:(DY fs i).getD k 0=u:=by rw[zC,hu];rfl
    simp only[elI,c3];obtain⟨S1,V,⟨dr,ds⟩,⟨a2,cu⟩,⟨n1,n2⟩,ai⟩:=de;have N:=c6;rw[<-hL]at N;have ag:yR prog 3 (.ptr h3.next 0) (.int .i64 (u:Int)) (h3.new h3.next (.row [.int .i64 0]))=some (h3.new h3.next (.row [.int .i64 (u:Int)])):=by
     rw[yM (z5 _ _ _) uz jS rfl rfl,bK];rfl
    clear p q1 q2 a1 hw hm K b8 hS z I hE A T b;refine uC.round (g:=Mu) mix N rfl kr kr kr ?_;simp only[go_sem,f1,f2,ag];refine⟨by rw[zg ow];exact N,?_⟩;generalize hB:LRec.mk .busy _ _ _ _ _ _=B;have c0:({ B with st:=.ready,pending:=none } :LRec)=L:=by rw[<-hB,<-hL]
    obtain⟨H,bb,bk,b1,b3,b4,b6,c1⟩:∃H:Heap,(h3.new h3.next (.row [.int .i64 (u:Int)])).set (h1.next+2) (.loop B)=H/\H.next=h3.next+1/\H.at' h1.next=some (.row [.int .i64 (i:Int)])/\H.at' h3.next=some (.row [.int .i64 (u:Int)])/\H.at' (h1.next+2)=some (.loop B)/\Y (XJ fs al i+T0 fs i k) S1 H/\But (λj=>j=h1.next+2) h3 H:=by
     refine⟨_,rfl,by rw[yc,za],by rw[zW ow,zg ow];exact a2,by rw[zW ow,z5],zU _ _ _,?_,⟨by rw[yc,za];omega,λj l hn=>by rw[zW hn,zg ow]⟩⟩;have hb:=λj l=>y.here _ _ _ V j l;refine y.loc _ _ _ _ V (by rw[yc,za];omega) λj l=> ?_;have:=hb j l;rw[zW (λe=>ak (by rw[<-e];exact(ai _).2 (.inr (.inr l)))),zg ow]
    rw[bb];clear ag bb hB;have K:=λg=>Zc [ca,cb,ce,cp,x,.map m1,.map m2] 2 (hf:=.fn (.func 363) [] [.iptr [.iptr [ca,cb,ce,cp,x,.map m1,.map m2] 0] 0,.ptr h3.next 0]) ⟨_,_,_,rfl⟩ g;refine(K _).mono ?_;rintro r H2 ⟨hq,rfl⟩;subst hq
    repeat' first|simp only[go_sem,fI, *]|apply bc<;>intro
    generalize U:LRec.mk .ready _ _ _ _ _ _=L2;have cl:L2.pending=none:=by rw[<-U]
    have cm:L2.st=.ready:=by rw[<-U]
    have J:Lcl λk2=>Y (XJ fs al i+(T0 fs i k+k2)):=⟨λk=>y.here _,λk=>y.loc _⟩;have bx:∀j,S1 j->j<h3.next:=λj l=>y.here _ _ _ V j l;have dv:¬S1 (h1.next+2):=λe=>ak ((ai _).2 (.inr (.inr e)));refine⟨⟨_,b4⟩,pq (W:=WK h1.next (.row [.int .i64 (i:Int)]) h3.next (.row [.int .i64 (u:Int)]) λk2=>Y (XJ fs al i+(T0 fs i k+k2))) (n:=(kV fs u).length) (el:=elI (kV fs u)) (S:=λj=>j=h1.next\/j=h3.next\/S1 j) bk (WK.lcl J) cm cl ?_ (λyl aj=>dL (sc:=[ca,cb,ce,cp,x,.map m1,.map m2]) rfl hx ow X.ok yl (R:=λj=>j=h3.next) ?_ (λg hg h2 hr=> ?_) aj) ?_ ?_⟩
    .exact WK.start b6 ow ow b1 b3 n1 (λe=>wK _ (bx _ e))
    .rintro j rfl
     refine⟨by rw[qQ _ ow];omega,.inr ?_⟩;rintro k S2 h2 ⟨_,_,S0,hk,_⟩;rw[hk.st.1.2,zg ow,b3]
    .exact(zEL (sc:=[ca,cb,ce,cp,x,.map m1,.map m2]) rfl hx db g (by rw[hr _ rfl,zg ow,b3])).mono λr h3 e=>e
    .intro k2 S3 h4 c5 cg c7 di ch
     obtain⟨v,hv⟩:∃v,(kV fs u)[k2]? =some v:=⟨_,zB c5⟩;have c4:(kV fs u).getD k2 0=v:=by rw[zC,hv];rfl
     simp only[elI,c4];obtain⟨S4,b5,⟨dt,du⟩,⟨a6,a7⟩,⟨n3,n4⟩,b2⟩:=di;have Q:=c7;rw[<-U]at Q;obtain⟨tl,te⟩:=DX (al:=al) s (by rw[o];rfl) hu hv;have c2:(qx fs al).getD (XJ fs al i+(T0 fs i k+k2)) (0,0,0)=(i,u,v):=by rw[zC,te];rfl
     have cc:=λS h=>y.go (XJ fs al i+(T0 fs i k+k2)) S h tl;simp only[elT,c2,kW]at cc;have dd:qX prog 339 [(0,.int .i64 (i:Int)),(1,.int .i64 (u:Int)),(2,.int .i64 (v:Int))]=some (.agg [.int .i64 (i:Int),.int .i64 (u:Int),.int .i64 (v:Int)]):=by simp[qX,N3,FM,uc,wg,D.notTuple,D.cells]
     refine uC.round (g:=Mu) mix Q rfl kr kr kr ?_;simp only[go_sem];refine⟨Q,?_⟩;generalize a8:LRec.mk .busy _ _ _ _ _ _=B2;have bo:({ B2 with st:=.ready,pending:=none } :LRec)=L2:=by rw[<-a8,<-U]
     have i1:h1.next≠h3.next+1:=ow;have i2:h3.next≠h3.next+1:=ow;obtain⟨H4,ba,a3,a4,a5,ad⟩:∃H4:Heap,h4.set (h3.next+1) (.loop B2)=H4/\H4.at' h1.next=some (.row [.int .i64 (i:Int)])/\H4.at' h3.next=some (.row [.int .i64 (u:Int)])/\H4.at' (h3.next+1)=some (.loop B2)/\But (λj=>j=h3.next+1) h4 H4:=
      ⟨_,rfl,by rw[zW i1];exact a6,by rw[zW i2];exact a7,zU _ _ _,by rw[yc];exact zD _,λj _ l=>zW l⟩
     rw[ba];clear a8 ba;simp only[go_sem,dd,a3,a4,f2];refine(cc _ _ (J.round b5 (λj l=>(b2 _).2 (.inr (.inr l))) ch ad)).mono ?_;rintro r h5 ⟨S5,E,C,⟨rfl,hr⟩ | ⟨rfl,hr⟩⟩
     .have m:∀fr,rH (LpK (h3.next+1) L2 (WK h1.next (.row [.int .i64 (i:Int)]) h3.next (.row [.int .i64 (u:Int)]) λk2=>Y (XJ fs al i+(T0 fs i k+k2))) k2 S3 h4) (h3.next+1) .normal fr h5:=λfr=>Lp.call J bo cg ch ⟨b5,⟨dt,du⟩,⟨a6,a7⟩,⟨n3,n4⟩,b2⟩ a5 ad E C hr
      simp only[go_sem,vun];exact m _
     .exact hr.elim
    .intro S' h5 hs hb hw
     obtain⟨S5,E,C,Z⟩:=WK.stop b1 b3 (λj l=>by rw[bk];exact hs j l) hb hw;rw[<-wZ (T0 fs i k)]at b6;have dk:Y (XJ fs al i+T0 fs i (k+1)) S5 h5:=by rw[H7 hu];exact Z
     have m:∀fr,rH (LpK (h1.next+2) L (WK h1.next (.row [.int .i64 (i:Int)]) (h1.next+1) (.row f.cells) λk=>Y (XJ fs al i+T0 fs i k)) k S0 h3) (h1.next+2) .normal fr h5:=λfr=>Lp.call b7 c0 cf ak ⟨V,⟨dr,ds⟩,⟨a2,cu⟩,⟨n1,n2⟩,ai⟩ b4 c1 E C dk;simp only[go_sem];exact m _
   .intro S2 h5 hs hb hw
    obtain⟨S5,E,C,Z⟩:=WK.stop g1 g2 (λj l=>by rw[a9];exact hs j l) hb hw;have m:∃S',(∀j,S' j->S j\/w.next<=j)/\But S w h5/\Y (XJ fs al (i+1)) S' h5:=⟨S5,λj l=>by
     rcases E j l with q|q
     .exact hS j q
     .exact .inr (by have:=b.1;omega),b.trans C hS,by rw[DF s (by rw[o];rfl)];exact Z⟩
    clear p A T b hE hS z I o hs hb hw E C Z K hL;exact au
 .rintro fr h2 e1 ⟨f1,f2,cv,cw,cx,S',bs,b0,F⟩
  have m:∃S',(∀j,S' j->S j\/w.next<=j)/\But S w h2/\Y (qx fs al).length S' h2:=⟨S',bs,b0,by rw[show(qx fs al).length=XJ fs al fs.length from(by unfold XJ qx;rw[<-aG,uA])];exact F⟩
  clear bs b0 F;exact au
def gW(fs:List Fac)(i:Nat):Int:=match fs[i]? with
 |some f=>f.way
 |none=>0
def n7(fs:List Fac)(i:Nat):Int:=match fs[i]? with
 |some f=>f.rel
 |none=>0
def HS(duty:Int)(q:List (List UInt8)->Bool)(l:Cla):Bool:=l.duty==duty&&q l.list
def zGX(c:Cat)(way rel duty:Int)(q:List (List UInt8)->Bool)(z:Trm):Bool:=(jh c z.a z.b way rel).any (HS duty q)
def Ni(c:Cat)(ts:List Trm)(way rel duty:Int)(q:List (List UInt8)->Bool):Bool:=ts.any (zGX c way rel duty q)
theorem J4{q:List (List UInt8)->Bool} :∀{a b:List Cla},a.map Cla.key=b.map Cla.key->a.any (HS N q)=b.any (HS N q)
 | [],[],_=>rfl
 | [],_::_,h=>by cases h
 |_::_,[],h=>by cases h
 |x::a,y::b,h=>by
  simp only[qV,sd,Cla.key,Prod.mk.injEq]at h;obtain⟨⟨_,_,_,h1,c⟩,h3⟩:=h;rw[bf,bf,J4 h3,HS,HS,h1,c]
def zD6(y:Cla)(h:Heap):zE prog 284 [.agg y.cells] h λr h'=>h'=h/\r=.bool true:=by
 refine zo zMP ?_;simp only[f284,zA];exact au
theorem zAT{M:KM Int}{O:KV}{m1 m2:Nat}(hs:Stt c fs al M O sc m1 m2){t:Tri}(t1:t.1<fs.length)(t2:t.2.1<fs.length)(t3:t.2.2<fs.length){a:Alt}(X:al t.1=some a)(h:Int){q:List (List UInt8)->Bool}{R:Nat->Prop}(hH:StH M O m1 m2 g)(hR:∀i,R i->i<g.next)(hq:∀y:Cla,y.Fine->∀l:Heap,(∀i,R i->l.at' i=g.at' i)->zE prog f ([]++ [.agg y.cells]++cap) l λr h3=>h3=l/\r=.bool (q y.list)):
  zE prog 283 [.iptr sc 0,.agg (kW t),.int .i64 h,.fn (.func f) [] cap] g λr h'=>Ext g h'/\r=.bool (Ni c a.ts (gW fs t.2.2) (n7 fs t.2.1) h q):=by
 have Q:=Th hs hH.1.1 t1 false;rw[X]at Q;replace Q:uW prog 208 (.map m1) (.int .i64 (t.1:Int)) false g=some a.d:=Q;have G:=hs.alt _ _ X;have w1:gW fs t.2.2=fs[t.2.2].way:=by simp[gW,t3]
 have w2:n7 fs t.2.1=fs[t.2.1].rel:=by simp[n7,t2]
 rw[w1,w2];obtain⟨⟨ca,cb,ce,cp,x,rfl,C,hx,_⟩,sm,b8,cg,b7,halt⟩:=hs;have a2:=tZ hx t2;have a3:=tZ hx t3;have k2:fs[t.2.1].cells[3]? =some (.int .i64 fs[t.2.1].rel):=rfl;have k3:fs[t.2.2].cells[4]? =some (.int .i64 fs[t.2.2].way):=rfl;generalize fs[t.2.1]=E at *
 generalize fs[t.2.2]=F at *
 have ch:=ua G.sl;have b5:=G.len;obtain⟨q1,q2,_⟩:=zp G.sl;have hE:Ext g g:=Ext.refl g;obtain⟨ai,aj,ak⟩:=t;simp only[kW]at *
 refine zo zHo ?_;simp only[f283,zA]
 repeat' first|simp only[go_sem, *]|apply bc<;>intro C
 refine yF kr ?_
 repeat' first|simp only[go_sem,qU, *]|apply bc<;>intro C
 refine zZ (λi fr h'=>fr 0=.iptr [ca,cb,ce,cp,x,.map m1,.map m2] 0/\fr 2=.int .i64 h/\fr 3=.fn (.func f) [] cap/\fr 5=.iptr [.int .i64 (ai:Int),.int .i64 (aj:Int),.int .i64 (ak:Int)] 0/\fr 19=a.d/\fr 20=.int .i64 (a.ts.length:Int)/\fr 21=.int .i64 (i:Int)/\Ext g h'/\∀j (D:j<a.ts.length),j<i->zGX c F.way E.rel h q a.ts[j]=false) a.ts.length ow ?_ ?_ ?_
 .simp only[go_sem,zQ,zT,zG]
  exact⟨hE,λj D h0=>by omega⟩
 .rintro i fr h1 S e1 ew ⟨V,s,w,W,n,u,v,K,D⟩
  have a1:=og G.sl S;have U:zGX c F.way E.rel h q a.ts[i]=(jh c a.ts[i].a a.ts[i].b F.way E.rel).any (HS h q):=rfl;have b4:=λe=>Xa (p:=zGX c F.way E.rel h q) S e;have b3:=λe=>uq (p:=zGX c F.way E.rel h q) S D e;generalize a.ts[i]=z at *
  have cm:yR prog 197 (.ptr h1.next 0) (.agg z.cells) (h1.new h1.next (.row [.str [],.str []]))=some (h1.new h1.next (.row z.cells)):=yo ui ow rfl rfl rfl;have bo:=λg=>ID C sm z.a z.b F.way E.rel g;have b0:yQ true 2 z.cells 0=some (.agg z.cells):=zJ rfl ow;have cc:yQ true 2 z.cells 0=some (.agg [.str z.a,.str z.b]):=b0;have a7:∀o,Ext g (h1.new h1.next o):=λo=>K.new K.1 o
  repeat' first|simp only[go_sem, *]|apply bc<;>intro C
  obtain⟨H,bb,b9,a9⟩:∃H,h1.new h1.next (.row z.cells)=H/\H.at' h1.next=some (.row z.cells)/\Ext g H:=⟨_,rfl,z5 _ _ _,a7 _⟩;rw[bb];have cu:yQ true 4 [ca,cb,ce,cp,x,.map m1,.map m2] 0=some (.agg [ca,cb,ce,cp]):=by simp[yQ]
  refine yp Heap.emp (pwf [4,0,1,2,3,5,6,7,8,9,10,11,12,13,14,15,16,17,18,19,20,21,22,25,23,24] []) kr kr (λi ob e=>by cases e) ?_
  repeat' first|simp only[go_sem,qU, *]|apply bc<;>intro C
  refine(bo _).mono ?_;rintro r H2 ⟨bs,cs,Y,N,J⟩;subst bs;rw[<-J4 J]at U;have ck:=ju Y;have b6:cs.length<=1048576:=by
   have:=congrArg List.length J;simp only[zH]at this;have l:(jh c z.a z.b F.way E.rel).length<=c.cs.length:=by
    unfold jh;split
    .simp
    .exact wH _ _
   have:=sm.cs.1;omega
  repeat' first|simp only[go_sem, *]|apply bc<;>intro C
  refine zZ (λj fr h'=>fr 0=.iptr [ca,cb,ce,cp,x,.map m1,.map m2] 0/\fr 2=.int .i64 h/\fr 3=.fn (.func f) [] cap/\fr 5=.iptr [.int .i64 (ai:Int),.int .i64 (aj:Int),.int .i64 (ak:Int)] 0/\fr 19=a.d/\fr 20=.int .i64 (a.ts.length:Int)/\fr 21=.int .i64 (i:Int)/\fr 48=r/\fr 49=.int .i64 (cs.length:Int)/\fr 50=.int .i64 (j:Int)/\Ext g h'/\∀k (hk:k<cs.length),k<j->HS h q cs[k]=false) cs.length ow ?_ ?_ ?_
  .simp only[go_sem,zQ,zT,zG]
   exact⟨V,s,w,W,n,u,v,a9,λj D h0=>by omega⟩
  .clear V s w W n u v
   rintro j a6 l m e2 cf ⟨V,s,w,W,n,u,v,a0,a4,a5,L,D⟩;have b1:=gy Y m;have ad:=N _ (zI m);have b2:=λe=>Xa (p:=HS h q) m e;have ag:=λe=>uq (p:=HS h q) m D e;have T:HS h q cs[j]=(cs[j].duty==h&&q cs[j].list):=rfl;generalize cs[j]=y at *
   have Z:yR prog 126 (.ptr l.next 0) (.agg y.cells) (l.new l.next (.row [.str [],.int .i64 0,.int .i64 0,.int .i64 0,.nilsl]))=some (l.new l.next (.row y.cells)):=yo fi ow rfl rfl (by show(true&&(true&&(true&&(true&&(y.d.flat&&true)))))=true;rw[kP ad.1.isSl];rfl);have cv:yQ true 5 y.cells 0=some (.agg y.cells):=zJ rfl ow;have ky:y.cells[3]? =some (.int .i64 y.duty):=rfl;have ba:Ext g (l.new l.next (.row y.cells)):=L.new L.1 _;obtain⟨H3,bk,bx,a8⟩:∃H,l.new l.next (.row y.cells)=H/\H.at' l.next=some (.row y.cells)/\Ext g H:=⟨_,rfl,z5 _ _ _,ba⟩;rw[bk]at Z
   have B:=hq y ad H3 λi P=>a8.2 i (hR i P);simp only[yL,zq]at B;cases hd:(y.duty==h)with
   |false=>
    have A:=ag (by rw[T,hd];rfl)
    repeat' first|simp only[go_sem, *]|apply bc<;>intro C
    exact A
   |true=>
    cases I:q y.list with
    |false=>
     rw[I]at B;have A:=ag (by rw[T,hd,I];rfl)
     repeat' first|simp only[go_sem, *]|apply bc<;>intro C|refine zE.use B ?_
     exact A
    |true=>
     rw[I]at B;have A:Ni c a.ts F.way E.rel h q=true:=b4 (by rw[U];exact b2 (by rw[T,hd,I];rfl))
     repeat' first|simp only[go_sem, *]|apply bc<;>intro C|refine zE.use B ?_
  .clear V s w W n u v
   rintro a6 l e2 ⟨V,s,w,W,n,u,v,a0,a4,a5,L,D⟩;have A:=b3 (by rw[U];exact cL (p:=HS h q) (λi P _=>D i P P))
   repeat' first|simp only[go_sem, *]|apply bc<;>intro C
   exact A
 .rintro fr h1 e1 ⟨V,s,w,W,n,u,v,K,D⟩
  have cl:Ni c a.ts F.way E.rel h q=false:=cL λi P _=>D i P P;exact au
def bs3(a b c:Int)(nid:Nat)(h:Heap):yA prog false nid 30 3 [(0,.int .i64 a),(1,.int .i64 b),(2,.int .i64 c)] h=some (.sl 1 (wC [a,b,c]) .full,h):=by
 simp[yA,qS,s8,uz,D.notTuple,D.cells,ma,uc,wg,wP,wC]
def bs2(a b:Int)(nid:Nat)(h:Heap):yA prog false nid 30 2 [(0,.int .i64 a),(1,.int .i64 b)] h=some (.sl 1 (wC [a,b]) .full,h):=by
 simp[yA,qS,s8,uz,D.notTuple,D.cells,ma,uc,wg,wP,wC]
def bs4(a b c d:Int)(nid:Nat)(h:Heap):yA prog false nid 30 4 [(0,.int .i64 a),(1,.int .i64 b),(2,.int .i64 c),(3,.int .i64 d)] h=some (.sl 1 (wC [a,b,c,d]) .full,h):=by
 simp[yA,qS,s8,uz,D.notTuple,D.cells,ma,uc,wg,wP,wC]
def bs5(a b c d e:Int)(nid:Nat)(h:Heap):yA prog false nid 30 5 [(0,.int .i64 a),(1,.int .i64 b),(2,.int .i64 c),(3,.int .i64 d),(4,.int .i64 e)] h=some (.sl 1 (wC [a,b,c,d,e]) .full,h):=by
 simp[yA,qS,s8,uz,D.notTuple,D.cells,ma,uc,wg,wP,wC]
def bs1(a:Int)(nid:Nat)(h:Heap):yA prog false nid 30 1 [(0,.int .i64 a)] h=some (.sl 1 (wC [a]) .full,h):=by
 simp[yA,qS,s8,uz,D.notTuple,D.cells,ma,uc,wg,wP,wC]
def fo{t:Tri}(h:t∈qx fs al):t.1<fs.length/\t.2.1<fs.length/\t.2.2<fs.length/\∃a,al t.1=some a:=by
 unfold qx at h;obtain⟨i,e,b⟩:=z6.1 h;unfold KF at b;split at b
 .rename_i d
  obtain⟨u,f,b⟩:=z6.1 b;unfold KG at b;obtain⟨v,g,rfl⟩:=zN.1 b;have h1:=(oG _ fs 0 u f).2;have c:=(oG _ fs 0 v g).2;exact⟨yn.1 e,by simpa using h1,by simpa using c,u9.1 d⟩
 .cases b
theorem LD{p q:Fac->Bool}(h:∀f,p f=true->q f=true):∀(l:List Fac)(k k':Nat),(wV p l k).length<=(wV q l k').length
 | [],_,_=>zD _
 |f::l,k,k'=>by
  have a:=LD h l (k+1) (k'+1);cases e:p f with
  |true=>simp only[wV,e,h f e,qK,zu];omega
  |false=>simp only[wV,e];cases q f<;>simp<;>omega
theorem HV{p q:Fac->Bool}(h:∀f,p f=true->q f=false):∀(l:List Fac)(k k':Nat),(wV p l k).length+(wV q l k').length<=l.length
 | [],_,_=>zD _
 |f::l,k,k'=>by
  have a:=HV h l (k+1) (k'+1);cases e:p f with
  |true=>simp only[wV,e,h f e,qK,zu];simp;omega
  |false=>simp only[wV,e];cases q f<;>simp<;>omega
def zBm:∀a,a<=24->∀b,b<=24->a+b<=24->a*b<=144:=jD
theorem nY(h:fs.length<=24):(qx fs al).length<=4096:=by
 have h1:∀i u,(KG fs i u).length<=(wV (isF 2 λ_=>true) fs 0).length:=λi u=>by
  unfold KG;rw[zH];exact LD (λf hf=>by unfold isF at hf⊢;simp at hf⊢;exact hf.1) fs 0 0
 have a:∀i,(KF fs al i).length<=144:=λi=>by
  unfold KF;split
  .refine zY (tf λu _=>h1 i u) ?_
   have h3:=HV (p:=isF 0 λg=>g.comp==sg fs i) (q:=isF 2 λ_=>true) (λf hf=>by
    unfold isF at hf⊢;simp at hf⊢;omega) fs 0 0
   exact zBm _ (by unfold fIx;omega) _ ow (by unfold fIx;omega)
  .simp
 unfold qx;refine zY (tf λi _=>a i) ?_;rw[uA];omega
def wn{α:Type}(l:List α)(V:α->List (List Int))(k:Nat):List (List Int):=(l.take k).flatMap V
def rM{l:List α}{V:α->List (List Int)}{x:α}(h:l[k]? =some x):wn l V (k+1)=wn l V k++V x:=by
 obtain⟨h1,rfl⟩:=zK.1 h;unfold wn;rw[zM h1,py,nG,List.flatMap_nil,yC]
def oy(l:List α)(V:α->List (List Int)):wn l V l.length=l.flatMap V:=by unfold wn;rw[zt]
def hP{l:List α}{V:α->List (List Int)}{m:Nat}(h:∀x∈l,(V x).length<=m)(k:Nat):(wn l V k).length<=l.length*m:=
 zY (tf λx a=>h x (sV a)) (yt _ (by rw[yK];omega))
def Pc(t:Tri)(h:Heap)(id:Nat):yR prog 339 (.ptr id 0) (.agg (kW t)) (h.new id (.row [.int .i64 0,.int .i64 0,.int .i64 0]))=some (h.new id (.row (kW t))):=yo zCe ow rfl rfl rfl
def Yl(al:Nat->Option Alt)(i:Nat):List Trm:=match al i with
 |some a=>a.ts
 |none=>[]
def sx(c:Cat)(fs:List Fac)(al:Nat->Option Alt)(t:Tri):List (List Int):=
 if Ni c (Yl al t.1) (gW fs t.2.2) (n7 fs t.2.1) 5 (λ_=>true)=true then [[(t.1:Int),(t.2.1:Int),(t.2.2:Int)]]else []
def Nf(h:i<1048576):fits .i64 (i:Int):=qJ ow ow
theorem F8{M:KM Int}{O:KV}{m1 m2:Nat}(Z:Stt c fs al M O sc m1 m2)(X:fs.length<=24)
  {ff:FuncId} {Y:List (List Int)->(Nat->Prop)->Heap->Prop} (y:Fnd2 prog 5 ff cap Y) {w:Heap} (hY:Y [] S w) (I:StH M O m1 m2 w) (n1:¬S m1) (n2:¬S m2):
  zE prog 227 [.iptr sc 0,.fn (.func ff) [] cap] w λ_ h'=>∃S',(∀i,S' i->S i\/w.next<=i)/\But S w h'/\Y ((qx fs al).flatMap (sx c fs al)) S' h':=by
 have Q:=Z;obtain⟨⟨ca,cb,ce,cp,x,rfl,hc,hx,_⟩,sm,bo,bx,bk,halt⟩:=Z;have a1:=λg=>br [ca,cb,ce,cp,x,.map m1,.map m2] g;refine zo zHY ?_;simp only[f227,zA]
 repeat' first|simp only[go_sem,bY, *]|apply bc<;>intro hc|(refine zE.mono (a1 _) ?_;rintro r h ⟨hq,rfl⟩)
 subst hq;generalize T:LRec.mk _ _ _ _ _ _ _=L;have a4:L.pending=none:=by rw[<-T]
 have a5:L.st=.ready:=by rw[<-T]
 have s:=y.lcl λk=>wn (qx fs al) (sx c fs al) k;have h4:=nY (al:=al) X;refine pq (W:=WK m1 (.map (kmD (D.int .i64) M)) m2 (.map (kvD O)) λk=>Y (wn (qx fs al) (sx c fs al) k)) (n:=(qx fs al).length) (el:=elT (qx fs al)) (S:=λj=>j=m1\/j=m2\/S j) rfl (WK.lcl s) a5 a4 ?_ (λyl aj=>jA Q yl (λk S h ⟨_,_,S0,hk,_⟩=>hk.st) aj) ?_ ?_
 .exact WK.start hY I.2.1 I.2.2 I.1.1 I.1.2 n1 n2
 .intro k S0 h3 hk e a3 a9 E
  obtain⟨t,ht⟩:∃t,(qx fs al)[k]? =some t:=⟨_,zB hk⟩;have a2:(qx fs al).getD k (0,0,0)=t:=by rw[zC,ht];rfl
  simp only[elT,a2];obtain⟨p1,p2,p3,a,K⟩:=fo (zj ht);have o:=a3;rw[<-T]at o;have a6:=Pc t;refine uC.round (g:=zPx) mix o rfl kr kr kr ?_;simp only[go_sem,a6];refine⟨by rw[zg ow];exact o,?_⟩;generalize hB:LRec.mk .busy _ _ _ _ _ _=B;have J:({ B with st:=.ready,pending:=none } :LRec)=L:=by rw[<-hB,<-T]
  obtain⟨S1,H,ag,bs,P,ai,au,bb,ad,hw⟩:=Lp.open s a9 e E (.row (kW t)) B;rw[ag];have a0:=zAT Q p1 p2 p3 K 5 (q:=λ_=>true) (R:=λ_=>False) (f:=284) (cap:=[]) ad (λi hi=>hi.elim) (λy hy h2 _=>zD6 y h2);have b0:yQ true 3 (kW t) 0=some (.agg (kW t)):=zJ rfl ow;have e1:(kW t)[0]? =some (.int .i64 (t.1:Int)):=rfl;have e2:(kW t)[1]? =some (.int .i64 (t.2.1:Int)):=rfl;have e3:(kW t)[2]? =some (.int .i64 (t.2.2:Int)):=rfl;have a7:Yl al t.1=a.ts:=by simp[Yl,K]
  have u:sx c fs al t=if Ni c a.ts (gW fs t.2.2) (n7 fs t.2.1) 5 (λ_=>true)=true then [[(t.1:Int),(t.2.1:Int),(t.2.2:Int)]]else []:=by unfold sx;rw[a7]
  repeat' first|simp only[go_sem, *]|apply bc<;>intro
  refine a0.mono ?_;rintro r H2 ⟨p,rfl⟩;have F:=(p.2 _ ow).trans P;have z:=au.ext1 p;have v:=(p.2 _ ow).trans ai;have A:=y.ext bb p;cases U:Ni c a.ts (gW fs t.2.2) (n7 fs t.2.1) 5 (λ_=>true)with
  |false=>
   rw[U,iq jD]at u;have b:Y (wn (qx fs al) (sx c fs al) (k+1)) S1 H2:=by rw[rM ht,u,yC];exact A
   have d:∀fr,rH (LpK h.next L (WK m1 (.map (kmD (D.int .i64) M)) m2 (.map (kvD O)) λk=>Y (wn (qx fs al) (sx c fs al) k)) k S0 h3) h.next .normal fr H2:=λfr=>Lp.call s J e E hw v z (λj hj=>.inl hj) (But.refl S1 H2) b;simp only[go_sem];exact d _
  |true=>
   rw[U,ip rfl]at u;have a8:(wn (qx fs al) (sx c fs al) k).length<16777216:=by
    have:=hP (V:=sx c fs al) (l:=qx fs al) (m:=1) (λt _=>by unfold sx;split<;>simp) k;omega
   have N:=y.go _ _ _ [(t.1:Int),(t.2.1:Int),(t.2.2:Int)] .full A a8 jS jS (by
    intro n X;simp only[yE,wu,jz]at X;rcases X with rfl|rfl|rfl<;>exact Nf ow)
   simp only[yL,zq]at N;have ak:=bs3 (t.1:Int) (t.2.1:Int) (t.2.2:Int);simp only[go_sem,F,e1,e2,e3,ak];refine N.mono ?_;rintro r h5 ⟨S5,G,C,b⟩;have ba:Y (wn (qx fs al) (sx c fs al) (k+1)) S5 h5:=by rw[rM ht,u];exact b
   have d:∀fr,rH (LpK h.next L (WK m1 (.map (kmD (D.int .i64) M)) m2 (.map (kvD O)) λk=>Y (wn (qx fs al) (sx c fs al) k)) k S0 h3) h.next .normal fr h5:=λfr=>Lp.call s J e E hw v z G C ba;exact d _
 .intro S2 h5 Z U hw
  obtain⟨S5,G,C,b⟩:=WK.stop I.1.1 I.1.2 Z U hw;rw[oy]at b;simp only[go_sem];exact⟨S5,G,C,b⟩
def Wz(own:List UInt8)(l:List (List UInt8)):Bool:= !(l.any λx=>x==own)
def EX{own:List UInt8}{y:Cla}(a:y.Fine)(c:h.at' id=some (.row [.str own])):zE prog 285 [.agg y.cells,.ptr id 0] h λr h'=>h'=h/\r=.bool (Wz own y.list):=by
 have b:=jb a.1.isSl a.2 own;have k1:y.cells[4]? =some y.d:=rfl;obtain⟨e,f,_⟩:=zp a.1.isSl;unfold Wz;refine zo zHp ?_;simp only[f285,zA]
 repeat' first|simp only[go_sem, *]|apply bc<;>intro b|refine zE.use (b _) ?_
def oI(c:Cat)(fs:List Fac)(al:Nat->Option Alt)(O:KV)(t:Tri):List (List Int):=match pV (tW fs t.2.1) O with
 |none=>[]
 |some own=>if Ni c (Yl al t.1) (gW fs t.2.2) (n7 fs t.2.1) 4 (Wz own)=true then [[(t.1:Int),(t.2.1:Int),(t.2.2:Int)]]else []
theorem zAn{M:KM Int}{O:KV}{m1 m2:Nat}(hs:Stt c fs al M O sc m1 m2)(hn:fs.length<=24)
  {ff:FuncId} {Y:List (List Int)->(Nat->Prop)->Heap->Prop} (y:Fnd2 prog 5 ff cap Y) {w:Heap} (hY:Y [] S w) (K:StH M O m1 m2 w) (n1:¬S m1) (n2:¬S m2):
  zE prog 228 [.iptr sc 0,.fn (.func ff) [] cap] w λ_ h'=>∃S',(∀i,S' i->S i\/w.next<=i)/\But S w h'/\Y ((qx fs al).flatMap (oI c fs al O)) S' h':=by
 have I:=hs;obtain⟨⟨ca,cb,ce,cp,x,rfl,hc,hx,_⟩,sm,cl,cu,ck,halt⟩:=hs;have ba:=λg=>br [ca,cb,ce,cp,x,.map m1,.map m2] g;refine zo zHZ ?_;simp only[f228,zA]
 repeat' first|simp only[go_sem,bY, *]|apply bc<;>intro hc|(refine zE.mono (ba _) ?_;rintro r h ⟨hq,rfl⟩)
 subst hq;generalize hL:LRec.mk _ _ _ _ _ _ _=L;have b9:L.pending=none:=by rw[<-hL]
 have cc:L.st=.ready:=by rw[<-hL]
 have Z:=y.lcl λk=>wn (qx fs al) (oI c fs al O) k;have h4:=nY (al:=al) hn;refine pq (W:=WK m1 (.map (kmD (D.int .i64) M)) m2 (.map (kvD O)) λk=>Y (wn (qx fs al) (oI c fs al O) k)) (n:=(qx fs al).length) (el:=elT (qx fs al)) (S:=λj=>j=m1\/j=m2\/S j) rfl (WK.lcl Z) cc b9 ?_ (λyl b4=>jA I yl (λk S h ⟨_,_,S0,hk,_⟩=>hk.st) b4) ?_ ?_
 .exact WK.start hY K.2.1 K.2.2 K.1.1 K.1.2 n1 n2
 .intro k S0 h3 hk Q ag au bs
  obtain⟨t,ht⟩:∃t,(qx fs al)[k]? =some t:=⟨_,zB hk⟩;have b7:(qx fs al).getD k (0,0,0)=t:=by rw[zC,ht];rfl
  simp only[elT,b7];obtain⟨p1,p2,p3,a,a8⟩:=fo (zj ht);have d:=ag;rw[<-hL]at d;have bx:=Pc t;refine uC.round (g:=Iw) mix d rfl kr kr kr ?_;simp only[go_sem,bx];refine⟨by rw[zg ow];exact d,?_⟩;generalize hB:LRec.mk .busy _ _ _ _ _ _=B;have X:({ B with st:=.ready,pending:=none } :LRec)=L:=by rw[<-hB,<-hL]
  obtain⟨S1,H,a6,b3,A,a7,a9,b2,F,hw⟩:=Lp.open Z au Q bs (.row (kW t)) B;rw[a6];clear bx a6 hB;have cv:yQ true 3 (kW t) 0=some (.agg (kW t)):=zJ rfl ow;have e1:(kW t)[0]? =some (.int .i64 (t.1:Int)):=rfl;have e2:(kW t)[1]? =some (.int .i64 (t.2.1:Int)):=rfl;have e3:(kW t)[2]? =some (.int .i64 (t.2.2:Int)):=rfl;have cg:Yl al t.1=a.ts:=by simp[Yl,a8]
  have a2:=tZ hx p2;have ho:tW fs t.2.1=fs[t.2.1].out:=by simp[tW,p2]
  have k2:fs[t.2.1].cells[2]? =some (.str fs[t.2.1].out):=rfl;rw[<-ho]at k2;clear ho;obtain⟨h0,bo,T,v⟩:=Heap.low H;obtain⟨C,b8⟩:∃n,H.next=n:=⟨_,rfl⟩;have b0:∀s,yR prog 9 (.ptr C 0) (.str s) (H.new C (.row [.str []]))=some (H.new C (.row [.str s])):=λs=>by
   rw[yM (z5 _ _ _) p9 jS rfl rfl,bK];rfl
  have cf:=(v h3.next ow).trans A;have e:=Hc (by rw[v m2 F.2.2];exact F.1.2) (tW fs t.2.1) true;have cm:h3.next<C:=ow;have p:∀o,∃G,H.new C o=G/\Ext H G/\G.at' C=some o/\G.at' h3.next=some (.row (kW t))/\C<G.next/\But (λj=>j=h.next) h3 G/\G.at' h.next=some (.loop B)/\Y (wn (qx fs al) (oI c fs al O) k) S1 G/\StH M O m1 m2 G:=λo=>by
   have hE:Ext H (H.new C o):=(Ext.refl H).new ow _;exact⟨_,rfl,hE,z5 _ _ _,(hE.2 _ ow).trans A,by rw[qQ _ ow];omega,a9.ext1 hE,(hE.2 _ ow).trans a7,y.ext b2 hE,StH.ext F hE⟩
  rw[b8]at T;have b:∀{fr:Frm}{G h5:Heap}{S5:Nat->Prop},G.at' h.next=some (.loop B)->But (λj=>j=h.next) h3 G->(∀j,S5 j->S1 j\/G.next<=j)->But S1 G h5->Y (wn (qx fs al) (oI c fs al O) (k+1)) S5 h5->rH (LpK h.next L (WK m1 (.map (kmD (D.int .i64) M)) m2 (.map (kvD O)) λk=>Y (wn (qx fs al) (oI c fs al O) k)) k S0 h3) h.next .normal fr h5:=λa1 a2 a3 a4 a5=>Lp.call Z X Q bs hw a1 a2 a3 a4 a5;rw[rM ht]at b;clear b3 a7 a9 b2 F A v
  refine yp h0 ((0,.st,true)::((4,.st,true)::(pwt [1,2] ((3,.st,true)::(pwt [5,6] ((7,.st,true)::(pwt [8] ((9,.st,true)::(pwt [10,11] ((12,.st,true)::((13,.st,true)::(pwt [14,15,16,17] (pwf [18,19] []))))))))))))) kr kr bo ?_;cases u:pV (tW fs t.2.1) O with
  |none=>
   rw[u]at e;replace e:uW prog 209 (.map m2) (.str (tW fs t.2.1)) true h0=some (.tuple [.str [],.bool false]):=e;have ak:oI c fs al O t= []:=by unfold oI;rw[u]
   rw[ak,yC]at b;obtain⟨G,hG,a0,g1,g2,g3,g4,g5,g6,_⟩:=p (.row [.str []]);have cs:=λfr=>b (fr:=fr) g5 g4 (λj hj=>.inl hj) (But.refl S1 G) g6;have b1:=b0 [];have bk:=T (.row [.str []]);rw[hG]at b1 bk;clear hw hL X I hY K au d ag ht p b u g1 g2 g3 g4 g5 g6 a0
   repeat' first|simp only[go_sem,qU, *]|apply bc<;>intro
   refine Hr _ e ?_
   repeat' first|simp only[go_sem,qU, *]|apply bc<;>intro hc
  |some own=>
   rw[u]at e;replace e:uW prog 209 (.map m2) (.str (tW fs t.2.1)) true h0=some (.tuple [.str own,.bool true]):=e;have ak:oI c fs al O t=if Ni c a.ts (gW fs t.2.2) (n7 fs t.2.1) 4 (Wz own)=true then [[(t.1:Int),(t.2.1:Int),(t.2.2:Int)]]else []:=by unfold oI;rw[u];simp only[cg]
   rw[ak]at b;obtain⟨G,hG,a0,g1,g2,g3,g4,g5,g6,g7⟩:=p (.row [.str own]);have b6:=zAT I p1 p2 p3 a8 4 (q:=Wz own) (R:=λj=>j=C) (f:=285) (cap:=[.ptr C 0]) g7 (λi hi=>by rw[hi];exact g3) (λz hz h2 hr=>EX hz (by rw[hr _ rfl,g1]));have ch:(wn (qx fs al) (oI c fs al O) k).length<16777216:=by
    have:=hP (V:=oI c fs al O) (l:=qx fs al) (m:=1) (λt _=>by
     unfold oI;split
     .simp
     .split<;>simp) k
    omega
   have b5:=bs3 (t.1:Int) (t.2.1:Int) (t.2.2:Int);have bb:=λS h hy=>y.go _ S h [(t.1:Int),(t.2.1:Int),(t.2.2:Int)] .full hy ch jS jS (by
    intro n hn;simp only[yE,wu,jz]at hn;rcases hn with rfl|rfl|rfl<;>exact Nf ow)
   simp only[yL,zq]at bb;clear hw hL X hY K au d ag ht p u I ba
   repeat' first|simp only[go_sem,qU, *]|apply bc<;>intro
   refine Hr _ e ?_
   repeat' first|simp only[go_sem,qU, *]|apply bc<;>intro
   refine b6.mono ?_;rintro r H2 ⟨E,rfl⟩;have ai:=(E.2 _ ow).trans g2;have P:=g4.ext1 E;have N:=(E.2 _ ow).trans g5;have U:=y.ext g6 E;cases hb:Ni c a.ts (gW fs t.2.2) (n7 fs t.2.1) 4 (Wz own)with
   |false=>
    rw[hb,iq jD,yC]at b;simp only[go_sem];exact b N P (λj hj=>.inl hj) (But.refl S1 H2) U
   |true=>
    rw[hb,ip rfl]at b;simp only[go_sem,ai,e1,e2,e3,b5];refine(bb _ _ U).mono ?_;rintro r h5 ⟨S5,aj,ad,J⟩;exact b N P aj ad J
 .intro S2 h5 hs hb hw
  obtain⟨S5,aj,ad,J⟩:=WK.stop K.1.1 K.1.2 hs hb hw;rw[oy]at J;simp only[go_sem];exact⟨S5,aj,ad,J⟩
def zAW(b:sc[4]? =some x)(c:yg 12 (nu fs) x){t:Tri}(a:t.1<fs.length)(g:Fac)(f:h.at' id=some (.row (kW t))):
  zE prog 287 [.agg g.cells,.iptr [.iptr sc 0] 0,.ptr id 0] h λr h'=>h'=h/\r=.bool (g.comp==sg fs t.1):=by
 have k1:fs[t.1].cells[1]? =some (.str fs[t.1].comp):=rfl;have k2:g.cells[1]? =some (.str g.comp):=rfl;have e1:(kW t)[0]? =some (.int .i64 (t.1:Int)):=rfl;have d:=tZ c a;have j:sg fs t.1=fs[t.1].comp:=by simp[sg,a]
 refine zo zMQ ?_;simp only[f287,zA];simp only[go_sem, *];refine yp Heap.emp (pwf [2,0,1,3,4,5,6,7,8,9,10,11,12] []) kr kr (λi k e=>by cases e) ?_;simp only[go_sem,qU, *]
def aA(fs:List Fac)(i:Nat):Int:=match fs[i]? with
 |some f=>f.duty
 |none=>0
def NQ(fs:List Fac)(i:Nat):Bool:=match fs[i]? with
 |some f=>f.chg
 |none=>false
abbrev bG(fs:List Fac)(i:Nat):List Nat:=fIx 4 (λg=>g.comp==sg fs i) fs
def bH(c:Cat)(fs:List Fac)(al:Nat->Option Alt)(t:Tri)(k:Nat):List (List Int):=
 if((!(aA fs k==2)||NQ fs t.2.1)&&Ni c (Yl al t.1) (gW fs t.2.2) (n7 fs t.2.1) (aA fs k) (λ_=>true))=true then [[(t.1:Int),(t.2.1:Int),(t.2.2:Int),(k:Int)]]else []
def fM(c:Cat)(fs:List Fac)(al:Nat->Option Alt)(t:Tri):List (List Int):=(bG fs t.1).flatMap (bH c fs al t)
def Qw(c:Cat)(fs:List Fac)(al:Nat->Option Alt)(t:Tri)(k:Nat):(bH c fs al t k).length<=1:=by unfold bH;split<;>simp
def WJ(c:Cat)(b:fs.length<=24)(al:Nat->Option Alt)(t:Tri):(fM c fs al t).length<=24:=by
 have h1:=tf (m:=1) (l:=bG fs t.1) λk _=>Qw c fs al t k;have a:(bG fs t.1).length<=fs.length:=th _ fs 0;unfold fM;omega
theorem zD9{M:KM Int}{O:KV}{m1 m2:Nat}(hs:Stt c fs al M O sc m1 m2)(hn:fs.length<=24)
  {ff:FuncId} {Y:List (List Int)->(Nat->Prop)->Heap->Prop} (y:Fnd2 prog 5 ff cap Y) {w:Heap} (hY:Y [] S w) (hH:StH M O m1 m2 w) (n1:¬S m1) (n2:¬S m2):
  zE prog 229 [.iptr sc 0,.fn (.func ff) [] cap] w λ_ h'=>∃S',(∀i,S' i->S i\/w.next<=i)/\But S w h'/\Y ((qx fs al).flatMap (fM c fs al)) S' h':=by
 have Z:=hs;obtain⟨⟨ca,cb,ce,cp,x,rfl,hc,hx,_⟩,sm,dd,c7,b7,halt⟩:=hs;have b6:=λg=>br [ca,cb,ce,cp,x,.map m1,.map m2] g;refine zo zHa ?_;simp only[f229,zA]
 repeat' first|simp only[go_sem,bY, *]|apply bc<;>intro hc|(refine zE.mono (b6 _) ?_;rintro r h ⟨hq,rfl⟩)
 subst hq;generalize hL:LRec.mk _ _ _ _ _ _ _=L;have c8:L.pending=none:=by rw[<-hL]
 have c9:L.st=.ready:=by rw[<-hL]
 have ba:=y.lcl λk=>wn (qx fs al) (fM c fs al) k;have h4:=nY (al:=al) hn;refine pq (W:=WK m1 (.map (kmD (D.int .i64) M)) m2 (.map (kvD O)) λk=>Y (wn (qx fs al) (fM c fs al) k)) (n:=(qx fs al).length) (el:=elT (qx fs al)) (S:=λj=>j=m1\/j=m2\/S j) rfl (WK.lcl ba) c9 c8 ?_ (λyl a9=>jA Z yl (λk S h ⟨_,_,S0,hk,_⟩=>hk.st) a9) ?_ ?_
 .exact WK.start hY hH.2.1 hH.2.2 hH.1.1 hH.1.2 n1 n2
 .intro k S0 h3 hk a6 b9 cv cg
  obtain⟨t,ht⟩:∃t,(qx fs al)[k]? =some t:=⟨_,zB hk⟩;have c4:(qx fs al).getD k (0,0,0)=t:=by rw[zC,ht];rfl
  simp only[elT,c4];obtain⟨p1,p2,p3,a,b3⟩:=fo (zj ht);have s:=b9;rw[<-hL]at s;have cm:=Pc t;refine uC.round (g:=Mr) mix s rfl kr kr kr ?_;simp only[go_sem,cm];refine⟨by rw[zg ow];exact s,?_⟩;generalize hB:LRec.mk .busy _ _ _ _ _ _=B;have bx:({ B with st:=.ready,pending:=none } :LRec)=L:=by rw[<-hB,<-hL]
  obtain⟨S1,H,bo,U,N,bs,b4,c0,z,hw⟩:=Lp.open ba cv a6 cg (.row (kW t)) B;rw[bo];clear cm bo hB;have de:yQ true 3 (kW t) 0=some (.agg (kW t)):=zJ rfl ow;have e1:(kW t)[0]? =some (.int .i64 (t.1:Int)):=rfl;have e2:(kW t)[1]? =some (.int .i64 (t.2.1:Int)):=rfl;have e3:(kW t)[2]? =some (.int .i64 (t.2.2:Int)):=rfl;have da:Yl al t.1=a.ts:=by simp[Yl,b3]
  have b0:∀j,S1 j->j<h3.next:=λj hj=>y.here _ _ _ hw.1 j hj;have b5:=λg=>Zc [ca,cb,ce,cp,x,.map m1,.map m2] 4 (hf:=.fn (.func 287) [] [.iptr [.iptr [ca,cb,ce,cp,x,.map m1,.map m2] 0] 0,.ptr h3.next 0]) ⟨_,_,_,rfl⟩ g;refine(b5 _).mono ?_;rintro r H2 ⟨hq,rfl⟩;subst hq;simp only[go_sem,fI,U];generalize C:LRec.mk .ready _ _ _ _ _ _=L2;have ck:L2.pending=none:=by rw[<-C]
  have cl:L2.st=.ready:=by rw[<-C]
  have E:=y.lcl λk2=>wn (qx fs al) (fM c fs al) k++wn (bG fs t.1) (bH c fs al t) k2;have cf:¬S1 m1/\¬S1 m2:=hw.2.2.2.1;obtain⟨l,hl⟩:∃l:List (Nat×Obj),l= [(m1,.map (kmD (D.int .i64) M)),(m2,.map (kvD O)),(h3.next,.row (kW t))]:=⟨_,rfl⟩;have Q:∀p∈l,p.1<H2.next/\H2.at' p.1=some p.2/\¬S1 p.1:=by
   rw[hl];intro p K;simp only[yE,wu,jz]at K;rcases K with rfl|rfl|rfl
   .exact⟨z.2.1,z.1.1,cf.1⟩
   .exact⟨z.2.2,z.1.2,cf.2⟩
   .exact⟨by rw[U];omega,N,λe=>wK _ (b0 _ e)⟩
  have o:∀{h:Heap},(∀p∈l,p.1<h.next/\h.at' p.1=some p.2)->StH M O m1 m2 h/\h3.next<h.next/\h.at' h3.next=some (.row (kW t)):=by
   rw[hl];intro h K;have q1:=K (m1,.map (kmD (D.int .i64) M)) jS;have q2:=K (m2,.map (kvD O)) jS;have q3:=K (h3.next,.row (kW t)) jS;exact⟨⟨⟨q1.2,q2.2⟩,q1.1,q2.1⟩,q3⟩
  clear hl;refine⟨⟨_,bs⟩,pq (W:=WL l λk2=>Y (wn (qx fs al) (fM c fs al) k++wn (bG fs t.1) (bH c fs al t) k2)) (n:=(bG fs t.1).length) (el:=elI (bG fs t.1)) (S:=λj=>(∃p∈l,j=p.1)\/S1 j) U (WL.lcl E) cl ck ?_ (λyl a9=>dL (sc:=[ca,cb,ce,cp,x,.map m1,.map m2]) rfl hx ow Z.ok yl (R:=λj=>j=h3.next) ?_ (λg hg h2 hr=> ?_) a9) ?_ ?_⟩
  .exact WL.start (by rw[show wn (bG fs t.1) (bH c fs al t) 0= []from rfl,yC];exact c0) Q
  .rintro j rfl
   refine⟨by rw[qQ _ ow];omega,.inr ?_⟩;rintro k S2 h2 ⟨_,_,S0,hk,_⟩;rw[(o hk.st).2.2,zg ow,N]
  .exact(zAW (sc:=[ca,cb,ce,cp,x,.map m1,.map m2]) rfl hx p1 g (by rw[hr _ rfl,zg ow,N])).mono λr h3 e=>e
  .intro k2 S3 h5 c6 J cc cw ch
   obtain⟨v,hv⟩:∃v,(bG fs t.1)[k2]? =some v:=⟨_,zB c6⟩;have c5:(bG fs t.1).getD k2 0=v:=by rw[zC,hv];rfl
   have cu:v<fs.length:=by
    have:=(oG _ fs 0 v (zj hv)).2;omega
   simp only[elI,c5];have u:=cc;rw[<-C]at u;refine uC.round (g:=Mr) mix u rfl kr kr kr ?_;simp only[go_sem];refine⟨u,?_⟩;generalize c1:LRec.mk .busy _ _ _ _ _ _=B2;have ak:({ B2 with st:=.ready,pending:=none } :LRec)=L2:=by rw[<-c1,<-C]
   obtain⟨S4,H4,ad,aj,ag,au,a7,A,d⟩:=Lp.openL0 E cw J ch B2;rw[ad];obtain⟨g1,g2,g3⟩:=o (h:=H4) λp K=>⟨by rw[aj];exact(A p K).1,(A p K).2⟩;have b:∀{fr:Frm}{G h7:Heap}{S5:Nat->Prop},G.at' (h3.next+1)=some (.loop B2)->But (λj=>j=h3.next+1) h5 G->(∀j,S5 j->S4 j\/G.next<=j)->But S4 G h7->Y (wn (qx fs al) (fM c fs al) k++wn (bG fs t.1) (bH c fs al t) (k2+1)) S5 h7->rH (LpK (h3.next+1) L2 (WL l λk2=>Y (wn (qx fs al) (fM c fs al) k++wn (bG fs t.1) (bH c fs al t) k2)) k2 S3 h5) (h3.next+1) .normal fr h7:=λa1 a2 a3 a4 a5=>Lp.callL E ak J ch d a1 a2 a3 a4 a5;rw[rM hv]at b;have b1:=tZ hx cu
   have b2:=tZ hx p2;have k5:fs[v].cells[5]? =some (.int .i64 fs[v].duty):=rfl;have k6:fs[t.2.1].cells[6]? =some (.bool fs[t.2.1].chg):=rfl;have hd:aA fs v=fs[v].duty:=by simp[aA,cu]
   have I:NQ fs t.2.1=fs[t.2.1].chg:=by simp[NQ,p2]
   have b8:bH c fs al t v=if((!(fs[v].duty==2)||fs[t.2.1].chg)&&Ni c a.ts (gW fs t.2.2) (n7 fs t.2.1) fs[v].duty (λ_=>true))=true then [[(t.1:Int),(t.2.1:Int),(t.2.2:Int),(v:Int)]]else []:=by unfold bH;rw[hd,I,da]
   have bb:=zAT Z p1 p2 p3 b3 fs[v].duty (q:=λ_=>true) (R:=λ_=>False) (f:=284) (cap:=[]) g1 (λi hi=>hi.elim) (λy hy h2 _=>zD6 y h2);rw[b8]at b;have cs:(wn (qx fs al) (fM c fs al) k++wn (bG fs t.1) (bH c fs al t) k2).length<16777216:=by
    have q1:=hP (V:=fM c fs al) (l:=qx fs al) (m:=24) (λt _=>WJ c hn al t) k;have q2:=hP (V:=bH c fs al t) (l:=bG fs t.1) (m:=1) (λk _=>Qw c fs al t k) k2;have q3:(bG fs t.1).length<=fs.length:=th _ fs 0;rw[zS];omega
   have X:=λS h hy=>y.go _ S h [(t.1:Int),(t.2.1:Int),(t.2.2:Int),(v:Int)] .full hy cs jS jS (by
    intro n hn;simp only[yE,wu,jz]at hn;rcases hn with rfl|rfl|rfl|rfl<;>exact Nf ow)
   simp only[yL,zq]at X;have c2:=bs4 (t.1:Int) (t.2.1:Int) (t.2.2:Int) (v:Int);clear hd I b8 cs;generalize fs[v]=fv at *
   generalize fs[t.2.1]=fu at *
   clear hL bx C ak Z hY hH cv s b9 ht b6 b5 b7 c7 o Q cc u cw d A ad hv c0 z b4
   repeat' first|simp only[go_sem,qU, *]|apply bc<;>intro
   refine yF kr ?_;cases h2:(fv.duty==2)<;>cases I:fu.chg
   case true.false=>
    rw[h2,I,iq jS,yC]at b;have c3:=λfr=>b (fr:=fr) ag au (λj hj=>.inl hj) (But.refl S4 H4) a7;clear b X bb
    repeat' first|simp only[go_sem,qU, *]|apply bc<;>intro
   all_goals
    rw[h2,I]at b
    repeat' first|simp only[go_sem,qU, *]|apply bc<;>intro
    refine bb.mono ?_;rintro r H5 ⟨T,rfl⟩;have bk:=(T.2 _ g2).trans g3;have a0:=au.ext1 T;have ai:=(T.2 _ (by rw[aj];exact J)).trans ag;have a8:=y.ext a7 T;cases hb:Ni c a.ts (gW fs t.2.2) (n7 fs t.2.1) fv.duty (λ_=>true)with
    |false=>
     rw[hb,iq jD,yC]at b;have c3:=λfr=>b (fr:=fr) ai a0 (λj hj=>.inl hj) (But.refl S4 H5) a8;clear b X bb
     repeat' first|simp only[go_sem, *]|apply bc<;>intro hc
    |true=>
     rw[hb,ip jD]at b;simp only[go_sem,bk,e1,e2,e3,c2];refine(X _ _ a8).mono ?_;rintro r h7 ⟨S5,P,F,d⟩;rw[yY]at d;exact b ai a0 P F d
  .intro S' h5 hs hb d
   obtain⟨S5,P,F,cx⟩:=WL.stop (λp K=>(Q p K).2.1) (λj hj=>by rw[U];exact hs j hj) hb d;rw[oy]at cx;have db:Y (wn (qx fs al) (fM c fs al) (k+1)) S5 h5:=by rw[rM ht];exact cx
   have b:∀fr,rH (LpK h.next L (WK m1 (.map (kmD (D.int .i64) M)) m2 (.map (kvD O)) λk=>Y (wn (qx fs al) (fM c fs al) k)) k S0 h3) h.next .normal fr h5:=λfr=>Lp.call ba bx a6 cg hw bs b4 P F db;simp only[go_sem];exact b _
 .intro S2 h5 hs hb hw
  obtain⟨S5,P,F,d⟩:=WK.stop hH.1.1 hH.1.2 hs hb hw;rw[oy]at d;simp only[go_sem];exact⟨S5,P,F,d⟩
def zDx(x y:Apt)(c:Bool):jR prog .eql 130 c (.agg [.str x.a,.str x.b]) (.agg [.str y.a,.str y.b])=some (.bool (x.a==y.a&&x.b==y.b)):=by
 have d:eqT prog 130=some [.s,.s]:=kr;simp only[jR,d,Ji,eqK,qt,pF,nD]
def F9{l:List Apt}(q:yg 2 (Fq l) d)(D:l.length<=1048576)(n:Apt)(g:Heap):
  zE prog 430 [d,.agg [.str n.a,.str n.b]] g λr h'=>h'=g/\r=.int .i64 (Y7 (λx:Apt=>n.a==x.a&&n.b==x.b) l):=by
 have s:=aO q;have heq:=zDx n;obtain⟨p,t⟩:∃p:Apt->Bool,(λx:Apt=>n.a==x.a&&n.b==x.b)=p:=⟨_,rfl⟩;have m:∀x,(n.a==x.a&&n.b==x.b)=p x:=λx=>by rw[<-t]
 rw[t];refine zo zIG ?_;simp only[f430,zA];simp only[go_sem, *];refine zZ (λi fr h=>fr 0=d/\fr 3=.iptr [.str n.a,.str n.b] 0/\fr 7=.int .i64 (l.length:Int)/\fr 8=.int .i64 (i:Int)/\h=g/\∀j (e:j<l.length),j<i->p l[j]=false) l.length ow ?_ ?_ ?_
 .simp only[go_sem,zQ,zT,zG]
  exact λj e h0=>absurd h0 (ym _)
 .rintro i fr h c e1 C ⟨v,w,y,z,rfl,e⟩
  have u:=Za q c;simp only[Apt.cells]at u;have o:=heq l[i];rw[m]at o;cases k:p l[i]with
  |true=>
   have B:=kL (p:=p) c e k;rw[k]at o;simp only[go_sem, *];refine yF kr ?_;simp only[go_sem, *]
  |false=>
   have A:=uq (p:=p) c e k;rw[k]at o;simp only[go_sem, *];refine yF kr ?_;simp only[go_sem, *];exact A
 .rintro fr h e1 ⟨v,w,y,z,rfl,e⟩
  have B:=kM (p:=p) λj f=>e j f f;exact au
def P9{l:List Apt}(e:yg 2 (Fq l) d)(h:l.length<=1048576)(n:Apt)(g:Heap):
  zE prog 396 [d,.agg [.str n.a,.str n.b]] g λr h'=>h'=g/\r=.bool (l.any λx:Apt=>n.a==x.a&&n.b==x.b):=by
 have c:=F9 e h n;have f:=fJ (l:=l) (p:=λx:Apt=>n.a==x.a&&n.b==x.b);refine zo zIE ?_;simp only[f396,zA]
 repeat' first|simp only[go_sem, *]|apply bc<;>intro i|refine zE.use (c _) ?_
def zNE(a b:List UInt8):Apt:=if(!(VN a b||a==b))=true then⟨b,a⟩else⟨a,b⟩
def cM(c:Cat)(a b:List UInt8):Bool:=(pR c==0)&&c.ps.any λx=>(zNE a b).a==x.a&&(zNE a b).b==x.b
def VW(j:uL c d)(k:c.Sm)(x y:List UInt8)(g:Heap):zE prog 366 [d,.str x,.str y] g λr h'=>h'=g/\r=.bool (cM c x y):=by
 have i:=dK j k;obtain⟨a,b,e,p,rfl,o,s,t,m⟩:=j;have l:∀u v:List UInt8,qX prog 130 [(0,.str u),(1,.str v)]=some (.agg [.str u,.str v]):=λu v=>by simp[qX,Nx,FJ,uc,D.notTuple,D.cells,wg]
 have f:=λn=>P9 m k.ps n;obtain⟨R,h⟩:∃R,cM c x y=R:=⟨_,rfl⟩;rw[h];unfold cM zNE at h;refine zo zIA ?_;simp only[f366,zA];cases q:(VN x y||x==y)with
 |true=>
  rw[iq (by rw[q];decide)]at h;have h1:=f ⟨x,y⟩;subst h
  repeat' first|simp only[go_sem, *]|apply bc<;>intro j|refine zE.use (i _) ?_|refine zE.use (h1 _) ?_
 |false=>
  rw[ip (by rw[q];rfl)]at h;have h1:=f ⟨y,x⟩;subst h
  repeat' first|simp only[go_sem, *]|apply bc<;>intro j|refine zE.use (i _) ?_|refine zE.use (h1 _) ?_
def zIa(c:Cat)(b:List Trm)(x:Trm):Bool:=b.any λy=>cM c x.a y.a
def zB8(c:Cat)(a b:List Trm):Bool:=a.any (zIa c b)
theorem IU{ca cb ce cp:D}{rest:List D}(x:uL c (.agg [ca,cb,ce,cp]))(sm:c.Sm){a b:Alt}(N:a.Ok)(O:b.Ok)(g:Heap):
  zE prog 288 [.iptr (ca::cb::ce::cp::rest) 0,a.d,b.d] g λr h'=>Ext g h'/\r=.bool (zB8 c a.ts b.ts):=by
 have a0:=ua N.sl;have a2:=ua O.sl;have aj:=N.len;have ak:=O.len;obtain⟨q1,q2,_⟩:=zp N.sl;obtain⟨q3,q4,_⟩:=zp O.sl;have hE:Ext g g:=Ext.refl g;have a6:yQ true 4 (ca::cb::ce::cp::rest) 0=some (.agg [ca,cb,ce,cp]):=by simp[yQ]
 refine zo zHr ?_;simp only[f288,zA]
 repeat' first|simp only[go_sem, *]|apply bc<;>intro x
 refine zZ (λi fr h'=>fr 0=.iptr (ca::cb::ce::cp::rest) 0/\fr 2=b.d/\fr 11=a.d/\fr 12=.int .i64 (a.ts.length:Int)/\fr 13=.int .i64 (i:Int)/\Ext g h'/\∀j (t:j<a.ts.length),j<i->zIa c b.ts a.ts[j]=false) a.ts.length ow ?_ ?_ ?_
 .simp only[go_sem,zQ,zT,zG]
  exact⟨hE,λj t h0=>by omega⟩
 .rintro i fr h1 E e1 ew ⟨I,J,l,m,o,A,t⟩
  have a1:=og N.sl E;have Z:=λe=>Xa (p:=zIa c b.ts) E e;have Y:=λe=>uq (p:=zIa c b.ts) E t e;generalize a.ts[i]=z at *
  have G:yR prog 197 (.ptr h1.next 0) (.agg z.cells) (h1.new h1.next (.row [.str [],.str []]))=some (h1.new h1.next (.row z.cells)):=yo ui ow rfl rfl rfl;have a5:yQ true 2 z.cells 0=some (.agg z.cells):=zJ rfl ow;obtain⟨H,hH,f,C,q⟩:∃H,h1.new h1.next (.row z.cells)=H/\H.at' h1.next=some (.row z.cells)/\Ext g H/\h1.next<H.next:=⟨_,rfl,z5 _ _ _,A.new A.1 _,by rw[za];omega⟩;rw[hH]at G
  repeat' first|simp only[go_sem, *]|apply bc<;>intro x
  obtain⟨M,F⟩:∃n,h1.next=n:=⟨_,rfl⟩;rw[F]at f q⊢;refine zZ (λj fr h'=>fr 0=.iptr (ca::cb::ce::cp::rest) 0/\fr 2=b.d/\fr 11=a.d/\fr 12=.int .i64 (a.ts.length:Int)/\fr 13=.int .i64 (i:Int)/\fr 8=.ptr M 0/\fr 17=b.d/\fr 18=.int .i64 (b.ts.length:Int)/\fr 19=.int .i64 (j:Int)/\h'.at' M=some (.row z.cells)/\M<h'.next/\Ext g h'/\∀k (hk:k<b.ts.length),k<j->cM c z.a b.ts[k].a=false) b.ts.length ow ?_ ?_ ?_
  .simp only[go_sem,zQ,zT,zG]
   exact⟨I,J,l,m,o,f,q,C,λj t h0=>by omega⟩
  .clear I J l m o f C G q F
   rintro j T u s e2 ag ⟨I,J,l,m,o,f8,Q,R,S,f,q,B,t⟩;have b1:=og O.sl s;have X:cM c z.a b.ts[j].a=true->zIa c b.ts z=true:=λe=>Xa (p:=λy:Trm=>cM c z.a y.a) s e;have W:=λe=>uq (p:=λy:Trm=>cM c z.a y.a) s t e;generalize b.ts[j]=y at *
   have L:yR prog 197 (.ptr u.next 0) (.agg y.cells) (u.new u.next (.row [.str [],.str []]))=some (u.new u.next (.row y.cells)):=yo ui ow rfl rfl rfl;have a7:yQ true 2 y.cells 0=some (.agg y.cells):=zJ rfl ow;have kz:z.cells[0]? =some (.str z.a):=rfl;have ky:y.cells[0]? =some (.str y.a):=rfl;obtain⟨H3,U,V,a4,ai,ad⟩:∃H,u.new u.next (.row y.cells)=H/\H.at' u.next=some (.row y.cells)/\H.at' M=some (.row z.cells)/\Ext g H/\M<H.next:=⟨_,rfl,z5 _ _ _,by rw[zg ow];exact f,B.new B.1 _,by rw[za];omega⟩;rw[U]at L;have v:=VW x sm z.a y.a H3;cases P:cM c z.a y.a with
   |false=>
    rw[P]at v;have w:=W P
    repeat' first|simp only[go_sem, *]|apply bc<;>intro x
    refine yF kr ?_
    repeat' first|simp only[go_sem,qU, *]|apply bc<;>intro x|(refine zE.mono v ?_;rintro r h ⟨hq,rfl⟩)
    subst hq;exact w
   |true=>
    rw[P]at v;have w:zB8 c a.ts b.ts=true:=Z (X P)
    repeat' first|simp only[go_sem, *]|apply bc<;>intro x
    refine yF kr ?_
    repeat' first|simp only[go_sem,qU, *]|apply bc<;>intro x|refine zE.use v ?_
  .clear I J l m o f C G q F
   rintro T u e2 ⟨I,J,l,m,o,f8,Q,R,S,f,q,B,t⟩;have w:=Y (cL (p:=λy:Trm=>cM c z.a y.a) (λi K _=>t i K K))
   repeat' first|simp only[go_sem, *]|apply bc<;>intro x
   exact w
 .rintro fr h1 e1 ⟨I,J,l,m,o,A,t⟩
  have a3:zB8 c a.ts b.ts=false:=cL λi K _=>t i K K;exact au
def Vg(fs:List Fac)(t r:Tri):Bool:=decide ((r.1:Int)<(t.1:Int))|| !((r.2.2:Int)==(t.2.2:Int))|| !(n7 fs r.2.1==0)||((sg fs t.1==sg fs r.1)&& !((r.2.1:Int)==(t.2.1:Int)))
def mR(c:Cat)(fs:List Fac)(al:Nat->Option Alt)(t r:Tri):List (List Int):=
 if(!(Vg fs t r)&&zB8 c (Yl al t.1) (Yl al r.1))=true then [[(t.1:Int),(r.1:Int),(t.2.1:Int),(r.2.1:Int),(t.2.2:Int)]]else []
def pQ(c:Cat)(fs:List Fac)(al:Nat->Option Alt)(t:Tri):List (List Int):=if(n7 fs t.2.1==0)=true then(qx fs al).flatMap (mR c fs al t)else []
def Vq(c:Cat)(fs:List Fac)(al:Nat->Option Alt)(t r:Tri):(mR c fs al t r).length<=1:=by unfold mR;split<;>simp
def ZZ(c:Cat)(a:fs.length<=24)(al:Nat->Option Alt)(t:Tri):(pQ c fs al t).length<=4096:=by
 unfold pQ;split
 .have h1:=tf (m:=1) (l:=qx fs al) λr _=>Vq c fs al t r
  grind [nY]
 .simp
theorem zAN{M:KM Int}{O:KV}{m1 m2:Nat}(hs:Stt c fs al M O sc m1 m2)(hn:fs.length<=24)
  {ff:FuncId} {Y:List (List Int)->(Nat->Prop)->Heap->Prop} (y:Fnd2 prog 5 ff cap Y) {w:Heap} (hY:Y [] S w) (hH:StH M O m1 m2 w) (n1:¬S m1) (n2:¬S m2):
  zE prog 230 [.iptr sc 0,.fn (.func ff) [] cap] w λ_ h'=>∃S',(∀i,S' i->S i\/w.next<=i)/\But S w h'/\Y ((qx fs al).flatMap (pQ c fs al)) S' h':=by
 have o:=hs;obtain⟨⟨ca,cb,ce,cp,x,rfl,X,hx,_⟩,sm,dt,de,cu,halt⟩:=hs;have ai:=λg=>br [ca,cb,ce,cp,x,.map m1,.map m2] g;refine zo zHb ?_;simp only[f230,zA]
 repeat' first|simp only[go_sem,bY, *]|apply bc<;>intro X|(refine zE.mono (ai _) ?_;rintro r h ⟨hq,rfl⟩)
 subst hq
 rename Heap=>w
 generalize hL:LRec.mk _ _ _ _ _ _ _=L;have di:L.pending=none:=by rw[<-hL]
 have dk:L.st=.ready:=by rw[<-hL]
 have b4:=y.lcl λk=>wn (qx fs al) (pQ c fs al) k;have h4:=nY (al:=al) hn;refine pq (W:=WK m1 (.map (kmD (D.int .i64) M)) m2 (.map (kvD O)) λk=>Y (wn (qx fs al) (pQ c fs al) k)) (n:=(qx fs al).length) (el:=elT (qx fs al)) (S:=λj=>j=m1\/j=m2\/S j) rfl (WK.lcl b4) dk di ?_ (λyl b0=>jA o yl (λk S h ⟨_,_,S0,hk,_⟩=>hk.st) b0) ?_ ?_
 .exact WK.start hY hH.2.1 hH.2.2 hH.1.1 hH.1.2 n1 n2
 .intro k S0 h3 hk a9 b5 cc cx
  obtain⟨t,ht⟩:∃t,(qx fs al)[k]? =some t:=⟨_,zB hk⟩;have db:(qx fs al).getD k (0,0,0)=t:=by rw[zC,ht];rfl
  simp only[elT,db];obtain⟨p1,p2,p3,a,Z⟩:=fo (zj ht);have s:=b5;rw[<-hL]at s;have U:=Pc t;refine uC.round (g:=Ms) mix s rfl kr kr kr ?_;simp only[go_sem,U];refine⟨by rw[zg ow];exact s,?_⟩;generalize hB:LRec.mk .busy _ _ _ _ _ _=B;have bx:({ B with st:=.ready,pending:=none } :LRec)=L:=by rw[<-hB,<-hL]
  obtain⟨S1,H,ck,bs,c5,bo,cs,cf,F,hw⟩:=Lp.open b4 cc a9 cx (.row (kW t)) B;rw[ck];clear U ck hB;have dv:yQ true 3 (kW t) 0=some (.agg (kW t)):=zJ rfl ow;have e1:(kW t)[0]? =some (.int .i64 (t.1:Int)):=rfl;have e2:(kW t)[1]? =some (.int .i64 (t.2.1:Int)):=rfl;have e3:(kW t)[2]? =some (.int .i64 (t.2.2:Int)):=rfl;have dr:Yl al t.1=a.ts:=by simp[Yl,Z]
  have cl:∀j,S1 j->j<h3.next:=λj hj=>y.here _ _ _ hw.1 j hj;have a2:=tZ hx p2;have c4:n7 fs t.2.1=fs[t.2.1].rel:=by simp[n7,p2]
  have k3:fs[t.2.1].cells[3]? =some (.int .i64 fs[t.2.1].rel):=rfl;have v:∀{fr:Frm}{G h7:Heap}{S5:Nat->Prop},G.at' w.next=some (.loop B)->But (λj=>j=w.next) h3 G->(∀j,S5 j->S1 j\/G.next<=j)->But S1 G h7->Y (wn (qx fs al) (pQ c fs al) (k+1)) S5 h7->rH (LpK w.next L (WK m1 (.map (kmD (D.int .i64) M)) m2 (.map (kvD O)) λk=>Y (wn (qx fs al) (pQ c fs al) k)) k S0 h3) w.next .normal fr h7:=λa1 a2 a3 a4 a5=>Lp.call b4 bx a9 cx hw a1 a2 a3 a4 a5;rw[rM ht]at v;refine yF kr ?_;rw[<-c4]at k3;clear c4;cases c3:(n7 fs t.2.1==0)with
  |false=>
   have hv:pQ c fs al t= []:=by unfold pQ;rw[c3];rfl
   rw[hv,yC]at v;have aj:=λfr=>v (fr:=fr) bo cs (λj hj=>.inl hj) (But.refl S1 H) cf;clear hL bx o hY hH cc s b5 ht ai v
   repeat' first|simp only[go_sem,qU, *]|apply bc<;>intro X
  |true=>
   have hv:pQ c fs al t=(qx fs al).flatMap (mR c fs al t):=by unfold pQ;rw[c3];rfl
   rw[hv]at v
   repeat' first|simp only[go_sem,qU,bY, *]|apply bc<;>intro X|(refine zE.mono (ai _) ?_;rintro r h ⟨hq,rfl⟩)
   subst hq
   rename Heap=>H
   generalize J:LRec.mk .ready _ _ _ _ _ _=L2;have c1:L2.pending=none:=by rw[<-J]
   have c2:L2.st=.ready:=by rw[<-J]
   have K:=y.lcl λk2=>wn (qx fs al) (pQ c fs al) k++wn (qx fs al) (mR c fs al t) k2;have cw:¬S1 m1/\¬S1 m2:=hw.2.2.2.1;obtain⟨l,hl⟩:∃l:List (Nat×Obj),l= [(m1,.map (kmD (D.int .i64) M)),(m2,.map (kvD O)),(h3.next,.row (kW t))]:=⟨_,rfl⟩;have V:∀p∈l,p.1<H.next/\H.at' p.1=some p.2/\¬S1 p.1:=by
    rw[hl];intro p R;simp only[yE,wu,jz]at R;rcases R with rfl|rfl|rfl
    .exact⟨F.2.1,F.1.1,cw.1⟩
    .exact⟨F.2.2,F.1.2,cw.2⟩
    .exact⟨by rw[bs];omega,c5,λe=>wK _ (cl _ e)⟩
   have z:∀{h:Heap},(∀p∈l,p.1<h.next/\h.at' p.1=some p.2)->StH M O m1 m2 h/\h3.next<h.next/\h.at' h3.next=some (.row (kW t)):=by
    rw[hl];intro h R;have q1:=R (m1,.map (kmD (D.int .i64) M)) jS;have q2:=R (m2,.map (kvD O)) jS;have q3:=R (h3.next,.row (kW t)) jS;exact⟨⟨⟨q1.2,q2.2⟩,q1.1,q2.1⟩,q3⟩
   clear hl;refine⟨⟨_,bo⟩,pq (W:=WL l λk2=>Y (wn (qx fs al) (pQ c fs al) k++wn (qx fs al) (mR c fs al t) k2)) (n:=(qx fs al).length) (el:=elT (qx fs al)) (S:=λj=>(∃p∈l,j=p.1)\/S1 j) bs (WL.lcl K) c2 c1 ?_ (λyl b0=>jA o yl (λk S h ⟨_,_,S0,hk,_⟩=>(z hk.st).1) b0) ?_ ?_⟩
   .exact WL.start (by rw[show wn (qx fs al) (mR c fs al t) 0= []from rfl,yC];exact cf) V
   .intro k2 S3 h5 dd ba cv c8 c0
    obtain⟨r,hr⟩:∃r,(qx fs al)[k2]? =some r:=⟨_,zB dd⟩;have da:(qx fs al).getD k2 (0,0,0)=r:=by rw[zC,hr];rfl
    obtain⟨r1,r2,r3,b,ad⟩:=fo (zj hr);simp only[elT,da];have A:=cv;rw[<-J]at A;have U:=Pc r;refine uC.round (g:=Ms) mix A rfl kr kr kr ?_;simp only[go_sem,U];refine⟨by rw[zg ow];exact A,?_⟩;generalize ch:LRec.mk .busy _ _ _ _ _ _=B2;have a6:({ B2 with st:=.ready,pending:=none } :LRec)=L2:=by rw[<-ch,<-J]
    obtain⟨S4,H4,ak,ds,b6,au,a7,bb,I,q⟩:=Lp.openL K c8 ba c0 (.row (kW r)) B2;rw[ak];clear ak ch U;obtain⟨g1,g2,g3⟩:=z (h:=H4) λp R=>⟨by have:=(I p R).1;omega,(I p R).2⟩;have f:∀{fr:Frm}{G h7:Heap}{S5:Nat->Prop},G.at' (h3.next+1)=some (.loop B2)->But (λj=>j=h3.next+1) h5 G->(∀j,S5 j->S4 j\/G.next<=j)->But S4 G h7->Y (wn (qx fs al) (pQ c fs al) k++wn (qx fs al) (mR c fs al t) (k2+1)) S5 h7->rH (LpK (h3.next+1) L2 (WL l λk2=>Y (wn (qx fs al) (pQ c fs al) k++wn (qx fs al) (mR c fs al t) k2)) k2 S3 h5) (h3.next+1) .normal fr h7:=λa1 a2 a3 a4 a5=>Lp.callL K a6 ba c0 q a1 a2 a3 a4 a5
    rw[rM hr]at f;have b1:=tZ hx p1;have b2:=tZ hx r1;have b3:=tZ hx r2;have o1:(kW r)[0]? =some (.int .i64 (r.1:Int)):=rfl;have o2:(kW r)[1]? =some (.int .i64 (r.2.1:Int)):=rfl;have o3:(kW r)[2]? =some (.int .i64 (r.2.2:Int)):=rfl;have w1:sg fs t.1=fs[t.1].comp:=by simp[sg,p1]
    have w2:sg fs r.1=fs[r.1].comp:=by simp[sg,r1]
    have w3:n7 fs r.2.1=fs[r.2.1].rel:=by simp[n7,r2]
    have k5:fs[t.1].cells[1]? =some (.str fs[t.1].comp):=rfl;have k6:fs[r.1].cells[1]? =some (.str fs[r.1].comp):=rfl;have k7:fs[r.2.1].cells[3]? =some (.int .i64 fs[r.2.1].rel):=rfl;rw[<-w1]at k5;rw[<-w2]at k6;rw[<-w3]at k7;clear w1 w2 w3;have c7:(wn (qx fs al) (pQ c fs al) k++wn (qx fs al) (mR c fs al t) k2).length<16777216:=by
     have q1:(wn (qx fs al) (pQ c fs al) k).length<=k*4096:=by
      have:=tf (m:=4096) (l:=(qx fs al).take k) λt _=>ZZ c hn al t;rw[yK]at this;exact zY this (yt _ (Nat.min_le_left _ _))
     have q2:(wn (qx fs al) (mR c fs al t) k2).length<=k2*1:=by
      have:=tf (m:=1) (l:=(qx fs al).take k2) λr _=>Vq c fs al t r;rw[yK]at this;exact zY this (yt _ (Nat.min_le_left _ _))
     rw[zS];omega
    have N:=λS h hy=>y.go _ S h [(t.1:Int),(r.1:Int),(t.2.1:Int),(r.2.1:Int),(t.2.2:Int)] .full hy c7 jS jS (by
     intro n hn;simp only[yE,wu,jz]at hn;rcases hn with rfl|rfl|rfl|rfl|rfl<;>exact Nf ow)
    simp only[yL,zq]at N;have u:=bs5 (t.1:Int) (r.1:Int) (t.2.1:Int) (r.2.1:Int) (t.2.2:Int);have P:=Th o g1.1.1 p1 false;rw[Z]at P;replace P:uW prog 208 (.map m1) (.int .i64 (t.1:Int)) false H4=some a.d:=P;have Q:=Th o g1.1.1 r1 false;rw[ad]at Q;replace Q:uW prog 208 (.map m1) (.int .i64 (r.1:Int)) false H4=some b.d:=Q;have c6:Yl al r.1=b.ts:=by simp[Yl,ad]
    have cm:mR c fs al t r=if(!(Vg fs t r)&&zB8 c a.ts b.ts)=true then [[(t.1:Int),(r.1:Int),(t.2.1:Int),(r.2.1:Int),(t.2.2:Int)]]else []:=by unfold mR;rw[dr,c6]
    rw[cm]at f;have ag:=IU (rest:=[x,.map m1,.map m2]) X sm (o.alt _ _ Z) (o.alt _ _ ad) H4;obtain⟨q1,q2,_⟩:=zp (o.alt _ _ Z).sl;obtain⟨q3,q4,_⟩:=zp (o.alt _ _ ad).sl;have du:h3.next<h5.next:=ow;clear hL bx J a6 o hY hH cc s b5 ht ai cu de z V cv A c8 q I cf F v hv cm c7;generalize h3.next=n3 at *
    generalize h5.next=n5 at *
    refine yp Heap.emp (pwf [0,9,1,2,3,4,5,6,7,8,10,11,12,13,14,15,16,17,18,19] []) kr kr (λi ob e=>by cases e) ?_
    repeat' first|simp only[go_sem,qU, *]|apply bc<;>intro X
    refine gD (λC h'=>C 75=.bool (Vg fs t r)/\C 2=.iptr [.iptr [ca,cb,ce,cp,x,.map m1,.map m2] 0] 0/\C 3=.iptr [.fn (.func ff) [] cap] 0/\C 4=.ptr n3 0/\C 5=.ptr n5 0/\h'=H4) ?_ ?_
    .refine yF kr ?_
     unfold Vg;clear f N ag
     repeat' first|simp only[go_sem,qU, *]|apply bc<;>intro X
    rintro C G ⟨cg,f2,f3,f4,f5,rfl⟩;clear b1 b2 b3 k5 k6 k7 a2 k3;cases b9:Vg fs t r with
    |true=>
     rw[b9,iq jS,yC]at f;rw[b9]at cg;have aj:=λfr=>f (fr:=fr) au a7 (λj hj=>.inl hj) (But.refl S4 G) bb;clear f N ag
     repeat' first|simp only[go_sem, *]|apply bc<;>intro X
    |false=>
     rw[b9]at f cg
     repeat' first|simp only[go_sem, *]|apply bc<;>intro X
     refine yp Heap.emp (pwf [0,1,8,2,3,4,5,6,7,9,10,11,12,13,14,15] []) kr kr (λi ob e=>by cases e) ?_
     repeat' first|simp only[go_sem,qU, *]|apply bc<;>intro X
     refine ag.mono ?_;rintro r' H5 ⟨E,rfl⟩;have b7:=(E.2 _ g2).trans g3;have b8:=(E.2 _ ow).trans b6;have a8:=a7.ext1 E;have a0:=(E.2 _ ow).trans au;have bk:=y.ext bb E;cases hb:zB8 c a.ts b.ts with
     |false=>
      rw[hb,iq jD,yC]at f;have aj:=λfr=>f (fr:=fr) a0 a8 (λj hj=>.inl hj) (But.refl S4 H5) bk;clear f N ag
      repeat' first|simp only[go_sem, *]|apply bc<;>intro X
     |true=>
      rw[hb,ip jD]at f;simp only[go_sem,f2,f3,f4,f5,b7,b8,e1,e2,e3,o1,o2,o3,u];refine(N _ _ bk).mono ?_;rintro r h7 ⟨S5,T,u,q⟩;rw[yY]at q;exact f a0 a8 T u q
   .intro S' h5 hs hb q
    obtain⟨S5,T,u,c9⟩:=WL.stop (λp R=>(V p R).2.1) (λj hj=>by rw[bs];exact hs j hj) hb q;rw[oy]at c9;have aj:=λfr=>v (fr:=fr) bo cs T u c9;simp only[go_sem];exact aj _
 .intro S2 h5 hs hb hw
  obtain⟨S5,T,u,q⟩:=WK.stop hH.1.1 hH.1.2 hs hb hw;rw[oy]at q;simp only[go_sem];exact⟨S5,T,u,q⟩
def zAY(g:Fac)(h:Heap):zE prog 289 [.agg g.cells] h λr h'=>h'=h/\r=.bool true:=by
 refine zo zHs ?_;simp only[f289,zA];exact au
def zAa(g:Fac)(h:Heap):zE prog 291 [.agg g.cells] h λr h'=>h'=h/\r=.bool true:=by
 refine zo zMR ?_;simp only[f291,zA];exact au
def zAZ(b:sc[4]? =some x)(c:yg 12 (nu fs) x){u:Nat}(a:u<fs.length)(g:Fac)(f:h.at' id=some (.row [.int .i64 (u:Int)])):
  zE prog 290 [.agg g.cells,.iptr [.iptr sc 0] 0,.ptr id 0] h λr h'=>h'=h/\r=.bool (g.out==tW fs u):=by
 have k1:fs[u].cells[2]? =some (.str fs[u].out):=rfl;have k2:g.cells[2]? =some (.str g.out):=rfl;have d:=tZ c a;have j:tW fs u=fs[u].out:=by simp[tW,a]
 refine zo zHt ?_;simp only[f290,zA];simp only[go_sem, *];refine yp Heap.emp (pwf [2,6,0,1,3,4,5,7,8,9,10,11] []) kr kr (λi k e=>by cases e) ?_;simp only[go_sem,qU, *]
def WR(fs:List Fac)(i:Nat):List (List UInt8):=match fs[i]? with
 |some f=>f.list
 |none=>[]
abbrev cG(fs:List Fac):List Nat:=fIx 3 (λ_=>true) fs
abbrev W0(fs:List Fac):List Nat:=fIx 2 (λ_=>true) fs
def WZ(i h:Nat):List (List Int):=[[(i:Int),(h:Int)]]
def kR(fs:List Fac)(O:KV)(i:Nat):List (List Int):=match pV (tW fs i) O with
 |none=>[]
 |some own=>if((WR fs i).any λs=>s==own)=true then []else(kV fs i).flatMap (WZ i)
def Wa(b:fs.length<=24)(O:KV)(i:Nat):(kR fs O i).length<=24:=by
 unfold kR;split
 .simp
 .split
  .simp
  .have h1:=tf (m:=1) (l:=kV fs i) λh _=>(show(WZ i h).length<=1 from zD _)
   have a:(kV fs i).length<=fs.length:=th _ fs 0;omega
theorem zEB{M:KM Int}{O:KV}{m1 m2:Nat}(hs:Stt c fs al M O sc m1 m2)(hn:fs.length<=24)
  {ff:FuncId} {Y:List (List Int)->(Nat->Prop)->Heap->Prop} (y:Fnd2 prog 5 ff cap Y) {w:Heap} (hY:Y [] S w) (hH:StH M O m1 m2 w) (n1:¬S m1) (n2:¬S m2):
  zE prog 231 [.iptr sc 0,.fn (.func ff) [] cap] w λ_ h'=>∃S',(∀i,S' i->S i\/w.next<=i)/\But S w h'/\Y ((cG fs).flatMap (kR fs O)) S' h':=by
 have X:=hs;obtain⟨⟨ca,cb,ce,cp,x,rfl,hc,hx,_⟩,sm,c8,c2,c7,halt⟩:=hs;have F:=λg=>Zc [ca,cb,ce,cp,x,.map m1,.map m2] 3 (hf:=.fn (.func 289) [] []) ⟨_,_,_,rfl⟩ g;refine zo zHc ?_;simp only[f231,zA]
 repeat' first|simp only[go_sem,fI, *]|apply bc<;>intro hc|(refine zE.mono (F _) ?_;rintro r h ⟨hq,rfl⟩)
 subst hq
 rename Heap=>w
 generalize hL:LRec.mk _ _ _ _ _ _ _=L;have c3:L.pending=none:=by rw[<-hL]
 have c4:L.st=.ready:=by rw[<-hL]
 have ba:=y.lcl λk=>wn (cG fs) (kR fs O) k;refine pq (W:=WK m1 (.map (kmD (D.int .i64) M)) m2 (.map (kvD O)) λk=>Y (wn (cG fs) (kR fs O) k)) (n:=(cG fs).length) (el:=elI (cG fs)) (S:=λj=>j=m1\/j=m2\/S j) rfl (WK.lcl ba) c4 c3 ?_ (λyl a9=>dL (sc:=[ca,cb,ce,cp,x,.map m1,.map m2]) rfl hx ow X.ok yl (R:=λj=>False) (λ_ h=>h.elim) (λg hg h2 hr=>zAY g h2) a9) ?_ ?_
 .exact WK.start hY hH.2.1 hH.2.2 hH.1.1 hH.1.2 n1 n2
 .intro k S0 h3 hk ag bo bs cf
  obtain⟨t,ht⟩:∃t,(cG fs)[k]? =some t:=⟨_,zB hk⟩;have cw:(cG fs).getD k 0=t:=by rw[zC,ht];rfl
  have p1:t<fs.length:=by
   have:=(oG _ fs 0 t (zj ht)).2;omega
  simp only[elI,cw];have b:=bo;rw[<-hL]at b;have au:yR prog 3 (.ptr h3.next 0) (.int .i64 (t:Int)) (h3.new h3.next (.row [.int .i64 0]))=some (h3.new h3.next (.row [.int .i64 (t:Int)])):=by
   rw[yM (z5 _ _ _) uz jS rfl rfl,bK];rfl
  refine uC.round (g:=Mt) mix b rfl kr kr kr ?_;simp only[go_sem,au];refine⟨by rw[zg ow];exact b,?_⟩;generalize hB:LRec.mk .busy _ _ _ _ _ _=B;have a8:({ B with st:=.ready,pending:=none } :LRec)=L:=by rw[<-hB,<-hL]
  obtain⟨S1,H,b0,a7,P,a6,b7,Z,a0,hw⟩:=Lp.open ba bs ag cf (.row [.int .i64 (t:Int)]) B;rw[b0];clear au b0 hB;have b6:∀j,S1 j->j<h3.next:=λj hj=>y.here _ _ _ hw.1 j hj;have b1:=tZ hx p1;have ch:tW fs t=fs[t].out:=by simp[tW,p1]
  have cc:WR fs t=fs[t].list:=by simp[WR,p1]
  have q:∀{fr:Frm}{G h7:Heap}{S5:Nat->Prop},G.at' w.next=some (.loop B)->But (λj=>j=w.next) h3 G->(∀j,S5 j->S1 j\/G.next<=j)->But S1 G h7->Y (wn (cG fs) (kR fs O) (k+1)) S5 h7->rH (LpK w.next L (WK m1 (.map (kmD (D.int .i64) M)) m2 (.map (kvD O)) λk=>Y (wn (cG fs) (kR fs O) k)) k S0 h3) w.next .normal fr h7:=λa1 a2 a3 a4 a5=>Lp.call ba a8 ag cf hw a1 a2 a3 a4 a5;rw[rM ht]at q;have k1:fs[t].cells[2]? =some (.str fs[t].out):=rfl;have k2:fs[t].cells[8]? =some (.int .i64 0)\/True:=.inr trivial;have k8:fs[t].cells[11]? =some fs[t].d:=rfl;have bx:=c2 _ (zI p1);have bb:=jb bx.list bx.ll
  obtain⟨q1,q2,_⟩:=zp bx.list;have u:=Hc a0.1.2 (tW fs t) true;have o:kR fs O t=match pV (tW fs t) O with
   |none=>[]
   |some own=>if(fs[t].list.any λs=>s==own)=true then []else(kV fs t).flatMap (WZ t):=by unfold kR;rw[cc]
  rw[<-ch]at k1;clear ch cc k2;generalize fs[t]=f at *
  refine yp Heap.emp (pwf [0,4,8,1,2,3,5,6,7,9,10,11,12,13,14,15,16,17] []) kr kr (λi ob e=>by cases e) ?_;have a:kR fs O t= []->∀fr,rH (LpK w.next L (WK m1 (.map (kmD (D.int .i64) M)) m2 (.map (kvD O)) λk=>Y (wn (cG fs) (kR fs O) k)) k S0 h3) w.next .normal fr H:=λe fr=>by
   rw[e,yC]at q;exact q a6 b7 (λj hj=>.inl hj) (But.refl S1 H) Z
  cases N:pV (tW fs t) O with
  |none=>
   rw[N]at u o;replace u:uW prog 209 (.map m2) (.str (tW fs t)) true H=some (.tuple [.str [],.bool false]):=u;have bk:=a o;clear hL a8 X hY hH bs b bo ht F q a o N Z a0
   repeat' first|simp only[go_sem,qU, *]|apply bc<;>intro
   refine yp Heap.emp (pwf [0,1,2,3,7,4,5,6,8,9,10,11,12,13] []) kr kr (λi ob e=>by cases e) ?_
   repeat' first|simp only[go_sem,qU, *]|apply bc<;>intro hc
  |some own=>
   rw[N]at u o;replace u:uW prog 209 (.map m2) (.str (tW fs t)) true H=some (.tuple [.str own,.bool true]):=u;cases J:f.list.any λs=>s==own with
   |true=>
    have bk:=a (by rw[o];simp only[J,qK]);clear hL a8 X hY hH bs b bo ht F q a o N Z a0;have E:=bb own H;rw[J]at E
    repeat' first|simp only[go_sem,qU, *]|apply bc<;>intro
    refine yp Heap.emp (pwf [0,1,2,3,7,4,5,6,8,9,10,11,12,13] []) kr kr (λi ob e=>by cases e) ?_
    repeat' first|simp only[go_sem,qU, *]|apply bc<;>intro hc|(refine zE.mono E ?_;rintro r h ⟨hq,rfl⟩)
   |false=>
    have aj:kR fs O t=(kV fs t).flatMap (WZ t):=by rw[o];simp only[J,zf,yr]
    rw[aj]at q;have E:=bb own H;rw[J]at E;clear a o aj N bb J;have cv:=λg=>Zc [ca,cb,ce,cp,x,.map m1,.map m2] 2 (hf:=.fn (.func 290) [] [.iptr [.iptr [ca,cb,ce,cp,x,.map m1,.map m2] 0] 0,.ptr h3.next 0]) ⟨_,_,_,rfl⟩ g
    repeat' first|simp only[go_sem,qU, *]|apply bc<;>intro
    refine yp Heap.emp (pwf [0,1,2,3,7,4,5,6,8,9,10,11,12,13] []) kr kr (λi ob e=>by cases e) ?_
    repeat' first|simp only[go_sem,qU, *]|apply bc<;>intro hc|(refine zE.mono E ?_;rintro r h ⟨hq,rfl⟩)
    subst hq
    rename Heap=>H
    repeat' first|simp only[go_sem,fI, *]|apply bc<;>intro hc|(refine zE.mono (cv _) ?_;rintro r h ⟨hq,rfl⟩)
    subst hq
    rename Heap=>H
    generalize U:LRec.mk .ready _ _ _ _ _ _=L2;have ck:L2.pending=none:=by rw[<-U]
    have cl:L2.st=.ready:=by rw[<-U]
    have A:=y.lcl λk2=>wn (cG fs) (kR fs O) k++wn (kV fs t) (WZ t) k2;obtain⟨l,hl⟩:∃l:List (Nat×Obj),l= [(h3.next,.row [.int .i64 (t:Int)])]:=⟨_,rfl⟩;have ak:∀p∈l,p.1<H.next/\H.at' p.1=some p.2/\¬S1 p.1:=by
     rw[hl];intro p hp;cases zi.1 hp;exact⟨by rw[a7];omega,P,λe=>wK _ (b6 _ e)⟩
    have I:∀{h:Heap},(∀p∈l,p.1<h.next/\h.at' p.1=some p.2)->h3.next<h.next/\h.at' h3.next=some (.row [.int .i64 (t:Int)]):=by
     rw[hl];exact λhp=>hp (h3.next,.row [.int .i64 (t:Int)]) jS
    clear hl;refine⟨⟨_,a6⟩,pq (W:=WL l λk2=>Y (wn (cG fs) (kR fs O) k++wn (kV fs t) (WZ t) k2)) (n:=(kV fs t).length) (el:=elI (kV fs t)) (S:=λj=>(∃p∈l,j=p.1)\/S1 j) a7 (WL.lcl A) cl ck ?_ (λyl a9=>dL (sc:=[ca,cb,ce,cp,x,.map m1,.map m2]) rfl hx ow X.ok yl (R:=λj=>j=h3.next) ?_ (λg hg h2 hr=> ?_) a9) ?_ ?_⟩
    .exact WL.start (by rw[show wn (kV fs t) (WZ t) 0= []from rfl,yC];exact Z) ak
    .rintro j rfl
     refine⟨by rw[qQ _ ow];omega,.inr ?_⟩;rintro k S2 h2 ⟨_,_,S0,hk,_⟩;rw[(I hk.st).2,zg ow,P]
    .exact(zAZ (sc:=[ca,cb,ce,cp,x,.map m1,.map m2]) rfl hx p1 g (by rw[hr _ rfl,zg ow,P])).mono λr h3 e=>e
    .intro k2 S3 h5 c0 ai c1 c6 cg
     obtain⟨v,hv⟩:∃v,(kV fs t)[k2]? =some v:=⟨_,zB c0⟩;have cx:(kV fs t).getD k2 0=v:=by rw[zC,hv];rfl
     have c9:v<fs.length:=by
      have:=(oG _ fs 0 v (zj hv)).2;omega
     simp only[elI,cx];have K:=c1;rw[<-U]at K;refine uC.round (g:=Mt) mix K rfl kr kr kr ?_;simp only[go_sem];refine⟨K,?_⟩;generalize cs:LRec.mk .busy _ _ _ _ _ _=B2;have b5:({ B2 with st:=.ready,pending:=none } :LRec)=L2:=by rw[<-cs,<-U]
     obtain⟨S4,H4,b2,b4,b3,b8,cm,ad,z⟩:=Lp.openL0 A c6 ai cg B2;rw[b2];obtain⟨g2,g3⟩:=I (h:=H4) λp hp=>⟨by rw[b4];exact(ad p hp).1,(ad p hp).2⟩;have c5:(wn (cG fs) (kR fs O) k++wn (kV fs t) (WZ t) k2).length<16777216:=by
      have q1:=hP (V:=kR fs O) (l:=cG fs) (m:=24) (λt _=>Wa hn O t) k;have q2:=hP (V:=WZ t) (l:=kV fs t) (m:=1) (λk _=>zD _) k2;have q3:(kV fs t).length<=fs.length:=th _ fs 0;have q4:(cG fs).length<=fs.length:=th _ fs 0;rw[zS];omega
     have b9:=y.go _ S4 H4 [(t:Int),(v:Int)] .full cm c5 jS jS (by
      intro n hn;simp only[yE,wu,jz]at hn;rcases hn with rfl|rfl<;>exact Nf ow)
     simp only[yL,zq]at b9;have cu:=bs2 (t:Int) (v:Int);simp only[go_sem,cu,g3];refine b9.mono ?_;rintro r h7 ⟨S5,Q,C,T⟩;rw[yY]at T;refine Lp.callL A b5 ai cg z b3 b8 Q C ?_;rw[rM hv];exact T
    .intro S' h5 hs hb z
     obtain⟨S5,Q,C,T⟩:=WL.stop (λp hp=>(ak p hp).2.1) (λj hj=>by rw[a7];exact hs j hj) hb z;rw[oy]at T;have bk:=λfr=>q (fr:=fr) a6 b7 Q C T;simp only[go_sem];exact bk _
 .intro S2 h5 hs hb hw
  obtain⟨S5,Q,C,z⟩:=WK.stop hH.1.1 hH.1.2 hs hb hw;rw[oy]at z;simp only[go_sem];exact⟨S5,Q,C,z⟩
def Q8(h:Nat):List (List Int):=[[(h:Int)]]
def Zt(c:Cat)(fs:List Fac):List (List Int):=if decide ((c.ls.length:Int)>0)=true then []else(W0 fs).flatMap Q8
def zEC{M:KM Int}{O:KV}{m1 m2:Nat}(C:Stt c fs al M O sc m1 m2)(hn:fs.length<=24)
  {ff:FuncId} {Y:List (List Int)->(Nat->Prop)->Heap->Prop} (y:Fnd2 prog 5 ff cap Y) {w:Heap} (hY:Y [] S w) (hH:StH M O m1 m2 w) (n1:¬S m1) (n2:¬S m2):
  zE prog 232 [.iptr sc 0,.fn (.func ff) [] cap] w λ_ h'=>∃S',(∀i,S' i->S i\/w.next<=i)/\But S w h'/\Y (Zt c fs) S' h':=by
 have X:=C;obtain⟨⟨ca,cb,ce,cp,x,rfl,hc,hx,K⟩,sm,au,a4,ak,halt⟩:=C;have a3:=rV K;have d:=λg=>Zc [ca,cb,ce,cp,x,.map m1,.map m2] 2 (hf:=.fn (.func 291) [] []) ⟨_,_,_,rfl⟩ g;refine zo zHd ?_;simp only[f232,zA];cases hd:decide ((c.ls.length:Int)>0)with
 |true=>
  have b:Zt c fs= []:=by unfold Zt;rw[hd];rfl
  have a2:∃S',(∀i,S' i->S i\/w.next<=i)/\But S w w/\Y (Zt c fs) S' w:=⟨S,λi hi=>.inl hi,But.refl S w,by rw[b];exact hY⟩;clear b d
  repeat' first|simp only[go_sem,qU, *]|apply bc<;>intro hc
 |false=>
  have b:Zt c fs=(W0 fs).flatMap Q8:=by unfold Zt;rw[hd];rfl
  rw[b];clear b
  repeat' first|simp only[go_sem,qU,fI, *]|apply bc<;>intro hc|(refine zE.mono (d _) ?_;rintro r h ⟨hq,rfl⟩)
  subst hq
  rename Heap=>w
  generalize A:LRec.mk _ _ _ _ _ _ _=L;have T:L.pending=none:=by rw[<-A]
  have U:L.st=.ready:=by rw[<-A]
  have o:=y.lcl λk=>wn (W0 fs) Q8 k;obtain⟨l,hl⟩:∃l:List (Nat×Obj),l= []:=⟨_,rfl⟩;have f:∀p∈l,p.1<w.next/\w.at' p.1=some p.2/\¬S p.1:=by rw[hl];intro p Q;cases Q
  clear hl;refine pq (W:=WL l λk=>Y (wn (W0 fs) Q8 k)) (n:=(W0 fs).length) (el:=elI (W0 fs)) (S:=λj=>(∃p∈l,j=p.1)\/S j) rfl (WL.lcl o) U T (WL.start hY f) (λyl G=>dL (sc:=[ca,cb,ce,cp,x,.map m1,.map m2]) rfl hx ow X.ok yl (R:=λj=>False) (λ_ h=>h.elim) (λg hg h2 hr=>zAa g h2) G) ?_ ?_
  .intro k S0 h3 hk e P ag v
   obtain⟨t,Z⟩:∃t,(W0 fs)[k]? =some t:=⟨_,zB hk⟩;have N:(W0 fs).getD k 0=t:=by rw[zC,Z];rfl
   have p1:t<fs.length:=by
    have:=(oG _ fs 0 t (zj Z)).2;omega
   simp only[elI,N];have a:=P;rw[<-A]at a;refine uC.round (g:=zPx) mix a rfl kr kr kr ?_;simp only[go_sem];refine⟨a,?_⟩;generalize hB:LRec.mk .busy _ _ _ _ _ _=B;have F:({ B with st:=.ready,pending:=none } :LRec)=L:=by rw[<-hB,<-A]
   obtain⟨S1,H,D,a1,E,J,aj,a0,hw⟩:=Lp.openL0 o ag e v B;rw[D];have ad:(wn (W0 fs) Q8 k).length<16777216:=by
    have q2:=hP (V:=Q8) (l:=W0 fs) (m:=1) (λk _=>zD _) k;have q3:(W0 fs).length<=fs.length:=th _ fs 0;omega
   have u:=y.go _ S1 H [(t:Int)] .full aj ad jS jS (by
    intro n hn;cases zi.1 hn;exact Nf ow)
   simp only[yL,zq]at u;have I:=bs1 (t:Int);simp only[go_sem,I];refine u.mono ?_;rintro r h7 ⟨S5,s,q,ai⟩;refine Lp.callL o F e v hw E J s q ?_;rw[rM Z];exact ai
  .intro S2 h5 C hb hw
   obtain⟨S5,s,q,z⟩:=WL.stop (λp Q=>(f p Q).2.1) C hb hw;rw[oy]at z;simp only[go_sem];exact⟨S5,s,q,z⟩
end Go.V
