/- Rules of the machine of abstract values, part 11. No condition. -/
import Derived.Test.YtmkfpfodpehkoaaGreatDoorW37
set_option linter.all false
set_option maxHeartbeats 8000000
namespace Go.V
abbrev KM(κ:Type):=List (κ×D)
def kmD{κ:Type}(enc:κ->D)(m:KM κ):List (D×D):=m.map λp=>(enc p.1,p.2)
def fZ{κ:Type}[BEq κ](k:κ):KM κ->Option D
 | []=>none
 |(k',v)::m=>if k==k' then some v else fZ k m
def cq{κ:Type}[BEq κ](k:κ)(v:D):KM κ->KM κ
 | []=>[(k,v)]
 |(k',v')::m=>if k==k' then(k,v)::m else(k',v')::cq k v m
structure KEnc{κ:Type}[BEq κ](enc:κ->D)(ag:Bool)(ks:List Kd):Prop where
 eq:∀a b,eqK ks (enc a).cells (enc b).cells=some (a==b)
 shape:∀a,yi ag (enc a)=true
section
variable{κ:Type}[BEq κ]{enc:κ->D}{ag:Bool}{ks:List Kd}(E:KEnc enc ag ks)
include E
theorem V8(k:κ):∀m:KM κ,lh ks (enc k) (kmD enc m)=some (fZ k m)
 | []=>rfl
 |(k',v)::m=>by
  have a:=V8 k m;show(match eqK ks (enc k).cells (enc k').cells with|some true=>some (some v)|some false=>lh ks (enc k) (kmD enc m)|none=>none)=_
  rw[E.eq];cases h:(k==k')with
  |true=>simp[fZ,h]
  |false=>simp only[fZ,h,a];rfl
theorem K7(k:κ)(v:D):∀m:KM κ,NY ks (enc k) v (kmD enc m)=some (kmD enc (cq k v m))
 | []=>rfl
 |(k',b)::m=>by
  have a:=K7 k v m;show(match eqK ks (enc k).cells (enc k').cells with|some true=>some ((enc k,v)::kmD enc m)|some false=>(NY ks (enc k) v (kmD enc m)).map ((enc k',b):: ·)|none=>none)=_
  rw[E.eq];cases h:(k==k')with
  |true=>simp[cq,h,kmD]
  |false=>simp only[cq,h,a];rfl
def Tn(m:KM κ):(kmD enc m).all (λx=>yi ag x.1)=true:=by
 rw[ze];intro x a;obtain⟨p,_,rfl⟩:=zT.1 a;exact E.shape _
omit E in
theorem To [LawfulBEq κ](k k':κ)(v:D):∀m:KM κ,fZ k (cq k' v m)=if k==k' then some v else fZ k m
 | []=>by simp[cq,fZ]
 |(k2,c)::m=>by
  have b:=To k k' v m;simp only[cq];by_cases h:k'=k2
  ·subst h;simp only[wM,qG,fZ];by_cases g:k=k'
   ·subst g;simp
   ·simp[g]
  ·have a:(k'==k2)=false:=by simp[h]
   simp only[a,zW,yz,fZ,b];by_cases g:k=k2
   ·subst g
    have:(k==k')=false:=by simp;exact λe=>h e.symm
    simp[this]
   ·simp[g]
variable{P:Program}{t kt e:TypeId}{z:D}{id:Nat}{h:Heap}{m:KM κ}
def LM(a:h.at' id=some (.map (kmD enc m)))(c:NS P t=some (kt,e))(b:NM P kt=some (ag,ks))(d:sD P e=some z)(k:κ)(hr:(k==k)=true)(ok:Bool):
  uF P t (.map id) (enc k) ok h=some (dS ok z (fZ k m)):=by
 simp only[uF,c,b,d,WE,a,gy,Tn E,E.eq,E.shape,V8 E,tz,yr,qG]
def Ui(a:h.at' id=some (.map (kmD enc m)))(c:NS P t=some (kt,e))(b:NM P kt=some (ag,ks))(k:κ)(v:D):
  wv P t (.map id) (enc k) v h=some (h.set id (.map (kmD enc (cq k v m)))):=by
 simp only[wv,c,b,a,Tn E,E.eq,E.shape,V8 E,K7 E,tz,yr,qG]
end
def zCg:KEnc (λi:Int=>D.int .i64 i) false [.i]:=
 ⟨λa b=>by show(if IntKind.i64=IntKind.i64 then(eqK [] [] []).map (a==b&& ·)else none)=_;simp[eqK],λ_=>rfl⟩
structure Fnd2(P:Program)(mx:Nat)(f:FuncId)(cap:List D)(Y:List (List Int)->(Nat->Prop)->Heap->Prop):Prop where
 here:∀ks S h,Y ks S h->∀i,S i->i<h.next
 loc:∀ks S h h',Y ks S h->h.next<=h'.next->(∀i,S i->h'.at' i=h.at' i)->Y ks S h'
 go:∀ks S h l tk,Y ks S h->ks.length<16777216->0<l.length->l.length<=mx->(∀n∈l,fits .i64 n)->zB P f ([]++ [.sl 1 (uq l) tk]++cap) h λ_ h'=>∃S',(∀i,S' i->S i\/h.next<=i)/\But S h h'/\Y (ks++ [l]) S' h'
variable{P:Program}{f:FuncId}{cap sc:List D}{S:Nat->Prop}{h h' h0 g:Heap}{t:TypeId}{fr:Frm}{c:Cat}{fs:List Fac}{al:Nat->Option Alt}{i id k:Nat}{x d:D}{α β:Type}
def Fnd2.lcl{mx:Nat}{Y:List (List Int)->(Nat->Prop)->Heap->Prop}(y:Fnd2 P mx f cap Y)(els:Nat->List (List Int)):Lcl λk=>Y (els k):=
 ⟨λk=>y.here (els k),λk=>y.loc (els k)⟩
def Fnd2.ext{mx:Nat}{Y:List (List Int)->(Nat->Prop)->Heap->Prop}(y:Fnd2 P mx f cap Y){ks:List (List Int)}(b:Y ks S h)(a:Ext h h'):Y ks S h':=
 y.loc ks S h h' b a.1 λi c=>a.2 i (y.here ks S h b i c)
section
variable{W:Nat->(Nat->Prop)->Heap->Prop}{id m1 m2 k:Nat}{o1 o2:Obj}{L B:LRec}{h3 H h5:Heap}{S0 S1 S5:Nat->Prop}{fr:Frm}
def Lcl.round(d:Lcl W)(g:W k S1 h3)(b:∀i,S1 i->S0 i)(c:¬S0 id)(a:But (λi=>i=id) h3 H):W k S1 H:=
 d.loc _ _ _ _ g a.1 λi f=>a.2 i (d.here _ _ _ g i f) λe=>c (by rw[<-e];exact b i f)
def Lp.call(v:Lcl W)(m:({ B with st:=.ready,pending:=none } :LRec)=L)(h:id<h3.next)(d:¬S0 id)(n:W k S1 h3/\(m1<h3.next/\m2<h3.next)/\(h3.at' m1=some o1/\h3.at' m2=some o2)/\(¬S1 m1/\¬S1 m2)/\∀i,S0 i↔(i=m1\/i=m2\/S1 i))
  (l:H.at' id=some (.loop B)) (c:But (λi=>i=id) h3 H) (f:∀j,S5 j->S1 j\/H.next<=j) (b:But S1 H h5) (x:W (k+1) S5 h5):
  rq (LpK id L (WK m1 o1 m2 o2 W) k S0 h3) id .normal fr h5:=by
 obtain⟨_,⟨C,D⟩,⟨t,u⟩,⟨r,s⟩,a⟩:=n;have w:=c.1;have o:=b.1;have y:m1≠id:=λe=>d (by rw[<-e];exact(a _).2 (.inl rfl));have z:m2≠id:=λe=>d (by rw[<-e];exact(a _).2 (.inr (.inl rfl)));have A:¬S1 id:=λe=>d ((a _).2 (.inr (.inr e)));refine Lp.fin (WK.lcl v) m h d (S':=λi=>i=m1\/i=m2\/S5 i) ?_ (λi g=> ?_) ⟨by omega,λi g p=> ?_⟩ ⟨S5,x,⟨by omega,by omega⟩,⟨?_,?_⟩,⟨λe=> ?_,λe=> ?_⟩,λi=>Iff.rfl⟩
 ·rw[b.2 _ ow A];exact l
 ·rcases g with rfl|rfl|g
  ·exact .inl ((a _).2 (.inl rfl))
  ·exact .inl ((a _).2 (.inr (.inl rfl)))
  ·exact(f i g).imp (λq=>(a _).2 (.inr (.inr q))) λq=>by omega
 ·rw[b.2 i ow λe=>p (.inr ((a _).2 (.inr (.inr e)))),c.2 i g λe=>p (.inl e)]
 ·rw[b.2 _ ow r,c.2 _ C y];exact t
 ·rw[b.2 _ ow s,c.2 _ D z];exact u
 ·rcases f _ e with q|q
  ·exact r q
  ·omega
 ·rcases f _ e with q|q
  ·exact s q
  ·omega
def Lp.open(m:Lcl W)(f:WK m1 o1 m2 o2 W k S0 h3)(hid:id<h3.next)(b:¬S0 id)(o:Obj)(B:LRec):
  ∃S1 H,(h3.new h3.next o).set id (.loop B)=H/\H.next=h3.next+1/\H.at' h3.next=some o/\H.at' id=some (.loop B)/\But (λj=>j=id) h3 H/\W k S1 H/\((H.at' m1=some o1/\H.at' m2=some o2)/\(m1<H.next/\m2<H.next))/\
   (W k S1 h3/\(m1<h3.next/\m2<h3.next)/\(h3.at' m1=some o1/\h3.at' m2=some o2)/\(¬S1 m1/\¬S1 m2)/\∀i,S0 i↔(i=m1\/i=m2\/S1 i)):=by
 obtain⟨S1,g,⟨h,l⟩,⟨e1,e2⟩,⟨s,t⟩,a⟩:=f;have q:m1≠id:=λe=>b (by rw[<-e];exact(a _).2 (.inl rfl));have r:m2≠id:=λe=>b (by rw[<-e];exact(a _).2 (.inr (.inl rfl)));have d:((h3.new h3.next o).set id (.loop B)).next=h3.next+1:=by rw[qS,yA]
 have c:But (λj=>j=id) h3 ((h3.new h3.next o).set id (.loop B)):=⟨by omega,λj u p=>by rw[zx p,zz ow]⟩;exact⟨S1,_,rfl,d,by rw[zx ow,yQ],zi _ _ _,c,Lcl.round m g (λi n=>(a _).2 (.inr (.inr n))) b c,⟨⟨by rw[c.2 _ h q];exact e1,by rw[c.2 _ l r];exact e2⟩,by omega,by omega⟩,g,⟨h,l⟩,⟨e1,e2⟩,⟨s,t⟩,a⟩
def But.ext1{a b c:Heap}(d:But S a b)(e:Ext b c):But S a c:=d.trans (e.but S) λi f=>.inl f
def Heap.low(H:Heap):∃h0,HLe h0 H/\(∀o,HLe h0 (H.new H.next o))/\∀i,i<H.next->h0.at' i=H.at' i:=
 ⟨⟨H.next,λi=>if i=H.next then none else H.at' i⟩,λi b e=>by
   simp only at e;split at e
   ·cases e
   ·exact e,λo i b e=>by
   simp only at e;split at e
   ·cases e
   ·rename_i a;rw[zz a];exact e,λi a=>by
   simp only;rw[iq ow]⟩
end
def zD3(P:Program)(h0:Heap)(t:TypeId)(m k:D)(ok:Bool)(K:D->Prop):Prop:=∃d,(∀h',HLe h0 h'->onS (uF P t m k ok h') λd'=>d'=d/\h'=h')/\K d
@[congr] theorem B5{m m' k k':D}{ok:Bool}{K:D->Prop}(hf:m=m')(ha:k=k'):zD3 P h0 t m k ok K=zD3 P h0 t m' k' ok K:=by rw[hf,ha]
variable{fr:Frm}{id k:Nat}
@[go_sem ↓] theorem GN(t:TypeId)(a b:Operand)(ok:Bool)(K:D->Prop):Xg P h0 (.lookup t a b ok) (qt fr) K=zD3 P h0 t (qt fr a) (qt fr b) ok K:=by
 unfold Xg zD3 Ie;simp only[go_sem]
def JG{m k:D}{ok:Bool}{K:D->Prop}(d:D)(c:uF P t m k ok h0=some d)(b:K d):zD3 P h0 t m k ok K:=
 ⟨d,λh' a=>by rw[VK a c];exact⟨rfl,rfl⟩,b⟩
open Go.Proofs.Tryz
open Go.Proofs
set_option maxRecDepth 100000
structure Stt(c:Cat)(fs:List Fac)(al:Nat->Option Alt)(M:KM Int)(O:KV)(sc:List D)(m1 m2:Nat):Prop where
 sc:∃a b e p x,sc= [a,b,e,p,x,.map m1,.map m2]/\uM c (.agg [a,b,e,p])/\ye 12 (dj fs) x/\ye 4 (jJ c.ls) a
 sm:c.Sm
 len:fs.length<=256
 ok:∀f∈fs,f.Ok
 get:∀i,i<fs.length->fZ (i:Int) M=(al i).map Alt.d
 alt:∀i a,al i=some a->a.Ok
def StH(M:KM Int)(O:KV)(m1 m2:Nat)(h:Heap):Prop:=
 (h.at' m1=some (.map (kmD (D.int .i64) M))/\h.at' m2=some (.map (kvD O)))/\(m1<h.next/\m2<h.next)
def StH.ext{M:KM Int}{O:KV}{m1 m2:Nat}(s:StH M O m1 m2 h)(e:Ext h h'):StH M O m1 m2 h':=by
 obtain⟨⟨a,b⟩,c,d⟩:=s;have:=e.1;exact⟨⟨by rw[e.2 _ c];exact a,by rw[e.2 _ d];exact b⟩,by omega,by omega⟩
def V4{M:KM Int}{O:KV}{m1 m2:Nat}(e:Stt c fs al M O sc m1 m2)(a:h.at' m1=some (.map (kmD (D.int .i64) M)))(b:i<fs.length)(ok:Bool):
  uF prog 116 (.map m1) (.int .i64 (i:Int)) ok h=some (dS ok .nilsl ((al i).map Alt.d)):=by
 rw[<-e.get i b];exact LM zCg a NT Ea bi (i:Int) (by simp) ok
def K0{O:KV}{m2:Nat}(a:h.at' m2=some (.map (kvD O)))(s:List UInt8)(ok:Bool):
  uF prog 117 (.map m2) (.str s) ok h=some (dS ok (.str []) ((o5 s O).map .str)):=
 LN a NU Tm Xx s ok
abbrev Tri:=Nat×Nat×Nat
def tK(fs:List Fac)(i:Nat):List UInt8:=match fs[i]? with
 |some f=>f.comp
 |none=>[]
def tX(fs:List Fac)(i:Nat):List UInt8:=match fs[i]? with
 |some f=>f.out
 |none=>[]
def Nt(fs:List Fac)(i u:Nat):List Tri:=(fIx 2 (λg=>g.out==tX fs u) fs).map λh=>(i,u,h)
def Ns(fs:List Fac)(al:Nat->Option Alt)(i:Nat):List Tri:=if(al i).isSome=true then(fIx 0 (λg=>g.comp==tK fs i) fs).flatMap (Nt fs i)else []
def qj(fs:List Fac)(al:Nat->Option Alt):List Tri:=(List.range fs.length).flatMap (Ns fs al)
def lw(t:Tri):List D:=[.int .i64 (t.1:Int),.int .i64 (t.2.1:Int),.int .i64 (t.2.2:Int)]
abbrev elT(l:List Tri)(k:Nat):List D:=[.agg (lw (l.getD k (0,0,0)))]
def cF(sc:List D):D:=.fn (.func 278) [] [.iptr [.iptr sc 0] 0]
def cR(sc:List D)(h:Heap):zB prog 194 [.iptr sc 0] h λr h'=>h'=h/\r=cF sc:=by
 refine z5 zDR ?_;simp only[f194,zA];simp only[go_sem,cF]
def zAC(f g:Fac)(a:h.at' id=some (.row f.cells)):zB prog 279 [.agg g.cells,.ptr id 0] h λr h'=>h'=h/\r=.bool (g.comp==f.comp):=by
 have k1:f.cells[1]? =some (.str f.comp):=rfl;have k2:g.cells[1]? =some (.str g.comp):=rfl;refine z5 zDk ?_;simp only[f279,zA];exact au
def zAD(b:sc[4]? =some x)(c:ye 12 (dj fs) x){u:Nat}(a:u<fs.length)(g:Fac)(f:h.at' id=some (.row [.int .i64 (u:Int)])):
  zB prog 280 [.agg g.cells,.iptr [.iptr sc 0] 0,.ptr id 0] h λr h'=>h'=h/\r=.bool (g.out==tX fs u):=by
 have k1:fs[u].cells[2]? =some (.str fs[u].out):=rfl;have k2:g.cells[2]? =some (.str g.out):=rfl;have d:=wR c a;have j:tX fs u=fs[u].out:=by simp[tX,a]
 refine z5 zDl ?_;simp only[f280,zA];simp only[go_sem, *];refine qD Heap.emp [(2,.no,false),(6,.no,false),(0,.no,false),(1,.no,false),(3,.no,false),(4,.no,false),(5,.no,false),(7,.no,false),(8,.no,false),(9,.no,false),(10,.no,false),(11,.no,false)] kr kr (λi k e=>by cases e) ?_;simp only[go_sem,qH, *]
def WL(l:List (Nat×Obj))(W:Nat->(Nat->Prop)->Heap->Prop)(k:Nat)(S:Nat->Prop)(h:Heap):Prop:=
 ∃S1,W k S1 h/\(∀p∈l,p.1<h.next/\h.at' p.1=some p.2/\¬S1 p.1)/\∀i,S i↔((∃p∈l,i=p.1)\/S1 i)
section
variable{l:List (Nat×Obj)}{W:Nat->(Nat->Prop)->Heap->Prop}{id k:Nat}{L B:LRec}{h h3 H h5:Heap}{S S0 S1 S5 S':Nat->Prop}{fr:Frm}
def WL.lcl(f:Lcl W):Lcl (WL l W):=by
 refine⟨λk S h y i e=> ?_,λk S h h' y m g=> ?_⟩
 ·obtain⟨S1,c,d,a⟩:=y;rcases(a i).1 e with⟨p,b,rfl⟩ |q
  ·exact(d p b).1
  ·exact f.here _ _ _ c i q
 ·obtain⟨S1,c,d,a⟩:=y;refine⟨S1,f.loc _ _ _ _ c m λi e=>g i ((a i).2 (.inr e)),λp b=> ?_,a⟩;obtain⟨n,b2,j⟩:=d p b;exact⟨by omega,by rw[g p.1 ((a _).2 (.inl ⟨p,b,rfl⟩))];exact b2,j⟩
def WL.start(a:W k S h)(h1:∀p∈l,p.1<h.next/\h.at' p.1=some p.2/\¬S p.1):WL l W k (λi=>(∃p∈l,i=p.1)\/S i) h:=
 ⟨S,a,h1,λ_=>Iff.rfl⟩
def WL.stop(h1:∀p∈l,h.at' p.1=some p.2)(m:∀i,S' i->((∃p∈l,i=p.1)\/S i)\/h.next<=i)(d:But (λi=>(∃p∈l,i=p.1)\/S i) h h')(n:WL l W k S' h'):
  ∃S1,(∀i,S1 i->S i\/h.next<=i)/\But S h h'/\W k S1 h':=by
 obtain⟨S1,f,c,g⟩:=n;refine⟨S1,λi a=> ?_,⟨d.1,λi a j=> ?_⟩,f⟩
 ·rcases m i ((g i).2 (.inr a))with(⟨p,b,rfl⟩ |q)|q
  ·exact absurd a (c p b).2.2
  ·exact .inl q
  ·exact .inr q
 ·by_cases q:∃p∈l,i=p.1
  ·obtain⟨p,b,rfl⟩:=q;rw[(c p b).2.1,h1 p b]
  ·exact d.2 i a λe=>e.elim q j
def WL.st(c:WL l W k S h):∀p∈l,p.1<h.next/\h.at' p.1=some p.2:=by
 obtain⟨S1,_,b,_⟩:=c;exact λp a=>⟨(b p a).1,(b p a).2.1⟩
def Lp.callL(x:Lcl W)(o:({ B with st:=.ready,pending:=none } :LRec)=L)(m:id<h3.next)(d:¬S0 id)(r:W k S1 h3/\(∀p∈l,p.1<h3.next/\h3.at' p.1=some p.2/\¬S1 p.1)/\∀i,S0 i↔((∃p∈l,i=p.1)\/S1 i))
  (n:H.at' id=some (.loop B)) (c:But (λi=>i=id) h3 H) (g:∀j,S5 j->S1 j\/H.next<=j) (b:But S1 H h5) (z:W (k+1) S5 h5):
  rq (LpK id L (WL l W) k S0 h3) id .normal fr h5:=by
 obtain⟨_,v,a⟩:=r;have y:=c.1;have t:=b.1;have C:¬S1 id:=λe=>d ((a _).2 (.inr e));refine Lp.fin (WL.lcl x) o m d (S':=λi=>(∃p∈l,i=p.1)\/S5 i) ?_ (λi f=> ?_) ⟨by omega,λi f u=> ?_⟩ ⟨S5,z,λp h=> ?_,λi=>Iff.rfl⟩
 ·rw[b.2 _ ow C];exact n
 ·rcases f with⟨p,h,rfl⟩ |f
  ·exact .inl ((a _).2 (.inl ⟨p,h,rfl⟩))
  ·exact(g i f).imp (λq=>(a _).2 (.inr q)) λq=>by omega
 ·rw[b.2 i ow λe=>u (.inr ((a _).2 (.inr e))),c.2 i f λe=>u (.inl e)]
 ·obtain⟨w,b2,s⟩:=v p h;have A:p.1≠id:=λe=>d (by rw[<-e];exact(a _).2 (.inl ⟨p,h,rfl⟩));refine⟨by omega,by rw[b.2 _ ow s,c.2 _ w A];exact b2,λe=> ?_⟩;rcases g _ e with q|q
  ·exact s q
  ·omega
def Lp.openL(q:Lcl W)(f:WL l W k S0 h3)(hid:id<h3.next)(b:¬S0 id)(o:Obj)(B:LRec):
  ∃S1 H,(h3.new h3.next o).set id (.loop B)=H/\H.next=h3.next+1/\H.at' h3.next=some o/\H.at' id=some (.loop B)/\But (λj=>j=id) h3 H/\W k S1 H/\(∀p∈l,p.1<h3.next/\H.at' p.1=some p.2)/\
   (W k S1 h3/\(∀p∈l,p.1<h3.next/\h3.at' p.1=some p.2/\¬S1 p.1)/\∀i,S0 i↔((∃p∈l,i=p.1)\/S1 i)):=by
 obtain⟨S1,g,h,a⟩:=f;have d:((h3.new h3.next o).set id (.loop B)).next=h3.next+1:=by rw[qS,yA]
 have c:But (λj=>j=id) h3 ((h3.new h3.next o).set id (.loop B)):=⟨by omega,λj u s=>by rw[zx s,zz ow]⟩;refine⟨S1,_,rfl,d,by rw[zx ow,yQ],zi _ _ _,c,Lcl.round q g (λi r=>(a _).2 (.inr r)) b c,λp n=> ?_,g,h,a⟩;obtain⟨m,b2,t⟩:=h p n;exact⟨m,by rw[c.2 _ m λe=>b (by rw[<-e];exact(a _).2 (.inl ⟨p,n,rfl⟩))];exact b2⟩
def Lp.openL0(o:Lcl W)(f:WL l W k S0 h3)(hid:id<h3.next)(b:¬S0 id)(B:LRec):
  ∃S1 H,h3.set id (.loop B)=H/\H.next=h3.next/\H.at' id=some (.loop B)/\But (λj=>j=id) h3 H/\W k S1 H/\(∀p∈l,p.1<h3.next/\H.at' p.1=some p.2)/\
   (W k S1 h3/\(∀p∈l,p.1<h3.next/\h3.at' p.1=some p.2/\¬S1 p.1)/\∀i,S0 i↔((∃p∈l,i=p.1)\/S1 i)):=by
 obtain⟨S1,g,h,a⟩:=f;have d:(h3.set id (.loop B)).next=h3.next:=qS _ _ _;have c:But (λj=>j=id) h3 (h3.set id (.loop B)):=⟨by omega,λj t r=>zx r⟩;refine⟨S1,_,rfl,d,zi _ _ _,c,Lcl.round o g (λi q=>(a _).2 (.inr q)) b c,λp n=> ?_,g,h,a⟩;obtain⟨m,b2,s⟩:=h p n;exact⟨m,by rw[c.2 _ m λe=>b (by rw[<-e];exact(a _).2 (.inl ⟨p,n,rfl⟩))];exact b2⟩
end
def Km{l:List α}{f:α->List β}{a b:Nat}{x:α}(h:l[a]? =some x)(c:b<(f x).length):(l.flatMap f)[gL l f a+b]? =(f x)[b]? :=by
 obtain⟨h1,rfl⟩:=zR.1 h;rw[EX h1 c,zE c]
def dm{l:List α}{f:α->List β}{a:Nat}{x:α}(h:l[a]? =some x):gL l f (a+1)=gL l f a+(f x).length:=by
 obtain⟨h1,rfl⟩:=zR.1 h;exact Mh h1
def EY{l:List α}{f:α->List β}{a b:Nat}{x:α}(h:l[a]? =some x)(c:b<(f x).length):gL l f a+b<(l.flatMap f).length:=by
 obtain⟨h1,rfl⟩:=zR.1 h;exact zGX h1 c
theorem tU{f:α->List β}{m:Nat} :∀{l:List α},(∀x∈l,(f x).length<=m)->(l.flatMap f).length<=l.length*m
 | [],_=>by simp
 |x::l,h=>by
  have:=tU (f:=f) (l:=l) λy a=>h y (qI _ a);have b:=h x (by simp);rw[tP,zM,zm,qf];omega
abbrev GT(fs:List Fac)(i:Nat):List Nat:=fIx 0 (λg=>g.comp==tK fs i) fs
abbrev lr(fs:List Fac)(u:Nat):List Nat:=fIx 2 (λg=>g.out==tX fs u) fs
abbrev Zz(fs:List Fac)(al:Nat->Option Alt)(i:Nat):Nat:=gL (List.range fs.length) (Ns fs al) i
abbrev UJ(fs:List Fac)(i k:Nat):Nat:=gL (GT fs i) (Nt fs i) k
section
variable{fs:List Fac}{al:Nat->Option Alt}{i k k2 u v:Nat}
def C3(b:i<fs.length)(a:(al i).isSome=false):Zz fs al (i+1)=Zz fs al i:=by
 unfold Zz;rw[dm (x:=i) (by simp[b])];simp[Ns,a]
def H7(b:i<fs.length)(a:(al i).isSome=true):Zz fs al (i+1)=Zz fs al i+UJ fs i (GT fs i).length:=by
 unfold Zz UJ;rw[dm (x:=i) (by simp[b]),Tc];simp[Ns,a]
def JP(a:(GT fs i)[k]? =some u):UJ fs i (k+1)=UJ fs i k+(lr fs u).length:=by
 unfold UJ;rw[dm a];simp[Nt]
def GR(j:i<fs.length)(h:(al i).isSome=true)(e:(GT fs i)[k]? =some u)(b:(lr fs u)[k2]? =some v):
  Zz fs al i+(UJ fs i k+k2)<(qj fs al).length/\(qj fs al)[Zz fs al i+(UJ fs i k+k2)]? =some (i,u,v):=by
 obtain⟨l,_⟩:=zR.1 b;have d:k2<(Nt fs i u).length:=by unfold Nt;rw[zI];exact l
 have a:=EY (f:=Nt fs i) e d;have c:Ns fs al i=(GT fs i).flatMap (Nt fs i):=by unfold Ns;rw[ip h]
 rw[<-c]at a;have hr:(List.range fs.length)[i]? =some i:=by simp[j]
 refine⟨EY (f:=Ns fs al) hr a,?_⟩;have h1:=Km (f:=Ns fs al) hr a;rw[c]at h1;have g:=Km (f:=Nt fs i) e d;show((List.range fs.length).flatMap (Ns fs al))[_]? =_;rw[h1,g];unfold Nt;rw[yK,b];rfl
end
variable{fs:List Fac}{al:Nat->Option Alt}{id i k:Nat}{S:Nat->Prop}{h:Heap}{fr:Frm}
theorem kH{M:KM Int}{O:KV}{m1 m2:Nat}(hs:Stt c fs al M O sc m1 m2){Y:Nat->(Nat->Prop)->Heap->Prop}(y:Yld prog id (qj fs al).length (elT (qj fs al)) Y λ_ _=>False)(hH:∀k S h,Y k S h->StH M O m1 m2 h){w:Heap}(hY:Y 0 S w):
  zB prog 278 [.yld id,.iptr [.iptr sc 0] 0] w λ_ h'=>∃S',(∀j,S' j->S j\/w.next<=j)/\But S w h'/\Y (qj fs al).length S' h':=by
 have X:=hs;obtain⟨⟨ca,cb,ce,cp,x,rfl,hc,hx,_⟩,sm,d4,cm,cc,halt⟩:=hs;have db:=rh hx;refine z5 zDj ?_;simp only[f278,zA]
 repeat' first|simp only[go_sem,qH, *]|apply bc<;>intro
 refine zV (λi fr h'=>fr 1=.iptr [.iptr [ca,cb,ce,cp,x,.map m1,.map m2] 0] 0/\fr 2=.iptr [.yld id] 0/\fr 12=x/\fr 13=.int .i64 (fs.length:Int)/\fr 14=.int .i64 (i:Int)/\∃S',(∀j,S' j->S j\/w.next<=j)/\But S w h'/\Y (Zz fs al i) S' h') fs.length ow ?_ ?_ ?_
 ·have a0:∃S',(∀j,S' j->S j\/w.next<=j)/\But S w w/\Y (Zz fs al 0) S' w:=⟨S,λj l=>.inl l,But.refl S w,hY⟩;simp only[go_sem,zQ,zS,zF];exact a0
 ·rintro i fr h1 s e1 ew ⟨f1,f2,c0,c1,c2,S',hS,z,I⟩;have a1:=wR hx s;have hm:fs[i]∈fs:=zG s;have hw:yN true 12 fs[i].cells 0=some (.agg fs[i].cells):=zJ rfl ow;have a0:=Rc (cm _ hm);have b9:tK fs i=fs[i].comp:=by simp[tK,s]
  generalize fs[i]=f at *
  clear cc halt cm;have cv:∀o2,qP prog 3 (.ptr h1.next 0) (.int .i64 (i:Int)) ((h1.new h1.next (.row [.int .i64 0])).new (h1.next+1) o2)=some ((h1.new h1.next (.row [.int .i64 (i:Int)])).new (h1.next+1) o2):=λo2=>by
   have:=Pa (P:=prog) (t:=3) (H:=h1) (c:=.int .i64 0) (x:=.int .i64 (i:Int)) (o2:=o2) pj rfl rfl;simpa only[yA]using this
  repeat' first|simp only[go_sem,yA, *]|apply bc<;>intro
  obtain⟨G,hG,a9,g1,g2,hE⟩:∃G:Heap,(h1.new h1.next (.row [.int .i64 (i:Int)])).new (h1.next+1) (.row f.cells)=G/\G.next=h1.next+2/\G.at' h1.next=some (.row [.int .i64 (i:Int)])/\G.at' (h1.next+1)=some (.row f.cells)/\Ext h1 G:=
   ⟨_,rfl,qW _ (by rw[yA];exact zD _) _,by rw[zz ow,yQ],yQ _ _ _,((Ext.refl h1).new (zD _) _).new ow _⟩
  rw[hG];clear hG a0 cv db;have A:=y.ext I hE;have T:=hH _ _ _ A;have p:=V4 X T.1.1 s true;have b:But S w G:=z.trans (hE.but S) λi hi=>.inl hi;refine qD Heap.emp [(0,.no,false),(4,.no,false),(1,.no,false),(2,.no,false),(3,.no,false),(5,.no,false),(6,.no,false),(7,.no,false),(8,.no,false),(9,.no,false),(10,.no,false)] kr kr (λi ob e=>by cases e) ?_;cases o:al i with
  |none=>
   rw[o]at p;replace p:uF prog 116 (.map m1) (.int .i64 (i:Int)) true G=some (.tuple [.nilsl,.bool false]):=p;have m:∃S',(∀j,S' j->S j\/w.next<=j)/\But S w G/\Y (Zz fs al (i+1)) S' G:=⟨S',hS,b,by rw[C3 s (by rw[o];rfl)];exact A⟩;clear A T b hE hS z I o
   repeat' first|simp only[go_sem,qH, *]|apply bc<;>intro hc
  |some a=>
   rw[o]at p;replace p:uF prog 116 (.map m1) (.int .i64 (i:Int)) true G=some (.tuple [a.d,.bool true]):=p;obtain⟨q1,q2,_⟩:=yR (X.alt i a o).sl;have K:=λg=>bq [ca,cb,ce,cp,x,.map m1,.map m2] 0 (hf:=.fn (.func 279) [] [.ptr (h1.next+1) 0]) ⟨_,_,_,rfl⟩ g
   repeat' first|simp only[go_sem,qH,gK, *]|apply bc<;>intro hc|(refine zB.mono (K _) ?_;rintro r h ⟨hq,rfl⟩)
   subst hq;generalize hL:LRec.mk _ _ _ _ _ _ _=L;have dd:L.pending=none:=by rw[<-hL]
   have di:L.st=.ready:=by rw[<-hL]
   have b8:Lcl λk=>Y (Zz fs al i+UJ fs i k):=⟨λk=>y.here _,λk=>y.loc _⟩;have F:∀j,S' j->j<h1.next:=λj l=>y.here _ _ _ I j l;refine pL (W:=WK h1.next (.row [.int .i64 (i:Int)]) (h1.next+1) (.row f.cells) λk=>Y (Zz fs al i+UJ fs i k)) (n:=(GT fs i).length) (el:=elI (GT fs i)) (S:=λj=>j=h1.next\/j=h1.next+1\/S' j) a9 (WK.lcl b8) di dd ?_ (λyl ai=>fG (sc:=[ca,cb,ce,cp,x,.map m1,.map m2]) rfl hx ow X.ok yl (R:=λj=>j=h1.next+1) ?_ (λg hg h2 hr=> ?_) ai) ?_ ?_
   ·exact WK.start (by rw[show UJ fs i 0=0 from Mi _ _];exact A) ow ow g1 g2 (λe=>uB _ (F _ e)) (λe=>by have:=F _ e;omega)
   ·rintro j rfl;refine⟨by rw[qW _ ow];omega,.inr ?_⟩;rintro k S2 h2 ⟨_,_,S0,hk,_⟩;rw[hk.st.1.2,zz ow,g2]
   ·exact(zAC f g (by rw[hr _ rfl,zz ow,g2])).mono λr h3 e=>by rw[b9];exact e
   ·intro k S0 h3 hk cg c9 ds ak;obtain⟨u,hu⟩:∃u,(GT fs i)[k]? =some u:=⟨_,zE hk⟩;have dk:u<fs.length:=by
     have:=(pX _ fs 0 u (zh hu)).2;omega
    have c6:(GT fs i).getD k 0=u:=by rw[zK,hu];rfl
    simp only[elI,c6];obtain⟨S1,V,⟨dv,d0⟩,⟨a2,cw⟩,⟨n1,n2⟩,ag⟩:=ds;have N:=c9;rw[<-hL]at N;have ad:qP prog 3 (.ptr h3.next 0) (.int .i64 (u:Int)) (h3.new h3.next (.row [.int .i64 0]))=some (h3.new h3.next (.row [.int .i64 (u:Int)])):=by
     rw[qO (yQ _ _ _) pj (by simp) rfl rfl,dy];rfl
    clear p q1 q2 a1 hw hm K b9 hS z I hE A T b;refine uN.round (g:=Py) mix N rfl kr kr kr ?_;simp only[go_sem,f1,f2,ad];refine⟨by rw[zz ow];exact N,?_⟩;generalize hB:LRec.mk .busy _ _ _ _ _ _=B;have c3:({ B with st:=.ready,pending:=none } :LRec)=L:=by rw[<-hB,<-hL]
    obtain⟨H,bb,bd,b1,b3,b4,b7,c4⟩:∃H:Heap,(h3.new h3.next (.row [.int .i64 (u:Int)])).set (h1.next+2) (.loop B)=H/\H.next=h3.next+1/\H.at' h1.next=some (.row [.int .i64 (i:Int)])/\H.at' h3.next=some (.row [.int .i64 (u:Int)])/\H.at' (h1.next+2)=some (.loop B)/\Y (Zz fs al i+UJ fs i k) S1 H/\But (λj=>j=h1.next+2) h3 H:=by
     refine⟨_,rfl,by rw[qS,yA],by rw[zx ow,zz ow];exact a2,by rw[zx ow,yQ],zi _ _ _,?_,⟨by rw[qS,yA];omega,λj l hn=>by rw[zx hn,zz ow]⟩⟩;have hb:=λj l=>y.here _ _ _ V j l;refine y.loc _ _ _ _ V (by rw[qS,yA];omega) λj l=> ?_;have:=hb j l;rw[zx (λe=>ak (by rw[<-e];exact(ag _).2 (.inr (.inr l)))),zz ow]
    rw[bb];clear ad bb hB;have K:=λg=>bq [ca,cb,ce,cp,x,.map m1,.map m2] 2 (hf:=.fn (.func 280) [] [.iptr [.iptr [ca,cb,ce,cp,x,.map m1,.map m2] 0] 0,.ptr h3.next 0]) ⟨_,_,_,rfl⟩ g;refine(K _).mono ?_;rintro r H2 ⟨hq,rfl⟩;subst hq
    repeat' first|simp only[go_sem,gK, *]|apply bc<;>intro
    generalize U:LRec.mk .ready _ _ _ _ _ _=L2;have cs:L2.pending=none:=by rw[<-U]
    have cu:L2.st=.ready:=by rw[<-U]
    have J:Lcl λk2=>Y (Zz fs al i+(UJ fs i k+k2)):=⟨λk=>y.here _,λk=>y.loc _⟩;have bx:∀j,S1 j->j<h3.next:=λj l=>y.here _ _ _ V j l;have d3:¬S1 (h1.next+2):=λe=>ak ((ag _).2 (.inr (.inr e)));refine⟨⟨_,b4⟩,pL (W:=WK h1.next (.row [.int .i64 (i:Int)]) h3.next (.row [.int .i64 (u:Int)]) λk2=>Y (Zz fs al i+(UJ fs i k+k2))) (n:=(lr fs u).length) (el:=elI (lr fs u)) (S:=λj=>j=h1.next\/j=h3.next\/S1 j) bd (WK.lcl J) cu cs ?_ (λyl ai=>fG (sc:=[ca,cb,ce,cp,x,.map m1,.map m2]) rfl hx ow X.ok yl (R:=λj=>j=h3.next) ?_ (λg hg h2 hr=> ?_) ai) ?_ ?_⟩
    ·exact WK.start b7 ow ow b1 b3 n1 (λe=>uB _ (bx _ e))
    ·rintro j rfl;refine⟨by rw[qW _ ow];omega,.inr ?_⟩;rintro k S2 h2 ⟨_,_,S0,hk,_⟩;rw[hk.st.1.2,zz ow,b3]
    ·exact(zAD (sc:=[ca,cb,ce,cp,x,.map m1,.map m2]) rfl hx dk g (by rw[hr _ rfl,zz ow,b3])).mono λr h3 e=>e
    ·intro k2 S3 h4 c8 ch da dt cl;obtain⟨v,hv⟩:∃v,(lr fs u)[k2]? =some v:=⟨_,zE c8⟩;have c7:(lr fs u).getD k2 0=v:=by rw[zK,hv];rfl
     simp only[elI,c7];obtain⟨S4,b6,⟨d1,d2⟩,⟨a6,a7⟩,⟨n3,n4⟩,b5⟩:=dt;have Q:=da;rw[<-U]at Q;obtain⟨tl,te⟩:=GR (al:=al) s (by rw[o];rfl) hu hv;have c5:(qj fs al).getD (Zz fs al i+(UJ fs i k+k2)) (0,0,0)=(i,u,v):=by rw[zK,te];rfl
     have cf:=λS h=>y.go (Zz fs al i+(UJ fs i k+k2)) S h tl;simp only[elT,c5,lw]at cf;have dr:wO prog 256 [(0,.int .i64 (i:Int)),(1,.int .i64 (u:Int)),(2,.int .i64 (v:Int))]=some (.agg [.int .i64 (i:Int),.int .i64 (u:Int),.int .i64 (v:Int)]):=by simp[wO,Q7,IN,tp,uG,D.notTuple,D.cells]
     refine uN.round (g:=Py) mix Q rfl kr kr kr ?_;simp only[go_sem];refine⟨Q,?_⟩;generalize a8:LRec.mk .busy _ _ _ _ _ _=B2;have bk:({ B2 with st:=.ready,pending:=none } :LRec)=L2:=by rw[<-a8,<-U]
     have i1:h1.next≠h3.next+1:=ow;have i2:h3.next≠h3.next+1:=ow;obtain⟨H4,ba,a3,a4,a5,ab⟩:∃H4:Heap,h4.set (h3.next+1) (.loop B2)=H4/\H4.at' h1.next=some (.row [.int .i64 (i:Int)])/\H4.at' h3.next=some (.row [.int .i64 (u:Int)])/\H4.at' (h3.next+1)=some (.loop B2)/\But (λj=>j=h3.next+1) h4 H4:=
      ⟨_,rfl,by rw[zx i1];exact a6,by rw[zx i2];exact a7,zi _ _ _,by rw[qS];exact zD _,λj _ l=>zx l⟩
     rw[ba];clear a8 ba;simp only[go_sem,dr,a3,a4,f2];refine(cf _ _ (J.round b6 (λj l=>(b5 _).2 (.inr (.inr l))) cl ab)).mono ?_;rintro r h5 ⟨S5,E,C,⟨rfl,hr⟩ | ⟨rfl,hr⟩⟩
     ·have m:∀fr,rq (LpK (h3.next+1) L2 (WK h1.next (.row [.int .i64 (i:Int)]) h3.next (.row [.int .i64 (u:Int)]) λk2=>Y (Zz fs al i+(UJ fs i k+k2))) k2 S3 h4) (h3.next+1) .normal fr h5:=λfr=>Lp.call J bk ch cl ⟨b6,⟨d1,d2⟩,⟨a6,a7⟩,⟨n3,n4⟩,b5⟩ a5 ab E C hr;simp only[go_sem,vun];exact m _
     ·exact hr.elim
    ·intro S' h5 hs hb hw;obtain⟨S5,E,C,Z⟩:=WK.stop b1 b3 (λj l=>by rw[bd];exact hs j l) hb hw;rw[<-wl (UJ fs i k)]at b7;have du:Y (Zz fs al i+UJ fs i (k+1)) S5 h5:=by rw[JP hu];exact Z
     have m:∀fr,rq (LpK (h1.next+2) L (WK h1.next (.row [.int .i64 (i:Int)]) (h1.next+1) (.row f.cells) λk=>Y (Zz fs al i+UJ fs i k)) k S0 h3) (h1.next+2) .normal fr h5:=λfr=>Lp.call b8 c3 cg ak ⟨V,⟨dv,d0⟩,⟨a2,cw⟩,⟨n1,n2⟩,ag⟩ b4 c4 E C du;simp only[go_sem];exact m _
   ·intro S2 h5 hs hb hw;obtain⟨S5,E,C,Z⟩:=WK.stop g1 g2 (λj l=>by rw[a9];exact hs j l) hb hw;have m:∃S',(∀j,S' j->S j\/w.next<=j)/\But S w h5/\Y (Zz fs al (i+1)) S' h5:=⟨S5,λj l=>by
     rcases E j l with q|q
     ·exact hS j q
     ·exact .inr (by have:=b.1;omega),b.trans C hS,by rw[H7 s (by rw[o];rfl)];exact Z⟩
    clear p A T b hE hS z I o hs hb hw E C Z K hL;exact au
 ·rintro fr h2 e1 ⟨f1,f2,c0,c1,c2,S',bs,b0,F⟩;have m:∃S',(∀j,S' j->S j\/w.next<=j)/\But S w h2/\Y (qj fs al).length S' h2:=⟨S',bs,b0,by rw[show(qj fs al).length=Zz fs al fs.length from(by unfold Zz qj;rw[<-Tc,kE])];exact F⟩
  clear bs b0 F;exact au
def oW(fs:List Fac)(i:Nat):Int:=match fs[i]? with
 |some f=>f.way
 |none=>0
def sJ(fs:List Fac)(i:Nat):Int:=match fs[i]? with
 |some f=>f.rel
 |none=>0
def Mk(duty:Int)(q:List (List UInt8)->Bool)(l:Cla):Bool:=l.duty==duty&&q l.list
def Cg(c:Cat)(way rel duty:Int)(q:List (List UInt8)->Bool)(z:Trm):Bool:=(mN c z.a z.b way rel).any (Mk duty q)
def Th(c:Cat)(ts:List Trm)(way rel duty:Int)(q:List (List UInt8)->Bool):Bool:=ts.any (Cg c way rel duty q)
theorem Lg{c:Int}{q:List (List UInt8)->Bool} :∀{a b:List Cla},a.map Cla.key=b.map Cla.key->a.any (Mk c q)=b.any (Mk c q)
 | [],[],_=>rfl
 | [],_::_,h=>by cases h
 |_::_,[],h=>by cases h
 |x::a,y::b,h=>by
  simp only[qL,rJ,Cla.key,Prod.mk.injEq]at h;obtain⟨⟨_,_,_,h1,d⟩,h3⟩:=h;rw[sQ,sQ,Lg h3,Mk,Mk,h1,d]
def As(y:Cla)(h:Heap):zB prog 196 [.agg y.cells] h λr h'=>h'=h/\r=.bool true:=by
 refine z5 zHI ?_;simp only[f196,zA];exact au
theorem DP{M:KM Int}{O:KV}{m1 m2:Nat}(hs:Stt c fs al M O sc m1 m2){t:Tri}(t1:t.1<fs.length)(t2:t.2.1<fs.length)(t3:t.2.2<fs.length){a:Alt}(X:al t.1=some a)(h:Int){q:List (List UInt8)->Bool}{R:Nat->Prop}(hH:StH M O m1 m2 g)(hR:∀i,R i->i<g.next)(hq:∀y:Cla,y.Fine->∀l:Heap,(∀i,R i->l.at' i=g.at' i)->zB prog f ([]++ [.agg y.cells]++cap) l λr h3=>h3=l/\r=.bool (q y.list)):
  zB prog 195 [.iptr sc 0,.agg (lw t),.int .i64 h,.fn (.func f) [] cap] g λr h'=>Ext g h'/\r=.bool (Th c a.ts (oW fs t.2.2) (sJ fs t.2.1) h q):=by
 have Q:=V4 hs hH.1.1 t1 false;rw[X]at Q;replace Q:uF prog 116 (.map m1) (.int .i64 (t.1:Int)) false g=some a.d:=Q;have G:=hs.alt _ _ X;have w1:oW fs t.2.2=fs[t.2.2].way:=by simp[oW,t3]
 have w2:sJ fs t.2.1=fs[t.2.1].rel:=by simp[sJ,t2]
 rw[w1,w2];obtain⟨⟨ca,cb,ce,cp,x,rfl,C,hx,_⟩,sm,b9,ch,b8,halt⟩:=hs;have a2:=wR hx t2;have a3:=wR hx t3;have k2:fs[t.2.1].cells[3]? =some (.int .i64 fs[t.2.1].rel):=rfl;have k3:fs[t.2.2].cells[4]? =some (.int .i64 fs[t.2.2].way):=rfl;generalize fs[t.2.1]=E at *
 generalize fs[t.2.2]=F at *
 have cl:=wT G.sl;have b6:=G.len;obtain⟨q1,q2,_⟩:=yR G.sl;have hE:Ext g g:=Ext.refl g;obtain⟨ag,ai,ak⟩:=t;simp only[lw]at *
 refine z5 zDS ?_;simp only[f195,zA]
 repeat' first|simp only[go_sem, *]|apply bc<;>intro C
 refine zd kr ?_
 repeat' first|simp only[go_sem,qH, *]|apply bc<;>intro C
 refine zV (λi fr h'=>fr 0=.iptr [ca,cb,ce,cp,x,.map m1,.map m2] 0/\fr 2=.int .i64 h/\fr 3=.fn (.func f) [] cap/\fr 5=.iptr [.int .i64 (ag:Int),.int .i64 (ai:Int),.int .i64 (ak:Int)] 0/\fr 19=a.d/\fr 20=.int .i64 (a.ts.length:Int)/\fr 21=.int .i64 (i:Int)/\Ext g h'/\∀j (D:j<a.ts.length),j<i->Cg c F.way E.rel h q a.ts[j]=false) a.ts.length ow ?_ ?_ ?_
 ·simp only[go_sem,zQ,zS,zF];exact⟨hE,λj D h0=>by omega⟩
 ·rintro i fr h1 S e1 ew ⟨V,s,w,W,n,u,v,K,D⟩;have a1:=rA G.sl S;have U:Cg c F.way E.rel h q a.ts[i]=(mN c a.ts[i].a a.ts[i].b F.way E.rel).any (Mk h q):=rfl;have b5:=λe=>pW (p:=Cg c F.way E.rel h q) S e;have b4:=λe=>qp (p:=Cg c F.way E.rel h q) S D e;generalize a.ts[i]=z at *
  have cv:qP prog 112 (.ptr h1.next 0) (.agg z.cells) (h1.new h1.next (.row [.str [],.str []]))=some (h1.new h1.next (.row z.cells)):=qk uo ow rfl rfl rfl;have bk:=λg=>Lm C sm z.a z.b F.way E.rel g;have b0:yN true 2 z.cells 0=some (.agg z.cells):=zJ rfl ow;have cf:yN true 2 z.cells 0=some (.agg [.str z.a,.str z.b]):=b0;have a7:∀o,Ext g (h1.new h1.next o):=λo=>K.new K.1 o
  repeat' first|simp only[go_sem, *]|apply bc<;>intro C
  obtain⟨H,bb,cc,a9⟩:∃H,h1.new h1.next (.row z.cells)=H/\H.at' h1.next=some (.row z.cells)/\Ext g H:=⟨_,rfl,yQ _ _ _,a7 _⟩;rw[bb];have cw:yN true 4 [ca,cb,ce,cp,x,.map m1,.map m2] 0=some (.agg [ca,cb,ce,cp]):=by simp[yN]
  refine qD Heap.emp [(4,.no,false),(0,.no,false),(1,.no,false),(2,.no,false),(3,.no,false),(5,.no,false),(6,.no,false),(7,.no,false),(8,.no,false),(9,.no,false),(10,.no,false),(11,.no,false),(12,.no,false),(13,.no,false),(14,.no,false),(15,.no,false),(16,.no,false),(17,.no,false),(18,.no,false),(19,.no,false),(20,.no,false),(21,.no,false),(22,.no,false),(25,.no,false),(23,.no,false),(24,.no,false)] kr kr (λi ob e=>by cases e) ?_
  repeat' first|simp only[go_sem,qH, *]|apply bc<;>intro C
  refine(bk _).mono ?_;rintro r H2 ⟨bs,cs,Y,N,J⟩;subst bs;rw[<-Lg J]at U;have cm:=nb Y;have b7:cs.length<=1048576:=by
   have:=congrArg List.length J;simp only[zI]at this;have l:(mN c z.a z.b F.way E.rel).length<=c.cs.length:=by
    unfold mN;split
    ·simp
    ·exact qM _ _
   have:=sm.cs.1;omega
  repeat' first|simp only[go_sem, *]|apply bc<;>intro C
  refine zV (λj fr h'=>fr 0=.iptr [ca,cb,ce,cp,x,.map m1,.map m2] 0/\fr 2=.int .i64 h/\fr 3=.fn (.func f) [] cap/\fr 5=.iptr [.int .i64 (ag:Int),.int .i64 (ai:Int),.int .i64 (ak:Int)] 0/\fr 19=a.d/\fr 20=.int .i64 (a.ts.length:Int)/\fr 21=.int .i64 (i:Int)/\fr 48=r/\fr 49=.int .i64 (cs.length:Int)/\fr 50=.int .i64 (j:Int)/\Ext g h'/\∀k (hk:k<cs.length),k<j->Mk h q cs[k]=false) cs.length ow ?_ ?_ ?_
  ·simp only[go_sem,zQ,zS,zF];exact⟨V,s,w,W,n,u,v,a9,λj D h0=>by omega⟩
  ·clear V s w W n u v;rintro j a6 l m e2 cg ⟨V,s,w,W,n,u,v,a0,a4,a5,L,D⟩;have b1:=lV Y m;have ab:=N _ (zG m);have b3:=λe=>pW (p:=Mk h q) m e;have ad:=λe=>qp (p:=Mk h q) m D e;have T:Mk h q cs[j]=(cs[j].duty==h&&q cs[j].list):=rfl;generalize cs[j]=y at *
   have Z:qP prog 89 (.ptr l.next 0) (.agg y.cells) (l.new l.next (.row [.str [],.int .i64 0,.int .i64 0,.int .i64 0,.nilsl]))=some (l.new l.next (.row y.cells)):=qk gk ow rfl rfl (by show(true&&(true&&(true&&(true&&(y.d.flat&&true)))))=true;rw[nH ab.1.isSl];rfl);have c0:yN true 5 y.cells 0=some (.agg y.cells):=zJ rfl ow;have ky:y.cells[3]? =some (.int .i64 y.duty):=rfl;have ba:Ext g (l.new l.next (.row y.cells)):=L.new L.1 _;obtain⟨H3,bd,bx,a8⟩:∃H,l.new l.next (.row y.cells)=H/\H.at' l.next=some (.row y.cells)/\Ext g H:=⟨_,rfl,yQ _ _ _,ba⟩;rw[bd]at Z
   have B:=hq y ab H3 λi P=>a8.2 i (hR i P);simp only[yT,z9]at B;cases hd:(y.duty==h)with
   |false=>
    have A:=ad (by rw[T,hd];rfl)
    repeat' first|simp only[go_sem, *]|apply bc<;>intro C
    exact A
   |true=>
    cases I:q y.list with
    |false=>
     rw[I]at B;have A:=ad (by rw[T,hd,I];rfl)
     repeat' first|simp only[go_sem, *]|apply bc<;>intro C|refine zB.use B ?_
     exact A
    |true=>
     rw[I]at B;have A:Th c a.ts F.way E.rel h q=true:=b5 (by rw[U];exact b3 (by rw[T,hd,I];rfl))
     repeat' first|simp only[go_sem, *]|apply bc<;>intro C|refine zB.use B ?_
  ·clear V s w W n u v;rintro a6 l e2 ⟨V,s,w,W,n,u,v,a0,a4,a5,L,D⟩;have A:=b4 (by rw[U];exact rO (p:=Mk h q) (λi P _=>D i P P))
   repeat' first|simp only[go_sem, *]|apply bc<;>intro C
   exact A
 ·rintro fr h1 e1 ⟨V,s,w,W,n,u,v,K,D⟩;have cu:Th c a.ts F.way E.rel h q=false:=rO λi P _=>D i P P;exact au
def bs3(a b c:Int)(nid:Nat)(h:Heap):yB prog false nid 40 3 [(0,.int .i64 a),(1,.int .i64 b),(2,.int .i64 c)] h=some (.sl 1 (uq [a,b,c]) .full,h):=by
 simp[yB,uL,nO,pj,D.notTuple,D.cells,nz,tp,uG,wY,uq]
def bs2(a b:Int)(nid:Nat)(h:Heap):yB prog false nid 40 2 [(0,.int .i64 a),(1,.int .i64 b)] h=some (.sl 1 (uq [a,b]) .full,h):=by
 simp[yB,uL,nO,pj,D.notTuple,D.cells,nz,tp,uG,wY,uq]
def bs4(a b c d:Int)(nid:Nat)(h:Heap):yB prog false nid 40 4 [(0,.int .i64 a),(1,.int .i64 b),(2,.int .i64 c),(3,.int .i64 d)] h=some (.sl 1 (uq [a,b,c,d]) .full,h):=by
 simp[yB,uL,nO,pj,D.notTuple,D.cells,nz,tp,uG,wY,uq]
def bs5(a b c d e:Int)(nid:Nat)(h:Heap):yB prog false nid 40 5 [(0,.int .i64 a),(1,.int .i64 b),(2,.int .i64 c),(3,.int .i64 d),(4,.int .i64 e)] h=some (.sl 1 (uq [a,b,c,d,e]) .full,h):=by
 simp[yB,uL,nO,pj,D.notTuple,D.cells,nz,tp,uG,wY,uq]
def bs1(a:Int)(nid:Nat)(h:Heap):yB prog false nid 40 1 [(0,.int .i64 a)] h=some (.sl 1 (uq [a]) .full,h):=by
 simp[yB,uL,nO,pj,D.notTuple,D.cells,nz,tp,uG,wY,uq]
def gq{t:Tri}(h:t∈qj fs al):t.1<fs.length/\t.2.1<fs.length/\t.2.2<fs.length/\∃a,al t.1=some a:=by
 unfold qj at h;obtain⟨i,e,b⟩:=zw.1 h;unfold Ns at b;split at b
 ·rename_i d;obtain⟨u,f,b⟩:=zw.1 b;unfold Nt at b;obtain⟨v,g,rfl⟩:=zT.1 b;have h1:=(pX _ fs 0 u f).2;have c:=(pX _ fs 0 v g).2;exact⟨uZ.1 e,by simpa using h1,by simpa using c,uu.1 d⟩
 ·cases b
theorem NF{p q:Fac->Bool}(h:∀f,p f=true->q f=true):∀(l:List Fac)(k k':Nat),(wV p l k).length<=(wV q l k').length
 | [],_,_=>zD _
 |f::l,k,k'=>by
  have a:=NF h l (k+1) (k'+1);cases e:p f with
  |true=>simp only[wV,e,h f e,qG,zm];omega
  |false=>simp only[wV,e];cases q f<;>simp<;>omega
theorem Ks{p q:Fac->Bool}(h:∀f,p f=true->q f=false):∀(l:List Fac)(k k':Nat),(wV p l k).length+(wV q l k').length<=l.length
 | [],_,_=>zD _
 |f::l,k,k'=>by
  have a:=Ks h l (k+1) (k'+1);cases e:p f with
  |true=>simp only[wV,e,h f e,qG,zm];simp;omega
  |false=>simp only[wV,e];cases q f<;>simp<;>omega
def Cq:∀a,a<=24->∀b,b<=24->a+b<=24->a*b<=144:=by decide
def oT(h:fs.length<=24):(qj fs al).length<=4096:=by
 have h1:∀i u,(Nt fs i u).length<=(wV (isF 2 λ_=>true) fs 0).length:=λi u=>by
  unfold Nt;rw[zI];exact NF (λf hf=>by unfold isF at hf⊢;simp at hf⊢;exact hf.1) fs 0 0
 have a:∀i,(Ns fs al i).length<=144:=λi=>by
  unfold Ns;split
  ·refine za (tU λu _=>h1 i u) ?_;have h3:=Ks (p:=isF 0 λg=>g.comp==tK fs i) (q:=isF 2 λ_=>true) (λf hf=>by
    unfold isF at hf⊢;simp at hf⊢;omega) fs 0 0
   exact Cq _ (by unfold fIx;omega) _ ow (by unfold fIx;omega)
  ·simp
 unfold qj;refine za (tU λi _=>a i) ?_;rw[kE];omega
def wo{α:Type}(l:List α)(V:α->List (List Int))(k:Nat):List (List Int):=(l.take k).flatMap V
def sx{l:List α}{V:α->List (List Int)}{x:α}(h:l[k]? =some x):wo l V (k+1)=wo l V k++V x:=by
 obtain⟨h1,rfl⟩:=zR.1 h;unfold wo;rw[zH h1,tS,tP,je,zp]
def p6(l:List α)(V:α->List (List Int)):wo l V l.length=l.flatMap V:=by unfold wo;rw[zb]
def jU{l:List α}{V:α->List (List Int)}{m:Nat}(h:∀x∈l,(V x).length<=m)(k:Nat):(wo l V k).length<=l.length*m:=
 za (tU λx a=>h x (List.mem_of_mem_take a)) (yW _ (by rw[z7];omega))
def Re(t:Tri)(h:Heap)(id:Nat):qP prog 256 (.ptr id 0) (.agg (lw t)) (h.new id (.row [.int .i64 0,.int .i64 0,.int .i64 0]))=some (h.new id (.row (lw t))):=qk BS ow rfl rfl rfl
def aX(al:Nat->Option Alt)(i:Nat):List Trm:=match al i with
 |some a=>a.ts
 |none=>[]
def sU(c:Cat)(fs:List Fac)(al:Nat->Option Alt)(t:Tri):List (List Int):=
 if Th c (aX al t.1) (oW fs t.2.2) (sJ fs t.2.1) 5 (λ_=>true)=true then [[(t.1:Int),(t.2.1:Int),(t.2.2:Int)]]else []
def Mf(h:i<1048576):fits .i64 (i:Int):=qE ow ow
theorem I3{M:KM Int}{O:KV}{m1 m2:Nat}(Z:Stt c fs al M O sc m1 m2)(X:fs.length<=24)
  {ff:FuncId} {Y:List (List Int)->(Nat->Prop)->Heap->Prop} (y:Fnd2 prog 5 ff cap Y) {w:Heap} (hY:Y [] S w) (I:StH M O m1 m2 w) (n1:¬S m1) (n2:¬S m2):
  zB prog 149 [.iptr sc 0,.fn (.func ff) [] cap] w λ_ h'=>∃S',(∀i,S' i->S i\/w.next<=i)/\But S w h'/\Y ((qj fs al).flatMap (sU c fs al)) S' h':=by
 have Q:=Z;obtain⟨⟨ca,cb,ce,cp,x,rfl,hc,hx,_⟩,sm,bk,bx,bd,halt⟩:=Z;have a1:=λg=>cR [ca,cb,ce,cp,x,.map m1,.map m2] g;refine z5 zDC ?_;simp only[f149,zA]
 repeat' first|simp only[go_sem,cF, *]|apply bc<;>intro hc|(refine zB.mono (a1 _) ?_;rintro r h ⟨hq,rfl⟩)
 subst hq;generalize T:LRec.mk _ _ _ _ _ _ _=L;have a4:L.pending=none:=by rw[<-T]
 have a5:L.st=.ready:=by rw[<-T]
 have s:=y.lcl λk=>wo (qj fs al) (sU c fs al) k;have h4:=oT (al:=al) X;refine pL (W:=WK m1 (.map (kmD (D.int .i64) M)) m2 (.map (kvD O)) λk=>Y (wo (qj fs al) (sU c fs al) k)) (n:=(qj fs al).length) (el:=elT (qj fs al)) (S:=λj=>j=m1\/j=m2\/S j) rfl (WK.lcl s) a5 a4 ?_ (λyl ai=>kH Q yl (λk S h ⟨_,_,S0,hk,_⟩=>hk.st) ai) ?_ ?_
 ·exact WK.start hY I.2.1 I.2.2 I.1.1 I.1.2 n1 n2
 ·intro k S0 h3 hk e a3 a9 E;obtain⟨t,ht⟩:∃t,(qj fs al)[k]? =some t:=⟨_,zE hk⟩;have a2:(qj fs al).getD k (0,0,0)=t:=by rw[zK,ht];rfl
  simp only[elT,a2];obtain⟨p1,p2,p3,a,K⟩:=gq (zh ht);have o:=a3;rw[<-T]at o;have a6:=Re t;refine uN.round (g:=KH) mix o rfl kr kr kr ?_;simp only[go_sem,a6];refine⟨by rw[zz ow];exact o,?_⟩;generalize hB:LRec.mk .busy _ _ _ _ _ _=B;have J:({ B with st:=.ready,pending:=none } :LRec)=L:=by rw[<-hB,<-T]
  obtain⟨S1,H,ad,bs,P,ag,au,bb,ab,hw⟩:=Lp.open s a9 e E (.row (lw t)) B;rw[ad];have a0:=DP Q p1 p2 p3 K 5 (q:=λ_=>true) (R:=λ_=>False) (f:=196) (cap:=[]) ab (λi hi=>hi.elim) (λy hy h2 _=>As y h2);have b0:yN true 3 (lw t) 0=some (.agg (lw t)):=zJ rfl ow;have e1:(lw t)[0]? =some (.int .i64 (t.1:Int)):=rfl;have e2:(lw t)[1]? =some (.int .i64 (t.2.1:Int)):=rfl;have e3:(lw t)[2]? =some (.int .i64 (t.2.2:Int)):=rfl;have a7:aX al t.1=a.ts:=by simp[aX,K]
  have u:sU c fs al t=if Th c a.ts (oW fs t.2.2) (sJ fs t.2.1) 5 (λ_=>true)=true then [[(t.1:Int),(t.2.1:Int),(t.2.2:Int)]]else []:=by unfold sU;rw[a7]
  repeat' first|simp only[go_sem, *]|apply bc<;>intro
  refine a0.mono ?_;rintro r H2 ⟨p,rfl⟩;have F:=(p.2 _ ow).trans P;have z:=au.ext1 p;have v:=(p.2 _ ow).trans ag;have A:=y.ext bb p;cases U:Th c a.ts (oW fs t.2.2) (sJ fs t.2.1) 5 (λ_=>true)with
  |false=>
   rw[U,iq (by decide)]at u;have b:Y (wo (qj fs al) (sU c fs al) (k+1)) S1 H2:=by rw[sx ht,u,zp];exact A
   have d:∀fr,rq (LpK h.next L (WK m1 (.map (kmD (D.int .i64) M)) m2 (.map (kvD O)) λk=>Y (wo (qj fs al) (sU c fs al) k)) k S0 h3) h.next .normal fr H2:=λfr=>Lp.call s J e E hw v z (λj hj=>.inl hj) (But.refl S1 H2) b;simp only[go_sem];exact d _
  |true=>
   rw[U,ip rfl]at u;have a8:(wo (qj fs al) (sU c fs al) k).length<16777216:=by
    have:=jU (V:=sU c fs al) (l:=qj fs al) (m:=1) (λt _=>by unfold sU;split<;>simp) k;omega
   have N:=y.go _ _ _ [(t.1:Int),(t.2.1:Int),(t.2.2:Int)] .full A a8 (by simp) (by simp) (by
    intro n X;simp only[zt,wr,lI]at X;rcases X with rfl|rfl|rfl<;>exact Mf ow)
   simp only[yT,z9]at N;have ak:=bs3 (t.1:Int) (t.2.1:Int) (t.2.2:Int);simp only[go_sem,F,e1,e2,e3,ak];refine N.mono ?_;rintro r h5 ⟨S5,G,C,b⟩;have ba:Y (wo (qj fs al) (sU c fs al) (k+1)) S5 h5:=by rw[sx ht,u];exact b
   have d:∀fr,rq (LpK h.next L (WK m1 (.map (kmD (D.int .i64) M)) m2 (.map (kvD O)) λk=>Y (wo (qj fs al) (sU c fs al) k)) k S0 h3) h.next .normal fr h5:=λfr=>Lp.call s J e E hw v z G C ba;exact d _
 ·intro S2 h5 Z U hw;obtain⟨S5,G,C,b⟩:=WK.stop I.1.1 I.1.2 Z U hw;rw[p6]at b;simp only[go_sem];exact⟨S5,G,C,b⟩
def bO(own:List UInt8)(l:List (List UInt8)):Bool:= !(l.any λx=>x==own)
def HJ{own:List UInt8}{y:Cla}(a:y.Fine)(c:h.at' id=some (.row [.str own])):zB prog 197 [.agg y.cells,.ptr id 0] h λr h'=>h'=h/\r=.bool (bO own y.list):=by
 have b:=kx a.1.isSl a.2 own;have k1:y.cells[4]? =some y.d:=rfl;obtain⟨e,f,_⟩:=yR a.1.isSl;unfold bO;refine z5 zDT ?_;simp only[f197,zA]
 repeat' first|simp only[go_sem, *]|apply bc<;>intro b|refine zB.use (b _) ?_
def pa(c:Cat)(fs:List Fac)(al:Nat->Option Alt)(O:KV)(t:Tri):List (List Int):=match o5 (tX fs t.2.1) O with
 |none=>[]
 |some own=>if Th c (aX al t.1) (oW fs t.2.2) (sJ fs t.2.1) 4 (bO own)=true then [[(t.1:Int),(t.2.1:Int),(t.2.2:Int)]]else []
theorem Dj{M:KM Int}{O:KV}{m1 m2:Nat}(hs:Stt c fs al M O sc m1 m2)(hn:fs.length<=24)
  {ff:FuncId} {Y:List (List Int)->(Nat->Prop)->Heap->Prop} (y:Fnd2 prog 5 ff cap Y) {w:Heap} (hY:Y [] S w) (K:StH M O m1 m2 w) (n1:¬S m1) (n2:¬S m2):
  zB prog 150 [.iptr sc 0,.fn (.func ff) [] cap] w λ_ h'=>∃S',(∀i,S' i->S i\/w.next<=i)/\But S w h'/\Y ((qj fs al).flatMap (pa c fs al O)) S' h':=by
 have I:=hs;obtain⟨⟨ca,cb,ce,cp,x,rfl,hc,hx,_⟩,sm,cm,cv,cl,halt⟩:=hs;have a9:=λg=>cR [ca,cb,ce,cp,x,.map m1,.map m2] g;refine z5 zDD ?_;simp only[f150,zA]
 repeat' first|simp only[go_sem,cF, *]|apply bc<;>intro hc|(refine zB.mono (a9 _) ?_;rintro r h ⟨hq,rfl⟩)
 subst hq;generalize hL:LRec.mk _ _ _ _ _ _ _=L;have b9:L.pending=none:=by rw[<-hL]
 have cc:L.st=.ready:=by rw[<-hL]
 have X:=y.lcl λk=>wo (qj fs al) (pa c fs al O) k;have h4:=oT (al:=al) hn;refine pL (W:=WK m1 (.map (kmD (D.int .i64) M)) m2 (.map (kvD O)) λk=>Y (wo (qj fs al) (pa c fs al O) k)) (n:=(qj fs al).length) (el:=elT (qj fs al)) (S:=λj=>j=m1\/j=m2\/S j) rfl (WK.lcl X) cc b9 ?_ (λyl b4=>kH I yl (λk S h ⟨_,_,S0,hk,_⟩=>hk.st) b4) ?_ ?_
 ·exact WK.start hY K.2.1 K.2.2 K.1.1 K.1.2 n1 n2
 ·intro k S0 h3 hk Q ab ak bk;obtain⟨t,ht⟩:∃t,(qj fs al)[k]? =some t:=⟨_,zE hk⟩;have b7:(qj fs al).getD k (0,0,0)=t:=by rw[zK,ht];rfl
  simp only[elT,b7];obtain⟨p1,p2,p3,a,a7⟩:=gq (zh ht);have d:=ab;rw[<-hL]at d;have bs:=Re t;refine uN.round (g:=KI) mix d rfl kr kr kr ?_;simp only[go_sem,bs];refine⟨by rw[zz ow];exact d,?_⟩;generalize hB:LRec.mk .busy _ _ _ _ _ _=B;have U:({ B with st:=.ready,pending:=none } :LRec)=L:=by rw[<-hB,<-hL]
  obtain⟨S1,H,a0,b3,A,a6,a8,b1,F,hw⟩:=Lp.open X ak Q bk (.row (lw t)) B;rw[a0];clear bs a0 hB;have cw:yN true 3 (lw t) 0=some (.agg (lw t)):=zJ rfl ow;have e1:(lw t)[0]? =some (.int .i64 (t.1:Int)):=rfl;have e2:(lw t)[1]? =some (.int .i64 (t.2.1:Int)):=rfl;have e3:(lw t)[2]? =some (.int .i64 (t.2.2:Int)):=rfl;have cg:aX al t.1=a.ts:=by simp[aX,a7]
  have a2:=wR hx p2;have ho:tX fs t.2.1=fs[t.2.1].out:=by simp[tX,p2]
  have k2:fs[t.2.1].cells[2]? =some (.str fs[t.2.1].out):=rfl;rw[<-ho]at k2;clear ho;obtain⟨h0,bd,zE7,v⟩:=Heap.low H;obtain⟨C,b8⟩:∃n,H.next=n:=⟨_,rfl⟩;have bx:∀s,qP prog 9 (.ptr C 0) (.str s) (H.new C (.row [.str []]))=some (H.new C (.row [.str s])):=λs=>by
   rw[qO (yQ _ _ _) md (by simp) rfl rfl,dy];rfl
  have cf:=(v h3.next ow).trans A;have e:=K0 (by rw[v m2 F.2.2];exact F.1.2) (tX fs t.2.1) true;have cs:h3.next<C:=ow;have p:∀o,∃G,H.new C o=G/\Ext H G/\G.at' C=some o/\G.at' h3.next=some (.row (lw t))/\C<G.next/\But (λj=>j=h.next) h3 G/\G.at' h.next=some (.loop B)/\Y (wo (qj fs al) (pa c fs al O) k) S1 G/\StH M O m1 m2 G:=λo=>by
   have hE:Ext H (H.new C o):=(Ext.refl H).new ow _;exact⟨_,rfl,hE,yQ _ _ _,(hE.2 _ ow).trans A,by rw[qW _ ow];omega,a8.ext1 hE,(hE.2 _ ow).trans a6,y.ext b1 hE,StH.ext F hE⟩
  rw[b8]at zE7;have b:∀{fr:Frm}{G h5:Heap}{S5:Nat->Prop},G.at' h.next=some (.loop B)->But (λj=>j=h.next) h3 G->(∀j,S5 j->S1 j\/G.next<=j)->But S1 G h5->Y (wo (qj fs al) (pa c fs al O) (k+1)) S5 h5->rq (LpK h.next L (WK m1 (.map (kmD (D.int .i64) M)) m2 (.map (kvD O)) λk=>Y (wo (qj fs al) (pa c fs al O) k)) k S0 h3) h.next .normal fr h5:=λa1 a2 a3 a4 a5=>Lp.call X U Q bk hw a1 a2 a3 a4 a5;rw[sx ht]at b;clear b3 a6 a8 b1 F A v
  refine qD h0 [(0,.st,true),(4,.st,true),(1,.no,true),(2,.no,true),(3,.st,true),(5,.no,true),(6,.no,true),(7,.st,true),(8,.no,true),(9,.st,true),(10,.no,true),(11,.no,true),(12,.st,true),(13,.st,true),(14,.no,true),(15,.no,true),(16,.no,true),(17,.no,true),(18,.no,false),(19,.no,false)] kr kr bd ?_;cases u:o5 (tX fs t.2.1) O with
  |none=>
   rw[u]at e;replace e:uF prog 117 (.map m2) (.str (tX fs t.2.1)) true h0=some (.tuple [.str [],.bool false]):=e;have ai:pa c fs al O t= []:=by unfold pa;rw[u]
   rw[ai,zp]at b;obtain⟨G,hG,au,g1,g2,g3,g4,g5,g6,_⟩:=p (.row [.str []]);have cu:=λfr=>b (fr:=fr) g5 g4 (λj hj=>.inl hj) (But.refl S1 G) g6;have b0:=bx [];have bb:=zE7 (.row [.str []]);rw[hG]at b0 bb;clear hw hL U I hY K ak d ab ht p b u g1 g2 g3 g4 g5 g6 au
   repeat' first|simp only[go_sem,qH, *]|apply bc<;>intro
   refine JG _ e ?_
   repeat' first|simp only[go_sem,qH, *]|apply bc<;>intro hc
  |some own=>
   rw[u]at e;replace e:uF prog 117 (.map m2) (.str (tX fs t.2.1)) true h0=some (.tuple [.str own,.bool true]):=e;have ai:pa c fs al O t=if Th c a.ts (oW fs t.2.2) (sJ fs t.2.1) 4 (bO own)=true then [[(t.1:Int),(t.2.1:Int),(t.2.2:Int)]]else []:=by unfold pa;rw[u];simp only[cg]
   rw[ai]at b;obtain⟨G,hG,au,g1,g2,g3,g4,g5,g6,g7⟩:=p (.row [.str own]);have b6:=DP I p1 p2 p3 a7 4 (q:=bO own) (R:=λj=>j=C) (f:=197) (cap:=[.ptr C 0]) g7 (λi hi=>by rw[hi];exact g3) (λz hz h2 hr=>HJ hz (by rw[hr _ rfl,g1]));have ch:(wo (qj fs al) (pa c fs al O) k).length<16777216:=by
    have:=jU (V:=pa c fs al O) (l:=qj fs al) (m:=1) (λt _=>by
     unfold pa;split
     ·simp
     ·split<;>simp) k
    omega
   have b5:=bs3 (t.1:Int) (t.2.1:Int) (t.2.2:Int);have ba:=λS h hy=>y.go _ S h [(t.1:Int),(t.2.1:Int),(t.2.2:Int)] .full hy ch (by simp) (by simp) (by
    intro n hn;simp only[zt,wr,lI]at hn;rcases hn with rfl|rfl|rfl<;>exact Mf ow)
   simp only[yT,z9]at ba;clear hw hL U hY K ak d ab ht p u I a9
   repeat' first|simp only[go_sem,qH, *]|apply bc<;>intro
   refine JG _ e ?_
   repeat' first|simp only[go_sem,qH, *]|apply bc<;>intro
   refine b6.mono ?_;rintro r H2 ⟨E,rfl⟩;have ad:=(E.2 _ ow).trans g2;have P:=g4.ext1 E;have N:=(E.2 _ ow).trans g5;have T:=y.ext g6 E;cases hb:Th c a.ts (oW fs t.2.2) (sJ fs t.2.1) 4 (bO own)with
   |false=>
    rw[hb,iq (by decide),zp]at b;simp only[go_sem];exact b N P (λj hj=>.inl hj) (But.refl S1 H2) T
   |true=>
    rw[hb,ip rfl]at b;simp only[go_sem,ad,e1,e2,e3,b5];refine(ba _ _ T).mono ?_;rintro r h5 ⟨S5,ag,Z,J⟩;exact b N P ag Z J
 ·intro S2 h5 hs hb hw;obtain⟨S5,ag,Z,J⟩:=WK.stop K.1.1 K.1.2 hs hb hw;rw[p6]at J;simp only[go_sem];exact⟨S5,ag,Z,J⟩
def DS(b:sc[4]? =some x)(c:ye 12 (dj fs) x){t:Tri}(a:t.1<fs.length)(g:Fac)(f:h.at' id=some (.row (lw t))):
  zB prog 199 [.agg g.cells,.iptr [.iptr sc 0] 0,.ptr id 0] h λr h'=>h'=h/\r=.bool (g.comp==tK fs t.1):=by
 have k1:fs[t.1].cells[1]? =some (.str fs[t.1].comp):=rfl;have k2:g.cells[1]? =some (.str g.comp):=rfl;have e1:(lw t)[0]? =some (.int .i64 (t.1:Int)):=rfl;have d:=wR c a;have j:tK fs t.1=fs[t.1].comp:=by simp[tK,a]
 refine z5 zHJ ?_;simp only[f199,zA];simp only[go_sem, *];refine qD Heap.emp [(2,.no,false),(0,.no,false),(1,.no,false),(3,.no,false),(4,.no,false),(5,.no,false),(6,.no,false),(7,.no,false),(8,.no,false),(9,.no,false),(10,.no,false),(11,.no,false),(12,.no,false)] kr kr (λi k e=>by cases e) ?_;simp only[go_sem,qH, *]
def ay(fs:List Fac)(i:Nat):Int:=match fs[i]? with
 |some f=>f.duty
 |none=>0
def MW(fs:List Fac)(i:Nat):Bool:=match fs[i]? with
 |some f=>f.chg
 |none=>false
abbrev dq(fs:List Fac)(i:Nat):List Nat:=fIx 4 (λg=>g.comp==tK fs i) fs
def dw(c:Cat)(fs:List Fac)(al:Nat->Option Alt)(t:Tri)(k:Nat):List (List Int):=
 if((!(ay fs k==2)||MW fs t.2.1)&&Th c (aX al t.1) (oW fs t.2.2) (sJ fs t.2.1) (ay fs k) (λ_=>true))=true then [[(t.1:Int),(t.2.1:Int),(t.2.2:Int),(k:Int)]]else []
def gN(c:Cat)(fs:List Fac)(al:Nat->Option Alt)(t:Tri):List (List Int):=(dq fs t.1).flatMap (dw c fs al t)
def Tu(c:Cat)(fs:List Fac)(al:Nat->Option Alt)(t:Tri)(k:Nat):(dw c fs al t k).length<=1:=by unfold dw;split<;>simp
def Yz(c:Cat)(b:fs.length<=24)(al:Nat->Option Alt)(t:Tri):(gN c fs al t).length<=24:=by
 have h1:=tU (m:=1) (l:=dq fs t.1) λk _=>Tu c fs al t k;have a:(dq fs t.1).length<=fs.length:=tW _ fs 0;unfold gN;omega
theorem Aw{M:KM Int}{O:KV}{m1 m2:Nat}(hs:Stt c fs al M O sc m1 m2)(hn:fs.length<=24)
  {ff:FuncId} {Y:List (List Int)->(Nat->Prop)->Heap->Prop} (y:Fnd2 prog 5 ff cap Y) {w:Heap} (hY:Y [] S w) (hH:StH M O m1 m2 w) (n1:¬S m1) (n2:¬S m2):
  zB prog 151 [.iptr sc 0,.fn (.func ff) [] cap] w λ_ h'=>∃S',(∀i,S' i->S i\/w.next<=i)/\But S w h'/\Y ((qj fs al).flatMap (gN c fs al)) S' h':=by
 have Z:=hs;obtain⟨⟨ca,cb,ce,cp,x,rfl,hc,hx,_⟩,sm,dk,c9,b7,halt⟩:=hs;have b6:=λg=>cR [ca,cb,ce,cp,x,.map m1,.map m2] g;refine z5 zDE ?_;simp only[f151,zA]
 repeat' first|simp only[go_sem,cF, *]|apply bc<;>intro hc|(refine zB.mono (b6 _) ?_;rintro r h ⟨hq,rfl⟩)
 subst hq;generalize hL:LRec.mk _ _ _ _ _ _ _=L;have da:L.pending=none:=by rw[<-hL]
 have db:L.st=.ready:=by rw[<-hL]
 have ba:=y.lcl λk=>wo (qj fs al) (gN c fs al) k;have h4:=oT (al:=al) hn;refine pL (W:=WK m1 (.map (kmD (D.int .i64) M)) m2 (.map (kvD O)) λk=>Y (wo (qj fs al) (gN c fs al) k)) (n:=(qj fs al).length) (el:=elT (qj fs al)) (S:=λj=>j=m1\/j=m2\/S j) rfl (WK.lcl ba) db da ?_ (λyl a9=>kH Z yl (λk S h ⟨_,_,S0,hk,_⟩=>hk.st) a9) ?_ ?_
 ·exact WK.start hY hH.2.1 hH.2.2 hH.1.1 hH.1.2 n1 n2
 ·intro k S0 h3 hk a6 b9 cw cg;obtain⟨t,ht⟩:∃t,(qj fs al)[k]? =some t:=⟨_,zE hk⟩;have c6:(qj fs al).getD k (0,0,0)=t:=by rw[zK,ht];rfl
  simp only[elT,c6];obtain⟨p1,p2,p3,a,b3⟩:=gq (zh ht);have s:=b9;rw[<-hL]at s;have cs:=Re t;refine uN.round (g:=Pv) mix s rfl kr kr kr ?_;simp only[go_sem,cs];refine⟨by rw[zz ow];exact s,?_⟩;generalize hB:LRec.mk .busy _ _ _ _ _ _=B;have bx:({ B with st:=.ready,pending:=none } :LRec)=L:=by rw[<-hB,<-hL]
  obtain⟨S1,H,bk,U,N,bs,b4,c2,z,hw⟩:=Lp.open ba cw a6 cg (.row (lw t)) B;rw[bk];clear cs bk hB;have dr:yN true 3 (lw t) 0=some (.agg (lw t)):=zJ rfl ow;have e1:(lw t)[0]? =some (.int .i64 (t.1:Int)):=rfl;have e2:(lw t)[1]? =some (.int .i64 (t.2.1:Int)):=rfl;have e3:(lw t)[2]? =some (.int .i64 (t.2.2:Int)):=rfl;have dd:aX al t.1=a.ts:=by simp[aX,b3]
  have b0:∀j,S1 j->j<h3.next:=λj hj=>y.here _ _ _ hw.1 j hj;have b5:=λg=>bq [ca,cb,ce,cp,x,.map m1,.map m2] 4 (hf:=.fn (.func 199) [] [.iptr [.iptr [ca,cb,ce,cp,x,.map m1,.map m2] 0] 0,.ptr h3.next 0]) ⟨_,_,_,rfl⟩ g;refine(b5 _).mono ?_;rintro r H2 ⟨hq,rfl⟩;subst hq;simp only[go_sem,gK,U];generalize C:LRec.mk .ready _ _ _ _ _ _=L2;have cl:L2.pending=none:=by rw[<-C]
  have cm:L2.st=.ready:=by rw[<-C]
  have E:=y.lcl λk2=>wo (qj fs al) (gN c fs al) k++wo (dq fs t.1) (dw c fs al t) k2;have cf:¬S1 m1/\¬S1 m2:=hw.2.2.2.1;obtain⟨l,hl⟩:∃l:List (Nat×Obj),l= [(m1,.map (kmD (D.int .i64) M)),(m2,.map (kvD O)),(h3.next,.row (lw t))]:=⟨_,rfl⟩;have Q:∀p∈l,p.1<H2.next/\H2.at' p.1=some p.2/\¬S1 p.1:=by
   rw[hl];intro p K;simp only[zt,wr,lI]at K;rcases K with rfl|rfl|rfl
   ·exact⟨z.2.1,z.1.1,cf.1⟩
   ·exact⟨z.2.2,z.1.2,cf.2⟩
   ·exact⟨by rw[U];omega,N,λe=>uB _ (b0 _ e)⟩
  have o:∀{h:Heap},(∀p∈l,p.1<h.next/\h.at' p.1=some p.2)->StH M O m1 m2 h/\h3.next<h.next/\h.at' h3.next=some (.row (lw t)):=by
   rw[hl];intro h K;have q1:=K (m1,.map (kmD (D.int .i64) M)) (by simp);have q2:=K (m2,.map (kvD O)) (by simp);have q3:=K (h3.next,.row (lw t)) (by simp);exact⟨⟨⟨q1.2,q2.2⟩,q1.1,q2.1⟩,q3⟩
  clear hl;refine⟨⟨_,bs⟩,pL (W:=WL l λk2=>Y (wo (qj fs al) (gN c fs al) k++wo (dq fs t.1) (dw c fs al t) k2)) (n:=(dq fs t.1).length) (el:=elI (dq fs t.1)) (S:=λj=>(∃p∈l,j=p.1)\/S1 j) U (WL.lcl E) cm cl ?_ (λyl a9=>fG (sc:=[ca,cb,ce,cp,x,.map m1,.map m2]) rfl hx ow Z.ok yl (R:=λj=>j=h3.next) ?_ (λg hg h2 hr=> ?_) a9) ?_ ?_⟩
  ·exact WL.start (by rw[show wo (dq fs t.1) (dw c fs al t) 0= []from rfl,zp];exact c2) Q
  ·rintro j rfl;refine⟨by rw[qW _ ow];omega,.inr ?_⟩;rintro k S2 h2 ⟨_,_,S0,hk,_⟩;rw[(o hk.st).2.2,zz ow,N]
  ·exact(DS (sc:=[ca,cb,ce,cp,x,.map m1,.map m2]) rfl hx p1 g (by rw[hr _ rfl,zz ow,N])).mono λr h3 e=>e
  ·intro k2 S3 h5 c8 J cc c0 ch;obtain⟨v,hv⟩:∃v,(dq fs t.1)[k2]? =some v:=⟨_,zE c8⟩;have c7:(dq fs t.1).getD k2 0=v:=by rw[zK,hv];rfl
   have cv:v<fs.length:=by
    have:=(pX _ fs 0 v (zh hv)).2;omega
   simp only[elI,c7];have u:=cc;rw[<-C]at u;refine uN.round (g:=Pv) mix u rfl kr kr kr ?_;simp only[go_sem];refine⟨u,?_⟩;generalize c3:LRec.mk .busy _ _ _ _ _ _=B2;have ak:({ B2 with st:=.ready,pending:=none } :LRec)=L2:=by rw[<-c3,<-C]
   obtain⟨S4,H4,ab,ai,ad,au,a7,A,d⟩:=Lp.openL0 E c0 J ch B2;rw[ab];obtain⟨g1,g2,g3⟩:=o (h:=H4) λp K=>⟨by rw[ai];exact(A p K).1,(A p K).2⟩;have b:∀{fr:Frm}{G h7:Heap}{S5:Nat->Prop},G.at' (h3.next+1)=some (.loop B2)->But (λj=>j=h3.next+1) h5 G->(∀j,S5 j->S4 j\/G.next<=j)->But S4 G h7->Y (wo (qj fs al) (gN c fs al) k++wo (dq fs t.1) (dw c fs al t) (k2+1)) S5 h7->rq (LpK (h3.next+1) L2 (WL l λk2=>Y (wo (qj fs al) (gN c fs al) k++wo (dq fs t.1) (dw c fs al t) k2)) k2 S3 h5) (h3.next+1) .normal fr h7:=λa1 a2 a3 a4 a5=>Lp.callL E ak J ch d a1 a2 a3 a4 a5;rw[sx hv]at b;have b1:=wR hx cv
   have b2:=wR hx p2;have k5:fs[v].cells[5]? =some (.int .i64 fs[v].duty):=rfl;have k6:fs[t.2.1].cells[6]? =some (.bool fs[t.2.1].chg):=rfl;have hd:ay fs v=fs[v].duty:=by simp[ay,cv]
   have I:MW fs t.2.1=fs[t.2.1].chg:=by simp[MW,p2]
   have b8:dw c fs al t v=if((!(fs[v].duty==2)||fs[t.2.1].chg)&&Th c a.ts (oW fs t.2.2) (sJ fs t.2.1) fs[v].duty (λ_=>true))=true then [[(t.1:Int),(t.2.1:Int),(t.2.2:Int),(v:Int)]]else []:=by unfold dw;rw[hd,I,dd]
   have bb:=DP Z p1 p2 p3 b3 fs[v].duty (q:=λ_=>true) (R:=λ_=>False) (f:=196) (cap:=[]) g1 (λi hi=>hi.elim) (λy hy h2 _=>As y h2);rw[b8]at b;have cu:(wo (qj fs al) (gN c fs al) k++wo (dq fs t.1) (dw c fs al t) k2).length<16777216:=by
    have q1:=jU (V:=gN c fs al) (l:=qj fs al) (m:=24) (λt _=>Yz c hn al t) k;have q2:=jU (V:=dw c fs al t) (l:=dq fs t.1) (m:=1) (λk _=>Tu c fs al t k) k2;have q3:(dq fs t.1).length<=fs.length:=tW _ fs 0;rw[zM];omega
   have X:=λS h hy=>y.go _ S h [(t.1:Int),(t.2.1:Int),(t.2.2:Int),(v:Int)] .full hy cu (by simp) (by simp) (by
    intro n hn;simp only[zt,wr,lI]at hn;rcases hn with rfl|rfl|rfl|rfl<;>exact Mf ow)
   simp only[yT,z9]at X;have c4:=bs4 (t.1:Int) (t.2.1:Int) (t.2.2:Int) (v:Int);clear hd I b8 cu;generalize fs[v]=fv at *
   generalize fs[t.2.1]=fu at *
   clear hL bx C ak Z hY hH cw s b9 ht b6 b5 b7 c9 o Q cc u c0 d A ab hv c2 z b4
   repeat' first|simp only[go_sem,qH, *]|apply bc<;>intro
   refine zd kr ?_;cases h2:(fv.duty==2)<;>cases I:fu.chg
   case true.false=>
    rw[h2,I,iq (by simp),zp]at b;have c5:=λfr=>b (fr:=fr) ad au (λj hj=>.inl hj) (But.refl S4 H4) a7;clear b X bb
    repeat' first|simp only[go_sem,qH, *]|apply bc<;>intro
   all_goals
    rw[h2,I]at b
    repeat' first|simp only[go_sem,qH, *]|apply bc<;>intro
    refine bb.mono ?_;rintro r H5 ⟨T,rfl⟩;have bd:=(T.2 _ g2).trans g3;have a0:=au.ext1 T;have ag:=(T.2 _ (by rw[ai];exact J)).trans ad;have a8:=y.ext a7 T;cases hb:Th c a.ts (oW fs t.2.2) (sJ fs t.2.1) fv.duty (λ_=>true)with
    |false=>
     rw[hb,iq (by decide),zp]at b;have c5:=λfr=>b (fr:=fr) ag a0 (λj hj=>.inl hj) (But.refl S4 H5) a8;clear b X bb
     repeat' first|simp only[go_sem, *]|apply bc<;>intro hc
    |true=>
     rw[hb,ip (by decide)]at b;simp only[go_sem,bd,e1,e2,e3,c4];refine(X _ _ a8).mono ?_;rintro r h7 ⟨S5,P,F,d⟩;rw[z8]at d;exact b ag a0 P F d
  ·intro S' h5 hs hb d;obtain⟨S5,P,F,c1⟩:=WL.stop (λp K=>(Q p K).2.1) (λj hj=>by rw[U];exact hs j hj) hb d;rw[p6]at c1;have di:Y (wo (qj fs al) (gN c fs al) (k+1)) S5 h5:=by rw[sx ht];exact c1
   have b:∀fr,rq (LpK h.next L (WK m1 (.map (kmD (D.int .i64) M)) m2 (.map (kvD O)) λk=>Y (wo (qj fs al) (gN c fs al) k)) k S0 h3) h.next .normal fr h5:=λfr=>Lp.call ba bx a6 cg hw bs b4 P F di;simp only[go_sem];exact b _
 ·intro S2 h5 hs hb hw;obtain⟨S5,P,F,d⟩:=WK.stop hH.1.1 hH.1.2 hs hb hw;rw[p6]at d;simp only[go_sem];exact⟨S5,P,F,d⟩
def Ao(x y:Apt)(c:Bool):fV prog .eql 93 c (.agg [.str x.a,.str x.b]) (.agg [.str y.a,.str y.b])=some (.bool (x.a==y.a&&x.b==y.b)):=by
 have d:eqT prog 93=some [.s,.s]:=kr;simp only[fV,d,LD,eqK,qo,qd,oA]
def I4{l:List Apt}(q:ye 2 (Ip l) d)(D:l.length<=1048576)(n:Apt)(g:Heap):
  zB prog 365 [d,.agg [.str n.a,.str n.b]] g λr h'=>h'=g/\r=.int .i64 (cK (λx:Apt=>n.a==x.a&&n.b==x.b) l):=by
 have s:=fO q;have heq:=Ao n;obtain⟨p,t⟩:∃p:Apt->Bool,(λx:Apt=>n.a==x.a&&n.b==x.b)=p:=⟨_,rfl⟩;have m:∀x,(n.a==x.a&&n.b==x.b)=p x:=λx=>by rw[<-t]
 rw[t];refine z5 zDv ?_;simp only[f365,zA];simp only[go_sem, *];refine zV (λi fr h=>fr 0=d/\fr 3=.iptr [.str n.a,.str n.b] 0/\fr 7=.int .i64 (l.length:Int)/\fr 8=.int .i64 (i:Int)/\h=g/\∀j (e:j<l.length),j<i->p l[j]=false) l.length ow ?_ ?_ ?_
 ·simp only[go_sem,zQ,zS,zF];exact λj e h0=>absurd h0 (zj _)
 ·rintro i fr h c e1 C ⟨v,w,y,z,rfl,e⟩;have u:=de q c;simp only[Apt.cells]at u;have o:=heq l[i];rw[m]at o;cases k:p l[i]with
  |true=>
   have B:=lX (p:=p) c e k;rw[k]at o;simp only[go_sem, *];refine zd kr ?_;simp only[go_sem, *]
  |false=>
   have A:=qp (p:=p) c e k;rw[k]at o;simp only[go_sem, *];refine zd kr ?_;simp only[go_sem, *];exact A
 ·rintro fr h e1 ⟨v,w,y,z,rfl,e⟩;have B:=lY (p:=p) λj f=>e j f f;exact au
def QL{l:List Apt}(e:ye 2 (Ip l) d)(h:l.length<=1048576)(n:Apt)(g:Heap):
  zB prog 326 [d,.agg [.str n.a,.str n.b]] g λr h'=>h'=g/\r=.bool (l.any λx:Apt=>n.a==x.a&&n.b==x.b):=by
 have c:=I4 e h n;have f:=jE (l:=l) (p:=λx:Apt=>n.a==x.a&&n.b==x.b);refine z5 zDs ?_;simp only[f326,zA]
 repeat' first|simp only[go_sem, *]|apply bc<;>intro i|refine zB.use (c _) ?_
def AB(a b:List UInt8):Apt:=if(!(l8 a b||a==b))=true then⟨b,a⟩else⟨a,b⟩
def jl(c:Cat)(a b:List UInt8):Bool:=(qz c==0)&&c.ps.any λx=>(AB a b).a==x.a&&(AB a b).b==x.b
def WA(j:uM c d)(k:c.Sm)(x y:List UInt8)(g:Heap):zB prog 283 [d,.str x,.str y] g λr h'=>h'=g/\r=.bool (jl c x y):=by
 have i:=fF j k;obtain⟨a,b,e,p,rfl,o,s,t,m⟩:=j;have l:∀u v:List UInt8,wO prog 93 [(0,.str u),(1,.str v)]=some (.agg [.str u,.str v]):=λu v=>by simp[wO,My,Gc,tp,D.notTuple,D.cells,uG]
 have f:=λn=>QL m k.ps n;obtain⟨R,h⟩:∃R,jl c x y=R:=⟨_,rfl⟩;rw[h];unfold jl AB at h;refine z5 zDo ?_;simp only[f283,zA];cases q:(l8 x y||x==y)with
 |true=>
  rw[iq (by rw[q];decide)]at h;have h1:=f ⟨x,y⟩;subst h
  repeat' first|simp only[go_sem, *]|apply bc<;>intro j|refine zB.use (i _) ?_|refine zB.use (h1 _) ?_
 |false=>
  rw[ip (by rw[q];rfl)]at h;have h1:=f ⟨y,x⟩;subst h
  repeat' first|simp only[go_sem, *]|apply bc<;>intro j|refine zB.use (i _) ?_|refine zB.use (h1 _) ?_
def AA(c:Cat)(b:List Trm)(x:Trm):Bool:=b.any λy=>jl c x.a y.a
def IY(c:Cat)(a b:List Trm):Bool:=a.any (AA c b)
theorem Lv{I J ce K:D}{rest:List D}(x:uM c (.agg [I,J,ce,K]))(sm:c.Sm){a b:Alt}(Q:a.Ok)(R:b.Ok)(g:Heap):
  zB prog 200 [.iptr (I::J::ce::K::rest) 0,a.d,b.d] g λr h'=>Ext g h'/\r=.bool (IY c a.ts b.ts):=by
 have a4:=wT Q.sl;have a5:=wT R.sl;have a2:=Q.len;have a3:=R.len;obtain⟨q1,q2,_⟩:=yR Q.sl;obtain⟨q3,q4,_⟩:=yR R.sl;have hE:Ext g g:=Ext.refl g;have a9:yN true 4 (I::J::ce::K::rest) 0=some (.agg [I,J,ce,K]):=by simp[yN]
 refine z5 zDV ?_;simp only[f200,zA]
 repeat' first|simp only[go_sem, *]|apply bc<;>intro x
 refine zV (λi fr h'=>fr 0=.iptr (I::J::ce::K::rest) 0/\fr 2=b.d/\fr 11=a.d/\fr 12=.int .i64 (a.ts.length:Int)/\fr 13=.int .i64 (i:Int)/\Ext g h'/\∀j (t:j<a.ts.length),j<i->AA c b.ts a.ts[j]=false) a.ts.length ow ?_ ?_ ?_
 ·simp only[go_sem,zQ,zS,zF];exact⟨hE,λj t h0=>by omega⟩
 ·rintro i fr h1 E e1 ew ⟨L,M,l,m,o,A,t⟩;have a1:=rA Q.sl E;have ag:=λe=>pW (p:=AA c b.ts) E e;have ad:=λe=>qp (p:=AA c b.ts) E t e;generalize a.ts[i]=z at *
  have G:qP prog 112 (.ptr h1.next 0) (.agg z.cells) (h1.new h1.next (.row [.str [],.str []]))=some (h1.new h1.next (.row z.cells)):=qk uo ow rfl rfl rfl;have a8:yN true 2 z.cells 0=some (.agg z.cells):=zJ rfl ow;obtain⟨H,hH,f,C,q⟩:∃H,h1.new h1.next (.row z.cells)=H/\H.at' h1.next=some (.row z.cells)/\Ext g H/\h1.next<H.next:=⟨_,rfl,yQ _ _ _,A.new A.1 _,by rw[yA];omega⟩;rw[hH]at G
  repeat' first|simp only[go_sem, *]|apply bc<;>intro x
  obtain⟨P,F⟩:∃n,h1.next=n:=⟨_,rfl⟩;rw[F]at f q⊢;refine zV (λj fr h'=>fr 0=.iptr (I::J::ce::K::rest) 0/\fr 2=b.d/\fr 11=a.d/\fr 12=.int .i64 (a.ts.length:Int)/\fr 13=.int .i64 (i:Int)/\fr 8=.ptr P 0/\fr 17=b.d/\fr 18=.int .i64 (b.ts.length:Int)/\fr 19=.int .i64 (j:Int)/\h'.at' P=some (.row z.cells)/\P<h'.next/\Ext g h'/\∀k (hk:k<b.ts.length),k<j->jl c z.a b.ts[k].a=false) b.ts.length ow ?_ ?_ ?_
  ·simp only[go_sem,zQ,zS,zF];exact⟨L,M,l,m,o,f,q,C,λj t h0=>by omega⟩
  ·clear L M l m o f C G q F;rintro j W u s e2 ak ⟨L,M,l,m,o,f8,T,U,V,f,q,B,t⟩;have b1:=rA R.sl s;have ab:jl c z.a b.ts[j].a=true->AA c b.ts z=true:=λe=>pW (p:=λy:Trm=>jl c z.a y.a) s e;have Z:=λe=>qp (p:=λy:Trm=>jl c z.a y.a) s t e;generalize b.ts[j]=y at *
   have O:qP prog 112 (.ptr u.next 0) (.agg y.cells) (u.new u.next (.row [.str [],.str []]))=some (u.new u.next (.row y.cells)):=qk uo ow rfl rfl rfl;have ba:yN true 2 y.cells 0=some (.agg y.cells):=zJ rfl ow;have kz:z.cells[0]? =some (.str z.a):=rfl;have ky:y.cells[0]? =some (.str y.a):=rfl;obtain⟨H3,X,Y,a7,a0,ai⟩:∃H,u.new u.next (.row y.cells)=H/\H.at' u.next=some (.row y.cells)/\H.at' P=some (.row z.cells)/\Ext g H/\P<H.next:=⟨_,rfl,yQ _ _ _,by rw[zz ow];exact f,B.new B.1 _,by rw[yA];omega⟩;rw[X]at O;have v:=WA x sm z.a y.a H3;cases S:jl c z.a y.a with
   |false=>
    rw[S]at v;have w:=Z S
    repeat' first|simp only[go_sem, *]|apply bc<;>intro x
    refine zd kr ?_
    repeat' first|simp only[go_sem,qH, *]|apply bc<;>intro x|(refine zB.mono v ?_;rintro r h ⟨hq,rfl⟩)
    subst hq;exact w
   |true=>
    rw[S]at v;have w:IY c a.ts b.ts=true:=ag (ab S)
    repeat' first|simp only[go_sem, *]|apply bc<;>intro x
    refine zd kr ?_
    repeat' first|simp only[go_sem,qH, *]|apply bc<;>intro x|refine zB.use v ?_
  ·clear L M l m o f C G q F;rintro W u e2 ⟨L,M,l,m,o,f8,T,U,V,f,q,B,t⟩;have w:=ad (rO (p:=λy:Trm=>jl c z.a y.a) (λi N _=>t i N N))
   repeat' first|simp only[go_sem, *]|apply bc<;>intro x
   exact w
 ·rintro fr h1 e1 ⟨L,M,l,m,o,A,t⟩;have a6:IY c a.ts b.ts=false:=rO λi N _=>t i N N;exact au
def RZ(fs:List Fac)(t r:Tri):Bool:=decide ((r.1:Int)<(t.1:Int))|| !((r.2.2:Int)==(t.2.2:Int))|| !(sJ fs r.2.1==0)||((tK fs t.1==tK fs r.1)&& !((r.2.1:Int)==(t.2.1:Int)))
def nQ(c:Cat)(fs:List Fac)(al:Nat->Option Alt)(t r:Tri):List (List Int):=
 if(!(RZ fs t r)&&IY c (aX al t.1) (aX al r.1))=true then [[(t.1:Int),(r.1:Int),(t.2.1:Int),(r.2.1:Int),(t.2.2:Int)]]else []
def rn(c:Cat)(fs:List Fac)(al:Nat->Option Alt)(t:Tri):List (List Int):=if(sJ fs t.2.1==0)=true then(qj fs al).flatMap (nQ c fs al t)else []
def WU(c:Cat)(fs:List Fac)(al:Nat->Option Alt)(t r:Tri):(nQ c fs al t r).length<=1:=by unfold nQ;split<;>simp
def bp(c:Cat)(a:fs.length<=24)(al:Nat->Option Alt)(t:Tri):(rn c fs al t).length<=4096:=by
 unfold rn;split
 ·have h1:=tU (m:=1) (l:=qj fs al) λr _=>WU c fs al t r;have b:=oT (al:=al) a;omega
 ·simp
theorem DH{M:KM Int}{O:KV}{m1 m2:Nat}(hs:Stt c fs al M O sc m1 m2)(hn:fs.length<=24)
  {ff:FuncId} {Y:List (List Int)->(Nat->Prop)->Heap->Prop} (y:Fnd2 prog 5 ff cap Y) {w:Heap} (hY:Y [] S w) (hH:StH M O m1 m2 w) (n1:¬S m1) (n2:¬S m2):
  zB prog 152 [.iptr sc 0,.fn (.func ff) [] cap] w λ_ h'=>∃S',(∀i,S' i->S i\/w.next<=i)/\But S w h'/\Y ((qj fs al).flatMap (rn c fs al)) S' h':=by
 have o:=hs;obtain⟨⟨ca,cb,ce,cp,x,rfl,X,hx,_⟩,sm,d0,dr,cv,halt⟩:=hs;have ag:=λg=>cR [ca,cb,ce,cp,x,.map m1,.map m2] g;refine z5 zDF ?_;simp only[f152,zA]
 repeat' first|simp only[go_sem,cF, *]|apply bc<;>intro X|(refine zB.mono (ag _) ?_;rintro r h ⟨hq,rfl⟩)
 subst hq
 rename Heap=>w
 generalize hL:LRec.mk _ _ _ _ _ _ _=L;have ds:L.pending=none:=by rw[<-hL]
 have dt:L.st=.ready:=by rw[<-hL]
 have b4:=y.lcl λk=>wo (qj fs al) (rn c fs al) k;have h4:=oT (al:=al) hn;refine pL (W:=WK m1 (.map (kmD (D.int .i64) M)) m2 (.map (kvD O)) λk=>Y (wo (qj fs al) (rn c fs al) k)) (n:=(qj fs al).length) (el:=elT (qj fs al)) (S:=λj=>j=m1\/j=m2\/S j) rfl (WK.lcl b4) dt ds ?_ (λyl b0=>kH o yl (λk S h ⟨_,_,S0,hk,_⟩=>hk.st) b0) ?_ ?_
 ·exact WK.start hY hH.2.1 hH.2.2 hH.1.1 hH.1.2 n1 n2
 ·intro k S0 h3 hk a9 b5 cc c1;obtain⟨t,ht⟩:∃t,(qj fs al)[k]? =some t:=⟨_,zE hk⟩;have di:(qj fs al).getD k (0,0,0)=t:=by rw[zK,ht];rfl
  simp only[elT,di];obtain⟨p1,p2,p3,a,Z⟩:=gq (zh ht);have s:=b5;rw[<-hL]at s;have U:=Re t;refine uN.round (g:=Pw) mix s rfl kr kr kr ?_;simp only[go_sem,U];refine⟨by rw[zz ow];exact s,?_⟩;generalize hB:LRec.mk .busy _ _ _ _ _ _=B;have bx:({ B with st:=.ready,pending:=none } :LRec)=L:=by rw[<-hB,<-hL]
  obtain⟨S1,H,cl,bs,c7,bk,cu,cf,F,hw⟩:=Lp.open b4 cc a9 c1 (.row (lw t)) B;rw[cl];clear U cl hB;have d2:yN true 3 (lw t) 0=some (.agg (lw t)):=zJ rfl ow;have e1:(lw t)[0]? =some (.int .i64 (t.1:Int)):=rfl;have e2:(lw t)[1]? =some (.int .i64 (t.2.1:Int)):=rfl;have e3:(lw t)[2]? =some (.int .i64 (t.2.2:Int)):=rfl;have du:aX al t.1=a.ts:=by simp[aX,Z]
  have cm:∀j,S1 j->j<h3.next:=λj hj=>y.here _ _ _ hw.1 j hj;have a2:=wR hx p2;have c6:sJ fs t.2.1=fs[t.2.1].rel:=by simp[sJ,p2]
  have k3:fs[t.2.1].cells[3]? =some (.int .i64 fs[t.2.1].rel):=rfl;have v:∀{fr:Frm}{G h7:Heap}{S5:Nat->Prop},G.at' w.next=some (.loop B)->But (λj=>j=w.next) h3 G->(∀j,S5 j->S1 j\/G.next<=j)->But S1 G h7->Y (wo (qj fs al) (rn c fs al) (k+1)) S5 h7->rq (LpK w.next L (WK m1 (.map (kmD (D.int .i64) M)) m2 (.map (kvD O)) λk=>Y (wo (qj fs al) (rn c fs al) k)) k S0 h3) w.next .normal fr h7:=λa1 a2 a3 a4 a5=>Lp.call b4 bx a9 c1 hw a1 a2 a3 a4 a5;rw[sx ht]at v;refine zd kr ?_;rw[<-c6]at k3;clear c6;cases c5:(sJ fs t.2.1==0)with
  |false=>
   have hv:rn c fs al t= []:=by unfold rn;rw[c5];rfl
   rw[hv,zp]at v;have ai:=λfr=>v (fr:=fr) bk cu (λj hj=>.inl hj) (But.refl S1 H) cf;clear hL bx o hY hH cc s b5 ht ag v
   repeat' first|simp only[go_sem,qH, *]|apply bc<;>intro X
  |true=>
   have hv:rn c fs al t=(qj fs al).flatMap (nQ c fs al t):=by unfold rn;rw[c5];rfl
   rw[hv]at v
   repeat' first|simp only[go_sem,qH,cF, *]|apply bc<;>intro X|(refine zB.mono (ag _) ?_;rintro r h ⟨hq,rfl⟩)
   subst hq
   rename Heap=>H
   generalize J:LRec.mk .ready _ _ _ _ _ _=L2;have c3:L2.pending=none:=by rw[<-J]
   have c4:L2.st=.ready:=by rw[<-J]
   have K:=y.lcl λk2=>wo (qj fs al) (rn c fs al) k++wo (qj fs al) (nQ c fs al t) k2;have c0:¬S1 m1/\¬S1 m2:=hw.2.2.2.1;obtain⟨l,hl⟩:∃l:List (Nat×Obj),l= [(m1,.map (kmD (D.int .i64) M)),(m2,.map (kvD O)),(h3.next,.row (lw t))]:=⟨_,rfl⟩;have V:∀p∈l,p.1<H.next/\H.at' p.1=some p.2/\¬S1 p.1:=by
    rw[hl];intro p R;simp only[zt,wr,lI]at R;rcases R with rfl|rfl|rfl
    ·exact⟨F.2.1,F.1.1,c0.1⟩
    ·exact⟨F.2.2,F.1.2,c0.2⟩
    ·exact⟨by rw[bs];omega,c7,λe=>uB _ (cm _ e)⟩
   have z:∀{h:Heap},(∀p∈l,p.1<h.next/\h.at' p.1=some p.2)->StH M O m1 m2 h/\h3.next<h.next/\h.at' h3.next=some (.row (lw t)):=by
    rw[hl];intro h R;have q1:=R (m1,.map (kmD (D.int .i64) M)) (by simp);have q2:=R (m2,.map (kvD O)) (by simp);have q3:=R (h3.next,.row (lw t)) (by simp);exact⟨⟨⟨q1.2,q2.2⟩,q1.1,q2.1⟩,q3⟩
   clear hl;refine⟨⟨_,bk⟩,pL (W:=WL l λk2=>Y (wo (qj fs al) (rn c fs al) k++wo (qj fs al) (nQ c fs al t) k2)) (n:=(qj fs al).length) (el:=elT (qj fs al)) (S:=λj=>(∃p∈l,j=p.1)\/S1 j) bs (WL.lcl K) c4 c3 ?_ (λyl b0=>kH o yl (λk S h ⟨_,_,S0,hk,_⟩=>(z hk.st).1) b0) ?_ ?_⟩
   ·exact WL.start (by rw[show wo (qj fs al) (nQ c fs al t) 0= []from rfl,zp];exact cf) V
   ·intro k2 S3 h5 dk ba cw da c2;obtain⟨r,hr⟩:∃r,(qj fs al)[k2]? =some r:=⟨_,zE dk⟩;have dd:(qj fs al).getD k2 (0,0,0)=r:=by rw[zK,hr];rfl
    obtain⟨r1,r2,r3,b,ab⟩:=gq (zh hr);simp only[elT,dd];have A:=cw;rw[<-J]at A;have U:=Re r;refine uN.round (g:=Pw) mix A rfl kr kr kr ?_;simp only[go_sem,U];refine⟨by rw[zz ow];exact A,?_⟩;generalize ch:LRec.mk .busy _ _ _ _ _ _=B2;have a6:({ B2 with st:=.ready,pending:=none } :LRec)=L2:=by rw[<-ch,<-J]
    obtain⟨S4,H4,ak,dv,b6,au,a7,bb,I,q⟩:=Lp.openL K da ba c2 (.row (lw r)) B2;rw[ak];clear ak ch U;obtain⟨g1,g2,g3⟩:=z (h:=H4) λp R=>⟨by have:=(I p R).1;omega,(I p R).2⟩;have f:∀{fr:Frm}{G h7:Heap}{S5:Nat->Prop},G.at' (h3.next+1)=some (.loop B2)->But (λj=>j=h3.next+1) h5 G->(∀j,S5 j->S4 j\/G.next<=j)->But S4 G h7->Y (wo (qj fs al) (rn c fs al) k++wo (qj fs al) (nQ c fs al t) (k2+1)) S5 h7->rq (LpK (h3.next+1) L2 (WL l λk2=>Y (wo (qj fs al) (rn c fs al) k++wo (qj fs al) (nQ c fs al t) k2)) k2 S3 h5) (h3.next+1) .normal fr h7:=λa1 a2 a3 a4 a5=>Lp.callL K a6 ba c2 q a1 a2 a3 a4 a5
    rw[sx hr]at f;have b1:=wR hx p1;have b2:=wR hx r1;have b3:=wR hx r2;have o1:(lw r)[0]? =some (.int .i64 (r.1:Int)):=rfl;have o2:(lw r)[1]? =some (.int .i64 (r.2.1:Int)):=rfl;have o3:(lw r)[2]? =some (.int .i64 (r.2.2:Int)):=rfl;have w1:tK fs t.1=fs[t.1].comp:=by simp[tK,p1]
    have w2:tK fs r.1=fs[r.1].comp:=by simp[tK,r1]
    have w3:sJ fs r.2.1=fs[r.2.1].rel:=by simp[sJ,r2]
    have k5:fs[t.1].cells[1]? =some (.str fs[t.1].comp):=rfl;have k6:fs[r.1].cells[1]? =some (.str fs[r.1].comp):=rfl;have k7:fs[r.2.1].cells[3]? =some (.int .i64 fs[r.2.1].rel):=rfl;rw[<-w1]at k5;rw[<-w2]at k6;rw[<-w3]at k7;clear w1 w2 w3;have c9:(wo (qj fs al) (rn c fs al) k++wo (qj fs al) (nQ c fs al t) k2).length<16777216:=by
     have q1:(wo (qj fs al) (rn c fs al) k).length<=k*4096:=by
      have:=tU (m:=4096) (l:=(qj fs al).take k) λt _=>bp c hn al t;rw[z7]at this;exact za this (yW _ (Nat.min_le_left _ _))
     have q2:(wo (qj fs al) (nQ c fs al t) k2).length<=k2*1:=by
      have:=tU (m:=1) (l:=(qj fs al).take k2) λr _=>WU c fs al t r;rw[z7]at this;exact za this (yW _ (Nat.min_le_left _ _))
     rw[zM];omega
    have N:=λS h hy=>y.go _ S h [(t.1:Int),(r.1:Int),(t.2.1:Int),(r.2.1:Int),(t.2.2:Int)] .full hy c9 (by simp) (by simp) (by
     intro n hn;simp only[zt,wr,lI]at hn;rcases hn with rfl|rfl|rfl|rfl|rfl<;>exact Mf ow)
    simp only[yT,z9]at N;have u:=bs5 (t.1:Int) (r.1:Int) (t.2.1:Int) (r.2.1:Int) (t.2.2:Int);have P:=V4 o g1.1.1 p1 false;rw[Z]at P;replace P:uF prog 116 (.map m1) (.int .i64 (t.1:Int)) false H4=some a.d:=P;have Q:=V4 o g1.1.1 r1 false;rw[ab]at Q;replace Q:uF prog 116 (.map m1) (.int .i64 (r.1:Int)) false H4=some b.d:=Q;have c8:aX al r.1=b.ts:=by simp[aX,ab]
    have cs:nQ c fs al t r=if(!(RZ fs t r)&&IY c a.ts b.ts)=true then [[(t.1:Int),(r.1:Int),(t.2.1:Int),(r.2.1:Int),(t.2.2:Int)]]else []:=by unfold nQ;rw[du,c8]
    rw[cs]at f;have ad:=Lv (rest:=[x,.map m1,.map m2]) X sm (o.alt _ _ Z) (o.alt _ _ ab) H4;obtain⟨q1,q2,_⟩:=yR (o.alt _ _ Z).sl;obtain⟨q3,q4,_⟩:=yR (o.alt _ _ ab).sl;have d1:h3.next<h5.next:=ow;clear hL bx J a6 o hY hH cc s b5 ht ag cv dr z V cw A da q I cf F v hv cs c9;generalize h3.next=n3 at *
    generalize h5.next=n5 at *
    refine qD Heap.emp [(0,.no,false),(9,.no,false),(1,.no,false),(2,.no,false),(3,.no,false),(4,.no,false),(5,.no,false),(6,.no,false),(7,.no,false),(8,.no,false),(10,.no,false),(11,.no,false),(12,.no,false),(13,.no,false),(14,.no,false),(15,.no,false),(16,.no,false),(17,.no,false),(18,.no,false),(19,.no,false)] kr kr (λi ob e=>by cases e) ?_
    repeat' first|simp only[go_sem,qH, *]|apply bc<;>intro X
    refine rz (λC h'=>C 75=.bool (RZ fs t r)/\C 2=.iptr [.iptr [ca,cb,ce,cp,x,.map m1,.map m2] 0] 0/\C 3=.iptr [.fn (.func ff) [] cap] 0/\C 4=.ptr n3 0/\C 5=.ptr n5 0/\h'=H4) ?_ ?_
    ·refine zd kr ?_;unfold RZ;clear f N ad
     repeat' first|simp only[go_sem,qH, *]|apply bc<;>intro X
    rintro C G ⟨cg,f2,f3,f4,f5,rfl⟩;clear b1 b2 b3 k5 k6 k7 a2 k3;cases b9:RZ fs t r with
    |true=>
     rw[b9,iq (by simp),zp]at f;rw[b9]at cg;have ai:=λfr=>f (fr:=fr) au a7 (λj hj=>.inl hj) (But.refl S4 G) bb;clear f N ad
     repeat' first|simp only[go_sem, *]|apply bc<;>intro X
    |false=>
     rw[b9]at f cg
     repeat' first|simp only[go_sem, *]|apply bc<;>intro X
     refine qD Heap.emp [(0,.no,false),(1,.no,false),(8,.no,false),(2,.no,false),(3,.no,false),(4,.no,false),(5,.no,false),(6,.no,false),(7,.no,false),(9,.no,false),(10,.no,false),(11,.no,false),(12,.no,false),(13,.no,false),(14,.no,false),(15,.no,false)] kr kr (λi ob e=>by cases e) ?_
     repeat' first|simp only[go_sem,qH, *]|apply bc<;>intro X
     refine ad.mono ?_;rintro r' H5 ⟨E,rfl⟩;have b7:=(E.2 _ g2).trans g3;have b8:=(E.2 _ ow).trans b6;have a8:=a7.ext1 E;have a0:=(E.2 _ ow).trans au;have bd:=y.ext bb E;cases hb:IY c a.ts b.ts with
     |false=>
      rw[hb,iq (by decide),zp]at f;have ai:=λfr=>f (fr:=fr) a0 a8 (λj hj=>.inl hj) (But.refl S4 H5) bd;clear f N ad
      repeat' first|simp only[go_sem, *]|apply bc<;>intro X
     |true=>
      rw[hb,ip (by decide)]at f;simp only[go_sem,f2,f3,f4,f5,b7,b8,e1,e2,e3,o1,o2,o3,u];refine(N _ _ bd).mono ?_;rintro r h7 ⟨S5,T,u,q⟩;rw[z8]at q;exact f a0 a8 T u q
   ·intro S' h5 hs hb q;obtain⟨S5,T,u,db⟩:=WL.stop (λp R=>(V p R).2.1) (λj hj=>by rw[bs];exact hs j hj) hb q;rw[p6]at db;have ai:=λfr=>v (fr:=fr) bk cu T u db;simp only[go_sem];exact ai _
 ·intro S2 h5 hs hb hw;obtain⟨S5,T,u,q⟩:=WK.stop hH.1.1 hH.1.2 hs hb hw;rw[p6]at q;simp only[go_sem];exact⟨S5,T,u,q⟩
def DU(g:Fac)(h:Heap):zB prog 201 [.agg g.cells] h λr h'=>h'=h/\r=.bool true:=by
 refine z5 zDW ?_;simp only[f201,zA];exact au
def DW(g:Fac)(h:Heap):zB prog 203 [.agg g.cells] h λr h'=>h'=h/\r=.bool true:=by
 refine z5 zHK ?_;simp only[f203,zA];exact au
def DV(b:sc[4]? =some x)(c:ye 12 (dj fs) x){u:Nat}(a:u<fs.length)(g:Fac)(f:h.at' id=some (.row [.int .i64 (u:Int)])):
  zB prog 202 [.agg g.cells,.iptr [.iptr sc 0] 0,.ptr id 0] h λr h'=>h'=h/\r=.bool (g.out==tX fs u):=by
 have k1:fs[u].cells[2]? =some (.str fs[u].out):=rfl;have k2:g.cells[2]? =some (.str g.out):=rfl;have d:=wR c a;have j:tX fs u=fs[u].out:=by simp[tX,a]
 refine z5 zDX ?_;simp only[f202,zA];simp only[go_sem, *];refine qD Heap.emp [(2,.no,false),(6,.no,false),(0,.no,false),(1,.no,false),(3,.no,false),(4,.no,false),(5,.no,false),(7,.no,false),(8,.no,false),(9,.no,false),(10,.no,false),(11,.no,false)] kr kr (λi k e=>by cases e) ?_;simp only[go_sem,qH, *]
def Y6(fs:List Fac)(i:Nat):List (List UInt8):=match fs[i]? with
 |some f=>f.list
 |none=>[]
abbrev fp(fs:List Fac):List Nat:=fIx 3 (λ_=>true) fs
abbrev Xa(fs:List Fac):List Nat:=fIx 2 (λ_=>true) fs
def XH(i h:Nat):List (List Int):=[[(i:Int),(h:Int)]]
def lm(fs:List Fac)(O:KV)(i:Nat):List (List Int):=match o5 (tX fs i) O with
 |none=>[]
 |some own=>if((Y6 fs i).any λs=>s==own)=true then []else(lr fs i).flatMap (XH i)
def XI(b:fs.length<=24)(O:KV)(i:Nat):(lm fs O i).length<=24:=by
 unfold lm;split
 ·simp
 ·split
  ·simp
  ·have h1:=tU (m:=1) (l:=lr fs i) λh _=>(show(XH i h).length<=1 from zD _)
   have a:(lr fs i).length<=fs.length:=tW _ fs 0;omega
theorem Ay{M:KM Int}{O:KV}{m1 m2:Nat}(hs:Stt c fs al M O sc m1 m2)(hn:fs.length<=24)
  {ff:FuncId} {Y:List (List Int)->(Nat->Prop)->Heap->Prop} (y:Fnd2 prog 5 ff cap Y) {w:Heap} (hY:Y [] S w) (hH:StH M O m1 m2 w) (n1:¬S m1) (n2:¬S m2):
  zB prog 153 [.iptr sc 0,.fn (.func ff) [] cap] w λ_ h'=>∃S',(∀i,S' i->S i\/w.next<=i)/\But S w h'/\Y ((fp fs).flatMap (lm fs O)) S' h':=by
 have X:=hs;obtain⟨⟨ca,cb,ce,cp,x,rfl,hc,hx,_⟩,sm,db,c5,da,halt⟩:=hs;have F:=λg=>bq [ca,cb,ce,cp,x,.map m1,.map m2] 3 (hf:=.fn (.func 201) [] []) ⟨_,_,_,rfl⟩ g;refine z5 zDG ?_;simp only[f153,zA]
 repeat' first|simp only[go_sem,gK, *]|apply bc<;>intro hc|(refine zB.mono (F _) ?_;rintro r h ⟨hq,rfl⟩)
 subst hq
 rename Heap=>w
 generalize hL:LRec.mk _ _ _ _ _ _ _=L;have c6:L.pending=none:=by rw[<-hL]
 have c7:L.st=.ready:=by rw[<-hL]
 have ba:=y.lcl λk=>wo (fp fs) (lm fs O) k;refine pL (W:=WK m1 (.map (kmD (D.int .i64) M)) m2 (.map (kvD O)) λk=>Y (wo (fp fs) (lm fs O) k)) (n:=(fp fs).length) (el:=elI (fp fs)) (S:=λj=>j=m1\/j=m2\/S j) rfl (WK.lcl ba) c7 c6 ?_ (λyl a9=>fG (sc:=[ca,cb,ce,cp,x,.map m1,.map m2]) rfl hx ow X.ok yl (R:=λj=>False) (λ_ h=>h.elim) (λg hg h2 hr=>DU g h2) a9) ?_ ?_
 ·exact WK.start hY hH.2.1 hH.2.2 hH.1.1 hH.1.2 n1 n2
 ·intro k S0 h3 hk ad bk bs cg;obtain⟨t,ht⟩:∃t,(fp fs)[k]? =some t:=⟨_,zE hk⟩;have c1:(fp fs).getD k 0=t:=by rw[zK,ht];rfl
  have p1:t<fs.length:=by
   have:=(pX _ fs 0 t (zh ht)).2;omega
  simp only[elI,c1];have b:=bk;rw[<-hL]at b;have au:qP prog 3 (.ptr h3.next 0) (.int .i64 (t:Int)) (h3.new h3.next (.row [.int .i64 0]))=some (h3.new h3.next (.row [.int .i64 (t:Int)])):=by
   rw[qO (yQ _ _ _) pj (by simp) rfl rfl,dy];rfl
  refine uN.round (g:=Px) mix b rfl kr kr kr ?_;simp only[go_sem,au];refine⟨by rw[zz ow];exact b,?_⟩;generalize hB:LRec.mk .busy _ _ _ _ _ _=B;have a8:({ B with st:=.ready,pending:=none } :LRec)=L:=by rw[<-hB,<-hL]
  obtain⟨S1,H,b0,a7,P,a6,b8,Z,a0,hw⟩:=Lp.open ba bs ad cg (.row [.int .i64 (t:Int)]) B;rw[b0];clear au b0 hB;have b7:∀j,S1 j->j<h3.next:=λj hj=>y.here _ _ _ hw.1 j hj;have b1:=wR hx p1;have cl:tX fs t=fs[t].out:=by simp[tX,p1]
  have cf:Y6 fs t=fs[t].list:=by simp[Y6,p1]
  have q:∀{fr:Frm}{G h7:Heap}{S5:Nat->Prop},G.at' w.next=some (.loop B)->But (λj=>j=w.next) h3 G->(∀j,S5 j->S1 j\/G.next<=j)->But S1 G h7->Y (wo (fp fs) (lm fs O) (k+1)) S5 h7->rq (LpK w.next L (WK m1 (.map (kmD (D.int .i64) M)) m2 (.map (kvD O)) λk=>Y (wo (fp fs) (lm fs O) k)) k S0 h3) w.next .normal fr h7:=λa1 a2 a3 a4 a5=>Lp.call ba a8 ad cg hw a1 a2 a3 a4 a5;rw[sx ht]at q;have k1:fs[t].cells[2]? =some (.str fs[t].out):=rfl;have k2:fs[t].cells[8]? =some (.int .i64 0)\/True:=.inr trivial;have k8:fs[t].cells[11]? =some fs[t].d:=rfl;have bx:=c5 _ (zG p1);have bb:=kx bx.list bx.ll
  obtain⟨q1,q2,_⟩:=yR bx.list;have u:=K0 a0.1.2 (tX fs t) true;have o:lm fs O t=match o5 (tX fs t) O with
   |none=>[]
   |some own=>if(fs[t].list.any λs=>s==own)=true then []else(lr fs t).flatMap (XH t):=by unfold lm;rw[cf]
  rw[<-cl]at k1;clear cl cf k2;generalize fs[t]=f at *
  refine qD Heap.emp [(0,.no,false),(4,.no,false),(8,.no,false),(1,.no,false),(2,.no,false),(3,.no,false),(5,.no,false),(6,.no,false),(7,.no,false),(9,.no,false),(10,.no,false),(11,.no,false),(12,.no,false),(13,.no,false),(14,.no,false),(15,.no,false),(16,.no,false),(17,.no,false)] kr kr (λi ob e=>by cases e) ?_;have a:lm fs O t= []->∀fr,rq (LpK w.next L (WK m1 (.map (kmD (D.int .i64) M)) m2 (.map (kvD O)) λk=>Y (wo (fp fs) (lm fs O) k)) k S0 h3) w.next .normal fr H:=λe fr=>by
   rw[e,zp]at q;exact q a6 b8 (λj hj=>.inl hj) (But.refl S1 H) Z
  cases N:o5 (tX fs t) O with
  |none=>
   rw[N]at u o;replace u:uF prog 117 (.map m2) (.str (tX fs t)) true H=some (.tuple [.str [],.bool false]):=u;have bd:=a o;clear hL a8 X hY hH bs b bk ht F q a o N Z a0
   repeat' first|simp only[go_sem,qH, *]|apply bc<;>intro
   refine qD Heap.emp [(0,.no,false),(1,.no,false),(2,.no,false),(3,.no,false),(7,.no,false),(4,.no,false),(5,.no,false),(6,.no,false),(8,.no,false),(9,.no,false),(10,.no,false),(11,.no,false),(12,.no,false),(13,.no,false)] kr kr (λi ob e=>by cases e) ?_
   repeat' first|simp only[go_sem,qH, *]|apply bc<;>intro hc
  |some own=>
   rw[N]at u o;replace u:uF prog 117 (.map m2) (.str (tX fs t)) true H=some (.tuple [.str own,.bool true]):=u;cases J:f.list.any λs=>s==own with
   |true=>
    have bd:=a (by rw[o];simp only[J,qG]);clear hL a8 X hY hH bs b bk ht F q a o N Z a0;have E:=bb own H;rw[J]at E
    repeat' first|simp only[go_sem,qH, *]|apply bc<;>intro
    refine qD Heap.emp [(0,.no,false),(1,.no,false),(2,.no,false),(3,.no,false),(7,.no,false),(4,.no,false),(5,.no,false),(6,.no,false),(8,.no,false),(9,.no,false),(10,.no,false),(11,.no,false),(12,.no,false),(13,.no,false)] kr kr (λi ob e=>by cases e) ?_
    repeat' first|simp only[go_sem,qH, *]|apply bc<;>intro hc|(refine zB.mono E ?_;rintro r h ⟨hq,rfl⟩)
   |false=>
    have ai:lm fs O t=(lr fs t).flatMap (XH t):=by rw[o];simp only[J,zW,yz]
    rw[ai]at q;have E:=bb own H;rw[J]at E;clear a o ai N bb J;have c0:=λg=>bq [ca,cb,ce,cp,x,.map m1,.map m2] 2 (hf:=.fn (.func 202) [] [.iptr [.iptr [ca,cb,ce,cp,x,.map m1,.map m2] 0] 0,.ptr h3.next 0]) ⟨_,_,_,rfl⟩ g
    repeat' first|simp only[go_sem,qH, *]|apply bc<;>intro
    refine qD Heap.emp [(0,.no,false),(1,.no,false),(2,.no,false),(3,.no,false),(7,.no,false),(4,.no,false),(5,.no,false),(6,.no,false),(8,.no,false),(9,.no,false),(10,.no,false),(11,.no,false),(12,.no,false),(13,.no,false)] kr kr (λi ob e=>by cases e) ?_
    repeat' first|simp only[go_sem,qH, *]|apply bc<;>intro hc|(refine zB.mono E ?_;rintro r h ⟨hq,rfl⟩)
    subst hq
    rename Heap=>H
    repeat' first|simp only[go_sem,gK, *]|apply bc<;>intro hc|(refine zB.mono (c0 _) ?_;rintro r h ⟨hq,rfl⟩)
    subst hq
    rename Heap=>H
    generalize U:LRec.mk .ready _ _ _ _ _ _=L2;have cm:L2.pending=none:=by rw[<-U]
    have cs:L2.st=.ready:=by rw[<-U]
    have A:=y.lcl λk2=>wo (fp fs) (lm fs O) k++wo (lr fs t) (XH t) k2;obtain⟨l,hl⟩:∃l:List (Nat×Obj),l= [(h3.next,.row [.int .i64 (t:Int)])]:=⟨_,rfl⟩;have ak:∀p∈l,p.1<H.next/\H.at' p.1=some p.2/\¬S1 p.1:=by
     rw[hl];intro p hp;cases zY.1 hp;exact⟨by rw[a7];omega,P,λe=>uB _ (b7 _ e)⟩
    have I:∀{h:Heap},(∀p∈l,p.1<h.next/\h.at' p.1=some p.2)->h3.next<h.next/\h.at' h3.next=some (.row [.int .i64 (t:Int)]):=by
     rw[hl];exact λhp=>hp (h3.next,.row [.int .i64 (t:Int)]) (by simp)
    clear hl;refine⟨⟨_,a6⟩,pL (W:=WL l λk2=>Y (wo (fp fs) (lm fs O) k++wo (lr fs t) (XH t) k2)) (n:=(lr fs t).length) (el:=elI (lr fs t)) (S:=λj=>(∃p∈l,j=p.1)\/S1 j) a7 (WL.lcl A) cs cm ?_ (λyl a9=>fG (sc:=[ca,cb,ce,cp,x,.map m1,.map m2]) rfl hx ow X.ok yl (R:=λj=>j=h3.next) ?_ (λg hg h2 hr=> ?_) a9) ?_ ?_⟩
    ·exact WL.start (by rw[show wo (lr fs t) (XH t) 0= []from rfl,zp];exact Z) ak
    ·rintro j rfl;refine⟨by rw[qW _ ow];omega,.inr ?_⟩;rintro k S2 h2 ⟨_,_,S0,hk,_⟩;rw[(I hk.st).2,zz ow,P]
    ·exact(DV (sc:=[ca,cb,ce,cp,x,.map m1,.map m2]) rfl hx p1 g (by rw[hr _ rfl,zz ow,P])).mono λr h3 e=>e
    ·intro k2 S3 h5 c3 ag c4 c9 ch;obtain⟨v,hv⟩:∃v,(lr fs t)[k2]? =some v:=⟨_,zE c3⟩;have c2:(lr fs t).getD k2 0=v:=by rw[zK,hv];rfl
     have dd:v<fs.length:=by
      have:=(pX _ fs 0 v (zh hv)).2;omega
     simp only[elI,c2];have K:=c4;rw[<-U]at K;refine uN.round (g:=Px) mix K rfl kr kr kr ?_;simp only[go_sem];refine⟨K,?_⟩;generalize cv:LRec.mk .busy _ _ _ _ _ _=B2;have b6:({ B2 with st:=.ready,pending:=none } :LRec)=L2:=by rw[<-cv,<-U]
     obtain⟨S4,H4,b3,b5,b4,b9,cu,ab,z⟩:=Lp.openL0 A c9 ag ch B2;rw[b3];obtain⟨g2,g3⟩:=I (h:=H4) λp hp=>⟨by rw[b5];exact(ab p hp).1,(ab p hp).2⟩;have c8:(wo (fp fs) (lm fs O) k++wo (lr fs t) (XH t) k2).length<16777216:=by
      have q1:=jU (V:=lm fs O) (l:=fp fs) (m:=24) (λt _=>XI hn O t) k;have q2:=jU (V:=XH t) (l:=lr fs t) (m:=1) (λk _=>zD _) k2;have q3:(lr fs t).length<=fs.length:=tW _ fs 0;have q4:(fp fs).length<=fs.length:=tW _ fs 0;rw[zM];omega
     have cc:=y.go _ S4 H4 [(t:Int),(v:Int)] .full cu c8 (by simp) (by simp) (by
      intro n hn;simp only[zt,wr,lI]at hn;rcases hn with rfl|rfl<;>exact Mf ow)
     simp only[yT,z9]at cc;have cw:=bs2 (t:Int) (v:Int);simp only[go_sem,cw,g3];refine cc.mono ?_;rintro r h7 ⟨S5,Q,C,T⟩;rw[z8]at T;refine Lp.callL A b6 ag ch z b4 b9 Q C ?_;rw[sx hv];exact T
    ·intro S' h5 hs hb z;obtain⟨S5,Q,C,T⟩:=WL.stop (λp hp=>(ak p hp).2.1) (λj hj=>by rw[a7];exact hs j hj) hb z;rw[p6]at T;have bd:=λfr=>q (fr:=fr) a6 b8 Q C T;simp only[go_sem];exact bd _
 ·intro S2 h5 hs hb hw;obtain⟨S5,Q,C,z⟩:=WK.stop hH.1.1 hH.1.2 hs hb hw;rw[p6]at z;simp only[go_sem];exact⟨S5,Q,C,z⟩
def T6(h:Nat):List (List Int):=[[(h:Int)]]
def aI(c:Cat)(fs:List Fac):List (List Int):=if decide ((c.ls.length:Int)>0)=true then []else(Xa fs).flatMap T6
def Az{M:KM Int}{O:KV}{m1 m2:Nat}(C:Stt c fs al M O sc m1 m2)(hn:fs.length<=24)
  {ff:FuncId} {Y:List (List Int)->(Nat->Prop)->Heap->Prop} (y:Fnd2 prog 5 ff cap Y) {w:Heap} (hY:Y [] S w) (hH:StH M O m1 m2 w) (n1:¬S m1) (n2:¬S m2):
  zB prog 154 [.iptr sc 0,.fn (.func ff) [] cap] w λ_ h'=>∃S',(∀i,S' i->S i\/w.next<=i)/\But S w h'/\Y (aI c fs) S' h':=by
 have X:=C;obtain⟨⟨ca,cb,ce,cp,x,rfl,hc,hx,K⟩,sm,au,a4,ak,halt⟩:=C;have a3:=pK K;have d:=λg=>bq [ca,cb,ce,cp,x,.map m1,.map m2] 2 (hf:=.fn (.func 203) [] []) ⟨_,_,_,rfl⟩ g;refine z5 zDH ?_;simp only[f154,zA];cases hd:decide ((c.ls.length:Int)>0)with
 |true=>
  have b:aI c fs= []:=by unfold aI;rw[hd];rfl
  have a2:∃S',(∀i,S' i->S i\/w.next<=i)/\But S w w/\Y (aI c fs) S' w:=⟨S,λi hi=>.inl hi,But.refl S w,by rw[b];exact hY⟩;clear b d
  repeat' first|simp only[go_sem,qH, *]|apply bc<;>intro hc
 |false=>
  have b:aI c fs=(Xa fs).flatMap T6:=by unfold aI;rw[hd];rfl
  rw[b];clear b
  repeat' first|simp only[go_sem,qH,gK, *]|apply bc<;>intro hc|(refine zB.mono (d _) ?_;rintro r h ⟨hq,rfl⟩)
  subst hq
  rename Heap=>w
  generalize A:LRec.mk _ _ _ _ _ _ _=L;have T:L.pending=none:=by rw[<-A]
  have U:L.st=.ready:=by rw[<-A]
  have o:=y.lcl λk=>wo (Xa fs) T6 k;obtain⟨l,hl⟩:∃l:List (Nat×Obj),l= []:=⟨_,rfl⟩;have f:∀p∈l,p.1<w.next/\w.at' p.1=some p.2/\¬S p.1:=by rw[hl];intro p Q;cases Q
  clear hl;refine pL (W:=WL l λk=>Y (wo (Xa fs) T6 k)) (n:=(Xa fs).length) (el:=elI (Xa fs)) (S:=λj=>(∃p∈l,j=p.1)\/S j) rfl (WL.lcl o) U T (WL.start hY f) (λyl G=>fG (sc:=[ca,cb,ce,cp,x,.map m1,.map m2]) rfl hx ow X.ok yl (R:=λj=>False) (λ_ h=>h.elim) (λg hg h2 hr=>DW g h2) G) ?_ ?_
  ·intro k S0 h3 hk e P ad v;obtain⟨t,Z⟩:∃t,(Xa fs)[k]? =some t:=⟨_,zE hk⟩;have N:(Xa fs).getD k 0=t:=by rw[zK,Z];rfl
   have p1:t<fs.length:=by
    have:=(pX _ fs 0 t (zh Z)).2;omega
   simp only[elI,N];have a:=P;rw[<-A]at a;refine uN.round (g:=KJ) mix a rfl kr kr kr ?_;simp only[go_sem];refine⟨a,?_⟩;generalize hB:LRec.mk .busy _ _ _ _ _ _=B;have F:({ B with st:=.ready,pending:=none } :LRec)=L:=by rw[<-hB,<-A]
   obtain⟨S1,H,D,a1,E,J,ai,a0,hw⟩:=Lp.openL0 o ad e v B;rw[D];have ab:(wo (Xa fs) T6 k).length<16777216:=by
    have q2:=jU (V:=T6) (l:=Xa fs) (m:=1) (λk _=>zD _) k;have q3:(Xa fs).length<=fs.length:=tW _ fs 0;omega
   have u:=y.go _ S1 H [(t:Int)] .full ai ab (by simp) (by simp) (by
    intro n hn;cases zY.1 hn;exact Mf ow)
   simp only[yT,z9]at u;have I:=bs1 (t:Int);simp only[go_sem,I];refine u.mono ?_;rintro r h7 ⟨S5,s,q,ag⟩;refine Lp.callL o F e v hw E J s q ?_;rw[sx Z];exact ag
  ·intro S2 h5 C hb hw;obtain⟨S5,s,q,z⟩:=WL.stop (λp Q=>(f p Q).2.1) C hb hw;rw[p6]at z;simp only[go_sem];exact⟨S5,s,q,z⟩
end Go.V
