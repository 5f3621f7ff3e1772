/- Rules of the machine of abstract values, part 12. No condition. -/
import Derived.Test.YthcjhnmnhfgdiaaGreatDoorW35
set_option linter.all false
set_option maxHeartbeats 8000000
namespace Go.V
abbrev KM (κ:Type):=List (κ×D)
def kmD {κ:Type} (enc:κ->D) (m:KM κ):List (D×D):=m.map λp=>(enc p.1,p.2)
def nD {κ:Type} [BEq κ] (k:κ):KM κ->Option D
 | []=>none
 |(k',v)::m=>if k==k' then some v else nD k m
def lV {κ:Type} [BEq κ] (k:κ) (v:D):KM κ->KM κ
 | []=>[(k,v)]
 |(k',v')::m=>if k==k' then(k,v)::m else(k',v')::lV k v m
structure KEnc {κ:Type} [BEq κ] (enc:κ->D) (ag:Bool) (ks:List Kd):Prop where
 eq:∀a b,eqK ks (enc a).cells (enc b).cells=some (a==b)
 shape:∀a,zV ag (enc a)=true
section
variable {κ:Type} [BEq κ] {enc:κ->D} {ag:Bool} {ks:List Kd} (E:KEnc enc ag ks)
include E
theorem Zw (k:κ):∀m:KM κ,rD ks (enc k) (kmD enc m)=some (nD k m)
 | []=>rfl
 |(k',v)::m=>by
  have a:=Zw k m;show(match eqK ks (enc k).cells (enc k').cells with|some true=>some (some v)|some false=>rD ks (enc k) (kmD enc m)|none=>none)=_
  rw[E.eq];cases h:(k==k') with
  |true=>simp[nD,h]
  |false=>simp only[nD,h,a];rfl
theorem Lr (k:κ) (v:D):∀m:KM κ,UG ks (enc k) v (kmD enc m)=some (kmD enc (lV k v m))
 | []=>rfl
 |(k',b)::m=>by
  have a:=Lr k v m;show(match eqK ks (enc k).cells (enc k').cells with|some true=>some ((enc k,v)::kmD enc m)|some false=>(UG ks (enc k) v (kmD enc m)).map ((enc k',b):: ·)|none=>none)=_
  rw[E.eq];cases h:(k==k') with
  |true=>simp[lV,h,kmD]
  |false=>simp only[lV,h,a];rfl
def X0 (m:KM κ):(kmD enc m).all (λx=>zV ag x.1)=true:=by
 rw[List.all_eq_true];intro x a;obtain⟨p,_,rfl⟩:=List.mem_map.1 a;exact E.shape _
omit E in
theorem X1 [LawfulBEq κ] (k k':κ) (v:D):∀m:KM κ,nD k (lV k' v m)=if k==k' then some v else nD k m
 | []=>by simp[lV,nD]
 |(k2,c)::m=>by
  have b:=X1 k k' v m;simp only[lV];by_cases h:k'=k2
  ·subst h;simp only[beq_self_eq_true,if_true,nD];by_cases g:k=k'
   ·subst g;simp
   ·simp[g]
  ·have a:(k'==k2)=false:=by simp[h]
   simp only[a,Bool.false_eq_true,if_false,nD,b];by_cases g:k=k2
   ·subst g
    have:(k==k')=false:=by simp;exact λe=>h e.symm
    simp[this]
   ·simp[g]
variable {P:Program} {t kt e:TypeId} {z:D} {id:Nat} {h:Heap} {m:KM κ}
def QZ (a:h.at' id=some (.map (kmD enc m))) (c:UH P t=some (kt,e)) (b:UI P kt=some (ag,ks)) (d:qK P e=some z) (k:κ) (hr:(k==k)=true) (ok:Bool):
  yj P t (.map id) (enc k) ok h=some (nI ok z (nD k m)):=by
 simp only[yj,c,b,d,cG,a,pn,X0 E,E.eq,E.shape,Zw E,Option.isSome_some,Bool.and_self,if_true]
def Zx (a:h.at' id=some (.map (kmD enc m))) (c:UH P t=some (kt,e)) (b:UI P kt=some (ag,ks)) (k:κ) (v:D):
  yW P t (.map id) (enc k) v h=some (h.set id (.map (kmD enc (lV k v m)))):=by
 simp only[yW,c,b,a,X0 E,E.eq,E.shape,Zw E,Lr E,Option.isSome_some,Bool.and_self,if_true]
end
def zB0:KEnc (λi:Int=>D.int .i64 i) false [.i]:=
 ⟨λa b=>by show(if IntKind.i64=IntKind.i64 then(eqK [] [] []).map (a==b&& ·) else none)=_;simp[eqK],λ_=>rfl⟩
structure Fnd2 (P:Program) (mx:Nat) (f:FuncId) (cap:List D) (Y:List (List Int)->(Nat->Prop)->Heap->Prop):Prop where
 here:∀ks S h,Y ks S h->∀i,S i->i<h.next
 loc:∀ks S h h',Y ks S h->h.next<=h'.next->(∀i,S i->h'.at' i=h.at' i)->Y ks S h'
 go:∀ks S h l tk,Y ks S h->ks.length<16777216->0<l.length->l.length<=mx->(∀n∈l,fits .i64 n)->zA P f ([]++ [.sl 1 (qP l) tk]++cap) h λ_ h'=>∃S',(∀i,S' i->S i\/h.next<=i)/\But S h h'/\Y (ks++ [l]) S' h'
variable {P:Program}{f:FuncId}{cap sc:List D}{S:Nat->Prop}{h h' h0 g:Heap}{t:TypeId}{fr:Frm}{c:Cat}{fs:List Fac}{al:Nat->Option Alt}{i id k:Nat}{x d:D}{α β:Type}{N:Int}
def Fnd2.lcl {mx:Nat} {Y:List (List Int)->(Nat->Prop)->Heap->Prop} (y:Fnd2 P mx f cap Y) (els:Nat->List (List Int)):Lcl λk=>Y (els k):=
 ⟨λk=>y.here (els k),λk=>y.loc (els k)⟩
def Fnd2.ext {mx:Nat} {Y:List (List Int)->(Nat->Prop)->Heap->Prop} (y:Fnd2 P mx f cap Y) {ks:List (List Int)} (b:Y ks S h) (a:Ext h h'):Y ks S h':=
 y.loc ks S h h' b a.1 λi c=>a.2 i (y.here ks S h b i c)
section
variable {W:Nat->(Nat->Prop)->Heap->Prop} {id m1 m2 k:Nat} {o1 o2:Obj} {L B:LRec} {h3 H h5:Heap} {S0 S1 S5:Nat->Prop} {fr:Frm}
def Lcl.round (d:Lcl W) (g:W k S1 h3) (b:∀i,S1 i->S0 i) (c:¬S0 id) (a:But (λi=>i=id) h3 H):W k S1 H:=
 d.loc _ _ _ _ g a.1 λi f=>a.2 i (d.here _ _ _ g i f) λe=>c (by rw[<-e];exact b i f)
def Lp.call (v:Lcl W) (m:({ B with st:= .ready,pending:=none } :LRec)=L) (h:id<h3.next) (d:¬S0 id) (n:W k S1 h3/\(m1<h3.next/\m2<h3.next)/\(h3.at' m1=some o1/\h3.at' m2=some o2)/\(¬S1 m1/\¬S1 m2)/\∀i,S0 i↔(i=m1\/i=m2\/S1 i))
  (l:H.at' id=some (.loop B)) (c:But (λi=>i=id) h3 H) (f:∀j,S5 j->S1 j\/H.next<=j) (b:But S1 H h5) (x:W (k+1) S5 h5):
  wK (LpK id L (WK m1 o1 m2 o2 W) k S0 h3) id .normal fr h5:=by
 obtain⟨_,⟨C,D⟩,⟨t,u⟩,⟨r,s⟩,a⟩:=n;have w:=c.1;have o:=b.1;have y:m1≠id:=λe=>d (by rw[<-e];exact(a _).2 (.inl rfl));have z:m2≠id:=λe=>d (by rw[<-e];exact(a _).2 (.inr (.inl rfl)));have A:¬S1 id:=λe=>d ((a _).2 (.inr (.inr e)));refine Lp.fin (WK.lcl v) m h d (S':=λi=>i=m1\/i=m2\/S5 i) ?_ (λi g=> ?_) ⟨by omega,λi g p=> ?_⟩ ⟨S5,x,⟨by omega,by omega⟩,⟨?_,?_⟩,⟨λe=> ?_,λe=> ?_⟩,λi=>Iff.rfl⟩
 ·rw[b.2 _ ow A];exact l
 ·rcases g with rfl|rfl|g
  ·exact .inl ((a _).2 (.inl rfl))
  ·exact .inl ((a _).2 (.inr (.inl rfl)))
  ·exact(f i g).imp (λq=>(a _).2 (.inr (.inr q))) λq=>by omega
 ·rw[b.2 i ow λe=>p (.inr ((a _).2 (.inr (.inr e)))),c.2 i g λe=>p (.inl e)]
 ·rw[b.2 _ ow r,c.2 _ C y];exact t
 ·rw[b.2 _ ow s,c.2 _ D z];exact u
 ·rcases f _ e with q|q
  ·exact r q
  ·omega
 ·rcases f _ e with q|q
  ·exact s q
  ·omega
def Lp.open (m:Lcl W) (f:WK m1 o1 m2 o2 W k S0 h3) (hid:id<h3.next) (b:¬S0 id) (o:Obj) (B:LRec):
  ∃S1 H,(h3.new h3.next o).set id (.loop B)=H/\H.next=h3.next+1/\H.at' h3.next=some o/\H.at' id=some (.loop B)/\But (λj=>j=id) h3 H/\W k S1 H/\((H.at' m1=some o1/\H.at' m2=some o2)/\(m1<H.next/\m2<H.next))/\
   (W k S1 h3/\(m1<h3.next/\m2<h3.next)/\(h3.at' m1=some o1/\h3.at' m2=some o2)/\(¬S1 m1/\¬S1 m2)/\∀i,S0 i↔(i=m1\/i=m2\/S1 i)):=by
 obtain⟨S1,g,⟨h,l⟩,⟨e1,e2⟩,⟨s,t⟩,a⟩:=f;have q:m1≠id:=λe=>b (by rw[<-e];exact(a _).2 (.inl rfl));have r:m2≠id:=λe=>b (by rw[<-e];exact(a _).2 (.inr (.inl rfl)));have d:((h3.new h3.next o).set id (.loop B)).next=h3.next+1:=by rw[zT,zF]
 have c:But (λj=>j=id) h3 ((h3.new h3.next o).set id (.loop B)):=⟨by omega,λj u p=>by rw[zE p,zH ow]⟩;exact⟨S1,_,rfl,d,by rw[zE ow,zK],zD _ _ _,c,Lcl.round m g (λi n=>(a _).2 (.inr (.inr n))) b c,⟨⟨by rw[c.2 _ h q];exact e1,by rw[c.2 _ l r];exact e2⟩,by omega,by omega⟩,g,⟨h,l⟩,⟨e1,e2⟩,⟨s,t⟩,a⟩
def But.ext1 {a b c:Heap} (d:But S a b) (e:Ext b c):But S a c:=d.trans (e.but S) λi f=> .inl f
def Heap.low (H:Heap):∃h0,HLe h0 H/\(∀o,HLe h0 (H.new H.next o))/\∀i,i<H.next->h0.at' i=H.at' i:=
 ⟨⟨H.next,λi=>if i=H.next then none else H.at' i⟩,λi b e=>by
   simp only at e;split at e
   ·cases e
   ·exact e,λo i b e=>by
   simp only at e;split at e
   ·cases e
   ·rename_i a;rw[zH a];exact e,λi a=>by
   simp only;rw[iq ow]⟩
end
def zB1 (P:Program) (h0:Heap) (t:TypeId) (m k:D) (ok:Bool) (K:D->Prop):Prop:=∃d,(∀h',HLe h0 h'->onS (yj P t m k ok h') λd'=>d'=d/\h'=h')/\K d
@[congr] theorem BO {m m' k k':D} {ok:Bool} {K:D->Prop} (hf:m=m') (ha:k=k'):zB1 P h0 t m k ok K=zB1 P h0 t m' k' ok K:=by rw[hf,ha]
variable {fr:Frm}{id k:Nat}
@[go_sem ↓] theorem Iv (t:TypeId) (a b:Operand) (ok:Bool) (K:D->Prop):fe P h0 (.lookup t a b ok) (yC fr) K=zB1 P h0 t (yC fr a) (yC fr b) ok K:=by
 unfold fe zB1 JJ;simp only[go_sem]
def Ls {m k:D} {ok:Bool} {K:D->Prop} (d:D) (c:yj P t m k ok h0=some d) (b:K d):zB1 P h0 t m k ok K:=
 ⟨d,λh' a=>by rw[bM a c];exact⟨rfl,rfl⟩,b⟩
open Go.Proofs.Tryz
open Go.Proofs
set_option maxRecDepth 100000
structure Stt (c:Cat) (fs:List Fac) (al:Nat->Option Alt) (M:KM Int) (O:KV) (sc:List D) (m1 m2:Nat):Prop where
 sc:∃a b e p x,sc= [a,b,e,p,x, .map m1, .map m2]/\yu c (.agg [a,b,e,p])/\zd 12 (nz fs) x/\zd 4 (pM c.ls) a
 sm:c.Sm
 len:fs.length<=256
 ok:∀f∈fs,f.Ok
 get:∀i,i<fs.length->nD (i:Int) M=(al i).map Alt.d
 alt:∀i a,al i=some a->a.Ok
def StH (M:KM Int) (O:KV) (m1 m2:Nat) (h:Heap):Prop:=
 (h.at' m1=some (.map (kmD (D.int .i64) M))/\h.at' m2=some (.map (kvD O)))/\(m1<h.next/\m2<h.next)
def StH.ext {M:KM Int} {O:KV} {m1 m2:Nat} (s:StH M O m1 m2 h) (e:Ext h h'):StH M O m1 m2 h':=by
 obtain⟨⟨a,b⟩,c,d⟩:=s;have:=e.1;exact⟨⟨by rw[e.2 _ c];exact a,by rw[e.2 _ d];exact b⟩,by omega,by omega⟩
def Zy {M:KM Int} {O:KV} {m1 m2:Nat} (e:Stt c fs al M O sc m1 m2) (a:h.at' m1=some (.map (kmD (D.int .i64) M))) (b:i<fs.length) (ok:Bool):
  yj prog 151 (.map m1) (.int .i64 (i:Int)) ok h=some (nI ok .nilsl ((al i).map Alt.d)):=by
 rw[<-e.get i b];exact QZ zB0 a Uh Hp p4 (i:Int) (by simp) ok
def Lt {O:KV} {m2:Nat} (a:h.at' m2=some (.map (kvD O))) (s:List UInt8) (ok:Bool):
  yj prog 152 (.map m2) (.str s) ok h=some (nI ok (.str []) ((ua s O).map .str)):=
 QE a Ui Yq nj s ok
abbrev Tri:=Nat×Nat×Nat
def we (fs:List Fac) (i:Nat):List UInt8:=match fs[i]? with
 |some f=>f.comp
 |none=>[]
def wi (fs:List Fac) (i:Nat):List UInt8:=match fs[i]? with
 |some f=>f.out
 |none=>[]
def Qa (fs:List Fac) (i u:Nat):List Tri:=(fIx 2 (λg=>g.out==wi fs u) fs).map λh=>(i,u,h)
def Qb (fs:List Fac) (al:Nat->Option Alt) (i:Nat):List Tri:=if(al i).isSome=true then(fIx 0 (λg=>g.comp==we fs i) fs).flatMap (Qa fs i) else []
def yB (fs:List Fac) (al:Nat->Option Alt):List Tri:=(List.range fs.length).flatMap (Qb fs al)
def rM (t:Tri):List D:=[.int .i64 (t.1:Int), .int .i64 (t.2.1:Int), .int .i64 (t.2.2:Int)]
abbrev elT (l:List Tri) (k:Nat):List D:=[.agg (rM (l.getD k (0,0,0)))]
def n9 (sc:List D):D:= .fn (.func 339) [] [.iptr [.iptr sc 0] 0]
def lW (sc:List D) (h:Heap):zA prog 274 [.iptr sc 0] h λr h'=>h'=h/\r=n9 sc:=by
 refine xO mix func274 A4 rfl rfl ?_;simp only[f274,gJ];simp only[go_sem,n9]
def zB2 (f g:Fac) (a:h.at' id=some (.row f.cells)):zA prog 340 [.agg g.cells, .ptr id 0] h λr h'=>h'=h/\r= .bool (g.comp==f.comp):=by
 have k1:f.cells[1]? =some (.str f.comp):=rfl;have k2:g.cells[1]? =some (.str g.comp):=rfl;refine xO mix func340 zA4 rfl rfl ?_;simp only[f340,gJ];exact au
def zB3 (b:sc[4]? =some x) (c:zd 12 (nz fs) x) {u:Nat} (a:u<fs.length) (g:Fac) (f:h.at' id=some (.row [.int .i64 (u:Int)])):
  zA prog 341 [.agg g.cells, .iptr [.iptr sc 0] 0, .ptr id 0] h λr h'=>h'=h/\r= .bool (g.out==wi fs u):=by
 have k1:fs[u].cells[2]? =some (.str fs[u].out):=rfl;have k2:g.cells[2]? =some (.str g.out):=rfl;have d:=qd c a;have j:wi fs u=fs[u].out:=by simp[wi,a]
 refine xO mix func341 zBN rfl rfl ?_;simp only[f341,gJ];simp only[go_sem, *];refine zM Heap.emp [(2, .no,false),(6, .no,false),(0, .no,false),(1, .no,false),(3, .no,false),(4, .no,false),(5, .no,false),(7, .no,false),(8, .no,false),(9, .no,false),(10, .no,false),(11, .no,false)] kr kr (λi k e=>by cases e) ?_;simp only[go_sem,zg, *]
def WL (l:List (Nat×Obj)) (W:Nat->(Nat->Prop)->Heap->Prop) (k:Nat) (S:Nat->Prop) (h:Heap):Prop:=
 ∃S1,W k S1 h/\(∀p∈l,p.1<h.next/\h.at' p.1=some p.2/\¬S1 p.1)/\∀i,S i↔((∃p∈l,i=p.1)\/S1 i)
section
variable {l:List (Nat×Obj)} {W:Nat->(Nat->Prop)->Heap->Prop} {id k:Nat} {L B:LRec} {h h3 H h5:Heap} {S S0 S1 S5 S':Nat->Prop} {fr:Frm}
def WL.lcl (f:Lcl W):Lcl (WL l W):=by
 refine⟨λk S h y i e=> ?_,λk S h h' y n g=> ?_⟩
 ·obtain⟨S1,c,d,a⟩:=y;rcases(a i).1 e with⟨p,b,rfl⟩ |q
  ·exact(d p b).1
  ·exact f.here _ _ _ c i q
 ·obtain⟨S1,c,d,a⟩:=y;refine⟨S1,f.loc _ _ _ _ c n λi e=>g i ((a i).2 (.inr e)),λp b=> ?_,a⟩;obtain⟨o,j,m⟩:=d p b;exact⟨by omega,by rw[g p.1 ((a _).2 (.inl ⟨p,b,rfl⟩))];exact j,m⟩
def WL.start (a:W k S h) (h1:∀p∈l,p.1<h.next/\h.at' p.1=some p.2/\¬S p.1):WL l W k (λi=>(∃p∈l,i=p.1)\/S i) h:=
 ⟨S,a,h1,λ_=>Iff.rfl⟩
def WL.stop (h1:∀p∈l,h.at' p.1=some p.2) (m:∀i,S' i->((∃p∈l,i=p.1)\/S i)\/h.next<=i) (d:But (λi=>(∃p∈l,i=p.1)\/S i) h h') (n:WL l W k S' h'):
  ∃S1,(∀i,S1 i->S i\/h.next<=i)/\But S h h'/\W k S1 h':=by
 obtain⟨S1,f,c,g⟩:=n;refine⟨S1,λi a=> ?_,⟨d.1,λi a j=> ?_⟩,f⟩
 ·rcases m i ((g i).2 (.inr a)) with(⟨p,b,rfl⟩ |q)|q
  ·exact absurd a (c p b).2.2
  ·exact .inl q
  ·exact .inr q
 ·by_cases q:∃p∈l,i=p.1
  ·obtain⟨p,b,rfl⟩:=q;rw[(c p b).2.1,h1 p b]
  ·exact d.2 i a λe=>e.elim q j
def WL.st (c:WL l W k S h):∀p∈l,p.1<h.next/\h.at' p.1=some p.2:=by
 obtain⟨S1,_,b,_⟩:=c;exact λp a=>⟨(b p a).1,(b p a).2.1⟩
def Lp.callL (y:Lcl W) (o:({ B with st:= .ready,pending:=none } :LRec)=L) (m:id<h3.next) (d:¬S0 id) (r:W k S1 h3/\(∀p∈l,p.1<h3.next/\h3.at' p.1=some p.2/\¬S1 p.1)/\∀i,S0 i↔((∃p∈l,i=p.1)\/S1 i))
  (n:H.at' id=some (.loop B)) (c:But (λi=>i=id) h3 H) (g:∀j,S5 j->S1 j\/H.next<=j) (b:But S1 H h5) (A:W (k+1) S5 h5):
  wK (LpK id L (WL l W) k S0 h3) id .normal fr h5:=by
 obtain⟨_,v,a⟩:=r;have z:=c.1;have t:=b.1;have D:¬S1 id:=λe=>d ((a _).2 (.inr e));refine Lp.fin (WL.lcl y) o m d (S':=λi=>(∃p∈l,i=p.1)\/S5 i) ?_ (λi f=> ?_) ⟨by omega,λi f u=> ?_⟩ ⟨S5,A,λp h=> ?_,λi=>Iff.rfl⟩
 ·rw[b.2 _ ow D];exact n
 ·rcases f with⟨p,h,rfl⟩ |f
  ·exact .inl ((a _).2 (.inl ⟨p,h,rfl⟩))
  ·exact(g i f).imp (λq=>(a _).2 (.inr q)) λq=>by omega
 ·rw[b.2 i ow λe=>u (.inr ((a _).2 (.inr e))),c.2 i f λe=>u (.inl e)]
 ·obtain⟨w,x,s⟩:=v p h;have C:p.1≠id:=λe=>d (by rw[<-e];exact(a _).2 (.inl ⟨p,h,rfl⟩));refine⟨by omega,by rw[b.2 _ ow s,c.2 _ w C];exact x,λe=> ?_⟩;rcases g _ e with q|q
  ·exact s q
  ·omega
def Lp.openL (r:Lcl W) (f:WL l W k S0 h3) (hid:id<h3.next) (b:¬S0 id) (o:Obj) (B:LRec):
  ∃S1 H,(h3.new h3.next o).set id (.loop B)=H/\H.next=h3.next+1/\H.at' h3.next=some o/\H.at' id=some (.loop B)/\But (λj=>j=id) h3 H/\W k S1 H/\(∀p∈l,p.1<h3.next/\H.at' p.1=some p.2)/\
   (W k S1 h3/\(∀p∈l,p.1<h3.next/\h3.at' p.1=some p.2/\¬S1 p.1)/\∀i,S0 i↔((∃p∈l,i=p.1)\/S1 i)):=by
 obtain⟨S1,g,h,a⟩:=f;have d:((h3.new h3.next o).set id (.loop B)).next=h3.next+1:=by rw[zT,zF]
 have c:But (λj=>j=id) h3 ((h3.new h3.next o).set id (.loop B)):=⟨by omega,λj v t=>by rw[zE t,zH ow]⟩;refine⟨S1,_,rfl,d,by rw[zE ow,zK],zD _ _ _,c,Lcl.round r g (λi s=>(a _).2 (.inr s)) b c,λp n=> ?_,g,h,a⟩;obtain⟨m,q,u⟩:=h p n;exact⟨m,by rw[c.2 _ m λe=>b (by rw[<-e];exact(a _).2 (.inl ⟨p,n,rfl⟩))];exact q⟩
def Lp.openL0 (q:Lcl W) (f:WL l W k S0 h3) (hid:id<h3.next) (b:¬S0 id) (B:LRec):
  ∃S1 H,h3.set id (.loop B)=H/\H.next=h3.next/\H.at' id=some (.loop B)/\But (λj=>j=id) h3 H/\W k S1 H/\(∀p∈l,p.1<h3.next/\H.at' p.1=some p.2)/\
   (W k S1 h3/\(∀p∈l,p.1<h3.next/\h3.at' p.1=some p.2/\¬S1 p.1)/\∀i,S0 i↔((∃p∈l,i=p.1)\/S1 i)):=by
 obtain⟨S1,g,h,a⟩:=f;have d:(h3.set id (.loop B)).next=h3.next:=zT _ _ _;have c:But (λj=>j=id) h3 (h3.set id (.loop B)):=⟨by omega,λj u s=>zE s⟩;refine⟨S1,_,rfl,d,zD _ _ _,c,Lcl.round q g (λi r=>(a _).2 (.inr r)) b c,λp n=> ?_,g,h,a⟩;obtain⟨m,o,t⟩:=h p n;exact⟨m,by rw[c.2 _ m λe=>b (by rw[<-e];exact(a _).2 (.inl ⟨p,n,rfl⟩))];exact o⟩
end
def Zz {l:List α} {f:α->List β} {a b:Nat} {x:α} (h:l[a]? =some x) (c:b<(f x).length):(l.flatMap f)[pW l f a+b]? =(f x)[b]? :=by
 obtain⟨h1,rfl⟩:=List.getElem?_eq_some_iff.1 h;rw[G9 h1 c,List.getElem?_eq_getElem c]
def sh {l:List α} {f:α->List β} {a:Nat} {x:α} (h:l[a]? =some x):pW l f (a+1)=pW l f a+(f x).length:=by
 obtain⟨h1,rfl⟩:=List.getElem?_eq_some_iff.1 h;exact QP h1
def FF {l:List α} {f:α->List β} {a b:Nat} {x:α} (h:l[a]? =some x) (c:b<(f x).length):pW l f a+b<(l.flatMap f).length:=by
 obtain⟨h1,rfl⟩:=List.getElem?_eq_some_iff.1 h;exact zGa h1 c
theorem qV {f:α->List β} {m:Nat} :∀ {l:List α},(∀x∈l,(f x).length<=m)->(l.flatMap f).length<=l.length*m
 | [],_=>by simp
 |x::l,h=>by
  have:=qV (f:=f) (l:=l) λy a=>h y (List.mem_cons_of_mem _ a);have b:=h x (by simp);rw[List.flatMap_cons,List.length_append,List.length_cons,Nat.succ_mul];omega
abbrev Iw (fs:List Fac) (i:Nat):List Nat:=fIx 0 (λg=>g.comp==we fs i) fs
abbrev rO (fs:List Fac) (u:Nat):List Nat:=fIx 2 (λg=>g.out==wi fs u) fs
abbrev gL (fs:List Fac) (al:Nat->Option Alt) (i:Nat):Nat:=pW (List.range fs.length) (Qb fs al) i
abbrev Z0 (fs:List Fac) (i k:Nat):Nat:=pW (Iw fs i) (Qa fs i) k
section
variable {fs:List Fac} {al:Nat->Option Alt} {i k k2 u v:Nat}
def Dm (b:i<fs.length) (a:(al i).isSome=false):gL fs al (i+1)=gL fs al i:=by
 unfold gL;rw[sh (x:=i) (by simp[b])];simp[Qb,a]
def Ix (b:i<fs.length) (a:(al i).isSome=true):gL fs al (i+1)=gL fs al i+Z0 fs i (Iw fs i).length:=by
 unfold gL Z0;rw[sh (x:=i) (by simp[b]),lL];simp[Qb,a]
def Lu (a:(Iw fs i)[k]? =some u):Z0 fs i (k+1)=Z0 fs i k+(rO fs u).length:=by
 unfold Z0;rw[sh a];simp[Qa]
def Iy (j:i<fs.length) (h:(al i).isSome=true) (e:(Iw fs i)[k]? =some u) (b:(rO fs u)[k2]? =some v):
  gL fs al i+(Z0 fs i k+k2)<(yB fs al).length/\(yB fs al)[gL fs al i+(Z0 fs i k+k2)]? =some (i,u,v):=by
 obtain⟨l,_⟩:=List.getElem?_eq_some_iff.1 b;have d:k2<(Qa fs i u).length:=by unfold Qa;rw[List.length_map];exact l
 have a:=FF (f:=Qa fs i) e d;have c:Qb fs al i=(Iw fs i).flatMap (Qa fs i):=by unfold Qb;rw[ip h]
 rw[<-c] at a;have hr:(List.range fs.length)[i]? =some i:=by simp[j]
 refine⟨FF (f:=Qb fs al) hr a,?_⟩;have h1:=Zz (f:=Qb fs al) hr a;rw[c] at h1;have g:=Zz (f:=Qa fs i) e d;show((List.range fs.length).flatMap (Qb fs al))[_]? =_;rw[h1,g];unfold Qa;rw[List.getElem?_map,b];rfl
end
variable {fs:List Fac}{al:Nat->Option Alt}{id i k:Nat}{S:Nat->Prop}{h:Heap}{fr:Frm}
theorem rq {M:KM Int} {O:KV} {m1 m2:Nat} (hs:Stt c fs al M O sc m1 m2) {Y:Nat->(Nat->Prop)->Heap->Prop} (y:Yld prog id (yB fs al).length (elT (yB fs al)) Y λ_ _=>False) (hH:∀k S h,Y k S h->StH M O m1 m2 h) {w:Heap} (hY:Y 0 S w):
  zA prog 339 [.yld id, .iptr [.iptr sc 0] 0] w λ_ h'=>∃S',(∀j,S' j->S j\/w.next<=j)/\But S w h'/\Y (yB fs al).length S' h':=by
 have X:=hs;obtain⟨⟨ca,cb,ce,cp,x,rfl,hc,hx,_⟩,sm,d2,cl,cc,halt⟩:=hs;have da:=t7 hx;refine xO mix func339 zAm rfl rfl ?_;simp only[f339,gJ]
 repeat' first|simp only[go_sem,zg, *]|apply bc<;>intro
 refine zC (λi fr h'=>fr 1= .iptr [.iptr [ca,cb,ce,cp,x, .map m1, .map m2] 0] 0/\fr 2= .iptr [.yld id] 0/\fr 12=x/\fr 13= .int .i64 (fs.length:Int)/\fr 14= .int .i64 (i:Int)/\∃S',(∀j,S' j->S j\/w.next<=j)/\But S w h'/\Y (gL fs al i) S' h') fs.length ow ?_ ?_ ?_
 ·have a0:∃S',(∀j,S' j->S j\/w.next<=j)/\But S w w/\Y (gL fs al 0) S' w:=⟨S,λj l=> .inl l,But.refl S w,hY⟩;simp only[go_sem,true_and,and_true,Int.ofNat_zero];exact a0
 ·rintro i fr h1 s e1 ew ⟨f1,f2,cw,c0,c1,S',hS,z,I⟩;have a1:=qd hx s;have hm:fs[i]∈fs:=List.getElem_mem s;have hw:zN true 12 fs[i].cells 0=some (.agg fs[i].cells):=zB rfl ow;have a0:=Xa (cl _ hm);have b9:we fs i=fs[i].comp:=by simp[we,s]
  generalize fs[i]=f at *
  clear cc halt cl;have cu:∀o2,zQ prog 3 (.ptr h1.next 0) (.int .i64 (i:Int)) ((h1.new h1.next (.row [.int .i64 0])).new (h1.next+1) o2)=some ((h1.new h1.next (.row [.int .i64 (i:Int)])).new (h1.next+1) o2):=λo2=>by
   have:=VS (P:=prog) (t:=3) (H:=h1) (c:= .int .i64 0) (x:= .int .i64 (i:Int)) (o2:=o2) wW rfl rfl;simpa only[zF] using this
  repeat' first|simp only[go_sem,zF, *]|apply bc<;>intro
  obtain⟨G,hG,a9,g1,g2,hE⟩:∃G:Heap,(h1.new h1.next (.row [.int .i64 (i:Int)])).new (h1.next+1) (.row f.cells)=G/\G.next=h1.next+2/\G.at' h1.next=some (.row [.int .i64 (i:Int)])/\G.at' (h1.next+1)=some (.row f.cells)/\Ext h1 G:=
   ⟨_,rfl,zp _ (by rw[zF];exact Nat.le_refl _) _,by rw[zH ow,zK],zK _ _ _,((Ext.refl h1).new (Nat.le_refl _) _).new ow _⟩
  rw[hG];clear hG a0 cu da;have A:=y.ext I hE;have T:=hH _ _ _ A;have p:=Zy X T.1.1 s true;have b:But S w G:=z.trans (hE.but S) λi hi=> .inl hi;refine zM Heap.emp [(0, .no,false),(4, .no,false),(1, .no,false),(2, .no,false),(3, .no,false),(5, .no,false),(6, .no,false),(7, .no,false),(8, .no,false),(9, .no,false),(10, .no,false)] kr kr (λi ob e=>by cases e) ?_;cases o:al i with
  |none=>
   rw[o] at p;replace p:yj prog 151 (.map m1) (.int .i64 (i:Int)) true G=some (.tuple [.nilsl, .bool false]):=p;have m:∃S',(∀j,S' j->S j\/w.next<=j)/\But S w G/\Y (gL fs al (i+1)) S' G:=⟨S',hS,b,by rw[Dm s (by rw[o];rfl)];exact A⟩;clear A T b hE hS z I o
   repeat' first|simp only[go_sem,zg, *]|apply bc<;>intro hc
  |some a=>
   rw[o] at p;replace p:yj prog 151 (.map m1) (.int .i64 (i:Int)) true G=some (.tuple [a.d, .bool true]):=p;obtain⟨q1,q2,_⟩:=zI (X.alt i a o).sl;have K:=λg=>ka [ca,cb,ce,cp,x, .map m1, .map m2] 0 (hf:= .fn (.func 340) [] [.ptr (h1.next+1) 0]) ⟨_,_,_,rfl⟩ g
   repeat' first|simp only[go_sem,zg,oO, *]|apply bc<;>intro hc|(refine zA.mono (K _) ?_;rintro r h ⟨hq,rfl⟩)
   subst hq;generalize hL:LRec.mk _ _ _ _ _ _ _=L;have db:L.pending=none:=by rw[<-hL]
   have dd:L.st= .ready:=by rw[<-hL]
   have b8:Lcl λk=>Y (gL fs al i+Z0 fs i k):=⟨λk=>y.here _,λk=>y.loc _⟩;have F:∀j,S' j->j<h1.next:=λj l=>y.here _ _ _ I j l;refine ww (W:=WK h1.next (.row [.int .i64 (i:Int)]) (h1.next+1) (.row f.cells) λk=>Y (gL fs al i+Z0 fs i k)) (n:=(Iw fs i).length) (el:=elI (Iw fs i)) (S:=λj=>j=h1.next\/j=h1.next+1\/S' j) a9 (WK.lcl b8) dd db ?_ (λyl aj=>oz (sc:=[ca,cb,ce,cp,x, .map m1, .map m2]) rfl hx ow X.ok yl (R:=λj=>j=h1.next+1) ?_ (λg hg h2 hr=> ?_) aj) ?_ ?_
   ·exact WK.start (by rw[show Z0 fs i 0=0 from kV _ _];exact A) ow ow g1 g2 (λe=>Nat.lt_irrefl _ (F _ e)) (λe=>by have:=F _ e;omega)
   ·rintro j rfl;refine⟨by rw[zp _ ow];omega, .inr ?_⟩;rintro k S2 h2 ⟨_,_,S0,hk,_⟩;rw[hk.st.1.2,zH ow,g2]
   ·exact(zB2 f g (by rw[hr _ rfl,zH ow,g2])).mono λr h3 e=>by rw[b9];exact e
   ·intro k S0 h3 hk cg c8 dk ak;obtain⟨u,hu⟩:∃u,(Iw fs i)[k]? =some u:=⟨_,List.getElem?_eq_getElem hk⟩;have de:u<fs.length:=by
     have:=(uL _ fs 0 u (List.mem_of_getElem? hu)).2;omega
    have c5:(Iw fs i).getD k 0=u:=by rw[List.getD_eq_getElem?_getD,hu];rfl
    simp only[elI,c5];obtain⟨S1,V,⟨dt,du⟩,⟨a2,cv⟩,⟨n1,n2⟩,ai⟩:=dk;have N:=c8;rw[<-hL] at N;have ag:zQ prog 3 (.ptr h3.next 0) (.int .i64 (u:Int)) (h3.new h3.next (.row [.int .i64 0]))=some (h3.new h3.next (.row [.int .i64 (u:Int)])):=by
     rw[zR (zK _ _ _) wW (by simp) rfl rfl,p5];rfl
    clear p q1 q2 a1 hw hm K b9 hS z I hE A T b;refine yg.round (g:=bY) mix N rfl kr kr kr ?_;simp only[go_sem,f1,f2,ag];refine⟨by rw[zH ow];exact N,?_⟩;generalize hB:LRec.mk .busy _ _ _ _ _ _=B;have c2:({ B with st:= .ready,pending:=none } :LRec)=L:=by rw[<-hB,<-hL]
    obtain⟨H,bb,bk,b1,b3,b4,b7,c3⟩:∃H:Heap,(h3.new h3.next (.row [.int .i64 (u:Int)])).set (h1.next+2) (.loop B)=H/\H.next=h3.next+1/\H.at' h1.next=some (.row [.int .i64 (i:Int)])/\H.at' h3.next=some (.row [.int .i64 (u:Int)])/\H.at' (h1.next+2)=some (.loop B)/\Y (gL fs al i+Z0 fs i k) S1 H/\But (λj=>j=h1.next+2) h3 H:=by
     refine⟨_,rfl,by rw[zT,zF],by rw[zE ow,zH ow];exact a2,by rw[zE ow,zK],zD _ _ _,?_,⟨by rw[zT,zF];omega,λj l hn=>by rw[zE hn,zH ow]⟩⟩;have hb:=λj l=>y.here _ _ _ V j l;refine y.loc _ _ _ _ V (by rw[zT,zF];omega) λj l=> ?_;have:=hb j l;rw[zE (λe=>ak (by rw[<-e];exact(ai _).2 (.inr (.inr l)))),zH ow]
    rw[bb];clear ag bb hB;have K:=λg=>ka [ca,cb,ce,cp,x, .map m1, .map m2] 2 (hf:= .fn (.func 341) [] [.iptr [.iptr [ca,cb,ce,cp,x, .map m1, .map m2] 0] 0, .ptr h3.next 0]) ⟨_,_,_,rfl⟩ g;refine(K _).mono ?_;rintro r H2 ⟨hq,rfl⟩;subst hq
    repeat' first|simp only[go_sem,oO, *]|apply bc<;>intro
    generalize U:LRec.mk .ready _ _ _ _ _ _=L2;have cm:L2.pending=none:=by rw[<-U]
    have cs:L2.st= .ready:=by rw[<-U]
    have J:Lcl λk2=>Y (gL fs al i+(Z0 fs i k+k2)):=⟨λk=>y.here _,λk=>y.loc _⟩;have bx:∀j,S1 j->j<h3.next:=λj l=>y.here _ _ _ V j l;have d1:¬S1 (h1.next+2):=λe=>ak ((ai _).2 (.inr (.inr e)));refine⟨⟨_,b4⟩,ww (W:=WK h1.next (.row [.int .i64 (i:Int)]) h3.next (.row [.int .i64 (u:Int)]) λk2=>Y (gL fs al i+(Z0 fs i k+k2))) (n:=(rO fs u).length) (el:=elI (rO fs u)) (S:=λj=>j=h1.next\/j=h3.next\/S1 j) bk (WK.lcl J) cs cm ?_ (λyl aj=>oz (sc:=[ca,cb,ce,cp,x, .map m1, .map m2]) rfl hx ow X.ok yl (R:=λj=>j=h3.next) ?_ (λg hg h2 hr=> ?_) aj) ?_ ?_⟩
    ·exact WK.start b7 ow ow b1 b3 n1 (λe=>Nat.lt_irrefl _ (bx _ e))
    ·rintro j rfl;refine⟨by rw[zp _ ow];omega, .inr ?_⟩;rintro k S2 h2 ⟨_,_,S0,hk,_⟩;rw[hk.st.1.2,zH ow,b3]
    ·exact(zB3 (sc:=[ca,cb,ce,cp,x, .map m1, .map m2]) rfl hx de g (by rw[hr _ rfl,zH ow,b3])).mono λr h3 e=>e
    ·intro k2 S3 h4 c7 ch c9 dr ck;obtain⟨v,hv⟩:∃v,(rO fs u)[k2]? =some v:=⟨_,List.getElem?_eq_getElem c7⟩;have c6:(rO fs u).getD k2 0=v:=by rw[List.getD_eq_getElem?_getD,hv];rfl
     simp only[elI,c6];obtain⟨S4,b6,⟨dv,d0⟩,⟨a6,a7⟩,⟨n3,n4⟩,b5⟩:=dr;have Q:=c9;rw[<-U] at Q;obtain⟨tl,te⟩:=Iy (al:=al) s (by rw[o];rfl) hu hv;have c4:(yB fs al).getD (gL fs al i+(Z0 fs i k+k2)) (0,0,0)=(i,u,v):=by rw[List.getD_eq_getElem?_getD,te];rfl
     have cf:=λS h=>y.go (gL fs al i+(Z0 fs i k+k2)) S h tl;simp only[elT,c4,rM] at cf;have di:yA prog 328 [(0, .int .i64 (i:Int)),(1, .int .i64 (u:Int)),(2, .int .i64 (v:Int))]=some (.agg [.int .i64 (i:Int), .int .i64 (u:Int), .int .i64 (v:Int)]):=by simp[yA,W8,Pz,qL,yV,D.notTuple,D.cells]
     refine yg.round (g:=bY) mix Q rfl kr kr kr ?_;simp only[go_sem];refine⟨Q,?_⟩;generalize a8:LRec.mk .busy _ _ _ _ _ _=B2;have bo:({ B2 with st:= .ready,pending:=none } :LRec)=L2:=by rw[<-a8,<-U]
     have i1:h1.next≠h3.next+1:=ow;have i2:h3.next≠h3.next+1:=ow;obtain⟨H4,ba,a3,a4,a5,ad⟩:∃H4:Heap,h4.set (h3.next+1) (.loop B2)=H4/\H4.at' h1.next=some (.row [.int .i64 (i:Int)])/\H4.at' h3.next=some (.row [.int .i64 (u:Int)])/\H4.at' (h3.next+1)=some (.loop B2)/\But (λj=>j=h3.next+1) h4 H4:=
      ⟨_,rfl,by rw[zE i1];exact a6,by rw[zE i2];exact a7,zD _ _ _,by rw[zT];exact Nat.le_refl _,λj _ l=>zE l⟩
     rw[ba];clear a8 ba;simp only[go_sem,di,a3,a4,f2];refine(cf _ _ (J.round b6 (λj l=>(b5 _).2 (.inr (.inr l))) ck ad)).mono ?_;rintro r h5 ⟨S5,E,C,⟨rfl,hr⟩ | ⟨rfl,hr⟩⟩
     ·have m:∀fr,wK (LpK (h3.next+1) L2 (WK h1.next (.row [.int .i64 (i:Int)]) h3.next (.row [.int .i64 (u:Int)]) λk2=>Y (gL fs al i+(Z0 fs i k+k2))) k2 S3 h4) (h3.next+1) .normal fr h5:=λfr=>Lp.call J bo ch ck ⟨b6,⟨dv,d0⟩,⟨a6,a7⟩,⟨n3,n4⟩,b5⟩ a5 ad E C hr;simp only[go_sem,vun];exact m _
     ·exact hr.elim
    ·intro S' h5 hs hb hw;obtain⟨S5,E,C,Z⟩:=WK.stop b1 b3 (λj l=>by rw[bk];exact hs j l) hb hw;rw[<-Nat.add_zero (Z0 fs i k)] at b7;have ds:Y (gL fs al i+Z0 fs i (k+1)) S5 h5:=by rw[Lu hu];exact Z
     have m:∀fr,wK (LpK (h1.next+2) L (WK h1.next (.row [.int .i64 (i:Int)]) (h1.next+1) (.row f.cells) λk=>Y (gL fs al i+Z0 fs i k)) k S0 h3) (h1.next+2) .normal fr h5:=λfr=>Lp.call b8 c2 cg ak ⟨V,⟨dt,du⟩,⟨a2,cv⟩,⟨n1,n2⟩,ai⟩ b4 c3 E C ds;simp only[go_sem];exact m _
   ·intro S2 h5 hs hb hw;obtain⟨S5,E,C,Z⟩:=WK.stop g1 g2 (λj l=>by rw[a9];exact hs j l) hb hw;have m:∃S',(∀j,S' j->S j\/w.next<=j)/\But S w h5/\Y (gL fs al (i+1)) S' h5:=⟨S5,λj l=>by
     rcases E j l with q|q
     ·exact hS j q
     ·exact .inr (by have:=b.1;omega),b.trans C hS,by rw[Ix s (by rw[o];rfl)];exact Z⟩
    clear p A T b hE hS z I o hs hb hw E C Z K hL;exact au
 ·rintro fr h2 e1 ⟨f1,f2,cw,c0,c1,S',bs,b2,F⟩;have m:∃S',(∀j,S' j->S j\/w.next<=j)/\But S w h2/\Y (yB fs al).length S' h2:=⟨S',bs,b2,by rw[show(yB fs al).length=gL fs al fs.length from(by unfold gL yB;rw[<-lL,List.length_range])];exact F⟩
  clear bs b2 F;exact au
def mC (fs:List Fac) (i:Nat):Int:=match fs[i]? with
 |some f=>f.way
 |none=>0
def si (fs:List Fac) (i:Nat):Int:=match fs[i]? with
 |some f=>f.rel
 |none=>0
def Lv (duty:Int) (q:List (List UInt8)->Bool) (l:Cla):Bool:=l.duty==duty&&q l.list
def zB4 (c:Cat) (way rel duty:Int) (q:List (List UInt8)->Bool) (z:Trm):Bool:=(pR c z.a z.b way rel).any (Lv duty q)
def Vv (c:Cat) (ts:List Trm) (way rel duty:Int) (q:List (List UInt8)->Bool):Bool:=ts.any (zB4 c way rel duty q)
theorem Lz {q:List (List UInt8)->Bool} :∀ {a b:List Cla},a.map Cla.key=b.map Cla.key->a.any (Lv N q)=b.any (Lv N q)
 | [],[],_=>rfl
 | [],_::_,h=>by cases h
 |_::_,[],h=>by cases h
 |x::a,y::b,h=>by
  simp only[List.map_cons,List.cons.injEq,Cla.key,Prod.mk.injEq] at h;obtain⟨⟨_,_,_,h1,c⟩,h3⟩:=h;rw[List.any_cons,List.any_cons,Lz h3,Lv,Lv,h1,c]
def zB5 (y:Cla) (h:Heap):zA prog 276 [.agg y.cells] h λr h'=>h'=h/\r= .bool true:=by
 refine xO mix func276 zFU rfl rfl ?_;simp only[f276,gJ];exact au
theorem Dn {M:KM Int} {O:KV} {m1 m2:Nat} (hs:Stt c fs al M O sc m1 m2) {t:Tri} (t1:t.1<fs.length) (t2:t.2.1<fs.length) (t3:t.2.2<fs.length) {a:Alt} (Y:al t.1=some a) (l:Int) {q:List (List UInt8)->Bool} {R:Nat->Prop} (hH:StH M O m1 m2 g) (hR:∀i,R i->i<g.next) (hq:∀y:Cla,y.Fine->∀m:Heap,(∀i,R i->m.at' i=g.at' i)->zA prog f ([]++ [.agg y.cells]++cap) m λr h3=>h3=m/\r= .bool (q y.list)):
  zA prog 275 [.iptr sc 0, .agg (rM t), .int .i64 l, .fn (.func f) [] cap] g λr h'=>Ext g h'/\r= .bool (Vv c a.ts (mC fs t.2.2) (si fs t.2.1) l q):=by
 have S:=Zy hs hH.1.1 t1 false;rw[Y] at S;replace S:yj prog 151 (.map m1) (.int .i64 (t.1:Int)) false g=some a.d:=S;have I:=hs.alt _ _ Y;have w1:mC fs t.2.2=fs[t.2.2].way:=by simp[mC,t3]
 have w2:si fs t.2.1=fs[t.2.1].rel:=by simp[si,t2]
 rw[w1,w2];obtain⟨⟨ca,cb,ce,cp,x,rfl,D,hx,_⟩,sm,cc,ck,b9,halt⟩:=hs;have a2:=qd hx t2;have a3:=qd hx t3;have k2:fs[t.2.1].cells[3]? =some (.int .i64 fs[t.2.1].rel):=rfl;have k3:fs[t.2.2].cells[4]? =some (.int .i64 fs[t.2.2].way):=rfl;generalize fs[t.2.1]=F at *
 generalize fs[t.2.2]=G at *
 have cl:=yp I.sl;have b7:=I.len;obtain⟨q1,q2,_⟩:=zI I.sl;have hE:Ext g g:=Ext.refl g;obtain⟨aj,ak,a0⟩:=t;simp only[rM] at *
 refine xO mix func275 zAN rfl rfl ?_;simp only[f275,gJ]
 repeat' first|simp only[go_sem, *]|apply bc<;>intro D
 refine zM Heap.emp [(0, .no,false),(1, .no,false),(2, .no,false),(3, .no,false),(4, .no,false),(5, .no,false),(6, .no,false),(7, .no,false),(8, .no,false)] kr kr (λi ob e=>by cases e) ?_
 repeat' first|simp only[go_sem,zg, *]|apply bc<;>intro D
 refine zC (λi fr h'=>fr 0= .iptr [ca,cb,ce,cp,x, .map m1, .map m2] 0/\fr 2= .int .i64 l/\fr 3= .fn (.func f) [] cap/\fr 5= .iptr [.int .i64 (aj:Int), .int .i64 (ak:Int), .int .i64 (a0:Int)] 0/\fr 19=a.d/\fr 20= .int .i64 (a.ts.length:Int)/\fr 21= .int .i64 (i:Int)/\Ext g h'/\∀j (E:j<a.ts.length),j<i->zB4 c G.way F.rel l q a.ts[j]=false) a.ts.length ow ?_ ?_ ?_
 ·simp only[go_sem,true_and,and_true,Int.ofNat_zero];exact⟨hE,λj E h0=>by omega⟩
 ·rintro i fr h1 T e1 ew ⟨W,u,A,X,s,v,w,L,E⟩;have a1:=uH I.sl T;have V:zB4 c G.way F.rel l q a.ts[i]=(pR c a.ts[i].a a.ts[i].b G.way F.rel).any (Lv l q):=rfl;have b6:=λe=>fq (p:=zB4 c G.way F.rel l q) T e;have b5:=λe=>qG (p:=zB4 c G.way F.rel l q) T E e;generalize a.ts[i]=z at *
  have cv:zQ prog 130 (.ptr h1.next 0) (.agg z.cells) (h1.new h1.next (.row [.str [], .str []]))=some (h1.new h1.next (.row z.cells)):=zf yt ow rfl rfl rfl;have bs:=λg=>LH D sm z.a z.b G.way F.rel g;have b3:zN true 2 z.cells 0=some (.agg z.cells):=zB rfl ow;have cg:zN true 2 z.cells 0=some (.agg [.str z.a, .str z.b]):=b3;have a8:∀o,Ext g (h1.new h1.next o):=λo=>L.new L.1 o
  repeat' first|simp only[go_sem, *]|apply bc<;>intro D
  obtain⟨H,bk,cf,ba⟩:∃H,h1.new h1.next (.row z.cells)=H/\H.at' h1.next=some (.row z.cells)/\Ext g H:=⟨_,rfl,zK _ _ _,a8 _⟩;rw[bk];have cw:zN true 4 [ca,cb,ce,cp,x, .map m1, .map m2] 0=some (.agg [ca,cb,ce,cp]):=by simp[zN]
  refine zM Heap.emp [(4, .no,false),(0, .no,false),(1, .no,false),(2, .no,false),(3, .no,false),(5, .no,false),(6, .no,false),(7, .no,false),(8, .no,false),(9, .no,false),(10, .no,false),(11, .no,false),(12, .no,false),(13, .no,false),(14, .no,false),(15, .no,false),(16, .no,false),(17, .no,false),(18, .no,false),(19, .no,false),(20, .no,false),(21, .no,false),(22, .no,false),(25, .no,false),(23, .no,false),(24, .no,false)] kr kr (λi ob e=>by cases e) ?_
  repeat' first|simp only[go_sem,zg, *]|apply bc<;>intro D
  refine(bs _).mono ?_;rintro r H2 ⟨bx,cs,Z,P,K⟩;subst bx;rw[<-Lz K] at V;have cm:=pP Z;have b8:cs.length<=1048576:=by
   have:=congrArg List.length K;simp only[List.length_map] at this;have m:(pR c z.a z.b G.way F.rel).length<=c.cs.length:=by
    unfold pR;split
    ·simp
    ·exact List.length_filter_le _ _
   have:=sm.cs.1;omega
  repeat' first|simp only[go_sem, *]|apply bc<;>intro D
  refine zC (λj fr h'=>fr 0= .iptr [ca,cb,ce,cp,x, .map m1, .map m2] 0/\fr 2= .int .i64 l/\fr 3= .fn (.func f) [] cap/\fr 5= .iptr [.int .i64 (aj:Int), .int .i64 (ak:Int), .int .i64 (a0:Int)] 0/\fr 19=a.d/\fr 20= .int .i64 (a.ts.length:Int)/\fr 21= .int .i64 (i:Int)/\fr 48=r/\fr 49= .int .i64 (cs.length:Int)/\fr 50= .int .i64 (j:Int)/\Ext g h'/\∀k (hk:k<cs.length),k<j->Lv l q cs[k]=false) cs.length ow ?_ ?_ ?_
  ·simp only[go_sem,true_and,and_true,Int.ofNat_zero];exact⟨W,u,A,X,s,v,w,ba,λj E h0=>by omega⟩
  ·clear W u A X s v w;rintro j a7 m n e2 ch ⟨W,u,A,X,s,v,w,a4,a5,a6,N,E⟩;have b1:=oC Z n;have ag:=P _ (List.getElem_mem n);have b4:=λe=>fq (p:=Lv l q) n e;have ai:=λe=>qG (p:=Lv l q) n E e;have U:Lv l q cs[j]=(cs[j].duty==l&&q cs[j].list):=rfl;generalize cs[j]=y at *
   have ad:zQ prog 117 (.ptr m.next 0) (.agg y.cells) (m.new m.next (.row [.str [], .int .i64 0, .int .i64 0, .int .i64 0, .nilsl]))=some (m.new m.next (.row y.cells)):=zf p0 ow rfl rfl (by show(true&&(true&&(true&&(true&&(y.d.flat&&true)))))=true;rw[rK ag.1.isSl];rfl);have c0:zN true 5 y.cells 0=some (.agg y.cells):=zB rfl ow;have ky:y.cells[3]? =some (.int .i64 y.duty):=rfl;have bb:Ext g (m.new m.next (.row y.cells)):=N.new N.1 _;obtain⟨H3,bo,b2,a9⟩:∃H,m.new m.next (.row y.cells)=H/\H.at' m.next=some (.row y.cells)/\Ext g H:=⟨_,rfl,zK _ _ _,bb⟩;rw[bo] at ad
   have C:=hq y ag H3 λi Q=>a9.2 i (hR i Q);simp only[List.nil_append,List.cons_append] at C;cases hd:(y.duty==l) with
   |false=>
    have B:=ai (by rw[U,hd];rfl)
    repeat' first|simp only[go_sem, *]|apply bc<;>intro D
    exact B
   |true=>
    cases J:q y.list with
    |false=>
     rw[J] at C;have B:=ai (by rw[U,hd,J];rfl)
     repeat' first|simp only[go_sem, *]|apply bc<;>intro D|(refine zA.mono C ?_;rintro r h ⟨rfl,rfl⟩)
     exact B
    |true=>
     rw[J] at C;have B:Vv c a.ts G.way F.rel l q=true:=b6 (by rw[V];exact b4 (by rw[U,hd,J];rfl))
     repeat' first|simp only[go_sem, *]|apply bc<;>intro D|(refine zA.mono C ?_;rintro r h ⟨rfl,rfl⟩)
  ·clear W u A X s v w;rintro a7 m e2 ⟨W,u,A,X,s,v,w,a4,a5,a6,N,E⟩;have B:=b5 (by rw[V];exact nS (p:=Lv l q) (λi Q _=>E i Q Q))
   repeat' first|simp only[go_sem, *]|apply bc<;>intro D
   exact B
 ·rintro fr h1 e1 ⟨W,u,A,X,s,v,w,L,E⟩;have cu:Vv c a.ts G.way F.rel l q=false:=nS λi Q _=>E i Q Q;exact au
open List hiding max min map and or get le lt range extract
open Nat(zero_le le_refl le_trans lt_irrefl le_of_lt lt_of_lt_of_le lt_of_le_of_lt lt_succ_iff_lt_or_eq le_of_lt_succ)
def bs3 (a b c:Int) (nid:Nat) (h:Heap):zJ prog false nid 45 3 [(0, .int .i64 a),(1, .int .i64 b),(2, .int .i64 c)] h=some (.sl 1 (qP [a,b,c]) .full,h):=by
 simp[zJ,yK,uV,wW,D.notTuple,D.cells,so,qL,yV,yI,qP]
def bs2 (a b:Int) (nid:Nat) (h:Heap):zJ prog false nid 45 2 [(0, .int .i64 a),(1, .int .i64 b)] h=some (.sl 1 (qP [a,b]) .full,h):=by
 simp[zJ,yK,uV,wW,D.notTuple,D.cells,so,qL,yV,yI,qP]
def bs4 (a b c d:Int) (nid:Nat) (h:Heap):zJ prog false nid 45 4 [(0, .int .i64 a),(1, .int .i64 b),(2, .int .i64 c),(3, .int .i64 d)] h=some (.sl 1 (qP [a,b,c,d]) .full,h):=by
 simp[zJ,yK,uV,wW,D.notTuple,D.cells,so,qL,yV,yI,qP]
def bs5 (a b c d e:Int) (nid:Nat) (h:Heap):zJ prog false nid 45 5 [(0, .int .i64 a),(1, .int .i64 b),(2, .int .i64 c),(3, .int .i64 d),(4, .int .i64 e)] h=some (.sl 1 (qP [a,b,c,d,e]) .full,h):=by
 simp[zJ,yK,uV,wW,D.notTuple,D.cells,so,qL,yV,yI,qP]
def bs1 (a:Int) (nid:Nat) (h:Heap):zJ prog false nid 45 1 [(0, .int .i64 a)] h=some (.sl 1 (qP [a]) .full,h):=by
 simp[zJ,yK,uV,wW,D.notTuple,D.cells,so,qL,yV,yI,qP]
def oP {t:Tri} (h:t∈yB fs al):t.1<fs.length/\t.2.1<fs.length/\t.2.2<fs.length/\∃a,al t.1=some a:=by
 unfold yB at h;obtain⟨i,e,b⟩:=mem_flatMap.1 h;unfold Qb at b;split at b
 ·rename_i d;obtain⟨u,f,b⟩:=mem_flatMap.1 b;unfold Qa at b;obtain⟨v,g,rfl⟩:=mem_map.1 b;have h1:=(uL _ fs 0 u f).2;have c:=(uL _ fs 0 v g).2;exact⟨mem_range.1 e,by simpa using h1,by simpa using c,Option.isSome_iff_exists.1 d⟩
 ·cases b
def L4 (fs:List Fac) (al:Nat->Option Alt):(yB fs al).length<=fs.length*(fs.length*fs.length):=by
 unfold yB;refine le_trans (qV (m:=fs.length*fs.length) λi _=> ?_) (by rw[length_range];exact le_refl _);unfold Qb;split
 ·refine le_trans (qV (m:=fs.length) λu _=> ?_) (Nat.mul_le_mul_right _ (yz _ fs 0));unfold Qa;rw[length_map];exact yz _ fs 0
 ·simp
def tA (h:fs.length<=16):(yB fs al).length<=4096:=
 le_trans (L4 fs al) (le_trans (Nat.mul_le_mul h (Nat.mul_le_mul h h)) (by decide))
def yT {α:Type} (l:List α) (V:α->List (List Int)) (k:Nat):List (List Int):=(l.take k).flatMap V
def wQ {l:List α} {V:α->List (List Int)} {x:α} (h:l[k]? =some x):yT l V (k+1)=yT l V k++V x:=by
 obtain⟨h1,rfl⟩:=List.getElem?_eq_some_iff.1 h;unfold yT;rw[take_succ_eq_append_getElem h1,flatMap_append,flatMap_cons,flatMap_nil,append_nil]
def ug (l:List α) (V:α->List (List Int)):yT l V l.length=l.flatMap V:=by unfold yT;rw[take_length]
def pZ {l:List α} {V:α->List (List Int)} {m:Nat} (h:∀x∈l,(V x).length<=m) (k:Nat):(yT l V k).length<=l.length*m:=
 le_trans (qV λx a=>h x (mem_of_mem_take a)) (Nat.mul_le_mul_right _ (by rw[length_take];omega))
def X2 (t:Tri) (h:Heap) (id:Nat):zQ prog 328 (.ptr id 0) (.agg (rM t)) (h.new id (.row [.int .i64 0, .int .i64 0, .int .i64 0]))=some (h.new id (.row (rM t))):=zf EP ow rfl rfl rfl
def dY (al:Nat->Option Alt) (i:Nat):List Trm:=match al i with
 |some a=>a.ts
 |none=>[]
def wF (c:Cat) (fs:List Fac) (al:Nat->Option Alt) (t:Tri):List (List Int):=
 if Vv c (dY al t.1) (mC fs t.2.2) (si fs t.2.1) 5 (λ_=>true)=true then [[(t.1:Int),(t.2.1:Int),(t.2.2:Int)]] else []
def Qc (h:i<1048576):fits .i64 (i:Int):=zj ow ow
theorem Iz {M:KM Int} {O:KV} {m1 m2:Nat} (Z:Stt c fs al M O sc m1 m2) (X:fs.length<=16)
  {ff:FuncId} {Y:List (List Int)->(Nat->Prop)->Heap->Prop} (y:Fnd2 prog 5 ff cap Y) {w:Heap} (hY:Y [] S w) (I:StH M O m1 m2 w) (n1:¬S m1) (n2:¬S m2):
  zA prog 215 [.iptr sc 0, .fn (.func ff) [] cap] w λ_ h'=>∃S',(∀i,S' i->S i\/w.next<=i)/\But S w h'/\Y ((yB fs al).flatMap (wF c fs al)) S' h':=by
 have Q:=Z;obtain⟨⟨ca,cb,ce,cp,x,rfl,hc,hx,_⟩,sm,bo,bx,bk,halt⟩:=Z;have a1:=λg=>lW [ca,cb,ce,cp,x, .map m1, .map m2] g;refine xO mix func215 zAz rfl rfl ?_;simp only[f215,gJ]
 repeat' first|simp only[go_sem,n9, *]|apply bc<;>intro hc|(refine zA.mono (a1 _) ?_;rintro r h ⟨hq,rfl⟩)
 subst hq;generalize T:LRec.mk _ _ _ _ _ _ _=L;have a4:L.pending=none:=by rw[<-T]
 have a5:L.st= .ready:=by rw[<-T]
 have s:=y.lcl λk=>yT (yB fs al) (wF c fs al) k;have h4:=tA (al:=al) X;refine ww (W:=WK m1 (.map (kmD (D.int .i64) M)) m2 (.map (kvD O)) λk=>Y (yT (yB fs al) (wF c fs al) k)) (n:=(yB fs al).length) (el:=elT (yB fs al)) (S:=λj=>j=m1\/j=m2\/S j) rfl (WK.lcl s) a5 a4 ?_ (λyl aj=>rq Q yl (λk S h ⟨_,_,S0,hk,_⟩=>hk.st) aj) ?_ ?_
 ·exact WK.start hY I.2.1 I.2.2 I.1.1 I.1.2 n1 n2
 ·intro k S0 h3 hk e a3 a9 E;obtain⟨t,ht⟩:∃t,(yB fs al)[k]? =some t:=⟨_,getElem?_eq_getElem hk⟩;have a2:(yB fs al).getD k (0,0,0)=t:=by rw[getD_eq_getElem?_getD,ht];rfl
  simp only[elT,a2];obtain⟨p1,p2,p3,a,K⟩:=oP (mem_of_getElem? ht);have o:=a3;rw[<-T] at o;have a6:=X2 t;refine yg.round (g:=Y7) mix o rfl kr kr kr ?_;simp only[go_sem,a6];refine⟨by rw[zH ow];exact o,?_⟩;generalize hB:LRec.mk .busy _ _ _ _ _ _=B;have J:({ B with st:= .ready,pending:=none } :LRec)=L:=by rw[<-hB,<-T]
  obtain⟨S1,H,ag,bs,P,ai,au,bb,ad,hw⟩:=Lp.open s a9 e E (.row (rM t)) B;rw[ag];have a0:=Dn Q p1 p2 p3 K 5 (q:=λ_=>true) (R:=λ_=>False) (f:=276) (cap:=[]) ad (λi hi=>hi.elim) (λy hy h2 _=>zB5 y h2);have b1:zN true 3 (rM t) 0=some (.agg (rM t)):=zB rfl ow;have e1:(rM t)[0]? =some (.int .i64 (t.1:Int)):=rfl;have e2:(rM t)[1]? =some (.int .i64 (t.2.1:Int)):=rfl;have e3:(rM t)[2]? =some (.int .i64 (t.2.2:Int)):=rfl;have a7:dY al t.1=a.ts:=by simp[dY,K]
  have u:wF c fs al t=if Vv c a.ts (mC fs t.2.2) (si fs t.2.1) 5 (λ_=>true)=true then [[(t.1:Int),(t.2.1:Int),(t.2.2:Int)]] else []:=by unfold wF;rw[a7]
  repeat' first|simp only[go_sem, *]|apply bc<;>intro
  refine a0.mono ?_;rintro r H2 ⟨p,rfl⟩;have F:=(p.2 _ ow).trans P;have z:=au.ext1 p;have v:=(p.2 _ ow).trans ai;have A:=y.ext bb p;cases U:Vv c a.ts (mC fs t.2.2) (si fs t.2.1) 5 (λ_=>true) with
  |false=>
   rw[U,iq (by decide)] at u;have b:Y (yT (yB fs al) (wF c fs al) (k+1)) S1 H2:=by rw[wQ ht,u,append_nil];exact A
   have d:∀fr,wK (LpK h.next L (WK m1 (.map (kmD (D.int .i64) M)) m2 (.map (kvD O)) λk=>Y (yT (yB fs al) (wF c fs al) k)) k S0 h3) h.next .normal fr H2:=λfr=>Lp.call s J e E hw v z (λj hj=> .inl hj) (But.refl S1 H2) b;simp only[go_sem];exact d _
  |true=>
   rw[U,ip rfl] at u;have a8:(yT (yB fs al) (wF c fs al) k).length<16777216:=by
    have:=pZ (V:=wF c fs al) (l:=yB fs al) (m:=1) (λt _=>by unfold wF;split<;>simp) k;omega
   have N:=y.go _ _ _ [(t.1:Int),(t.2.1:Int),(t.2.2:Int)] .full A a8 (by simp) (by simp) (by
    intro n X;simp only[mem_cons,not_mem_nil,or_false] at X;rcases X with rfl|rfl|rfl<;>exact Qc ow)
   simp only[nil_append,cons_append] at N;have ak:=bs3 (t.1:Int) (t.2.1:Int) (t.2.2:Int);simp only[go_sem,F,e1,e2,e3,ak];refine N.mono ?_;rintro r h5 ⟨S5,G,C,b⟩;have ba:Y (yT (yB fs al) (wF c fs al) (k+1)) S5 h5:=by rw[wQ ht,u];exact b
   have d:∀fr,wK (LpK h.next L (WK m1 (.map (kmD (D.int .i64) M)) m2 (.map (kvD O)) λk=>Y (yT (yB fs al) (wF c fs al) k)) k S0 h3) h.next .normal fr h5:=λfr=>Lp.call s J e E hw v z G C ba;exact d _
 ·intro S2 h5 Z U hw;obtain⟨S5,G,C,b⟩:=WK.stop I.1.1 I.1.2 Z U hw;rw[ug] at b;simp only[go_sem];exact⟨S5,G,C,b⟩
def dZ (own:List UInt8) (l:List (List UInt8)):Bool:= !(l.any λx=>x==own)
def I0 {own:List UInt8} {y:Cla} (a:y.Fine) (c:h.at' id=some (.row [.str own])):zA prog 277 [.agg y.cells, .ptr id 0] h λr h'=>h'=h/\r= .bool (dZ own y.list):=by
 have b:=pK a.1.isSl a.2 own;have k1:y.cells[4]? =some y.d:=rfl;obtain⟨e,f,_⟩:=zI a.1.isSl;unfold dZ;refine xO mix func277 zA3 rfl rfl ?_;simp only[f277,gJ]
 repeat' first|simp only[go_sem, *]|apply bc<;>intro b|(refine zA.mono (b _) ?_;rintro r h ⟨rfl,rfl⟩)
def uM (c:Cat) (fs:List Fac) (al:Nat->Option Alt) (O:KV) (t:Tri):List (List Int):=match ua (wi fs t.2.1) O with
 |none=>[]
 |some own=>if Vv c (dY al t.1) (mC fs t.2.2) (si fs t.2.1) 4 (dZ own)=true then [[(t.1:Int),(t.2.1:Int),(t.2.2:Int)]] else []
theorem Do {M:KM Int} {O:KV} {m1 m2:Nat} (hs:Stt c fs al M O sc m1 m2) (hn:fs.length<=16)
  {ff:FuncId} {Y:List (List Int)->(Nat->Prop)->Heap->Prop} (y:Fnd2 prog 5 ff cap Y) {w:Heap} (hY:Y [] S w) (K:StH M O m1 m2 w) (n1:¬S m1) (n2:¬S m2):
  zA prog 216 [.iptr sc 0, .fn (.func ff) [] cap] w λ_ h'=>∃S',(∀i,S' i->S i\/w.next<=i)/\But S w h'/\Y ((yB fs al).flatMap (uM c fs al O)) S' h':=by
 have I:=hs;obtain⟨⟨ca,cb,ce,cp,x,rfl,hc,hx,_⟩,sm,cm,cv,cl,halt⟩:=hs;have ba:=λg=>lW [ca,cb,ce,cp,x, .map m1, .map m2] g;refine xO mix func216 zBF rfl rfl ?_;simp only[f216,gJ]
 repeat' first|simp only[go_sem,n9, *]|apply bc<;>intro hc|(refine zA.mono (ba _) ?_;rintro r h ⟨hq,rfl⟩)
 subst hq;generalize hL:LRec.mk _ _ _ _ _ _ _=L;have cc:L.pending=none:=by rw[<-hL]
 have cf:L.st= .ready:=by rw[<-hL]
 have Z:=y.lcl λk=>yT (yB fs al) (uM c fs al O) k;have h4:=tA (al:=al) hn;refine ww (W:=WK m1 (.map (kmD (D.int .i64) M)) m2 (.map (kvD O)) λk=>Y (yT (yB fs al) (uM c fs al O) k)) (n:=(yB fs al).length) (el:=elT (yB fs al)) (S:=λj=>j=m1\/j=m2\/S j) rfl (WK.lcl Z) cf cc ?_ (λyl b5=>rq I yl (λk S h ⟨_,_,S0,hk,_⟩=>hk.st) b5) ?_ ?_
 ·exact WK.start hY K.2.1 K.2.2 K.1.1 K.1.2 n1 n2
 ·intro k S0 h3 hk Q ag au bs;obtain⟨t,ht⟩:∃t,(yB fs al)[k]? =some t:=⟨_,List.getElem?_eq_getElem hk⟩;have b8:(yB fs al).getD k (0,0,0)=t:=by rw[List.getD_eq_getElem?_getD,ht];rfl
  simp only[elT,b8];obtain⟨p1,p2,p3,a,a8⟩:=oP (List.mem_of_getElem? ht);have d:=ag;rw[<-hL] at d;have bx:=X2 t;refine yg.round (g:=XE) mix d rfl kr kr kr ?_;simp only[go_sem,bx];refine⟨by rw[zH ow];exact d,?_⟩;generalize hB:LRec.mk .busy _ _ _ _ _ _=B;have X:({ B with st:= .ready,pending:=none } :LRec)=L:=by rw[<-hB,<-hL]
  obtain⟨S1,H,a6,b4,A,a7,a9,b3,F,hw⟩:=Lp.open Z au Q bs (.row (rM t)) B;rw[a6];clear bx a6 hB;have cw:zN true 3 (rM t) 0=some (.agg (rM t)):=zB rfl ow;have e1:(rM t)[0]? =some (.int .i64 (t.1:Int)):=rfl;have e2:(rM t)[1]? =some (.int .i64 (t.2.1:Int)):=rfl;have e3:(rM t)[2]? =some (.int .i64 (t.2.2:Int)):=rfl;have ch:dY al t.1=a.ts:=by simp[dY,a8]
  have a2:=qd hx p2;have ho:wi fs t.2.1=fs[t.2.1].out:=by simp[wi,p2]
  have k2:fs[t.2.1].cells[2]? =some (.str fs[t.2.1].out):=rfl;rw[<-ho] at k2;clear ho;obtain⟨h0,bo,T,v⟩:=Heap.low H;obtain⟨C,b9⟩:∃n,H.next=n:=⟨_,rfl⟩;have b1:∀s,zQ prog 9 (.ptr C 0) (.str s) (H.new C (.row [.str []]))=some (H.new C (.row [.str s])):=λs=>by
   rw[zR (zK _ _ _) uW (by simp) rfl rfl,p5];rfl
  have cg:=(v h3.next ow).trans A;have e:=Lt (by rw[v m2 F.2.2];exact F.1.2) (wi fs t.2.1) true;have cs:h3.next<C:=ow;have p:∀o,∃G,H.new C o=G/\Ext H G/\G.at' C=some o/\G.at' h3.next=some (.row (rM t))/\C<G.next/\But (λj=>j=h.next) h3 G/\G.at' h.next=some (.loop B)/\Y (yT (yB fs al) (uM c fs al O) k) S1 G/\StH M O m1 m2 G:=λo=>by
   have hE:Ext H (H.new C o):=(Ext.refl H).new ow _;exact⟨_,rfl,hE,zK _ _ _,(hE.2 _ ow).trans A,by rw[zp _ ow];omega,a9.ext1 hE,(hE.2 _ ow).trans a7,y.ext b3 hE,StH.ext F hE⟩
  rw[b9] at T;have b:∀ {fr:Frm} {G h5:Heap} {S5:Nat->Prop},G.at' h.next=some (.loop B)->But (λj=>j=h.next) h3 G->(∀j,S5 j->S1 j\/G.next<=j)->But S1 G h5->Y (yT (yB fs al) (uM c fs al O) (k+1)) S5 h5->wK (LpK h.next L (WK m1 (.map (kmD (D.int .i64) M)) m2 (.map (kvD O)) λk=>Y (yT (yB fs al) (uM c fs al O) k)) k S0 h3) h.next .normal fr h5:=λa1 a2 a3 a4 a5=>Lp.call Z X Q bs hw a1 a2 a3 a4 a5;rw[wQ ht] at b;clear b4 a7 a9 b3 F A v
  refine zM h0 [(0, .st,true),(4, .st,true),(1, .no,true),(2, .no,true),(3, .st,true),(5, .no,true),(6, .no,true),(7, .st,true),(8, .no,true),(9, .st,true),(10, .no,true),(11, .no,true),(12, .st,true),(13, .st,true),(14, .no,true),(15, .no,true),(16, .no,true),(17, .no,true),(18, .no,false),(19, .no,false)] kr kr bo ?_;cases u:ua (wi fs t.2.1) O with
  |none=>
   rw[u] at e;replace e:yj prog 152 (.map m2) (.str (wi fs t.2.1)) true h0=some (.tuple [.str [], .bool false]):=e;have ak:uM c fs al O t= []:=by unfold uM;rw[u]
   rw[ak,List.append_nil] at b;obtain⟨G,hG,a0,g1,g2,g3,g4,g5,g6,_⟩:=p (.row [.str []]);have cu:=λfr=>b (fr:=fr) g5 g4 (λj hj=> .inl hj) (But.refl S1 G) g6;have b2:=b1 [];have bk:=T (.row [.str []]);rw[hG] at b2 bk;clear hw hL X I hY K au d ag ht p b u g1 g2 g3 g4 g5 g6 a0
   repeat' first|simp only[go_sem,zg, *]|apply bc<;>intro
   refine Ls _ e ?_
   repeat' first|simp only[go_sem,zg, *]|apply bc<;>intro hc
  |some own=>
   rw[u] at e;replace e:yj prog 152 (.map m2) (.str (wi fs t.2.1)) true h0=some (.tuple [.str own, .bool true]):=e;have ak:uM c fs al O t=if Vv c a.ts (mC fs t.2.2) (si fs t.2.1) 4 (dZ own)=true then [[(t.1:Int),(t.2.1:Int),(t.2.2:Int)]] else []:=by unfold uM;rw[u];simp only[ch]
   rw[ak] at b;obtain⟨G,hG,a0,g1,g2,g3,g4,g5,g6,g7⟩:=p (.row [.str own]);have b7:=Dn I p1 p2 p3 a8 4 (q:=dZ own) (R:=λj=>j=C) (f:=277) (cap:=[.ptr C 0]) g7 (λi hi=>by rw[hi];exact g3) (λz hz h2 hr=>I0 hz (by rw[hr _ rfl,g1]));have ck:(yT (yB fs al) (uM c fs al O) k).length<16777216:=by
    have:=pZ (V:=uM c fs al O) (l:=yB fs al) (m:=1) (λt _=>by
     unfold uM;split
     ·simp
     ·split<;>simp) k
    omega
   have b6:=bs3 (t.1:Int) (t.2.1:Int) (t.2.2:Int);have bb:=λS h hy=>y.go _ S h [(t.1:Int),(t.2.1:Int),(t.2.2:Int)] .full hy ck (by simp) (by simp) (by
    intro n hn;simp only[List.mem_cons,List.not_mem_nil,or_false] at hn;rcases hn with rfl|rfl|rfl<;>exact Qc ow)
   simp only[List.nil_append,List.cons_append] at bb;clear hw hL X hY K au d ag ht p u I ba
   repeat' first|simp only[go_sem,zg, *]|apply bc<;>intro
   refine Ls _ e ?_
   repeat' first|simp only[go_sem,zg, *]|apply bc<;>intro
   refine b7.mono ?_;rintro r H2 ⟨E,rfl⟩;have ai:=(E.2 _ ow).trans g2;have P:=g4.ext1 E;have N:=(E.2 _ ow).trans g5;have U:=y.ext g6 E;cases hb:Vv c a.ts (mC fs t.2.2) (si fs t.2.1) 4 (dZ own) with
   |false=>
    rw[hb,iq (by decide),List.append_nil] at b;simp only[go_sem];exact b N P (λj hj=> .inl hj) (But.refl S1 H2) U
   |true=>
    rw[hb,ip rfl] at b;simp only[go_sem,ai,e1,e2,e3,b6];refine(bb _ _ U).mono ?_;rintro r h5 ⟨S5,aj,ad,J⟩;exact b N P aj ad J
 ·intro S2 h5 hs hb hw;obtain⟨S5,aj,ad,J⟩:=WK.stop K.1.1 K.1.2 hs hb hw;rw[ug] at J;simp only[go_sem];exact⟨S5,aj,ad,J⟩
def Dp (b:sc[4]? =some x) (c:zd 12 (nz fs) x) {t:Tri} (a:t.1<fs.length) (g:Fac) (f:h.at' id=some (.row (rM t))):
  zA prog 279 [.agg g.cells, .iptr [.iptr sc 0] 0, .ptr id 0] h λr h'=>h'=h/\r= .bool (g.comp==we fs t.1):=by
 have k1:fs[t.1].cells[1]? =some (.str fs[t.1].comp):=rfl;have k2:g.cells[1]? =some (.str g.comp):=rfl;have e1:(rM t)[0]? =some (.int .i64 (t.1:Int)):=rfl;have d:=qd c a;have j:we fs t.1=fs[t.1].comp:=by simp[we,a]
 refine xO mix func279 zES rfl rfl ?_;simp only[f279,gJ];simp only[go_sem, *];refine zM Heap.emp [(2, .no,false),(0, .no,false),(1, .no,false),(3, .no,false),(4, .no,false),(5, .no,false),(6, .no,false),(7, .no,false),(8, .no,false),(9, .no,false),(10, .no,false),(11, .no,false),(12, .no,false)] kr kr (λi k e=>by cases e) ?_;simp only[go_sem,zg, *]
def aD (fs:List Fac) (i:Nat):Int:=match fs[i]? with
 |some f=>f.duty
 |none=>0
def I1 (fs:List Fac) (i:Nat):Bool:=match fs[i]? with
 |some f=>f.chg
 |none=>false
abbrev mD (fs:List Fac) (i:Nat):List Nat:=fIx 4 (λg=>g.comp==we fs i) fs
def mF (c:Cat) (fs:List Fac) (al:Nat->Option Alt) (t:Tri) (k:Nat):List (List Int):=
 if((!(aD fs k==2)||I1 fs t.2.1)&&Vv c (dY al t.1) (mC fs t.2.2) (si fs t.2.1) (aD fs k) (λ_=>true))=true then [[(t.1:Int),(t.2.1:Int),(t.2.2:Int),(k:Int)]] else []
def oQ (c:Cat) (fs:List Fac) (al:Nat->Option Alt) (t:Tri):List (List Int):=(mD fs t.1).flatMap (mF c fs al t)
def X3 (c:Cat) (fs:List Fac) (al:Nat->Option Alt) (t:Tri) (k:Nat):(mF c fs al t k).length<=1:=by unfold mF;split<;>simp
def dc (c:Cat) (b:fs.length<=16) (al:Nat->Option Alt) (t:Tri):(oQ c fs al t).length<=16:=by
 have h1:=qV (m:=1) (l:=mD fs t.1) λk _=>X3 c fs al t k;have a:(mD fs t.1).length<=fs.length:=yz _ fs 0;unfold oQ;omega
theorem zB6 {M:KM Int} {O:KV} {m1 m2:Nat} (hs:Stt c fs al M O sc m1 m2) (hn:fs.length<=16)
  {ff:FuncId} {Y:List (List Int)->(Nat->Prop)->Heap->Prop} (y:Fnd2 prog 5 ff cap Y) {w:Heap} (hY:Y [] S w) (hH:StH M O m1 m2 w) (n1:¬S m1) (n2:¬S m2):
  zA prog 217 [.iptr sc 0, .fn (.func ff) [] cap] w λ_ h'=>∃S',(∀i,S' i->S i\/w.next<=i)/\But S w h'/\Y ((yB fs al).flatMap (oQ c fs al)) S' h':=by
 have Z:=hs;obtain⟨⟨ca,cb,ce,cp,x,rfl,hc,hx,_⟩,sm,di,c9,b8,halt⟩:=hs;have b7:=λg=>lW [ca,cb,ce,cp,x, .map m1, .map m2] g;refine xO mix func217 Ad rfl rfl ?_;simp only[f217,gJ]
 repeat' first|simp only[go_sem,n9, *]|apply bc<;>intro hc|(refine zA.mono (b7 _) ?_;rintro r h ⟨hq,rfl⟩)
 subst hq;generalize hL:LRec.mk _ _ _ _ _ _ _=L;have da:L.pending=none:=by rw[<-hL]
 have db:L.st= .ready:=by rw[<-hL]
 have ba:=y.lcl λk=>yT (yB fs al) (oQ c fs al) k;have h4:=tA (al:=al) hn;refine ww (W:=WK m1 (.map (kmD (D.int .i64) M)) m2 (.map (kvD O)) λk=>Y (yT (yB fs al) (oQ c fs al) k)) (n:=(yB fs al).length) (el:=elT (yB fs al)) (S:=λj=>j=m1\/j=m2\/S j) rfl (WK.lcl ba) db da ?_ (λyl a9=>rq Z yl (λk S h ⟨_,_,S0,hk,_⟩=>hk.st) a9) ?_ ?_
 ·exact WK.start hY hH.2.1 hH.2.2 hH.1.1 hH.1.2 n1 n2
 ·intro k S0 h3 hk a6 cc cw ch;obtain⟨t,ht⟩:∃t,(yB fs al)[k]? =some t:=⟨_,getElem?_eq_getElem hk⟩;have c6:(yB fs al).getD k (0,0,0)=t:=by rw[getD_eq_getElem?_getD,ht];rfl
  simp only[elT,c6];obtain⟨p1,p2,p3,a,b4⟩:=oP (mem_of_getElem? ht);have s:=cc;rw[<-hL] at s;have cs:=X2 t;refine yg.round (g:=bU) mix s rfl kr kr kr ?_;simp only[go_sem,cs];refine⟨by rw[zH ow];exact s,?_⟩;generalize hB:LRec.mk .busy _ _ _ _ _ _=B;have bx:({ B with st:= .ready,pending:=none } :LRec)=L:=by rw[<-hB,<-hL]
  obtain⟨S1,H,bo,U,N,bs,b5,c2,z,hw⟩:=Lp.open ba cw a6 ch (.row (rM t)) B;rw[bo];clear cs bo hB;have dk:zN true 3 (rM t) 0=some (.agg (rM t)):=zB rfl ow;have e1:(rM t)[0]? =some (.int .i64 (t.1:Int)):=rfl;have e2:(rM t)[1]? =some (.int .i64 (t.2.1:Int)):=rfl;have e3:(rM t)[2]? =some (.int .i64 (t.2.2:Int)):=rfl;have dd:dY al t.1=a.ts:=by simp[dY,b4]
  have b3:∀j,S1 j->j<h3.next:=λj hj=>y.here _ _ _ hw.1 j hj;have b6:=λg=>ka [ca,cb,ce,cp,x, .map m1, .map m2] 4 (hf:= .fn (.func 279) [] [.iptr [.iptr [ca,cb,ce,cp,x, .map m1, .map m2] 0] 0, .ptr h3.next 0]) ⟨_,_,_,rfl⟩ g;refine(b6 _).mono ?_;rintro r H2 ⟨hq,rfl⟩;subst hq;simp only[go_sem,oO,U];generalize C:LRec.mk .ready _ _ _ _ _ _=L2;have cl:L2.pending=none:=by rw[<-C]
  have cm:L2.st= .ready:=by rw[<-C]
  have E:=y.lcl λk2=>yT (yB fs al) (oQ c fs al) k++yT (mD fs t.1) (mF c fs al t) k2;have cg:¬S1 m1/\¬S1 m2:=hw.2.2.2.1;obtain⟨l,hl⟩:∃l:List (Nat×Obj),l= [(m1, .map (kmD (D.int .i64) M)),(m2, .map (kvD O)),(h3.next, .row (rM t))]:=⟨_,rfl⟩;have Q:∀p∈l,p.1<H2.next/\H2.at' p.1=some p.2/\¬S1 p.1:=by
   rw[hl];intro p K;simp only[mem_cons,not_mem_nil,or_false] at K;rcases K with rfl|rfl|rfl
   ·exact⟨z.2.1,z.1.1,cg.1⟩
   ·exact⟨z.2.2,z.1.2,cg.2⟩
   ·exact⟨by rw[U];omega,N,λe=>lt_irrefl _ (b3 _ e)⟩
  have o:∀ {h:Heap},(∀p∈l,p.1<h.next/\h.at' p.1=some p.2)->StH M O m1 m2 h/\h3.next<h.next/\h.at' h3.next=some (.row (rM t)):=by
   rw[hl];intro h K;have q1:=K (m1, .map (kmD (D.int .i64) M)) (by simp);have q2:=K (m2, .map (kvD O)) (by simp);have q3:=K (h3.next, .row (rM t)) (by simp);exact⟨⟨⟨q1.2,q2.2⟩,q1.1,q2.1⟩,q3⟩
  clear hl;refine⟨⟨_,bs⟩,ww (W:=WL l λk2=>Y (yT (yB fs al) (oQ c fs al) k++yT (mD fs t.1) (mF c fs al t) k2)) (n:=(mD fs t.1).length) (el:=elI (mD fs t.1)) (S:=λj=>(∃p∈l,j=p.1)\/S1 j) U (WL.lcl E) cm cl ?_ (λyl a9=>oz (sc:=[ca,cb,ce,cp,x, .map m1, .map m2]) rfl hx ow Z.ok yl (R:=λj=>j=h3.next) ?_ (λg hg h2 hr=> ?_) a9) ?_ ?_⟩
  ·exact WL.start (by rw[show yT (mD fs t.1) (mF c fs al t) 0= [] from rfl,append_nil];exact c2) Q
  ·rintro j rfl;refine⟨by rw[zp _ ow];omega, .inr ?_⟩;rintro k S2 h2 ⟨_,_,S0,hk,_⟩;rw[(o hk.st).2.2,zH ow,N]
  ·exact(Dp (sc:=[ca,cb,ce,cp,x, .map m1, .map m2]) rfl hx p1 g (by rw[hr _ rfl,zH ow,N])).mono λr h3 e=>e
  ·intro k2 S3 h5 c8 J cf c0 ck;obtain⟨v,hv⟩:∃v,(mD fs t.1)[k2]? =some v:=⟨_,getElem?_eq_getElem c8⟩;have c7:(mD fs t.1).getD k2 0=v:=by rw[getD_eq_getElem?_getD,hv];rfl
   have cv:v<fs.length:=by
    have:=(uL _ fs 0 v (mem_of_getElem? hv)).2;omega
   simp only[elI,c7];have u:=cf;rw[<-C] at u;refine yg.round (g:=bU) mix u rfl kr kr kr ?_;simp only[go_sem];refine⟨u,?_⟩;generalize c3:LRec.mk .busy _ _ _ _ _ _=B2;have ak:({ B2 with st:= .ready,pending:=none } :LRec)=L2:=by rw[<-c3,<-C]
   obtain⟨S4,H4,ad,aj,ag,au,a7,A,d⟩:=Lp.openL0 E c0 J ck B2;rw[ad];obtain⟨g1,g2,g3⟩:=o (h:=H4) λp K=>⟨by rw[aj];exact(A p K).1,(A p K).2⟩;have b:∀ {fr:Frm} {G h7:Heap} {S5:Nat->Prop},G.at' (h3.next+1)=some (.loop B2)->But (λj=>j=h3.next+1) h5 G->(∀j,S5 j->S4 j\/G.next<=j)->But S4 G h7->Y (yT (yB fs al) (oQ c fs al) k++yT (mD fs t.1) (mF c fs al t) (k2+1)) S5 h7->wK (LpK (h3.next+1) L2 (WL l λk2=>Y (yT (yB fs al) (oQ c fs al) k++yT (mD fs t.1) (mF c fs al t) k2)) k2 S3 h5) (h3.next+1) .normal fr h7:=λa1 a2 a3 a4 a5=>Lp.callL E ak J ck d a1 a2 a3 a4 a5;rw[wQ hv] at b;have b1:=qd hx cv
   have b2:=qd hx p2;have k5:fs[v].cells[5]? =some (.int .i64 fs[v].duty):=rfl;have k6:fs[t.2.1].cells[6]? =some (.bool fs[t.2.1].chg):=rfl;have hd:aD fs v=fs[v].duty:=by simp[aD,cv]
   have I:I1 fs t.2.1=fs[t.2.1].chg:=by simp[I1,p2]
   have b9:mF c fs al t v=if((!(fs[v].duty==2)||fs[t.2.1].chg)&&Vv c a.ts (mC fs t.2.2) (si fs t.2.1) fs[v].duty (λ_=>true))=true then [[(t.1:Int),(t.2.1:Int),(t.2.2:Int),(v:Int)]] else []:=by unfold mF;rw[hd,I,dd]
   have bb:=Dn Z p1 p2 p3 b4 fs[v].duty (q:=λ_=>true) (R:=λ_=>False) (f:=276) (cap:=[]) g1 (λi hi=>hi.elim) (λy hy h2 _=>zB5 y h2);rw[b9] at b;have cu:(yT (yB fs al) (oQ c fs al) k++yT (mD fs t.1) (mF c fs al t) k2).length<16777216:=by
    have q1:=pZ (V:=oQ c fs al) (l:=yB fs al) (m:=16) (λt _=>dc c hn al t) k;have q2:=pZ (V:=mF c fs al t) (l:=mD fs t.1) (m:=1) (λk _=>X3 c fs al t k) k2;have q3:(mD fs t.1).length<=fs.length:=yz _ fs 0;rw[length_append];omega
   have X:=λS h hy=>y.go _ S h [(t.1:Int),(t.2.1:Int),(t.2.2:Int),(v:Int)] .full hy cu (by simp) (by simp) (by
    intro n hn;simp only[mem_cons,not_mem_nil,or_false] at hn;rcases hn with rfl|rfl|rfl|rfl<;>exact Qc ow)
   simp only[nil_append,cons_append] at X;have c4:=bs4 (t.1:Int) (t.2.1:Int) (t.2.2:Int) (v:Int);clear hd I b9 cu;generalize fs[v]=fv at *
   generalize fs[t.2.1]=fu at *
   clear hL bx C ak Z hY hH cw s cc ht b7 b6 b8 c9 o Q cf u c0 d A ad hv c2 z b5
   repeat' first|simp only[go_sem,zg, *]|apply bc<;>intro
   refine zU kr ?_;cases h2:(fv.duty==2)<;>cases I:fu.chg
   case true.false=>
    rw[h2,I,iq (by simp),append_nil] at b;have c5:=λfr=>b (fr:=fr) ag au (λj hj=> .inl hj) (But.refl S4 H4) a7;clear b X bb
    repeat' first|simp only[go_sem,zg, *]|apply bc<;>intro
   all_goals
    rw[h2,I] at b
    repeat' first|simp only[go_sem,zg, *]|apply bc<;>intro
    refine bb.mono ?_;rintro r H5 ⟨T,rfl⟩;have bk:=(T.2 _ g2).trans g3;have a0:=au.ext1 T;have ai:=(T.2 _ (by rw[aj];exact J)).trans ag;have a8:=y.ext a7 T;cases hb:Vv c a.ts (mC fs t.2.2) (si fs t.2.1) fv.duty (λ_=>true) with
    |false=>
     rw[hb,iq (by decide),append_nil] at b;have c5:=λfr=>b (fr:=fr) ai a0 (λj hj=> .inl hj) (But.refl S4 H5) a8;clear b X bb
     repeat' first|simp only[go_sem, *]|apply bc<;>intro hc
    |true=>
     rw[hb,ip (by decide)] at b;simp only[go_sem,bk,e1,e2,e3,c4];refine(X _ _ a8).mono ?_;rintro r h7 ⟨S5,P,F,d⟩;rw[append_assoc] at d;exact b ai a0 P F d
  ·intro S' h5 hs hb d;obtain⟨S5,P,F,c1⟩:=WL.stop (λp K=>(Q p K).2.1) (λj hj=>by rw[U];exact hs j hj) hb d;rw[ug] at c1;have de:Y (yT (yB fs al) (oQ c fs al) (k+1)) S5 h5:=by rw[wQ ht];exact c1
   have b:∀fr,wK (LpK h.next L (WK m1 (.map (kmD (D.int .i64) M)) m2 (.map (kvD O)) λk=>Y (yT (yB fs al) (oQ c fs al) k)) k S0 h3) h.next .normal fr h5:=λfr=>Lp.call ba bx a6 ch hw bs b5 P F de;simp only[go_sem];exact b _
 ·intro S2 h5 hs hb hw;obtain⟨S5,P,F,d⟩:=WK.stop hH.1.1 hH.1.2 hs hb hw;rw[ug] at d;simp only[go_sem];exact⟨S5,P,F,d⟩
def zB7 (x y:Apt) (c:Bool):pj prog .eql 121 c (.agg [.str x.a, .str x.b]) (.agg [.str y.a, .str y.b])=some (.bool (x.a==y.a&&x.b==y.b)):=by
 have d:eqT prog 121=some [.s, .s]:=by kernel_rfl
 simp only[pj,d,RX,eqK,Option.map_some,Bool.and_true,tI]
def I2 {l:List Apt} (q:zd 2 (IT l) d) (D:l.length<=1048576) (n:Apt) (g:Heap):
  zA prog 408 [d, .agg [.str n.a, .str n.b]] g λr h'=>h'=g/\r= .int .i64 (Zf (λx:Apt=>n.a==x.a&&n.b==x.b) l):=by
 have s:=lG q;have heq:=zB7 n;obtain⟨p,t⟩:∃p:Apt->Bool,(λx:Apt=>n.a==x.a&&n.b==x.b)=p:=⟨_,rfl⟩;have m:∀x,(n.a==x.a&&n.b==x.b)=p x:=λx=>by rw[<-t]
 rw[t];refine xO mix func408 Al rfl rfl ?_;simp only[f408,gJ];simp only[go_sem, *];refine zC (λi fr h=>fr 0=d/\fr 3= .iptr [.str n.a, .str n.b] 0/\fr 7= .int .i64 (l.length:Int)/\fr 8= .int .i64 (i:Int)/\h=g/\∀j (e:j<l.length),j<i->p l[j]=false) l.length ow ?_ ?_ ?_
 ·simp only[go_sem,true_and,and_true,Int.ofNat_zero];exact λj e h0=>absurd h0 (Nat.not_lt_zero _)
 ·rintro i fr h c e1 C ⟨v,w,y,z,rfl,e⟩;have u:=kU q c;simp only[Apt.cells] at u;have o:=heq l[i];rw[m] at o;cases k:p l[i] with
  |true=>
   have B:=pN (p:=p) c e k;rw[k] at o;simp only[go_sem, *];refine zU kr ?_;simp only[go_sem, *]
  |false=>
   have A:=qG (p:=p) c e k;rw[k] at o;simp only[go_sem, *];refine zU kr ?_;simp only[go_sem, *];exact A
 ·rintro fr h e1 ⟨v,w,y,z,rfl,e⟩;have B:=pO (p:=p) λj f=>e j f f;exact au
def Vw {l:List Apt} (e:zd 2 (IT l) d) (i:l.length<=1048576) (n:Apt) (g:Heap):
  zA prog 390 [d, .agg [.str n.a, .str n.b]] g λr h'=>h'=g/\r= .bool (l.any λx:Apt=>n.a==x.a&&n.b==x.b):=by
 have c:=I2 e i n;have f:=p9 (l:=l) (p:=λx:Apt=>n.a==x.a&&n.b==x.b);refine xO mix func390 Ak rfl rfl ?_;simp only[f390,gJ]
 repeat' first|simp only[go_sem, *]|apply bc<;>intro j|(refine zA.mono (c _) ?_;rintro r h ⟨rfl,rfl⟩)
def zGf (a b:List UInt8):Apt:=if(!(cC a b||a==b))=true then⟨b,a⟩ else⟨a,b⟩
def nX (c:Cat) (a b:List UInt8):Bool:=(tO c==0)&&c.ps.any λx=>(zGf a b).a==x.a&&(zGf a b).b==x.b
def cY (k:yu c d) (l:c.Sm) (x y:List UInt8) (g:Heap):zA prog 344 [d, .str x, .str y] g λr h'=>h'=g/\r= .bool (nX c x y):=by
 have j:=oo k l;obtain⟨a,b,e,p,rfl,s,t,w,o⟩:=k;have m:∀u v:List UInt8,yA prog 121 [(0, .str u),(1, .str v)]=some (.agg [.str u, .str v]):=λu v=>by simp[yA,W3,Pt,qL,D.notTuple,D.cells,yV]
 have f:=λn=>Vw o l.ps n;obtain⟨R,i⟩:∃R,nX c x y=R:=⟨_,rfl⟩;rw[i];unfold nX zGf at i;refine xO mix func344 zAR rfl rfl ?_;simp only[f344,gJ];cases q:(cC x y||x==y) with
 |true=>
  rw[iq (by rw[q];decide)] at i;have h1:=f ⟨x,y⟩;subst i
  repeat' first|simp only[go_sem, *]|apply bc<;>intro k|(refine zA.mono (j _) ?_;rintro r h ⟨rfl,rfl⟩)|(refine zA.mono (h1 _) ?_;rintro r h ⟨rfl,rfl⟩)
 |false=>
  rw[ip (by rw[q];rfl)] at i;have h1:=f ⟨y,x⟩;subst i
  repeat' first|simp only[go_sem, *]|apply bc<;>intro k|(refine zA.mono (j _) ?_;rintro r h ⟨rfl,rfl⟩)|(refine zA.mono (h1 _) ?_;rintro r h ⟨rfl,rfl⟩)
def zB8 (c:Cat) (b:List Trm) (x:Trm):Bool:=b.any λy=>nX c x.a y.a
def Dq (c:Cat) (a b:List Trm):Bool:=a.any (zB8 c b)
theorem L5 {ca cb ce cp:D} {rest:List D} (x:yu c (.agg [ca,cb,ce,cp])) (sm:c.Sm) {a b:Alt} (N:a.Ok) (O:b.Ok) (g:Heap):
  zA prog 280 [.iptr (ca::cb::ce::cp::rest) 0,a.d,b.d] g λr h'=>Ext g h'/\r= .bool (Dq c a.ts b.ts):=by
 have a0:=yp N.sl;have a2:=yp O.sl;have aj:=N.len;have ak:=O.len;obtain⟨q1,q2,_⟩:=zI N.sl;obtain⟨q3,q4,_⟩:=zI O.sl;have hE:Ext g g:=Ext.refl g;have a6:zN true 4 (ca::cb::ce::cp::rest) 0=some (.agg [ca,cb,ce,cp]):=by simp[zN]
 refine xO mix func280 A5 rfl rfl ?_;simp only[f280,gJ]
 repeat' first|simp only[go_sem, *]|apply bc<;>intro x
 refine zC (λi fr h'=>fr 0= .iptr (ca::cb::ce::cp::rest) 0/\fr 2=b.d/\fr 11=a.d/\fr 12= .int .i64 (a.ts.length:Int)/\fr 13= .int .i64 (i:Int)/\Ext g h'/\∀j (t:j<a.ts.length),j<i->zB8 c b.ts a.ts[j]=false) a.ts.length ow ?_ ?_ ?_
 ·simp only[go_sem,true_and,and_true,Int.ofNat_zero];exact⟨hE,λj t h0=>by omega⟩
 ·rintro i fr h1 E e1 ew ⟨I,J,l,m,o,A,t⟩;have a1:=uH N.sl E;have Z:=λe=>fq (p:=zB8 c b.ts) E e;have Y:=λe=>qG (p:=zB8 c b.ts) E t e;generalize a.ts[i]=z at *
  have G:zQ prog 130 (.ptr h1.next 0) (.agg z.cells) (h1.new h1.next (.row [.str [], .str []]))=some (h1.new h1.next (.row z.cells)):=zf yt ow rfl rfl rfl;have a5:zN true 2 z.cells 0=some (.agg z.cells):=zB rfl ow;obtain⟨H,hH,f,C,q⟩:∃H,h1.new h1.next (.row z.cells)=H/\H.at' h1.next=some (.row z.cells)/\Ext g H/\h1.next<H.next:=⟨_,rfl,zK _ _ _,A.new A.1 _,by rw[zF];omega⟩;rw[hH] at G
  repeat' first|simp only[go_sem, *]|apply bc<;>intro x
  obtain⟨M,F⟩:∃n,h1.next=n:=⟨_,rfl⟩;rw[F] at f q⊢;refine zC (λj fr h'=>fr 0= .iptr (ca::cb::ce::cp::rest) 0/\fr 2=b.d/\fr 11=a.d/\fr 12= .int .i64 (a.ts.length:Int)/\fr 13= .int .i64 (i:Int)/\fr 8= .ptr M 0/\fr 17=b.d/\fr 18= .int .i64 (b.ts.length:Int)/\fr 19= .int .i64 (j:Int)/\h'.at' M=some (.row z.cells)/\M<h'.next/\Ext g h'/\∀k (hk:k<b.ts.length),k<j->nX c z.a b.ts[k].a=false) b.ts.length ow ?_ ?_ ?_
  ·simp only[go_sem,true_and,and_true,Int.ofNat_zero];exact⟨I,J,l,m,o,f,q,C,λj t h0=>by omega⟩
  ·clear I J l m o f C G q F;rintro j T u s e2 ag ⟨I,J,l,m,o,f8,Q,R,S,f,q,B,t⟩;have b1:=uH O.sl s;have X:nX c z.a b.ts[j].a=true->zB8 c b.ts z=true:=λe=>fq (p:=λy:Trm=>nX c z.a y.a) s e;have W:=λe=>qG (p:=λy:Trm=>nX c z.a y.a) s t e;generalize b.ts[j]=y at *
   have L:zQ prog 130 (.ptr u.next 0) (.agg y.cells) (u.new u.next (.row [.str [], .str []]))=some (u.new u.next (.row y.cells)):=zf yt ow rfl rfl rfl;have a7:zN true 2 y.cells 0=some (.agg y.cells):=zB rfl ow;have kz:z.cells[0]? =some (.str z.a):=rfl;have ky:y.cells[0]? =some (.str y.a):=rfl;obtain⟨H3,U,V,a4,ai,ad⟩:∃H,u.new u.next (.row y.cells)=H/\H.at' u.next=some (.row y.cells)/\H.at' M=some (.row z.cells)/\Ext g H/\M<H.next:=⟨_,rfl,zK _ _ _,by rw[zH ow];exact f,B.new B.1 _,by rw[zF];omega⟩;rw[U] at L;have v:=cY x sm z.a y.a H3;cases P:nX c z.a y.a with
   |false=>
    rw[P] at v;have w:=W P
    repeat' first|simp only[go_sem, *]|apply bc<;>intro x
    refine zU kr ?_
    repeat' first|simp only[go_sem,zg, *]|apply bc<;>intro x|(refine zA.mono v ?_;rintro r h ⟨hq,rfl⟩)
    subst hq;exact w
   |true=>
    rw[P] at v;have w:Dq c a.ts b.ts=true:=Z (X P)
    repeat' first|simp only[go_sem, *]|apply bc<;>intro x
    refine zU kr ?_
    repeat' first|simp only[go_sem,zg, *]|apply bc<;>intro x|(refine zA.mono v ?_;rintro r h ⟨rfl,rfl⟩)
  ·clear I J l m o f C G q F;rintro T u e2 ⟨I,J,l,m,o,f8,Q,R,S,f,q,B,t⟩;have w:=Y (nS (p:=λy:Trm=>nX c z.a y.a) (λi K _=>t i K K))
   repeat' first|simp only[go_sem, *]|apply bc<;>intro x
   exact w
 ·rintro fr h1 e1 ⟨I,J,l,m,o,A,t⟩;have a3:Dq c a.ts b.ts=false:=nS λi K _=>t i K K;exact au
def Qd (fs:List Fac) (t r:Tri):Bool:=decide ((r.1:Int)<(t.1:Int))|| !((r.2.2:Int)==(t.2.2:Int))|| !(si fs r.2.1==0)||((we fs t.1==we fs r.1)&& !((r.2.1:Int)==(t.2.1:Int)))
def tm (c:Cat) (fs:List Fac) (al:Nat->Option Alt) (t r:Tri):List (List Int):=
 if(!(Qd fs t r)&&Dq c (dY al t.1) (dY al r.1))=true then [[(t.1:Int),(r.1:Int),(t.2.1:Int),(r.2.1:Int),(t.2.2:Int)]] else []
def wl (c:Cat) (fs:List Fac) (al:Nat->Option Alt) (t:Tri):List (List Int):=if(si fs t.2.1==0)=true then(yB fs al).flatMap (tm c fs al t) else []
def aE (c:Cat) (fs:List Fac) (al:Nat->Option Alt) (t r:Tri):(tm c fs al t r).length<=1:=by unfold tm;split<;>simp
def kg (c:Cat) (a:fs.length<=16) (al:Nat->Option Alt) (t:Tri):(wl c fs al t).length<=4096:=by
 unfold wl;split
 ·have h1:=qV (m:=1) (l:=yB fs al) λr _=>aE c fs al t r;have b:=tA (al:=al) a;omega
 ·simp
theorem Dr {M:KM Int} {O:KV} {m1 m2:Nat} (hs:Stt c fs al M O sc m1 m2) (hn:fs.length<=16)
  {ff:FuncId} {Y:List (List Int)->(Nat->Prop)->Heap->Prop} (y:Fnd2 prog 5 ff cap Y) {w:Heap} (hY:Y [] S w) (hH:StH M O m1 m2 w) (n1:¬S m1) (n2:¬S m2):
  zA prog 218 [.iptr sc 0, .fn (.func ff) [] cap] w λ_ h'=>∃S',(∀i,S' i->S i\/w.next<=i)/\But S w h'/\Y ((yB fs al).flatMap (wl c fs al)) S' h':=by
 have o:=hs;obtain⟨⟨ca,cb,ce,cp,x,rfl,X,hx,_⟩,sm,dv,dk,cv,halt⟩:=hs;have ai:=λg=>lW [ca,cb,ce,cp,x, .map m1, .map m2] g;refine xO mix func218 Az rfl rfl ?_;simp only[f218,gJ]
 repeat' first|simp only[go_sem,n9, *]|apply bc<;>intro X|(refine zA.mono (ai _) ?_;rintro r h ⟨hq,rfl⟩)
 subst hq
 rename Heap=>w
 generalize hL:LRec.mk _ _ _ _ _ _ _=L;have dr:L.pending=none:=by rw[<-hL]
 have ds:L.st= .ready:=by rw[<-hL]
 have b5:=y.lcl λk=>yT (yB fs al) (wl c fs al) k;have h4:=tA (al:=al) hn;refine ww (W:=WK m1 (.map (kmD (D.int .i64) M)) m2 (.map (kvD O)) λk=>Y (yT (yB fs al) (wl c fs al) k)) (n:=(yB fs al).length) (el:=elT (yB fs al)) (S:=λj=>j=m1\/j=m2\/S j) rfl (WK.lcl b5) ds dr ?_ (λyl b4=>rq o yl (λk S h ⟨_,_,S0,hk,_⟩=>hk.st) b4) ?_ ?_
 ·exact WK.start hY hH.2.1 hH.2.2 hH.1.1 hH.1.2 n1 n2
 ·intro k S0 h3 hk a9 b6 cf c1;obtain⟨t,ht⟩:∃t,(yB fs al)[k]? =some t:=⟨_,getElem?_eq_getElem hk⟩;have de:(yB fs al).getD k (0,0,0)=t:=by rw[getD_eq_getElem?_getD,ht];rfl
  simp only[elT,de];obtain⟨p1,p2,p3,a,Z⟩:=oP (mem_of_getElem? ht);have s:=b6;rw[<-hL] at s;have U:=X2 t;refine yg.round (g:=bV) mix s rfl kr kr kr ?_;simp only[go_sem,U];refine⟨by rw[zH ow];exact s,?_⟩;generalize hB:LRec.mk .busy _ _ _ _ _ _=B;have bx:({ B with st:= .ready,pending:=none } :LRec)=L:=by rw[<-hB,<-hL]
  obtain⟨S1,H,cl,bs,c7,bo,cu,cg,F,hw⟩:=Lp.open b5 cf a9 c1 (.row (rM t)) B;rw[cl];clear U cl hB;have d1:zN true 3 (rM t) 0=some (.agg (rM t)):=zB rfl ow;have e1:(rM t)[0]? =some (.int .i64 (t.1:Int)):=rfl;have e2:(rM t)[1]? =some (.int .i64 (t.2.1:Int)):=rfl;have e3:(rM t)[2]? =some (.int .i64 (t.2.2:Int)):=rfl;have dt:dY al t.1=a.ts:=by simp[dY,Z]
  have cm:∀j,S1 j->j<h3.next:=λj hj=>y.here _ _ _ hw.1 j hj;have a2:=qd hx p2;have c6:si fs t.2.1=fs[t.2.1].rel:=by simp[si,p2]
  have k3:fs[t.2.1].cells[3]? =some (.int .i64 fs[t.2.1].rel):=rfl;have v:∀ {fr:Frm} {G h7:Heap} {S5:Nat->Prop},G.at' w.next=some (.loop B)->But (λj=>j=w.next) h3 G->(∀j,S5 j->S1 j\/G.next<=j)->But S1 G h7->Y (yT (yB fs al) (wl c fs al) (k+1)) S5 h7->wK (LpK w.next L (WK m1 (.map (kmD (D.int .i64) M)) m2 (.map (kvD O)) λk=>Y (yT (yB fs al) (wl c fs al) k)) k S0 h3) w.next .normal fr h7:=λa1 a2 a3 a4 a5=>Lp.call b5 bx a9 c1 hw a1 a2 a3 a4 a5;rw[wQ ht] at v;refine zU kr ?_;rw[<-c6] at k3;clear c6;cases c5:(si fs t.2.1==0) with
  |false=>
   have hv:wl c fs al t= []:=by unfold wl;rw[c5];rfl
   rw[hv,append_nil] at v;have aj:=λfr=>v (fr:=fr) bo cu (λj hj=> .inl hj) (But.refl S1 H) cg;clear hL bx o hY hH cf s b6 ht ai v
   repeat' first|simp only[go_sem,zg, *]|apply bc<;>intro X
  |true=>
   have hv:wl c fs al t=(yB fs al).flatMap (tm c fs al t):=by unfold wl;rw[c5];rfl
   rw[hv] at v
   repeat' first|simp only[go_sem,zg,n9, *]|apply bc<;>intro X|(refine zA.mono (ai _) ?_;rintro r h ⟨hq,rfl⟩)
   subst hq
   rename Heap=>H
   generalize J:LRec.mk .ready _ _ _ _ _ _=L2;have c3:L2.pending=none:=by rw[<-J]
   have c4:L2.st= .ready:=by rw[<-J]
   have K:=y.lcl λk2=>yT (yB fs al) (wl c fs al) k++yT (yB fs al) (tm c fs al t) k2;have c0:¬S1 m1/\¬S1 m2:=hw.2.2.2.1;obtain⟨l,hl⟩:∃l:List (Nat×Obj),l= [(m1, .map (kmD (D.int .i64) M)),(m2, .map (kvD O)),(h3.next, .row (rM t))]:=⟨_,rfl⟩;have V:∀p∈l,p.1<H.next/\H.at' p.1=some p.2/\¬S1 p.1:=by
    rw[hl];intro p R;simp only[mem_cons,not_mem_nil,or_false] at R;rcases R with rfl|rfl|rfl
    ·exact⟨F.2.1,F.1.1,c0.1⟩
    ·exact⟨F.2.2,F.1.2,c0.2⟩
    ·exact⟨by rw[bs];omega,c7,λe=>lt_irrefl _ (cm _ e)⟩
   have z:∀ {h:Heap},(∀p∈l,p.1<h.next/\h.at' p.1=some p.2)->StH M O m1 m2 h/\h3.next<h.next/\h.at' h3.next=some (.row (rM t)):=by
    rw[hl];intro h R;have q1:=R (m1, .map (kmD (D.int .i64) M)) (by simp);have q2:=R (m2, .map (kvD O)) (by simp);have q3:=R (h3.next, .row (rM t)) (by simp);exact⟨⟨⟨q1.2,q2.2⟩,q1.1,q2.1⟩,q3⟩
   clear hl;refine⟨⟨_,bo⟩,ww (W:=WL l λk2=>Y (yT (yB fs al) (wl c fs al) k++yT (yB fs al) (tm c fs al t) k2)) (n:=(yB fs al).length) (el:=elT (yB fs al)) (S:=λj=>(∃p∈l,j=p.1)\/S1 j) bs (WL.lcl K) c4 c3 ?_ (λyl b4=>rq o yl (λk S h ⟨_,_,S0,hk,_⟩=>(z hk.st).1) b4) ?_ ?_⟩
   ·exact WL.start (by rw[show yT (yB fs al) (tm c fs al t) 0= [] from rfl,append_nil];exact cg) V
   ·intro k2 S3 h5 di ba cw da c2;obtain⟨r,hr⟩:∃r,(yB fs al)[k2]? =some r:=⟨_,getElem?_eq_getElem di⟩;have dd:(yB fs al).getD k2 (0,0,0)=r:=by rw[getD_eq_getElem?_getD,hr];rfl
    obtain⟨r1,r2,r3,b,ad⟩:=oP (mem_of_getElem? hr);simp only[elT,dd];have A:=cw;rw[<-J] at A;have U:=X2 r;refine yg.round (g:=bV) mix A rfl kr kr kr ?_;simp only[go_sem,U];refine⟨by rw[zH ow];exact A,?_⟩;generalize ck:LRec.mk .busy _ _ _ _ _ _=B2;have a6:({ B2 with st:= .ready,pending:=none } :LRec)=L2:=by rw[<-ck,<-J]
    obtain⟨S4,H4,ak,du,b7,au,a7,bb,I,q⟩:=Lp.openL K da ba c2 (.row (rM r)) B2;rw[ak];clear ak ck U;obtain⟨g1,g2,g3⟩:=z (h:=H4) λp R=>⟨by have:=(I p R).1;omega,(I p R).2⟩;have f:∀ {fr:Frm} {G h7:Heap} {S5:Nat->Prop},G.at' (h3.next+1)=some (.loop B2)->But (λj=>j=h3.next+1) h5 G->(∀j,S5 j->S4 j\/G.next<=j)->But S4 G h7->Y (yT (yB fs al) (wl c fs al) k++yT (yB fs al) (tm c fs al t) (k2+1)) S5 h7->wK (LpK (h3.next+1) L2 (WL l λk2=>Y (yT (yB fs al) (wl c fs al) k++yT (yB fs al) (tm c fs al t) k2)) k2 S3 h5) (h3.next+1) .normal fr h7:=λa1 a2 a3 a4 a5=>Lp.callL K a6 ba c2 q a1 a2 a3 a4 a5
    rw[wQ hr] at f;have b1:=qd hx p1;have b2:=qd hx r1;have b3:=qd hx r2;have o1:(rM r)[0]? =some (.int .i64 (r.1:Int)):=rfl;have o2:(rM r)[1]? =some (.int .i64 (r.2.1:Int)):=rfl;have o3:(rM r)[2]? =some (.int .i64 (r.2.2:Int)):=rfl;have w1:we fs t.1=fs[t.1].comp:=by simp[we,p1]
    have w2:we fs r.1=fs[r.1].comp:=by simp[we,r1]
    have w3:si fs r.2.1=fs[r.2.1].rel:=by simp[si,r2]
    have k5:fs[t.1].cells[1]? =some (.str fs[t.1].comp):=rfl;have k6:fs[r.1].cells[1]? =some (.str fs[r.1].comp):=rfl;have k7:fs[r.2.1].cells[3]? =some (.int .i64 fs[r.2.1].rel):=rfl;rw[<-w1] at k5;rw[<-w2] at k6;rw[<-w3] at k7;clear w1 w2 w3;have c9:(yT (yB fs al) (wl c fs al) k++yT (yB fs al) (tm c fs al t) k2).length<16777216:=by
     have q1:(yT (yB fs al) (wl c fs al) k).length<=k*4096:=by
      have:=qV (m:=4096) (l:=(yB fs al).take k) λt _=>kg c hn al t;rw[length_take] at this;exact le_trans this (Nat.mul_le_mul_right _ (Nat.min_le_left _ _))
     have q2:(yT (yB fs al) (tm c fs al t) k2).length<=k2*1:=by
      have:=qV (m:=1) (l:=(yB fs al).take k2) λr _=>aE c fs al t r;rw[length_take] at this;exact le_trans this (Nat.mul_le_mul_right _ (Nat.min_le_left _ _))
     rw[length_append];omega
    have N:=λS h hy=>y.go _ S h [(t.1:Int),(r.1:Int),(t.2.1:Int),(r.2.1:Int),(t.2.2:Int)] .full hy c9 (by simp) (by simp) (by
     intro n hn;simp only[mem_cons,not_mem_nil,or_false] at hn;rcases hn with rfl|rfl|rfl|rfl|rfl<;>exact Qc ow)
    simp only[nil_append,cons_append] at N;have u:=bs5 (t.1:Int) (r.1:Int) (t.2.1:Int) (r.2.1:Int) (t.2.2:Int);have P:=Zy o g1.1.1 p1 false;rw[Z] at P;replace P:yj prog 151 (.map m1) (.int .i64 (t.1:Int)) false H4=some a.d:=P;have Q:=Zy o g1.1.1 r1 false;rw[ad] at Q;replace Q:yj prog 151 (.map m1) (.int .i64 (r.1:Int)) false H4=some b.d:=Q;have c8:dY al r.1=b.ts:=by simp[dY,ad]
    have cs:tm c fs al t r=if(!(Qd fs t r)&&Dq c a.ts b.ts)=true then [[(t.1:Int),(r.1:Int),(t.2.1:Int),(r.2.1:Int),(t.2.2:Int)]] else []:=by unfold tm;rw[dt,c8]
    rw[cs] at f;have ag:=L5 (rest:=[x, .map m1, .map m2]) X sm (o.alt _ _ Z) (o.alt _ _ ad) H4;obtain⟨q1,q2,_⟩:=zI (o.alt _ _ Z).sl;obtain⟨q3,q4,_⟩:=zI (o.alt _ _ ad).sl;have d0:h3.next<h5.next:=ow;clear hL bx J a6 o hY hH cf s b6 ht ai cv dk z V cw A da q I cg F v hv cs c9;generalize h3.next=n3 at *
    generalize h5.next=n5 at *
    refine zM Heap.emp [(0, .no,false),(9, .no,false),(1, .no,false),(2, .no,false),(3, .no,false),(4, .no,false),(5, .no,false),(6, .no,false),(7, .no,false),(8, .no,false),(10, .no,false),(11, .no,false),(12, .no,false),(13, .no,false),(14, .no,false),(15, .no,false),(16, .no,false),(17, .no,false),(18, .no,false),(19, .no,false)] kr kr (λi ob e=>by cases e) ?_
    repeat' first|simp only[go_sem,zg, *]|apply bc<;>intro X
    refine p6 (λC h'=>C 75= .bool (Qd fs t r)/\C 2= .iptr [.iptr [ca,cb,ce,cp,x, .map m1, .map m2] 0] 0/\C 3= .iptr [.fn (.func ff) [] cap] 0/\C 4= .ptr n3 0/\C 5= .ptr n5 0/\h'=H4) ?_ ?_
    ·refine zU kr ?_;unfold Qd;clear f N ag
     repeat' first|simp only[go_sem,zg, *]|apply bc<;>intro X
    rintro C G ⟨ch,f2,f3,f4,f5,rfl⟩;clear b1 b2 b3 k5 k6 k7 a2 k3;cases cc:Qd fs t r with
    |true=>
     rw[cc,iq (by simp),append_nil] at f;rw[cc] at ch;have aj:=λfr=>f (fr:=fr) au a7 (λj hj=> .inl hj) (But.refl S4 G) bb;clear f N ag
     repeat' first|simp only[go_sem, *]|apply bc<;>intro X
    |false=>
     rw[cc] at f ch
     repeat' first|simp only[go_sem, *]|apply bc<;>intro X
     refine zM Heap.emp [(0, .no,false),(1, .no,false),(8, .no,false),(2, .no,false),(3, .no,false),(4, .no,false),(5, .no,false),(6, .no,false),(7, .no,false),(9, .no,false),(10, .no,false),(11, .no,false),(12, .no,false),(13, .no,false),(14, .no,false),(15, .no,false)] kr kr (λi ob e=>by cases e) ?_
     repeat' first|simp only[go_sem,zg, *]|apply bc<;>intro X
     refine ag.mono ?_;rintro r' H5 ⟨E,rfl⟩;have b8:=(E.2 _ g2).trans g3;have b9:=(E.2 _ ow).trans b7;have a8:=a7.ext1 E;have a0:=(E.2 _ ow).trans au;have bk:=y.ext bb E;cases hb:Dq c a.ts b.ts with
     |false=>
      rw[hb,iq (by decide),append_nil] at f;have aj:=λfr=>f (fr:=fr) a0 a8 (λj hj=> .inl hj) (But.refl S4 H5) bk;clear f N ag
      repeat' first|simp only[go_sem, *]|apply bc<;>intro X
     |true=>
      rw[hb,ip (by decide)] at f;simp only[go_sem,f2,f3,f4,f5,b8,b9,e1,e2,e3,o1,o2,o3,u];refine(N _ _ bk).mono ?_;rintro r h7 ⟨S5,T,u,q⟩;rw[append_assoc] at q;exact f a0 a8 T u q
   ·intro S' h5 hs hb q;obtain⟨S5,T,u,db⟩:=WL.stop (λp R=>(V p R).2.1) (λj hj=>by rw[bs];exact hs j hj) hb q;rw[ug] at db;have aj:=λfr=>v (fr:=fr) bo cu T u db;simp only[go_sem];exact aj _
 ·intro S2 h5 hs hb hw;obtain⟨S5,T,u,q⟩:=WK.stop hH.1.1 hH.1.2 hs hb hw;rw[ug] at q;simp only[go_sem];exact⟨S5,T,u,q⟩
def Ds (g:Fac) (h:Heap):zA prog 281 [.agg g.cells] h λr h'=>h'=h/\r= .bool true:=by
 refine xO mix func281 zAO rfl rfl ?_;simp only[f281,gJ];exact au
def Dt (g:Fac) (h:Heap):zA prog 283 [.agg g.cells] h λr h'=>h'=h/\r= .bool true:=by
 refine xO mix func283 zFs rfl rfl ?_;simp only[f283,gJ];exact au
def Du (b:sc[4]? =some x) (c:zd 12 (nz fs) x) {u:Nat} (a:u<fs.length) (g:Fac) (f:h.at' id=some (.row [.int .i64 (u:Int)])):
  zA prog 282 [.agg g.cells, .iptr [.iptr sc 0] 0, .ptr id 0] h λr h'=>h'=h/\r= .bool (g.out==wi fs u):=by
 have k1:fs[u].cells[2]? =some (.str fs[u].out):=rfl;have k2:g.cells[2]? =some (.str g.out):=rfl;have d:=qd c a;have j:wi fs u=fs[u].out:=by simp[wi,a]
 refine xO mix func282 zAj rfl rfl ?_;simp only[f282,gJ];simp only[go_sem, *];refine zM Heap.emp [(2, .no,false),(6, .no,false),(0, .no,false),(1, .no,false),(3, .no,false),(4, .no,false),(5, .no,false),(7, .no,false),(8, .no,false),(9, .no,false),(10, .no,false),(11, .no,false)] kr kr (λi k e=>by cases e) ?_;simp only[go_sem,zg, *]
def RG (fs:List Fac) (i:Nat):List (List UInt8):=match fs[i]? with
 |some f=>f.list
 |none=>[]
abbrev nE (fs:List Fac):List Nat:=fIx 3 (λ_=>true) fs
abbrev df (fs:List Fac):List Nat:=fIx 2 (λ_=>true) fs
def dh (i h:Nat):List (List Int):=[[(i:Int),(h:Int)]]
def rP (fs:List Fac) (O:KV) (i:Nat):List (List Int):=match ua (wi fs i) O with
 |none=>[]
 |some own=>if((RG fs i).any λs=>s==own)=true then [] else(rO fs i).flatMap (dh i)
def dj (b:fs.length<=16) (O:KV) (i:Nat):(rP fs O i).length<=16:=by
 unfold rP;split
 ·simp
 ·split
  ·simp
  ·have h1:=qV (m:=1) (l:=rO fs i) λh _=>(show(dh i h).length<=1 from le_refl _)
   have a:(rO fs i).length<=fs.length:=yz _ fs 0;omega
theorem zB9 {M:KM Int} {O:KV} {m1 m2:Nat} (hs:Stt c fs al M O sc m1 m2) (hn:fs.length<=16)
  {ff:FuncId} {Y:List (List Int)->(Nat->Prop)->Heap->Prop} (y:Fnd2 prog 5 ff cap Y) {w:Heap} (hY:Y [] S w) (hH:StH M O m1 m2 w) (n1:¬S m1) (n2:¬S m2):
  zA prog 219 [.iptr sc 0, .fn (.func ff) [] cap] w λ_ h'=>∃S',(∀i,S' i->S i\/w.next<=i)/\But S w h'/\Y ((nE fs).flatMap (rP fs O)) S' h':=by
 have X:=hs;obtain⟨⟨ca,cb,ce,cp,x,rfl,hc,hx,_⟩,sm,da,c4,c9,halt⟩:=hs;have F:=λg=>ka [ca,cb,ce,cp,x, .map m1, .map m2] 3 (hf:= .fn (.func 281) [] []) ⟨_,_,_,rfl⟩ g;refine xO mix func219 zAJ rfl rfl ?_;simp only[f219,gJ]
 repeat' first|simp only[go_sem,oO, *]|apply bc<;>intro hc|(refine zA.mono (F _) ?_;rintro r h ⟨hq,rfl⟩)
 subst hq
 rename Heap=>w
 generalize hL:LRec.mk _ _ _ _ _ _ _=L;have c5:L.pending=none:=by rw[<-hL]
 have c6:L.st= .ready:=by rw[<-hL]
 have ba:=y.lcl λk=>yT (nE fs) (rP fs O) k;refine ww (W:=WK m1 (.map (kmD (D.int .i64) M)) m2 (.map (kvD O)) λk=>Y (yT (nE fs) (rP fs O) k)) (n:=(nE fs).length) (el:=elI (nE fs)) (S:=λj=>j=m1\/j=m2\/S j) rfl (WK.lcl ba) c6 c5 ?_ (λyl a9=>oz (sc:=[ca,cb,ce,cp,x, .map m1, .map m2]) rfl hx ow X.ok yl (R:=λj=>False) (λ_ h=>h.elim) (λg hg h2 hr=>Ds g h2) a9) ?_ ?_
 ·exact WK.start hY hH.2.1 hH.2.2 hH.1.1 hH.1.2 n1 n2
 ·intro k S0 h3 hk ag bo bs cg;obtain⟨t,ht⟩:∃t,(nE fs)[k]? =some t:=⟨_,getElem?_eq_getElem hk⟩;have c0:(nE fs).getD k 0=t:=by rw[getD_eq_getElem?_getD,ht];rfl
  have p1:t<fs.length:=by
   have:=(uL _ fs 0 t (mem_of_getElem? ht)).2;omega
  simp only[elI,c0];have b:=bo;rw[<-hL] at b;have au:zQ prog 3 (.ptr h3.next 0) (.int .i64 (t:Int)) (h3.new h3.next (.row [.int .i64 0]))=some (h3.new h3.next (.row [.int .i64 (t:Int)])):=by
   rw[zR (zK _ _ _) wW (by simp) rfl rfl,p5];rfl
  refine yg.round (g:=bW) mix b rfl kr kr kr ?_;simp only[go_sem,au];refine⟨by rw[zH ow];exact b,?_⟩;generalize hB:LRec.mk .busy _ _ _ _ _ _=B;have a8:({ B with st:= .ready,pending:=none } :LRec)=L:=by rw[<-hB,<-hL]
  obtain⟨S1,H,b2,a7,P,a6,b8,Z,a0,hw⟩:=Lp.open ba bs ag cg (.row [.int .i64 (t:Int)]) B;rw[b2];clear au b2 hB;have b7:∀j,S1 j->j<h3.next:=λj hj=>y.here _ _ _ hw.1 j hj;have b1:=qd hx p1;have ck:wi fs t=fs[t].out:=by simp[wi,p1]
  have cf:RG fs t=fs[t].list:=by simp[RG,p1]
  have q:∀ {fr:Frm} {G h7:Heap} {S5:Nat->Prop},G.at' w.next=some (.loop B)->But (λj=>j=w.next) h3 G->(∀j,S5 j->S1 j\/G.next<=j)->But S1 G h7->Y (yT (nE fs) (rP fs O) (k+1)) S5 h7->wK (LpK w.next L (WK m1 (.map (kmD (D.int .i64) M)) m2 (.map (kvD O)) λk=>Y (yT (nE fs) (rP fs O) k)) k S0 h3) w.next .normal fr h7:=λa1 a2 a3 a4 a5=>Lp.call ba a8 ag cg hw a1 a2 a3 a4 a5;rw[wQ ht] at q;have k1:fs[t].cells[2]? =some (.str fs[t].out):=rfl;have k2:fs[t].cells[8]? =some (.int .i64 0)\/True:= .inr trivial;have k8:fs[t].cells[11]? =some fs[t].d:=rfl;have bx:=c4 _ (getElem_mem p1);have bb:=pK bx.list bx.ll
  obtain⟨q1,q2,_⟩:=zI bx.list;have u:=Lt a0.1.2 (wi fs t) true;have o:rP fs O t=match ua (wi fs t) O with
   |none=>[]
   |some own=>if(fs[t].list.any λs=>s==own)=true then [] else(rO fs t).flatMap (dh t):=by unfold rP;rw[cf]
  rw[<-ck] at k1;clear ck cf k2;generalize fs[t]=f at *
  refine zM Heap.emp [(0, .no,false),(4, .no,false),(8, .no,false),(1, .no,false),(2, .no,false),(3, .no,false),(5, .no,false),(6, .no,false),(7, .no,false),(9, .no,false),(10, .no,false),(11, .no,false),(12, .no,false),(13, .no,false),(14, .no,false),(15, .no,false),(16, .no,false),(17, .no,false)] kr kr (λi ob e=>by cases e) ?_;have a:rP fs O t= []->∀fr,wK (LpK w.next L (WK m1 (.map (kmD (D.int .i64) M)) m2 (.map (kvD O)) λk=>Y (yT (nE fs) (rP fs O) k)) k S0 h3) w.next .normal fr H:=λe fr=>by
   rw[e,append_nil] at q;exact q a6 b8 (λj hj=> .inl hj) (But.refl S1 H) Z
  cases N:ua (wi fs t) O with
  |none=>
   rw[N] at u o;replace u:yj prog 152 (.map m2) (.str (wi fs t)) true H=some (.tuple [.str [], .bool false]):=u;have bk:=a o;clear hL a8 X hY hH bs b bo ht F q a o N Z a0
   repeat' first|simp only[go_sem,zg, *]|apply bc<;>intro
   refine zM Heap.emp [(0, .no,false),(1, .no,false),(2, .no,false),(3, .no,false),(7, .no,false),(4, .no,false),(5, .no,false),(6, .no,false),(8, .no,false),(9, .no,false),(10, .no,false),(11, .no,false),(12, .no,false),(13, .no,false)] kr kr (λi ob e=>by cases e) ?_
   repeat' first|simp only[go_sem,zg, *]|apply bc<;>intro hc
  |some own=>
   rw[N] at u o;replace u:yj prog 152 (.map m2) (.str (wi fs t)) true H=some (.tuple [.str own, .bool true]):=u;cases J:f.list.any λs=>s==own with
   |true=>
    have bk:=a (by rw[o];simp only[J,if_true]);clear hL a8 X hY hH bs b bo ht F q a o N Z a0;have E:=bb own H;rw[J] at E
    repeat' first|simp only[go_sem,zg, *]|apply bc<;>intro
    refine zM Heap.emp [(0, .no,false),(1, .no,false),(2, .no,false),(3, .no,false),(7, .no,false),(4, .no,false),(5, .no,false),(6, .no,false),(8, .no,false),(9, .no,false),(10, .no,false),(11, .no,false),(12, .no,false),(13, .no,false)] kr kr (λi ob e=>by cases e) ?_
    repeat' first|simp only[go_sem,zg, *]|apply bc<;>intro hc|(refine zA.mono E ?_;rintro r h ⟨hq,rfl⟩)
   |false=>
    have aj:rP fs O t=(rO fs t).flatMap (dh t):=by rw[o];simp only[J,Bool.false_eq_true,if_false]
    rw[aj] at q;have E:=bb own H;rw[J] at E;clear a o aj N bb J;have cw:=λg=>ka [ca,cb,ce,cp,x, .map m1, .map m2] 2 (hf:= .fn (.func 282) [] [.iptr [.iptr [ca,cb,ce,cp,x, .map m1, .map m2] 0] 0, .ptr h3.next 0]) ⟨_,_,_,rfl⟩ g
    repeat' first|simp only[go_sem,zg, *]|apply bc<;>intro
    refine zM Heap.emp [(0, .no,false),(1, .no,false),(2, .no,false),(3, .no,false),(7, .no,false),(4, .no,false),(5, .no,false),(6, .no,false),(8, .no,false),(9, .no,false),(10, .no,false),(11, .no,false),(12, .no,false),(13, .no,false)] kr kr (λi ob e=>by cases e) ?_
    repeat' first|simp only[go_sem,zg, *]|apply bc<;>intro hc|(refine zA.mono E ?_;rintro r h ⟨hq,rfl⟩)
    subst hq
    rename Heap=>H
    repeat' first|simp only[go_sem,oO, *]|apply bc<;>intro hc|(refine zA.mono (cw _) ?_;rintro r h ⟨hq,rfl⟩)
    subst hq
    rename Heap=>H
    generalize U:LRec.mk .ready _ _ _ _ _ _=L2;have cl:L2.pending=none:=by rw[<-U]
    have cm:L2.st= .ready:=by rw[<-U]
    have A:=y.lcl λk2=>yT (nE fs) (rP fs O) k++yT (rO fs t) (dh t) k2;obtain⟨l,hl⟩:∃l:List (Nat×Obj),l= [(h3.next, .row [.int .i64 (t:Int)])]:=⟨_,rfl⟩;have ak:∀p∈l,p.1<H.next/\H.at' p.1=some p.2/\¬S1 p.1:=by
     rw[hl];intro p hp;cases mem_singleton.1 hp;exact⟨by rw[a7];omega,P,λe=>lt_irrefl _ (b7 _ e)⟩
    have I:∀ {h:Heap},(∀p∈l,p.1<h.next/\h.at' p.1=some p.2)->h3.next<h.next/\h.at' h3.next=some (.row [.int .i64 (t:Int)]):=by
     rw[hl];exact λhp=>hp (h3.next, .row [.int .i64 (t:Int)]) (by simp)
    clear hl;refine⟨⟨_,a6⟩,ww (W:=WL l λk2=>Y (yT (nE fs) (rP fs O) k++yT (rO fs t) (dh t) k2)) (n:=(rO fs t).length) (el:=elI (rO fs t)) (S:=λj=>(∃p∈l,j=p.1)\/S1 j) a7 (WL.lcl A) cm cl ?_ (λyl a9=>oz (sc:=[ca,cb,ce,cp,x, .map m1, .map m2]) rfl hx ow X.ok yl (R:=λj=>j=h3.next) ?_ (λg hg h2 hr=> ?_) a9) ?_ ?_⟩
    ·exact WL.start (by rw[show yT (rO fs t) (dh t) 0= [] from rfl,append_nil];exact Z) ak
    ·rintro j rfl;refine⟨by rw[zp _ ow];omega, .inr ?_⟩;rintro k S2 h2 ⟨_,_,S0,hk,_⟩;rw[(I hk.st).2,zH ow,P]
    ·exact(Du (sc:=[ca,cb,ce,cp,x, .map m1, .map m2]) rfl hx p1 g (by rw[hr _ rfl,zH ow,P])).mono λr h3 e=>e
    ·intro k2 S3 h5 c2 ai c3 c8 ch;obtain⟨v,hv⟩:∃v,(rO fs t)[k2]? =some v:=⟨_,getElem?_eq_getElem c2⟩;have c1:(rO fs t).getD k2 0=v:=by rw[getD_eq_getElem?_getD,hv];rfl
     have db:v<fs.length:=by
      have:=(uL _ fs 0 v (mem_of_getElem? hv)).2;omega
     simp only[elI,c1];have K:=c3;rw[<-U] at K;refine yg.round (g:=bW) mix K rfl kr kr kr ?_;simp only[go_sem];refine⟨K,?_⟩;generalize cu:LRec.mk .busy _ _ _ _ _ _=B2;have b6:({ B2 with st:= .ready,pending:=none } :LRec)=L2:=by rw[<-cu,<-U]
     obtain⟨S4,H4,b3,b5,b4,b9,cs,ad,z⟩:=Lp.openL0 A c8 ai ch B2;rw[b3];obtain⟨g2,g3⟩:=I (h:=H4) λp hp=>⟨by rw[b5];exact(ad p hp).1,(ad p hp).2⟩;have c7:(yT (nE fs) (rP fs O) k++yT (rO fs t) (dh t) k2).length<16777216:=by
      have q1:=pZ (V:=rP fs O) (l:=nE fs) (m:=16) (λt _=>dj hn O t) k;have q2:=pZ (V:=dh t) (l:=rO fs t) (m:=1) (λk _=>le_refl _) k2;have q3:(rO fs t).length<=fs.length:=yz _ fs 0;have q4:(nE fs).length<=fs.length:=yz _ fs 0;rw[length_append];omega
     have cc:=y.go _ S4 H4 [(t:Int),(v:Int)] .full cs c7 (by simp) (by simp) (by
      intro n hn;simp only[mem_cons,not_mem_nil,or_false] at hn;rcases hn with rfl|rfl<;>exact Qc ow)
     simp only[nil_append,cons_append] at cc;have cv:=bs2 (t:Int) (v:Int);simp only[go_sem,cv,g3];refine cc.mono ?_;rintro r h7 ⟨S5,Q,C,T⟩;rw[append_assoc] at T;refine Lp.callL A b6 ai ch z b4 b9 Q C ?_;rw[wQ hv];exact T
    ·intro S' h5 hs hb z;obtain⟨S5,Q,C,T⟩:=WL.stop (λp hp=>(ak p hp).2.1) (λj hj=>by rw[a7];exact hs j hj) hb z;rw[ug] at T;have bk:=λfr=>q (fr:=fr) a6 b8 Q C T;simp only[go_sem];exact bk _
 ·intro S2 h5 hs hb hw;obtain⟨S5,Q,C,z⟩:=WK.stop hH.1.1 hH.1.2 hs hb hw;rw[ug] at z;simp only[go_sem];exact⟨S5,Q,C,z⟩
def X4 (h:Nat):List (List Int):=[[(h:Int)]]
def km (c:Cat) (fs:List Fac):List (List Int):=if decide ((c.ls.length:Int)>0)=true then [] else(df fs).flatMap X4
def zCA {M:KM Int} {O:KV} {m1 m2:Nat} (C:Stt c fs al M O sc m1 m2) (hn:fs.length<=16)
  {ff:FuncId} {Y:List (List Int)->(Nat->Prop)->Heap->Prop} (y:Fnd2 prog 5 ff cap Y) {w:Heap} (hY:Y [] S w) (hH:StH M O m1 m2 w) (n1:¬S m1) (n2:¬S m2):
  zA prog 220 [.iptr sc 0, .fn (.func ff) [] cap] w λ_ h'=>∃S',(∀i,S' i->S i\/w.next<=i)/\But S w h'/\Y (km c fs) S' h':=by
 have X:=C;obtain⟨⟨ca,cb,ce,cp,x,rfl,hc,hx,K⟩,sm,au,a4,ak,halt⟩:=C;have a3:=wV K;have d:=λg=>ka [ca,cb,ce,cp,x, .map m1, .map m2] 2 (hf:= .fn (.func 283) [] []) ⟨_,_,_,rfl⟩ g;refine xO mix func220 zAf rfl rfl ?_;simp only[f220,gJ];cases hd:decide ((c.ls.length:Int)>0) with
 |true=>
  have b:km c fs= []:=by unfold km;rw[hd];rfl
  have a2:∃S',(∀i,S' i->S i\/w.next<=i)/\But S w w/\Y (km c fs) S' w:=⟨S,λi hi=> .inl hi,But.refl S w,by rw[b];exact hY⟩;clear b d
  repeat' first|simp only[go_sem,zg, *]|apply bc<;>intro hc
 |false=>
  have b:km c fs=(df fs).flatMap X4:=by unfold km;rw[hd];rfl
  rw[b];clear b
  repeat' first|simp only[go_sem,zg,oO, *]|apply bc<;>intro hc|(refine zA.mono (d _) ?_;rintro r h ⟨hq,rfl⟩)
  subst hq
  rename Heap=>w
  generalize A:LRec.mk _ _ _ _ _ _ _=L;have T:L.pending=none:=by rw[<-A]
  have U:L.st= .ready:=by rw[<-A]
  have o:=y.lcl λk=>yT (df fs) X4 k;obtain⟨l,hl⟩:∃l:List (Nat×Obj),l= []:=⟨_,rfl⟩;have f:∀p∈l,p.1<w.next/\w.at' p.1=some p.2/\¬S p.1:=by rw[hl];intro p Q;cases Q
  clear hl;refine ww (W:=WL l λk=>Y (yT (df fs) X4 k)) (n:=(df fs).length) (el:=elI (df fs)) (S:=λj=>(∃p∈l,j=p.1)\/S j) rfl (WL.lcl o) U T (WL.start hY f) (λyl G=>oz (sc:=[ca,cb,ce,cp,x, .map m1, .map m2]) rfl hx ow X.ok yl (R:=λj=>False) (λ_ h=>h.elim) (λg hg h2 hr=>Dt g h2) G) ?_ ?_
  ·intro k S0 h3 hk e P ag v;obtain⟨t,Z⟩:∃t,(df fs)[k]? =some t:=⟨_,getElem?_eq_getElem hk⟩;have N:(df fs).getD k 0=t:=by rw[getD_eq_getElem?_getD,Z];rfl
   have p1:t<fs.length:=by
    have:=(uL _ fs 0 t (mem_of_getElem? Z)).2;omega
   simp only[elI,N];have a:=P;rw[<-A] at a;refine yg.round (g:=Y4) mix a rfl kr kr kr ?_;simp only[go_sem];refine⟨a,?_⟩;generalize hB:LRec.mk .busy _ _ _ _ _ _=B;have F:({ B with st:= .ready,pending:=none } :LRec)=L:=by rw[<-hB,<-A]
   obtain⟨S1,H,D,a1,E,J,aj,a0,hw⟩:=Lp.openL0 o ag e v B;rw[D];have ad:(yT (df fs) X4 k).length<16777216:=by
    have q2:=pZ (V:=X4) (l:=df fs) (m:=1) (λk _=>le_refl _) k;have q3:(df fs).length<=fs.length:=yz _ fs 0;omega
   have u:=y.go _ S1 H [(t:Int)] .full aj ad (by simp) (by simp) (by
    intro n hn;cases mem_singleton.1 hn;exact Qc ow)
   simp only[nil_append,cons_append] at u;have I:=bs1 (t:Int);simp only[go_sem,I];refine u.mono ?_;rintro r h7 ⟨S5,s,q,ai⟩;refine Lp.callL o F e v hw E J s q ?_;rw[wQ Z];exact ai
  ·intro S2 h5 C hb hw;obtain⟨S5,s,q,z⟩:=WL.stop (λp Q=>(f p Q).2.1) C hb hw;rw[ug] at z;simp only[go_sem];exact⟨S5,s,q,z⟩
end Go.V
