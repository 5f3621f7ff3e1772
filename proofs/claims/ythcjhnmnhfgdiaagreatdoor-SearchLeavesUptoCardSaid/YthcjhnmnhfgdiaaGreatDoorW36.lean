/- Rules of the machine of abstract values, part 12. No condition. -/
import Derived.Test.YthcjhnmnhfgdiaaGreatDoorW35
set_option linter.all false
set_option maxHeartbeats 8000000
namespace Go.V
abbrev KM (κ:Type):=List (κ×D)
def kmD {κ:Type} (enc:κ->D) (m:KM κ):List (D×D):=m.map λp=>(enc p.1,p.2)
def ox {κ:Type} [BEq κ] (k:κ):KM κ->Option D
 | []=>none
 |(k',v)::m=>if k==k' then some v else ox k m
def lH {κ:Type} [BEq κ] (k:κ) (v:D):KM κ->KM κ
 | []=>[(k,v)]
 |(k',v')::m=>if k==k' then(k,v)::m else(k',v')::lH k v m
structure KEnc {κ:Type} [BEq κ] (enc:κ->D) (ag:Bool) (ks:List Kd):Prop where
 eq:∀a b,eqK ks (enc a).cells (enc b).cells=some (a==b)
 shape:∀a,zV ag (enc a)=true
section
variable {κ:Type} [BEq κ] {enc:κ->D} {ag:Bool} {ks:List Kd} (E:KEnc enc ag ks)
include E
theorem Zc (k:κ):∀m:KM κ,sy ks (enc k) (kmD enc m)=some (ox k m)
 | []=>rfl
 |(k',v)::m=>by
  have a:=Zc k m;show(match eqK ks (enc k).cells (enc k').cells with|some true=>some (some v)|some false=>sy ks (enc k) (kmD enc m)|none=>none)=_
  rw[E.eq];cases h:(k==k') with
  |true=>simp[ox,h]
  |false=>simp only[ox,h,a];rfl
theorem Mr (k:κ) (v:D):∀m:KM κ,Va ks (enc k) v (kmD enc m)=some (kmD enc (lH k v m))
 | []=>rfl
 |(k',b)::m=>by
  have a:=Mr k v m;show(match eqK ks (enc k).cells (enc k').cells with|some true=>some ((enc k,v)::kmD enc m)|some false=>(Va ks (enc k) v (kmD enc m)).map ((enc k',b):: ·)|none=>none)=_
  rw[E.eq];cases h:(k==k') with
  |true=>simp[lH,h,kmD]
  |false=>simp only[lH,h,a];rfl
def XU (m:KM κ):(kmD enc m).all (λx=>zV ag x.1)=true:=by
 rw[List.all_eq_true];intro x a;obtain⟨p,_,rfl⟩:=List.mem_map.1 a;exact E.shape _
omit E in
theorem XV [LawfulBEq κ] (k k':κ) (v:D):∀m:KM κ,ox k (lH k' v m)=if k==k' then some v else ox k m
 | []=>by simp[lH,ox]
 |(k2,c)::m=>by
  have b:=XV k k' v m;simp only[lH];by_cases h:k'=k2
  ·subst h;simp only[beq_self_eq_true,if_true,ox];by_cases g:k=k'
   ·subst g;simp
   ·simp[g]
  ·have a:(k'==k2)=false:=by simp[h]
   simp only[a,Bool.false_eq_true,if_false,ox,b];by_cases g:k=k2
   ·subst g
    have:(k==k')=false:=by simp;exact λe=>h e.symm
    simp[this]
   ·simp[g]
variable {P:Program} {t kt e:TypeId} {z:D} {id:Nat} {h:Heap} {m:KM κ}
def Rp (a:h.at' id=some (.map (kmD enc m))) (c:Vb P t=some (kt,e)) (b:Vc P kt=some (ag,ks)) (d:qK P e=some z) (k:κ) (hr:(k==k)=true) (ok:Bool):
  yi P t (.map id) (enc k) ok h=some (o5 ok z (ox k m)):=by
 simp only[yi,c,b,d,de,a,pd,XU E,E.eq,E.shape,Zc E,Option.isSome_some,Bool.and_self,if_true]
def Zd (a:h.at' id=some (.map (kmD enc m))) (c:Vb P t=some (kt,e)) (b:Vc P kt=some (ag,ks)) (k:κ) (v:D):
  yV P t (.map id) (enc k) v h=some (h.set id (.map (kmD enc (lH k v m)))):=by
 simp only[yV,c,b,a,XU E,E.eq,E.shape,Zc E,Mr E,Option.isSome_some,Bool.and_self,if_true]
end
def zAy:KEnc (λi:Int=>D.int .i64 i) false [.i]:=
 ⟨λa b=>by show(if IntKind.i64=IntKind.i64 then(eqK [] [] []).map (a==b&& ·) else none)=_;simp[eqK],λ_=>rfl⟩
structure Fnd2 (P:Program) (mx:Nat) (f:FuncId) (cap:List D) (Y:List (List Int)->(Nat->Prop)->Heap->Prop):Prop where
 here:∀ks S h,Y ks S h->∀i,S i->i<h.next
 loc:∀ks S h h',Y ks S h->h.next<=h'.next->(∀i,S i->h'.at' i=h.at' i)->Y ks S h'
 go:∀ks S h l tk,Y ks S h->ks.length<16777216->0<l.length->l.length<=mx->(∀n∈l,fits .i64 n)->zA P f ([]++ [.sl 1 (qG l) tk]++cap) h λ_ h'=>∃S',(∀i,S' i->S i\/h.next<=i)/\But S h h'/\Y (ks++ [l]) S' h'
variable {P:Program}{f:FuncId}{cap sc:List D}{S:Nat->Prop}{h h' h0 g:Heap}{t:TypeId}{fr:Frm}{c:Cat}{fs:List Fac}{al:Nat->Option Alt}{i id k:Nat}{x d:D}{α β:Type}{N:Int}
def Fnd2.lcl {mx:Nat} {Y:List (List Int)->(Nat->Prop)->Heap->Prop} (y:Fnd2 P mx f cap Y) (els:Nat->List (List Int)):Lcl λk=>Y (els k):=
 ⟨λk=>y.here (els k),λk=>y.loc (els k)⟩
def Fnd2.ext {mx:Nat} {Y:List (List Int)->(Nat->Prop)->Heap->Prop} (y:Fnd2 P mx f cap Y) {ks:List (List Int)} (b:Y ks S h) (a:Ext h h'):Y ks S h':=
 y.loc ks S h h' b a.1 λi c=>a.2 i (y.here ks S h b i c)
section
variable {W:Nat->(Nat->Prop)->Heap->Prop} {id m1 m2 k:Nat} {o1 o2:Obj} {L B:LRec} {h3 H h5:Heap} {S0 S1 S5:Nat->Prop} {fr:Frm}
def Lcl.round (d:Lcl W) (g:W k S1 h3) (b:∀i,S1 i->S0 i) (c:¬S0 id) (a:But (λi=>i=id) h3 H):W k S1 H:=
 d.loc _ _ _ _ g a.1 λi f=>a.2 i (d.here _ _ _ g i f) λe=>c (by rw[<-e];exact b i f)
def Lp.call (v:Lcl W) (m:({ B with st:= .ready,pending:=none } :LRec)=L) (h:id<h3.next) (d:¬S0 id) (n:W k S1 h3/\(m1<h3.next/\m2<h3.next)/\(h3.at' m1=some o1/\h3.at' m2=some o2)/\(¬S1 m1/\¬S1 m2)/\∀i,S0 i↔(i=m1\/i=m2\/S1 i))
  (l:H.at' id=some (.loop B)) (c:But (λi=>i=id) h3 H) (f:∀j,S5 j->S1 j\/H.next<=j) (b:But S1 H h5) (x:W (k+1) S5 h5):
  wh (LpK id L (WK m1 o1 m2 o2 W) k S0 h3) id .normal fr h5:=by
 obtain⟨_,⟨C,D⟩,⟨t,u⟩,⟨r,s⟩,a⟩:=n;have w:=c.1;have o:=b.1;have y:m1≠id:=λe=>d (by rw[<-e];exact(a _).2 (.inl rfl));have z:m2≠id:=λe=>d (by rw[<-e];exact(a _).2 (.inr (.inl rfl)));have A:¬S1 id:=λe=>d ((a _).2 (.inr (.inr e)));refine Lp.fin (WK.lcl v) m h d (S':=λi=>i=m1\/i=m2\/S5 i) ?_ (λi g=> ?_) ⟨by omega,λi g p=> ?_⟩ ⟨S5,x,⟨by omega,by omega⟩,⟨?_,?_⟩,⟨λe=> ?_,λe=> ?_⟩,λi=>Iff.rfl⟩
 ·rw[b.2 _ ow A];exact l
 ·rcases g with rfl|rfl|g
  ·exact .inl ((a _).2 (.inl rfl))
  ·exact .inl ((a _).2 (.inr (.inl rfl)))
  ·exact(f i g).imp (λq=>(a _).2 (.inr (.inr q))) λq=>by omega
 ·rw[b.2 i ow λe=>p (.inr ((a _).2 (.inr (.inr e)))),c.2 i g λe=>p (.inl e)]
 ·rw[b.2 _ ow r,c.2 _ C y];exact t
 ·rw[b.2 _ ow s,c.2 _ D z];exact u
 ·rcases f _ e with q|q
  ·exact r q
  ·omega
 ·rcases f _ e with q|q
  ·exact s q
  ·omega
def Lp.open (m:Lcl W) (f:WK m1 o1 m2 o2 W k S0 h3) (hid:id<h3.next) (b:¬S0 id) (o:Obj) (B:LRec):
  ∃S1 H,(h3.new h3.next o).set id (.loop B)=H/\H.next=h3.next+1/\H.at' h3.next=some o/\H.at' id=some (.loop B)/\But (λj=>j=id) h3 H/\W k S1 H/\((H.at' m1=some o1/\H.at' m2=some o2)/\(m1<H.next/\m2<H.next))/\
   (W k S1 h3/\(m1<h3.next/\m2<h3.next)/\(h3.at' m1=some o1/\h3.at' m2=some o2)/\(¬S1 m1/\¬S1 m2)/\∀i,S0 i↔(i=m1\/i=m2\/S1 i)):=by
 obtain⟨S1,g,⟨h,l⟩,⟨e1,e2⟩,⟨s,t⟩,a⟩:=f;have q:m1≠id:=λe=>b (by rw[<-e];exact(a _).2 (.inl rfl));have r:m2≠id:=λe=>b (by rw[<-e];exact(a _).2 (.inr (.inl rfl)));have d:((h3.new h3.next o).set id (.loop B)).next=h3.next+1:=by rw[zT,zF]
 have c:But (λj=>j=id) h3 ((h3.new h3.next o).set id (.loop B)):=⟨by omega,λj u p=>by rw[zE p,zG ow]⟩;exact⟨S1,_,rfl,d,by rw[zE ow,zK],zC _ _ _,c,Lcl.round m g (λi n=>(a _).2 (.inr (.inr n))) b c,⟨⟨by rw[c.2 _ h q];exact e1,by rw[c.2 _ l r];exact e2⟩,by omega,by omega⟩,g,⟨h,l⟩,⟨e1,e2⟩,⟨s,t⟩,a⟩
def But.ext1 {a b c:Heap} (d:But S a b) (e:Ext b c):But S a c:=d.trans (e.but S) λi f=> .inl f
def Heap.low (H:Heap):∃h0,HLe h0 H/\(∀o,HLe h0 (H.new H.next o))/\∀i,i<H.next->h0.at' i=H.at' i:=
 ⟨⟨H.next,λi=>if i=H.next then none else H.at' i⟩,λi b e=>by
   simp only at e;split at e
   ·cases e
   ·exact e,λo i b e=>by
   simp only at e;split at e
   ·cases e
   ·rename_i a;rw[zG a];exact e,λi a=>by
   simp only;rw[iq ow]⟩
end
def zAz (P:Program) (h0:Heap) (t:TypeId) (m k:D) (ok:Bool) (K:D->Prop):Prop:=∃d,(∀h',HLe h0 h'->onS (yi P t m k ok h') λd'=>d'=d/\h'=h')/\K d
@[congr] theorem CQ {m m' k k':D} {ok:Bool} {K:D->Prop} (hf:m=m') (ha:k=k'):zAz P h0 t m k ok K=zAz P h0 t m' k' ok K:=by rw[hf,ha]
variable {fr:Frm}{id k:Nat}
@[go_sem ↓] theorem Ju (t:TypeId) (a b:Operand) (ok:Bool) (K:D->Prop):fL P h0 (.lookup t a b ok) (yC fr) K=zAz P h0 t (yC fr a) (yC fr b) ok K:=by
 unfold fL zAz KJ;simp only[go_sem]
def Ms {m k:D} {ok:Bool} {K:D->Prop} (d:D) (c:yi P t m k ok h0=some d) (b:K d):zAz P h0 t m k ok K:=
 ⟨d,λh' a=>by rw[cq a c];exact⟨rfl,rfl⟩,b⟩
open Go.Proofs.Tryz
open Go.Proofs
set_option maxRecDepth 100000
structure Stt (c:Cat) (fs:List Fac) (al:Nat->Option Alt) (M:KM Int) (O:KV) (sc:List D) (m1 m2:Nat):Prop where
 sc:∃a b e p x,sc= [a,b,e,p,x, .map m1, .map m2]/\yt c (.agg [a,b,e,p])/\zZ 12 (nb fs) x/\zZ 4 (pH c.ls) a
 sm:c.Sm
 len:fs.length<=256
 ok:∀f∈fs,f.Ok
 get:∀i,i<fs.length->ox (i:Int) M=(al i).map Alt.d
 alt:∀i a,al i=some a->a.Ok
def StH (M:KM Int) (O:KV) (m1 m2:Nat) (h:Heap):Prop:=
 (h.at' m1=some (.map (kmD (D.int .i64) M))/\h.at' m2=some (.map (kvD O)))/\(m1<h.next/\m2<h.next)
def StH.ext {M:KM Int} {O:KV} {m1 m2:Nat} (s:StH M O m1 m2 h) (e:Ext h h'):StH M O m1 m2 h':=by
 obtain⟨⟨a,b⟩,c,d⟩:=s;have:=e.1;exact⟨⟨by rw[e.2 _ c];exact a,by rw[e.2 _ d];exact b⟩,by omega,by omega⟩
def Ze {M:KM Int} {O:KV} {m1 m2:Nat} (e:Stt c fs al M O sc m1 m2) (a:h.at' m1=some (.map (kmD (D.int .i64) M))) (b:i<fs.length) (ok:Bool):
  yi prog 151 (.map m1) (.int .i64 (i:Int)) ok h=some (o5 ok .nilsl ((al i).map Alt.d)):=by
 rw[<-e.get i b];exact Rp zAy a V5 Iq pv (i:Int) (by simp) ok
def Mt {O:KV} {m2:Nat} (a:h.at' m2=some (.map (kvD O))) (s:List UInt8) (ok:Bool):
  yi prog 152 (.map m2) (.str s) ok h=some (o5 ok (.str []) ((kC s O).map .str)):=
 RT a V6 YQ nR s ok
abbrev Tri:=Nat×Nat×Nat
def wY (fs:List Fac) (i:Nat):List UInt8:=match fs[i]? with
 |some f=>f.comp
 |none=>[]
def we (fs:List Fac) (i:Nat):List UInt8:=match fs[i]? with
 |some f=>f.out
 |none=>[]
def Rq (fs:List Fac) (i u:Nat):List Tri:=(fIx 2 (λg=>g.out==we fs u) fs).map λh=>(i,u,h)
def Rr (fs:List Fac) (al:Nat->Option Alt) (i:Nat):List Tri:=if(al i).isSome=true then(fIx 0 (λg=>g.comp==wY fs i) fs).flatMap (Rq fs i) else []
def yA (fs:List Fac) (al:Nat->Option Alt):List Tri:=(List.range fs.length).flatMap (Rr fs al)
def rJ (t:Tri):List D:=[.int .i64 (t.1:Int), .int .i64 (t.2.1:Int), .int .i64 (t.2.2:Int)]
abbrev elT (l:List Tri) (k:Nat):List D:=[.agg (rJ (l.getD k (0,0,0)))]
def ng (sc:List D):D:= .fn (.func 339) [] [.iptr [.iptr sc 0] 0]
def lI (sc:List D) (h:Heap):zA prog 274 [.iptr sc 0] h λr h'=>h'=h/\r=ng sc:=by
 refine xO mix func274 B0 rfl rfl ?_;simp only[f274,gJ];simp only[go_sem,ng]
def zA0 (f g:Fac) (a:h.at' id=some (.row f.cells)):zA prog 340 [.agg g.cells, .ptr id 0] h λr h'=>h'=h/\r= .bool (g.comp==f.comp):=by
 have k1:f.cells[1]? =some (.str f.comp):=rfl;have k2:g.cells[1]? =some (.str g.comp):=rfl;refine xO mix func340 A3 rfl rfl ?_;simp only[f340,gJ];exact au
def zA1 (b:sc[4]? =some x) (c:zZ 12 (nb fs) x) {u:Nat} (a:u<fs.length) (g:Fac) (f:h.at' id=some (.row [.int .i64 (u:Int)])):
  zA prog 341 [.agg g.cells, .iptr [.iptr sc 0] 0, .ptr id 0] h λr h'=>h'=h/\r= .bool (g.out==we fs u):=by
 have k1:fs[u].cells[2]? =some (.str fs[u].out):=rfl;have k2:g.cells[2]? =some (.str g.out):=rfl;have d:=qZ c a;have j:we fs u=fs[u].out:=by simp[we,a]
 refine xO mix func341 zAL rfl rfl ?_;simp only[f341,gJ];simp only[go_sem, *];refine zO Heap.emp [(2, .no,false),(6, .no,false),(0, .no,false),(1, .no,false),(3, .no,false),(4, .no,false),(5, .no,false),(7, .no,false),(8, .no,false),(9, .no,false),(10, .no,false),(11, .no,false)] kr kr (λi k e=>by cases e) ?_;simp only[go_sem,ze, *]
def WL (l:List (Nat×Obj)) (W:Nat->(Nat->Prop)->Heap->Prop) (k:Nat) (S:Nat->Prop) (h:Heap):Prop:=
 ∃S1,W k S1 h/\(∀p∈l,p.1<h.next/\h.at' p.1=some p.2/\¬S1 p.1)/\∀i,S i↔((∃p∈l,i=p.1)\/S1 i)
section
variable {l:List (Nat×Obj)} {W:Nat->(Nat->Prop)->Heap->Prop} {id k:Nat} {L B:LRec} {h h3 H h5:Heap} {S S0 S1 S5 S':Nat->Prop} {fr:Frm}
def WL.lcl (f:Lcl W):Lcl (WL l W):=by
 refine⟨λk S h y i e=> ?_,λk S h h' y n g=> ?_⟩
 ·obtain⟨S1,c,d,a⟩:=y;rcases(a i).1 e with⟨p,b,rfl⟩ |q
  ·exact(d p b).1
  ·exact f.here _ _ _ c i q
 ·obtain⟨S1,c,d,a⟩:=y;refine⟨S1,f.loc _ _ _ _ c n λi e=>g i ((a i).2 (.inr e)),λp b=> ?_,a⟩;obtain⟨o,j,m⟩:=d p b;exact⟨by omega,by rw[g p.1 ((a _).2 (.inl ⟨p,b,rfl⟩))];exact j,m⟩
def WL.start (a:W k S h) (h1:∀p∈l,p.1<h.next/\h.at' p.1=some p.2/\¬S p.1):WL l W k (λi=>(∃p∈l,i=p.1)\/S i) h:=
 ⟨S,a,h1,λ_=>Iff.rfl⟩
def WL.stop (h1:∀p∈l,h.at' p.1=some p.2) (m:∀i,S' i->((∃p∈l,i=p.1)\/S i)\/h.next<=i) (d:But (λi=>(∃p∈l,i=p.1)\/S i) h h') (n:WL l W k S' h'):
  ∃S1,(∀i,S1 i->S i\/h.next<=i)/\But S h h'/\W k S1 h':=by
 obtain⟨S1,f,c,g⟩:=n;refine⟨S1,λi a=> ?_,⟨d.1,λi a j=> ?_⟩,f⟩
 ·rcases m i ((g i).2 (.inr a)) with(⟨p,b,rfl⟩ |q)|q
  ·exact absurd a (c p b).2.2
  ·exact .inl q
  ·exact .inr q
 ·by_cases q:∃p∈l,i=p.1
  ·obtain⟨p,b,rfl⟩:=q;rw[(c p b).2.1,h1 p b]
  ·exact d.2 i a λe=>e.elim q j
def WL.st (c:WL l W k S h):∀p∈l,p.1<h.next/\h.at' p.1=some p.2:=by
 obtain⟨S1,_,b,_⟩:=c;exact λp a=>⟨(b p a).1,(b p a).2.1⟩
def Lp.callL (y:Lcl W) (o:({ B with st:= .ready,pending:=none } :LRec)=L) (m:id<h3.next) (d:¬S0 id) (r:W k S1 h3/\(∀p∈l,p.1<h3.next/\h3.at' p.1=some p.2/\¬S1 p.1)/\∀i,S0 i↔((∃p∈l,i=p.1)\/S1 i))
  (n:H.at' id=some (.loop B)) (c:But (λi=>i=id) h3 H) (g:∀j,S5 j->S1 j\/H.next<=j) (b:But S1 H h5) (A:W (k+1) S5 h5):
  wh (LpK id L (WL l W) k S0 h3) id .normal fr h5:=by
 obtain⟨_,v,a⟩:=r;have z:=c.1;have t:=b.1;have D:¬S1 id:=λe=>d ((a _).2 (.inr e));refine Lp.fin (WL.lcl y) o m d (S':=λi=>(∃p∈l,i=p.1)\/S5 i) ?_ (λi f=> ?_) ⟨by omega,λi f u=> ?_⟩ ⟨S5,A,λp h=> ?_,λi=>Iff.rfl⟩
 ·rw[b.2 _ ow D];exact n
 ·rcases f with⟨p,h,rfl⟩ |f
  ·exact .inl ((a _).2 (.inl ⟨p,h,rfl⟩))
  ·exact(g i f).imp (λq=>(a _).2 (.inr q)) λq=>by omega
 ·rw[b.2 i ow λe=>u (.inr ((a _).2 (.inr e))),c.2 i f λe=>u (.inl e)]
 ·obtain⟨w,x,s⟩:=v p h;have C:p.1≠id:=λe=>d (by rw[<-e];exact(a _).2 (.inl ⟨p,h,rfl⟩));refine⟨by omega,by rw[b.2 _ ow s,c.2 _ w C];exact x,λe=> ?_⟩;rcases g _ e with q|q
  ·exact s q
  ·omega
def Lp.openL (r:Lcl W) (f:WL l W k S0 h3) (hid:id<h3.next) (b:¬S0 id) (o:Obj) (B:LRec):
  ∃S1 H,(h3.new h3.next o).set id (.loop B)=H/\H.next=h3.next+1/\H.at' h3.next=some o/\H.at' id=some (.loop B)/\But (λj=>j=id) h3 H/\W k S1 H/\(∀p∈l,p.1<h3.next/\H.at' p.1=some p.2)/\
   (W k S1 h3/\(∀p∈l,p.1<h3.next/\h3.at' p.1=some p.2/\¬S1 p.1)/\∀i,S0 i↔((∃p∈l,i=p.1)\/S1 i)):=by
 obtain⟨S1,g,h,a⟩:=f;have d:((h3.new h3.next o).set id (.loop B)).next=h3.next+1:=by rw[zT,zF]
 have c:But (λj=>j=id) h3 ((h3.new h3.next o).set id (.loop B)):=⟨by omega,λj v t=>by rw[zE t,zG ow]⟩;refine⟨S1,_,rfl,d,by rw[zE ow,zK],zC _ _ _,c,Lcl.round r g (λi s=>(a _).2 (.inr s)) b c,λp n=> ?_,g,h,a⟩;obtain⟨m,q,u⟩:=h p n;exact⟨m,by rw[c.2 _ m λe=>b (by rw[<-e];exact(a _).2 (.inl ⟨p,n,rfl⟩))];exact q⟩
def Lp.openL0 (q:Lcl W) (f:WL l W k S0 h3) (hid:id<h3.next) (b:¬S0 id) (B:LRec):
  ∃S1 H,h3.set id (.loop B)=H/\H.next=h3.next/\H.at' id=some (.loop B)/\But (λj=>j=id) h3 H/\W k S1 H/\(∀p∈l,p.1<h3.next/\H.at' p.1=some p.2)/\
   (W k S1 h3/\(∀p∈l,p.1<h3.next/\h3.at' p.1=some p.2/\¬S1 p.1)/\∀i,S0 i↔((∃p∈l,i=p.1)\/S1 i)):=by
 obtain⟨S1,g,h,a⟩:=f;have d:(h3.set id (.loop B)).next=h3.next:=zT _ _ _;have c:But (λj=>j=id) h3 (h3.set id (.loop B)):=⟨by omega,λj u s=>zE s⟩;refine⟨S1,_,rfl,d,zC _ _ _,c,Lcl.round q g (λi r=>(a _).2 (.inr r)) b c,λp n=> ?_,g,h,a⟩;obtain⟨m,o,t⟩:=h p n;exact⟨m,by rw[c.2 _ m λe=>b (by rw[<-e];exact(a _).2 (.inl ⟨p,n,rfl⟩))];exact o⟩
end
def VG {l:List α} {f:α->List β} {a b:Nat} {x:α} (h:l[a]? =some x) (c:b<(f x).length):(l.flatMap f)[pY l f a+b]? =(f x)[b]? :=by
 obtain⟨h1,rfl⟩:=List.getElem?_eq_some_iff.1 h;rw[GB h1 c,List.getElem?_eq_getElem c]
def pP {l:List α} {f:α->List β} {a:Nat} {x:α} (h:l[a]? =some x):pY l f (a+1)=pY l f a+(f x).length:=by
 obtain⟨h1,rfl⟩:=List.getElem?_eq_some_iff.1 h;exact Rf h1
def GI {l:List α} {f:α->List β} {a b:Nat} {x:α} (h:l[a]? =some x) (c:b<(f x).length):pY l f a+b<(l.flatMap f).length:=by
 obtain⟨h1,rfl⟩:=List.getElem?_eq_some_iff.1 h;exact zFR h1 c
theorem qo {f:α->List β} {m:Nat} :∀ {l:List α},(∀x∈l,(f x).length<=m)->(l.flatMap f).length<=l.length*m
 | [],_=>by simp
 |x::l,h=>by
  have:=qo (f:=f) (l:=l) λy a=>h y (List.mem_cons_of_mem _ a);have b:=h x (by simp);rw[List.flatMap_cons,List.length_append,List.length_cons,Nat.succ_mul];omega
abbrev Jv (fs:List Fac) (i:Nat):List Nat:=fIx 0 (λg=>g.comp==wY fs i) fs
abbrev rK (fs:List Fac) (u:Nat):List Nat:=fIx 2 (λg=>g.out==we fs u) fs
abbrev j0 (fs:List Fac) (al:Nat->Option Alt) (i:Nat):Nat:=pY (List.range fs.length) (Rr fs al) i
abbrev Zf (fs:List Fac) (i k:Nat):Nat:=pY (Jv fs i) (Rq fs i) k
section
variable {fs:List Fac} {al:Nat->Option Alt} {i k k2 u v:Nat}
def Em (b:i<fs.length) (a:(al i).isSome=false):j0 fs al (i+1)=j0 fs al i:=by
 unfold j0;rw[pP (x:=i) (by simp[b])];simp[Rr,a]
def Jw (b:i<fs.length) (a:(al i).isSome=true):j0 fs al (i+1)=j0 fs al i+Zf fs i (Jv fs i).length:=by
 unfold j0 Zf;rw[pP (x:=i) (by simp[b]),fo];simp[Rr,a]
def Mu (a:(Jv fs i)[k]? =some u):Zf fs i (k+1)=Zf fs i k+(rK fs u).length:=by
 unfold Zf;rw[pP a];simp[Rq]
def Jx (j:i<fs.length) (h:(al i).isSome=true) (e:(Jv fs i)[k]? =some u) (b:(rK fs u)[k2]? =some v):
  j0 fs al i+(Zf fs i k+k2)<(yA fs al).length/\(yA fs al)[j0 fs al i+(Zf fs i k+k2)]? =some (i,u,v):=by
 obtain⟨l,_⟩:=List.getElem?_eq_some_iff.1 b;have d:k2<(Rq fs i u).length:=by unfold Rq;rw[List.length_map];exact l
 have a:=GI (f:=Rq fs i) e d;have c:Rr fs al i=(Jv fs i).flatMap (Rq fs i):=by unfold Rr;rw[ip h]
 rw[<-c] at a;have hr:(List.range fs.length)[i]? =some i:=by simp[j]
 refine⟨GI (f:=Rr fs al) hr a,?_⟩;have h1:=VG (f:=Rr fs al) hr a;rw[c] at h1;have g:=VG (f:=Rq fs i) e d;show((List.range fs.length).flatMap (Rr fs al))[_]? =_;rw[h1,g];unfold Rq;rw[List.getElem?_map,b];rfl
end
variable {fs:List Fac}{al:Nat->Option Alt}{id i k:Nat}{S:Nat->Prop}{h:Heap}{fr:Frm}
theorem re {M:KM Int} {O:KV} {m1 m2:Nat} (hs:Stt c fs al M O sc m1 m2) {Y:Nat->(Nat->Prop)->Heap->Prop} (y:Yld prog id (yA fs al).length (elT (yA fs al)) Y λ_ _=>False) (hH:∀k S h,Y k S h->StH M O m1 m2 h) {w:Heap} (hY:Y 0 S w):
  zA prog 339 [.yld id, .iptr [.iptr sc 0] 0] w λ_ h'=>∃S',(∀j,S' j->S j\/w.next<=j)/\But S w h'/\Y (yA fs al).length S' h':=by
 have X:=hs;obtain⟨⟨ca,cb,ce,cp,x,rfl,hc,hx,_⟩,sm,d5,cs,cf,halt⟩:=hs;have dd:=uR hx;refine xO mix func339 Al rfl rfl ?_;simp only[f339,gJ]
 repeat' first|simp only[go_sem,ze, *]|apply bc<;>intro
 refine zD (λi fr h'=>fr 1= .iptr [.iptr [ca,cb,ce,cp,x, .map m1, .map m2] 0] 0/\fr 2= .iptr [.yld id] 0/\fr 12=x/\fr 13= .int .i64 (fs.length:Int)/\fr 14= .int .i64 (i:Int)/\∃S',(∀j,S' j->S j\/w.next<=j)/\But S w h'/\Y (j0 fs al i) S' h') fs.length ow ?_ ?_ ?_
 ·have a2:∃S',(∀j,S' j->S j\/w.next<=j)/\But S w w/\Y (j0 fs al 0) S' w:=⟨S,λj l=> .inl l,But.refl S w,hY⟩;simp only[go_sem,true_and,and_true,Int.ofNat_zero];exact a2
 ·rintro i fr h1 s e1 ew ⟨f1,f2,c1,c2,c3,S',hS,z,I⟩;have a1:=qZ hx s;have hm:fs[i]∈fs:=List.getElem_mem s;have hw:zM true 12 fs[i].cells 0=some (.agg fs[i].cells):=zB rfl ow;have a2:=Y5 (cs _ hm);have cc:wY fs i=fs[i].comp:=by simp[wY,s]
  generalize fs[i]=f at *
  clear cf halt cs;have cw:∀o2,zP prog 3 (.ptr h1.next 0) (.int .i64 (i:Int)) ((h1.new h1.next (.row [.int .i64 0])).new (h1.next+1) o2)=some ((h1.new h1.next (.row [.int .i64 (i:Int)])).new (h1.next+1) o2):=λo2=>by
   have:=Ws (P:=prog) (t:=3) (H:=h1) (c:= .int .i64 0) (x:= .int .i64 (i:Int)) (o2:=o2) wc rfl rfl;simpa only[zF] using this
  repeat' first|simp only[go_sem,zF, *]|apply bc<;>intro
  obtain⟨G,hG,ba,g1,g2,hE⟩:∃G:Heap,(h1.new h1.next (.row [.int .i64 (i:Int)])).new (h1.next+1) (.row f.cells)=G/\G.next=h1.next+2/\G.at' h1.next=some (.row [.int .i64 (i:Int)])/\G.at' (h1.next+1)=some (.row f.cells)/\Ext h1 G:=
   ⟨_,rfl,zo _ (by rw[zF];exact Nat.le_refl _) _,by rw[zG ow,zK],zK _ _ _,((Ext.refl h1).new (Nat.le_refl _) _).new ow _⟩
  rw[hG];clear hG a2 cw dd;have A:=y.ext I hE;have T:=hH _ _ _ A;have p:=Ze X T.1.1 s true;have b:But S w G:=z.trans (hE.but S) λi hi=> .inl hi;refine zO Heap.emp [(0, .no,false),(4, .no,false),(1, .no,false),(2, .no,false),(3, .no,false),(5, .no,false),(6, .no,false),(7, .no,false),(8, .no,false),(9, .no,false),(10, .no,false)] kr kr (λi ob e=>by cases e) ?_;cases o:al i with
  |none=>
   rw[o] at p;replace p:yi prog 151 (.map m1) (.int .i64 (i:Int)) true G=some (.tuple [.nilsl, .bool false]):=p;have m:∃S',(∀j,S' j->S j\/w.next<=j)/\But S w G/\Y (j0 fs al (i+1)) S' G:=⟨S',hS,b,by rw[Em s (by rw[o];rfl)];exact A⟩;clear A T b hE hS z I o
   repeat' first|simp only[go_sem,ze, *]|apply bc<;>intro hc
  |some a=>
   rw[o] at p;replace p:yi prog 151 (.map m1) (.int .i64 (i:Int)) true G=some (.tuple [a.d, .bool true]):=p;obtain⟨q1,q2,_⟩:=zJ (X.alt i a o).sl;have K:=λg=>kJ [ca,cb,ce,cp,x, .map m1, .map m2] 0 (hf:= .fn (.func 340) [] [.ptr (h1.next+1) 0]) ⟨_,_,_,rfl⟩ g
   repeat' first|simp only[go_sem,ze,oK, *]|apply bc<;>intro hc|(refine zA.mono (K _) ?_;rintro r h ⟨hq,rfl⟩)
   subst hq;generalize hL:LRec.mk _ _ _ _ _ _ _=L;have di:L.pending=none:=by rw[<-hL]
   have dk:L.st= .ready:=by rw[<-hL]
   have b9:Lcl λk=>Y (j0 fs al i+Zf fs i k):=⟨λk=>y.here _,λk=>y.loc _⟩;have F:∀j,S' j->j<h1.next:=λj l=>y.here _ _ _ I j l;refine uS (W:=WK h1.next (.row [.int .i64 (i:Int)]) (h1.next+1) (.row f.cells) λk=>Y (j0 fs al i+Zf fs i k)) (n:=(Jv fs i).length) (el:=elI (Jv fs i)) (S:=λj=>j=h1.next\/j=h1.next+1\/S' j) ba (WK.lcl b9) dk di ?_ (λyl ak=>oe (sc:=[ca,cb,ce,cp,x, .map m1, .map m2]) rfl hx ow X.ok yl (R:=λj=>j=h1.next+1) ?_ (λg hg h2 hr=> ?_) ak) ?_ ?_
   ·exact WK.start (by rw[show Zf fs i 0=0 from bT _ _];exact A) ow ow g1 g2 (λe=>Nat.lt_irrefl _ (F _ e)) (λe=>by have:=F _ e;omega)
   ·rintro j rfl;refine⟨by rw[zo _ ow];omega, .inr ?_⟩;rintro k S2 h2 ⟨_,_,S0,hk,_⟩;rw[hk.st.1.2,zG ow,g2]
   ·exact(zA0 f g (by rw[hr _ rfl,zG ow,g2])).mono λr h3 e=>by rw[cc];exact e
   ·intro k S0 h3 hk ch da dt a0;obtain⟨u,hu⟩:∃u,(Jv fs i)[k]? =some u:=⟨_,List.getElem?_eq_getElem hk⟩;have dr:u<fs.length:=by
     have:=(uG _ fs 0 u (List.mem_of_getElem? hu)).2;omega
    have c7:(Jv fs i).getD k 0=u:=by rw[List.getD_eq_getElem?_getD,hu];rfl
    simp only[elI,c7];obtain⟨S1,V,⟨d0,d1⟩,⟨a6,c0⟩,⟨n1,n2⟩,ai⟩:=dt;have N:=da;rw[<-hL] at N;have ag:zP prog 3 (.ptr h3.next 0) (.int .i64 (u:Int)) (h3.new h3.next (.row [.int .i64 0]))=some (h3.new h3.next (.row [.int .i64 (u:Int)])):=by
     rw[zS (zK _ _ _) wc (by simp) rfl rfl,nU];rfl
    clear p q1 q2 a1 hw hm K cc hS z I hE A T b;refine yo.round (g:=bE) mix N rfl kr kr kr ?_;simp only[go_sem,f1,f2,ag];refine⟨by rw[zG ow];exact N,?_⟩;generalize hB:LRec.mk .busy _ _ _ _ _ _=B;have c4:({ B with st:= .ready,pending:=none } :LRec)=L:=by rw[<-hB,<-hL]
    obtain⟨H,bk,bo,b1,b3,b4,b8,c5⟩:∃H:Heap,(h3.new h3.next (.row [.int .i64 (u:Int)])).set (h1.next+2) (.loop B)=H/\H.next=h3.next+1/\H.at' h1.next=some (.row [.int .i64 (i:Int)])/\H.at' h3.next=some (.row [.int .i64 (u:Int)])/\H.at' (h1.next+2)=some (.loop B)/\Y (j0 fs al i+Zf fs i k) S1 H/\But (λj=>j=h1.next+2) h3 H:=by
     refine⟨_,rfl,by rw[zT,zF],by rw[zE ow,zG ow];exact a6,by rw[zE ow,zK],zC _ _ _,?_,⟨by rw[zT,zF];omega,λj l hn=>by rw[zE hn,zG ow]⟩⟩;have hb:=λj l=>y.here _ _ _ V j l;refine y.loc _ _ _ _ V (by rw[zT,zF];omega) λj l=> ?_;have:=hb j l;rw[zE (λe=>a0 (by rw[<-e];exact(ai _).2 (.inr (.inr l)))),zG ow]
    rw[bk];clear ag bk hB;have K:=λg=>kJ [ca,cb,ce,cp,x, .map m1, .map m2] 2 (hf:= .fn (.func 341) [] [.iptr [.iptr [ca,cb,ce,cp,x, .map m1, .map m2] 0] 0, .ptr h3.next 0]) ⟨_,_,_,rfl⟩ g;refine(K _).mono ?_;rintro r H2 ⟨hq,rfl⟩;subst hq
    repeat' first|simp only[go_sem,oK, *]|apply bc<;>intro
    generalize U:LRec.mk .ready _ _ _ _ _ _=L2;have cu:L2.pending=none:=by rw[<-U]
    have cv:L2.st= .ready:=by rw[<-U]
    have J:Lcl λk2=>Y (j0 fs al i+(Zf fs i k+k2)):=⟨λk=>y.here _,λk=>y.loc _⟩;have b2:∀j,S1 j->j<h3.next:=λj l=>y.here _ _ _ V j l;have d4:¬S1 (h1.next+2):=λe=>a0 ((ai _).2 (.inr (.inr e)));refine⟨⟨_,b4⟩,uS (W:=WK h1.next (.row [.int .i64 (i:Int)]) h3.next (.row [.int .i64 (u:Int)]) λk2=>Y (j0 fs al i+(Zf fs i k+k2))) (n:=(rK fs u).length) (el:=elI (rK fs u)) (S:=λj=>j=h1.next\/j=h3.next\/S1 j) bo (WK.lcl J) cv cu ?_ (λyl ak=>oe (sc:=[ca,cb,ce,cp,x, .map m1, .map m2]) rfl hx ow X.ok yl (R:=λj=>j=h3.next) ?_ (λg hg h2 hr=> ?_) ak) ?_ ?_⟩
    ·exact WK.start b8 ow ow b1 b3 n1 (λe=>Nat.lt_irrefl _ (b2 _ e))
    ·rintro j rfl;refine⟨by rw[zo _ ow];omega, .inr ?_⟩;rintro k S2 h2 ⟨_,_,S0,hk,_⟩;rw[hk.st.1.2,zG ow,b3]
    ·exact(zA1 (sc:=[ca,cb,ce,cp,x, .map m1, .map m2]) rfl hx dr g (by rw[hr _ rfl,zG ow,b3])).mono λr h3 e=>e
    ·intro k2 S3 h4 c9 cl db du cm;obtain⟨v,hv⟩:∃v,(rK fs u)[k2]? =some v:=⟨_,List.getElem?_eq_getElem c9⟩;have c8:(rK fs u).getD k2 0=v:=by rw[List.getD_eq_getElem?_getD,hv];rfl
     simp only[elI,c8];obtain⟨S4,b7,⟨d2,d3⟩,⟨a7,a8⟩,⟨n3,n4⟩,b6⟩:=du;have Q:=db;rw[<-U] at Q;obtain⟨tl,te⟩:=Jx (al:=al) s (by rw[o];rfl) hu hv;have c6:(yA fs al).getD (j0 fs al i+(Zf fs i k+k2)) (0,0,0)=(i,u,v):=by rw[List.getD_eq_getElem?_getD,te];rfl
     have cg:=λS h=>y.go (j0 fs al i+(Zf fs i k+k2)) S h tl;simp only[elT,c6,rJ] at cg;have ds:zt prog 328 [(0, .int .i64 (i:Int)),(1, .int .i64 (u:Int)),(2, .int .i64 (v:Int))]=some (.agg [.int .i64 (i:Int), .int .i64 (u:Int), .int .i64 (v:Int)]):=by simp[zt,Wa,Q8,qB,yU,D.notTuple,D.cells]
     refine yo.round (g:=bE) mix Q rfl kr kr kr ?_;simp only[go_sem];refine⟨Q,?_⟩;generalize a9:LRec.mk .busy _ _ _ _ _ _=B2;have bs:({ B2 with st:= .ready,pending:=none } :LRec)=L2:=by rw[<-a9,<-U]
     have i1:h1.next≠h3.next+1:=ow;have i2:h3.next≠h3.next+1:=ow;obtain⟨H4,bb,a3,a4,a5,ad⟩:∃H4:Heap,h4.set (h3.next+1) (.loop B2)=H4/\H4.at' h1.next=some (.row [.int .i64 (i:Int)])/\H4.at' h3.next=some (.row [.int .i64 (u:Int)])/\H4.at' (h3.next+1)=some (.loop B2)/\But (λj=>j=h3.next+1) h4 H4:=
      ⟨_,rfl,by rw[zE i1];exact a7,by rw[zE i2];exact a8,zC _ _ _,by rw[zT];exact Nat.le_refl _,λj _ l=>zE l⟩
     rw[bb];clear a9 bb;simp only[go_sem,ds,a3,a4,f2];refine(cg _ _ (J.round b7 (λj l=>(b6 _).2 (.inr (.inr l))) cm ad)).mono ?_;rintro r h5 ⟨S5,E,C,⟨rfl,hr⟩ | ⟨rfl,hr⟩⟩
     ·have m:∀fr,wh (LpK (h3.next+1) L2 (WK h1.next (.row [.int .i64 (i:Int)]) h3.next (.row [.int .i64 (u:Int)]) λk2=>Y (j0 fs al i+(Zf fs i k+k2))) k2 S3 h4) (h3.next+1) .normal fr h5:=λfr=>Lp.call J bs cl cm ⟨b7,⟨d2,d3⟩,⟨a7,a8⟩,⟨n3,n4⟩,b6⟩ a5 ad E C hr;simp only[go_sem,vun];exact m _
     ·exact hr.elim
    ·intro S' h5 hs hb hw;obtain⟨S5,E,C,Z⟩:=WK.stop b1 b3 (λj l=>by rw[bo];exact hs j l) hb hw;rw[<-Nat.add_zero (Zf fs i k)] at b8;have dv:Y (j0 fs al i+Zf fs i (k+1)) S5 h5:=by rw[Mu hu];exact Z
     have m:∀fr,wh (LpK (h1.next+2) L (WK h1.next (.row [.int .i64 (i:Int)]) (h1.next+1) (.row f.cells) λk=>Y (j0 fs al i+Zf fs i k)) k S0 h3) (h1.next+2) .normal fr h5:=λfr=>Lp.call b9 c4 ch a0 ⟨V,⟨d0,d1⟩,⟨a6,c0⟩,⟨n1,n2⟩,ai⟩ b4 c5 E C dv;simp only[go_sem];exact m _
   ·intro S2 h5 hs hb hw;obtain⟨S5,E,C,Z⟩:=WK.stop g1 g2 (λj l=>by rw[ba];exact hs j l) hb hw;have m:∃S',(∀j,S' j->S j\/w.next<=j)/\But S w h5/\Y (j0 fs al (i+1)) S' h5:=⟨S5,λj l=>by
     rcases E j l with q|q
     ·exact hS j q
     ·exact .inr (by have:=b.1;omega),b.trans C hS,by rw[Jw s (by rw[o];rfl)];exact Z⟩
    clear p A T b hE hS z I o hs hb hw E C Z K hL;exact au
 ·rintro fr h2 e1 ⟨f1,f2,c1,c2,c3,S',bx,b5,F⟩;have m:∃S',(∀j,S' j->S j\/w.next<=j)/\But S w h2/\Y (yA fs al).length S' h2:=⟨S',bx,b5,by rw[show(yA fs al).length=j0 fs al fs.length from(by unfold j0 yA;rw[<-fo,List.length_range])];exact F⟩
  clear bx b5 F;exact au
def nh (fs:List Fac) (i:Nat):Int:=match fs[i]? with
 |some f=>f.way
 |none=>0
def se (fs:List Fac) (i:Nat):Int:=match fs[i]? with
 |some f=>f.rel
 |none=>0
def Mv (duty:Int) (q:List (List UInt8)->Bool) (l:Cla):Bool:=l.duty==duty&&q l.list
def zA2 (c:Cat) (way rel duty:Int) (q:List (List UInt8)->Bool) (z:Trm):Bool:=(pK c z.a z.b way rel).any (Mv duty q)
def VH (c:Cat) (ts:List Trm) (way rel duty:Int) (q:List (List UInt8)->Bool):Bool:=ts.any (zA2 c way rel duty q)
theorem Mw {q:List (List UInt8)->Bool} :∀ {a b:List Cla},a.map Cla.key=b.map Cla.key->a.any (Mv N q)=b.any (Mv N q)
 | [],[],_=>rfl
 | [],_::_,h=>by cases h
 |_::_,[],h=>by cases h
 |x::a,y::b,h=>by
  simp only[List.map_cons,List.cons.injEq,Cla.key,Prod.mk.injEq] at h;obtain⟨⟨_,_,_,h1,c⟩,h3⟩:=h;rw[List.any_cons,List.any_cons,Mw h3,Mv,Mv,h1,c]
def zA3 (y:Cla) (h:Heap):zA prog 276 [.agg y.cells] h λr h'=>h'=h/\r= .bool true:=by
 refine xO mix func276 zEI rfl rfl ?_;simp only[f276,gJ];exact au
theorem En {M:KM Int} {O:KV} {m1 m2:Nat} (hs:Stt c fs al M O sc m1 m2) {t:Tri} (t1:t.1<fs.length) (t2:t.2.1<fs.length) (t3:t.2.2<fs.length) {a:Alt} (Y:al t.1=some a) (l:Int) {q:List (List UInt8)->Bool} {R:Nat->Prop} (hH:StH M O m1 m2 g) (hR:∀i,R i->i<g.next) (hq:∀y:Cla,y.Fine->∀m:Heap,(∀i,R i->m.at' i=g.at' i)->zA prog f ([]++ [.agg y.cells]++cap) m λr h3=>h3=m/\r= .bool (q y.list)):
  zA prog 275 [.iptr sc 0, .agg (rJ t), .int .i64 l, .fn (.func f) [] cap] g λr h'=>Ext g h'/\r= .bool (VH c a.ts (nh fs t.2.2) (se fs t.2.1) l q):=by
 have S:=Ze hs hH.1.1 t1 false;rw[Y] at S;replace S:yi prog 151 (.map m1) (.int .i64 (t.1:Int)) false g=some a.d:=S;have I:=hs.alt _ _ Y;have w1:nh fs t.2.2=fs[t.2.2].way:=by simp[nh,t3]
 have w2:se fs t.2.1=fs[t.2.1].rel:=by simp[se,t2]
 rw[w1,w2];obtain⟨⟨ca,cb,ce,cp,x,rfl,D,hx,_⟩,sm,cf,cm,cc,halt⟩:=hs;have a2:=qZ hx t2;have a3:=qZ hx t3;have k2:fs[t.2.1].cells[3]? =some (.int .i64 fs[t.2.1].rel):=rfl;have k3:fs[t.2.2].cells[4]? =some (.int .i64 fs[t.2.2].way):=rfl;generalize fs[t.2.1]=F at *
 generalize fs[t.2.2]=G at *
 have cu:=yr I.sl;have b8:=I.len;obtain⟨q1,q2,_⟩:=zJ I.sl;have hE:Ext g g:=Ext.refl g;obtain⟨ak,a0,a4⟩:=t;simp only[rJ] at *
 refine xO mix func275 AK rfl rfl ?_;simp only[f275,gJ]
 repeat' first|simp only[go_sem, *]|apply bc<;>intro D
 refine zO Heap.emp [(0, .no,false),(1, .no,false),(2, .no,false),(3, .no,false),(4, .no,false),(5, .no,false),(6, .no,false),(7, .no,false),(8, .no,false)] kr kr (λi ob e=>by cases e) ?_
 repeat' first|simp only[go_sem,ze, *]|apply bc<;>intro D
 refine zD (λi fr h'=>fr 0= .iptr [ca,cb,ce,cp,x, .map m1, .map m2] 0/\fr 2= .int .i64 l/\fr 3= .fn (.func f) [] cap/\fr 5= .iptr [.int .i64 (ak:Int), .int .i64 (a0:Int), .int .i64 (a4:Int)] 0/\fr 19=a.d/\fr 20= .int .i64 (a.ts.length:Int)/\fr 21= .int .i64 (i:Int)/\Ext g h'/\∀j (E:j<a.ts.length),j<i->zA2 c G.way F.rel l q a.ts[j]=false) a.ts.length ow ?_ ?_ ?_
 ·simp only[go_sem,true_and,and_true,Int.ofNat_zero];exact⟨hE,λj E h0=>by omega⟩
 ·rintro i fr h1 T e1 ew ⟨W,u,A,X,s,v,w,L,E⟩;have a1:=uT I.sl T;have V:zA2 c G.way F.rel l q a.ts[i]=(pK c a.ts[i].a a.ts[i].b G.way F.rel).any (Mv l q):=rfl;have b7:=λe=>fS (p:=zA2 c G.way F.rel l q) T e;have b6:=λe=>qM (p:=zA2 c G.way F.rel l q) T E e;generalize a.ts[i]=z at *
  have c0:zP prog 130 (.ptr h1.next 0) (.agg z.cells) (h1.new h1.next (.row [.str [], .str []]))=some (h1.new h1.next (.row z.cells)):=zg yv ow rfl rfl rfl;have bx:=λg=>ML D sm z.a z.b G.way F.rel g;have b4:zM true 2 z.cells 0=some (.agg z.cells):=zB rfl ow;have ch:zM true 2 z.cells 0=some (.agg [.str z.a, .str z.b]):=b4;have a9:∀o,Ext g (h1.new h1.next o):=λo=>L.new L.1 o
  repeat' first|simp only[go_sem, *]|apply bc<;>intro D
  obtain⟨H,bo,cg,bb⟩:∃H,h1.new h1.next (.row z.cells)=H/\H.at' h1.next=some (.row z.cells)/\Ext g H:=⟨_,rfl,zK _ _ _,a9 _⟩;rw[bo];have c1:zM true 4 [ca,cb,ce,cp,x, .map m1, .map m2] 0=some (.agg [ca,cb,ce,cp]):=by simp[zM]
  refine zO Heap.emp [(4, .no,false),(0, .no,false),(1, .no,false),(2, .no,false),(3, .no,false),(5, .no,false),(6, .no,false),(7, .no,false),(8, .no,false),(9, .no,false),(10, .no,false),(11, .no,false),(12, .no,false),(13, .no,false),(14, .no,false),(15, .no,false),(16, .no,false),(17, .no,false),(18, .no,false),(19, .no,false),(20, .no,false),(21, .no,false),(22, .no,false),(25, .no,false),(23, .no,false),(24, .no,false)] kr kr (λi ob e=>by cases e) ?_
  repeat' first|simp only[go_sem,ze, *]|apply bc<;>intro D
  refine(bx _).mono ?_;rintro r H2 ⟨b2,cs,Z,P,K⟩;subst b2;rw[<-Mw K] at V;have cv:=pI Z;have b9:cs.length<=1048576:=by
   have:=congrArg List.length K;simp only[List.length_map] at this;have m:(pK c z.a z.b G.way F.rel).length<=c.cs.length:=by
    unfold pK;split
    ·simp
    ·exact List.length_filter_le _ _
   have:=sm.cs.1;omega
  repeat' first|simp only[go_sem, *]|apply bc<;>intro D
  refine zD (λj fr h'=>fr 0= .iptr [ca,cb,ce,cp,x, .map m1, .map m2] 0/\fr 2= .int .i64 l/\fr 3= .fn (.func f) [] cap/\fr 5= .iptr [.int .i64 (ak:Int), .int .i64 (a0:Int), .int .i64 (a4:Int)] 0/\fr 19=a.d/\fr 20= .int .i64 (a.ts.length:Int)/\fr 21= .int .i64 (i:Int)/\fr 48=r/\fr 49= .int .i64 (cs.length:Int)/\fr 50= .int .i64 (j:Int)/\Ext g h'/\∀k (hk:k<cs.length),k<j->Mv l q cs[k]=false) cs.length ow ?_ ?_ ?_
  ·simp only[go_sem,true_and,and_true,Int.ofNat_zero];exact⟨W,u,A,X,s,v,w,bb,λj E h0=>by omega⟩
  ·clear W u A X s v w;rintro j a8 m n e2 cl ⟨W,u,A,X,s,v,w,a5,a6,a7,N,E⟩;have b1:=p6 Z n;have ag:=P _ (List.getElem_mem n);have b5:=λe=>fS (p:=Mv l q) n e;have ai:=λe=>qM (p:=Mv l q) n E e;have U:Mv l q cs[j]=(cs[j].duty==l&&q cs[j].list):=rfl;generalize cs[j]=y at *
   have ad:zP prog 117 (.ptr m.next 0) (.agg y.cells) (m.new m.next (.row [.str [], .int .i64 0, .int .i64 0, .int .i64 0, .nilsl]))=some (m.new m.next (.row y.cells)):=zg pu ow rfl rfl (by show(true&&(true&&(true&&(true&&(y.d.flat&&true)))))=true;rw[rG ag.1.isSl];rfl);have c2:zM true 5 y.cells 0=some (.agg y.cells):=zB rfl ow;have ky:y.cells[3]? =some (.int .i64 y.duty):=rfl;have bk:Ext g (m.new m.next (.row y.cells)):=N.new N.1 _;obtain⟨H3,bs,b3,ba⟩:∃H,m.new m.next (.row y.cells)=H/\H.at' m.next=some (.row y.cells)/\Ext g H:=⟨_,rfl,zK _ _ _,bk⟩;rw[bs] at ad
   have C:=hq y ag H3 λi Q=>ba.2 i (hR i Q);simp only[List.nil_append,List.cons_append] at C;cases hd:(y.duty==l) with
   |false=>
    have B:=ai (by rw[U,hd];rfl)
    repeat' first|simp only[go_sem, *]|apply bc<;>intro D
    exact B
   |true=>
    cases J:q y.list with
    |false=>
     rw[J] at C;have B:=ai (by rw[U,hd,J];rfl)
     repeat' first|simp only[go_sem, *]|apply bc<;>intro D|(refine zA.mono C ?_;rintro r h ⟨rfl,rfl⟩)
     exact B
    |true=>
     rw[J] at C;have B:VH c a.ts G.way F.rel l q=true:=b7 (by rw[V];exact b5 (by rw[U,hd,J];rfl))
     repeat' first|simp only[go_sem, *]|apply bc<;>intro D|(refine zA.mono C ?_;rintro r h ⟨rfl,rfl⟩)
  ·clear W u A X s v w;rintro a8 m e2 ⟨W,u,A,X,s,v,w,a5,a6,a7,N,E⟩;have B:=b6 (by rw[V];exact nF (p:=Mv l q) (λi Q _=>E i Q Q))
   repeat' first|simp only[go_sem, *]|apply bc<;>intro D
   exact B
 ·rintro fr h1 e1 ⟨W,u,A,X,s,v,w,L,E⟩;have cw:VH c a.ts G.way F.rel l q=false:=nF λi Q _=>E i Q Q;exact au
open List hiding max min map and or get le lt range extract
open Nat(zero_le le_refl le_trans lt_irrefl le_of_lt lt_of_lt_of_le lt_of_le_of_lt lt_succ_iff_lt_or_eq le_of_lt_succ)
def bs3 (a b c:Int) (nid:Nat) (h:Heap):zI prog false nid 45 3 [(0, .int .i64 a),(1, .int .i64 b),(2, .int .i64 c)] h=some (.sl 1 (qG [a,b,c]) .full,h):=by
 simp[zI,yJ,uN,wc,D.notTuple,D.cells,si,qB,yU,yH,qG]
def bs2 (a b:Int) (nid:Nat) (h:Heap):zI prog false nid 45 2 [(0, .int .i64 a),(1, .int .i64 b)] h=some (.sl 1 (qG [a,b]) .full,h):=by
 simp[zI,yJ,uN,wc,D.notTuple,D.cells,si,qB,yU,yH,qG]
def bs4 (a b c d:Int) (nid:Nat) (h:Heap):zI prog false nid 45 4 [(0, .int .i64 a),(1, .int .i64 b),(2, .int .i64 c),(3, .int .i64 d)] h=some (.sl 1 (qG [a,b,c,d]) .full,h):=by
 simp[zI,yJ,uN,wc,D.notTuple,D.cells,si,qB,yU,yH,qG]
def bs5 (a b c d e:Int) (nid:Nat) (h:Heap):zI prog false nid 45 5 [(0, .int .i64 a),(1, .int .i64 b),(2, .int .i64 c),(3, .int .i64 d),(4, .int .i64 e)] h=some (.sl 1 (qG [a,b,c,d,e]) .full,h):=by
 simp[zI,yJ,uN,wc,D.notTuple,D.cells,si,qB,yU,yH,qG]
def bs1 (a:Int) (nid:Nat) (h:Heap):zI prog false nid 45 1 [(0, .int .i64 a)] h=some (.sl 1 (qG [a]) .full,h):=by
 simp[zI,yJ,uN,wc,D.notTuple,D.cells,si,qB,yU,yH,qG]
def oL {t:Tri} (h:t∈yA fs al):t.1<fs.length/\t.2.1<fs.length/\t.2.2<fs.length/\∃a,al t.1=some a:=by
 unfold yA at h;obtain⟨i,e,b⟩:=mem_flatMap.1 h;unfold Rr at b;split at b
 ·rename_i d;obtain⟨u,f,b⟩:=mem_flatMap.1 b;unfold Rq at b;obtain⟨v,g,rfl⟩:=mem_map.1 b;have h1:=(uG _ fs 0 u f).2;have c:=(uG _ fs 0 v g).2;exact⟨mem_range.1 e,by simpa using h1,by simpa using c,Option.isSome_iff_exists.1 d⟩
 ·cases b
def Mx (fs:List Fac) (al:Nat->Option Alt):(yA fs al).length<=fs.length*(fs.length*fs.length):=by
 unfold yA;refine le_trans (qo (m:=fs.length*fs.length) λi _=> ?_) (by rw[length_range];exact le_refl _);unfold Rr;split
 ·refine le_trans (qo (m:=fs.length) λu _=> ?_) (Nat.mul_le_mul_right _ (qT _ fs 0));unfold Rq;rw[length_map];exact qT _ fs 0
 ·simp
def sF (h:fs.length<=16):(yA fs al).length<=4096:=
 le_trans (Mx fs al) (le_trans (Nat.mul_le_mul h (Nat.mul_le_mul h h)) (by decide))
def yS {α:Type} (l:List α) (V:α->List (List Int)) (k:Nat):List (List Int):=(l.take k).flatMap V
def wL {l:List α} {V:α->List (List Int)} {x:α} (h:l[k]? =some x):yS l V (k+1)=yS l V k++V x:=by
 obtain⟨h1,rfl⟩:=List.getElem?_eq_some_iff.1 h;unfold yS;rw[take_succ_eq_append_getElem h1,flatMap_append,flatMap_cons,flatMap_nil,append_nil]
def uW (l:List α) (V:α->List (List Int)):yS l V l.length=l.flatMap V:=by unfold yS;rw[take_length]
def pQ {l:List α} {V:α->List (List Int)} {m:Nat} (h:∀x∈l,(V x).length<=m) (k:Nat):(yS l V k).length<=l.length*m:=
 le_trans (qo λx a=>h x (mem_of_mem_take a)) (Nat.mul_le_mul_right _ (by rw[length_take];omega))
def XW (t:Tri) (h:Heap) (id:Nat):zP prog 328 (.ptr id 0) (.agg (rJ t)) (h.new id (.row [.int .i64 0, .int .i64 0, .int .i64 0]))=some (h.new id (.row (rJ t))):=zg FP ow rfl rfl rfl
def bh (al:Nat->Option Alt) (i:Nat):List Trm:=match al i with
 |some a=>a.ts
 |none=>[]
def wZ (c:Cat) (fs:List Fac) (al:Nat->Option Alt) (t:Tri):List (List Int):=
 if VH c (bh al t.1) (nh fs t.2.2) (se fs t.2.1) 5 (λ_=>true)=true then [[(t.1:Int),(t.2.1:Int),(t.2.2:Int)]] else []
def Rs (h:i<1048576):fits .i64 (i:Int):=zd ow ow
theorem Jy {M:KM Int} {O:KV} {m1 m2:Nat} (Z:Stt c fs al M O sc m1 m2) (X:fs.length<=16)
  {ff:FuncId} {Y:List (List Int)->(Nat->Prop)->Heap->Prop} (y:Fnd2 prog 5 ff cap Y) {w:Heap} (hY:Y [] S w) (I:StH M O m1 m2 w) (n1:¬S m1) (n2:¬S m2):
  zA prog 215 [.iptr sc 0, .fn (.func ff) [] cap] w λ_ h'=>∃S',(∀i,S' i->S i\/w.next<=i)/\But S w h'/\Y ((yA fs al).flatMap (wZ c fs al)) S' h':=by
 have Q:=Z;obtain⟨⟨ca,cb,ce,cp,x,rfl,hc,hx,_⟩,sm,bs,b1,bo,halt⟩:=Z;have a2:=λg=>lI [ca,cb,ce,cp,x, .map m1, .map m2] g;refine xO mix func215 Ay rfl rfl ?_;simp only[f215,gJ]
 repeat' first|simp only[go_sem,ng, *]|apply bc<;>intro hc|(refine zA.mono (a2 _) ?_;rintro r h ⟨hq,rfl⟩)
 subst hq;generalize T:LRec.mk _ _ _ _ _ _ _=L;have a5:L.pending=none:=by rw[<-T]
 have a6:L.st= .ready:=by rw[<-T]
 have s:=y.lcl λk=>yS (yA fs al) (wZ c fs al) k;have h4:=sF (al:=al) X;refine uS (W:=WK m1 (.map (kmD (D.int .i64) M)) m2 (.map (kvD O)) λk=>Y (yS (yA fs al) (wZ c fs al) k)) (n:=(yA fs al).length) (el:=elT (yA fs al)) (S:=λj=>j=m1\/j=m2\/S j) rfl (WK.lcl s) a6 a5 ?_ (λyl ak=>re Q yl (λk S h ⟨_,_,S0,hk,_⟩=>hk.st) ak) ?_ ?_
 ·exact WK.start hY I.2.1 I.2.2 I.1.1 I.1.2 n1 n2
 ·intro k S0 h3 hk e a4 ba E;obtain⟨t,ht⟩:∃t,(yA fs al)[k]? =some t:=⟨_,getElem?_eq_getElem hk⟩;have a3:(yA fs al).getD k (0,0,0)=t:=by rw[getD_eq_getElem?_getD,ht];rfl
  simp only[elT,a3];obtain⟨p1,p2,p3,a,K⟩:=oL (mem_of_getElem? ht);have o:=a4;rw[<-T] at o;have a7:=XW t;refine yo.round (g:=Yf) mix o rfl kr kr kr ?_;simp only[go_sem,a7];refine⟨by rw[zG ow];exact o,?_⟩;generalize hB:LRec.mk .busy _ _ _ _ _ _=B;have J:({ B with st:= .ready,pending:=none } :LRec)=L:=by rw[<-hB,<-T]
  obtain⟨S1,H,ag,bx,P,ai,a0,bk,ad,hw⟩:=Lp.open s ba e E (.row (rJ t)) B;rw[ag];have a1:=En Q p1 p2 p3 K 5 (q:=λ_=>true) (R:=λ_=>False) (f:=276) (cap:=[]) ad (λi hi=>hi.elim) (λy hy h2 _=>zA3 y h2);have b2:zM true 3 (rJ t) 0=some (.agg (rJ t)):=zB rfl ow;have e1:(rJ t)[0]? =some (.int .i64 (t.1:Int)):=rfl;have e2:(rJ t)[1]? =some (.int .i64 (t.2.1:Int)):=rfl;have e3:(rJ t)[2]? =some (.int .i64 (t.2.2:Int)):=rfl;have a8:bh al t.1=a.ts:=by simp[bh,K]
  have u:wZ c fs al t=if VH c a.ts (nh fs t.2.2) (se fs t.2.1) 5 (λ_=>true)=true then [[(t.1:Int),(t.2.1:Int),(t.2.2:Int)]] else []:=by unfold wZ;rw[a8]
  repeat' first|simp only[go_sem, *]|apply bc<;>intro
  refine a1.mono ?_;rintro r H2 ⟨p,rfl⟩;have F:=(p.2 _ ow).trans P;have z:=a0.ext1 p;have v:=(p.2 _ ow).trans ai;have A:=y.ext bk p;cases U:VH c a.ts (nh fs t.2.2) (se fs t.2.1) 5 (λ_=>true) with
  |false=>
   rw[U,iq (by decide)] at u;have b:Y (yS (yA fs al) (wZ c fs al) (k+1)) S1 H2:=by rw[wL ht,u,append_nil];exact A
   have d:∀fr,wh (LpK h.next L (WK m1 (.map (kmD (D.int .i64) M)) m2 (.map (kvD O)) λk=>Y (yS (yA fs al) (wZ c fs al) k)) k S0 h3) h.next .normal fr H2:=λfr=>Lp.call s J e E hw v z (λj hj=> .inl hj) (But.refl S1 H2) b;simp only[go_sem];exact d _
  |true=>
   rw[U,ip rfl] at u;have a9:(yS (yA fs al) (wZ c fs al) k).length<16777216:=by
    have:=pQ (V:=wZ c fs al) (l:=yA fs al) (m:=1) (λt _=>by unfold wZ;split<;>simp) k;omega
   have N:=y.go _ _ _ [(t.1:Int),(t.2.1:Int),(t.2.2:Int)] .full A a9 (by simp) (by simp) (by
    intro n X;simp only[mem_cons,not_mem_nil,or_false] at X;rcases X with rfl|rfl|rfl<;>exact Rs ow)
   simp only[nil_append,cons_append] at N;have au:=bs3 (t.1:Int) (t.2.1:Int) (t.2.2:Int);simp only[go_sem,F,e1,e2,e3,au];refine N.mono ?_;rintro r h5 ⟨S5,G,C,b⟩;have bb:Y (yS (yA fs al) (wZ c fs al) (k+1)) S5 h5:=by rw[wL ht,u];exact b
   have d:∀fr,wh (LpK h.next L (WK m1 (.map (kmD (D.int .i64) M)) m2 (.map (kvD O)) λk=>Y (yS (yA fs al) (wZ c fs al) k)) k S0 h3) h.next .normal fr h5:=λfr=>Lp.call s J e E hw v z G C bb;exact d _
 ·intro S2 h5 Z U hw;obtain⟨S5,G,C,b⟩:=WK.stop I.1.1 I.1.2 Z U hw;rw[uW] at b;simp only[go_sem];exact⟨S5,G,C,b⟩
def dK (own:List UInt8) (l:List (List UInt8)):Bool:= !(l.any λx=>x==own)
def Jz {own:List UInt8} {y:Cla} (a:y.Fine) (c:h.at' id=some (.row [.str own])):zA prog 277 [.agg y.cells, .ptr id 0] h λr h'=>h'=h/\r= .bool (dK own y.list):=by
 have b:=pF a.1.isSl a.2 own;have k1:y.cells[4]? =some y.d:=rfl;obtain⟨e,f,_⟩:=zJ a.1.isSl;unfold dK;refine xO mix func277 A2 rfl rfl ?_;simp only[f277,gJ]
 repeat' first|simp only[go_sem, *]|apply bc<;>intro b|(refine zA.mono (b _) ?_;rintro r h ⟨rfl,rfl⟩)
def ua (c:Cat) (fs:List Fac) (al:Nat->Option Alt) (O:KV) (t:Tri):List (List Int):=match kC (we fs t.2.1) O with
 |none=>[]
 |some own=>if VH c (bh al t.1) (nh fs t.2.2) (se fs t.2.1) 4 (dK own)=true then [[(t.1:Int),(t.2.1:Int),(t.2.2:Int)]] else []
theorem Eo {M:KM Int} {O:KV} {m1 m2:Nat} (hs:Stt c fs al M O sc m1 m2) (hn:fs.length<=16)
  {ff:FuncId} {Y:List (List Int)->(Nat->Prop)->Heap->Prop} (y:Fnd2 prog 5 ff cap Y) {w:Heap} (hY:Y [] S w) (K:StH M O m1 m2 w) (n1:¬S m1) (n2:¬S m2):
  zA prog 216 [.iptr sc 0, .fn (.func ff) [] cap] w λ_ h'=>∃S',(∀i,S' i->S i\/w.next<=i)/\But S w h'/\Y ((yA fs al).flatMap (ua c fs al O)) S' h':=by
 have I:=hs;obtain⟨⟨ca,cb,ce,cp,x,rfl,hc,hx,_⟩,sm,cu,c0,cs,halt⟩:=hs;have bb:=λg=>lI [ca,cb,ce,cp,x, .map m1, .map m2] g;refine xO mix func216 zAD rfl rfl ?_;simp only[f216,gJ]
 repeat' first|simp only[go_sem,ng, *]|apply bc<;>intro hc|(refine zA.mono (bb _) ?_;rintro r h ⟨hq,rfl⟩)
 subst hq;generalize hL:LRec.mk _ _ _ _ _ _ _=L;have cf:L.pending=none:=by rw[<-hL]
 have cg:L.st= .ready:=by rw[<-hL]
 have Z:=y.lcl λk=>yS (yA fs al) (ua c fs al O) k;have h4:=sF (al:=al) hn;refine uS (W:=WK m1 (.map (kmD (D.int .i64) M)) m2 (.map (kvD O)) λk=>Y (yS (yA fs al) (ua c fs al O) k)) (n:=(yA fs al).length) (el:=elT (yA fs al)) (S:=λj=>j=m1\/j=m2\/S j) rfl (WK.lcl Z) cg cf ?_ (λyl b6=>re I yl (λk S h ⟨_,_,S0,hk,_⟩=>hk.st) b6) ?_ ?_
 ·exact WK.start hY K.2.1 K.2.2 K.1.1 K.1.2 n1 n2
 ·intro k S0 h3 hk Q ag a0 bx;obtain⟨t,ht⟩:∃t,(yA fs al)[k]? =some t:=⟨_,List.getElem?_eq_getElem hk⟩;have b9:(yA fs al).getD k (0,0,0)=t:=by rw[List.getD_eq_getElem?_getD,ht];rfl
  simp only[elT,b9];obtain⟨p1,p2,p3,a,a9⟩:=oL (List.mem_of_getElem? ht);have d:=ag;rw[<-hL] at d;have b1:=XW t;refine yo.round (g:=Ym) mix d rfl kr kr kr ?_;simp only[go_sem,b1];refine⟨by rw[zG ow];exact d,?_⟩;generalize hB:LRec.mk .busy _ _ _ _ _ _=B;have X:({ B with st:= .ready,pending:=none } :LRec)=L:=by rw[<-hB,<-hL]
  obtain⟨S1,H,a7,b5,A,a8,ba,b4,F,hw⟩:=Lp.open Z a0 Q bx (.row (rJ t)) B;rw[a7];clear b1 a7 hB;have c1:zM true 3 (rJ t) 0=some (.agg (rJ t)):=zB rfl ow;have e1:(rJ t)[0]? =some (.int .i64 (t.1:Int)):=rfl;have e2:(rJ t)[1]? =some (.int .i64 (t.2.1:Int)):=rfl;have e3:(rJ t)[2]? =some (.int .i64 (t.2.2:Int)):=rfl;have cl:bh al t.1=a.ts:=by simp[bh,a9]
  have a2:=qZ hx p2;have ho:we fs t.2.1=fs[t.2.1].out:=by simp[we,p2]
  have k2:fs[t.2.1].cells[2]? =some (.str fs[t.2.1].out):=rfl;rw[<-ho] at k2;clear ho;obtain⟨h0,bs,T,v⟩:=Heap.low H;obtain⟨C,cc⟩:∃n,H.next=n:=⟨_,rfl⟩;have b2:∀s,zP prog 9 (.ptr C 0) (.str s) (H.new C (.row [.str []]))=some (H.new C (.row [.str s])):=λs=>by
   rw[zS (zK _ _ _) uY (by simp) rfl rfl,nU];rfl
  have ch:=(v h3.next ow).trans A;have e:=Mt (by rw[v m2 F.2.2];exact F.1.2) (we fs t.2.1) true;have cv:h3.next<C:=ow;have p:∀o,∃G,H.new C o=G/\Ext H G/\G.at' C=some o/\G.at' h3.next=some (.row (rJ t))/\C<G.next/\But (λj=>j=h.next) h3 G/\G.at' h.next=some (.loop B)/\Y (yS (yA fs al) (ua c fs al O) k) S1 G/\StH M O m1 m2 G:=λo=>by
   have hE:Ext H (H.new C o):=(Ext.refl H).new ow _;exact⟨_,rfl,hE,zK _ _ _,(hE.2 _ ow).trans A,by rw[zo _ ow];omega,ba.ext1 hE,(hE.2 _ ow).trans a8,y.ext b4 hE,StH.ext F hE⟩
  rw[cc] at T;have b:∀ {fr:Frm} {G h5:Heap} {S5:Nat->Prop},G.at' h.next=some (.loop B)->But (λj=>j=h.next) h3 G->(∀j,S5 j->S1 j\/G.next<=j)->But S1 G h5->Y (yS (yA fs al) (ua c fs al O) (k+1)) S5 h5->wh (LpK h.next L (WK m1 (.map (kmD (D.int .i64) M)) m2 (.map (kvD O)) λk=>Y (yS (yA fs al) (ua c fs al O) k)) k S0 h3) h.next .normal fr h5:=λa1 a2 a3 a4 a5=>Lp.call Z X Q bx hw a1 a2 a3 a4 a5;rw[wL ht] at b;clear b5 a8 ba b4 F A v
  refine zO h0 [(0, .st,true),(4, .st,true),(1, .no,true),(2, .no,true),(3, .st,true),(5, .no,true),(6, .no,true),(7, .st,true),(8, .no,true),(9, .st,true),(10, .no,true),(11, .no,true),(12, .st,true),(13, .st,true),(14, .no,true),(15, .no,true),(16, .no,true),(17, .no,true),(18, .no,false),(19, .no,false)] kr kr bs ?_;cases u:kC (we fs t.2.1) O with
  |none=>
   rw[u] at e;replace e:yi prog 152 (.map m2) (.str (we fs t.2.1)) true h0=some (.tuple [.str [], .bool false]):=e;have au:ua c fs al O t= []:=by unfold ua;rw[u]
   rw[au,List.append_nil] at b;obtain⟨G,hG,a6,g1,g2,g3,g4,g5,g6,_⟩:=p (.row [.str []]);have cw:=λfr=>b (fr:=fr) g5 g4 (λj hj=> .inl hj) (But.refl S1 G) g6;have b3:=b2 [];have bo:=T (.row [.str []]);rw[hG] at b3 bo;clear hw hL X I hY K a0 d ag ht p b u g1 g2 g3 g4 g5 g6 a6
   repeat' first|simp only[go_sem,ze, *]|apply bc<;>intro
   refine Ms _ e ?_
   repeat' first|simp only[go_sem,ze, *]|apply bc<;>intro hc
  |some own=>
   rw[u] at e;replace e:yi prog 152 (.map m2) (.str (we fs t.2.1)) true h0=some (.tuple [.str own, .bool true]):=e;have au:ua c fs al O t=if VH c a.ts (nh fs t.2.2) (se fs t.2.1) 4 (dK own)=true then [[(t.1:Int),(t.2.1:Int),(t.2.2:Int)]] else []:=by unfold ua;rw[u];simp only[cl]
   rw[au] at b;obtain⟨G,hG,a6,g1,g2,g3,g4,g5,g6,g7⟩:=p (.row [.str own]);have b8:=En I p1 p2 p3 a9 4 (q:=dK own) (R:=λj=>j=C) (f:=277) (cap:=[.ptr C 0]) g7 (λi hi=>by rw[hi];exact g3) (λz hz h2 hr=>Jz hz (by rw[hr _ rfl,g1]));have cm:(yS (yA fs al) (ua c fs al O) k).length<16777216:=by
    have:=pQ (V:=ua c fs al O) (l:=yA fs al) (m:=1) (λt _=>by
     unfold ua;split
     ·simp
     ·split<;>simp) k
    omega
   have b7:=bs3 (t.1:Int) (t.2.1:Int) (t.2.2:Int);have bk:=λS h hy=>y.go _ S h [(t.1:Int),(t.2.1:Int),(t.2.2:Int)] .full hy cm (by simp) (by simp) (by
    intro n hn;simp only[List.mem_cons,List.not_mem_nil,or_false] at hn;rcases hn with rfl|rfl|rfl<;>exact Rs ow)
   simp only[List.nil_append,List.cons_append] at bk;clear hw hL X hY K a0 d ag ht p u I bb
   repeat' first|simp only[go_sem,ze, *]|apply bc<;>intro
   refine Ms _ e ?_
   repeat' first|simp only[go_sem,ze, *]|apply bc<;>intro
   refine b8.mono ?_;rintro r H2 ⟨E,rfl⟩;have ai:=(E.2 _ ow).trans g2;have P:=g4.ext1 E;have N:=(E.2 _ ow).trans g5;have U:=y.ext g6 E;cases hb:VH c a.ts (nh fs t.2.2) (se fs t.2.1) 4 (dK own) with
   |false=>
    rw[hb,iq (by decide),List.append_nil] at b;simp only[go_sem];exact b N P (λj hj=> .inl hj) (But.refl S1 H2) U
   |true=>
    rw[hb,ip rfl] at b;simp only[go_sem,ai,e1,e2,e3,b7];refine(bk _ _ U).mono ?_;rintro r h5 ⟨S5,ak,ad,J⟩;exact b N P ak ad J
 ·intro S2 h5 hs hb hw;obtain⟨S5,ak,ad,J⟩:=WK.stop K.1.1 K.1.2 hs hb hw;rw[uW] at J;simp only[go_sem];exact⟨S5,ak,ad,J⟩
def Ep (b:sc[4]? =some x) (c:zZ 12 (nb fs) x) {t:Tri} (a:t.1<fs.length) (g:Fac) (f:h.at' id=some (.row (rJ t))):
  zA prog 279 [.agg g.cells, .iptr [.iptr sc 0] 0, .ptr id 0] h λr h'=>h'=h/\r= .bool (g.comp==wY fs t.1):=by
 have k1:fs[t.1].cells[1]? =some (.str fs[t.1].comp):=rfl;have k2:g.cells[1]? =some (.str g.comp):=rfl;have e1:(rJ t)[0]? =some (.int .i64 (t.1:Int)):=rfl;have d:=qZ c a;have j:wY fs t.1=fs[t.1].comp:=by simp[wY,a]
 refine xO mix func279 zDI rfl rfl ?_;simp only[f279,gJ];simp only[go_sem, *];refine zO Heap.emp [(2, .no,false),(0, .no,false),(1, .no,false),(3, .no,false),(4, .no,false),(5, .no,false),(6, .no,false),(7, .no,false),(8, .no,false),(9, .no,false),(10, .no,false),(11, .no,false),(12, .no,false)] kr kr (λi k e=>by cases e) ?_;simp only[go_sem,ze, *]
def bi (fs:List Fac) (i:Nat):Int:=match fs[i]? with
 |some f=>f.duty
 |none=>0
def J0 (fs:List Fac) (i:Nat):Bool:=match fs[i]? with
 |some f=>f.chg
 |none=>false
abbrev ni (fs:List Fac) (i:Nat):List Nat:=fIx 4 (λg=>g.comp==wY fs i) fs
def nj (c:Cat) (fs:List Fac) (al:Nat->Option Alt) (t:Tri) (k:Nat):List (List Int):=
 if((!(bi fs k==2)||J0 fs t.2.1)&&VH c (bh al t.1) (nh fs t.2.2) (se fs t.2.1) (bi fs k) (λ_=>true))=true then [[(t.1:Int),(t.2.1:Int),(t.2.2:Int),(k:Int)]] else []
def oy (c:Cat) (fs:List Fac) (al:Nat->Option Alt) (t:Tri):List (List Int):=(ni fs t.1).flatMap (nj c fs al t)
def XX (c:Cat) (fs:List Fac) (al:Nat->Option Alt) (t:Tri) (k:Nat):(nj c fs al t k).length<=1:=by unfold nj;split<;>simp
def XY (c:Cat) (b:fs.length<=16) (al:Nat->Option Alt) (t:Tri):(oy c fs al t).length<=16:=by
 have h1:=qo (m:=1) (l:=ni fs t.1) λk _=>XX c fs al t k;have a:(ni fs t.1).length<=fs.length:=qT _ fs 0;unfold oy;omega
theorem zA4 {M:KM Int} {O:KV} {m1 m2:Nat} (hs:Stt c fs al M O sc m1 m2) (hn:fs.length<=16)
  {ff:FuncId} {Y:List (List Int)->(Nat->Prop)->Heap->Prop} (y:Fnd2 prog 5 ff cap Y) {w:Heap} (hY:Y [] S w) (hH:StH M O m1 m2 w) (n1:¬S m1) (n2:¬S m2):
  zA prog 217 [.iptr sc 0, .fn (.func ff) [] cap] w λ_ h'=>∃S',(∀i,S' i->S i\/w.next<=i)/\But S w h'/\Y ((yA fs al).flatMap (oy c fs al)) S' h':=by
 have Z:=hs;obtain⟨⟨ca,cb,ce,cp,x,rfl,hc,hx,_⟩,sm,ds,db,b9,halt⟩:=hs;have b8:=λg=>lI [ca,cb,ce,cp,x, .map m1, .map m2] g;refine xO mix func217 Ba rfl rfl ?_;simp only[f217,gJ]
 repeat' first|simp only[go_sem,ng, *]|apply bc<;>intro hc|(refine zA.mono (b8 _) ?_;rintro r h ⟨hq,rfl⟩)
 subst hq;generalize hL:LRec.mk _ _ _ _ _ _ _=L;have dd:L.pending=none:=by rw[<-hL]
 have di:L.st= .ready:=by rw[<-hL]
 have bb:=y.lcl λk=>yS (yA fs al) (oy c fs al) k;have h4:=sF (al:=al) hn;refine uS (W:=WK m1 (.map (kmD (D.int .i64) M)) m2 (.map (kvD O)) λk=>Y (yS (yA fs al) (oy c fs al) k)) (n:=(yA fs al).length) (el:=elT (yA fs al)) (S:=λj=>j=m1\/j=m2\/S j) rfl (WK.lcl bb) di dd ?_ (λyl ba=>re Z yl (λk S h ⟨_,_,S0,hk,_⟩=>hk.st) ba) ?_ ?_
 ·exact WK.start hY hH.2.1 hH.2.2 hH.1.1 hH.1.2 n1 n2
 ·intro k S0 h3 hk a7 cf c1 cl;obtain⟨t,ht⟩:∃t,(yA fs al)[k]? =some t:=⟨_,getElem?_eq_getElem hk⟩;have c8:(yA fs al).getD k (0,0,0)=t:=by rw[getD_eq_getElem?_getD,ht];rfl
  simp only[elT,c8];obtain⟨p1,p2,p3,a,b5⟩:=oL (mem_of_getElem? ht);have s:=cf;rw[<-hL] at s;have cv:=XW t;refine yo.round (g:=bB) mix s rfl kr kr kr ?_;simp only[go_sem,cv];refine⟨by rw[zG ow];exact s,?_⟩;generalize hB:LRec.mk .busy _ _ _ _ _ _=B;have b3:({ B with st:= .ready,pending:=none } :LRec)=L:=by rw[<-hB,<-hL]
  obtain⟨S1,H,bs,U,N,bx,b6,c4,z,hw⟩:=Lp.open bb c1 a7 cl (.row (rJ t)) B;rw[bs];clear cv bs hB;have dt:zM true 3 (rJ t) 0=some (.agg (rJ t)):=zB rfl ow;have e1:(rJ t)[0]? =some (.int .i64 (t.1:Int)):=rfl;have e2:(rJ t)[1]? =some (.int .i64 (t.2.1:Int)):=rfl;have e3:(rJ t)[2]? =some (.int .i64 (t.2.2:Int)):=rfl;have dk:bh al t.1=a.ts:=by simp[bh,b5]
  have b4:∀j,S1 j->j<h3.next:=λj hj=>y.here _ _ _ hw.1 j hj;have b7:=λg=>kJ [ca,cb,ce,cp,x, .map m1, .map m2] 4 (hf:= .fn (.func 279) [] [.iptr [.iptr [ca,cb,ce,cp,x, .map m1, .map m2] 0] 0, .ptr h3.next 0]) ⟨_,_,_,rfl⟩ g;refine(b7 _).mono ?_;rintro r H2 ⟨hq,rfl⟩;subst hq;simp only[go_sem,oK,U];generalize C:LRec.mk .ready _ _ _ _ _ _=L2;have cs:L2.pending=none:=by rw[<-C]
  have cu:L2.st= .ready:=by rw[<-C]
  have E:=y.lcl λk2=>yS (yA fs al) (oy c fs al) k++yS (ni fs t.1) (nj c fs al t) k2;have ch:¬S1 m1/\¬S1 m2:=hw.2.2.2.1;obtain⟨l,hl⟩:∃l:List (Nat×Obj),l= [(m1, .map (kmD (D.int .i64) M)),(m2, .map (kvD O)),(h3.next, .row (rJ t))]:=⟨_,rfl⟩;have Q:∀p∈l,p.1<H2.next/\H2.at' p.1=some p.2/\¬S1 p.1:=by
   rw[hl];intro p K;simp only[mem_cons,not_mem_nil,or_false] at K;rcases K with rfl|rfl|rfl
   ·exact⟨z.2.1,z.1.1,ch.1⟩
   ·exact⟨z.2.2,z.1.2,ch.2⟩
   ·exact⟨by rw[U];omega,N,λe=>lt_irrefl _ (b4 _ e)⟩
  have o:∀ {h:Heap},(∀p∈l,p.1<h.next/\h.at' p.1=some p.2)->StH M O m1 m2 h/\h3.next<h.next/\h.at' h3.next=some (.row (rJ t)):=by
   rw[hl];intro h K;have q1:=K (m1, .map (kmD (D.int .i64) M)) (by simp);have q2:=K (m2, .map (kvD O)) (by simp);have q3:=K (h3.next, .row (rJ t)) (by simp);exact⟨⟨⟨q1.2,q2.2⟩,q1.1,q2.1⟩,q3⟩
  clear hl;refine⟨⟨_,bx⟩,uS (W:=WL l λk2=>Y (yS (yA fs al) (oy c fs al) k++yS (ni fs t.1) (nj c fs al t) k2)) (n:=(ni fs t.1).length) (el:=elI (ni fs t.1)) (S:=λj=>(∃p∈l,j=p.1)\/S1 j) U (WL.lcl E) cu cs ?_ (λyl ba=>oe (sc:=[ca,cb,ce,cp,x, .map m1, .map m2]) rfl hx ow Z.ok yl (R:=λj=>j=h3.next) ?_ (λg hg h2 hr=> ?_) ba) ?_ ?_⟩
  ·exact WL.start (by rw[show yS (ni fs t.1) (nj c fs al t) 0= [] from rfl,append_nil];exact c4) Q
  ·rintro j rfl;refine⟨by rw[zo _ ow];omega, .inr ?_⟩;rintro k S2 h2 ⟨_,_,S0,hk,_⟩;rw[(o hk.st).2.2,zG ow,N]
  ·exact(Ep (sc:=[ca,cb,ce,cp,x, .map m1, .map m2]) rfl hx p1 g (by rw[hr _ rfl,zG ow,N])).mono λr h3 e=>e
  ·intro k2 S3 h5 da J cg c2 cm;obtain⟨v,hv⟩:∃v,(ni fs t.1)[k2]? =some v:=⟨_,getElem?_eq_getElem da⟩;have c9:(ni fs t.1).getD k2 0=v:=by rw[getD_eq_getElem?_getD,hv];rfl
   have c0:v<fs.length:=by
    have:=(uG _ fs 0 v (mem_of_getElem? hv)).2;omega
   simp only[elI,c9];have u:=cg;rw[<-C] at u;refine yo.round (g:=bB) mix u rfl kr kr kr ?_;simp only[go_sem];refine⟨u,?_⟩;generalize c5:LRec.mk .busy _ _ _ _ _ _=B2;have au:({ B2 with st:= .ready,pending:=none } :LRec)=L2:=by rw[<-c5,<-C]
   obtain⟨S4,H4,ad,ak,ag,a0,a8,A,d⟩:=Lp.openL0 E c2 J cm B2;rw[ad];obtain⟨g1,g2,g3⟩:=o (h:=H4) λp K=>⟨by rw[ak];exact(A p K).1,(A p K).2⟩;have b:∀ {fr:Frm} {G h7:Heap} {S5:Nat->Prop},G.at' (h3.next+1)=some (.loop B2)->But (λj=>j=h3.next+1) h5 G->(∀j,S5 j->S4 j\/G.next<=j)->But S4 G h7->Y (yS (yA fs al) (oy c fs al) k++yS (ni fs t.1) (nj c fs al t) (k2+1)) S5 h7->wh (LpK (h3.next+1) L2 (WL l λk2=>Y (yS (yA fs al) (oy c fs al) k++yS (ni fs t.1) (nj c fs al t) k2)) k2 S3 h5) (h3.next+1) .normal fr h7:=λa1 a2 a3 a4 a5=>Lp.callL E au J cm d a1 a2 a3 a4 a5;rw[wL hv] at b;have b1:=qZ hx c0
   have b2:=qZ hx p2;have k5:fs[v].cells[5]? =some (.int .i64 fs[v].duty):=rfl;have k6:fs[t.2.1].cells[6]? =some (.bool fs[t.2.1].chg):=rfl;have hd:bi fs v=fs[v].duty:=by simp[bi,c0]
   have I:J0 fs t.2.1=fs[t.2.1].chg:=by simp[J0,p2]
   have cc:nj c fs al t v=if((!(fs[v].duty==2)||fs[t.2.1].chg)&&VH c a.ts (nh fs t.2.2) (se fs t.2.1) fs[v].duty (λ_=>true))=true then [[(t.1:Int),(t.2.1:Int),(t.2.2:Int),(v:Int)]] else []:=by unfold nj;rw[hd,I,dk]
   have bk:=En Z p1 p2 p3 b5 fs[v].duty (q:=λ_=>true) (R:=λ_=>False) (f:=276) (cap:=[]) g1 (λi hi=>hi.elim) (λy hy h2 _=>zA3 y h2);rw[cc] at b;have cw:(yS (yA fs al) (oy c fs al) k++yS (ni fs t.1) (nj c fs al t) k2).length<16777216:=by
    have q1:=pQ (V:=oy c fs al) (l:=yA fs al) (m:=16) (λt _=>XY c hn al t) k;have q2:=pQ (V:=nj c fs al t) (l:=ni fs t.1) (m:=1) (λk _=>XX c fs al t k) k2;have q3:(ni fs t.1).length<=fs.length:=qT _ fs 0;rw[length_append];omega
   have X:=λS h hy=>y.go _ S h [(t.1:Int),(t.2.1:Int),(t.2.2:Int),(v:Int)] .full hy cw (by simp) (by simp) (by
    intro n hn;simp only[mem_cons,not_mem_nil,or_false] at hn;rcases hn with rfl|rfl|rfl|rfl<;>exact Rs ow)
   simp only[nil_append,cons_append] at X;have c6:=bs4 (t.1:Int) (t.2.1:Int) (t.2.2:Int) (v:Int);clear hd I cc cw;generalize fs[v]=fv at *
   generalize fs[t.2.1]=fu at *
   clear hL b3 C au Z hY hH c1 s cf ht b8 b7 b9 db o Q cg u c2 d A ad hv c4 z b6
   repeat' first|simp only[go_sem,ze, *]|apply bc<;>intro
   refine zU kr ?_;cases h2:(fv.duty==2)<;>cases I:fu.chg
   case true.false=>
    rw[h2,I,iq (by simp),append_nil] at b;have c7:=λfr=>b (fr:=fr) ag a0 (λj hj=> .inl hj) (But.refl S4 H4) a8;clear b X bk
    repeat' first|simp only[go_sem,ze, *]|apply bc<;>intro
   all_goals
    rw[h2,I] at b
    repeat' first|simp only[go_sem,ze, *]|apply bc<;>intro
    refine bk.mono ?_;rintro r H5 ⟨T,rfl⟩;have bo:=(T.2 _ g2).trans g3;have a6:=a0.ext1 T;have ai:=(T.2 _ (by rw[ak];exact J)).trans ag;have a9:=y.ext a8 T;cases hb:VH c a.ts (nh fs t.2.2) (se fs t.2.1) fv.duty (λ_=>true) with
    |false=>
     rw[hb,iq (by decide),append_nil] at b;have c7:=λfr=>b (fr:=fr) ai a6 (λj hj=> .inl hj) (But.refl S4 H5) a9;clear b X bk
     repeat' first|simp only[go_sem, *]|apply bc<;>intro hc
    |true=>
     rw[hb,ip (by decide)] at b;simp only[go_sem,bo,e1,e2,e3,c6];refine(X _ _ a9).mono ?_;rintro r h7 ⟨S5,P,F,d⟩;rw[append_assoc] at d;exact b ai a6 P F d
  ·intro S' h5 hs hb d;obtain⟨S5,P,F,c3⟩:=WL.stop (λp K=>(Q p K).2.1) (λj hj=>by rw[U];exact hs j hj) hb d;rw[uW] at c3;have dr:Y (yS (yA fs al) (oy c fs al) (k+1)) S5 h5:=by rw[wL ht];exact c3
   have b:∀fr,wh (LpK h.next L (WK m1 (.map (kmD (D.int .i64) M)) m2 (.map (kvD O)) λk=>Y (yS (yA fs al) (oy c fs al) k)) k S0 h3) h.next .normal fr h5:=λfr=>Lp.call bb b3 a7 cl hw bx b6 P F dr;simp only[go_sem];exact b _
 ·intro S2 h5 hs hb hw;obtain⟨S5,P,F,d⟩:=WK.stop hH.1.1 hH.1.2 hs hb hw;rw[uW] at d;simp only[go_sem];exact⟨S5,P,F,d⟩
def zA5 (x y:Apt) (c:Bool):pb prog .eql 121 c (.agg [.str x.a, .str x.b]) (.agg [.str y.a, .str y.b])=some (.bool (x.a==y.a&&x.b==y.b)):=by
 have d:eqT prog 121=some [.s, .s]:=by kernel_rfl
 simp only[pb,d,Tn,eqK,Option.map_some,Bool.and_true,tE]
def J1 {l:List Apt} (q:zZ 2 (JU l) d) (D:l.length<=1048576) (n:Apt) (g:Heap):
  zA prog 408 [d, .agg [.str n.a, .str n.b]] g λr h'=>h'=g/\r= .int .i64 (Zr (λx:Apt=>n.a==x.a&&n.b==x.b) l):=by
 have s:=mi q;have heq:=zA5 n;obtain⟨p,t⟩:∃p:Apt->Bool,(λx:Apt=>n.a==x.a&&n.b==x.b)=p:=⟨_,rfl⟩;have m:∀x,(n.a==x.a&&n.b==x.b)=p x:=λx=>by rw[<-t]
 rw[t];refine xO mix func408 Bi rfl rfl ?_;simp only[f408,gJ];simp only[go_sem, *];refine zD (λi fr h=>fr 0=d/\fr 3= .iptr [.str n.a, .str n.b] 0/\fr 7= .int .i64 (l.length:Int)/\fr 8= .int .i64 (i:Int)/\h=g/\∀j (e:j<l.length),j<i->p l[j]=false) l.length ow ?_ ?_ ?_
 ·simp only[go_sem,true_and,and_true,Int.ofNat_zero];exact λj e h0=>absurd h0 (Nat.not_lt_zero _)
 ·rintro i fr h c e1 C ⟨v,w,y,z,rfl,e⟩;have u:=kE q c;simp only[Apt.cells] at u;have o:=heq l[i];rw[m] at o;cases k:p l[i] with
  |true=>
   have B:=p4 (p:=p) c e k;rw[k] at o;simp only[go_sem, *];refine zU kr ?_;simp only[go_sem, *]
  |false=>
   have A:=qM (p:=p) c e k;rw[k] at o;simp only[go_sem, *];refine zU kr ?_;simp only[go_sem, *];exact A
 ·rintro fr h e1 ⟨v,w,y,z,rfl,e⟩;have B:=p5 (p:=p) λj f=>e j f f;exact au
def VI {l:List Apt} (e:zZ 2 (JU l) d) (i:l.length<=1048576) (n:Apt) (g:Heap):
  zA prog 390 [d, .agg [.str n.a, .str n.b]] g λr h'=>h'=g/\r= .bool (l.any λx:Apt=>n.a==x.a&&n.b==x.b):=by
 have c:=J1 e i n;have f:=p0 (l:=l) (p:=λx:Apt=>n.a==x.a&&n.b==x.b);refine xO mix func390 Bh rfl rfl ?_;simp only[f390,gJ]
 repeat' first|simp only[go_sem, *]|apply bc<;>intro j|(refine zA.mono (c _) ?_;rintro r h ⟨rfl,rfl⟩)
def zFW (a b:List UInt8):Apt:=if(!(dX a b||a==b))=true then⟨b,a⟩ else⟨a,b⟩
def nK (c:Cat) (a b:List UInt8):Bool:=(tK c==0)&&c.ps.any λx=>(zFW a b).a==x.a&&(zFW a b).b==x.b
def cG (k:yt c d) (l:c.Sm) (x y:List UInt8) (g:Heap):zA prog 344 [d, .str x, .str y] g λr h'=>h'=g/\r= .bool (nK c x y):=by
 have j:=oX k l;obtain⟨a,b,e,p,rfl,s,t,w,o⟩:=k;have m:∀u v:List UInt8,zt prog 121 [(0, .str u),(1, .str v)]=some (.agg [.str u, .str v]):=λu v=>by simp[zt,WV,Q3,qB,D.notTuple,D.cells,yU]
 have f:=λn=>VI o l.ps n;obtain⟨R,i⟩:∃R,nK c x y=R:=⟨_,rfl⟩;rw[i];unfold nK zFW at i;refine xO mix func344 AO rfl rfl ?_;simp only[f344,gJ];cases q:(dX x y||x==y) with
 |true=>
  rw[iq (by rw[q];decide)] at i;have h1:=f ⟨x,y⟩;subst i
  repeat' first|simp only[go_sem, *]|apply bc<;>intro k|(refine zA.mono (j _) ?_;rintro r h ⟨rfl,rfl⟩)|(refine zA.mono (h1 _) ?_;rintro r h ⟨rfl,rfl⟩)
 |false=>
  rw[ip (by rw[q];rfl)] at i;have h1:=f ⟨y,x⟩;subst i
  repeat' first|simp only[go_sem, *]|apply bc<;>intro k|(refine zA.mono (j _) ?_;rintro r h ⟨rfl,rfl⟩)|(refine zA.mono (h1 _) ?_;rintro r h ⟨rfl,rfl⟩)
def zA6 (c:Cat) (b:List Trm) (x:Trm):Bool:=b.any λy=>nK c x.a y.a
def Er (c:Cat) (a b:List Trm):Bool:=a.any (zA6 c b)
theorem My {ca cb ce cp:D} {rest:List D} (x:yt c (.agg [ca,cb,ce,cp])) (sm:c.Sm) {a b:Alt} (N:a.Ok) (O:b.Ok) (g:Heap):
  zA prog 280 [.iptr (ca::cb::ce::cp::rest) 0,a.d,b.d] g λr h'=>Ext g h'/\r= .bool (Er c a.ts b.ts):=by
 have a2:=yr N.sl;have a3:=yr O.sl;have ak:=N.len;have a0:=O.len;obtain⟨q1,q2,_⟩:=zJ N.sl;obtain⟨q3,q4,_⟩:=zJ O.sl;have hE:Ext g g:=Ext.refl g;have a7:zM true 4 (ca::cb::ce::cp::rest) 0=some (.agg [ca,cb,ce,cp]):=by simp[zM]
 refine xO mix func280 B1 rfl rfl ?_;simp only[f280,gJ]
 repeat' first|simp only[go_sem, *]|apply bc<;>intro x
 refine zD (λi fr h'=>fr 0= .iptr (ca::cb::ce::cp::rest) 0/\fr 2=b.d/\fr 11=a.d/\fr 12= .int .i64 (a.ts.length:Int)/\fr 13= .int .i64 (i:Int)/\Ext g h'/\∀j (t:j<a.ts.length),j<i->zA6 c b.ts a.ts[j]=false) a.ts.length ow ?_ ?_ ?_
 ·simp only[go_sem,true_and,and_true,Int.ofNat_zero];exact⟨hE,λj t h0=>by omega⟩
 ·rintro i fr h1 E e1 ew ⟨I,J,l,m,o,A,t⟩;have a1:=uT N.sl E;have Z:=λe=>fS (p:=zA6 c b.ts) E e;have Y:=λe=>qM (p:=zA6 c b.ts) E t e;generalize a.ts[i]=z at *
  have G:zP prog 130 (.ptr h1.next 0) (.agg z.cells) (h1.new h1.next (.row [.str [], .str []]))=some (h1.new h1.next (.row z.cells)):=zg yv ow rfl rfl rfl;have a6:zM true 2 z.cells 0=some (.agg z.cells):=zB rfl ow;obtain⟨H,hH,f,C,q⟩:∃H,h1.new h1.next (.row z.cells)=H/\H.at' h1.next=some (.row z.cells)/\Ext g H/\h1.next<H.next:=⟨_,rfl,zK _ _ _,A.new A.1 _,by rw[zF];omega⟩;rw[hH] at G
  repeat' first|simp only[go_sem, *]|apply bc<;>intro x
  obtain⟨M,F⟩:∃n,h1.next=n:=⟨_,rfl⟩;rw[F] at f q⊢;refine zD (λj fr h'=>fr 0= .iptr (ca::cb::ce::cp::rest) 0/\fr 2=b.d/\fr 11=a.d/\fr 12= .int .i64 (a.ts.length:Int)/\fr 13= .int .i64 (i:Int)/\fr 8= .ptr M 0/\fr 17=b.d/\fr 18= .int .i64 (b.ts.length:Int)/\fr 19= .int .i64 (j:Int)/\h'.at' M=some (.row z.cells)/\M<h'.next/\Ext g h'/\∀k (hk:k<b.ts.length),k<j->nK c z.a b.ts[k].a=false) b.ts.length ow ?_ ?_ ?_
  ·simp only[go_sem,true_and,and_true,Int.ofNat_zero];exact⟨I,J,l,m,o,f,q,C,λj t h0=>by omega⟩
  ·clear I J l m o f C G q F;rintro j T u s e2 ag ⟨I,J,l,m,o,f8,Q,R,S,f,q,B,t⟩;have b1:=uT O.sl s;have X:nK c z.a b.ts[j].a=true->zA6 c b.ts z=true:=λe=>fS (p:=λy:Trm=>nK c z.a y.a) s e;have W:=λe=>qM (p:=λy:Trm=>nK c z.a y.a) s t e;generalize b.ts[j]=y at *
   have L:zP prog 130 (.ptr u.next 0) (.agg y.cells) (u.new u.next (.row [.str [], .str []]))=some (u.new u.next (.row y.cells)):=zg yv ow rfl rfl rfl;have a8:zM true 2 y.cells 0=some (.agg y.cells):=zB rfl ow;have kz:z.cells[0]? =some (.str z.a):=rfl;have ky:y.cells[0]? =some (.str y.a):=rfl;obtain⟨H3,U,V,a5,ai,ad⟩:∃H,u.new u.next (.row y.cells)=H/\H.at' u.next=some (.row y.cells)/\H.at' M=some (.row z.cells)/\Ext g H/\M<H.next:=⟨_,rfl,zK _ _ _,by rw[zG ow];exact f,B.new B.1 _,by rw[zF];omega⟩;rw[U] at L;have v:=cG x sm z.a y.a H3;cases P:nK c z.a y.a with
   |false=>
    rw[P] at v;have w:=W P
    repeat' first|simp only[go_sem, *]|apply bc<;>intro x
    refine zU kr ?_
    repeat' first|simp only[go_sem,ze, *]|apply bc<;>intro x|(refine zA.mono v ?_;rintro r h ⟨hq,rfl⟩)
    subst hq;exact w
   |true=>
    rw[P] at v;have w:Er c a.ts b.ts=true:=Z (X P)
    repeat' first|simp only[go_sem, *]|apply bc<;>intro x
    refine zU kr ?_
    repeat' first|simp only[go_sem,ze, *]|apply bc<;>intro x|(refine zA.mono v ?_;rintro r h ⟨rfl,rfl⟩)
  ·clear I J l m o f C G q F;rintro T u e2 ⟨I,J,l,m,o,f8,Q,R,S,f,q,B,t⟩;have w:=Y (nF (p:=λy:Trm=>nK c z.a y.a) (λi K _=>t i K K))
   repeat' first|simp only[go_sem, *]|apply bc<;>intro x
   exact w
 ·rintro fr h1 e1 ⟨I,J,l,m,o,A,t⟩;have a4:Er c a.ts b.ts=false:=nF λi K _=>t i K K;exact au
def Rt (fs:List Fac) (t r:Tri):Bool:=decide ((r.1:Int)<(t.1:Int))|| !((r.2.2:Int)==(t.2.2:Int))|| !(se fs r.2.1==0)||((wY fs t.1==wY fs r.1)&& !((r.2.1:Int)==(t.2.1:Int)))
def tg (c:Cat) (fs:List Fac) (al:Nat->Option Alt) (t r:Tri):List (List Int):=
 if(!(Rt fs t r)&&Er c (bh al t.1) (bh al r.1))=true then [[(t.1:Int),(r.1:Int),(t.2.1:Int),(r.2.1:Int),(t.2.2:Int)]] else []
def wn (c:Cat) (fs:List Fac) (al:Nat->Option Alt) (t:Tri):List (List Int):=if(se fs t.2.1==0)=true then(yA fs al).flatMap (tg c fs al t) else []
def bj (c:Cat) (fs:List Fac) (al:Nat->Option Alt) (t r:Tri):(tg c fs al t r).length<=1:=by unfold tg;split<;>simp
def bl (c:Cat) (a:fs.length<=16) (al:Nat->Option Alt) (t:Tri):(wn c fs al t).length<=4096:=by
 unfold wn;split
 ·have h1:=qo (m:=1) (l:=yA fs al) λr _=>bj c fs al t r;have b:=sF (al:=al) a;omega
 ·simp
theorem Es {M:KM Int} {O:KV} {m1 m2:Nat} (hs:Stt c fs al M O sc m1 m2) (hn:fs.length<=16)
  {ff:FuncId} {Y:List (List Int)->(Nat->Prop)->Heap->Prop} (y:Fnd2 prog 5 ff cap Y) {w:Heap} (hY:Y [] S w) (hH:StH M O m1 m2 w) (n1:¬S m1) (n2:¬S m2):
  zA prog 218 [.iptr sc 0, .fn (.func ff) [] cap] w λ_ h'=>∃S',(∀i,S' i->S i\/w.next<=i)/\But S w h'/\Y ((yA fs al).flatMap (wn c fs al)) S' h':=by
 have o:=hs;obtain⟨⟨ca,cb,ce,cp,x,rfl,X,hx,_⟩,sm,d2,dt,c0,halt⟩:=hs;have ai:=λg=>lI [ca,cb,ce,cp,x, .map m1, .map m2] g;refine xO mix func218 Bv rfl rfl ?_;simp only[f218,gJ]
 repeat' first|simp only[go_sem,ng, *]|apply bc<;>intro X|(refine zA.mono (ai _) ?_;rintro r h ⟨hq,rfl⟩)
 subst hq
 rename Heap=>w
 generalize hL:LRec.mk _ _ _ _ _ _ _=L;have du:L.pending=none:=by rw[<-hL]
 have dv:L.st= .ready:=by rw[<-hL]
 have b6:=y.lcl λk=>yS (yA fs al) (wn c fs al) k;have h4:=sF (al:=al) hn;refine uS (W:=WK m1 (.map (kmD (D.int .i64) M)) m2 (.map (kvD O)) λk=>Y (yS (yA fs al) (wn c fs al) k)) (n:=(yA fs al).length) (el:=elT (yA fs al)) (S:=λj=>j=m1\/j=m2\/S j) rfl (WK.lcl b6) dv du ?_ (λyl b5=>re o yl (λk S h ⟨_,_,S0,hk,_⟩=>hk.st) b5) ?_ ?_
 ·exact WK.start hY hH.2.1 hH.2.2 hH.1.1 hH.1.2 n1 n2
 ·intro k S0 h3 hk ba b7 cg c3;obtain⟨t,ht⟩:∃t,(yA fs al)[k]? =some t:=⟨_,getElem?_eq_getElem hk⟩;have dr:(yA fs al).getD k (0,0,0)=t:=by rw[getD_eq_getElem?_getD,ht];rfl
  simp only[elT,dr];obtain⟨p1,p2,p3,a,Z⟩:=oL (mem_of_getElem? ht);have s:=b7;rw[<-hL] at s;have U:=XW t;refine yo.round (g:=bC) mix s rfl kr kr kr ?_;simp only[go_sem,U];refine⟨by rw[zG ow];exact s,?_⟩;generalize hB:LRec.mk .busy _ _ _ _ _ _=B;have b4:({ B with st:= .ready,pending:=none } :LRec)=L:=by rw[<-hB,<-hL]
  obtain⟨S1,H,cs,bx,c9,bs,cw,ch,F,hw⟩:=Lp.open b6 cg ba c3 (.row (rJ t)) B;rw[cs];clear U cs hB;have d4:zM true 3 (rJ t) 0=some (.agg (rJ t)):=zB rfl ow;have e1:(rJ t)[0]? =some (.int .i64 (t.1:Int)):=rfl;have e2:(rJ t)[1]? =some (.int .i64 (t.2.1:Int)):=rfl;have e3:(rJ t)[2]? =some (.int .i64 (t.2.2:Int)):=rfl;have d0:bh al t.1=a.ts:=by simp[bh,Z]
  have cu:∀j,S1 j->j<h3.next:=λj hj=>y.here _ _ _ hw.1 j hj;have a2:=qZ hx p2;have c8:se fs t.2.1=fs[t.2.1].rel:=by simp[se,p2]
  have k3:fs[t.2.1].cells[3]? =some (.int .i64 fs[t.2.1].rel):=rfl;have v:∀ {fr:Frm} {G h7:Heap} {S5:Nat->Prop},G.at' w.next=some (.loop B)->But (λj=>j=w.next) h3 G->(∀j,S5 j->S1 j\/G.next<=j)->But S1 G h7->Y (yS (yA fs al) (wn c fs al) (k+1)) S5 h7->wh (LpK w.next L (WK m1 (.map (kmD (D.int .i64) M)) m2 (.map (kvD O)) λk=>Y (yS (yA fs al) (wn c fs al) k)) k S0 h3) w.next .normal fr h7:=λa1 a2 a3 a4 a5=>Lp.call b6 b4 ba c3 hw a1 a2 a3 a4 a5;rw[wL ht] at v;refine zU kr ?_;rw[<-c8] at k3;clear c8;cases c7:(se fs t.2.1==0) with
  |false=>
   have hv:wn c fs al t= []:=by unfold wn;rw[c7];rfl
   rw[hv,append_nil] at v;have ak:=λfr=>v (fr:=fr) bs cw (λj hj=> .inl hj) (But.refl S1 H) ch;clear hL b4 o hY hH cg s b7 ht ai v
   repeat' first|simp only[go_sem,ze, *]|apply bc<;>intro X
  |true=>
   have hv:wn c fs al t=(yA fs al).flatMap (tg c fs al t):=by unfold wn;rw[c7];rfl
   rw[hv] at v
   repeat' first|simp only[go_sem,ze,ng, *]|apply bc<;>intro X|(refine zA.mono (ai _) ?_;rintro r h ⟨hq,rfl⟩)
   subst hq
   rename Heap=>H
   generalize J:LRec.mk .ready _ _ _ _ _ _=L2;have c5:L2.pending=none:=by rw[<-J]
   have c6:L2.st= .ready:=by rw[<-J]
   have K:=y.lcl λk2=>yS (yA fs al) (wn c fs al) k++yS (yA fs al) (tg c fs al t) k2;have c2:¬S1 m1/\¬S1 m2:=hw.2.2.2.1;obtain⟨l,hl⟩:∃l:List (Nat×Obj),l= [(m1, .map (kmD (D.int .i64) M)),(m2, .map (kvD O)),(h3.next, .row (rJ t))]:=⟨_,rfl⟩;have V:∀p∈l,p.1<H.next/\H.at' p.1=some p.2/\¬S1 p.1:=by
    rw[hl];intro p R;simp only[mem_cons,not_mem_nil,or_false] at R;rcases R with rfl|rfl|rfl
    ·exact⟨F.2.1,F.1.1,c2.1⟩
    ·exact⟨F.2.2,F.1.2,c2.2⟩
    ·exact⟨by rw[bx];omega,c9,λe=>lt_irrefl _ (cu _ e)⟩
   have z:∀ {h:Heap},(∀p∈l,p.1<h.next/\h.at' p.1=some p.2)->StH M O m1 m2 h/\h3.next<h.next/\h.at' h3.next=some (.row (rJ t)):=by
    rw[hl];intro h R;have q1:=R (m1, .map (kmD (D.int .i64) M)) (by simp);have q2:=R (m2, .map (kvD O)) (by simp);have q3:=R (h3.next, .row (rJ t)) (by simp);exact⟨⟨⟨q1.2,q2.2⟩,q1.1,q2.1⟩,q3⟩
   clear hl;refine⟨⟨_,bs⟩,uS (W:=WL l λk2=>Y (yS (yA fs al) (wn c fs al) k++yS (yA fs al) (tg c fs al t) k2)) (n:=(yA fs al).length) (el:=elT (yA fs al)) (S:=λj=>(∃p∈l,j=p.1)\/S1 j) bx (WL.lcl K) c6 c5 ?_ (λyl b5=>re o yl (λk S h ⟨_,_,S0,hk,_⟩=>(z hk.st).1) b5) ?_ ?_⟩
   ·exact WL.start (by rw[show yS (yA fs al) (tg c fs al t) 0= [] from rfl,append_nil];exact ch) V
   ·intro k2 S3 h5 ds bb c1 dd c4;obtain⟨r,hr⟩:∃r,(yA fs al)[k2]? =some r:=⟨_,getElem?_eq_getElem ds⟩;have dk:(yA fs al).getD k2 (0,0,0)=r:=by rw[getD_eq_getElem?_getD,hr];rfl
    obtain⟨r1,r2,r3,b,ad⟩:=oL (mem_of_getElem? hr);simp only[elT,dk];have A:=c1;rw[<-J] at A;have U:=XW r;refine yo.round (g:=bC) mix A rfl kr kr kr ?_;simp only[go_sem,U];refine⟨by rw[zG ow];exact A,?_⟩;generalize cm:LRec.mk .busy _ _ _ _ _ _=B2;have a7:({ B2 with st:= .ready,pending:=none } :LRec)=L2:=by rw[<-cm,<-J]
    obtain⟨S4,H4,au,d1,b8,a0,a8,bk,I,q⟩:=Lp.openL K dd bb c4 (.row (rJ r)) B2;rw[au];clear au cm U;obtain⟨g1,g2,g3⟩:=z (h:=H4) λp R=>⟨by have:=(I p R).1;omega,(I p R).2⟩;have f:∀ {fr:Frm} {G h7:Heap} {S5:Nat->Prop},G.at' (h3.next+1)=some (.loop B2)->But (λj=>j=h3.next+1) h5 G->(∀j,S5 j->S4 j\/G.next<=j)->But S4 G h7->Y (yS (yA fs al) (wn c fs al) k++yS (yA fs al) (tg c fs al t) (k2+1)) S5 h7->wh (LpK (h3.next+1) L2 (WL l λk2=>Y (yS (yA fs al) (wn c fs al) k++yS (yA fs al) (tg c fs al t) k2)) k2 S3 h5) (h3.next+1) .normal fr h7:=λa1 a2 a3 a4 a5=>Lp.callL K a7 bb c4 q a1 a2 a3 a4 a5
    rw[wL hr] at f;have b1:=qZ hx p1;have b2:=qZ hx r1;have b3:=qZ hx r2;have o1:(rJ r)[0]? =some (.int .i64 (r.1:Int)):=rfl;have o2:(rJ r)[1]? =some (.int .i64 (r.2.1:Int)):=rfl;have o3:(rJ r)[2]? =some (.int .i64 (r.2.2:Int)):=rfl;have w1:wY fs t.1=fs[t.1].comp:=by simp[wY,p1]
    have w2:wY fs r.1=fs[r.1].comp:=by simp[wY,r1]
    have w3:se fs r.2.1=fs[r.2.1].rel:=by simp[se,r2]
    have k5:fs[t.1].cells[1]? =some (.str fs[t.1].comp):=rfl;have k6:fs[r.1].cells[1]? =some (.str fs[r.1].comp):=rfl;have k7:fs[r.2.1].cells[3]? =some (.int .i64 fs[r.2.1].rel):=rfl;rw[<-w1] at k5;rw[<-w2] at k6;rw[<-w3] at k7;clear w1 w2 w3;have db:(yS (yA fs al) (wn c fs al) k++yS (yA fs al) (tg c fs al t) k2).length<16777216:=by
     have q1:(yS (yA fs al) (wn c fs al) k).length<=k*4096:=by
      have:=qo (m:=4096) (l:=(yA fs al).take k) λt _=>bl c hn al t;rw[length_take] at this;exact le_trans this (Nat.mul_le_mul_right _ (Nat.min_le_left _ _))
     have q2:(yS (yA fs al) (tg c fs al t) k2).length<=k2*1:=by
      have:=qo (m:=1) (l:=(yA fs al).take k2) λr _=>bj c fs al t r;rw[length_take] at this;exact le_trans this (Nat.mul_le_mul_right _ (Nat.min_le_left _ _))
     rw[length_append];omega
    have N:=λS h hy=>y.go _ S h [(t.1:Int),(r.1:Int),(t.2.1:Int),(r.2.1:Int),(t.2.2:Int)] .full hy db (by simp) (by simp) (by
     intro n hn;simp only[mem_cons,not_mem_nil,or_false] at hn;rcases hn with rfl|rfl|rfl|rfl|rfl<;>exact Rs ow)
    simp only[nil_append,cons_append] at N;have u:=bs5 (t.1:Int) (r.1:Int) (t.2.1:Int) (r.2.1:Int) (t.2.2:Int);have P:=Ze o g1.1.1 p1 false;rw[Z] at P;replace P:yi prog 151 (.map m1) (.int .i64 (t.1:Int)) false H4=some a.d:=P;have Q:=Ze o g1.1.1 r1 false;rw[ad] at Q;replace Q:yi prog 151 (.map m1) (.int .i64 (r.1:Int)) false H4=some b.d:=Q;have da:bh al r.1=b.ts:=by simp[bh,ad]
    have cv:tg c fs al t r=if(!(Rt fs t r)&&Er c a.ts b.ts)=true then [[(t.1:Int),(r.1:Int),(t.2.1:Int),(r.2.1:Int),(t.2.2:Int)]] else []:=by unfold tg;rw[d0,da]
    rw[cv] at f;have ag:=My (rest:=[x, .map m1, .map m2]) X sm (o.alt _ _ Z) (o.alt _ _ ad) H4;obtain⟨q1,q2,_⟩:=zJ (o.alt _ _ Z).sl;obtain⟨q3,q4,_⟩:=zJ (o.alt _ _ ad).sl;have d3:h3.next<h5.next:=ow;clear hL b4 J a7 o hY hH cg s b7 ht ai c0 dt z V c1 A dd q I ch F v hv cv db;generalize h3.next=n3 at *
    generalize h5.next=n5 at *
    refine zO Heap.emp [(0, .no,false),(9, .no,false),(1, .no,false),(2, .no,false),(3, .no,false),(4, .no,false),(5, .no,false),(6, .no,false),(7, .no,false),(8, .no,false),(10, .no,false),(11, .no,false),(12, .no,false),(13, .no,false),(14, .no,false),(15, .no,false),(16, .no,false),(17, .no,false),(18, .no,false),(19, .no,false)] kr kr (λi ob e=>by cases e) ?_
    repeat' first|simp only[go_sem,ze, *]|apply bc<;>intro X
    refine pw (λC h'=>C 75= .bool (Rt fs t r)/\C 2= .iptr [.iptr [ca,cb,ce,cp,x, .map m1, .map m2] 0] 0/\C 3= .iptr [.fn (.func ff) [] cap] 0/\C 4= .ptr n3 0/\C 5= .ptr n5 0/\h'=H4) ?_ ?_
    ·refine zU kr ?_;unfold Rt;clear f N ag
     repeat' first|simp only[go_sem,ze, *]|apply bc<;>intro X
    rintro C G ⟨cl,f2,f3,f4,f5,rfl⟩;clear b1 b2 b3 k5 k6 k7 a2 k3;cases cf:Rt fs t r with
    |true=>
     rw[cf,iq (by simp),append_nil] at f;rw[cf] at cl;have ak:=λfr=>f (fr:=fr) a0 a8 (λj hj=> .inl hj) (But.refl S4 G) bk;clear f N ag
     repeat' first|simp only[go_sem, *]|apply bc<;>intro X
    |false=>
     rw[cf] at f cl
     repeat' first|simp only[go_sem, *]|apply bc<;>intro X
     refine zO Heap.emp [(0, .no,false),(1, .no,false),(8, .no,false),(2, .no,false),(3, .no,false),(4, .no,false),(5, .no,false),(6, .no,false),(7, .no,false),(9, .no,false),(10, .no,false),(11, .no,false),(12, .no,false),(13, .no,false),(14, .no,false),(15, .no,false)] kr kr (λi ob e=>by cases e) ?_
     repeat' first|simp only[go_sem,ze, *]|apply bc<;>intro X
     refine ag.mono ?_;rintro r' H5 ⟨E,rfl⟩;have b9:=(E.2 _ g2).trans g3;have cc:=(E.2 _ ow).trans b8;have a9:=a8.ext1 E;have a6:=(E.2 _ ow).trans a0;have bo:=y.ext bk E;cases hb:Er c a.ts b.ts with
     |false=>
      rw[hb,iq (by decide),append_nil] at f;have ak:=λfr=>f (fr:=fr) a6 a9 (λj hj=> .inl hj) (But.refl S4 H5) bo;clear f N ag
      repeat' first|simp only[go_sem, *]|apply bc<;>intro X
     |true=>
      rw[hb,ip (by decide)] at f;simp only[go_sem,f2,f3,f4,f5,b9,cc,e1,e2,e3,o1,o2,o3,u];refine(N _ _ bo).mono ?_;rintro r h7 ⟨S5,T,u,q⟩;rw[append_assoc] at q;exact f a6 a9 T u q
   ·intro S' h5 hs hb q;obtain⟨S5,T,u,di⟩:=WL.stop (λp R=>(V p R).2.1) (λj hj=>by rw[bx];exact hs j hj) hb q;rw[uW] at di;have ak:=λfr=>v (fr:=fr) bs cw T u di;simp only[go_sem];exact ak _
 ·intro S2 h5 hs hb hw;obtain⟨S5,T,u,q⟩:=WK.stop hH.1.1 hH.1.2 hs hb hw;rw[uW] at q;simp only[go_sem];exact⟨S5,T,u,q⟩
def Et (g:Fac) (h:Heap):zA prog 281 [.agg g.cells] h λr h'=>h'=h/\r= .bool true:=by
 refine xO mix func281 AL rfl rfl ?_;simp only[f281,gJ];exact au
def Eu (g:Fac) (h:Heap):zA prog 283 [.agg g.cells] h λr h'=>h'=h/\r= .bool true:=by
 refine xO mix func283 zEi rfl rfl ?_;simp only[f283,gJ];exact au
def Ev (b:sc[4]? =some x) (c:zZ 12 (nb fs) x) {u:Nat} (a:u<fs.length) (g:Fac) (f:h.at' id=some (.row [.int .i64 (u:Int)])):
  zA prog 282 [.agg g.cells, .iptr [.iptr sc 0] 0, .ptr id 0] h λr h'=>h'=h/\r= .bool (g.out==we fs u):=by
 have k1:fs[u].cells[2]? =some (.str fs[u].out):=rfl;have k2:g.cells[2]? =some (.str g.out):=rfl;have d:=qZ c a;have j:we fs u=fs[u].out:=by simp[we,a]
 refine xO mix func282 Ai rfl rfl ?_;simp only[f282,gJ];simp only[go_sem, *];refine zO Heap.emp [(2, .no,false),(6, .no,false),(0, .no,false),(1, .no,false),(3, .no,false),(4, .no,false),(5, .no,false),(7, .no,false),(8, .no,false),(9, .no,false),(10, .no,false),(11, .no,false)] kr kr (λi k e=>by cases e) ?_;simp only[go_sem,ze, *]
def TV (fs:List Fac) (i:Nat):List (List UInt8):=match fs[i]? with
 |some f=>f.list
 |none=>[]
abbrev oz (fs:List Fac):List Nat:=fIx 3 (λ_=>true) fs
abbrev dL (fs:List Fac):List Nat:=fIx 2 (λ_=>true) fs
def dM (i h:Nat):List (List Int):=[[(i:Int),(h:Int)]]
def rg (fs:List Fac) (O:KV) (i:Nat):List (List Int):=match kC (we fs i) O with
 |none=>[]
 |some own=>if((TV fs i).any λs=>s==own)=true then [] else(rK fs i).flatMap (dM i)
def XZ (b:fs.length<=16) (O:KV) (i:Nat):(rg fs O i).length<=16:=by
 unfold rg;split
 ·simp
 ·split
  ·simp
  ·have h1:=qo (m:=1) (l:=rK fs i) λh _=>(show(dM i h).length<=1 from le_refl _)
   have a:(rK fs i).length<=fs.length:=qT _ fs 0;omega
theorem zA7 {M:KM Int} {O:KV} {m1 m2:Nat} (hs:Stt c fs al M O sc m1 m2) (hn:fs.length<=16)
  {ff:FuncId} {Y:List (List Int)->(Nat->Prop)->Heap->Prop} (y:Fnd2 prog 5 ff cap Y) {w:Heap} (hY:Y [] S w) (hH:StH M O m1 m2 w) (n1:¬S m1) (n2:¬S m2):
  zA prog 219 [.iptr sc 0, .fn (.func ff) [] cap] w λ_ h'=>∃S',(∀i,S' i->S i\/w.next<=i)/\But S w h'/\Y ((oz fs).flatMap (rg fs O)) S' h':=by
 have X:=hs;obtain⟨⟨ca,cb,ce,cp,x,rfl,hc,hx,_⟩,sm,dd,c6,db,halt⟩:=hs;have F:=λg=>kJ [ca,cb,ce,cp,x, .map m1, .map m2] 3 (hf:= .fn (.func 281) [] []) ⟨_,_,_,rfl⟩ g;refine xO mix func219 AG rfl rfl ?_;simp only[f219,gJ]
 repeat' first|simp only[go_sem,oK, *]|apply bc<;>intro hc|(refine zA.mono (F _) ?_;rintro r h ⟨hq,rfl⟩)
 subst hq
 rename Heap=>w
 generalize hL:LRec.mk _ _ _ _ _ _ _=L;have c7:L.pending=none:=by rw[<-hL]
 have c8:L.st= .ready:=by rw[<-hL]
 have bb:=y.lcl λk=>yS (oz fs) (rg fs O) k;refine uS (W:=WK m1 (.map (kmD (D.int .i64) M)) m2 (.map (kvD O)) λk=>Y (yS (oz fs) (rg fs O) k)) (n:=(oz fs).length) (el:=elI (oz fs)) (S:=λj=>j=m1\/j=m2\/S j) rfl (WK.lcl bb) c8 c7 ?_ (λyl ba=>oe (sc:=[ca,cb,ce,cp,x, .map m1, .map m2]) rfl hx ow X.ok yl (R:=λj=>False) (λ_ h=>h.elim) (λg hg h2 hr=>Et g h2) ba) ?_ ?_
 ·exact WK.start hY hH.2.1 hH.2.2 hH.1.1 hH.1.2 n1 n2
 ·intro k S0 h3 hk ag bs bx ch;obtain⟨t,ht⟩:∃t,(oz fs)[k]? =some t:=⟨_,getElem?_eq_getElem hk⟩;have c2:(oz fs).getD k 0=t:=by rw[getD_eq_getElem?_getD,ht];rfl
  have p1:t<fs.length:=by
   have:=(uG _ fs 0 t (mem_of_getElem? ht)).2;omega
  simp only[elI,c2];have b:=bs;rw[<-hL] at b;have a0:zP prog 3 (.ptr h3.next 0) (.int .i64 (t:Int)) (h3.new h3.next (.row [.int .i64 0]))=some (h3.new h3.next (.row [.int .i64 (t:Int)])):=by
   rw[zS (zK _ _ _) wc (by simp) rfl rfl,nU];rfl
  refine yo.round (g:=bD) mix b rfl kr kr kr ?_;simp only[go_sem,a0];refine⟨by rw[zG ow];exact b,?_⟩;generalize hB:LRec.mk .busy _ _ _ _ _ _=B;have a9:({ B with st:= .ready,pending:=none } :LRec)=L:=by rw[<-hB,<-hL]
  obtain⟨S1,H,b3,a8,P,a7,b9,Z,a6,hw⟩:=Lp.open bb bx ag ch (.row [.int .i64 (t:Int)]) B;rw[b3];clear a0 b3 hB;have b8:∀j,S1 j->j<h3.next:=λj hj=>y.here _ _ _ hw.1 j hj;have b1:=qZ hx p1;have cm:we fs t=fs[t].out:=by simp[we,p1]
  have cg:TV fs t=fs[t].list:=by simp[TV,p1]
  have q:∀ {fr:Frm} {G h7:Heap} {S5:Nat->Prop},G.at' w.next=some (.loop B)->But (λj=>j=w.next) h3 G->(∀j,S5 j->S1 j\/G.next<=j)->But S1 G h7->Y (yS (oz fs) (rg fs O) (k+1)) S5 h7->wh (LpK w.next L (WK m1 (.map (kmD (D.int .i64) M)) m2 (.map (kvD O)) λk=>Y (yS (oz fs) (rg fs O) k)) k S0 h3) w.next .normal fr h7:=λa1 a2 a3 a4 a5=>Lp.call bb a9 ag ch hw a1 a2 a3 a4 a5;rw[wL ht] at q;have k1:fs[t].cells[2]? =some (.str fs[t].out):=rfl;have k2:fs[t].cells[8]? =some (.int .i64 0)\/True:= .inr trivial;have k8:fs[t].cells[11]? =some fs[t].d:=rfl;have b2:=c6 _ (getElem_mem p1);have bk:=pF b2.list b2.ll
  obtain⟨q1,q2,_⟩:=zJ b2.list;have u:=Mt a6.1.2 (we fs t) true;have o:rg fs O t=match kC (we fs t) O with
   |none=>[]
   |some own=>if(fs[t].list.any λs=>s==own)=true then [] else(rK fs t).flatMap (dM t):=by unfold rg;rw[cg]
  rw[<-cm] at k1;clear cm cg k2;generalize fs[t]=f at *
  refine zO Heap.emp [(0, .no,false),(4, .no,false),(8, .no,false),(1, .no,false),(2, .no,false),(3, .no,false),(5, .no,false),(6, .no,false),(7, .no,false),(9, .no,false),(10, .no,false),(11, .no,false),(12, .no,false),(13, .no,false),(14, .no,false),(15, .no,false),(16, .no,false),(17, .no,false)] kr kr (λi ob e=>by cases e) ?_;have a:rg fs O t= []->∀fr,wh (LpK w.next L (WK m1 (.map (kmD (D.int .i64) M)) m2 (.map (kvD O)) λk=>Y (yS (oz fs) (rg fs O) k)) k S0 h3) w.next .normal fr H:=λe fr=>by
   rw[e,append_nil] at q;exact q a7 b9 (λj hj=> .inl hj) (But.refl S1 H) Z
  cases N:kC (we fs t) O with
  |none=>
   rw[N] at u o;replace u:yi prog 152 (.map m2) (.str (we fs t)) true H=some (.tuple [.str [], .bool false]):=u;have bo:=a o;clear hL a9 X hY hH bx b bs ht F q a o N Z a6
   repeat' first|simp only[go_sem,ze, *]|apply bc<;>intro
   refine zO Heap.emp [(0, .no,false),(1, .no,false),(2, .no,false),(3, .no,false),(7, .no,false),(4, .no,false),(5, .no,false),(6, .no,false),(8, .no,false),(9, .no,false),(10, .no,false),(11, .no,false),(12, .no,false),(13, .no,false)] kr kr (λi ob e=>by cases e) ?_
   repeat' first|simp only[go_sem,ze, *]|apply bc<;>intro hc
  |some own=>
   rw[N] at u o;replace u:yi prog 152 (.map m2) (.str (we fs t)) true H=some (.tuple [.str own, .bool true]):=u;cases J:f.list.any λs=>s==own with
   |true=>
    have bo:=a (by rw[o];simp only[J,if_true]);clear hL a9 X hY hH bx b bs ht F q a o N Z a6;have E:=bk own H;rw[J] at E
    repeat' first|simp only[go_sem,ze, *]|apply bc<;>intro
    refine zO Heap.emp [(0, .no,false),(1, .no,false),(2, .no,false),(3, .no,false),(7, .no,false),(4, .no,false),(5, .no,false),(6, .no,false),(8, .no,false),(9, .no,false),(10, .no,false),(11, .no,false),(12, .no,false),(13, .no,false)] kr kr (λi ob e=>by cases e) ?_
    repeat' first|simp only[go_sem,ze, *]|apply bc<;>intro hc|(refine zA.mono E ?_;rintro r h ⟨hq,rfl⟩)
   |false=>
    have ak:rg fs O t=(rK fs t).flatMap (dM t):=by rw[o];simp only[J,Bool.false_eq_true,if_false]
    rw[ak] at q;have E:=bk own H;rw[J] at E;clear a o ak N bk J;have c1:=λg=>kJ [ca,cb,ce,cp,x, .map m1, .map m2] 2 (hf:= .fn (.func 282) [] [.iptr [.iptr [ca,cb,ce,cp,x, .map m1, .map m2] 0] 0, .ptr h3.next 0]) ⟨_,_,_,rfl⟩ g
    repeat' first|simp only[go_sem,ze, *]|apply bc<;>intro
    refine zO Heap.emp [(0, .no,false),(1, .no,false),(2, .no,false),(3, .no,false),(7, .no,false),(4, .no,false),(5, .no,false),(6, .no,false),(8, .no,false),(9, .no,false),(10, .no,false),(11, .no,false),(12, .no,false),(13, .no,false)] kr kr (λi ob e=>by cases e) ?_
    repeat' first|simp only[go_sem,ze, *]|apply bc<;>intro hc|(refine zA.mono E ?_;rintro r h ⟨hq,rfl⟩)
    subst hq
    rename Heap=>H
    repeat' first|simp only[go_sem,oK, *]|apply bc<;>intro hc|(refine zA.mono (c1 _) ?_;rintro r h ⟨hq,rfl⟩)
    subst hq
    rename Heap=>H
    generalize U:LRec.mk .ready _ _ _ _ _ _=L2;have cs:L2.pending=none:=by rw[<-U]
    have cu:L2.st= .ready:=by rw[<-U]
    have A:=y.lcl λk2=>yS (oz fs) (rg fs O) k++yS (rK fs t) (dM t) k2;obtain⟨l,hl⟩:∃l:List (Nat×Obj),l= [(h3.next, .row [.int .i64 (t:Int)])]:=⟨_,rfl⟩;have au:∀p∈l,p.1<H.next/\H.at' p.1=some p.2/\¬S1 p.1:=by
     rw[hl];intro p hp;cases mem_singleton.1 hp;exact⟨by rw[a8];omega,P,λe=>lt_irrefl _ (b8 _ e)⟩
    have I:∀ {h:Heap},(∀p∈l,p.1<h.next/\h.at' p.1=some p.2)->h3.next<h.next/\h.at' h3.next=some (.row [.int .i64 (t:Int)]):=by
     rw[hl];exact λhp=>hp (h3.next, .row [.int .i64 (t:Int)]) (by simp)
    clear hl;refine⟨⟨_,a7⟩,uS (W:=WL l λk2=>Y (yS (oz fs) (rg fs O) k++yS (rK fs t) (dM t) k2)) (n:=(rK fs t).length) (el:=elI (rK fs t)) (S:=λj=>(∃p∈l,j=p.1)\/S1 j) a8 (WL.lcl A) cu cs ?_ (λyl ba=>oe (sc:=[ca,cb,ce,cp,x, .map m1, .map m2]) rfl hx ow X.ok yl (R:=λj=>j=h3.next) ?_ (λg hg h2 hr=> ?_) ba) ?_ ?_⟩
    ·exact WL.start (by rw[show yS (rK fs t) (dM t) 0= [] from rfl,append_nil];exact Z) au
    ·rintro j rfl;refine⟨by rw[zo _ ow];omega, .inr ?_⟩;rintro k S2 h2 ⟨_,_,S0,hk,_⟩;rw[(I hk.st).2,zG ow,P]
    ·exact(Ev (sc:=[ca,cb,ce,cp,x, .map m1, .map m2]) rfl hx p1 g (by rw[hr _ rfl,zG ow,P])).mono λr h3 e=>e
    ·intro k2 S3 h5 c4 ai c5 da cl;obtain⟨v,hv⟩:∃v,(rK fs t)[k2]? =some v:=⟨_,getElem?_eq_getElem c4⟩;have c3:(rK fs t).getD k2 0=v:=by rw[getD_eq_getElem?_getD,hv];rfl
     have di:v<fs.length:=by
      have:=(uG _ fs 0 v (mem_of_getElem? hv)).2;omega
     simp only[elI,c3];have K:=c5;rw[<-U] at K;refine yo.round (g:=bD) mix K rfl kr kr kr ?_;simp only[go_sem];refine⟨K,?_⟩;generalize cw:LRec.mk .busy _ _ _ _ _ _=B2;have b7:({ B2 with st:= .ready,pending:=none } :LRec)=L2:=by rw[<-cw,<-U]
     obtain⟨S4,H4,b4,b6,b5,cc,cv,ad,z⟩:=Lp.openL0 A da ai cl B2;rw[b4];obtain⟨g2,g3⟩:=I (h:=H4) λp hp=>⟨by rw[b6];exact(ad p hp).1,(ad p hp).2⟩;have c9:(yS (oz fs) (rg fs O) k++yS (rK fs t) (dM t) k2).length<16777216:=by
      have q1:=pQ (V:=rg fs O) (l:=oz fs) (m:=16) (λt _=>XZ hn O t) k;have q2:=pQ (V:=dM t) (l:=rK fs t) (m:=1) (λk _=>le_refl _) k2;have q3:(rK fs t).length<=fs.length:=qT _ fs 0;have q4:(oz fs).length<=fs.length:=qT _ fs 0;rw[length_append];omega
     have cf:=y.go _ S4 H4 [(t:Int),(v:Int)] .full cv c9 (by simp) (by simp) (by
      intro n hn;simp only[mem_cons,not_mem_nil,or_false] at hn;rcases hn with rfl|rfl<;>exact Rs ow)
     simp only[nil_append,cons_append] at cf;have c0:=bs2 (t:Int) (v:Int);simp only[go_sem,c0,g3];refine cf.mono ?_;rintro r h7 ⟨S5,Q,C,T⟩;rw[append_assoc] at T;refine Lp.callL A b7 ai cl z b5 cc Q C ?_;rw[wL hv];exact T
    ·intro S' h5 hs hb z;obtain⟨S5,Q,C,T⟩:=WL.stop (λp hp=>(au p hp).2.1) (λj hj=>by rw[a8];exact hs j hj) hb z;rw[uW] at T;have bo:=λfr=>q (fr:=fr) a7 b9 Q C T;simp only[go_sem];exact bo _
 ·intro S2 h5 hs hb hw;obtain⟨S5,Q,C,z⟩:=WK.stop hH.1.1 hH.1.2 hs hb hw;rw[uW] at z;simp only[go_sem];exact⟨S5,Q,C,z⟩
def Xa (h:Nat):List (List Int):=[[(h:Int)]]
def dN (c:Cat) (fs:List Fac):List (List Int):=if decide ((c.ls.length:Int)>0)=true then [] else(dL fs).flatMap Xa
def zA8 {M:KM Int} {O:KV} {m1 m2:Nat} (C:Stt c fs al M O sc m1 m2) (hn:fs.length<=16)
  {ff:FuncId} {Y:List (List Int)->(Nat->Prop)->Heap->Prop} (y:Fnd2 prog 5 ff cap Y) {w:Heap} (hY:Y [] S w) (hH:StH M O m1 m2 w) (n1:¬S m1) (n2:¬S m2):
  zA prog 220 [.iptr sc 0, .fn (.func ff) [] cap] w λ_ h'=>∃S',(∀i,S' i->S i\/w.next<=i)/\But S w h'/\Y (dN c fs) S' h':=by
 have X:=C;obtain⟨⟨ca,cb,ce,cp,x,rfl,hc,hx,K⟩,sm,a0,a5,au,halt⟩:=C;have a4:=qz K;have d:=λg=>kJ [ca,cb,ce,cp,x, .map m1, .map m2] 2 (hf:= .fn (.func 283) [] []) ⟨_,_,_,rfl⟩ g;refine xO mix func220 Ae rfl rfl ?_;simp only[f220,gJ];cases hd:decide ((c.ls.length:Int)>0) with
 |true=>
  have b:dN c fs= []:=by unfold dN;rw[hd];rfl
  have a3:∃S',(∀i,S' i->S i\/w.next<=i)/\But S w w/\Y (dN c fs) S' w:=⟨S,λi hi=> .inl hi,But.refl S w,by rw[b];exact hY⟩;clear b d
  repeat' first|simp only[go_sem,ze, *]|apply bc<;>intro hc
 |false=>
  have b:dN c fs=(dL fs).flatMap Xa:=by unfold dN;rw[hd];rfl
  rw[b];clear b
  repeat' first|simp only[go_sem,ze,oK, *]|apply bc<;>intro hc|(refine zA.mono (d _) ?_;rintro r h ⟨hq,rfl⟩)
  subst hq
  rename Heap=>w
  generalize A:LRec.mk _ _ _ _ _ _ _=L;have T:L.pending=none:=by rw[<-A]
  have U:L.st= .ready:=by rw[<-A]
  have o:=y.lcl λk=>yS (dL fs) Xa k;obtain⟨l,hl⟩:∃l:List (Nat×Obj),l= []:=⟨_,rfl⟩;have f:∀p∈l,p.1<w.next/\w.at' p.1=some p.2/\¬S p.1:=by rw[hl];intro p Q;cases Q
  clear hl;refine uS (W:=WL l λk=>Y (yS (dL fs) Xa k)) (n:=(dL fs).length) (el:=elI (dL fs)) (S:=λj=>(∃p∈l,j=p.1)\/S j) rfl (WL.lcl o) U T (WL.start hY f) (λyl G=>oe (sc:=[ca,cb,ce,cp,x, .map m1, .map m2]) rfl hx ow X.ok yl (R:=λj=>False) (λ_ h=>h.elim) (λg hg h2 hr=>Eu g h2) G) ?_ ?_
  ·intro k S0 h3 hk e P ag v;obtain⟨t,Z⟩:∃t,(dL fs)[k]? =some t:=⟨_,getElem?_eq_getElem hk⟩;have N:(dL fs).getD k 0=t:=by rw[getD_eq_getElem?_getD,Z];rfl
   have p1:t<fs.length:=by
    have:=(uG _ fs 0 t (mem_of_getElem? Z)).2;omega
   simp only[elI,N];have a:=P;rw[<-A] at a;refine yo.round (g:=Yc) mix a rfl kr kr kr ?_;simp only[go_sem];refine⟨a,?_⟩;generalize hB:LRec.mk .busy _ _ _ _ _ _=B;have F:({ B with st:= .ready,pending:=none } :LRec)=L:=by rw[<-hB,<-A]
   obtain⟨S1,H,D,a2,E,J,ak,a1,hw⟩:=Lp.openL0 o ag e v B;rw[D];have ad:(yS (dL fs) Xa k).length<16777216:=by
    have q2:=pQ (V:=Xa) (l:=dL fs) (m:=1) (λk _=>le_refl _) k;have q3:(dL fs).length<=fs.length:=qT _ fs 0;omega
   have u:=y.go _ S1 H [(t:Int)] .full ak ad (by simp) (by simp) (by
    intro n hn;cases mem_singleton.1 hn;exact Rs ow)
   simp only[nil_append,cons_append] at u;have I:=bs1 (t:Int);simp only[go_sem,I];refine u.mono ?_;rintro r h7 ⟨S5,s,q,ai⟩;refine Lp.callL o F e v hw E J s q ?_;rw[wL Z];exact ai
  ·intro S2 h5 C hb hw;obtain⟨S5,s,q,z⟩:=WL.stop (λp Q=>(f p Q).2.1) C hb hw;rw[uW] at z;simp only[go_sem];exact⟨S5,s,q,z⟩
end Go.V
