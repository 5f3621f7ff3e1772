/- None, part 2. No condition. -/
import Derived.Test.YtkenagjlanhnmaaGreatDoorW38
import Derived.Test.YtkenagjlanhnmaaGreatDoorW21
set_option linter.all false
set_option maxHeartbeats 8000000
namespace Go.V
set_option maxRecDepth 100000
variable{c:Cat}{fs:List Fac}{i sz n k:Nat}{la:List Alt}{P:Program}{h0 h g:Heap}{xs ys:List (List D)}{d x:D}{K:D->Heap->Prop}{cs:List D}{tk:Tk}
def aH(h:(yV c fs).2.2=0):(yV c fs).2.1=rV fs []:=by
 unfold yV at h⊢;by_cases q:(!((wb c fs).2==0))=true
 .rw[ip q]at h
  have:(wb c fs).2≠0:=by simpa using q
  exact absurd h this
 .rw[iq q]at h⊢
  exact(kS h).2
def zE2:Alt:=⟨[],.nilsl⟩
structure Gap(T:List Alt)(O:List (List UInt8))(y:Cho):Prop where
 tl:T.length=y.ts.length
 ol:O.length=y.own.length
 ts:∀(i:Nat) a,T[i]? =some a->a=zE2\/y.ts[i]? =some a
 own:∀(i:Nat) s,O[i]? =some s->s= []\/y.own[i]? =some s
section
variable{c:Cat}{fs:List Fac}{y:Cho}{T:List Alt}{O:List (List UInt8)}
def Gap.al(S:Gap T O y){a:Alt}(h:alS fs ⟨T,O⟩ i=some a):alS fs y i=some a:=by
 unfold alS at h⊢;cases hf:fs[i]? with
 |none=>rw[hf]at h;cases h
 |some f=>
  rw[hf]at h;simp only at h⊢;split at h
  .rename_i j
   rw[ip j];split at h
   .rename_i g
    have c:=yE g;have e:lW y (dX fs i)=lW ⟨T,O⟩ (dX fs i):=by
     unfold lW;show y.ts.getD _ _=T.getD _ _;rw[zE,zE];cases d:T[dX fs i]? with
     |none=>
      have:lW ⟨T,O⟩ (dX fs i)=mkA []:=by unfold lW;show T.getD _ _=_;rw[zE,d];rfl
      rw[this]at c;simp[mkA]at c
     |some b=>
      have:lW ⟨T,O⟩ (dX fs i)=b:=by unfold lW;show T.getD _ _=_;rw[zE,d];rfl
      rw[this]at c;rcases S.ts _ b d with rfl|q
      .simp[zE2]at c
      .rw[q]
    rw[e,ip g];exact h
   .cases h
  .cases h
def Gap.get(S:Gap T O y){o w:List UInt8}(h:p8 o (yt ⟨T,O⟩ fs fs.length).O=some w):p8 o (yt y fs fs.length).O=some w:=by
 rw[Mc _ (zC _),cX _ (zC _)]at h⊢;unfold A4 at h⊢;generalize rV (fs.take fs.length) []=a at *
 split at h
 .rename_i q
  cases h;have e:jR y (a.findIdx λz=>z==o)=jR ⟨T,O⟩ (a.findIdx λz=>z==o):=by
   have b:=q.2;unfold jR at b⊢;have b:O.getD (a.findIdx λz=>z==o) []≠[]:=b;show y.own.getD _ _=O.getD _ _;rw[zE]at b⊢;rw[zE];cases c:O[a.findIdx λz=>z==o]? with
   |none=>rw[c]at b;exact absurd rfl b
   |some s=>
    rw[c]at b;rcases S.own _ s c with rfl|p
    .exact absurd rfl b
    .rw[p]
  rw[e,ip q]
 .cases h
end
variable{fs:List Fac}{c:Cat}
def TriP.more{al al':Nat->Option Alt}(b:∀i a,al' i=some a->al i=some a){i u h:Nat}(T:TriP fs al' i u h):TriP fs al i u h/\Zx al' i=Zx al i:=by
 obtain⟨a,e⟩:=uf.1 T.al;have e2:=b i a e;refine⟨⟨T.lt,by rw[e2];rfl,T.ku,T.cu,T.kh,T.oh⟩,?_⟩;unfold Zx;rw[e,e2]
def dR.more{al al':Nat->Option Alt}{O O':KV}(g:∀i a,al' i=some a->al i=some a)(n:∀o w,p8 o O'=some w->p8 o O=some w){r:Nat}{l:List Nat}(hr:dR c fs al' O' r l):dR c fs al O r l:=by
 rcases r with _|_|_|_|_|r
 .have hr:dR c fs al' O' 0 l:=hr
  show dR c fs al O 0 l;simp only[dR]at hr⊢;obtain⟨i,u,h,T,f,e⟩:=hr;obtain⟨b,e2⟩:=T.more g;exact⟨i,u,h,b,by rw[<-e2];exact f,e⟩
 .have hr:dR c fs al' O' 1 l:=hr
  show dR c fs al O 1 l;simp only[dR]at hr⊢;obtain⟨i,u,h,own,T,m,f,e⟩:=hr;obtain⟨b,e2⟩:=T.more g;exact⟨i,u,h,own,b,n _ _ m,by rw[<-e2];exact f,e⟩
 .have hr:dR c fs al' O' 2 l:=hr
  show dR c fs al O 2 l;simp only[dR]at hr⊢;obtain⟨i,u,h,k,T,v,s,f,e⟩:=hr;obtain⟨b,e2⟩:=T.more g;exact⟨i,u,h,k,b,v,s,by rw[<-e2];exact f,e⟩
 .have hr:dR c fs al' O' 3 l:=hr
  show dR c fs al O 3 l;simp only[dR]at hr⊢;obtain⟨i,u,h,x,y,h',T,p,j,f,e⟩:=hr;obtain⟨b,e2⟩:=T.more g;obtain⟨q,e3⟩:=p.more g;exact⟨i,u,h,x,y,h',b,q,j,by rw[<-e2,<-e3];exact f,e⟩
 .have hr:dR c fs al' O' 4 l:=hr
  show dR c fs al O 4 l;simp only[dR]at hr⊢;obtain⟨i,h,own,t,m,d⟩:=hr;exact⟨i,h,own,t,n _ _ m,d⟩
 .exact hr
def Gap.vios{y:Cho}{O:List (List UInt8)}(S:Gap la O y){v:Vio}(b:v∈pq c fs ⟨la,O⟩):v∈pq c fs y:=by
 rw[TT]at b⊢;obtain⟨i,h1,d,l,h3,e⟩:=b;exact⟨i,h1,d,l,h3.more (λi a=>S.al) (λo w=>S.get),e⟩
@[go_sem ↓] def zIf(i o:Nat):qL (.ptr i o)=some (.ptr i o):=(rfl)
@[go_sem ↓] def zHY(cs:List D)(o:Nat):qL (.iptr cs o)=some (.iptr cs o):=(rfl)
def Own.appI{t e:TypeId}{w:HidR K}(a:Own h0 h sz xs d)(m:uu P t=some e)(s:YE P e=true)(p:szT P e=sz)(A:0<sz)(l:∀y∈ys,y.length=sz)(k:yZ sz ys x)
  (v:(xs.length+ys.length)*uF P e<=lim) (z:xs.length+ys.length<=lim) (u:∀g h',Own h0 h' sz (xs++ys) g->K g h'):Hk (qS P false h.next t d x h) K w:=by
 have key:∀x,((x=.nilsl/\ys= [])\/(ys≠[]/\∃tk,x=.sl sz ys tk))->onR (qS P false h.next t d x h) K:=λx k=>
  a.2.1.app3 m s p A l k v z λg h' o n b tk c f=>u g h' ⟨⟨zb a.1.1 n,λi j=>by rw[b i (zl j a.1.1) (λq=>by have:=a.2.2 i q;omega)];exact a.1.2 i j⟩,o,λi j=>zb a.1.1 (tk i j)⟩
 rcases k with⟨rfl,rfl⟩ | ⟨tk,rfl⟩
 .exact key _ (.inl ⟨rfl,rfl⟩)
 .by_cases r:ys= []
  .subst r
   have:qS P false h.next t d (.sl sz [] tk) h=qS P false h.next t d .nilsl h:=by simp[qS,m,s,p,TR]
   show onR _ K;rw[this];exact key _ (.inl ⟨rfl,rfl⟩)
  .exact key _ (.inr ⟨r,tk,rfl⟩)
open Go.Proofs.Tryz
open Go.Proofs
abbrev tV(c:Cat)(fs:List Fac):List (List (List Trm)):=(yV c fs).1
abbrev oV(c:Cat)(fs:List Fac):List (List UInt8):=(yV c fs).2.1
structure Part where
 ts:List (List Trm)
 own:List (List UInt8)
def jy:List Trm->Alt
 | []=>zE2
 |t::ts=>mkA (t::ts)
def Yj(t:List Trm):(jy t).ts=t:=by cases t<;>rfl
def KY(t:List Trm):yZ 2 (wj t) (jy t).d:=by
 cases t
 .exact yZ.nil
 .exact yZ.mk .no
def aX(t:List Trm):uA [(jy t).d]:=by
 cases t
 .exact⟨rfl,by simp[jy,zE2,qC,below],rfl⟩
 .exact bf _
def jl(p:Part):Cho:=⟨p.ts.map jy,p.own⟩
abbrev tsD(p:Part):D:=.sl 1 (qT (p.ts.map jy)) .no
abbrev owD(p:Part):D:=.sl 1 (wg p.own) .no
def szV(c:Cat)(fs:List Fac)(v:Nat):Nat:=if v<(tV c fs).length then((tV c fs).getD v []).length else c.ls.length
def deV(c:Cat)(fs:List Fac)(p:Part)(v:Nat):Bool:=if v<(tV c fs).length then decide (0<(p.ts.getD v []).length)else !(p.own.getD (v- (tV c fs).length) []== [])
def ctV(c:Cat)(fs:List Fac):Nat:=(tV c fs).length+(oV c fs).length
def pu(c:Cat)(fs:List Fac)(p:Part)(v k:Nat):Part:=if v<(tV c fs).length then⟨p.ts.set v (((tV c fs).getD v []).getD k []),p.own⟩else⟨p.ts,p.own.set (v- (tV c fs).length) ((c.ls.map Lic.name).getD k [])⟩
def pI(c:Cat)(fs:List Fac)(p:Part)(v:Nat):Bool:=decide (1<szV c fs v)&& !(deV c fs p v)
def nxV(c:Cat)(fs:List Fac)(p:Part):Option Nat:=(List.range (ctV c fs)).find? (pI c fs p)
structure SpD(c:Cat)(fs:List Fac)(ca cb ce cp x td od:D):Prop where
 cat:uB c (.agg [ca,cb,ce,cp])
 sm:c.Sm
 x:yZ 12 (sL fs) x
 few:Hp fs
 ok:∀f∈fs,f.Ok
 v0:(yV c fs).2.2=0
 t:yZ 1 (Wr (tV c fs)) td
 o:yZ 1 (wg (oV c fs)) od
 tl:(tV c fs).length<=300
 ol:(oV c fs).length<=300
 t64:∀a∈tV c fs,a.length<=64/\AltsOk 64 a
structure POk(c:Cat)(fs:List Fac)(p:Part):Prop where
 tl:p.ts.length=(tV c fs).length
 ol:p.own.length=(oV c fs).length
 t:∀(i:Nat) a,p.ts[i]? =some a->a= []\/a∈(tV c fs).getD i []
 o:∀s∈p.own,s= []\/∃x∈c.ls,x.name=s
section
variable{c:Cat}{fs:List Fac}{ca cb ce cp x td od:D}
def FB(a:List (List Trm))(h:Heap):o9 prog 44 (Qs a) h=some (.int .i64 a.length):=by
 have:=uh (l:=a.map mkA) (yZ.mk .no) h
 rwa [zI]at this
def UL(S:SpD c fs ca cb ce cp x td od)(v:Nat)(g:Heap):zD prog 92 [.iptr [ca,cb,ce,cp,x,td,od] 0,.int .i64 (v:Int)] g λr h'=>h'=g/\r=.int .i64 (szV c fs v:Int):=by
 have k:=jK S.t;obtain⟨_,_,_,_,e,d,_,_,_⟩:=S.cat;cases e;have h:=rF d;have i:=FB;by_cases a:v<(tV c fs).length
 .have f:decide ((v:Int)<((tV c fs).length:Int))=true:=zR ow
  have b:szV c fs v=(tV c fs)[v].length:=by unfold szV;rw[ip a,zE,zB a];rfl
  have j:=UD S.t a;rw[b];refine zj zLV ?_;simp only[f92,zA];exact au
 .have f:decide ((v:Int)<((tV c fs).length:Int))=false:=zN ow
  have b:szV c fs v=c.ls.length:=by unfold szV;rw[iq a]
  rw[b];refine zj zLV ?_;simp only[f92,zA];exact au
def UK(S:SpD c fs ca cb ce cp x td od)(g:Heap):zD prog 150 [.iptr [ca,cb,ce,cp,x,td,od] 0] g λr h'=>h'=g/\r=.int .i64 (ctV c fs:Int):=by
 have b:=jK S.t;have a:=wO S.o;have d:IntKind.i64.wrap (((tV c fs).length:Int)+((oV c fs).length:Int))=(ctV c fs:Int):=by unfold ctV;have:=S.tl;have:=S.ol;rw[qP ow ow];omega
 refine zj zFQ ?_;simp only[f150,zA];simp only[go_sem, *];refine yJ kr ?_;exact au
variable{p:Part}
def W0(S:SpD c fs ca cb ce cp x td od)(e:POk c fs p){v:Nat}(o:v<ctV c fs)(g:Heap):zD prog 151 [.iptr [ca,cb,ce,cp,x,td,od] 0,.agg [tsD p,owD p],.int .i64 (v:Int)] g λr h'=>h'=g/\r=.bool (deV c fs p v):=by
 have s:=jK S.t;have n:=e.tl;have m:=e.ol;unfold ctV at o;have s1:=S.tl;have s2:=S.ol;by_cases b:v<(tV c fs).length
 .have j:decide ((v:Int)<((tV c fs).length:Int))=true:=zR ow
  have a:v<p.ts.length:=by rw[e.tl];exact b
  have f:deV c fs p v=decide (((p.ts[v]).length:Int)>0):=by
   unfold deV;rw[ip b,zE,zB a];simp
  have h:=p4 (l:=p.ts.map jy) (d:=tsD p) (yZ.mk .no) (i:=v) (by rw[zI];exact a);rw[tW]at h;have k:=uI (KY p.ts[v]);rw[f];generalize(jy p.ts[v]).d=q at *
  generalize p.ts[v]=t at *
  refine zj zAI ?_;simp only[f151,zA];exact au
 .have j:decide ((v:Int)<((tV c fs).length:Int))=false:=zN ow
  have a:v- (tV c fs).length<p.own.length:=by rw[e.ol];omega
  have f:deV c fs p v= !((p.own[v- (tV c fs).length])== []):=by
   unfold deV;rw[iq b,zE,zB a];rfl
  have h:=sP (l:=p.own) (d:=owD p) (yZ.mk .no) a;have u:IntKind.i64.wrap ((v:Int)- ((tV c fs).length:Int))=((v- (tV c fs).length:Nat):Int):=by rw[qP ow ow];omega
  rw[f];generalize p.own[v- (tV c fs).length]=t at *
  refine zj zAI ?_;simp only[f151,zA];simp only[go_sem, *];refine yJ kr ?_;exact au
def B7(S:SpD c fs ca cb ce cp x td od)(F:POk c fs p)(g:Heap):zD prog 91 [.iptr [ca,cb,ce,cp,x,td,od] 0,.agg [tsD p,owD p]] g λr h'=>h'=g/\r=(match nxV c fs p with
  |none=>.tuple [.int .i64 0,.bool false]
  |some v=>.tuple [.int .i64 (v:Int),.bool true]):=by
 have m:=UK S;have y:=UL S;have n:=λv G=>W0 S F (v:=v) G;have I:ctV c fs<=600:=by unfold ctV;have:=S.tl;have:=S.ol;omega
 refine xP λQ k=> ?_;refine zj zNt ?_;simp only[f91,zA]
 repeat' first|simp only[go_sem, *]|apply bc<;>intro l|(refine zD.mono (m _) ?_;rintro r h ⟨a,rfl⟩)
 subst a
 rename Heap=>g
 refine zY (λi fr h=>fr 0=.iptr [ca,cb,ce,cp,x,td,od] 0/\fr 3=.iptr [tsD p,owD p] 0/\fr 8=.int .i64 (ctV c fs:Int)/\fr 9=.int .i64 (i:Int)/\h=g/\∀j,j<i->pI c fs p j=false) (ctV c fs) ow ?_ ?_ ?_
 .clear k
  simp only[go_sem,zM,zV,zG];exact λj b=>by omega
 .rintro i fr h e A H ⟨B,C,D,E,a,b⟩
  subst a;have w:=y i;have f:=n i e;have d:decide ((szV c fs i:Int)>1)=decide (1<szV c fs i):=by
   by_cases q:1<szV c fs i
   .rw[zR q];exact zR ow
   .rw[zN q];exact zN ow
  have u:pI c fs p i=(decide (1<szV c fs i)&& !(deV c fs p i)):=rfl;cases o1:decide (1<szV c fs i)with
  |false=>
   have t:∀j,j<i+1->pI c fs p j=false:=λj h=>by
    rcases zp.1 h with q|rfl
    .exact b j q
    .rw[u,o1];rfl
   rw[o1]at d
   repeat' first|simp only[go_sem, *]|apply bc<;>intro l|(refine zD.mono (w _) ?_;rintro r h ⟨a,rfl⟩)
   exact t
  |true=>
  rw[o1]at d;cases o2:deV c fs p i with
  |true=>
   have t:∀j,j<i+1->pI c fs p j=false:=λj h=>by
    rcases zp.1 h with q|rfl
    .exact b j q
    .rw[u,o1,o2];rfl
   rw[o2]at f
   repeat' first|simp only[go_sem, *]|apply bc<;>intro l|(refine zD.mono (w _) ?_;rintro r h ⟨a,rfl⟩)|(refine zD.mono (f _) ?_;rintro r h ⟨a,rfl⟩)
   exact t
  |false=>
   have z:nxV c fs p=some i:=by
    unfold nxV;rw[sI];refine⟨by rw[u,o1,o2];rfl,i,by simpa using e,jS,λj s=> ?_⟩;simp[b j s]
   rw[o2]at f;have a:=k (.tuple [.int .i64 (i:Int),.bool true]) h ⟨rfl,by rw[z]⟩
   repeat' first|simp only[go_sem, *]|apply bc<;>intro l|(refine zD.mono (w _) ?_;rintro r h ⟨a,rfl⟩)|(refine zD.mono (f _) ?_;rintro r h ⟨a,rfl⟩)
 .rintro fr h A ⟨B,C,D,E,a,b⟩
  subst a;have z:nxV c fs p=none:=by
   unfold nxV;rw[lE];intro j o;rw[b j (yz.1 o)];exact zd
  have a:=k (.tuple [.int .i64 0,.bool false]) h ⟨rfl,by rw[z]⟩;exact au
end
def SlN(h:Heap)(N:Nat)(cs:List D)(n:Nat)(d:D):Prop:=(n=0/\d=.sl 1 [] .full)\/(n≠0/\d=.rs N 1 0 n/\h.at' N=some (.row cs))
def CN(h:Heap)(cs:List D)(n:Nat)(r:D)(h':Heap):Prop:=SlN h' h.next cs n r/\Ext h h'/\(n=0\/h.next<h'.next)
def SlN.flat{N:Nat}(s:SlN h N cs n d):d.flat=true:=by
 rcases s with⟨_,rfl⟩ | ⟨_,rfl,_⟩ <;>rfl
def SlN.set{N i:Nat}(s:SlN h N cs n d)(a:i≠N)(o:Obj):SlN (h.set i o) N cs n d:=by grind [zX,SlN]
def zON{a b o l:Nat}{c f:List D}{w y:D}{xa xb:List (List D)}(r:Ext g h)(E:SlN h a c o w)(K:SlN h b f l y)(t:a≠b)(A:g.next<=a)(B:g.next<=b)
  (M:∀x∈xa,uA x) (N:∀x∈xb,uA x) (L:∀x∈xa,x.length=1) (G:∀x∈xb,x.length=1) (C:xa.length=o) (v:xb.length=l) (I:c=xa.flatten) (z:f=xb.flatten)
  {Q R:D->Heap->Prop} (J:∀d h',Ext g h'->below g.next (qM d)->qM d=.agg [.sl 1 xa .no,.sl 1 xb .no]->Q d h') (s:∀d h',Q d h'\/(∃id cs,h'.at' id=some (.row cs)/\Q (frz id cs d) (h'.del id))->R d h'):
  R (.agg [w,y]) h\/∃id cs,h.at' id=some (.row cs)/\R (frz id cs (.agg [w,y])) (h.del id):=by
 have H:=λtk=>qY (sz:=1) M tk;have O:=λtk=>qY (sz:=1) N tk;have j:∀h' tk i,Ext g h'->Q (.agg [.sl 1 xa tk,.sl 1 xb i]) h':=λh' tk i e=>by
  have e2:qM (.agg [.sl 1 xa tk,.sl 1 xb i])=.agg [.sl 1 xa .no,.sl 1 xb .no]:=by
   show D.agg [qM _,qM _]=_
   grind
  refine J _ _ e ?_ e2;rw[e2];exact⟨qQ (yM _) _ (H tk).2,qQ (yM _) _ (O i).2,trivial⟩
 have F:∀{xs:List (List D)}{n:Nat},xs.length=n->n=0->xs= []:=by grind
 rcases K with⟨q,rfl⟩ | ⟨q,rfl,m⟩
 .have u:=F v q
  subst u;rcases E with⟨p,rfl⟩ | ⟨p,rfl,k⟩
  .grind
  .refine .inl (s _ _ (.inr ⟨a,_,k,?_⟩))
   show Q (.agg [frz a c (.rs a 1 0 o),frz a c (.sl 1 [] .full)]) _;rw[XM L C I];exact j _ _ _ (r.del A)
 .rcases E with⟨p,rfl⟩ | ⟨p,rfl,k⟩
  .have u:=F C p
   subst u;refine .inl (s _ _ (.inr ⟨b,_,m,?_⟩));show Q (.agg [frz b f (.sl 1 [] .full),frz b f (.rs b 1 0 l)]) _;rw[XM G v z];exact j _ _ _ (r.del B)
  .refine .inr ⟨a,_,k,s _ _ (.inr ⟨b,_,by rw[wM (km t)];exact m,?_⟩)⟩
   have e1:frz a c (.agg [.rs a 1 0 o,.rs b 1 0 l])=.agg [.sl 1 xa .no,.rs b 1 0 l]:=by
    show D.agg [frz a c (.rs a 1 0 o),frz a c (.rs b 1 0 l)]=_
    grind [XM,frz]
   rw[e1];show Q (.agg [frz b f (.sl 1 xa .no),frz b f (.rs b 1 0 l)]) _;rw[XM G v z,ao _ _ _ (H .no).2];exact j _ _ _ ((r.del A).del B)
noncomputable def JN:Cfg:=⟨λt=>List.contains (α:=Nat) [7] t,λi=>(VI (α:=List (Nat×Fl)) [] i).getD []⟩
def zNa(t:Tmp):JN.mu t=List.contains [7] t:=(rfl)
def zLW:Pb prog JN f152=true:=kr
def zLX:Pb prog JN f133=true:=kr
def CN.new(a:n≠0):CN h cs n (.rs h.next 1 0 n) (h.new h.next (.row cs)):=⟨.inr ⟨a,rfl,z5 _ _ _⟩,(Ext.refl h).new (zC _) _,.inr (by rw[za];omega)⟩
def CN.zero(h:Heap)(cs:List D):CN h cs 0 (.sl 1 [] .full) h:=⟨.inl ⟨rfl,rfl⟩,Ext.refl h,.inl rfl⟩
def Vp(l:List (List UInt8)):(wg l).flatten=l.map D.str:=by
 induction l with
 |nil=>rfl
 |cons x l a=>simp only[wg,qe,yT]at a⊢;rw[a];rfl
def Kg{l:List Alt}(j:l.length<=1048576)(h:Heap):zD prog 152 [.sl 1 (qT l) tk] h (CN h (l.map Alt.d) l.length):=by
 refine xP λQ c=> ?_;have a:(qT l).length=l.length:=zI ..;have f:kW prog .eql 44 true (.sl 1 (qT l) tk) .nilsl=some (.bool false):=by rw[um (yZ.mk tk) underlying44];rfl
 have i:=λnid h=>wT (P:=prog) (nid:=nid) (h:=h) uG fL uK rfl rfl (by omega:0<1);have b:∃r h',qS prog true h.next 44 (.sl 1 [] .full) (.sl 1 (qT l) tk) h=some (r,h')/\CN h (l.map Alt.d) l.length r h':=by
  rw[oE uG pR uK ow (sO l) (by rw[tF,a];unfold lim;omega) (by rw[a];unfold lim;omega),a,pz,X2 underlying195];by_cases q:l.length=0
  .rw[ip q,q];exact⟨_,_,rfl,CN.zero _ _⟩
  .rw[iq q];exact⟨_,_,rfl,CN.new q⟩
 obtain⟨r,h',b,e⟩:=b;have hf:=c _ _ e;refine xO mix func152 zLW rfl rfl ?_;simp only[f152,zA];simp only[tT,go_sem,zNa,f,i,b,hf]
def Kj{l:List (List UInt8)}(j:l.length<=1048576)(h:Heap):zD prog 133 [.sl 1 (wg l) tk] h (CN h (l.map D.str) l.length):=by
 refine xP λQ c=> ?_;have a:=qm l;have e:kW prog .eql 45 true (.sl 1 (wg l) tk) .nilsl=some (.bool false):=by rw[um (yZ.mk tk) underlying45];rfl
 have i:=λnid h=>wT (P:=prog) (nid:=nid) (h:=h) ww fM pK rfl rfl (by omega:0<1);have b:∃r h',qS prog true h.next 45 (.sl 1 [] .full) (.sl 1 (wg l) tk) h=some (r,h')/\CN h (l.map D.str) l.length r h':=by
  rw[oE ww aR pK ow (λx f=>by obtain⟨s,_,rfl⟩:=zS.1 f;rfl) (by rw[p6,a];unfold lim;omega) (by rw[a];unfold lim;omega),a,Vp,show oI prog 9 (l.map D.str)=.row (l.map D.str) by simp[oI,underlying9]];by_cases q:l.length=0
  .rw[ip q,q];exact⟨_,_,rfl,CN.zero _ _⟩
  .rw[iq q];exact⟨_,_,rfl,CN.new q⟩
 obtain⟨r,h',b,d⟩:=b;have hf:=c _ _ d;refine xO mix func133 zLX rfl rfl ?_;simp only[f133,zA];simp only[tT,go_sem,zNa,e,i,b,hf]
abbrev tsK(p:Part)(tk:Tk):D:=.sl 1 (qT (p.ts.map jy)) tk
abbrev owK(p:Part)(tk:Tk):D:=.sl 1 (wg p.own) tk
variable{c:Cat}{fs:List Fac}{x:D}
def fg(a:k<c.ls.length):(c.ls.map Lic.name).getD k []=c.ls[k].name:=by grind
def BW{t:List Trm}(h:t≠[]):jy t=mkA t:=by
 cases t
 .exact absurd rfl h
 .rfl
section
variable{c:Cat}{fs:List Fac}{ca cb ce cp x td od:D}
variable{p:Part}
theorem Y3{t1 t2:Tk}(S:SpD c fs ca cb ce cp x td od)(hp:POk c fs p){v k:Nat}(hv:v<ctV c fs)(hk:k<szV c fs v)(g:Heap):zD prog 93 [.iptr [ca,cb,ce,cp,x,td,od] 0,.agg [tsK p t1,owK p t2],.int .i64 (v:Int),.int .i64 (k:Int)] g λr h'=>h'=g/\r=.agg [tsD (pu c fs p v k),owD (pu c fs p v k)]:=by
 refine xU kr λb7=>xS (zD.freezeOr (zD.freezeOr ?_));refine xP λR hR=> ?_;have E:∀(h:Heap) a b nA nB Y Z j z,Ext g h->SlN h a Y nA j->SlN h b Z nB z->a≠b->g.next<=a->g.next<=b->(pu c fs p v k).ts.length=nA->(pu c fs p v k).own.length=nB->Y=((pu c fs p v k).ts.map jy).map Alt.d->Z=(pu c fs p v k).own.map D.str->R (.agg [j,z]) h:=λh a b nA nB Y Z j z hE mA mB bs ha hb lA lB cA cB=>by
  refine hR _ _ (zON (Q:=λd h'=>Ext g h'/\below g.next (qM d)/\qM d=.agg [tsD (pu c fs p v k),owD (pu c fs p v k)]) (xa:=qT ((pu c fs p v k).ts.map jy)) (xb:=wg (pu c fs p v k).own) hE mA mB bs ha hb (λx hx=> ?_) uj (sO _) (λx hx=> ?_) (by rw[yr,zI,lA]) (by rw[qm,lB]) (by rw[pz,cA]) (by rw[Vp,cB]) (λd h' q1 q2 q3=>⟨q1,q2,q3⟩) (λd h' q=>q))
  .obtain⟨a,ha,rfl⟩:=zS.1 hx
   obtain⟨t,_,rfl⟩:=zS.1 ha;exact aX t
  .obtain⟨s,_,rfl⟩:=zS.1 hx;rfl
 have hl:=jK S.t;have b3:∀a b:D,yO true 2 [a,b] 0=some (.agg [a,b]):=λa b=>zJ rfl ow;have X:=Kg (l:=p.ts.map jy) (tk:=t1) (by rw[zI,hp.tl];have:=S.tl;omega);have ai:=Kj (l:=p.own) (tk:=t2) (by rw[hp.ol];have:=S.ol;omega);rw[zI]at X;obtain⟨G,hG,g5,g8,hE,bb⟩:∃G:Heap,(g.new g.next (.row [tsK p t1,owK p t2])).new (g.next+1) (.row [.nilsl,.nilsl])=G/\G.at' g.next=some (.row [tsK p t1,owK p t2])/\G.at' (g.next+1)=some (.row [.nilsl,.nilsl])/\Ext g G/\G.next=g.next+2:=
  ⟨_,rfl,by rw[zf ow,z5],z5 _ _ _,((Ext.refl g).new (zC _) _).new ow _,qG _ (by rw[za];exact zC _) _⟩
 have b2:(g.new g.next (.row [tsK p t1,owK p t2])).next=g.next+1:=za _ _;have a7:∀h,HLe Heap.emp h:=λh i ob e=>by cases e
 clear hR;have ch:v<(tV c fs).length+(oV c fs).length:=hv;have z1:=S.tl;have z2:=S.ol;generalize cg:g.next=f at *
 have a5:HLe (Heap.one f (.row [tsK p t1,owK p t2])) G:=by rw[mV];exact g5
 refine zj zNu ?_;simp only[f93,zA]
 repeat' first|simp only[go_sem, *]|apply bc<;>intro
 refine yq (Heap.one f (.row [tsK p t1,owK p t2])) (pwt [0,1,3] ((4,.st,true)::(pwt [2,6,5] (pwf [7,8,9] [])))) kr kr a5 ?_
 repeat' first|simp only[go_sem,kM, *]|apply bc<;>intro
 refine(X _).mono ?_;rintro j V ⟨mA,e1,k1⟩;have b1:HLe (Heap.one f (.row [tsK p t1,owK p t2])) V:=by rw[mV,e1.2 _ ow];exact g5
 have fA:=mA.flat;have b5:V.at' f=some (.row [tsK p t1,owK p t2]):=by rw[e1.2 _ ow];exact g5
 have b8:V.at' (f+1)=some (.row [.nilsl,.nilsl]):=by rw[e1.2 _ ow];exact g8
 clear X a5
 repeat' first|simp only[go_sem,kM, *]|apply bc<;>intro
 refine(ai _).mono ?_;rintro z I ⟨mB,e2,k2⟩;have cf:HLe (Heap.one f (.row [tsK p t1,owK p t2])) I:=by rw[mV,e2.2 _ (by have:=e1.1;omega)];exact b5
 have fB:=mB.flat;have d5:I.at' f=some (.row [tsK p t1,owK p t2]):=by rw[e2.2 _ (by have:=e1.1;omega)];exact b5
 have d8:I.at' (f+1)=some (.row [.nilsl,.nilsl]):=by rw[e2.2 _ (by have:=e1.1;omega)];exact b8
 have cA:j.cells= [j]:=by rcases mA with⟨_,rfl⟩ | ⟨_,rfl,_⟩ <;>rfl
 have cB:z.cells= [z]:=by rcases mB with⟨_,rfl⟩ | ⟨_,rfl,_⟩ <;>rfl
 have ck:yW prog 44 (.ptr f 0) j I=some (I.set f (.row [j,owK p t2])):=by rw[yN d5 aC jS cA fA];rfl
 have b4:yW prog 45 (.ptr f 1) z (I.set f (.row [j,owK p t2]))=some (I.set f (.row [j,z])):=by rw[yN (zW _ _ _) Me jS cB fB,mi];rfl
 clear ai b1;have aj:Ext g I:=(hE.trans e1).trans e2;have bk:f+2<=G.next:=ow;have cc:G.next<=V.next:=e1.1;have bo:V.next<=I.next:=e2.1;clear hG bb b2 e1 b5 b8 g5 g8;have gK:∀i,f<=i->∀o,Ext g (I.set f o):=λi hi o=>aj.set ow _;have hK:=λo=>gK f (zC _) o;clear gK;obtain⟨C,ak,q5,q8,qE,qk⟩:∃C,I.set f (.row [j,z])=C/\C.at' f=some (.row [j,z])/\C.at' (f+1)=some (.row [.nilsl,.nilsl])/\Ext g C/\∀i,i≠f->C.at' i=I.at' i:=
  ⟨_,rfl,zW _ _ _,by rw[zX ow];exact d8,hK _,λi hi=>zX hi⟩
 have a6:HLe (Heap.one f (.row [j,z])) C:=by rw[mV];exact q5
 rw[ak]at b4;have N:SlN C G.next (List.map Alt.d (List.map jy p.ts)) p.ts.length j:=by
  rcases mA with s| ⟨s1,s2,s3⟩
  .exact .inl s
  .exact .inr ⟨s1,s2,by rw[qk _ ow,e2.2 _ (k1.resolve_left s1)];exact s3⟩
 have T:SlN C V.next (List.map D.str p.own) p.own.length z:=by
  rcases mB with s| ⟨s1,s2,s3⟩
  .exact .inl s
  .exact .inr ⟨s1,s2,by rw[qk _ ow];exact s3⟩
 have J:p.ts.length=0\/G.next≠V.next:=by
  rcases k1 with s|s
  .exact .inl s
  .exact .inr ow
 generalize G.next=A at *
 generalize V.next=m at *
 clear mA mB ak hK d8 d5 qk k1 k2 e2 bo hE aj;have b9:=b3;have U:∀H,H.at' (f+1)=some (.row [.nilsl,.nilsl])->yW prog 47 (.ptr (f+1) 0) (.agg [j,z]) H=some (H.set (f+1) (.row [j,z])):=λH h=>ql h Zu rfl jS (by simp[fA,fB]);by_cases w:v<(tV c fs).length
 .have hd:decide ((v:Int)<((tV c fs).length:Int))=true:=zR ow
  have M:v<p.ts.length:=by rw[hp.tl];exact w
  have F:p.ts.length≠0:=ow;obtain⟨_,rfl,a8⟩:=N.resolve_left λq=>F q.1;have W:=J.resolve_left F;have B:k<(tV c fs)[v].length:=by
   unfold szV at hk
   rwa [ip w,zE,zB w]at hk
  have L:pu c fs p v k= ⟨p.ts.set v ((tV c fs)[v])[k],p.own⟩:=by
   unfold pu;rw[ip w,zE,zE,zB w,zA,zB B];rfl
  have a1:=UD S.t w;have a2:=p4 (l:=(tV c fs)[v].map mkA) (d:=Qs (tV c fs)[v]) (yZ.mk .no) (i:=k) (by rw[zI];exact B);rw[tW]at a2;have ad:=(S.t64 _ (zH w)).2.ts _ (zH B);have bx:=Kk ad.1 ow;have ht:=BW ad.1;rw[L]at E;generalize((tV c fs)[v])[k]=t at *
  generalize(tV c fs)[v]=tv at *
  have a3:yc prog 44 (.rs A 1 0 p.ts.length) (.int .i64 (v:Int))=some (.ptr A v):=by
   have:=qX (P:=prog) (sz:=1) (id:=A) uG uK (k:=.i64) M
   rwa [wn]at this
  have ag:yW prog 195 (.ptr A v) (mkA t).d C=some (C.set A (.row ((List.map Alt.d (List.map jy p.ts)).set v (mkA t).d))):=yN a8 uK (by simp[M]) rfl rfl;obtain⟨n,K,r5,r8,rE,rN,O⟩:∃n,C.set A (.row ((List.map Alt.d (List.map jy p.ts)).set v (mkA t).d))=n/\n.at' f=some (.row [.rs A 1 0 p.ts.length,z])/\n.at' (f+1)=some (.row [.nilsl,.nilsl])/\Ext g n/\SlN n A ((List.map Alt.d (List.map jy p.ts)).set v (mkA t).d) p.ts.length (.rs A 1 0 p.ts.length)/\SlN n m (List.map D.str p.own) p.own.length z:=
   ⟨_,rfl,by rw[zX ow];exact q5,by rw[zX ow];exact q8,qE.set ow _,.inr ⟨F,rfl,zW _ _ _⟩,T.set W _⟩
  rw[K]at ag;have U:=U n r8;have a4:R (.agg [.rs A 1 0 p.ts.length,z]) (n.set (f+1) (.row [.rs A 1 0 p.ts.length,z])):=E _ A m _ _ _ _ _ _ (rE.set ow _) (rN.set ow _) (O.set ow _) W ow ow jS rfl (by rw[tC,tC,ht]) rfl;clear E N T a8 rE rN O K ht ad J qE a7 hk B L
  repeat' first|simp only[go_sem,kM, *]|apply bc<;>intro
  refine yq (Heap.one f (.row [.rs A 1 0 p.ts.length,z])) (pwt [0] ((1,.st,true)::(pwt [2,3,4,5,6,7,8,9,10,11,12,13,14] (pwf [15] [])))) kr kr a6 ?_
  repeat' first|simp only[go_sem,kM,zW, *]|apply bc<;>intro hc|(refine zD.mono (bx _) ?_;rintro r h ⟨hq,rfl⟩)
 .have hd:decide ((v:Int)<((tV c fs).length:Int))=false:=zN ow
  have M:v- (tV c fs).length<p.own.length:=by rw[hp.ol];omega
  have F:p.own.length≠0:=ow;obtain⟨_,rfl,a9⟩:=T.resolve_left λq=>F q.1;have B:k<c.ls.length:=by
   unfold szV at hk
   rwa [iq w]at hk
  have L:pu c fs p v k= ⟨p.ts,p.own.set (v- (tV c fs).length) c.ls[k].name⟩:=by
   unfold pu;rw[iq w,fg B]
  obtain⟨_,_,_,_,e,ha,_,_,_⟩:=S.cat;cases e;have a1:=pV ha B;rw[L]at E;generalize c.ls[k]=y at *
  simp only[Lic.cells]at a1;have hw:IntKind.i64.wrap ((v:Int)- ((tV c fs).length:Int))=((v- (tV c fs).length:Nat):Int):=by rw[qP ow ow];omega
  generalize v- (tV c fs).length=u at *
  have a3:yc prog 45 (.rs m 1 0 p.own.length) (.int .i64 (u:Int))=some (.ptr m u):=by
   have:=qX (P:=prog) (sz:=1) (id:=m) ww pK (k:=.i64) M
   rwa [wn]at this
  have ag:yW prog 9 (.ptr m u) (.str y.name) C=some (C.set m (.row ((List.map D.str p.own).set u (.str y.name)))):=yN a9 pK (by simp[M]) rfl rfl;have ba:∀o,SlN (C.set m o) (if p.ts.length=0 then m+1 else A) (List.map Alt.d (List.map jy p.ts)) p.ts.length j:=λo=>by
   by_cases q:p.ts.length=0
   .rcases N with s|s
    .exact .inl s
    .exact absurd q s.1
   .rw[iq q]
    exact N.set (km (J.resolve_left q)) _
  have au:(if p.ts.length=0 then m+1 else A)≠m/\f+2<=(if p.ts.length=0 then m+1 else A):=by
   by_cases q:p.ts.length=0
   .rw[ip q];omega
   .rw[iq q];exact⟨J.resolve_left q,bk⟩
  generalize(if p.ts.length=0 then m+1 else A)=NC at *
  obtain⟨a0,b6⟩:=au;obtain⟨n,K,r5,r8,rE,rN,O⟩:∃n,C.set m (.row ((List.map D.str p.own).set u (.str y.name)))=n/\n.at' f=some (.row [j,.rs m 1 0 p.own.length])/\n.at' (f+1)=some (.row [.nilsl,.nilsl])/\Ext g n/\SlN n m ((List.map D.str p.own).set u (.str y.name)) p.own.length (.rs m 1 0 p.own.length)/\SlN n NC (List.map Alt.d (List.map jy p.ts)) p.ts.length j:=
   ⟨_,rfl,by rw[zX ow];exact q5,by rw[zX ow];exact q8,qE.set ow _,.inr ⟨F,rfl,zW _ _ _⟩,ba _⟩
  rw[K]at ag;have U:=U n r8;have a4:R (.agg [j,.rs m 1 0 p.own.length]) (n.set (f+1) (.row [j,.rs m 1 0 p.own.length])):=E _ NC m _ _ _ _ _ _ (rE.set ow _) (O.set ow _) (rN.set ow _) a0 ow ow rfl jS rfl (by rw[tC]);clear E N T ba a9 rE rN O K J qE a7 hk B L
  repeat' first|simp only[go_sem,kM, *]|apply bc<;>intro
  refine yq (Heap.one f (.row [j,.rs m 1 0 p.own.length])) (pwf [0,1,2,3,4,5,6,7,8,9,10,11,12,13,14,15,16,17,18,19] []) kr kr a6 ?_
  repeat' first|simp only[go_sem,kM,zW, *]|apply bc<;>intro
end
def we(c:Cat)(fs:List Fac):Nat->Part
 |0=>⟨List.replicate (tV c fs).length [],List.replicate (oV c fs).length []⟩
 |n+1=>if szV c fs n=1 then pu c fs (we c fs n) n 0 else we c fs n
def nO(c:Cat)(fs:List Fac):Part:=we c fs (ctV c fs)
variable{c:Cat}{fs:List Fac}{p:Part}{x:D}
def POk.dec(b:POk c fs p){v k:Nat}(d:k<szV c fs v):POk c fs (pu c fs p v k):=by
 unfold pu;unfold szV at d;by_cases e:v<(tV c fs).length
 .rw[ip e]at d⊢
  refine⟨by simp[b.tl],b.ol,λi a h=> ?_,b.o⟩;rw[oP]at h;split at h
  .rename_i q
   subst q;split at h
   .cases h
    refine .inr ?_;rw[zE (l:=(tV c fs).getD v []),zB d];exact zH _
   .cases h
  .exact b.t i a h
 .rw[iq e]at d⊢
  refine⟨b.tl,by simp[b.ol],b.t,λs f=> ?_⟩;rcases tp f with h|rfl
  .exact b.o s h
  .rw[fg d]
   exact .inr ⟨_,zH _,rfl⟩
theorem rX(c:Cat)(fs:List Fac):∀n,POk c fs (we c fs n)
 |0=>⟨by simp[we],by simp[we],λi a h=>.inl (by
   have:=zh h;simp[we]at this;exact this.2),λs h=>.inl (by simp[we]at h;exact h.2)⟩
 |n+1=>by
  rw[we];split
  .rename_i h
   exact(rX c fs n).dec ow
  .exact rX c fs n
section
variable{c:Cat}{fs:List Fac}{ca cb ce cp x td od:D}
theorem JB(S:SpD c fs ca cb ce cp x td od)(g:Heap):zD prog 94 [.iptr [ca,cb,ce,cp,x,td,od] 0] g λr h'=>h'=g/\r=.agg [tsD (nO c fs),owD (nO c fs)]:=by
 refine xU kr λV=>xS ?_;refine xP λR T=> ?_;have N:=rX c fs;have j:∀(h:Heap) k1 k2,Ext g h->R (.agg [tsK (nO c fs) k1,owK (nO c fs) k2]) h:=λh k1 k2 m=>by
  have Z:=qY (sz:=1) (xs:=qT ((nO c fs).ts.map jy)) (λx hx=>by
   obtain⟨a,J,rfl⟩:=zS.1 hx;obtain⟨t,_,rfl⟩:=zS.1 J;exact aX t)
  have sB:=qY (sz:=1) (xs:=wg (nO c fs).own) uj;have e2:qM (.agg [tsK (nO c fs) k1,owK (nO c fs) k2])=.agg [tsD (nO c fs),owD (nO c fs)]:=by
   show D.agg [qM _,qM _]=_;rw[(Z k1).1,(sB k2).1]
  refine T _ _ ⟨m,?_,e2⟩;rw[e2];exact⟨qQ (yM _) _ (Z k1).2,qQ (yM _) _ (sB k2).2,trivial⟩
 have hl:=jK S.t;have ag:=wO S.o;have z1:=S.tl;have z2:=S.ol;have K:=UK S;have u:=UL S;have n:=λ{k1 k2} i hi hk=>Y3 (t1:=k1) (t2:=k2) S (N i) (v:=i) (k:=0) hi hk;have p:∀nid H,tG prog false nid 44 (.int .i64 ((tV c fs).length:Int)) (.int .i64 ((tV c fs).length:Int)) H=some (.sl 1 (List.replicate (tV c fs).length [.nilsl]) .full,H):=λnid H=>by
  simp only[tG,uG,fL,uK,wV,tF];rw[ip (by simp[D.notTuple,D.cells];unfold lim;omega)];rfl
 have s:∀nid H,tG prog false nid 45 (.int .i64 ((oV c fs).length:Int)) (.int .i64 ((oV c fs).length:Int)) H=some (.sl 1 (List.replicate (oV c fs).length [.str []]) .full,H):=λnid H=>by
  simp only[tG,ww,fM,pK,wV,p6];rw[ip (by simp[D.notTuple,D.cells];unfold lim;omega)];rfl
 have X:D.sl 1 (List.replicate (tV c fs).length [.nilsl]) .full=tsK (we c fs 0) .full:=by simp[tsK,we,qT,jy,zE2]
 have Y:D.sl 1 (List.replicate (oV c fs).length [.str []]) .full=owK (we c fs 0) .full:=by simp[owK,we,wg]
 rw[X]at p;rw[Y]at s;have ak:∀a b:Tk,qW prog 47 [(0,tsK (we c fs 0) a),(1,owK (we c fs 0) b)]=some (.agg [tsK (we c fs 0) a,owK (we c fs 0) b]):=λa b=>by simp[qW,Lm,Ft,ua,wS,D.notTuple,D.cells]
 have U:ctV c fs<=600:=by unfold ctV;omega
 have d:∀(H:Heap) id a b O b',H.at' id=some (.row [O,b'])->a.flat=true->b.flat=true->yW prog 47 (.ptr id 0) (.agg [a,b]) H=some (H.set id (.row [a,b])):=λH id a b O b' h J U=>ql h Zu rfl jS (by simp[J,U]);obtain⟨G,P,y,w,m,ad⟩:∃G:Heap,((g.new g.next (.row [.nilsl,.nilsl])).new (g.next+1) (.row [.nilsl,.nilsl])).set (g.next+1) (.row [tsK (we c fs 0) .full,owK (we c fs 0) .full])=G/\G.at' g.next=some (.row [.nilsl,.nilsl])/\G.at' (g.next+1)=some (.row [tsK (we c fs 0) .full,owK (we c fs 0) .full])/\Ext g G/\G.next=g.next+2:=
  ⟨_,rfl,by rw[zX ow,zf ow,z5],zW _ _ _,(((Ext.refl g).new (zC _) _).new ow _).set ow _,by rw[yY];exact qG _ (by rw[za];exact zC _) _⟩
 have A:=d ((g.new g.next (.row [.nilsl,.nilsl])).new (g.next+1) (.row [.nilsl,.nilsl])) (g.next+1) (tsK (we c fs 0) .full) (owK (we c fs 0) .full) _ _ (z5 _ _ _) rfl rfl;rw[P]at A;have aj:(g.new g.next (.row [.nilsl,.nilsl])).next=g.next+1:=za _ _;have L:∀h,HLe Heap.emp h:=λh i ob e=>by cases e
 clear T X Y P;generalize ai:g.next=l at *
 refine zj zNv ?_;simp only[f94,zA]
 repeat' first|simp only[go_sem, *]|apply bc<;>intro B
 refine yq Heap.emp (pwt [0,1,2] ((3,.st,true)::(pwt [4,5,6,7,8] ((9,.st,true)::(pwt [10,11,12,13,14] []))))) kr kr (L _) ?_
 repeat' first|simp only[go_sem, *]|apply bc<;>intro B
 refine(K _).mono ?_;rintro r H ⟨E,rfl⟩;subst E
 repeat' first|simp only[go_sem, *]|apply bc<;>intro B
 refine zY (λi fr h=>fr 0=.iptr [ca,cb,ce,cp,x,td,od] 0/\fr 2=.ptr l 0/\fr 3=.ptr (l+1) 0/\fr 19=.int .i64 (ctV c fs:Int)/\fr 20=.int .i64 (i:Int)/\h.at' l=some (.row [.nilsl,.nilsl])/\Ext g h/\∃k1 k2,h.at' (l+1)=some (.row [tsK (we c fs i) k1,owK (we c fs i) k2])) (ctV c fs) ow ?_ ?_ ?_
 .clear j p s d
  simp only[go_sem,zM,zV,zG,y];exact⟨m,_,_,w⟩
 .clear y w m A p s
  rintro i fr h M ec ew ⟨f0,f2,f3,F,I,y,m,k1,k2,w⟩;have W:=u i;have C:((szV c fs i:Int)==1)=decide (szV c fs i=1):=by
   by_cases q:szV c fs i=1
   .rw[q];rfl
   .rw[zN q,yv];omega
  have f:we c fs (i+1)=if szV c fs i=1 then pu c fs (we c fs i) i 0 else we c fs i:=rfl
  by_cases q:szV c fs i=1
  .rw[zR q]at C
   rw[ip q]at f;have z:=n (k1:=k1) (k2:=k2) i M ow;rw[<-f]at z;have h0:((0:Nat):Int)=0:=rfl;rw[h0]at z;have st:=d h (l+1) (tsD (we c fs (i+1))) (owD (we c fs (i+1))) _ _ w rfl rfl;obtain⟨H,Q,q2,q3,qE⟩:∃H,h.set (l+1) (.row [tsD (we c fs (i+1)),owD (we c fs (i+1))])=H/\H.at' l=some (.row [.nilsl,.nilsl])/\(∃k1 k2,H.at' (l+1)=some (.row [tsK (we c fs (i+1)) k1,owK (we c fs (i+1)) k2]))/\Ext g H:=⟨_,rfl,by rw[zX ow];exact y,⟨.no,.no,zW _ _ _⟩,m.set ow _⟩;rw[Q]at st;clear n j u f Q h0 d q m
   repeat' first|simp only[go_sem, *]|apply bc<;>intro B|(refine zD.mono (W _) ?_;rintro r h ⟨E,rfl⟩)|(refine zD.mono (z _) ?_;rintro r h ⟨E,rfl⟩)
  .rw[zN q]at C
   rw[iq q]at f;have q3:∃k1 k2,h.at' (l+1)=some (.row [tsK (we c fs (i+1)) k1,owK (we c fs (i+1)) k2]):=⟨_,_,by rw[f];exact w⟩;clear n j u d f w
   repeat' first|simp only[go_sem, *]|apply bc<;>intro B|(refine zD.mono (W _) ?_;rintro r h ⟨E,rfl⟩)
 .clear y w m A p s
  rintro fr h ec ⟨f0,f2,f3,F,I,y,m,k1,k2,w⟩;have st:=d h l (tsK (we c fs (ctV c fs)) k1) (owK (we c fs (ctV c fs)) k2) _ _ y rfl rfl;have hf:=j (h.set l (.row [tsK (we c fs (ctV c fs)) k1,owK (we c fs (ctV c fs)) k2])) k1 k2 (m.set ow _);unfold nO at hf;clear j n d u
  repeat' first|simp only[go_sem,zW, *]|apply bc<;>intro B
end
def zIx(c:Cat)(fs:List Fac)(ca cb ce cp x:D)(r:D):Prop:=(qi c fs≠0/\r=.tuple [.nilptr,.int .i64 (qi c fs)])\/(qi c fs=0/\∃td od,r=.tuple [.iptr [ca,cb,ce,cp,x,td,od] 0,.int .i64 0]/\SpD c fs ca cb ce cp x td od/\td.flat=true/\od.flat=true)
variable{c:Cat}{fs:List Fac}{x:D}
def bI(h:qi c fs=0):(yV c fs).2.2=0:=by
 unfold qi at h;split at h
 .exact h
 .rename_i q;simpa using q
def JA{ca cb ce cp x:D}(e:uB c (.agg [ca,cb,ce,cp]))(q:c.Sm)(n:yZ 12 (sL fs) x)(t:Hp fs)(d:∀f∈fs,f.Ok)(g:Heap):zD prog 42 [.agg [ca,cb,ce,cp],x] g λr h'=>h'=g/\zIx c fs ca cb ce cp x r:=by
 refine xP λQ u=> ?_;have K:=t.1.2;have a:=Q7 e q n ow d;have j:=UM e q n ow d;obtain⟨z,A⟩:=dC (c:=c) (l:=fs);have s:=pM (c:=c) (l:=fs);obtain⟨⟨G,H⟩,I,J⟩:=XU e;obtain⟨E,F,N⟩:=zw n;have k:∀td od:D,td.cells= [td]->od.cells= [od]->td.notTuple=true->od.notTuple=true->qW prog 163 [(0,.agg [ca,cb,ce,cp]),(1,x),(2,td),(3,od)]=some (.agg [ca,cb,ce,cp,x,td,od]):=λtd od h1 b h3 v=>by simp[qW,Pi,HY,ua,wS,RM,Zm,E,F,h1,b,h3,v]
 unfold XB at a;cases m:(qi c fs==0)with
 |false=>
  have p:qi c fs≠0:=by simpa using m
  have i:=u (.tuple [.nilptr,.int .i64 (qi c fs)]) g ⟨rfl,.inl ⟨p,rfl⟩⟩;rw[iq (by rw[m];exact zd)]at a;refine zj zLP ?_;simp only[f42,zA]
  repeat' first|simp only[go_sem, *]|apply bc<;>intro e|(refine zD.mono (a _) ?_;rintro r h ⟨i,rfl⟩)
 |true=>
  have h0:qi c fs=0:=by simpa using m
  have v0:=bI h0;rw[ip m]at a;rw[v0]at j;have o:∀td od,Fin 1 (Wr (tV c fs)) td->Fin 1 (wg (oV c fs)) od->Q (.tuple [.iptr [ca,cb,ce,cp,x,td,od] 0,.int .i64 0]) g:=λtd od h1 b=>u _ _ ⟨rfl,.inr ⟨h0,td,od,rfl,⟨e,q,n,t,d,v0,h1.isSl,b.isSl,by unfold tV;omega,by unfold oV;omega,s⟩,(zw h1.isSl).2.2,(zw b.isSl).2.2⟩⟩;refine zj zLP ?_;simp only[f42,zA]
  repeat' first|simp only[go_sem, *]|apply bc<;>intro e|(refine zD.mono (a _) ?_;rintro r h ⟨i,rfl⟩)
  subst i;refine(j _).mono ?_;rintro r h ⟨i,td,od,rfl,h1,b⟩;subst i;obtain⟨w,y,L⟩:=zw h1.isSl;obtain⟨B,C,M⟩:=zw b.isSl;have k:=k td od w B y C;have i:=o td od h1 b;exact au
end Go.V
