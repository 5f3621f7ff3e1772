/- A machine of abstract values for programs of the model, further rules, part 4. No condition. -/
import Derived.Test.YtkenagjlanhnmaaGreatDoorW40
import Derived.Test.YtkenagjlanhnmaaGreatDoorW23
set_option linter.all false
set_option maxHeartbeats 8000000
namespace Go.V
set_option maxRecDepth 100000
section
variable{fs:List Fac}{y:Cho}{K:Nat->Bool}{i:Nat}
def zEj{a:List (List UInt8)}{o:List UInt8}(h:o∈a):(match a.findIdx? (· ==o)with|some i=>(i:Int)|none=> -1)=((a.findIdx λz=>z==o:Nat):Int)/\(a.findIdx λz=>z==o)<a.length:=by
 have b:a.findIdx (λz=>z==o)<a.length:=ug.2 ⟨o,h,by simp⟩
 have:a.findIdx? (· ==o)=some (a.findIdx λz=>z==o):=by
  rw[List.findIdx?_eq_some_iff_findIdx_eq];exact⟨b,rfl⟩
 rw[this];exact⟨rfl,b⟩
end
open Go.Proofs
variable{c:Cat}{fs:List Fac}{k i sz n:Nat}{la:List Alt}{P:Program}{h0 h g:Heap}{xs ys:List (List D)}{d x:D}{K:D->Heap->Prop}{cs:List D}{tk:Tk}
def aI(h:(yH c fs).2.2=0):(yH c fs).2.1=uW fs []:=by
 unfold yH at h⊢;by_cases q:(!((wk c fs).2==0))=true
 ·rw[ip q]at h
  have:(wk c fs).2≠0:=by simpa using q
  exact absurd h this
 ·rw[iq q]at h⊢;exact(jE h).2
def zCB{y:Cho}(W:Whole c fs y)(h:k<fs.length)(b:wC fs k=1):nX y (oY fs k)∈y.ts:=by
 have a:oY fs k<y.ts.length:=by rw[W.tl];exact(zK.1 (N6 h b)).1
 unfold nX;rw[zC,zB a];exact zH a
def zEs:Alt:=⟨[],.nilsl⟩
structure Gap(T:List Alt)(O:List (List UInt8))(y:Cho):Prop where
 tl:T.length=y.ts.length
 ol:O.length=y.own.length
 ts:∀(i:Nat) a,T[i]? =some a->a=zEs\/y.ts[i]? =some a
 own:∀(i:Nat) s,O[i]? =some s->s= []\/y.own[i]? =some s
section
variable{c:Cat}{fs:List Fac}{y:Cho}{T:List Alt}{O:List (List UInt8)}
def Gap.al(S:Gap T O y){a:Alt}(h:alS fs ⟨T,O⟩ i=some a):alS fs y i=some a:=by
 unfold alS at h⊢;cases hf:fs[i]? with
 |none=>rw[hf]at h;cases h
 |some f=>
  rw[hf]at h;simp only at h⊢;split at h
  ·rename_i j;rw[ip j];split at h
   ·rename_i g;have c:=yK g;have e:nX y (oY fs i)=nX ⟨T,O⟩ (oY fs i):=by
     unfold nX;show y.ts.getD _ _=T.getD _ _;rw[zC,zC];cases d:T[oY fs i]? with
     |none=>
      have:nX ⟨T,O⟩ (oY fs i)=mkA []:=by unfold nX;show T.getD _ _=_;rw[zC,d];rfl
      rw[this]at c;simp[mkA]at c
     |some b=>
      have:nX ⟨T,O⟩ (oY fs i)=b:=by unfold nX;show T.getD _ _=_;rw[zC,d];rfl
      rw[this]at c;rcases S.ts _ b d with rfl|q
      ·simp[zEs]at c
      ·rw[q]
    rw[e,ip g];exact h
   ·cases h
  ·cases h
def Gap.get(S:Gap T O y){o w:List UInt8}(h:pR o (qJ ⟨T,O⟩ fs fs.length).O=some w):pR o (qJ y fs fs.length).O=some w:=by
 rw[Yb _ (zD _),lM _ (zD _)]at h⊢;unfold Cv at h⊢;generalize uW (fs.take fs.length) []=a at *
 split at h
 ·rename_i q;cases h;have e:mL y (a.findIdx λz=>z==o)=mL ⟨T,O⟩ (a.findIdx λz=>z==o):=by
   have b:=q.2;unfold mL at b⊢;have b:O.getD (a.findIdx λz=>z==o) []≠[]:=b;show y.own.getD _ _=O.getD _ _;rw[zC]at b⊢;rw[zC];cases c:O[a.findIdx λz=>z==o]? with
   |none=>rw[c]at b;exact absurd rfl b
   |some s=>
    rw[c]at b;rcases S.own _ s c with rfl|p
    ·exact absurd rfl b
    ·rw[p]
  rw[e,ip q]
 ·cases h
end
variable{fs:List Fac}{c:Cat}
def TriP.more{al al':Nat->Option Alt}(b:∀i a,al' i=some a->al i=some a){i u h:Nat}(T:TriP fs al' i u h):TriP fs al i u h/\Zx al' i=Zx al i:=by
 obtain⟨a,e⟩:=uC.1 T.al;have e2:=b i a e;refine⟨⟨T.lt,by rw[e2];rfl,T.ku,T.cu,T.kh,T.oh⟩,?_⟩;unfold Zx;rw[e,e2]
def oF.more{al al':Nat->Option Alt}{O O':KV}(g:∀i a,al' i=some a->al i=some a)(n:∀o w,pR o O'=some w->pR o O=some w){r:Nat}{l:List Nat}(hr:oF c fs al' O' r l):oF c fs al O r l:=by
 rcases r with _|_|_|_|_|r
 ·have hr:oF c fs al' O' 0 l:=hr;show oF c fs al O 0 l;simp only[oF]at hr⊢;obtain⟨i,u,h,T,f,e⟩:=hr;obtain⟨b,e2⟩:=T.more g;exact⟨i,u,h,b,by rw[<-e2];exact f,e⟩
 ·have hr:oF c fs al' O' 1 l:=hr;show oF c fs al O 1 l;simp only[oF]at hr⊢;obtain⟨i,u,h,own,T,m,f,e⟩:=hr;obtain⟨b,e2⟩:=T.more g;exact⟨i,u,h,own,b,n _ _ m,by rw[<-e2];exact f,e⟩
 ·have hr:oF c fs al' O' 2 l:=hr;show oF c fs al O 2 l;simp only[oF]at hr⊢;obtain⟨i,u,h,k,T,v,s,f,e⟩:=hr;obtain⟨b,e2⟩:=T.more g;exact⟨i,u,h,k,b,v,s,by rw[<-e2];exact f,e⟩
 ·have hr:oF c fs al' O' 3 l:=hr;show oF c fs al O 3 l;simp only[oF]at hr⊢;obtain⟨i,u,h,x,y,h',T,p,j,f,e⟩:=hr;obtain⟨b,e2⟩:=T.more g;obtain⟨q,e3⟩:=p.more g;exact⟨i,u,h,x,y,h',b,q,j,by rw[<-e2,<-e3];exact f,e⟩
 ·have hr:oF c fs al' O' 4 l:=hr;show oF c fs al O 4 l;simp only[oF]at hr⊢;obtain⟨i,h,own,t,m,d⟩:=hr;exact⟨i,h,own,t,n _ _ m,d⟩
 ·exact hr
def Gap.vios{y:Cho}{O:List (List UInt8)}(S:Gap la O y){v:Vio}(b:v∈p0 c fs ⟨la,O⟩):v∈p0 c fs y:=by
 rw[mT]at b⊢;obtain⟨i,h1,d,l,h3,e⟩:=b;exact⟨i,h1,d,l,h3.more (λi a=>S.al) (λo w=>S.get),e⟩
@[go_sem ↓] theorem zH5(i o:Nat):qQ (.ptr i o)=some (.ptr i o):=(rfl)
@[go_sem ↓] theorem zHB(cs:List D)(o:Nat):qQ (.iptr cs o)=some (.iptr cs o):=(rfl)
def Own.appI{t e:TypeId}{w:HidR K}(a:Own h0 h sz xs d)(m:tG P t=some e)(s:ZW P e=true)(p:szT P e=sz)(A:0<sz)(l:∀y∈ys,y.length=sz)(k:yi sz ys x)
  (v:(xs.length+ys.length)*uE P e<=lim) (z:xs.length+ys.length<=lim) (u:∀g h',Own h0 h' sz (xs++ys) g->K g h'):IE (qg P false h.next t d x h) K w:=by
 have key:∀x,((x=.nilsl/\ys= [])\/(ys≠[]/\∃tk,x=.sl sz ys tk))->onR (qg P false h.next t d x h) K:=λx k=>
  a.2.1.app3 m s p A l k v z λg h' o n b tk c f=>u g h' ⟨⟨zf a.1.1 n,λi j=>by rw[b i (zq j a.1.1) (λq=>by have:=a.2.2 i q;omega)];exact a.1.2 i j⟩,o,λi j=>zf a.1.1 (tk i j)⟩
 rcases k with⟨rfl,rfl⟩ | ⟨tk,rfl⟩
 ·exact key _ (.inl ⟨rfl,rfl⟩)
 ·by_cases r:ys= []
  ·subst r
   have:qg P false h.next t d (.sl sz [] tk) h=qg P false h.next t d .nilsl h:=by simp[qg,m,s,p,QU]
   show onR _ K;rw[this];exact key _ (.inl ⟨rfl,rfl⟩)
  ·exact key _ (.inr ⟨r,tk,rfl⟩)
open Go.Proofs.Tryz
abbrev tV(c:Cat)(fs:List Fac):List (List (List Trm)):=(yH c fs).1
abbrev oV(c:Cat)(fs:List Fac):List (List UInt8):=(yH c fs).2.1
structure Part where
 ts:List (List Trm)
 own:List (List UInt8)
def nu:List Trm->Alt
 | []=>zEs
 |t::ts=>mkA (t::ts)
def gT(t:List Trm):(nu t).ts=t:=by cases t<;>rfl
def Kc(t:List Trm):yi 2 (wt t) (nu t).d:=by
 cases t
 ·exact yi.nil
 ·exact yi.mk .no
def fW(t:List Trm):wr [(nu t).d]:=by
 cases t
 ·exact⟨rfl,by simp[nu,zEs,qO,below],rfl⟩
 ·exact bd _
def oD(p:Part):Cho:=⟨p.ts.map nu,p.own⟩
abbrev tsD(p:Part):D:=.sl 1 (qe (p.ts.map nu)) .no
abbrev owD(p:Part):D:=.sl 1 (wn p.own) .no
def szV(c:Cat)(fs:List Fac)(v:Nat):Nat:=if v<(tV c fs).length then((tV c fs).getD v []).length else c.ls.length
def deV(c:Cat)(fs:List Fac)(p:Part)(v:Nat):Bool:=if v<(tV c fs).length then decide (0<(p.ts.getD v []).length)else !(p.own.getD (v- (tV c fs).length) []== [])
def ctV(c:Cat)(fs:List Fac):Nat:=(tV c fs).length+(oV c fs).length
def nY(c:Cat)(fs:List Fac)(p:Part)(v k:Nat):Part:=if v<(tV c fs).length then⟨p.ts.set v (((tV c fs).getD v []).getD k []),p.own⟩else⟨p.ts,p.own.set (v- (tV c fs).length) ((c.ls.map Lic.name).getD k [])⟩
def pS(c:Cat)(fs:List Fac)(p:Part)(v:Nat):Bool:=decide (1<szV c fs v)&& !(deV c fs p v)
def nxV(c:Cat)(fs:List Fac)(p:Part):Option Nat:=(List.range (ctV c fs)).find? (pS c fs p)
structure SpD(c:Cat)(fs:List Fac)(ca cb ce cp x td od:D):Prop where
 cat:uc c (.agg [ca,cb,ce,cp])
 sm:c.Sm
 x:yi 12 (mV fs) x
 few:BK fs
 ok:∀f∈fs,f.Ok
 v0:(yH c fs).2.2=0
 t:yi 1 (V5 (tV c fs)) td
 o:yi 1 (wn (oV c fs)) od
 tl:(tV c fs).length<=300
 ol:(oV c fs).length<=300
 t64:∀a∈tV c fs,a.length<=64/\AltsOk 64 a
structure POk(c:Cat)(fs:List Fac)(p:Part):Prop where
 tl:p.ts.length=(tV c fs).length
 ol:p.own.length=(oV c fs).length
 t:∀(i:Nat) a,p.ts[i]? =some a->a= []\/a∈(tV c fs).getD i []
 o:∀s∈p.own,s= []\/∃x∈c.ls,x.name=s
section
variable{c:Cat}{fs:List Fac}{ca cb ce cp x td od:D}
def Gw(a:List (List Trm))(h:Heap):mC prog 44 (Ql a) h=some (.int .i64 a.length):=by
 have:=tn (l:=a.map mkA) (yi.mk .no) h
 rwa [zG]at this
def Q7(S:SpD c fs ca cb ce cp x td od)(v:Nat)(g:Heap):zE prog 92 [.iptr [ca,cb,ce,cp,x,td,od] 0,.int .i64 (v:Int)] g λr h'=>h'=g/\r=.int .i64 (szV c fs v:Int):=by
 have k:=ja S.t;obtain⟨_,_,_,_,e,d,_,_,_⟩:=S.cat;cases e;have h:=rS d;have i:=Gw;by_cases a:v<(tV c fs).length
 ·have f:decide ((v:Int)<((tV c fs).length:Int))=true:=zS ow;have b:szV c fs v=(tV c fs)[v].length:=by unfold szV;rw[ip a,zC,zB a];rfl
  have j:=V8 S.t a;rw[b];refine zu zLn ?_;simp only[f92,zA];exact au
 ·have f:decide ((v:Int)<((tV c fs).length:Int))=false:=zP ow;have b:szV c fs v=c.ls.length:=by unfold szV;rw[iq a]
  rw[b];refine zu zLn ?_;simp only[f92,zA];exact au
def NX(S:SpD c fs ca cb ce cp x td od)(g:Heap):zE prog 150 [.iptr [ca,cb,ce,cp,x,td,od] 0] g λr h'=>h'=g/\r=.int .i64 (ctV c fs:Int):=by
 have b:=ja S.t;have a:=wh S.o;have d:IntKind.i64.wrap (((tV c fs).length:Int)+((oV c fs).length:Int))=(ctV c fs:Int):=by unfold ctV;have:=S.tl;have:=S.ol;rw[qU ow ow];omega
 refine zu zFF ?_;simp only[f150,zA];simp only[go_sem, *];refine yI kr ?_;exact au
variable{p:Part}
def LL(S:SpD c fs ca cb ce cp x td od)(e:POk c fs p){v:Nat}(o:v<ctV c fs)(g:Heap):zE prog 151 [.iptr [ca,cb,ce,cp,x,td,od] 0,.agg [tsD p,owD p],.int .i64 (v:Int)] g λr h'=>h'=g/\r=.bool (deV c fs p v):=by
 have s:=ja S.t;have n:=e.tl;have m:=e.ol;unfold ctV at o;have s1:=S.tl;have s2:=S.ol;by_cases b:v<(tV c fs).length
 ·have j:decide ((v:Int)<((tV c fs).length:Int))=true:=zS ow;have a:v<p.ts.length:=by rw[e.tl];exact b
  have f:deV c fs p v=decide (((p.ts[v]).length:Int)>0):=by
   unfold deV;rw[ip b,zC,zB a];simp
  have h:=ox (l:=p.ts.map nu) (d:=tsD p) (yi.mk .no) (i:=v) (by rw[zG];exact a);rw[qr]at h;have k:=uf (Kc p.ts[v]);rw[f];generalize(nu p.ts[v]).d=q at *
  generalize p.ts[v]=t at *
  refine zu zAG ?_;simp only[f151,zA];exact au
 ·have j:decide ((v:Int)<((tV c fs).length:Int))=false:=zP ow;have a:v- (tV c fs).length<p.own.length:=by rw[e.ol];omega
  have f:deV c fs p v= !((p.own[v- (tV c fs).length])== []):=by
   unfold deV;rw[iq b,zC,zB a];rfl
  have h:=rP (l:=p.own) (d:=owD p) (yi.mk .no) a;have u:IntKind.i64.wrap ((v:Int)- ((tV c fs).length:Int))=((v- (tV c fs).length:Nat):Int):=by rw[qU ow ow];omega
  rw[f];generalize p.own[v- (tV c fs).length]=t at *
  refine zu zAG ?_;simp only[f151,zA];simp only[go_sem, *];refine yI kr ?_;exact au
def Bz(S:SpD c fs ca cb ce cp x td od)(F:POk c fs p)(g:Heap):zE prog 91 [.iptr [ca,cb,ce,cp,x,td,od] 0,.agg [tsD p,owD p]] g λr h'=>h'=g/\r=(match nxV c fs p with
  |none=>.tuple [.int .i64 0,.bool false]
  |some v=>.tuple [.int .i64 (v:Int),.bool true]):=by
 have m:=NX S;have y:=Q7 S;have n:=λv G=>LL S F (v:=v) G;have I:ctV c fs<=600:=by unfold ctV;have:=S.tl;have:=S.ol;omega
 refine xP λQ k=> ?_;refine zu zNA ?_;simp only[f91,zA]
 repeat' first|simp only[go_sem, *]|apply bc<;>intro l|(refine zE.mono (m _) ?_;rintro r h ⟨a,rfl⟩)
 subst a
 rename Heap=>g
 refine zd (λi fr h=>fr 0=.iptr [ca,cb,ce,cp,x,td,od] 0/\fr 3=.iptr [tsD p,owD p] 0/\fr 8=.int .i64 (ctV c fs:Int)/\fr 9=.int .i64 (i:Int)/\h=g/\∀j,j<i->pS c fs p j=false) (ctV c fs) ow ?_ ?_ ?_
 ·clear k;simp only[go_sem,zT,zV,zI];exact λj b=>by omega
 ·rintro i fr h e A H ⟨B,C,D,E,a,b⟩;subst a;have w:=y i;have f:=n i e;have d:decide ((szV c fs i:Int)>1)=decide (1<szV c fs i):=by
   by_cases q:1<szV c fs i
   ·rw[zS q];exact zS ow
   ·rw[zP q];exact zP ow
  have u:pS c fs p i=(decide (1<szV c fs i)&& !(deV c fs p i)):=rfl;cases o1:decide (1<szV c fs i)with
  |false=>
   have t:∀j,j<i+1->pS c fs p j=false:=λj h=>by
    rcases z7.1 h with q|rfl
    ·exact b j q
    ·rw[u,o1];rfl
   rw[o1]at d
   repeat' first|simp only[go_sem, *]|apply bc<;>intro l|(refine zE.mono (w _) ?_;rintro r h ⟨a,rfl⟩)
   exact t
  |true=>
  rw[o1]at d;cases o2:deV c fs p i with
  |true=>
   have t:∀j,j<i+1->pS c fs p j=false:=λj h=>by
    rcases z7.1 h with q|rfl
    ·exact b j q
    ·rw[u,o1,o2];rfl
   rw[o2]at f
   repeat' first|simp only[go_sem, *]|apply bc<;>intro l|(refine zE.mono (w _) ?_;rintro r h ⟨a,rfl⟩)|(refine zE.mono (f _) ?_;rintro r h ⟨a,rfl⟩)
   exact t
  |false=>
   have z:nxV c fs p=some i:=by
    unfold nxV;rw[sX];refine⟨by rw[u,o1,o2];rfl,i,by simpa using e,by simp,λj s=> ?_⟩;simp[b j s]
   rw[o2]at f;have a:=k (.tuple [.int .i64 (i:Int),.bool true]) h ⟨rfl,by rw[z]⟩
   repeat' first|simp only[go_sem, *]|apply bc<;>intro l|(refine zE.mono (w _) ?_;rintro r h ⟨a,rfl⟩)|(refine zE.mono (f _) ?_;rintro r h ⟨a,rfl⟩)
 ·rintro fr h A ⟨B,C,D,E,a,b⟩;subst a;have z:nxV c fs p=none:=by
   unfold nxV;rw[lZ];intro j o;rw[b j (qT.1 o)];exact zZ
  have a:=k (.tuple [.int .i64 0,.bool false]) h ⟨rfl,by rw[z]⟩;exact au
end
def SlN(h:Heap)(N:Nat)(cs:List D)(n:Nat)(d:D):Prop:=(n=0/\d=.sl 1 [] .full)\/(n≠0/\d=.rs N 1 0 n/\h.at' N=some (.row cs))
def CN(h:Heap)(cs:List D)(n:Nat)(r:D)(h':Heap):Prop:=SlN h' h.next cs n r/\Ext h h'/\(n=0\/h.next<h'.next)
def SlN.flat{N:Nat}(s:SlN h N cs n d):d.flat=true:=by
 rcases s with⟨_,rfl⟩ | ⟨_,rfl,_⟩ <;>rfl
def SlN.set{N i:Nat}(s:SlN h N cs n d)(a:i≠N)(o:Obj):SlN (h.set i o) N cs n d:=by
 rcases s with s| ⟨s1,s2,b⟩
 ·exact .inl s
 ·exact .inr ⟨s1,s2,by rw[zY (λe=>a e.symm)];exact b⟩
def zNb{a b r l:Nat}{c f:List D}{z A:D}{xa xb:List (List D)}(t:Ext g h)(H:SlN h a c r z)(M:SlN h b f l A)(m:a≠b)(F:g.next<=a)(G:g.next<=b)
  (N:∀x∈xa,wr x) (O:∀x∈xb,wr x) (I:∀x∈xa,x.length=1) (J:∀x∈xb,x.length=1) (v:xa.length=r) (w:xb.length=l) (C:c=xa.flatten) (E:f=xb.flatten)
  {Q R:D->Heap->Prop} (L:∀d h',Ext g h'->below g.next (qD d)->qD d=.agg [.sl 1 xa .no,.sl 1 xb .no]->Q d h') (u:∀d h',Q d h'\/(∃id cs,h'.at' id=some (.row cs)/\Q (frz id cs d) (h'.del id))->R d h'):
  R (.agg [z,A]) h\/∃id cs,h.at' id=some (.row cs)/\R (frz id cs (.agg [z,A])) (h.del id):=by
 have B:=λtk=>yj (sz:=1) N tk;have K:=λtk=>yj (sz:=1) O tk;have j:∀h' tk i,Ext g h'->Q (.agg [.sl 1 xa tk,.sl 1 xb i]) h':=λh' tk i e=>by
  have e2:qD (.agg [.sl 1 xa tk,.sl 1 xb i])=.agg [.sl 1 xa .no,.sl 1 xb .no]:=by
   show D.agg [qD _,qD _]=_;rw[(B tk).1,(K i).1]
  refine L _ _ e ?_ e2;rw[e2];exact⟨qF (yC _) _ (B tk).2,qF (yC _) _ (K i).2,trivial⟩
 have y:∀{xs:List (List D)}{n:Nat},xs.length=n->n=0->xs= []:=λe e2=>yM.1 ow;rcases M with⟨q,rfl⟩ | ⟨q,rfl,o⟩
 ·have p:=y w q;subst p;rcases H with⟨s,rfl⟩ | ⟨s,rfl,k⟩
  ·have p:=y v s;subst p;exact .inl (u _ _ (.inl (j _ _ _ t)))
  ·refine .inl (u _ _ (.inr ⟨a,_,k,?_⟩));show Q (.agg [frz a c (.rs a 1 0 r),frz a c (.sl 1 [] .full)]) _;rw[XM I v C];exact j _ _ _ (t.del F)
 ·rcases H with⟨s,rfl⟩ | ⟨s,rfl,k⟩
  ·have p:=y v s;subst p;refine .inl (u _ _ (.inr ⟨b,_,o,?_⟩));show Q (.agg [frz b f (.sl 1 [] .full),frz b f (.rs b 1 0 l)]) _;rw[XM J w E];exact j _ _ _ (t.del G)
  ·refine .inr ⟨a,_,k,u _ _ (.inr ⟨b,_,by rw[wT (jO m)];exact o,?_⟩)⟩;have e1:frz a c (.agg [.rs a 1 0 r,.rs b 1 0 l])=.agg [.sl 1 xa .no,.rs b 1 0 l]:=by
    show D.agg [frz a c (.rs a 1 0 r),frz a c (.rs b 1 0 l)]=_;rw[XM I v C];simp only[frz];rw[iq (λq=>m q.1.symm)]
   rw[e1];show Q (.agg [frz b f (.sl 1 xa .no),frz b f (.rs b 1 0 l)]) _;rw[XM J w E,ah _ _ _ (B .no).2];exact j _ _ _ ((t.del F).del G)
noncomputable def JN:Cfg:=⟨λt=>List.contains (α:=Nat) [7] t,λi=>(VI (α:=List (Nat×Fl)) [] i).getD []⟩
def zMr(t:Tmp):JN.mu t=List.contains [7] t:=(rfl)
def zLo:Qg prog JN f152=true:=kr
def zLp:Qg prog JN f133=true:=kr
def CN.new(a:n≠0):CN h cs n (.rs h.next 1 0 n) (h.new h.next (.row cs)):=⟨.inr ⟨a,rfl,z8 _ _ _⟩,(Ext.refl h).new (zD _) _,.inr (by rw[za];omega)⟩
def CN.zero(h:Heap)(cs:List D):CN h cs 0 (.sl 1 [] .full) h:=⟨.inl ⟨rfl,rfl⟩,Ext.refl h,.inl rfl⟩
def Vm(l:List (List UInt8)):(wn l).flatten=l.map D.str:=by
 induction l with
 |nil=>rfl
 |cons x l a=>simp only[wn,qm,yS]at a⊢;rw[a];rfl
def Km{l:List Alt}(j:l.length<=1048576)(h:Heap):zE prog 152 [.sl 1 (qe l) tk] h (CN h (l.map Alt.d) l.length):=by
 refine xP λQ c=> ?_;have a:(qe l).length=l.length:=zG ..;have f:jI prog .eql 44 true (.sl 1 (qe l) tk) .nilsl=some (.bool false):=by rw[tI (yi.mk tk) underlying44];rfl
 have i:=λnid h=>wc (P:=prog) (nid:=nid) (h:=h) uV fU ue rfl rfl (by omega:0<1);have b:∃r h',qg prog true h.next 44 (.sl 1 [] .full) (.sl 1 (qe l) tk) h=some (r,h')/\CN h (l.map Alt.d) l.length r h':=by
  rw[oX uV po ue ow (si l) (by rw[tU,a];unfold lim;omega) (by rw[a];unfold lim;omega),a,oM,X2 underlying195];by_cases q:l.length=0
  ·rw[ip q,q];exact⟨_,_,rfl,CN.zero _ _⟩
  ·rw[iq q];exact⟨_,_,rfl,CN.new q⟩
 obtain⟨r,h',b,e⟩:=b;have hf:=c _ _ e;refine xO mix func152 zLo rfl rfl ?_;simp only[f152,zA];simp only[tu,go_sem,zMr,f,i,b,hf]
def Kq{l:List (List UInt8)}(j:l.length<=1048576)(h:Heap):zE prog 133 [.sl 1 (wn l) tk] h (CN h (l.map D.str) l.length):=by
 refine xP λQ c=> ?_;have a:=qw l;have e:jI prog .eql 45 true (.sl 1 (wn l) tk) .nilsl=some (.bool false):=by rw[tI (yi.mk tk) underlying45];rfl
 have i:=λnid h=>wc (P:=prog) (nid:=nid) (h:=h) uK fV pz rfl rfl (by omega:0<1);have b:∃r h',qg prog true h.next 45 (.sl 1 [] .full) (.sl 1 (wn l) tk) h=some (r,h')/\CN h (l.map D.str) l.length r h':=by
  rw[oX uK aU pz ow (λx f=>by obtain⟨s,_,rfl⟩:=zM.1 f;rfl) (by rw[oP,a];unfold lim;omega) (by rw[a];unfold lim;omega),a,Vm,show og prog 9 (l.map D.str)=.row (l.map D.str) by simp[og,underlying9]];by_cases q:l.length=0
  ·rw[ip q,q];exact⟨_,_,rfl,CN.zero _ _⟩
  ·rw[iq q];exact⟨_,_,rfl,CN.new q⟩
 obtain⟨r,h',b,d⟩:=b;have hf:=c _ _ d;refine xO mix func133 zLp rfl rfl ?_;simp only[f133,zA];simp only[tu,go_sem,zMr,e,i,b,hf]
abbrev tsK(p:Part)(tk:Tk):D:=.sl 1 (qe (p.ts.map nu)) tk
abbrev owK(p:Part)(tk:Tk):D:=.sl 1 (wn p.own) tk
variable{c:Cat}{fs:List Fac}{x:D}
def kq(a:k<c.ls.length):(c.ls.map Lic.name).getD k []=c.ls[k].name:=by
 rw[zC,zj,zB a];rfl
def BR{t:List Trm}(h:t≠[]):nu t=mkA t:=by
 cases t
 ·exact absurd rfl h
 ·rfl
section
variable{c:Cat}{fs:List Fac}{ca cb ce cp x td od:D}
variable{p:Part}
theorem RG{t1 t2:Tk}(S:SpD c fs ca cb ce cp x td od)(hp:POk c fs p){v k:Nat}(hv:v<ctV c fs)(hk:k<szV c fs v)(g:Heap):zE prog 93 [.iptr [ca,cb,ce,cp,x,td,od] 0,.agg [tsK p t1,owK p t2],.int .i64 (v:Int),.int .i64 (k:Int)] g λr h'=>h'=g/\r=.agg [tsD (nY c fs p v k),owD (nY c fs p v k)]:=by
 refine xU kr λb7=>xS (zE.freezeOr (zE.freezeOr ?_));refine xP λR hR=> ?_;have E:∀(h:Heap) a b nA nB Y Z j z,Ext g h->SlN h a Y nA j->SlN h b Z nB z->a≠b->g.next<=a->g.next<=b->(nY c fs p v k).ts.length=nA->(nY c fs p v k).own.length=nB->Y=((nY c fs p v k).ts.map nu).map Alt.d->Z=(nY c fs p v k).own.map D.str->R (.agg [j,z]) h:=λh a b nA nB Y Z j z hE mA mB bx ha hb lA lB cA cB=>by
  refine hR _ _ (zNb (Q:=λd h'=>Ext g h'/\below g.next (qD d)/\qD d=.agg [tsD (nY c fs p v k),owD (nY c fs p v k)]) (xa:=qe ((nY c fs p v k).ts.map nu)) (xb:=wn (nY c fs p v k).own) hE mA mB bx ha hb (λx hx=> ?_) uo (si _) (λx hx=> ?_) (by rw[qC,zG,lA]) (by rw[qw,lB]) (by rw[oM,cA]) (by rw[Vm,cB]) (λd h' q1 q2 q3=>⟨q1,q2,q3⟩) (λd h' q=>q))
  ·obtain⟨a,ha,rfl⟩:=zM.1 hx;obtain⟨t,_,rfl⟩:=zM.1 ha;exact fW t
  ·obtain⟨s,_,rfl⟩:=zM.1 hx;rfl
 have hl:=ja S.t;have b3:∀a b:D,yW true 2 [a,b] 0=some (.agg [a,b]):=λa b=>zJ rfl ow;have X:=Km (l:=p.ts.map nu) (tk:=t1) (by rw[zG,hp.tl];have:=S.tl;omega);have ai:=Kq (l:=p.own) (tk:=t2) (by rw[hp.ol];have:=S.ol;omega);rw[zG]at X;obtain⟨G,hG,g5,g8,hE,bk⟩:∃G:Heap,(g.new g.next (.row [tsK p t1,owK p t2])).new (g.next+1) (.row [.nilsl,.nilsl])=G/\G.at' g.next=some (.row [tsK p t1,owK p t2])/\G.at' (g.next+1)=some (.row [.nilsl,.nilsl])/\Ext g G/\G.next=g.next+2:=
  ⟨_,rfl,by rw[zi ow,z8],z8 _ _ _,((Ext.refl g).new (zD _) _).new ow _,qL _ (by rw[za];exact zD _) _⟩
 have b2:(g.new g.next (.row [tsK p t1,owK p t2])).next=g.next+1:=za _ _;have a8:∀h,HLe Heap.emp h:=λh i ob e=>by cases e
 clear hR;have ch:v<(tV c fs).length+(oV c fs).length:=hv;have z1:=S.tl;have z2:=S.ol;generalize cg:g.next=f at *
 have a6:HLe (Heap.one f (.row [tsK p t1,owK p t2])) G:=by rw[gh];exact g5
 refine zu zNB ?_;simp only[f93,zA]
 repeat' first|simp only[go_sem, *]|apply bc<;>intro
 refine qH (Heap.one f (.row [tsK p t1,owK p t2])) [(0,.no,true),(1,.no,true),(3,.no,true),(4,.st,true),(2,.no,true),(6,.no,true),(5,.no,true),(7,.no,false),(8,.no,false),(9,.no,false)] kr kr a6 ?_
 repeat' first|simp only[go_sem,bf, *]|apply bc<;>intro
 refine(X _).mono ?_;rintro j V ⟨mA,e1,k1⟩;have b1:HLe (Heap.one f (.row [tsK p t1,owK p t2])) V:=by rw[gh,e1.2 _ ow];exact g5
 have fA:=mA.flat;have b5:V.at' f=some (.row [tsK p t1,owK p t2]):=by rw[e1.2 _ ow];exact g5
 have b8:V.at' (f+1)=some (.row [.nilsl,.nilsl]):=by rw[e1.2 _ ow];exact g8
 clear X a6
 repeat' first|simp only[go_sem,bf, *]|apply bc<;>intro
 refine(ai _).mono ?_;rintro z I ⟨mB,e2,k2⟩;have cf:HLe (Heap.one f (.row [tsK p t1,owK p t2])) I:=by rw[gh,e2.2 _ (by have:=e1.1;omega)];exact b5
 have fB:=mB.flat;have d5:I.at' f=some (.row [tsK p t1,owK p t2]):=by rw[e2.2 _ (by have:=e1.1;omega)];exact b5
 have d8:I.at' (f+1)=some (.row [.nilsl,.nilsl]):=by rw[e2.2 _ (by have:=e1.1;omega)];exact b8
 have cA:j.cells= [j]:=by rcases mA with⟨_,rfl⟩ | ⟨_,rfl,_⟩ <;>rfl
 have cB:z.cells= [z]:=by rcases mB with⟨_,rfl⟩ | ⟨_,rfl,_⟩ <;>rfl
 have ck:yX prog 44 (.ptr f 0) j I=some (I.set f (.row [j,owK p t2])):=by rw[yU d5 aC (by simp) cA fA];rfl
 have b4:yX prog 45 (.ptr f 1) z (I.set f (.row [j,owK p t2]))=some (I.set f (.row [j,z])):=by rw[yU (zW _ _ _) Mf (by simp) cB fB,kM];rfl
 clear ai b1;have ak:Ext g I:=(hE.trans e1).trans e2;have bo:f+2<=G.next:=ow;have cc:G.next<=V.next:=e1.1;have bs:V.next<=I.next:=e2.1;clear hG bk b2 e1 b5 b8 g5 g8;have gK:∀i,f<=i->∀o,Ext g (I.set f o):=λi hi o=>ak.set ow _;have hK:=λo=>gK f (zD _) o;clear gK;obtain⟨C,au,q5,q8,qE,qk⟩:∃C,I.set f (.row [j,z])=C/\C.at' f=some (.row [j,z])/\C.at' (f+1)=some (.row [.nilsl,.nilsl])/\Ext g C/\∀i,i≠f->C.at' i=I.at' i:=
  ⟨_,rfl,zW _ _ _,by rw[zY ow];exact d8,hK _,λi hi=>zY hi⟩
 have a7:HLe (Heap.one f (.row [j,z])) C:=by rw[gh];exact q5
 rw[au]at b4;have N:SlN C G.next (List.map Alt.d (List.map nu p.ts)) p.ts.length j:=by
  rcases mA with s| ⟨s1,s2,s3⟩
  ·exact .inl s
  ·exact .inr ⟨s1,s2,by rw[qk _ ow,e2.2 _ (k1.resolve_left s1)];exact s3⟩
 have T:SlN C V.next (List.map D.str p.own) p.own.length z:=by
  rcases mB with s| ⟨s1,s2,s3⟩
  ·exact .inl s
  ·exact .inr ⟨s1,s2,by rw[qk _ ow];exact s3⟩
 have J:p.ts.length=0\/G.next≠V.next:=by
  rcases k1 with s|s
  ·exact .inl s
  ·exact .inr ow
 generalize G.next=A at *
 generalize V.next=m at *
 clear mA mB au hK d8 d5 qk k1 k2 e2 bs hE ak;have b9:=b3;have U:∀H,H.at' (f+1)=some (.row [.nilsl,.nilsl])->yX prog 47 (.ptr (f+1) 0) (.agg [j,z]) H=some (H.set (f+1) (.row [j,z])):=λH h=>qp h QN rfl (by simp) (by simp[fA,fB]);by_cases w:v<(tV c fs).length
 ·have hd:decide ((v:Int)<((tV c fs).length:Int))=true:=zS ow;have M:v<p.ts.length:=by rw[hp.tl];exact w
  have F:p.ts.length≠0:=ow;obtain⟨_,rfl,a9⟩:=N.resolve_left λq=>F q.1;have W:=J.resolve_left F;have B:k<(tV c fs)[v].length:=by
   unfold szV at hk
   rwa [ip w,zC,zB w]at hk
  have L:nY c fs p v k= ⟨p.ts.set v ((tV c fs)[v])[k],p.own⟩:=by
   unfold nY;rw[ip w,zC,zC,zB w,zA,zB B];rfl
  have a1:=V8 S.t w;have a2:=ox (l:=(tV c fs)[v].map mkA) (d:=Ql (tV c fs)[v]) (yi.mk .no) (i:=k) (by rw[zG];exact B);rw[qr]at a2;have ad:=(S.t64 _ (zH w)).2.ts _ (zH B);have b0:=Kr ad.1 ow;have ht:=BR ad.1;rw[L]at E;generalize((tV c fs)[v])[k]=t at *
  generalize(tV c fs)[v]=tv at *
  have a3:yt prog 44 (.rs A 1 0 p.ts.length) (.int .i64 (v:Int))=some (.ptr A v):=by
   have:=qj (P:=prog) (sz:=1) (id:=A) uV ue (k:=.i64) M
   rwa [ww]at this
  have ag:yX prog 195 (.ptr A v) (mkA t).d C=some (C.set A (.row ((List.map Alt.d (List.map nu p.ts)).set v (mkA t).d))):=yU a9 ue (by simp[M]) rfl rfl;obtain⟨n,K,r5,r8,rE,rN,O⟩:∃n,C.set A (.row ((List.map Alt.d (List.map nu p.ts)).set v (mkA t).d))=n/\n.at' f=some (.row [.rs A 1 0 p.ts.length,z])/\n.at' (f+1)=some (.row [.nilsl,.nilsl])/\Ext g n/\SlN n A ((List.map Alt.d (List.map nu p.ts)).set v (mkA t).d) p.ts.length (.rs A 1 0 p.ts.length)/\SlN n m (List.map D.str p.own) p.own.length z:=
   ⟨_,rfl,by rw[zY ow];exact q5,by rw[zY ow];exact q8,qE.set ow _,.inr ⟨F,rfl,zW _ _ _⟩,T.set W _⟩
  rw[K]at ag;have U:=U n r8;have a5:R (.agg [.rs A 1 0 p.ts.length,z]) (n.set (f+1) (.row [.rs A 1 0 p.ts.length,z])):=E _ A m _ _ _ _ _ _ (rE.set ow _) (rN.set ow _) (O.set ow _) W ow ow (by simp) rfl (by rw[tR,tR,ht]) rfl;clear E N T a9 rE rN O K ht ad J qE a8 hk B L
  repeat' first|simp only[go_sem,bf, *]|apply bc<;>intro
  refine qH (Heap.one f (.row [.rs A 1 0 p.ts.length,z])) [(0,.no,true),(1,.st,true),(2,.no,true),(3,.no,true),(4,.no,true),(5,.no,true),(6,.no,true),(7,.no,true),(8,.no,true),(9,.no,true),(10,.no,true),(11,.no,true),(12,.no,true),(13,.no,true),(14,.no,true),(15,.no,false)] kr kr a7 ?_
  repeat' first|simp only[go_sem,bf,zW, *]|apply bc<;>intro hc|(refine zE.mono (b0 _) ?_;rintro r h ⟨hq,rfl⟩)
 ·have hd:decide ((v:Int)<((tV c fs).length:Int))=false:=zP ow;have M:v- (tV c fs).length<p.own.length:=by rw[hp.ol];omega
  have F:p.own.length≠0:=ow;obtain⟨_,rfl,ba⟩:=T.resolve_left λq=>F q.1;have B:k<c.ls.length:=by
   unfold szV at hk
   rwa [iq w]at hk
  have L:nY c fs p v k= ⟨p.ts,p.own.set (v- (tV c fs).length) c.ls[k].name⟩:=by
   unfold nY;rw[iq w,kq B]
  obtain⟨_,_,_,_,e,ha,_,_,_⟩:=S.cat;cases e;have a1:=pu ha B;rw[L]at E;generalize c.ls[k]=y at *
  simp only[Lic.cells]at a1;have hw:IntKind.i64.wrap ((v:Int)- ((tV c fs).length:Int))=((v- (tV c fs).length:Nat):Int):=by rw[qU ow ow];omega
  generalize v- (tV c fs).length=u at *
  have a3:yt prog 45 (.rs m 1 0 p.own.length) (.int .i64 (u:Int))=some (.ptr m u):=by
   have:=qj (P:=prog) (sz:=1) (id:=m) uK pz (k:=.i64) M
   rwa [ww]at this
  have ag:yX prog 9 (.ptr m u) (.str y.name) C=some (C.set m (.row ((List.map D.str p.own).set u (.str y.name)))):=yU ba pz (by simp[M]) rfl rfl;have bb:∀o,SlN (C.set m o) (if p.ts.length=0 then m+1 else A) (List.map Alt.d (List.map nu p.ts)) p.ts.length j:=λo=>by
   by_cases q:p.ts.length=0
   ·rcases N with s|s
    ·exact .inl s
    ·exact absurd q s.1
   ·rw[iq q];exact N.set (jO (J.resolve_left q)) _
  have a0:(if p.ts.length=0 then m+1 else A)≠m/\f+2<=(if p.ts.length=0 then m+1 else A):=by
   by_cases q:p.ts.length=0
   ·rw[ip q];omega
   ·rw[iq q];exact⟨J.resolve_left q,bo⟩
  generalize(if p.ts.length=0 then m+1 else A)=NC at *
  obtain⟨a4,b6⟩:=a0;obtain⟨n,K,r5,r8,rE,rN,O⟩:∃n,C.set m (.row ((List.map D.str p.own).set u (.str y.name)))=n/\n.at' f=some (.row [j,.rs m 1 0 p.own.length])/\n.at' (f+1)=some (.row [.nilsl,.nilsl])/\Ext g n/\SlN n m ((List.map D.str p.own).set u (.str y.name)) p.own.length (.rs m 1 0 p.own.length)/\SlN n NC (List.map Alt.d (List.map nu p.ts)) p.ts.length j:=
   ⟨_,rfl,by rw[zY ow];exact q5,by rw[zY ow];exact q8,qE.set ow _,.inr ⟨F,rfl,zW _ _ _⟩,bb _⟩
  rw[K]at ag;have U:=U n r8;have a5:R (.agg [j,.rs m 1 0 p.own.length]) (n.set (f+1) (.row [j,.rs m 1 0 p.own.length])):=E _ NC m _ _ _ _ _ _ (rE.set ow _) (O.set ow _) (rN.set ow _) a4 ow ow rfl (by simp) rfl (by rw[tR]);clear E N T bb ba rE rN O K J qE a8 hk B L
  repeat' first|simp only[go_sem,bf, *]|apply bc<;>intro
  refine qH (Heap.one f (.row [j,.rs m 1 0 p.own.length])) [(0,.no,false),(1,.no,false),(2,.no,false),(3,.no,false),(4,.no,false),(5,.no,false),(6,.no,false),(7,.no,false),(8,.no,false),(9,.no,false),(10,.no,false),(11,.no,false),(12,.no,false),(13,.no,false),(14,.no,false),(15,.no,false),(16,.no,false),(17,.no,false),(18,.no,false),(19,.no,false)] kr kr a7 ?_
  repeat' first|simp only[go_sem,bf,zW, *]|apply bc<;>intro
end
def wm(c:Cat)(fs:List Fac):Nat->Part
 |0=>⟨List.replicate (tV c fs).length [],List.replicate (oV c fs).length []⟩
 |n+1=>if szV c fs n=1 then nY c fs (wm c fs n) n 0 else wm c fs n
def mN(c:Cat)(fs:List Fac):Part:=wm c fs (ctV c fs)
variable{c:Cat}{fs:List Fac}{p:Part}{x:D}
def POk.dec(b:POk c fs p){v k:Nat}(d:k<szV c fs v):POk c fs (nY c fs p v k):=by
 unfold nY;unfold szV at d;by_cases e:v<(tV c fs).length
 ·rw[ip e]at d⊢;refine⟨by simp[b.tl],b.ol,λi a h=> ?_,b.o⟩;rw[ou]at h;split at h
  ·rename_i q;subst q;split at h
   ·cases h;refine .inr ?_;rw[zC (l:=(tV c fs).getD v []),zB d];exact zH _
   ·cases h
  ·exact b.t i a h
 ·rw[iq e]at d⊢;refine⟨b.tl,by simp[b.ol],b.t,λs f=> ?_⟩;rcases uw f with h|rfl
  ·exact b.o s h
  ·rw[kq d];exact .inr ⟨_,zH _,rfl⟩
theorem tg(c:Cat)(fs:List Fac):∀n,POk c fs (wm c fs n)
 |0=>⟨by simp[wm],by simp[wm],λi a h=>.inl (by
   have:=zg h;simp[wm]at this;exact this.2),λs h=>.inl (by simp[wm]at h;exact h.2)⟩
 |n+1=>by
  rw[wm];split
  ·rename_i h;exact(tg c fs n).dec ow
  ·exact tg c fs n
section
variable{c:Cat}{fs:List Fac}{ca cb ce cp x td od:D}
theorem B1(S:SpD c fs ca cb ce cp x td od)(g:Heap):zE prog 94 [.iptr [ca,cb,ce,cp,x,td,od] 0] g λr h'=>h'=g/\r=.agg [tsD (mN c fs),owD (mN c fs)]:=by
 refine xU kr λV=>xS ?_;refine xP λR T=> ?_;have N:=tg c fs;have j:∀(h:Heap) k1 k2,Ext g h->R (.agg [tsK (mN c fs) k1,owK (mN c fs) k2]) h:=λh k1 k2 m=>by
  have Z:=yj (sz:=1) (xs:=qe ((mN c fs).ts.map nu)) (λx hx=>by
   obtain⟨a,J,rfl⟩:=zM.1 hx;obtain⟨t,_,rfl⟩:=zM.1 J;exact fW t)
  have sB:=yj (sz:=1) (xs:=wn (mN c fs).own) uo;have e2:qD (.agg [tsK (mN c fs) k1,owK (mN c fs) k2])=.agg [tsD (mN c fs),owD (mN c fs)]:=by
   show D.agg [qD _,qD _]=_;rw[(Z k1).1,(sB k2).1]
  refine T _ _ ⟨m,?_,e2⟩;rw[e2];exact⟨qF (yC _) _ (Z k1).2,qF (yC _) _ (sB k2).2,trivial⟩
 have hl:=ja S.t;have ag:=wh S.o;have z1:=S.tl;have z2:=S.ol;have K:=NX S;have u:=Q7 S;have n:=λ{k1 k2} i hi hk=>RG (t1:=k1) (t2:=k2) S (N i) (v:=i) (k:=0) hi hk;have p:∀nid H,tW prog false nid 44 (.int .i64 ((tV c fs).length:Int)) (.int .i64 ((tV c fs).length:Int)) H=some (.sl 1 (List.replicate (tV c fs).length [.nilsl]) .full,H):=λnid H=>by
  simp only[tW,uV,fU,ue,ui,tU];rw[ip (by simp[D.notTuple,D.cells];unfold lim;omega)];rfl
 have s:∀nid H,tW prog false nid 45 (.int .i64 ((oV c fs).length:Int)) (.int .i64 ((oV c fs).length:Int)) H=some (.sl 1 (List.replicate (oV c fs).length [.str []]) .full,H):=λnid H=>by
  simp only[tW,uK,fV,pz,ui,oP];rw[ip (by simp[D.notTuple,D.cells];unfold lim;omega)];rfl
 have X:D.sl 1 (List.replicate (tV c fs).length [.nilsl]) .full=tsK (wm c fs 0) .full:=by simp[tsK,wm,qe,nu,zEs]
 have Y:D.sl 1 (List.replicate (oV c fs).length [.str []]) .full=owK (wm c fs 0) .full:=by simp[owK,wm,wn]
 rw[X]at p;rw[Y]at s;have au:∀a b:Tk,qd prog 47 [(0,tsK (wm c fs 0) a),(1,owK (wm c fs 0) b)]=some (.agg [tsK (wm c fs 0) a,owK (wm c fs 0) b]):=λa b=>by simp[qd,Ln,Mu,ur,wo,D.notTuple,D.cells]
 have U:ctV c fs<=600:=by unfold ctV;omega
 have d:∀(H:Heap) id a b O b',H.at' id=some (.row [O,b'])->a.flat=true->b.flat=true->yX prog 47 (.ptr id 0) (.agg [a,b]) H=some (H.set id (.row [a,b])):=λH id a b O b' h J U=>qp h QN rfl (by simp) (by simp[J,U]);obtain⟨G,P,y,w,m,ad⟩:∃G:Heap,((g.new g.next (.row [.nilsl,.nilsl])).new (g.next+1) (.row [.nilsl,.nilsl])).set (g.next+1) (.row [tsK (wm c fs 0) .full,owK (wm c fs 0) .full])=G/\G.at' g.next=some (.row [.nilsl,.nilsl])/\G.at' (g.next+1)=some (.row [tsK (wm c fs 0) .full,owK (wm c fs 0) .full])/\Ext g G/\G.next=g.next+2:=
  ⟨_,rfl,by rw[zY ow,zi ow,z8],zW _ _ _,(((Ext.refl g).new (zD _) _).new ow _).set ow _,by rw[ym];exact qL _ (by rw[za];exact zD _) _⟩
 have A:=d ((g.new g.next (.row [.nilsl,.nilsl])).new (g.next+1) (.row [.nilsl,.nilsl])) (g.next+1) (tsK (wm c fs 0) .full) (owK (wm c fs 0) .full) _ _ (z8 _ _ _) rfl rfl;rw[P]at A;have ak:(g.new g.next (.row [.nilsl,.nilsl])).next=g.next+1:=za _ _;have L:∀h,HLe Heap.emp h:=λh i ob e=>by cases e
 clear T X Y P;generalize ai:g.next=l at *
 refine zu zNC ?_;simp only[f94,zA]
 repeat' first|simp only[go_sem, *]|apply bc<;>intro B
 refine qH Heap.emp [(0,.no,true),(1,.no,true),(2,.no,true),(3,.st,true),(4,.no,true),(5,.no,true),(6,.no,true),(7,.no,true),(8,.no,true),(9,.st,true),(10,.no,true),(11,.no,true),(12,.no,true),(13,.no,true),(14,.no,true)] kr kr (L _) ?_
 repeat' first|simp only[go_sem, *]|apply bc<;>intro B
 refine(K _).mono ?_;rintro r H ⟨E,rfl⟩;subst E
 repeat' first|simp only[go_sem, *]|apply bc<;>intro B
 refine zd (λi fr h=>fr 0=.iptr [ca,cb,ce,cp,x,td,od] 0/\fr 2=.ptr l 0/\fr 3=.ptr (l+1) 0/\fr 19=.int .i64 (ctV c fs:Int)/\fr 20=.int .i64 (i:Int)/\h.at' l=some (.row [.nilsl,.nilsl])/\Ext g h/\∃k1 k2,h.at' (l+1)=some (.row [tsK (wm c fs i) k1,owK (wm c fs i) k2])) (ctV c fs) ow ?_ ?_ ?_
 ·clear j p s d;simp only[go_sem,zT,zV,zI,y];exact⟨m,_,_,w⟩
 ·clear y w m A p s;rintro i fr h M ec ew ⟨f0,f2,f3,F,I,y,m,k1,k2,w⟩;have W:=u i;have C:((szV c fs i:Int)==1)=decide (szV c fs i=1):=by
   by_cases q:szV c fs i=1
   ·rw[q];rfl
   ·rw[zP q,yr];omega
  have f:wm c fs (i+1)=if szV c fs i=1 then nY c fs (wm c fs i) i 0 else wm c fs i:=rfl
  by_cases q:szV c fs i=1
  ·rw[zS q]at C;rw[ip q]at f;have z:=n (k1:=k1) (k2:=k2) i M ow;rw[<-f]at z;have h0:((0:Nat):Int)=0:=rfl;rw[h0]at z;have st:=d h (l+1) (tsD (wm c fs (i+1))) (owD (wm c fs (i+1))) _ _ w rfl rfl;obtain⟨H,Q,q2,q3,qE⟩:∃H,h.set (l+1) (.row [tsD (wm c fs (i+1)),owD (wm c fs (i+1))])=H/\H.at' l=some (.row [.nilsl,.nilsl])/\(∃k1 k2,H.at' (l+1)=some (.row [tsK (wm c fs (i+1)) k1,owK (wm c fs (i+1)) k2]))/\Ext g H:=⟨_,rfl,by rw[zY ow];exact y,⟨.no,.no,zW _ _ _⟩,m.set ow _⟩;rw[Q]at st;clear n j u f Q h0 d q m
   repeat' first|simp only[go_sem, *]|apply bc<;>intro B|(refine zE.mono (W _) ?_;rintro r h ⟨E,rfl⟩)|(refine zE.mono (z _) ?_;rintro r h ⟨E,rfl⟩)
  ·rw[zP q]at C;rw[iq q]at f;have q3:∃k1 k2,h.at' (l+1)=some (.row [tsK (wm c fs (i+1)) k1,owK (wm c fs (i+1)) k2]):=⟨_,_,by rw[f];exact w⟩;clear n j u d f w
   repeat' first|simp only[go_sem, *]|apply bc<;>intro B|(refine zE.mono (W _) ?_;rintro r h ⟨E,rfl⟩)
 ·clear y w m A p s;rintro fr h ec ⟨f0,f2,f3,F,I,y,m,k1,k2,w⟩;have st:=d h l (tsK (wm c fs (ctV c fs)) k1) (owK (wm c fs (ctV c fs)) k2) _ _ y rfl rfl;have hf:=j (h.set l (.row [tsK (wm c fs (ctV c fs)) k1,owK (wm c fs (ctV c fs)) k2])) k1 k2 (m.set ow _);unfold mN at hf;clear j n d u
  repeat' first|simp only[go_sem,zW, *]|apply bc<;>intro B
end
def zIN(c:Cat)(fs:List Fac)(ca cb ce cp x:D)(r:D):Prop:=(ql c fs≠0/\r=.tuple [.nilptr,.int .i64 (ql c fs)])\/(ql c fs=0/\∃td od,r=.tuple [.iptr [ca,cb,ce,cp,x,td,od] 0,.int .i64 0]/\SpD c fs ca cb ce cp x td od/\td.flat=true/\od.flat=true)
variable{c:Cat}{fs:List Fac}{x:D}
def lu(h:ql c fs=0):(yH c fs).2.2=0:=by
 unfold ql at h;split at h
 ·exact h
 ·rename_i q;simpa using q
def B0{ca cb ce cp x:D}(e:uc c (.agg [ca,cb,ce,cp]))(q:c.Sm)(n:yi 12 (mV fs) x)(t:BK fs)(d:∀f∈fs,f.Ok)(g:Heap):zE prog 42 [.agg [ca,cb,ce,cp],x] g λr h'=>h'=g/\zIN c fs ca cb ce cp x r:=by
 refine xP λQ u=> ?_;have K:=t.1.2;have a:=Qz e q n ow d;have j:=UG e q n ow d;obtain⟨z,A⟩:=ZQ (c:=c) (l:=fs);have s:=pc (c:=c) (l:=fs);obtain⟨⟨G,H⟩,I,J⟩:=XT e;obtain⟨E,F,N⟩:=yP n;have k:∀td od:D,td.cells= [td]->od.cells= [od]->td.notTuple=true->od.notTuple=true->qd prog 163 [(0,.agg [ca,cb,ce,cp]),(1,x),(2,td),(3,od)]=some (.agg [ca,cb,ce,cp,x,td,od]):=λtd od h1 b h3 v=>by simp[qd,Pc,HW,ur,wo,RK,Zo,E,F,h1,b,h3,v]
 unfold XA at a;cases m:(ql c fs==0)with
 |false=>
  have p:ql c fs≠0:=by simpa using m
  have i:=u (.tuple [.nilptr,.int .i64 (ql c fs)]) g ⟨rfl,.inl ⟨p,rfl⟩⟩;rw[iq (by rw[m];exact zZ)]at a;refine zu zLi ?_;simp only[f42,zA]
  repeat' first|simp only[go_sem, *]|apply bc<;>intro e|(refine zE.mono (a _) ?_;rintro r h ⟨i,rfl⟩)
 |true=>
  have h0:ql c fs=0:=by simpa using m
  have v0:=lu h0;rw[ip m]at a;rw[v0]at j;have o:∀td od,Fin 1 (V5 (tV c fs)) td->Fin 1 (wn (oV c fs)) od->Q (.tuple [.iptr [ca,cb,ce,cp,x,td,od] 0,.int .i64 0]) g:=λtd od h1 b=>u _ _ ⟨rfl,.inr ⟨h0,td,od,rfl,⟨e,q,n,t,d,v0,h1.isSl,b.isSl,by unfold tV;omega,by unfold oV;omega,s⟩,(yP h1.isSl).2.2,(yP b.isSl).2.2⟩⟩;refine zu zLi ?_;simp only[f42,zA]
  repeat' first|simp only[go_sem, *]|apply bc<;>intro e|(refine zE.mono (a _) ?_;rintro r h ⟨i,rfl⟩)
  subst i;refine(j _).mono ?_;rintro r h ⟨i,td,od,rfl,h1,b⟩;subst i;obtain⟨w,y,L⟩:=yP h1.isSl;obtain⟨B,C,M⟩:=yP b.isSl;have k:=k td od w B y C;have i:=o td od h1 b;exact au
end Go.V
