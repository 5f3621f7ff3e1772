/- A machine of abstract values for programs of the model, further rules, part 4. No condition. -/
import Derived.Test.YtkenagjlanhnmaaGreatDoorW38
import Derived.Test.YtkenagjlanhnmaaGreatDoorW21
set_option linter.all false
set_option maxHeartbeats 8000000
namespace Go.V
set_option maxRecDepth 100000
open Go.Proofs.Tryz
open Go.Proofs
def fE{l m:List Int}{d e:D}(n:yg 1 (wC l) d)(o:yg 1 (wC m) e)(H:l.length<=1048576)(g:Heap):zE prog 54 [d,e] g λr h'=>h'=g/\r=.int .i64 (sP l m):=by
 have x:=tr n;have y:=tr o;obtain⟨I,J,_⟩:=zp n;obtain⟨K,L,_⟩:=zp o;refine zo zQD ?_;simp only[f54,zA];simp only[go_sem, *];refine ql (λi fr h'=>fr 0=d/\fr 1=e/\fr 5=.int .i64 (i:Int)/\h'=g/\i<=m.length/\sP (l.drop i) (m.drop i)=sP l m) l.length ?_ ?_
 .simp only[go_sem,zQ,zT,zG]
  exact⟨yD _,rfl⟩
 rintro i fr h' G ⟨C,E,F,rfl,w,a⟩;by_cases c:i<l.length
 .have e1:decide ((i:Int)<(l.length:Int))=true:=zR ow
  have z:=oe n c;by_cases p:m.length<=i
  .have e2:decide ((i:Int)<(m.length:Int))=false:=zO ow
   have e3:decide ((l.length:Int)<(m.length:Int))=false:=zO ow;have v:decide ((l.length:Int)>(m.length:Int))=true:=zR ow;have hr:sP l m=1:=by
    rw[z8 c,wo p]at a;rw[<-a];rfl
   rw[hr];exact au
  .have e2:decide ((i:Int)<(m.length:Int))=true:=zR ow
   have b:i<m.length:=ow;have A:=oe o b;rw[QR c b]at a;simp only[zC,zB c,zB b,zA]at a;have B:IntKind.i64.wrap ((i:Int)+1)=((i+1:Nat):Int):=qR jL;unfold tD at a;cases s:decide (l[i]<m[i])with
   |true=>
    have f:=yB s;rw[ip f,iq jD]at a;rw[<-a];simp only[go_sem, *];refine yF kr ?_;simp only[go_sem, *]
   |false=>
    have f:=yJ s;rw[iq f]at a;cases t:decide (l[i]>m[i])with
    |true=>
     have h:=yB t;rw[ip h,iq jD]at a;rw[<-a];simp only[go_sem, *];refine yF kr ?_;simp only[go_sem, *];refine yF kr ?_;simp only[go_sem, *]
    |false=>
     have h:=yJ t;rw[iq h,ip rfl]at a;have u:i<l.length/\i+1<=m.length/\sP (l.drop (i+1)) (m.drop (i+1))=sP l m:=⟨c,b,a⟩;simp only[go_sem, *];refine yF kr ?_;simp only[go_sem, *];refine yF kr ?_;exact au
 .have e1:decide ((i:Int)<(l.length:Int))=false:=zO ow
  have q:l.length<=i:=ow;rw[wo q]at a;cases j:decide ((l.length:Int)<(m.length:Int))with
  |true=>
   have k:=yB j;have hr:sP l m= -1:=by
    rw[z8 (show i<m.length by omega)]at a;rw[<-a];rfl
   rw[hr];simp only[go_sem, *]
  |false=>
   have k:=yJ j;have v:decide ((l.length:Int)>(m.length:Int))=false:=zO ow;have hr:sP l m=0:=by
    rw[wo ow]at a;rw[<-a];rfl
   rw[hr];exact au
variable{c:Cat}{fs:List Fac}{k i sz n:Nat}{la:List Alt}{P:Program}{h0 h g:Heap}{xs ys:List (List D)}{d x:D}{K:D->Heap->Prop}{cs:List D}{tk:Tk}
def ZE(h:(yV c fs).2.2=0):(yV c fs).2.1=t4 fs []:=by
 unfold yV at h⊢;by_cases q:(!((wj c fs).2==0))=true
 .rw[ip q]at h
  have:(wj c fs).2≠0:=by simpa using q
  exact absurd h this
 .rw[iq q]at h⊢
  exact(jQ h).2
def zDw{y:Cho}(W:Whole c fs y)(h:k<fs.length)(b:uK fs k=1):nn y (kY fs k)∈y.ts:=by
 have a:kY fs k<y.ts.length:=by rw[W.tl];exact(zK.1 (Am h b)).1
 unfold nn;rw[zC,zB a];exact zI a
def zGi:Alt:=⟨[],.nilsl⟩
structure Gap(T:List Alt)(O:List (List UInt8))(y:Cho):Prop where
 tl:T.length=y.ts.length
 ol:O.length=y.own.length
 ts:∀(i:Nat) a,T[i]? =some a->a=zGi\/y.ts[i]? =some a
 own:∀(i:Nat) s,O[i]? =some s->s= []\/y.own[i]? =some s
section
variable{c:Cat}{fs:List Fac}{y:Cho}{T:List Alt}{O:List (List UInt8)}
def Gap.al(S:Gap T O y){a:Alt}(h:alS fs ⟨T,O⟩ i=some a):alS fs y i=some a:=by
 unfold alS at h⊢;cases hf:fs[i]? with
 |none=>rw[hf]at h;cases h
 |some f=>
  rw[hf]at h;simp only at h⊢;split at h
  .rename_i j
   rw[ip j];split at h
   .rename_i g
    have c:=yB g;have e:nn y (kY fs i)=nn ⟨T,O⟩ (kY fs i):=by
     unfold nn;show y.ts.getD _ _=T.getD _ _;rw[zC,zC];cases d:T[kY fs i]? with
     |none=>
      have:nn ⟨T,O⟩ (kY fs i)=mkA []:=by unfold nn;show T.getD _ _=_;rw[zC,d];rfl
      rw[this]at c;simp[mkA]at c
     |some b=>
      have:nn ⟨T,O⟩ (kY fs i)=b:=by unfold nn;show T.getD _ _=_;rw[zC,d];rfl
      rw[this]at c;rcases S.ts _ b d with rfl|q
      .simp[zGi]at c
      .rw[q]
    rw[e,ip g];exact h
   .cases h
  .cases h
def Gap.get(S:Gap T O y){o w:List UInt8}(h:pV o (qI ⟨T,O⟩ fs fs.length).O=some w):pV o (qI y fs fs.length).O=some w:=by
 rw[XN _ (zD _),lR _ (zD _)]at h⊢;unfold Ak at h⊢;generalize t4 (fs.take fs.length) []=a at *
 split at h
 .rename_i q
  cases h;have e:lK y (a.findIdx λz=>z==o)=lK ⟨T,O⟩ (a.findIdx λz=>z==o):=by
   have b:=q.2;unfold lK at b⊢;have b:O.getD (a.findIdx λz=>z==o) []≠[]:=b;show y.own.getD _ _=O.getD _ _;rw[zC]at b⊢;rw[zC];cases c:O[a.findIdx λz=>z==o]? with
   |none=>rw[c]at b;exact absurd rfl b
   |some s=>
    rw[c]at b;rcases S.own _ s c with rfl|p
    .exact absurd rfl b
    .rw[p]
  rw[e,ip q]
 .cases h
end
variable{fs:List Fac}{c:Cat}
def TriP.more{al al':Nat->Option Alt}(b:∀i a,al' i=some a->al i=some a){i u h:Nat}(T:TriP fs al' i u h):TriP fs al i u h/\Yl al' i=Yl al i:=by
 obtain⟨a,e⟩:=u9.1 T.al;have e2:=b i a e;refine⟨⟨T.lt,by rw[e2];rfl,T.ku,T.cu,T.kh,T.oh⟩,?_⟩;unfold Yl;rw[e,e2]
def oX.more{al al':Nat->Option Alt}{O O':KV}(g:∀i a,al' i=some a->al i=some a)(n:∀o w,pV o O'=some w->pV o O=some w){r:Nat}{l:List Nat}(hr:oX c fs al' O' r l):oX c fs al O r l:=by
 rcases r with _|_|_|_|_|r
 .have hr:oX c fs al' O' 0 l:=hr
  show oX c fs al O 0 l;simp only[oX]at hr⊢;obtain⟨i,u,h,T,f,e⟩:=hr;obtain⟨b,e2⟩:=T.more g;exact⟨i,u,h,b,by rw[<-e2];exact f,e⟩
 .have hr:oX c fs al' O' 1 l:=hr
  show oX c fs al O 1 l;simp only[oX]at hr⊢;obtain⟨i,u,h,own,T,m,f,e⟩:=hr;obtain⟨b,e2⟩:=T.more g;exact⟨i,u,h,own,b,n _ _ m,by rw[<-e2];exact f,e⟩
 .have hr:oX c fs al' O' 2 l:=hr
  show oX c fs al O 2 l;simp only[oX]at hr⊢;obtain⟨i,u,h,k,T,v,s,f,e⟩:=hr;obtain⟨b,e2⟩:=T.more g;exact⟨i,u,h,k,b,v,s,by rw[<-e2];exact f,e⟩
 .have hr:oX c fs al' O' 3 l:=hr
  show oX c fs al O 3 l;simp only[oX]at hr⊢;obtain⟨i,u,h,x,y,h',T,p,j,f,e⟩:=hr;obtain⟨b,e2⟩:=T.more g;obtain⟨q,e3⟩:=p.more g;exact⟨i,u,h,x,y,h',b,q,j,by rw[<-e2,<-e3];exact f,e⟩
 .have hr:oX c fs al' O' 4 l:=hr
  show oX c fs al O 4 l;simp only[oX]at hr⊢;obtain⟨i,h,own,t,m,d⟩:=hr;exact⟨i,h,own,t,n _ _ m,d⟩
 .exact hr
def Gap.vios{y:Cho}{O:List (List UInt8)}(S:Gap la O y){v:Vio}(b:v∈pW c fs ⟨la,O⟩):v∈pW c fs y:=by
 rw[ZJ]at b⊢;obtain⟨i,h1,d,l,h3,e⟩:=b;exact⟨i,h1,d,l,h3.more (λi a=>S.al) (λo w=>S.get),e⟩
@[go_sem ↓] def zKG(i o:Nat):qU (.ptr i o)=some (.ptr i o):=(rfl)
@[go_sem ↓] def zJB(cs:List D)(o:Nat):qU (.iptr cs o)=some (.iptr cs o):=(rfl)
def Own.appI{t e:TypeId}{w:HidR K}(a:Own h0 h sz xs d)(m:ur P t=some e)(s:ZU P e=true)(p:szT P e=sz)(A:0<sz)(l:∀y∈ys,y.length=sz)(k:yg sz ys x)
  (v:(xs.length+ys.length)*wr P e<=lim) (z:xs.length+ys.length<=lim) (u:∀g h',Own h0 h' sz (xs++ys) g->K g h'):Hs (qg P false h.next t d x h) K w:=by
 have key:∀x,((x=.nilsl/\ys= [])\/(ys≠[]/\∃tk,x=.sl sz ys tk))->onR (qg P false h.next t d x h) K:=λx k=>
  a.2.1.app3 m s p A l k v z λg h' o n b tk c f=>u g h' ⟨⟨zY a.1.1 n,λi j=>by rw[b i (zl j a.1.1) (λq=>by have:=a.2.2 i q;omega)];exact a.1.2 i j⟩,o,λi j=>zY a.1.1 (tk i j)⟩
 rcases k with⟨rfl,rfl⟩ | ⟨tk,rfl⟩
 .exact key _ (.inl ⟨rfl,rfl⟩)
 .by_cases r:ys= []
  .subst r
   have:qg P false h.next t d (.sl sz [] tk) h=qg P false h.next t d .nilsl h:=by simp[qg,m,s,p,Us]
   show onR _ K;rw[this];exact key _ (.inl ⟨rfl,rfl⟩)
  .exact key _ (.inr ⟨r,tk,rfl⟩)
abbrev tV(c:Cat)(fs:List Fac):List (List (List Trm)):=(yV c fs).1
abbrev oV(c:Cat)(fs:List Fac):List (List UInt8):=(yV c fs).2.1
structure Part where
 ts:List (List Trm)
 own:List (List UInt8)
def kJ:List Trm->Alt
 | []=>zGi
 |t::ts=>mkA (t::ts)
def ZY(t:List Trm):(kJ t).ts=t:=by cases t<;>rfl
def J3(t:List Trm):yg 2 (wp t) (kJ t).d:=by
 cases t
 .exact yg.nil
 .exact yg.mk .no
def dH(t:List Trm):wl [(kJ t).d]:=by
 cases t
 .exact⟨rfl,by simp[kJ,zGi,qM,below],rfl⟩
 .exact aU _
def oP(p:Part):Cho:=⟨p.ts.map kJ,p.own⟩
abbrev tsD(p:Part):D:=.sl 1 (qe (p.ts.map kJ)) .no
abbrev owD(p:Part):D:=.sl 1 (wh p.own) .no
def szV(c:Cat)(fs:List Fac)(v:Nat):Nat:=if v<(tV c fs).length then((tV c fs).getD v []).length else c.ls.length
def deV(c:Cat)(fs:List Fac)(p:Part)(v:Nat):Bool:=if v<(tV c fs).length then decide (0<(p.ts.getD v []).length)else !(p.own.getD (v- (tV c fs).length) []== [])
def ctV(c:Cat)(fs:List Fac):Nat:=(tV c fs).length+(oV c fs).length
def pY(c:Cat)(fs:List Fac)(p:Part)(v k:Nat):Part:=if v<(tV c fs).length then⟨p.ts.set v (((tV c fs).getD v []).getD k []),p.own⟩else⟨p.ts,p.own.set (v- (tV c fs).length) ((c.ls.map Lic.name).getD k [])⟩
def pL(c:Cat)(fs:List Fac)(p:Part)(v:Nat):Bool:=decide (1<szV c fs v)&& !(deV c fs p v)
def nxV(c:Cat)(fs:List Fac)(p:Part):Option Nat:=(List.range (ctV c fs)).find? (pL c fs p)
structure SpD(c:Cat)(fs:List Fac)(ca cb ce cp x td od:D):Prop where
 cat:uL c (.agg [ca,cb,ce,cp])
 sm:c.Sm
 x:yg 12 (nu fs) x
 few:Dl fs
 ok:∀f∈fs,f.Ok
 v0:(yV c fs).2.2=0
 t:yg 1 (Vp (tV c fs)) td
 o:yg 1 (wh (oV c fs)) od
 tl:(tV c fs).length<=300
 ol:(oV c fs).length<=300
 t64:∀a∈tV c fs,a.length<=64/\AltsOk 64 a
structure POk(c:Cat)(fs:List Fac)(p:Part):Prop where
 tl:p.ts.length=(tV c fs).length
 ol:p.own.length=(oV c fs).length
 t:∀(i:Nat) a,p.ts[i]? =some a->a= []\/a∈(tV c fs).getD i []
 o:∀s∈p.own,s= []\/∃x∈c.ls,x.name=s
section
variable{c:Cat}{fs:List Fac}{ca cb ce cp x td od:D}
def Ev(a:List (List Trm))(h:Heap):o5 prog 44 (Py a) h=some (.int .i64 a.length):=by
 have:=tA (l:=a.map mkA) (yg.mk .no) h
 rwa [zH]at this
def TK(S:SpD c fs ca cb ce cp x td od)(v:Nat)(g:Heap):zE prog 92 [.iptr [ca,cb,ce,cp,x,td,od] 0,.int .i64 (v:Int)] g λr h'=>h'=g/\r=.int .i64 (szV c fs v:Int):=by
 have k:=jt S.t;obtain⟨_,_,_,_,e,d,_,_,_⟩:=S.cat;cases e;have h:=rV d;have i:=Ev;by_cases a:v<(tV c fs).length
 .have f:decide ((v:Int)<((tV c fs).length:Int))=true:=zR ow
  have b:szV c fs v=(tV c fs)[v].length:=by unfold szV;rw[ip a,zC,zB a];rfl
  have j:=U8 S.t a;rw[b];refine zo zNA ?_;simp only[f92,zA];exact au
 .have f:decide ((v:Int)<((tV c fs).length:Int))=false:=zO ow
  have b:szV c fs v=c.ls.length:=by unfold szV;rw[iq a]
  rw[b];refine zo zNA ?_;simp only[f92,zA];exact au
def TJ(S:SpD c fs ca cb ce cp x td od)(g:Heap):zE prog 150 [.iptr [ca,cb,ce,cp,x,td,od] 0] g λr h'=>h'=g/\r=.int .i64 (ctV c fs:Int):=by
 have b:=jt S.t;have a:=wU S.o;have d:IntKind.i64.wrap (((tV c fs).length:Int)+((oV c fs).length:Int))=(ctV c fs:Int):=by unfold ctV;have:=S.tl;have:=S.ol;rw[qJ ow ow];omega
 refine zo zG6 ?_;simp only[f150,zA];simp only[go_sem, *];refine yF kr ?_;exact au
variable{p:Part}
def Vz(S:SpD c fs ca cb ce cp x td od)(e:POk c fs p){v:Nat}(o:v<ctV c fs)(g:Heap):zE prog 151 [.iptr [ca,cb,ce,cp,x,td,od] 0,.agg [tsD p,owD p],.int .i64 (v:Int)] g λr h'=>h'=g/\r=.bool (deV c fs p v):=by
 have s:=jt S.t;have n:=e.tl;have m:=e.ol;unfold ctV at o;have s1:=S.tl;have s2:=S.ol;by_cases b:v<(tV c fs).length
 .have j:decide ((v:Int)<((tV c fs).length:Int))=true:=zR ow
  have a:v<p.ts.length:=by rw[e.tl];exact b
  have f:deV c fs p v=decide (((p.ts[v]).length:Int)>0):=by
   unfold deV;rw[ip b,zC,zB a];simp
  have h:=oc (l:=p.ts.map kJ) (d:=tsD p) (yg.mk .no) (i:=v) (by rw[zH];exact a);rw[uY]at h;have k:=ua (J3 p.ts[v]);rw[f];generalize(kJ p.ts[v]).d=q at *
  generalize p.ts[v]=t at *
  refine zo zBv ?_;simp only[f151,zA];exact au
 .have j:decide ((v:Int)<((tV c fs).length:Int))=false:=zO ow
  have a:v- (tV c fs).length<p.own.length:=by rw[e.ol];omega
  have f:deV c fs p v= !((p.own[v- (tV c fs).length])== []):=by
   unfold deV;rw[iq b,zC,zB a];rfl
  have h:=sw (l:=p.own) (d:=owD p) (yg.mk .no) a;have u:IntKind.i64.wrap ((v:Int)- ((tV c fs).length:Int))=((v- (tV c fs).length:Nat):Int):=by rw[qJ ow ow];omega
  rw[f];generalize p.own[v- (tV c fs).length]=t at *
  refine zo zBv ?_;simp only[f151,zA];simp only[go_sem, *];refine yF kr ?_;exact au
def zAl(S:SpD c fs ca cb ce cp x td od)(F:POk c fs p)(g:Heap):zE prog 91 [.iptr [ca,cb,ce,cp,x,td,od] 0,.agg [tsD p,owD p]] g λr h'=>h'=g/\r=(match nxV c fs p with
  |none=>.tuple [.int .i64 0,.bool false]
  |some v=>.tuple [.int .i64 (v:Int),.bool true]):=by
 have m:=TJ S;have y:=TK S;have n:=λv G=>Vz S F (v:=v) G;have I:ctV c fs<=600:=by unfold ctV;have:=S.tl;have:=S.ol;omega
 refine xP λQ k=> ?_;refine zo zPY ?_;simp only[f91,zA]
 repeat' first|simp only[go_sem, *]|apply bc<;>intro l|(refine zE.mono (m _) ?_;rintro r h ⟨a,rfl⟩)
 subst a
 rename Heap=>g
 refine zZ (λi fr h=>fr 0=.iptr [ca,cb,ce,cp,x,td,od] 0/\fr 3=.iptr [tsD p,owD p] 0/\fr 8=.int .i64 (ctV c fs:Int)/\fr 9=.int .i64 (i:Int)/\h=g/\∀j,j<i->pL c fs p j=false) (ctV c fs) ow ?_ ?_ ?_
 .clear k
  simp only[go_sem,zQ,zT,zG];exact λj b=>by omega
 .rintro i fr h e A H ⟨B,C,D,E,a,b⟩
  subst a;have w:=y i;have f:=n i e;have d:decide ((szV c fs i:Int)>1)=decide (1<szV c fs i):=by
   by_cases q:1<szV c fs i
   .rw[zR q];exact zR ow
   .rw[zO q];exact zO ow
  have u:pL c fs p i=(decide (1<szV c fs i)&& !(deV c fs p i)):=rfl;cases o1:decide (1<szV c fs i)with
  |false=>
   have t:∀j,j<i+1->pL c fs p j=false:=λj h=>by
    rcases zx.1 h with q|rfl
    .exact b j q
    .rw[u,o1];rfl
   rw[o1]at d
   repeat' first|simp only[go_sem, *]|apply bc<;>intro l|(refine zE.mono (w _) ?_;rintro r h ⟨a,rfl⟩)
   exact t
  |true=>
  rw[o1]at d;cases o2:deV c fs p i with
  |true=>
   have t:∀j,j<i+1->pL c fs p j=false:=λj h=>by
    rcases zx.1 h with q|rfl
    .exact b j q
    .rw[u,o1,o2];rfl
   rw[o2]at f
   repeat' first|simp only[go_sem, *]|apply bc<;>intro l|(refine zE.mono (w _) ?_;rintro r h ⟨a,rfl⟩)|(refine zE.mono (f _) ?_;rintro r h ⟨a,rfl⟩)
   exact t
  |false=>
   have z:nxV c fs p=some i:=by
    unfold nxV;rw[sn];refine⟨by rw[u,o1,o2];rfl,i,by simpa using e,jS,λj s=> ?_⟩;simp[b j s]
   rw[o2]at f;have a:=k (.tuple [.int .i64 (i:Int),.bool true]) h ⟨rfl,by rw[z]⟩
   repeat' first|simp only[go_sem, *]|apply bc<;>intro l|(refine zE.mono (w _) ?_;rintro r h ⟨a,rfl⟩)|(refine zE.mono (f _) ?_;rintro r h ⟨a,rfl⟩)
 .rintro fr h A ⟨B,C,D,E,a,b⟩
  subst a;have z:nxV c fs p=none:=by
   unfold nxV;rw[lq];intro j o;rw[b j (yn.1 o)];exact zV
  have a:=k (.tuple [.int .i64 0,.bool false]) h ⟨rfl,by rw[z]⟩;exact au
end
def SlN(h:Heap)(N:Nat)(cs:List D)(n:Nat)(d:D):Prop:=(n=0/\d=.sl 1 [] .full)\/(n≠0/\d=.rs N 1 0 n/\h.at' N=some (.row cs))
def CN(h:Heap)(cs:List D)(n:Nat)(r:D)(h':Heap):Prop:=SlN h' h.next cs n r/\Ext h h'/\(n=0\/h.next<h'.next)
def SlN.flat{N:Nat}(s:SlN h N cs n d):d.flat=true:=by
 rcases s with⟨_,rfl⟩ | ⟨_,rfl,_⟩ <;>rfl
def SlN.set{N i:Nat}(s:SlN h N cs n d)(a:i≠N)(o:Obj):SlN (h.set i o) N cs n d:=by grind [zW,SlN]
def zPz{a b o l:Nat}{c f:List D}{w y:D}{xa xb:List (List D)}(r:Ext g h)(E:SlN h a c o w)(K:SlN h b f l y)(t:a≠b)(A:g.next<=a)(B:g.next<=b)
  (M:∀x∈xa,wl x) (N:∀x∈xb,wl x) (L:∀x∈xa,x.length=1) (G:∀x∈xb,x.length=1) (C:xa.length=o) (v:xb.length=l) (I:c=xa.flatten) (z:f=xb.flatten)
  {Q R:D->Heap->Prop} (J:∀d h',Ext g h'->below g.next (qC d)->qC d=.agg [.sl 1 xa .no,.sl 1 xb .no]->Q d h') (s:∀d h',Q d h'\/(∃id cs,h'.at' id=some (.row cs)/\Q (frz id cs d) (h'.del id))->R d h'):
  R (.agg [w,y]) h\/∃id cs,h.at' id=some (.row cs)/\R (frz id cs (.agg [w,y])) (h.del id):=by
 have H:=λtk=>yh (sz:=1) M tk;have O:=λtk=>yh (sz:=1) N tk;have j:∀h' tk i,Ext g h'->Q (.agg [.sl 1 xa tk,.sl 1 xb i]) h':=λh' tk i e=>by
  have e2:qC (.agg [.sl 1 xa tk,.sl 1 xb i])=.agg [.sl 1 xa .no,.sl 1 xb .no]:=by
   show D.agg [qC _,qC _]=_
   grind
  refine J _ _ e ?_ e2;rw[e2];exact⟨yw (yD _) _ (H tk).2,yw (yD _) _ (O i).2,trivial⟩
 have F:∀{xs:List (List D)}{n:Nat},xs.length=n->n=0->xs= []:=by grind
 rcases K with⟨q,rfl⟩ | ⟨q,rfl,m⟩
 .have u:=F v q
  subst u;rcases E with⟨p,rfl⟩ | ⟨p,rfl,k⟩
  .grind
  .refine .inl (s _ _ (.inr ⟨a,_,k,?_⟩))
   show Q (.agg [frz a c (.rs a 1 0 o),frz a c (.sl 1 [] .full)]) _;rw[Yb L C I];exact j _ _ _ (r.del A)
 .rcases E with⟨p,rfl⟩ | ⟨p,rfl,k⟩
  .have u:=F C p
   subst u;refine .inl (s _ _ (.inr ⟨b,_,m,?_⟩));show Q (.agg [frz b f (.sl 1 [] .full),frz b f (.rs b 1 0 l)]) _;rw[Yb G v z];exact j _ _ _ (r.del B)
  .refine .inr ⟨a,_,k,s _ _ (.inr ⟨b,_,by rw[wQ (gq t)];exact m,?_⟩)⟩
   have e1:frz a c (.agg [.rs a 1 0 o,.rs b 1 0 l])=.agg [.sl 1 xa .no,.rs b 1 0 l]:=by
    show D.agg [frz a c (.rs a 1 0 o),frz a c (.rs b 1 0 l)]=_
    grind [Yb,frz]
   rw[e1];show Q (.agg [frz b f (.sl 1 xa .no),frz b f (.rs b 1 0 l)]) _;rw[Yb G v z,dX _ _ _ (H .no).2];exact j _ _ _ ((r.del A).del B)
noncomputable def I0:Cfg:=⟨λt=>List.contains (α:=Nat) [7] t,λi=>(UH (α:=List (Nat×Fl)) [] i).getD []⟩
def zPD(t:Tmp):I0.mu t=List.contains [7] t:=(rfl)
def zNB:PC prog I0 f152=true:=kr
def zNC:PC prog I0 f133=true:=kr
def CN.new(a:n≠0):CN h cs n (.rs h.next 1 0 n) (h.new h.next (.row cs)):=⟨.inr ⟨a,rfl,z5 _ _ _⟩,(Ext.refl h).new (zD _) _,.inr (by rw[za];omega)⟩
def CN.zero(h:Heap)(cs:List D):CN h cs 0 (.sl 1 [] .full) h:=⟨.inl ⟨rfl,rfl⟩,Ext.refl h,.inl rfl⟩
def Um(l:List (List UInt8)):(wh l).flatten=l.map D.str:=by
 induction l with
 |nil=>rfl
 |cons x l a=>simp only[wh,qV,yH]at a⊢;rw[a];rfl
def IE{l:List Alt}(j:l.length<=1048576)(h:Heap):zE prog 152 [.sl 1 (qe l) tk] h (CN h (l.map Alt.d) l.length):=by
 refine xP λQ c=> ?_;have a:(qe l).length=l.length:=zH ..;have f:jR prog .eql 44 true (.sl 1 (qe l) tk) .nilsl=some (.bool false):=by rw[uj (yg.mk tk) underlying44];rfl
 have i:=λnid h=>wa (P:=prog) (nid:=nid) (h:=h) uS dF uZ rfl rfl (by omega:0<1);have b:∃r h',qg prog true h.next 44 (.sl 1 [] .full) (.sl 1 (qe l) tk) h=some (r,h')/\CN h (l.map Alt.d) l.length r h':=by
  rw[oz uS pw uZ ow (sv l) (by rw[tS,a];unfold lim;omega) (by rw[a];unfold lim;omega),a,oY,Wu underlying195];by_cases q:l.length=0
  .rw[ip q,q];exact⟨_,_,rfl,CN.zero _ _⟩
  .rw[iq q];exact⟨_,_,rfl,CN.new q⟩
 obtain⟨r,h',b,e⟩:=b;have hf:=c _ _ e;refine xO mix func152 zNB rfl rfl ?_;simp only[f152,zA];simp only[t6,go_sem,zPD,f,i,b,hf]
def II{l:List (List UInt8)}(j:l.length<=1048576)(h:Heap):zE prog 133 [.sl 1 (wh l) tk] h (CN h (l.map D.str) l.length):=by
 refine xP λQ c=> ?_;have a:=qv l;have e:jR prog .eql 45 true (.sl 1 (wh l) tk) .nilsl=some (.bool false):=by rw[uj (yg.mk tk) underlying45];rfl
 have i:=λnid h=>wa (P:=prog) (nid:=nid) (h:=h) uI dG p9 rfl rfl (by omega:0<1);have b:∃r h',qg prog true h.next 45 (.sl 1 [] .full) (.sl 1 (wh l) tk) h=some (r,h')/\CN h (l.map D.str) l.length r h':=by
  rw[oz uI ZR p9 ow (λx f=>by obtain⟨s,_,rfl⟩:=zN.1 f;rfl) (by rw[oo,a];unfold lim;omega) (by rw[a];unfold lim;omega),a,Um,show oH prog 9 (l.map D.str)=.row (l.map D.str) by simp[oH,underlying9]];by_cases q:l.length=0
  .rw[ip q,q];exact⟨_,_,rfl,CN.zero _ _⟩
  .rw[iq q];exact⟨_,_,rfl,CN.new q⟩
 obtain⟨r,h',b,d⟩:=b;have hf:=c _ _ d;refine xO mix func133 zNC rfl rfl ?_;simp only[f133,zA];simp only[t6,go_sem,zPD,e,i,b,hf]
abbrev tsK(p:Part)(tk:Tk):D:=.sl 1 (qe (p.ts.map kJ)) tk
abbrev owK(p:Part)(tk:Tk):D:=.sl 1 (wh p.own) tk
variable{c:Cat}{fs:List Fac}{x:D}
def df(a:k<c.ls.length):(c.ls.map Lic.name).getD k []=c.ls[k].name:=by grind
def zAF{t:List Trm}(h:t≠[]):kJ t=mkA t:=by
 cases t
 .exact absurd rfl h
 .rfl
section
variable{c:Cat}{fs:List Fac}{ca cb ce cp x td od:D}
variable{p:Part}
theorem Xs{t1 t2:Tk}(S:SpD c fs ca cb ce cp x td od)(hp:POk c fs p){v k:Nat}(hv:v<ctV c fs)(hk:k<szV c fs v)(g:Heap):zE prog 93 [.iptr [ca,cb,ce,cp,x,td,od] 0,.agg [tsK p t1,owK p t2],.int .i64 (v:Int),.int .i64 (k:Int)] g λr h'=>h'=g/\r=.agg [tsD (pY c fs p v k),owD (pY c fs p v k)]:=by
 refine xU kr λb6=>xS (zE.freezeOr (zE.freezeOr ?_));refine xP λR hR=> ?_;have E:∀(h:Heap) a b nA nB Y Z j z,Ext g h->SlN h a Y nA j->SlN h b Z nB z->a≠b->g.next<=a->g.next<=b->(pY c fs p v k).ts.length=nA->(pY c fs p v k).own.length=nB->Y=((pY c fs p v k).ts.map kJ).map Alt.d->Z=(pY c fs p v k).own.map D.str->R (.agg [j,z]) h:=λh a b nA nB Y Z j z hE mA mB bs ha hb lA lB cA cB=>by
  refine hR _ _ (zPz (Q:=λd h'=>Ext g h'/\below g.next (qC d)/\qC d=.agg [tsD (pY c fs p v k),owD (pY c fs p v k)]) (xa:=qe ((pY c fs p v k).ts.map kJ)) (xb:=wh (pY c fs p v k).own) hE mA mB bs ha hb (λx hx=> ?_) uh (sv _) (λx hx=> ?_) (by rw[qB,zH,lA]) (by rw[qv,lB]) (by rw[oY,cA]) (by rw[Um,cB]) (λd h' q1 q2 q3=>⟨q1,q2,q3⟩) (λd h' q=>q))
  .obtain⟨a,ha,rfl⟩:=zN.1 hx
   obtain⟨t,_,rfl⟩:=zN.1 ha;exact dH t
  .obtain⟨s,_,rfl⟩:=zN.1 hx;rfl
 have hl:=jt S.t;have b2:∀a b:D,yQ true 2 [a,b] 0=some (.agg [a,b]):=λa b=>zJ rfl ow;have X:=IE (l:=p.ts.map kJ) (tk:=t1) (by rw[zH,hp.tl];have:=S.tl;omega);have ai:=II (l:=p.own) (tk:=t2) (by rw[hp.ol];have:=S.ol;omega);rw[zH]at X;obtain⟨G,hG,g5,g8,hE,bb⟩:∃G:Heap,(g.new g.next (.row [tsK p t1,owK p t2])).new (g.next+1) (.row [.nilsl,.nilsl])=G/\G.at' g.next=some (.row [tsK p t1,owK p t2])/\G.at' (g.next+1)=some (.row [.nilsl,.nilsl])/\Ext g G/\G.next=g.next+2:=
  ⟨_,rfl,by rw[zg ow,z5],z5 _ _ _,((Ext.refl g).new (zD _) _).new ow _,qQ _ (by rw[za];exact zD _) _⟩
 have b1:(g.new g.next (.row [tsK p t1,owK p t2])).next=g.next+1:=za _ _;have a7:∀h,HLe Heap.emp h:=λh i ob e=>by cases e
 clear hR;have cg:v<(tV c fs).length+(oV c fs).length:=hv;have z1:=S.tl;have z2:=S.ol;generalize cf:g.next=f at *
 have a5:HLe (Heap.one f (.row [tsK p t1,owK p t2])) G:=by rw[lH];exact g5
 refine zo zPZ ?_;simp only[f93,zA]
 repeat' first|simp only[go_sem, *]|apply bc<;>intro
 refine yp (Heap.one f (.row [tsK p t1,owK p t2])) (pwt [0,1,3] ((4,.st,true)::(pwt [2,6,5] (pwf [7,8,9] [])))) kr kr a5 ?_
 repeat' first|simp only[go_sem,jJ, *]|apply bc<;>intro
 refine(X _).mono ?_;rintro j V ⟨mA,e1,k1⟩;have b0:HLe (Heap.one f (.row [tsK p t1,owK p t2])) V:=by rw[lH,e1.2 _ ow];exact g5
 have fA:=mA.flat;have b5:V.at' f=some (.row [tsK p t1,owK p t2]):=by rw[e1.2 _ ow];exact g5
 have b8:V.at' (f+1)=some (.row [.nilsl,.nilsl]):=by rw[e1.2 _ ow];exact g8
 clear X a5
 repeat' first|simp only[go_sem,jJ, *]|apply bc<;>intro
 refine(ai _).mono ?_;rintro z I ⟨mB,e2,k2⟩;have cc:HLe (Heap.one f (.row [tsK p t1,owK p t2])) I:=by rw[lH,e2.2 _ (by have:=e1.1;omega)];exact b5
 have fB:=mB.flat;have d5:I.at' f=some (.row [tsK p t1,owK p t2]):=by rw[e2.2 _ (by have:=e1.1;omega)];exact b5
 have d8:I.at' (f+1)=some (.row [.nilsl,.nilsl]):=by rw[e2.2 _ (by have:=e1.1;omega)];exact b8
 have cA:j.cells= [j]:=by rcases mA with⟨_,rfl⟩ | ⟨_,rfl,_⟩ <;>rfl
 have cB:z.cells= [z]:=by rcases mB with⟨_,rfl⟩ | ⟨_,rfl,_⟩ <;>rfl
 have ch:yR prog 44 (.ptr f 0) j I=some (I.set f (.row [j,owK p t2])):=by rw[yM d5 ax jS cA fA];rfl
 have b3:yR prog 45 (.ptr f 1) z (I.set f (.row [j,owK p t2]))=some (I.set f (.row [j,z])):=by rw[yM (zU _ _ _) KD jS cB fB,nU];rfl
 clear ai b0;have aj:Ext g I:=(hE.trans e1).trans e2;have bk:f+2<=G.next:=ow;have b9:G.next<=V.next:=e1.1;have bo:V.next<=I.next:=e2.1;clear hG bb b1 e1 b5 b8 g5 g8;have gK:∀i,f<=i->∀o,Ext g (I.set f o):=λi hi o=>aj.set ow _;have hK:=λo=>gK f (zD _) o;clear gK;obtain⟨C,ak,q5,q8,qE,qk⟩:∃C,I.set f (.row [j,z])=C/\C.at' f=some (.row [j,z])/\C.at' (f+1)=some (.row [.nilsl,.nilsl])/\Ext g C/\∀i,i≠f->C.at' i=I.at' i:=
  ⟨_,rfl,zU _ _ _,by rw[zW ow];exact d8,hK _,λi hi=>zW hi⟩
 have a6:HLe (Heap.one f (.row [j,z])) C:=by rw[lH];exact q5
 rw[ak]at b3;have N:SlN C G.next (List.map Alt.d (List.map kJ p.ts)) p.ts.length j:=by
  rcases mA with s| ⟨s1,s2,s3⟩
  .exact .inl s
  .exact .inr ⟨s1,s2,by rw[qk _ ow,e2.2 _ (k1.resolve_left s1)];exact s3⟩
 have T:SlN C V.next (List.map D.str p.own) p.own.length z:=by
  rcases mB with s| ⟨s1,s2,s3⟩
  .exact .inl s
  .exact .inr ⟨s1,s2,by rw[qk _ ow];exact s3⟩
 have J:p.ts.length=0\/G.next≠V.next:=by
  rcases k1 with s|s
  .exact .inl s
  .exact .inr ow
 generalize G.next=A at *
 generalize V.next=m at *
 clear mA mB ak hK d8 d5 qk k1 k2 e2 bo hE aj;have b7:=b2;have U:∀H,H.at' (f+1)=some (.row [.nilsl,.nilsl])->yR prog 47 (.ptr (f+1) 0) (.agg [j,z]) H=some (H.set (f+1) (.row [j,z])):=λH h=>qh h ay rfl jS (by simp[fA,fB]);by_cases w:v<(tV c fs).length
 .have hd:decide ((v:Int)<((tV c fs).length:Int))=true:=zR ow
  have M:v<p.ts.length:=by rw[hp.tl];exact w
  have F:p.ts.length≠0:=ow;obtain⟨_,rfl,a8⟩:=N.resolve_left λq=>F q.1;have W:=J.resolve_left F;have B:k<(tV c fs)[v].length:=by
   unfold szV at hk
   rwa [ip w,zC,zB w]at hk
  have L:pY c fs p v k= ⟨p.ts.set v ((tV c fs)[v])[k],p.own⟩:=by
   unfold pY;rw[ip w,zC,zC,zB w,zA,zB B];rfl
  have a1:=U8 S.t w;have a2:=oc (l:=(tV c fs)[v].map mkA) (d:=Py (tV c fs)[v]) (yg.mk .no) (i:=k) (by rw[zH];exact B);rw[uY]at a2;have ad:=(S.t64 _ (zI w)).2.ts _ (zI B);have bx:=IJ ad.1 ow;have ht:=zAF ad.1;rw[L]at E;generalize((tV c fs)[v])[k]=t at *
  generalize(tV c fs)[v]=tv at *
  have a3:yj prog 44 (.rs A 1 0 p.ts.length) (.int .i64 (v:Int))=some (.ptr A v):=by
   have:=qG (P:=prog) (sz:=1) (id:=A) uS uZ (k:=.i64) M
   rwa [wF]at this
  have ag:yR prog 195 (.ptr A v) (mkA t).d C=some (C.set A (.row ((List.map Alt.d (List.map kJ p.ts)).set v (mkA t).d))):=yM a8 uZ (by simp[M]) rfl rfl;obtain⟨n,K,r5,r8,rE,rN,O⟩:∃n,C.set A (.row ((List.map Alt.d (List.map kJ p.ts)).set v (mkA t).d))=n/\n.at' f=some (.row [.rs A 1 0 p.ts.length,z])/\n.at' (f+1)=some (.row [.nilsl,.nilsl])/\Ext g n/\SlN n A ((List.map Alt.d (List.map kJ p.ts)).set v (mkA t).d) p.ts.length (.rs A 1 0 p.ts.length)/\SlN n m (List.map D.str p.own) p.own.length z:=
   ⟨_,rfl,by rw[zW ow];exact q5,by rw[zW ow];exact q8,qE.set ow _,.inr ⟨F,rfl,zU _ _ _⟩,T.set W _⟩
  rw[K]at ag;have U:=U n r8;have a4:R (.agg [.rs A 1 0 p.ts.length,z]) (n.set (f+1) (.row [.rs A 1 0 p.ts.length,z])):=E _ A m _ _ _ _ _ _ (rE.set ow _) (rN.set ow _) (O.set ow _) W ow ow jS rfl (by rw[tN,tN,ht]) rfl;clear E N T a8 rE rN O K ht ad J qE a7 hk B L
  repeat' first|simp only[go_sem,jJ, *]|apply bc<;>intro
  refine yp (Heap.one f (.row [.rs A 1 0 p.ts.length,z])) (pwt [0] ((1,.st,true)::(pwt [2,3,4,5,6,7,8,9,10,11,12,13,14] (pwf [15] [])))) kr kr a6 ?_
  repeat' first|simp only[go_sem,jJ,zU, *]|apply bc<;>intro hc|(refine zE.mono (bx _) ?_;rintro r h ⟨hq,rfl⟩)
 .have hd:decide ((v:Int)<((tV c fs).length:Int))=false:=zO ow
  have M:v- (tV c fs).length<p.own.length:=by rw[hp.ol];omega
  have F:p.own.length≠0:=ow;obtain⟨_,rfl,a9⟩:=T.resolve_left λq=>F q.1;have B:k<c.ls.length:=by
   unfold szV at hk
   rwa [iq w]at hk
  have L:pY c fs p v k= ⟨p.ts,p.own.set (v- (tV c fs).length) c.ls[k].name⟩:=by
   unfold pY;rw[iq w,df B]
  obtain⟨_,_,_,_,e,ha,_,_,_⟩:=S.cat;cases e;have a1:=p0 ha B;rw[L]at E;generalize c.ls[k]=y at *
  simp only[Lic.cells]at a1;have hw:IntKind.i64.wrap ((v:Int)- ((tV c fs).length:Int))=((v- (tV c fs).length:Nat):Int):=by rw[qJ ow ow];omega
  generalize v- (tV c fs).length=u at *
  have a3:yj prog 45 (.rs m 1 0 p.own.length) (.int .i64 (u:Int))=some (.ptr m u):=by
   have:=qG (P:=prog) (sz:=1) (id:=m) uI p9 (k:=.i64) M
   rwa [wF]at this
  have ag:yR prog 9 (.ptr m u) (.str y.name) C=some (C.set m (.row ((List.map D.str p.own).set u (.str y.name)))):=yM a9 p9 (by simp[M]) rfl rfl;have ba:∀o,SlN (C.set m o) (if p.ts.length=0 then m+1 else A) (List.map Alt.d (List.map kJ p.ts)) p.ts.length j:=λo=>by
   by_cases q:p.ts.length=0
   .rcases N with s|s
    .exact .inl s
    .exact absurd q s.1
   .rw[iq q]
    exact N.set (gq (J.resolve_left q)) _
  have au:(if p.ts.length=0 then m+1 else A)≠m/\f+2<=(if p.ts.length=0 then m+1 else A):=by
   by_cases q:p.ts.length=0
   .rw[ip q];omega
   .rw[iq q];exact⟨J.resolve_left q,bk⟩
  generalize(if p.ts.length=0 then m+1 else A)=NC at *
  obtain⟨a0,b4⟩:=au;obtain⟨n,K,r5,r8,rE,rN,O⟩:∃n,C.set m (.row ((List.map D.str p.own).set u (.str y.name)))=n/\n.at' f=some (.row [j,.rs m 1 0 p.own.length])/\n.at' (f+1)=some (.row [.nilsl,.nilsl])/\Ext g n/\SlN n m ((List.map D.str p.own).set u (.str y.name)) p.own.length (.rs m 1 0 p.own.length)/\SlN n NC (List.map Alt.d (List.map kJ p.ts)) p.ts.length j:=
   ⟨_,rfl,by rw[zW ow];exact q5,by rw[zW ow];exact q8,qE.set ow _,.inr ⟨F,rfl,zU _ _ _⟩,ba _⟩
  rw[K]at ag;have U:=U n r8;have a4:R (.agg [j,.rs m 1 0 p.own.length]) (n.set (f+1) (.row [j,.rs m 1 0 p.own.length])):=E _ NC m _ _ _ _ _ _ (rE.set ow _) (O.set ow _) (rN.set ow _) a0 ow ow rfl jS rfl (by rw[tN]);clear E N T ba a9 rE rN O K J qE a7 hk B L
  repeat' first|simp only[go_sem,jJ, *]|apply bc<;>intro
  refine yp (Heap.one f (.row [j,.rs m 1 0 p.own.length])) (pwf [0,1,2,3,4,5,6,7,8,9,10,11,12,13,14,15,16,17,18,19] []) kr kr a6 ?_
  repeat' first|simp only[go_sem,jJ,zU, *]|apply bc<;>intro
end
def wm(c:Cat)(fs:List Fac):Nat->Part
 |0=>⟨List.replicate (tV c fs).length [],List.replicate (oV c fs).length []⟩
 |n+1=>if szV c fs n=1 then pY c fs (wm c fs n) n 0 else wm c fs n
def o6(c:Cat)(fs:List Fac):Part:=wm c fs (ctV c fs)
variable{c:Cat}{fs:List Fac}{p:Part}{x:D}
def POk.dec(b:POk c fs p){v k:Nat}(d:k<szV c fs v):POk c fs (pY c fs p v k):=by
 unfold pY;unfold szV at d;by_cases e:v<(tV c fs).length
 .rw[ip e]at d⊢
  refine⟨by simp[b.tl],b.ol,λi a h=> ?_,b.o⟩;rw[pI]at h;split at h
  .rename_i q
   subst q;split at h
   .cases h
    refine .inr ?_;rw[zC (l:=(tV c fs).getD v []),zB d];exact zI _
   .cases h
  .exact b.t i a h
 .rw[iq e]at d⊢
  refine⟨b.tl,by simp[b.ol],b.t,λs f=> ?_⟩;rcases sO f with h|rfl
  .exact b.o s h
  .rw[df d]
   exact .inr ⟨_,zI _,rfl⟩
theorem tj(c:Cat)(fs:List Fac):∀n,POk c fs (wm c fs n)
 |0=>⟨by simp[wm],by simp[wm],λi a h=>.inl (by
   have:=zj h;simp[wm]at this;exact this.2),λs h=>.inl (by simp[wm]at h;exact h.2)⟩
 |n+1=>by
  rw[wm];split
  .rename_i h
   exact(tj c fs n).dec ow
  .exact tj c fs n
section
variable{c:Cat}{fs:List Fac}{ca cb ce cp x td od:D}
theorem Im(S:SpD c fs ca cb ce cp x td od)(g:Heap):zE prog 94 [.iptr [ca,cb,ce,cp,x,td,od] 0] g λr h'=>h'=g/\r=.agg [tsD (o6 c fs),owD (o6 c fs)]:=by
 refine xU kr λV=>xS ?_;refine xP λR T=> ?_;have N:=tj c fs;have j:∀(h:Heap) k1 k2,Ext g h->R (.agg [tsK (o6 c fs) k1,owK (o6 c fs) k2]) h:=λh k1 k2 m=>by
  have Z:=yh (sz:=1) (xs:=qe ((o6 c fs).ts.map kJ)) (λx hx=>by
   obtain⟨a,J,rfl⟩:=zN.1 hx;obtain⟨t,_,rfl⟩:=zN.1 J;exact dH t)
  have sB:=yh (sz:=1) (xs:=wh (o6 c fs).own) uh;have e2:qC (.agg [tsK (o6 c fs) k1,owK (o6 c fs) k2])=.agg [tsD (o6 c fs),owD (o6 c fs)]:=by
   show D.agg [qC _,qC _]=_;rw[(Z k1).1,(sB k2).1]
  refine T _ _ ⟨m,?_,e2⟩;rw[e2];exact⟨yw (yD _) _ (Z k1).2,yw (yD _) _ (sB k2).2,trivial⟩
 have hl:=jt S.t;have ag:=wU S.o;have z1:=S.tl;have z2:=S.ol;have K:=TJ S;have u:=TK S;have n:=λ{k1 k2} i hi hk=>Xs (t1:=k1) (t2:=k2) S (N i) (v:=i) (k:=0) hi hk;have p:∀nid H,uk prog false nid 44 (.int .i64 ((tV c fs).length:Int)) (.int .i64 ((tV c fs).length:Int)) H=some (.sl 1 (List.replicate (tV c fs).length [.nilsl]) .full,H):=λnid H=>by
  simp only[uk,uS,dF,uZ,wE,tS];rw[ip (by simp[D.notTuple,D.cells];unfold lim;omega)];rfl
 have s:∀nid H,uk prog false nid 45 (.int .i64 ((oV c fs).length:Int)) (.int .i64 ((oV c fs).length:Int)) H=some (.sl 1 (List.replicate (oV c fs).length [.str []]) .full,H):=λnid H=>by
  simp only[uk,uI,dG,p9,wE,oo];rw[ip (by simp[D.notTuple,D.cells];unfold lim;omega)];rfl
 have X:D.sl 1 (List.replicate (tV c fs).length [.nilsl]) .full=tsK (wm c fs 0) .full:=by simp[tsK,wm,qe,kJ,zGi]
 have Y:D.sl 1 (List.replicate (oV c fs).length [.str []]) .full=owK (wm c fs 0) .full:=by simp[owK,wm,wh]
 rw[X]at p;rw[Y]at s;have ak:∀a b:Tk,qX prog 47 [(0,tsK (wm c fs 0) a),(1,owK (wm c fs 0) b)]=some (.agg [tsK (wm c fs 0) a,owK (wm c fs 0) b]):=λa b=>by simp[qX,JR,KW,uc,wg,D.notTuple,D.cells]
 have U:ctV c fs<=600:=by unfold ctV;omega
 have d:∀(H:Heap) id a b O b',H.at' id=some (.row [O,b'])->a.flat=true->b.flat=true->yR prog 47 (.ptr id 0) (.agg [a,b]) H=some (H.set id (.row [a,b])):=λH id a b O b' h J U=>qh h ay rfl jS (by simp[J,U]);obtain⟨G,P,y,w,m,ad⟩:∃G:Heap,((g.new g.next (.row [.nilsl,.nilsl])).new (g.next+1) (.row [.nilsl,.nilsl])).set (g.next+1) (.row [tsK (wm c fs 0) .full,owK (wm c fs 0) .full])=G/\G.at' g.next=some (.row [.nilsl,.nilsl])/\G.at' (g.next+1)=some (.row [tsK (wm c fs 0) .full,owK (wm c fs 0) .full])/\Ext g G/\G.next=g.next+2:=
  ⟨_,rfl,by rw[zW ow,zg ow,z5],zU _ _ _,(((Ext.refl g).new (zD _) _).new ow _).set ow _,by rw[yc];exact qQ _ (by rw[za];exact zD _) _⟩
 have A:=d ((g.new g.next (.row [.nilsl,.nilsl])).new (g.next+1) (.row [.nilsl,.nilsl])) (g.next+1) (tsK (wm c fs 0) .full) (owK (wm c fs 0) .full) _ _ (z5 _ _ _) rfl rfl;rw[P]at A;have aj:(g.new g.next (.row [.nilsl,.nilsl])).next=g.next+1:=za _ _;have L:∀h,HLe Heap.emp h:=λh i ob e=>by cases e
 clear T X Y P;generalize ai:g.next=l at *
 refine zo zPa ?_;simp only[f94,zA]
 repeat' first|simp only[go_sem, *]|apply bc<;>intro B
 refine yp Heap.emp (pwt [0,1,2] ((3,.st,true)::(pwt [4,5,6,7,8] ((9,.st,true)::(pwt [10,11,12,13,14] []))))) kr kr (L _) ?_
 repeat' first|simp only[go_sem, *]|apply bc<;>intro B
 refine(K _).mono ?_;rintro r H ⟨E,rfl⟩;subst E
 repeat' first|simp only[go_sem, *]|apply bc<;>intro B
 refine zZ (λi fr h=>fr 0=.iptr [ca,cb,ce,cp,x,td,od] 0/\fr 2=.ptr l 0/\fr 3=.ptr (l+1) 0/\fr 19=.int .i64 (ctV c fs:Int)/\fr 20=.int .i64 (i:Int)/\h.at' l=some (.row [.nilsl,.nilsl])/\Ext g h/\∃k1 k2,h.at' (l+1)=some (.row [tsK (wm c fs i) k1,owK (wm c fs i) k2])) (ctV c fs) ow ?_ ?_ ?_
 .clear j p s d
  simp only[go_sem,zQ,zT,zG,y];exact⟨m,_,_,w⟩
 .clear y w m A p s
  rintro i fr h M ec ew ⟨f0,f2,f3,F,I,y,m,k1,k2,w⟩;have W:=u i;have C:((szV c fs i:Int)==1)=decide (szV c fs i=1):=by
   by_cases q:szV c fs i=1
   .rw[q];rfl
   .rw[zO q,yf];omega
  have f:wm c fs (i+1)=if szV c fs i=1 then pY c fs (wm c fs i) i 0 else wm c fs i:=rfl
  by_cases q:szV c fs i=1
  .rw[zR q]at C
   rw[ip q]at f;have z:=n (k1:=k1) (k2:=k2) i M ow;rw[<-f]at z;have h0:((0:Nat):Int)=0:=rfl;rw[h0]at z;have st:=d h (l+1) (tsD (wm c fs (i+1))) (owD (wm c fs (i+1))) _ _ w rfl rfl;obtain⟨H,Q,q2,q3,qE⟩:∃H,h.set (l+1) (.row [tsD (wm c fs (i+1)),owD (wm c fs (i+1))])=H/\H.at' l=some (.row [.nilsl,.nilsl])/\(∃k1 k2,H.at' (l+1)=some (.row [tsK (wm c fs (i+1)) k1,owK (wm c fs (i+1)) k2]))/\Ext g H:=⟨_,rfl,by rw[zW ow];exact y,⟨.no,.no,zU _ _ _⟩,m.set ow _⟩;rw[Q]at st;clear n j u f Q h0 d q m
   repeat' first|simp only[go_sem, *]|apply bc<;>intro B|(refine zE.mono (W _) ?_;rintro r h ⟨E,rfl⟩)|(refine zE.mono (z _) ?_;rintro r h ⟨E,rfl⟩)
  .rw[zO q]at C
   rw[iq q]at f;have q3:∃k1 k2,h.at' (l+1)=some (.row [tsK (wm c fs (i+1)) k1,owK (wm c fs (i+1)) k2]):=⟨_,_,by rw[f];exact w⟩;clear n j u d f w
   repeat' first|simp only[go_sem, *]|apply bc<;>intro B|(refine zE.mono (W _) ?_;rintro r h ⟨E,rfl⟩)
 .clear y w m A p s
  rintro fr h ec ⟨f0,f2,f3,F,I,y,m,k1,k2,w⟩;have st:=d h l (tsK (wm c fs (ctV c fs)) k1) (owK (wm c fs (ctV c fs)) k2) _ _ y rfl rfl;have hf:=j (h.set l (.row [tsK (wm c fs (ctV c fs)) k1,owK (wm c fs (ctV c fs)) k2])) k1 k2 (m.set ow _);unfold o6 at hf;clear j n d u
  repeat' first|simp only[go_sem,zU, *]|apply bc<;>intro B
end
def zKW(c:Cat)(fs:List Fac)(ca cb ce cp x:D)(r:D):Prop:=(yq c fs≠0/\r=.tuple [.nilptr,.int .i64 (yq c fs)])\/(yq c fs=0/\∃td od,r=.tuple [.iptr [ca,cb,ce,cp,x,td,od] 0,.int .i64 0]/\SpD c fs ca cb ce cp x td od/\td.flat=true/\od.flat=true)
variable{c:Cat}{fs:List Fac}{x:D}
def lx(h:yq c fs=0):(yV c fs).2.2=0:=by
 unfold yq at h;split at h
 .exact h
 .rename_i q;simpa using q
def Il{ca cb ce cp x:D}(e:uL c (.agg [ca,cb,ce,cp]))(q:c.Sm)(n:yg 12 (nu fs) x)(t:Dl fs)(d:∀f∈fs,f.Ok)(g:Heap):zE prog 42 [.agg [ca,cb,ce,cp],x] g λr h'=>h'=g/\zKW c fs ca cb ce cp x r:=by
 refine xP λQ u=> ?_;have K:=t.1.2;have a:=Zb e q n ow d;have j:=TL e q n ow d;obtain⟨z,A⟩:=dx (c:=c) (l:=fs);have s:=rz (c:=c) (l:=fs);obtain⟨⟨G,H⟩,I,J⟩:=WE e;obtain⟨E,F,N⟩:=zp n;have k:∀td od:D,td.cells= [td]->od.cells= [od]->td.notTuple=true->od.notTuple=true->qX prog 163 [(0,.agg [ca,cb,ce,cp]),(1,x),(2,td),(3,od)]=some (.agg [ca,cb,ce,cp,x,td,od]):=λtd od h1 b h3 v=>by simp[qX,Ny,FK,uc,wg,QN,Yd,E,F,h1,b,h3,v]
 unfold cQ at a;cases m:(yq c fs==0)with
 |false=>
  have p:yq c fs≠0:=by simpa using m
  have i:=u (.tuple [.nilptr,.int .i64 (yq c fs)]) g ⟨rfl,.inl ⟨p,rfl⟩⟩;rw[iq (by rw[m];exact zV)]at a;refine zo zM3 ?_;simp only[f42,zA]
  repeat' first|simp only[go_sem, *]|apply bc<;>intro e|(refine zE.mono (a _) ?_;rintro r h ⟨i,rfl⟩)
 |true=>
  have h0:yq c fs=0:=by simpa using m
  have v0:=lx h0;rw[ip m]at a;rw[v0]at j;have o:∀td od,Fin 1 (Vp (tV c fs)) td->Fin 1 (wh (oV c fs)) od->Q (.tuple [.iptr [ca,cb,ce,cp,x,td,od] 0,.int .i64 0]) g:=λtd od h1 b=>u _ _ ⟨rfl,.inr ⟨h0,td,od,rfl,⟨e,q,n,t,d,v0,h1.isSl,b.isSl,by unfold tV;omega,by unfold oV;omega,s⟩,(zp h1.isSl).2.2,(zp b.isSl).2.2⟩⟩;refine zo zM3 ?_;simp only[f42,zA]
  repeat' first|simp only[go_sem, *]|apply bc<;>intro e|(refine zE.mono (a _) ?_;rintro r h ⟨i,rfl⟩)
  subst i;refine(j _).mono ?_;rintro r h ⟨i,td,od,rfl,h1,b⟩;subst i;obtain⟨w,y,L⟩:=zp h1.isSl;obtain⟨B,C,M⟩:=zp b.isSl;have k:=k td od w B y C;have i:=o td od h1 b;exact au
end Go.V
